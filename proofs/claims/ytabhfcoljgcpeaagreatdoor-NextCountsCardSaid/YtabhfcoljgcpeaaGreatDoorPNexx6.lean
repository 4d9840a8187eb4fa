-- Written by a program of this session (gprint.py) over the kit's print.
import Derived.Test.YtabhfcoljgcpeaaGreatDoorPNexx0
import Derived.Test.YtabhfcoljgcpeaaGreatDoorPNexx1
import Derived.Test.YtabhfcoljgcpeaaGreatDoorPNexx2
import Derived.Test.YtabhfcoljgcpeaaGreatDoorPNexx3
import Derived.Test.YtabhfcoljgcpeaaGreatDoorPNexx4
import Derived.Test.YtabhfcoljgcpeaaGreatDoorPNexx5
namespace Go.Proofs.YtabhfcoljgcpeaaGreatDoor.PNex
open Go.RowKit Go.Proofs.YtabhfcoljgcpeaaGreatDoorW.PrintWords Go.Proofs.YtabhfcoljgcpeaaGreatDoorW.PrintLast Go.Proofs.YtabhfcoljgcpeaaGreatDoorW.PrintMore
attribute [local go_sem] max2_int min2_int max_two min_two max_three min_three max_four min_four
set_option linter.unusedVariables false
set_option linter.unusedSimpArgs false
def next_late.j0:Nat→Int→Int→Bool→Int→Bool→Int→Bool→Int→Bool→Int→Bool→Int→Bool→Option (Int × Bool)
 | 0,_,_,_,_,_,_,_,_,_,_,_,_,_=>none
 | k+1,x1,x6,x27,x137000,x137001,x137002,x137003,x137004,x137005,x137006,x137007,x137008,x137009=>if x27=true then (some (wrap64 ((wrap64 ((wrap64 (Int.tdiv x1 60))*60))+x6),true)) else ((next_last.f x137002 x137003 (wrap64 ((wrap64 (Int.tdiv x1 60)) - 1))).bind fun bt140=>(if bt140.2=true then ((next_last.f x137000 x137001 59).bind fun bt142=>(some (wrap64 ((wrap64 (bt140.1*60))+bt142.1),true))) else (some (0,false))))
def next_late.f (k:Nat)(a0_0:Int)(a0_1:Bool)(a0_2:Int)(a0_3:Bool)(a0_4:Int)(a0_5:Bool)(a0_6:Int)(a0_7:Bool)(a0_8:Int)(a0_9:Bool)(a1:Int):Option (Int × Bool):=(next_last.f a0_0 a0_1 (Int.tmod a1 60)).bind fun bt137=>(if bt137.2=true then ((field_Has.f a0_2 a0_3 (wrap64 (Int.tdiv a1 60))).bind fun t139=>(next_late.j0 k a1 bt137.1 t139 a0_0 a0_1 a0_2 a0_3 a0_4 a0_5 a0_6 a0_7 a0_8 a0_9)) else (next_late.j0 k a1 bt137.1 false a0_0 a0_1 a0_2 a0_3 a0_4 a0_5 a0_6 a0_7 a0_8 a0_9))
set_option maxHeartbeats 8000000 in
set_option maxRecDepth 100000 in
theorem next_late.calls (k:Nat)(a0_0:Int)(a0_1:Bool)(a0_2:Int)(a0_3:Bool)(a0_4:Int)(a0_5:Bool)(a0_6:Int)(a0_7:Bool)(a0_8:Int)(a0_9:Bool)(a1:Int)(r1:Int)(r2:Bool)(w:World)(h:next_late.f k a0_0 a0_1 a0_2 a0_3 a0_4 a0_5 a0_6 a0_7 a0_8 a0_9 a1=some (r1,r2)) :
  Calls Tryz.prog 29 #[.agg #[.int .u64 a0_0,.bool a0_1,.int .u64 a0_2,.bool a0_3,.int .u64 a0_4,.bool a0_5,.int .u64 a0_6,.bool a0_7,.int .u64 a0_8,.bool a0_9],.int .i64 a1] w fun e w'=>e=.returned (.tuple #[.int .i64 r1,.bool r2])∧Below w.heap.size w w':=by
 have hu26:=Tryz.underlying26
 have hu24:=Tryz.underlying24
 have HB:=Aside0.mk (Below.refl w.heap.size w)
 have H:((next_last.f a0_0 a0_1 (Int.tmod a1 60)).bind fun bt137=>(if bt137.2=true then ((field_Has.f a0_2 a0_3 (wrap64 (Int.tdiv a1 60))).bind fun t139=>(next_late.j0 k a1 bt137.1 t139 a0_0 a0_1 a0_2 a0_3 a0_4 a0_5 a0_6 a0_7 a0_8 a0_9)) else (next_late.j0 k a1 bt137.1 false a0_0 a0_1 a0_2 a0_3 a0_4 a0_5 a0_6 a0_7 a0_8 a0_9)))=some (r1,r2):=h
 clear h
 replace H:=Option.bind_eq_some_iff.mp H
 obtain ⟨⟨t137,t138⟩,A30,H⟩ :=H
 replace H:(if t138=true then ((field_Has.f a0_2 a0_3 (wrap64 (Int.tdiv a1 60))).bind fun t139=>(next_late.j0 k a1 t137 t139 a0_0 a0_1 a0_2 a0_3 a0_4 a0_5 a0_6 a0_7 a0_8 a0_9)) else (next_late.j0 k a1 t137 false a0_0 a0_1 a0_2 a0_3 a0_4 a0_5 a0_6 a0_7 a0_8 a0_9))=some (r1,r2):=H
 have A3:=Aside0.mk A30
 clear A30
 have HC4:=Aside0.mk H
 clear H
 go_enter Tryz.func29,Tryz.ntmps29
 go_upto_region 2 with (first | ((with_reducible refine gate_dst (N:=2) rfl ?_); refine box_event ?hg (N:=2) ?hd (cs:=#[.int .u64 a0_0,.bool a0_1,.int .u64 a0_2,.bool a0_3,.int .u64 a0_4,.bool a0_5,.int .u64 a0_6,.bool a0_7,.int .u64 a0_8,.bool a0_9]) (t:=26) ?hr ?_; (case hd=>rfl); (case hg=>rfl); (case hr=>first | (go_simp; done) | (go_simp; rfl)); intro gb136 hg w5 hbox hb; have n0_:=Aside0.mk (below_step (by repeat (first | (with_reducible first | exact HB.out | apply below_alloc | apply pw_below_drewN | apply below_drew1) | exact HB.out)) hb); have n1_:=Aside0.mk (hbox); have n2_:=Aside0.mk ((by rw [hg]; exact (below_size (by repeat (first | (with_reducible first | exact HB.out | apply below_alloc | apply pw_below_drewN | apply below_drew1) | exact HB.out))):w.heap.size≤gb136)); have n3_:=Aside0.mk ((by rw [hg]; exact (below_size (by repeat (first | (with_reducible first | exact HB.out | apply below_alloc | apply pw_below_drewN | apply below_drew1) | exact HB.out))):w.heap.size≤gb136)); clear HB; have HB:=n0_; have BK136:=n1_; have GW136:=n2_; have GE136:=n3_; clear n0_ n1_ n2_ n3_; clear hb hbox hg; have hcz6_0:w5.cell? ⟨gb136,0,none⟩=some (.int .u64 a0_0):=(blk_cell BK136.out 0).trans rfl; have hcz6_1:w5.cell? ⟨gb136,1,none⟩=some (.bool a0_1):=(blk_cell BK136.out 1).trans rfl; have hcz6_2:w5.cell? ⟨gb136,2,none⟩=some (.int .u64 a0_2):=(blk_cell BK136.out 2).trans rfl; have hcz6_3:w5.cell? ⟨gb136,3,none⟩=some (.bool a0_3):=(blk_cell BK136.out 3).trans rfl; have hcz6_4:w5.cell? ⟨gb136,4,none⟩=some (.int .u64 a0_4):=(blk_cell BK136.out 4).trans rfl; have hcz6_5:w5.cell? ⟨gb136,5,none⟩=some (.bool a0_5):=(blk_cell BK136.out 5).trans rfl; have hcz6_6:w5.cell? ⟨gb136,6,none⟩=some (.int .u64 a0_6):=(blk_cell BK136.out 6).trans rfl; have hcz6_7:w5.cell? ⟨gb136,7,none⟩=some (.bool a0_7):=(blk_cell BK136.out 7).trans rfl; have hcz6_8:w5.cell? ⟨gb136,8,none⟩=some (.int .u64 a0_8):=(blk_cell BK136.out 8).trans rfl; have hcz6_9:w5.cell? ⟨gb136,9,none⟩=some (.bool a0_9):=(blk_cell BK136.out 9).trans rfl; have hfz6_0:=blk_frozen BK136.out 0; have hfz6_1:=blk_frozen BK136.out 1; have hfz6_2:=blk_frozen BK136.out 2; have hfz6_3:=blk_frozen BK136.out 3; have hfz6_4:=blk_frozen BK136.out 4; have hfz6_5:=blk_frozen BK136.out 5; have hfz6_6:=blk_frozen BK136.out 6; have hfz6_7:=blk_frozen BK136.out 7; have hfz6_8:=blk_frozen BK136.out 8; have hfz6_9:=blk_frozen BK136.out 9) | ((with_reducible refine gate_callee (f:=58) rfl ?_); refine goesL_ (some 17) rfl rfl Tryz.func58 (by kernel_rfl) rfl #[.agg #[.int .u64 a0_0,.bool a0_1],.int .i64 (Int.tmod a1 60)] rfl (by (try simp only [List.map_toArray,List.map_cons,List.map_nil]); first | done | rfl | (simp only [List.length_drop,List.length_take]; rfl)) ?_; (with_reducible refine (next_last.calls a0_0 a0_1 (Int.tmod a1 60) t137 t138 _ A3.out).mono ?_); rintro e w7 ⟨rfl,hb⟩; refine ⟨_,rfl,?_⟩; have n0_:=Aside0.mk (blk_below (g:=gb136) (o:=.cells #[.int .u64 a0_0,.bool a0_1,.int .u64 a0_2,.bool a0_3,.int .u64 a0_4,.bool a0_5,.int .u64 a0_6,.bool a0_7,.int .u64 a0_8,.bool a0_9] 26 (0,0)) (by (with_reducible repeat (first | refine blk_drewN ?_ _ | refine blk_drew ?_ | refine blk_alloc ?_ _)); exact BK136.out) hb); have n1_:=Aside0.mk (below_step (by repeat (first | (with_reducible first | exact HB.out | apply below_alloc | apply pw_below_drewN | apply below_drew1 | refine below_set ?_ GE136.out) | exact HB.out)) hb); clear BK136; clear HB; have BK136:=n0_; have HB:=n1_; clear n0_ n1_; (try clear hb); (try clear hb2); (try clear hk); (try clear hi)))
 (try simp only [Act.put,List.setIfInBounds_toArray,List.set_cons_zero,List.set_cons_succ])
 go_cut [27] (fun v27 wc=>∃ (kq:Nat) (x27_3:Bool),v27=.bool x27_3∧Aside0 (next_late.j0 kq a1 t137 x27_3 a0_0 a0_1 a0_2 a0_3 a0_4 a0_5 a0_6 a0_7 a0_8 a0_9=some (r1,r2))∧Aside0 (kq≤k)∧Aside0 (wc.heap[gb136]?=some (.cells #[.int .u64 a0_0,.bool a0_1,.int .u64 a0_2,.bool a0_3,.int .u64 a0_4,.bool a0_5,.int .u64 a0_6,.bool a0_7,.int .u64 a0_8,.bool a0_9] 26 (0,0)))∧Aside0 (Below w.heap.size w wc))
 case first=>
  have H:=HC4.out
  clear HC4
  by_cases c8:t138=true
  ·subst c8
   have H1:((field_Has.f a0_2 a0_3 (wrap64 (Int.tdiv a1 60))).bind fun t139=>(next_late.j0 k a1 t137 t139 a0_0 a0_1 a0_2 a0_3 a0_4 a0_5 a0_6 a0_7 a0_8 a0_9))=some (r1,r2):=by rw [if_pos rfl] at H; exact H
   clear H
   have H:=H1
   clear H1
   replace H:=Option.bind_eq_some_iff.mp H
   obtain ⟨t139,A90,H⟩ :=H
   replace H:(next_late.j0 k a1 t137 t139 a0_0 a0_1 a0_2 a0_3 a0_4 a0_5 a0_6 a0_7 a0_8 a0_9)=some (r1,r2):=H
   have A9:=Aside0.mk A90
   clear A90
   have H':=Aside0.mk H
   clear H
   have hcz10_0:w7.cell? ⟨gb136,0,none⟩=some (.int .u64 a0_0):=(blk_cell BK136.out 0).trans rfl
   have hcz10_1:w7.cell? ⟨gb136,1,none⟩=some (.bool a0_1):=(blk_cell BK136.out 1).trans rfl
   have hcz10_2:w7.cell? ⟨gb136,2,none⟩=some (.int .u64 a0_2):=(blk_cell BK136.out 2).trans rfl
   have hcz10_3:w7.cell? ⟨gb136,3,none⟩=some (.bool a0_3):=(blk_cell BK136.out 3).trans rfl
   have hcz10_4:w7.cell? ⟨gb136,4,none⟩=some (.int .u64 a0_4):=(blk_cell BK136.out 4).trans rfl
   have hcz10_5:w7.cell? ⟨gb136,5,none⟩=some (.bool a0_5):=(blk_cell BK136.out 5).trans rfl
   have hcz10_6:w7.cell? ⟨gb136,6,none⟩=some (.int .u64 a0_6):=(blk_cell BK136.out 6).trans rfl
   have hcz10_7:w7.cell? ⟨gb136,7,none⟩=some (.bool a0_7):=(blk_cell BK136.out 7).trans rfl
   have hcz10_8:w7.cell? ⟨gb136,8,none⟩=some (.int .u64 a0_8):=(blk_cell BK136.out 8).trans rfl
   have hcz10_9:w7.cell? ⟨gb136,9,none⟩=some (.bool a0_9):=(blk_cell BK136.out 9).trans rfl
   have hfz10_0:=blk_frozen BK136.out 0
   have hfz10_1:=blk_frozen BK136.out 1
   have hfz10_2:=blk_frozen BK136.out 2
   have hfz10_3:=blk_frozen BK136.out 3
   have hfz10_4:=blk_frozen BK136.out 4
   have hfz10_5:=blk_frozen BK136.out 5
   have hfz10_6:=blk_frozen BK136.out 6
   have hfz10_7:=blk_frozen BK136.out 7
   have hfz10_8:=blk_frozen BK136.out 8
   have hfz10_9:=blk_frozen BK136.out 9
   go_wp2_with (first | (go_at_call 40; (with_reducible refine (field_Has.calls a0_2 a0_3 (wrap64 (Int.tdiv a1 60)) t139 _ A9.out).mono ?_); rintro e w11 ⟨rfl,hb⟩; have n0_:=Aside0.mk (blk_below (g:=gb136) (o:=.cells #[.int .u64 a0_0,.bool a0_1,.int .u64 a0_2,.bool a0_3,.int .u64 a0_4,.bool a0_5,.int .u64 a0_6,.bool a0_7,.int .u64 a0_8,.bool a0_9] 26 (0,0)) (by (with_reducible repeat (first | refine blk_drewN ?_ _ | refine blk_drew ?_ | refine blk_alloc ?_ _)); exact BK136.out) hb); have n1_:=Aside0.mk (below_step (by repeat (first | (with_reducible first | exact HB.out | apply below_alloc | apply pw_below_drewN | apply below_drew1 | refine below_set ?_ GE136.out) | exact HB.out)) hb); clear BK136; clear HB; have BK136:=n0_; have HB:=n1_; clear n0_ n1_; (try clear hb); (try clear hb2); (try clear hk); (try clear hi)))
   go_meet
   case rel=>exact ⟨_,(t139),(by first | rfl | (simp; done) | (simp [*]; done)),H',⟨by first | omega | exact Nat.le_refl _⟩,⟨by (with_reducible repeat (first | refine blk_drewN ?_ _ | refine blk_drew ?_ | refine blk_alloc ?_ _)); exact BK136.out⟩,⟨by repeat (first | (with_reducible first | exact HB.out | apply below_alloc | apply pw_below_drewN | apply below_drew1 | refine below_set ?_ GE136.out) | exact HB.out)⟩⟩
  ·replace c8:=Bool.eq_false_iff.mpr c8
   subst c8
   have H1:(next_late.j0 k a1 t137 false a0_0 a0_1 a0_2 a0_3 a0_4 a0_5 a0_6 a0_7 a0_8 a0_9)=some (r1,r2):=by rw [if_neg (show ¬ (false=true) by decide)] at H; exact H
   clear H
   have H:=H1
   clear H1
   have H':=Aside0.mk H
   clear H
   go_wp2
   go_meet
   case rel=>exact ⟨_,(false),(by first | rfl | (simp; done) | (simp [*]; done)),H',⟨by first | omega | exact Nat.le_refl _⟩,⟨by (with_reducible repeat (first | refine blk_drewN ?_ _ | refine blk_drew ?_ | refine blk_alloc ?_ _)); exact BK136.out⟩,⟨by repeat (first | (with_reducible first | exact HB.out | apply below_alloc | apply pw_below_drewN | apply below_drew1 | refine below_set ?_ GE136.out) | exact HB.out)⟩⟩
 case rest=>
  clear HC4
  try clear c2
  try clear p2
  try clear c5
  try clear p6
  try clear c8
  try clear hcz10_0
  try clear hcz10_1
  try clear hcz10_2
  try clear hcz10_3
  try clear hcz10_4
  try clear hcz10_5
  try clear hcz10_6
  try clear hcz10_7
  try clear hcz10_8
  try clear hcz10_9
  try clear hcz6_0
  try clear hcz6_1
  try clear hcz6_2
  try clear hcz6_3
  try clear hcz6_4
  try clear hcz6_5
  try clear hcz6_6
  try clear hcz6_7
  try clear hcz6_8
  try clear hcz6_9
  try clear hfz10_0
  try clear hfz10_1
  try clear hfz10_2
  try clear hfz10_3
  try clear hfz10_4
  try clear hfz10_5
  try clear hfz10_6
  try clear hfz10_7
  try clear hfz10_8
  try clear hfz10_9
  try clear hfz6_0
  try clear hfz6_1
  try clear hfz6_2
  try clear hfz6_3
  try clear hfz6_4
  try clear hfz6_5
  try clear hfz6_6
  try clear hfz6_7
  try clear hfz6_8
  try clear hfz6_9
  obtain ⟨kq,x27_3,rfl,HA,HJ3,BK136,HB⟩ :=hcut
  cases kq with
  | zero=>exact absurd HA.out (by simp [next_late.j0])
  | succ kj3=>
   have H:=HA.out
   clear HA
   simp only [next_late.j0] at H
   by_cases c12:x27_3=true
   ·subst c12
    have H1:(some (wrap64 ((wrap64 ((wrap64 (Int.tdiv a1 60))*60))+t137),true))=some (r1,r2):=by rw [if_pos rfl] at H; exact H
    clear H
    have H:=H1
    clear H1
    simp only [Option.some.injEq,Prod.mk.injEq] at H
    obtain ⟨rfl,rfl⟩ :=H
    go_wp2
    go_ret2
    exact ⟨by first | rfl | (simp [errW_none,errW_some] <;> rfl) | (simp [*,errW_none,errW_some] <;> rfl),by repeat (first | (with_reducible first | exact HB.out | apply below_alloc | apply pw_below_drewN | apply below_drew1 | refine below_set ?_ GE136.out) | exact HB.out)⟩
   ·replace c12:=Bool.eq_false_iff.mpr c12
    subst c12
    have H1:((next_last.f a0_2 a0_3 (wrap64 ((wrap64 (Int.tdiv a1 60)) - 1))).bind fun bt140=>(if bt140.2=true then ((next_last.f a0_0 a0_1 59).bind fun bt142=>(some (wrap64 ((wrap64 (bt140.1*60))+bt142.1),true))) else (some (0,false))))=some (r1,r2):=by rw [if_neg (show ¬ (false=true) by decide)] at H; exact H
    clear H
    have H:=H1
    clear H1
    replace H:=Option.bind_eq_some_iff.mp H
    obtain ⟨⟨t140,t141⟩,A130,H⟩ :=H
    replace H:(if t141=true then ((next_last.f a0_0 a0_1 59).bind fun bt142=>(some (wrap64 ((wrap64 (t140*60))+bt142.1),true))) else (some (0,false)))=some (r1,r2):=H
    have A13:=Aside0.mk A130
    clear A130
    by_cases c14:t141=true
    ·subst c14
     have H1:((next_last.f a0_0 a0_1 59).bind fun bt142=>(some (wrap64 ((wrap64 (t140*60))+bt142.1),true)))=some (r1,r2):=by rw [if_pos rfl] at H; exact H
     clear H
     have H:=H1
     clear H1
     replace H:=Option.bind_eq_some_iff.mp H
     obtain ⟨⟨t142,t143⟩,A150,H⟩ :=H
     replace H:(some (wrap64 ((wrap64 (t140*60))+t142),true))=some (r1,r2):=H
     have A15:=Aside0.mk A150
     clear A150
     simp only [Option.some.injEq,Prod.mk.injEq] at H
     obtain ⟨rfl,rfl⟩ :=H
     have hcz16_0:wc.cell? ⟨gb136,0,none⟩=some (.int .u64 a0_0):=(blk_cell BK136.out 0).trans rfl
     have hcz16_1:wc.cell? ⟨gb136,1,none⟩=some (.bool a0_1):=(blk_cell BK136.out 1).trans rfl
     have hcz16_2:wc.cell? ⟨gb136,2,none⟩=some (.int .u64 a0_2):=(blk_cell BK136.out 2).trans rfl
     have hcz16_3:wc.cell? ⟨gb136,3,none⟩=some (.bool a0_3):=(blk_cell BK136.out 3).trans rfl
     have hcz16_4:wc.cell? ⟨gb136,4,none⟩=some (.int .u64 a0_4):=(blk_cell BK136.out 4).trans rfl
     have hcz16_5:wc.cell? ⟨gb136,5,none⟩=some (.bool a0_5):=(blk_cell BK136.out 5).trans rfl
     have hcz16_6:wc.cell? ⟨gb136,6,none⟩=some (.int .u64 a0_6):=(blk_cell BK136.out 6).trans rfl
     have hcz16_7:wc.cell? ⟨gb136,7,none⟩=some (.bool a0_7):=(blk_cell BK136.out 7).trans rfl
     have hcz16_8:wc.cell? ⟨gb136,8,none⟩=some (.int .u64 a0_8):=(blk_cell BK136.out 8).trans rfl
     have hcz16_9:wc.cell? ⟨gb136,9,none⟩=some (.bool a0_9):=(blk_cell BK136.out 9).trans rfl
     have hfz16_0:=blk_frozen BK136.out 0
     have hfz16_1:=blk_frozen BK136.out 1
     have hfz16_2:=blk_frozen BK136.out 2
     have hfz16_3:=blk_frozen BK136.out 3
     have hfz16_4:=blk_frozen BK136.out 4
     have hfz16_5:=blk_frozen BK136.out 5
     have hfz16_6:=blk_frozen BK136.out 6
     have hfz16_7:=blk_frozen BK136.out 7
     have hfz16_8:=blk_frozen BK136.out 8
     have hfz16_9:=blk_frozen BK136.out 9
     go_wp2_with (first | ((with_reducible refine gate_callee (f:=58) rfl ?_); refine goesL_ (some 39) rfl rfl Tryz.func58 (by kernel_rfl) rfl #[.agg #[.int .u64 a0_2,.bool a0_3],.int .i64 (wrap64 ((wrap64 (Int.tdiv a1 60)) - 1))] rfl (by (try simp only [List.map_toArray,List.map_cons,List.map_nil]); first | done | rfl | (simp only [List.length_drop,List.length_take]; rfl)) ?_; (with_reducible refine (next_last.calls a0_2 a0_3 (wrap64 ((wrap64 (Int.tdiv a1 60)) - 1)) t140 true _ A13.out).mono ?_); rintro e w17 ⟨rfl,hb⟩; refine ⟨_,rfl,?_⟩; have n0_:=Aside0.mk (blk_below (g:=gb136) (o:=.cells #[.int .u64 a0_0,.bool a0_1,.int .u64 a0_2,.bool a0_3,.int .u64 a0_4,.bool a0_5,.int .u64 a0_6,.bool a0_7,.int .u64 a0_8,.bool a0_9] 26 (0,0)) (by (with_reducible repeat (first | refine blk_drewN ?_ _ | refine blk_drew ?_ | refine blk_alloc ?_ _)); exact BK136.out) hb); have n1_:=Aside0.mk (below_step (by repeat (first | (with_reducible first | exact HB.out | apply below_alloc | apply pw_below_drewN | apply below_drew1 | refine below_set ?_ GE136.out) | exact HB.out)) hb); clear BK136; clear HB; have BK136:=n0_; have HB:=n1_; clear n0_ n1_; (try clear hb); (try clear hb2); (try clear hk); (try clear hi); have hcz18_0:w17.cell? ⟨gb136,0,none⟩=some (.int .u64 a0_0):=(blk_cell BK136.out 0).trans rfl; have hcz18_1:w17.cell? ⟨gb136,1,none⟩=some (.bool a0_1):=(blk_cell BK136.out 1).trans rfl; have hcz18_2:w17.cell? ⟨gb136,2,none⟩=some (.int .u64 a0_2):=(blk_cell BK136.out 2).trans rfl; have hcz18_3:w17.cell? ⟨gb136,3,none⟩=some (.bool a0_3):=(blk_cell BK136.out 3).trans rfl; have hcz18_4:w17.cell? ⟨gb136,4,none⟩=some (.int .u64 a0_4):=(blk_cell BK136.out 4).trans rfl; have hcz18_5:w17.cell? ⟨gb136,5,none⟩=some (.bool a0_5):=(blk_cell BK136.out 5).trans rfl; have hcz18_6:w17.cell? ⟨gb136,6,none⟩=some (.int .u64 a0_6):=(blk_cell BK136.out 6).trans rfl; have hcz18_7:w17.cell? ⟨gb136,7,none⟩=some (.bool a0_7):=(blk_cell BK136.out 7).trans rfl; have hcz18_8:w17.cell? ⟨gb136,8,none⟩=some (.int .u64 a0_8):=(blk_cell BK136.out 8).trans rfl; have hcz18_9:w17.cell? ⟨gb136,9,none⟩=some (.bool a0_9):=(blk_cell BK136.out 9).trans rfl; have hfz18_0:=blk_frozen BK136.out 0; have hfz18_1:=blk_frozen BK136.out 1; have hfz18_2:=blk_frozen BK136.out 2; have hfz18_3:=blk_frozen BK136.out 3; have hfz18_4:=blk_frozen BK136.out 4; have hfz18_5:=blk_frozen BK136.out 5; have hfz18_6:=blk_frozen BK136.out 6; have hfz18_7:=blk_frozen BK136.out 7; have hfz18_8:=blk_frozen BK136.out 8; have hfz18_9:=blk_frozen BK136.out 9) | ((with_reducible refine gate_callee (f:=58) rfl ?_); refine goesL_ (some 46) rfl rfl Tryz.func58 (by kernel_rfl) rfl #[.agg #[.int .u64 a0_0,.bool a0_1],.int .i64 59] rfl (by (try simp only [List.map_toArray,List.map_cons,List.map_nil]); first | done | rfl | (simp only [List.length_drop,List.length_take]; rfl)) ?_; (with_reducible refine (next_last.calls a0_0 a0_1 59 t142 t143 _ A15.out).mono ?_); rintro e w19 ⟨rfl,hb⟩; refine ⟨_,rfl,?_⟩; have n0_:=Aside0.mk (blk_below (g:=gb136) (o:=.cells #[.int .u64 a0_0,.bool a0_1,.int .u64 a0_2,.bool a0_3,.int .u64 a0_4,.bool a0_5,.int .u64 a0_6,.bool a0_7,.int .u64 a0_8,.bool a0_9] 26 (0,0)) (by (with_reducible repeat (first | refine blk_drewN ?_ _ | refine blk_drew ?_ | refine blk_alloc ?_ _)); exact BK136.out) hb); have n1_:=Aside0.mk (below_step (by repeat (first | (with_reducible first | exact HB.out | apply below_alloc | apply pw_below_drewN | apply below_drew1 | refine below_set ?_ GE136.out) | exact HB.out)) hb); clear BK136; clear HB; have BK136:=n0_; have HB:=n1_; clear n0_ n1_; (try clear hb); (try clear hb2); (try clear hk); (try clear hi)))
     go_ret2
     exact ⟨by first | rfl | (simp [errW_none,errW_some] <;> rfl) | (simp [*,errW_none,errW_some] <;> rfl),by repeat (first | (with_reducible first | exact HB.out | apply below_alloc | apply pw_below_drewN | apply below_drew1 | refine below_set ?_ GE136.out) | exact HB.out)⟩
    ·replace c14:=Bool.eq_false_iff.mpr c14
     subst c14
     have H1:(some (0,false))=some (r1,r2):=by rw [if_neg (show ¬ (false=true) by decide)] at H; exact H
     clear H
     have H:=H1
     clear H1
     simp only [Option.some.injEq,Prod.mk.injEq] at H
     obtain ⟨rfl,rfl⟩ :=H
     have hcz20_0:wc.cell? ⟨gb136,0,none⟩=some (.int .u64 a0_0):=(blk_cell BK136.out 0).trans rfl
     have hcz20_1:wc.cell? ⟨gb136,1,none⟩=some (.bool a0_1):=(blk_cell BK136.out 1).trans rfl
     have hcz20_2:wc.cell? ⟨gb136,2,none⟩=some (.int .u64 a0_2):=(blk_cell BK136.out 2).trans rfl
     have hcz20_3:wc.cell? ⟨gb136,3,none⟩=some (.bool a0_3):=(blk_cell BK136.out 3).trans rfl
     have hcz20_4:wc.cell? ⟨gb136,4,none⟩=some (.int .u64 a0_4):=(blk_cell BK136.out 4).trans rfl
     have hcz20_5:wc.cell? ⟨gb136,5,none⟩=some (.bool a0_5):=(blk_cell BK136.out 5).trans rfl
     have hcz20_6:wc.cell? ⟨gb136,6,none⟩=some (.int .u64 a0_6):=(blk_cell BK136.out 6).trans rfl
     have hcz20_7:wc.cell? ⟨gb136,7,none⟩=some (.bool a0_7):=(blk_cell BK136.out 7).trans rfl
     have hcz20_8:wc.cell? ⟨gb136,8,none⟩=some (.int .u64 a0_8):=(blk_cell BK136.out 8).trans rfl
     have hcz20_9:wc.cell? ⟨gb136,9,none⟩=some (.bool a0_9):=(blk_cell BK136.out 9).trans rfl
     have hfz20_0:=blk_frozen BK136.out 0
     have hfz20_1:=blk_frozen BK136.out 1
     have hfz20_2:=blk_frozen BK136.out 2
     have hfz20_3:=blk_frozen BK136.out 3
     have hfz20_4:=blk_frozen BK136.out 4
     have hfz20_5:=blk_frozen BK136.out 5
     have hfz20_6:=blk_frozen BK136.out 6
     have hfz20_7:=blk_frozen BK136.out 7
     have hfz20_8:=blk_frozen BK136.out 8
     have hfz20_9:=blk_frozen BK136.out 9
     go_wp2_with (first | ((with_reducible refine gate_callee (f:=58) rfl ?_); refine goesL_ (some 39) rfl rfl Tryz.func58 (by kernel_rfl) rfl #[.agg #[.int .u64 a0_2,.bool a0_3],.int .i64 (wrap64 ((wrap64 (Int.tdiv a1 60)) - 1))] rfl (by (try simp only [List.map_toArray,List.map_cons,List.map_nil]); first | done | rfl | (simp only [List.length_drop,List.length_take]; rfl)) ?_; (with_reducible refine (next_last.calls a0_2 a0_3 (wrap64 ((wrap64 (Int.tdiv a1 60)) - 1)) t140 false _ A13.out).mono ?_); rintro e w21 ⟨rfl,hb⟩; refine ⟨_,rfl,?_⟩; have n0_:=Aside0.mk (blk_below (g:=gb136) (o:=.cells #[.int .u64 a0_0,.bool a0_1,.int .u64 a0_2,.bool a0_3,.int .u64 a0_4,.bool a0_5,.int .u64 a0_6,.bool a0_7,.int .u64 a0_8,.bool a0_9] 26 (0,0)) (by (with_reducible repeat (first | refine blk_drewN ?_ _ | refine blk_drew ?_ | refine blk_alloc ?_ _)); exact BK136.out) hb); have n1_:=Aside0.mk (below_step (by repeat (first | (with_reducible first | exact HB.out | apply below_alloc | apply pw_below_drewN | apply below_drew1 | refine below_set ?_ GE136.out) | exact HB.out)) hb); clear BK136; clear HB; have BK136:=n0_; have HB:=n1_; clear n0_ n1_; (try clear hb); (try clear hb2); (try clear hk); (try clear hi)))
     go_ret2
     exact ⟨by first | rfl | (simp [errW_none,errW_some] <;> rfl) | (simp [*,errW_none,errW_some] <;> rfl),by repeat (first | (with_reducible first | exact HB.out | apply below_alloc | apply pw_below_drewN | apply below_drew1 | refine below_set ?_ GE136.out) | exact HB.out)⟩
/-! This session's own: next.Prev. -/
noncomputable def Nx.prevRange:Code:=((Tryz.f13.body.bind Nx.firstRange).getD .skip)
def Nx.dayV (so:Int→Int × Bool)(cd ct:Int)(x:Nat × Int × Int):Nat→Int→Option Int
 | 0,_=>none
 | f+1,d=>if Go.bits .and .u32 (x.2.2 / 2 ^ d.toNat) 1=0∨((x.1:Int)=0∧cd < d) then Nx.dayV so cd ct x f (d - 1) else
  if (so (if (x.1:Int)=0∧d=cd then ct else 1439)).2=true then some (wrap64 (wrap64 (wrap64 (wrap64 (x.2.1+d) - 1)*1440)+(so (if (x.1:Int)=0∧d=cd then ct else 1439)).1)) else Nx.dayV so cd ct x f (d - 1)
section
open Go.Shelf
attribute [local go_sem] Oper.semAt_some
set_option maxHeartbeats 8000000 in
set_option maxRecDepth 1000000 in
theorem Nx.prev_range (u0 u1 u3 u4 u5 u8 u11 u12 u13 u14 u15 u16 u17 u18 u19 u20 u21 u22 u23 u24 u25 u26 u27 u28 u29 u30 u32 u33 u34 u35 u36 u37 u38 u39 u40 u41 u42 u43 u44 u45 u46 u47 u48 u49 u50 u51 u52 u53 u54 u55 u56 u57 u58 u59 u60 u61 u62 u63 u64 u65 u66 u67 u68 u69 u70 u71 u72 u73 u74 u75 u76 u77 u78 u79 u80 u81:Value)(gx gs gc gf ge qc qb qx:Nat)(b0:Int)(s0:Bool)(b1:Int)(s1:Bool)(b2:Int)(s2:Bool)(b3:Int)(s3:Bool)(b4:Int)(s4:Bool)(hok:Dy.okS b0 b1 b2 b3 b4=true)(A:day_odd.f b0 s0 b1 s1 b2 s2 b3 s3 b4 s4=some false)
  (so:Int→Int × Bool) (hso:∀ t,next_late.f 100 b0 s0 b1 s1 b2 s2 b3 s3 b4 s4 t=some ((so t).1,(so t).2)) (st y0 m0 cd c3 c4 c5:Int) (ds:List Deferred) (W:World) (hT:Tab W)
  (hX:Spc.Row W gx b0 s0 b1 s1 b2 s2 b3 s3 b4 s4) (hS:W.heap[gs]?=some (.cells #[.int .i64 st] 3 (0,0))) (hC:W.heap[gc]?=some (.cells #[.int .i64 y0,.int .i64 m0,.int .i64 cd,.int .i64 c3,.int .i64 c4,.int .i64 c5] 42 (0,0)))
  (hF:W.heap[gf]?=some (.cells #[.int .i64 0] 3 (0,0))) (hE:W.heap[ge]?=some (.cells #[.int .i64 11] 28 (0,0)))
  (hQC:W.heap[qc]?=some (.cells #[.int .i64 y0,.int .i64 m0,.int .i64 cd,.int .i64 c3,.int .i64 c4,.int .i64 c5] 42 (0,0))) (hQB:W.heap[qb]?=some (.cells #[.int .i64 (-1)] 3 (0,0))) (hQX:Spc.Row W qx b0 s0 b1 s1 b2 s2 b3 s3 b4 s4)
  (hfe:gf≠ge) (hst:0≤st) (hy1:1970≤y0) (hy2:y0≤2999) (hm1:1≤m0) (hm2:m0≤12) (Q:Exit→Act→World→Prop)
  (hdone:∀ (D:Nat) (W':World),W.heap.size≤D→Below W.heap.size W W'→(Nx.mons (Dy.mask false b2 s2 b3 b4 s4) (-1) 20000 y0 m0 0).findSome? (fun x=>Nx.dayV so cd (st % 1440) x 31 31)=none→W'.heap[D]?=some (.deferred (some []))→
   Q .normal { tmps:=#[u0,u1,.pointer (some ⟨gx,0,none⟩),u3,u4,u5,.pointer (some ⟨gs,0,none⟩),.pointer (some ⟨gc,0,none⟩),u8,.pointer (some ⟨gf,0,none⟩),.pointer (some ⟨ge,0,none⟩),u11,u12,u13,u14,u15,u16,u17,u18,u19,u20,u21,u22,u23,u24,u25,u26,u27,u28,u29,u30,.func (.func 48) #[] #[.pointer (some ⟨qc,0,none⟩),.pointer (some ⟨qb,0,none⟩),.pointer (some ⟨qx,0,none⟩)],u32,u33,u34,u35,u36,u37,u38,u39,u40,u41,u42,u43,u44,u45,u46,u47,u48,u49,u50,u51,u52,u53,u54,u55,u56,u57,u58,u59,u60,u61,u62,u63,u64,u65,u66,u67,u68,u69,u70,u71,u72,u73,u74,u75,u76,u77,u78,u79,u80,u81],defers:={ target:=.collected D,args:=#[] } :: ds } W')
  (hstop:∀ (D:Nat) (W':World) (r:Int),W.heap.size≤D→Nx.Only2 gf ge W W'→(Nx.mons (Dy.mask false b2 s2 b3 b4 s4) (-1) 20000 y0 m0 0).findSome? (fun x=>Nx.dayV so cd (st % 1440) x 31 31)=some r→
   W'.heap[gf]?=some (.cells #[.int .i64 r] 3 (0,0))→W'.heap[ge]?=some (.cells #[.int .i64 0] 28 (0,0))→W'.heap[D]?=some (.deferred (some []))→
   Q (.exit 0) { tmps:=#[u0,u1,.pointer (some ⟨gx,0,none⟩),u3,u4,u5,.pointer (some ⟨gs,0,none⟩),.pointer (some ⟨gc,0,none⟩),u8,.pointer (some ⟨gf,0,none⟩),.pointer (some ⟨ge,0,none⟩),u11,u12,u13,u14,u15,u16,u17,u18,u19,u20,u21,u22,u23,u24,u25,u26,u27,u28,u29,u30,.func (.func 48) #[] #[.pointer (some ⟨qc,0,none⟩),.pointer (some ⟨qb,0,none⟩),.pointer (some ⟨qx,0,none⟩)],u32,u33,u34,u35,u36,u37,u38,u39,u40,u41,u42,u43,u44,u45,u46,u47,u48,u49,u50,u51,u52,u53,u54,u55,u56,u57,u58,u59,u60,u61,u62,u63,u64,u65,u66,u67,u68,u69,u70,u71,u72,u73,u74,u75,u76,u77,u78,u79,u80,u81],defers:={ target:=.collected D,args:=#[] } :: ds } W') :
  Code.wpIn Fence.wide 6 Tryz.prog Nx.prevRange Q { tmps:=#[u0,u1,.pointer (some ⟨gx,0,none⟩),u3,u4,u5,.pointer (some ⟨gs,0,none⟩),.pointer (some ⟨gc,0,none⟩),u8,.pointer (some ⟨gf,0,none⟩),.pointer (some ⟨ge,0,none⟩),u11,u12,u13,u14,u15,u16,u17,u18,u19,u20,u21,u22,u23,u24,u25,u26,u27,u28,u29,u30,.func (.func 48) #[] #[.pointer (some ⟨qc,0,none⟩),.pointer (some ⟨qb,0,none⟩),.pointer (some ⟨qx,0,none⟩)],u32,u33,u34,u35,u36,u37,u38,u39,u40,u41,u42,u43,u44,u45,u46,u47,u48,u49,u50,u51,u52,u53,u54,u55,u56,u57,u58,u59,u60,u61,u62,u63,u64,u65,u66,u67,u68,u69,u70,u71,u72,u73,u74,u75,u76,u77,u78,u79,u80,u81],defers:=ds } W:=by
 conv=>arg 4; whnf
 have hfl:=blk_lt hF
 have hel:=blk_lt hE
 replace hdone:=Lib.hid hdone
 replace hstop:=Lib.hid hstop
 obtain ⟨L,hL⟩:∃ L,Nx.mons (Dy.mask false b2 s2 b3 b4 s4) (-1) 20000 y0 m0 0=L:=⟨_,rfl⟩
 have hseq:=Nx.months_stops (6 - 1) (by decide) qc qb qx b0 s0 b1 s1 b2 s2 b3 s3 b4 s4 hok A y0 m0 cd c3 c4 c5 (-1) W hQC hQB hQX hy1 hy2 hm1 hm2 (.inr rfl)
 rw [hL] at hseq hdone hstop
 refine wpIn_rangeFunc_ownH rfl (by decide) (gf:=48) (lb:=#[.pointer (some ⟨qc,0,none⟩),.pointer (some ⟨qb,0,none⟩),.pointer (some ⟨qx,0,none⟩)]) rfl trivial (enters_of Tryz.func48 (by kernel_rfl) rfl)
  hseq (fun h k=>⟨k.1.trans h.1,k.2.1.trans h.2.1,k.2.2.trans h.2.2⟩) (fun W' l o o' hl _ _ _=>⟨World.putObj_heap_other (by have:=blk_lt hQC; omega),World.putObj_heap_other (by have:=blk_lt hQB; omega),World.putObj_heap_other (by have:=blk_lt hQX; omega)⟩) (Below.refl _ _) (fun _=>rfl)
  (fun pre W'=>Below W.heap.size W W'∧∀ x ∈ pre,Nx.dayV so cd (st % 1440) x 31 31=none)
  (fun c pre W'=>c=.exit 0∧∃ p x r,pre=p ++ [x]∧(∀ y ∈ p,Nx.dayV so cd (st % 1440) y 31 31=none)∧Nx.dayV so cd (st % 1440) x 31 31=some r∧Nx.Only2 gf ge W W'∧W'.heap[gf]?=some (.cells #[.int .i64 r] 3 (0,0))∧W'.heap[ge]?=some (.cells #[.int .i64 0] 28 (0,0)))
  ?own ?ownx ⟨Below.refl _ _,fun x hx=>by cases hx⟩ (fun x a' W'=>∃ gm,a'={ tmps:=#[u0,u1,.pointer (some ⟨gx,0,none⟩),u3,u4,u5,.pointer (some ⟨gs,0,none⟩),.pointer (some ⟨gc,0,none⟩),u8,.pointer (some ⟨gf,0,none⟩),.pointer (some ⟨ge,0,none⟩),.int .i64 (x.1:Int),.pointer (some ⟨gm,0,none⟩),u13,u14,u15,u16,u17,u18,u19,u20,u21,u22,u23,u24,u25,u26,u27,u28,u29,u30,.func (.func 48) #[] #[.pointer (some ⟨qc,0,none⟩),.pointer (some ⟨qb,0,none⟩),.pointer (some ⟨qx,0,none⟩)],.int .i64 (x.1:Int),.agg #[.int .i64 x.2.1,.int .u32 x.2.2],u34,u35,u36,u37,u38,u39,u40,u41,u42,u43,u44,u45,u46,u47,u48,u49,u50,u51,u52,u53,u54,u55,u56,u57,u58,u59,u60,u61,u62,u63,u64,u65,u66,u67,u68,u69,u70,u71,u72,u73,u74,u75,u76,u77,u78,u79,u80,u81],defers:=[] }∧W'.heap[gm]?=some (.cells #[.int .i64 x.2.1,.int .u32 x.2.2] 50 (0,0)))
  ?ownA ?assign ?body ?done ?stop
 case own=>
  intro s W1 W2 row hs hg hr
  refine ⟨⟨hg.os.trans hs.1.os,hg.tape.trans hs.1.tape,hg.output.trans hs.1.output,Nat.le_trans hs.1.size hg.size,fun k hk=>(hg.block k (Nat.lt_of_lt_of_le hk hs.1.size) (fun e=>by have:=(hr k e.symm).1; omega)).trans (hs.1.block k hk)⟩,hs.2⟩
 case ownx=>
  rintro c s W1 W2 row ⟨h1,p,x,r,h2,h3,h4,h5,h6,h7⟩ hg hr
  refine ⟨h1,p,x,r,h2,h3,h4,h5.grown hg (fun k e=>.inl (hr k e).1),?_,?_⟩
  ·exact (hg.block gf (blk_lt h6) (fun e=>by have:=(hr gf e.symm).1; omega)).trans h6
  ·exact (hg.block ge (blk_lt h7) (fun e=>by have:=(hr ge e.symm).1; omega)).trans h7
 case ownA=>
  rintro x a' s W1 W2 row ⟨gm,rfl,hm⟩ hg hr
  refine ⟨gm,rfl,(hg.block gm (blk_lt hm) (fun e=>?_)).trans hm⟩
  obtain ⟨_,o,ho,hc⟩ :=hr gm e.symm
  rw [hm] at ho
  cases ho
  cases hc
 case assign=>
  intro l pre x W1 K hI hK
  dsimp only [Nx.encM]
  gi_wp2
  have hb:=below_alloc (Below.refl W1.heap.size W1) (.cells #[.int .i64 x.2.1,.int .u32 x.2.2] 50)
  have hle:=hI.1.size
  exact hK _ _ (Nx.keeps_below hb) ⟨hb.block qc (by have:=blk_lt hQC; omega),hb.block qb (by have:=blk_lt hQB; omega),hb.block qx (by have:=blk_lt hQX; omega)⟩ ⟨hI.1.trans (hb.mono hle),hI.2⟩ ⟨W1.heap.size,rfl,heap_alloc_new W1 _⟩
 case body=>
  rintro l pre ⟨n,F,N⟩ a' W1 hl hlr ⟨hb1,hall⟩ ⟨gm,rfl,hm⟩ hlen
  dsimp only at hm ⊢
  have hT1:=hT.keep hb1
  have hX1:Spc.Row W1 gx b0 s0 b1 s1 b2 s2 b3 s3 b4 s4:=blk_below hX hb1
  have hS1:=blk_below hS hb1
  have hC1:=blk_below hC hb1
  obtain ⟨R,hR⟩:∃ R,Nx.dayV so cd (st % 1440) (n,F,N) 31 31=R:=⟨_,rfl⟩
  have hG:=Aside0.mk (show Tab W1∧Spc.Row W1 gx b0 s0 b1 s1 b2 s2 b3 s3 b4 s4∧W1.heap[gs]?=some (.cells #[.int .i64 st] 3 (0,0))∧W1.heap[gc]?=some (.cells #[.int .i64 y0,.int .i64 m0,.int .i64 cd,.int .i64 c3,.int .i64 c4,.int .i64 c5] 42 (0,0))∧W1.heap[gm]?=some (.cells #[.int .i64 F,.int .u32 N] 50 (0,0)) from ⟨hT1,hX1,hS1,hC1,hm⟩)
  have hFE:=Aside0.mk (show gf < W.heap.size∧ge < W.heap.size∧W1.heap[gf]?=some (.cells #[.int .i64 0] 3 (0,0))∧W1.heap[ge]?=some (.cells #[.int .i64 11] 28 (0,0))∧qc < W.heap.size∧qb < W.heap.size∧qx < W.heap.size from ⟨hfl,hel,blk_below hF hb1,blk_below hE hb1,blk_lt hQC,blk_lt hQB,blk_lt hQX⟩)
  replace hb1:=Aside0.mk hb1
  replace hall:=Lib.hid hall
  replace hso:=Lib.hid hso
  clear hT hX hS hC hF hE hQC hQB hQX hdone hstop hseq hL hok A hT1 hX1 hS1 hC1 hm hfl hel
  gi_wp2
  gi_loopw [13] (fun p wr=>∃ (f:Nat) (d:Int),p=.int .i64 d∧Hid (Nx.dayV so cd (st % 1440) (n,F,N) f d=R)∧Hid ((f:Int)=d)∧0≤d∧d≤31∧Aside0 (Below W1.heap.size W1 wr)) (fun p _=>(intOf p).toNat)
  case atStart=>
   exact ⟨31,31,rfl,Lib.hid hR,Lib.hid rfl,by decide,by decide,⟨Below.refl _ _⟩⟩
  case round=>
   replace hR:=Lib.hid hR
   obtain ⟨f,d,rfl,hx,hfd,d1,d2,hbr⟩ :=hrel
   by_cases hd:1≤d
   ·obtain ⟨f,rfl⟩:∃ g,f=g+1:=⟨f - 1,by have:=hfd.out; omega⟩
    obtain ⟨k0,k1,k2,k3,k4,k5,k6,k7,k8,k9⟩ :=(show Spc.Row wr gx b0 s0 b1 s1 b2 s2 b3 s3 b4 s4 from blk_below hG.out.2.1 hbr.out).cells
    have ks:wr.cell? ⟨gs,0,none⟩=some (.int .i64 st):=(blk_cell (blk_below hG.out.2.2.1 hbr.out) 0).trans rfl
    have kc:wr.cell? ⟨gc,2,none⟩=some (.int .i64 cd):=(blk_cell (blk_below hG.out.2.2.2.1 hbr.out) 2).trans rfl
    have km0:wr.cell? ⟨gm,0,none⟩=some (.int .i64 F):=(blk_cell (blk_below hG.out.2.2.2.2 hbr.out) 0).trans rfl
    have km1:wr.cell? ⟨gm,1,none⟩=some (.int .u32 N):=(blk_cell (blk_below hG.out.2.2.2.2 hbr.out) 1).trans rfl
    have ed:decide (1≤d)=true:=decide_eq_true hd
    by_cases hbit:Go.bits .and .u32 (N / 2 ^ d.toNat) 1=0
    ·have q1:(Go.bits .and .u32 (N / 2 ^ d.toNat) 1 == 0)=true:=by simpa using hbit
     replace hx:Hid (Nx.dayV so cd (st % 1440) (n,F,N) f (d - 1)=R):=Lib.hid (by have:=hx.out; unfold Nx.dayV at this; rwa [if_pos (.inl hbit)] at this)
     gi_wp2_with fail
     go_roundw
     case rel=>exact ⟨f,d - 1,rfl,hx,Lib.hid (by have:=hfd.out; omega),by omega,by omega,hbr⟩
     case measure=>simp only [intOf]; omega
    ·have q1:(Go.bits .and .u32 (N / 2 ^ d.toNat) 1 == 0)=false:=by simpa using hbit
     by_cases hn:(n:Int)=0
     ·have q2:((n:Int) == 0)=true:=by simpa using hn
      replace hn:=Lib.hid hn
      rcases (by omega:cd < d∨d=cd∨d < cd) with c | c | c
      ·have q3:decide (cd < d)=true:=decide_eq_true c
       replace hx:Hid (Nx.dayV so cd (st % 1440) (n,F,N) f (d - 1)=R):=Lib.hid (by have:=hx.out; unfold Nx.dayV at this; rwa [if_pos (.inr ⟨hn.out,c⟩)] at this)
       gi_wp2_with fail
       go_roundw
       case rel=>exact ⟨f,d - 1,rfl,hx,Lib.hid (by have:=hfd.out; omega),by omega,by omega,hbr⟩
       case measure=>simp only [intOf]; omega
      ·have q3:decide (cd < d)=false:=decide_eq_false (by omega)
       have q4:(d == cd)=true:=by simpa using c
       replace c:=Lib.hid c
       obtain ⟨⟨at_,ok⟩,hat⟩:∃ r,so (st % 1440)=r:=⟨_,rfl⟩
       have hs2:next_late.f 100 b0 s0 b1 s1 b2 s2 b3 s3 b4 s4 (st % 1440)=some (at_,ok):=by rw [hso.out,hat]
       replace hx:Hid ((if ok=true then some (wrap64 (wrap64 (wrap64 (wrap64 (F+d) - 1)*1440)+at_)) else Nx.dayV so cd (st % 1440) (n,F,N) f (d - 1))=R):=Lib.hid (by have:=hx.out; unfold Nx.dayV at this; rw [if_neg (by rintro (q | q); exact hbit q; have:=c.out; omega)] at this; dsimp only at this; rwa [show (if (n:Int)=0∧d=cd then st % 1440 else 1439)=st % 1440 from if_pos ⟨hn.out,c.out⟩,hat] at this)
       gi_wp2_with fail
       refine ⟨trivial,?_⟩
       refine (callsIn_wide.2 (next_late.calls 100 _ _ _ _ _ _ _ _ _ _ (st % 1440) _ _ _ hs2)).mono ?_
       rintro e W2 ⟨rfl,hb2⟩
       clear hs2 hat
       have hbr2:=Aside0.mk (hbr.out.trans (hb2.mono hbr.out.size))
       have km2:W2.cell? ⟨gm,0,none⟩=some (.int .i64 F):=(blk_cell (blk_below hG.out.2.2.2.2 hbr2.out) 0).trans rfl
       have kf:W2.cell? ⟨gf,0,none⟩=some (.int .i64 0):=(blk_cell (blk_below hFE.out.2.2.1 hbr2.out) 0).trans rfl
       have ke:W2.cell? ⟨ge,0,none⟩=some (.int .i64 11):=(blk_cell (blk_below hFE.out.2.2.2.1 hbr2.out) 0).trans rfl
       have ff:=blk_frozen (blk_below hFE.out.2.2.1 hbr2.out) 0
       have fe:=blk_frozen (blk_below hFE.out.2.2.2.1 hbr2.out) 0
       clear hbr hb2 k0 k1 k2 k3 k4 k5 k6 k7 k8 k9 ks kc km0 km1
       cases ok with
       | true=>
        replace hx:=Lib.hid (by have:=hx.out; rwa [if_pos rfl] at this)
        gi_wp2_with fail
        have hv:Nx.dayV so cd (st % 1440) (n,F,N) 31 31=some (wrap64 (wrap64 (wrap64 (wrap64 (F+d) - 1)*1440)+at_)):=by rw [hR.out,← hx.out]
        have g1:=grownBy_setCell' W2 gf (.int .i64 (wrap64 (wrap64 (wrap64 (wrap64 (F+d) - 1)*1440)+at_)))
        have g2:=grownBy_setCell' (W2.setCell ⟨gf,0,none⟩ (.int .i64 (wrap64 (wrap64 (wrap64 (wrap64 (F+d) - 1)*1440)+at_)))) ge (.int .i64 0)
        refine ⟨((Nx.keeps_below hbr2.out).trans (KeepsFrom.of_grownBy g1 (fun j e=>by cases e; exact hFE.out.1))).trans (KeepsFrom.of_grownBy g2 (fun j e=>by cases e; exact hFE.out.2.1)),rfl,pre,(n,F,N),_,rfl,hall.out,hv,?_,?_,?_⟩
        ·exact ((Nx.Only2.of_below (hb1.out.trans (hbr2.out.mono hb1.out.size))).grown g1 (fun r e=>by cases e; exact .inr (.inl rfl))).grown g2 (fun r e=>by cases e; exact .inr (.inr rfl))
        ·exact (Below.heap_setCell _ _ _ gf hfe).trans (blk_put (blk_below hFE.out.2.2.1 hbr2.out) 0 _ rfl)
        ·exact blk_put ((Below.heap_setCell _ _ _ ge (Ne.symm hfe)).trans (blk_below hFE.out.2.2.2.1 hbr2.out)) 0 _ rfl
       | false=>
        replace hx:Hid (Nx.dayV so cd (st % 1440) (n,F,N) f (d - 1)=R):=Lib.hid (by have:=hx.out; rwa [if_neg (by decide)] at this)
        gi_wp2_with fail
        go_roundw
        case rel=>exact ⟨f,d - 1,rfl,hx,Lib.hid (by have:=hfd.out; omega),by omega,by omega,hbr2⟩
        case measure=>simp only [intOf]; omega
      ·have q3:decide (cd < d)=false:=decide_eq_false (by omega)
       have q4:(d == cd)=false:=by
        have:¬ d=cd:=by omega
        simpa using this
       obtain ⟨⟨at_,ok⟩,hat⟩:∃ r,so (1439)=r:=⟨_,rfl⟩
       have hs2:next_late.f 100 b0 s0 b1 s1 b2 s2 b3 s3 b4 s4 (1439)=some (at_,ok):=by rw [hso.out,hat]
       replace hx:Hid ((if ok=true then some (wrap64 (wrap64 (wrap64 (wrap64 (F+d) - 1)*1440)+at_)) else Nx.dayV so cd (st % 1440) (n,F,N) f (d - 1))=R):=Lib.hid (by have:=hx.out; unfold Nx.dayV at this; rw [if_neg (by rintro (q | q); exact hbit q; omega)] at this; dsimp only at this; rwa [show (if (n:Int)=0∧d=cd then st % 1440 else 1439)=1439 from if_neg (by omega),hat] at this)
       gi_wp2_with fail
       refine ⟨trivial,?_⟩
       refine (callsIn_wide.2 (next_late.calls 100 _ _ _ _ _ _ _ _ _ _ (1439) _ _ _ hs2)).mono ?_
       rintro e W2 ⟨rfl,hb2⟩
       clear hs2 hat
       have hbr2:=Aside0.mk (hbr.out.trans (hb2.mono hbr.out.size))
       have km2:W2.cell? ⟨gm,0,none⟩=some (.int .i64 F):=(blk_cell (blk_below hG.out.2.2.2.2 hbr2.out) 0).trans rfl
       have kf:W2.cell? ⟨gf,0,none⟩=some (.int .i64 0):=(blk_cell (blk_below hFE.out.2.2.1 hbr2.out) 0).trans rfl
       have ke:W2.cell? ⟨ge,0,none⟩=some (.int .i64 11):=(blk_cell (blk_below hFE.out.2.2.2.1 hbr2.out) 0).trans rfl
       have ff:=blk_frozen (blk_below hFE.out.2.2.1 hbr2.out) 0
       have fe:=blk_frozen (blk_below hFE.out.2.2.2.1 hbr2.out) 0
       clear hbr hb2 k0 k1 k2 k3 k4 k5 k6 k7 k8 k9 ks kc km0 km1
       cases ok with
       | true=>
        replace hx:=Lib.hid (by have:=hx.out; rwa [if_pos rfl] at this)
        gi_wp2_with fail
        have hv:Nx.dayV so cd (st % 1440) (n,F,N) 31 31=some (wrap64 (wrap64 (wrap64 (wrap64 (F+d) - 1)*1440)+at_)):=by rw [hR.out,← hx.out]
        have g1:=grownBy_setCell' W2 gf (.int .i64 (wrap64 (wrap64 (wrap64 (wrap64 (F+d) - 1)*1440)+at_)))
        have g2:=grownBy_setCell' (W2.setCell ⟨gf,0,none⟩ (.int .i64 (wrap64 (wrap64 (wrap64 (wrap64 (F+d) - 1)*1440)+at_)))) ge (.int .i64 0)
        refine ⟨((Nx.keeps_below hbr2.out).trans (KeepsFrom.of_grownBy g1 (fun j e=>by cases e; exact hFE.out.1))).trans (KeepsFrom.of_grownBy g2 (fun j e=>by cases e; exact hFE.out.2.1)),rfl,pre,(n,F,N),_,rfl,hall.out,hv,?_,?_,?_⟩
        ·exact ((Nx.Only2.of_below (hb1.out.trans (hbr2.out.mono hb1.out.size))).grown g1 (fun r e=>by cases e; exact .inr (.inl rfl))).grown g2 (fun r e=>by cases e; exact .inr (.inr rfl))
        ·exact (Below.heap_setCell _ _ _ gf hfe).trans (blk_put (blk_below hFE.out.2.2.1 hbr2.out) 0 _ rfl)
        ·exact blk_put ((Below.heap_setCell _ _ _ ge (Ne.symm hfe)).trans (blk_below hFE.out.2.2.2.1 hbr2.out)) 0 _ rfl
       | false=>
        replace hx:Hid (Nx.dayV so cd (st % 1440) (n,F,N) f (d - 1)=R):=Lib.hid (by have:=hx.out; rwa [if_neg (by decide)] at this)
        gi_wp2_with fail
        go_roundw
        case rel=>exact ⟨f,d - 1,rfl,hx,Lib.hid (by have:=hfd.out; omega),by omega,by omega,hbr2⟩
        case measure=>simp only [intOf]; omega
     ·have q2:((n:Int) == 0)=false:=by simpa using hn
      obtain ⟨⟨at_,ok⟩,hat⟩:∃ r,so (1439)=r:=⟨_,rfl⟩
      have hs2:next_late.f 100 b0 s0 b1 s1 b2 s2 b3 s3 b4 s4 (1439)=some (at_,ok):=by rw [hso.out,hat]
      replace hx:Hid ((if ok=true then some (wrap64 (wrap64 (wrap64 (wrap64 (F+d) - 1)*1440)+at_)) else Nx.dayV so cd (st % 1440) (n,F,N) f (d - 1))=R):=Lib.hid (by have:=hx.out; unfold Nx.dayV at this; rw [if_neg (by rintro (q | q); exact hbit q; exact hn q.1)] at this; dsimp only at this; rwa [show (if (n:Int)=0∧d=cd then st % 1440 else 1439)=1439 from if_neg (fun q=>hn q.1),hat] at this)
      gi_wp2_with fail
      refine ⟨trivial,?_⟩
      refine (callsIn_wide.2 (next_late.calls 100 _ _ _ _ _ _ _ _ _ _ (1439) _ _ _ hs2)).mono ?_
      rintro e W2 ⟨rfl,hb2⟩
      clear hs2 hat
      have hbr2:=Aside0.mk (hbr.out.trans (hb2.mono hbr.out.size))
      have km2:W2.cell? ⟨gm,0,none⟩=some (.int .i64 F):=(blk_cell (blk_below hG.out.2.2.2.2 hbr2.out) 0).trans rfl
      have kf:W2.cell? ⟨gf,0,none⟩=some (.int .i64 0):=(blk_cell (blk_below hFE.out.2.2.1 hbr2.out) 0).trans rfl
      have ke:W2.cell? ⟨ge,0,none⟩=some (.int .i64 11):=(blk_cell (blk_below hFE.out.2.2.2.1 hbr2.out) 0).trans rfl
      have ff:=blk_frozen (blk_below hFE.out.2.2.1 hbr2.out) 0
      have fe:=blk_frozen (blk_below hFE.out.2.2.2.1 hbr2.out) 0
      clear hbr hb2 k0 k1 k2 k3 k4 k5 k6 k7 k8 k9 ks kc km0 km1
      cases ok with
      | true=>
       replace hx:=Lib.hid (by have:=hx.out; rwa [if_pos rfl] at this)
       gi_wp2_with fail
       have hv:Nx.dayV so cd (st % 1440) (n,F,N) 31 31=some (wrap64 (wrap64 (wrap64 (wrap64 (F+d) - 1)*1440)+at_)):=by rw [hR.out,← hx.out]
       have g1:=grownBy_setCell' W2 gf (.int .i64 (wrap64 (wrap64 (wrap64 (wrap64 (F+d) - 1)*1440)+at_)))
       have g2:=grownBy_setCell' (W2.setCell ⟨gf,0,none⟩ (.int .i64 (wrap64 (wrap64 (wrap64 (wrap64 (F+d) - 1)*1440)+at_)))) ge (.int .i64 0)
       refine ⟨((Nx.keeps_below hbr2.out).trans (KeepsFrom.of_grownBy g1 (fun j e=>by cases e; exact hFE.out.1))).trans (KeepsFrom.of_grownBy g2 (fun j e=>by cases e; exact hFE.out.2.1)),rfl,pre,(n,F,N),_,rfl,hall.out,hv,?_,?_,?_⟩
       ·exact ((Nx.Only2.of_below (hb1.out.trans (hbr2.out.mono hb1.out.size))).grown g1 (fun r e=>by cases e; exact .inr (.inl rfl))).grown g2 (fun r e=>by cases e; exact .inr (.inr rfl))
       ·exact (Below.heap_setCell _ _ _ gf hfe).trans (blk_put (blk_below hFE.out.2.2.1 hbr2.out) 0 _ rfl)
       ·exact blk_put ((Below.heap_setCell _ _ _ ge (Ne.symm hfe)).trans (blk_below hFE.out.2.2.2.1 hbr2.out)) 0 _ rfl
      | false=>
       replace hx:Hid (Nx.dayV so cd (st % 1440) (n,F,N) f (d - 1)=R):=Lib.hid (by have:=hx.out; rwa [if_neg (by decide)] at this)
       gi_wp2_with fail
       go_roundw
       case rel=>exact ⟨f,d - 1,rfl,hx,Lib.hid (by have:=hfd.out; omega),by omega,by omega,hbr2⟩
       case measure=>simp only [intOf]; omega
   ·have hf0:f=0:=by have:=hfd.out; omega
    subst hf0
    have hnone:Nx.dayV so cd (st % 1440) (n,F,N) 31 31=none:=by rw [hR.out,← hx.out]; rfl
    have ed:decide (1≤d)=false:=decide_eq_false hd
    gi_wp2_with fail
    refine ⟨Nx.keeps_below hbr.out,⟨hbr.out.block qc (by have:=hFE.out; have:=hb1.out.size; omega),hbr.out.block qb (by have:=hFE.out; have:=hb1.out.size; omega),hbr.out.block qx (by have:=hFE.out; have:=hb1.out.size; omega)⟩,hb1.out.trans (hbr.out.mono hb1.out.size),?_⟩
    intro xa xb xc hx
    rcases List.mem_append.1 (show (xa,xb,xc) ∈ pre ++ [(n,F,N)] by simpa using hx) with h | h
    ·exact hall.out (xa,xb,xc) h
    ·rw [List.mem_singleton.1 h]
     exact hnone
 case done=>
  rintro D xs W' hD rfl ⟨hb,hall⟩ hK
  refine hdone.out D W' hD hb ?_ hK
  rw [List.findSome?_eq_none_iff]
  exact hall
 case stop=>
  rintro D c pre W' hD hpre ⟨rfl,p,x,r,rfl,h3,h4,h5,h6,h7⟩ hK
  obtain ⟨tl,htl⟩ :=hpre
  have hfs:L.findSome? (fun x=>Nx.dayV so cd (st % 1440) x 31 31)=some r:=by
   rw [← htl,List.append_assoc,List.findSome?_append,List.findSome?_eq_none_iff.2 h3]
   simp [h4]
  have:=hstop.out D W' r hD h5 hfs h6 h7 hK
  gi_wp2
  exact this
end
def Nx.prevS (so:Int→Int × Bool)(mk:Int→Int→Int × Int)(m:Int):Int × Int:=
 match (Nx.mons mk (-1) 20000 (Civ.of (mn m 541728000 - 1)).1 (Civ.of (mn m 541728000 - 1)).2.1 0).findSome? (fun x=>Nx.dayV so (Civ.of (mn m 541728000 - 1)).2.2.1 ((mn m 541728000 - 1) % 1440) x 31 31) with
 | some r=>(r,0)
 | none=>(0,11)
section
open Go.Shelf
attribute [local go_sem] Oper.semAt_some
set_option maxHeartbeats 8000000 in
set_option maxRecDepth 1000000 in
theorem Nx.prev_good (b0:Int)(s0:Bool)(b1:Int)(s1:Bool)(b2:Int)(s2:Bool)(b3:Int)(s3:Bool)(b4:Int)(s4:Bool)(hok:Dy.okS b0 b1 b2 b3 b4=true)(A:next_odd.f b0 s0 b1 s1 b2 s2 b3 s3 b4 s4=some false)
  (so:Int→Int × Bool) (hso:∀ t,next_late.f 100 b0 s0 b1 s1 b2 s2 b3 s3 b4 s4 t=some ((so t).1,(so t).2)) (m:Int) (hm:0 < m) (w:World) (hT:Tab w) :
  CallsIn Fence.wide 6 Tryz.prog 13 #[.agg #[.int .u64 b0,.bool s0,.int .u64 b1,.bool s1,.int .u64 b2,.bool s2,.int .u64 b3,.bool s3,.int .u64 b4,.bool s4],.int .i64 m] w fun e w'=>
   e=.returned (.tuple #[.int .i64 (Nx.prevS so (Dy.mask false b2 s2 b3 b4 s4) m).1,.int .i64 (Nx.prevS so (Dy.mask false b2 s2 b3 b4 s4) m).2])∧Below w.heap.size w w':=by
 have hx1:0 < mn m 541728000:=by unfold mn; split <;> omega
 have hx2:mn m 541728000≤541728000:=by unfold mn; split <;> omega
 obtain ⟨S,hS⟩:∃ S,Nx.prevS so (Dy.mask false b2 s2 b3 b4 s4) m=S:=⟨_,rfl⟩
 rw [hS]
 unfold Nx.prevS at hS
 have hd1:decide (m≤0)=false:=decide_eq_false (by omega)
 obtain ⟨X,hX⟩:∃ X,mn m 541728000=X:=⟨_,rfl⟩
 rw [hX] at hx1 hx2 hS
 have hif:(if 541728000 < m then (541728000:Int) else m)=X:=by rw [← hX]; rfl
 obtain ⟨y0,m0,cd,c3,c4,c5,ce,hO⟩:∃ y0 m0 cd c3 c4 c5 ce,Civ.of (X - 1)=(y0,m0,cd,c3,c4,c5,ce):=⟨_,_,_,_,_,_,_,rfl⟩
 obtain ⟨hy1,hy2,hm1,hm2⟩:1970≤y0∧y0≤2999∧1≤m0∧m0≤12:=by
  unfold Civ.of at hO
  rw [if_neg (by omega)] at hO
  obtain ⟨ok,-⟩ :=Civ.date_ok (d:=(X - 1) / 1440) (by omega) (by omega)
  injection hO with e1 e
  injection e with e2 e
  obtain ⟨q1,q2,q3,q4,-,-⟩ :=ok
  omega
 rw [hO] at hS
 dsimp only at hS
 have B:day_odd.f b0 s0 b1 s1 b2 s2 b3 s3 b4 s4=some false:=A
 have HB:=Aside0.mk (show Spc.Row (w.alloc (.cells #[.int .u64 b0,.bool s0,.int .u64 b1,.bool s1,.int .u64 b2,.bool s2,.int .u64 b3,.bool s3,.int .u64 b4,.bool s4] 26)) w.heap.size b0 s0 b1 s1 b2 s2 b3 s3 b4 s4∧Below w.heap.size w (w.alloc (.cells #[.int .u64 b0,.bool s0,.int .u64 b1,.bool s1,.int .u64 b2,.bool s2,.int .u64 b3,.bool s3,.int .u64 b4,.bool s4] 26)) from ⟨blk_new w _,below_alloc (Below.refl _ _) _⟩)
 replace hO:=Lib.hid hO
 replace hS:=Lib.hid hS
 replace hso:=Lib.hid hso
 replace A:=Lib.hid A
 replace B:=Lib.hid B
 replace hok:=Lib.hid hok
 refine callsIn_of_wp_marks Tryz.func13 rfl trivial ?_ rfl
 simp only [Tryz.ntmps13,List.size_toArray,List.length_cons,List.length_nil,Nat.reduceAdd,Nat.reduceSub,Array.replicate_succ,Array.replicate_zero,List.push_toArray,List.append_toArray,List.nil_append,List.cons_append]
 gi_wp2_with fail
 refine wpIn_wide.2 (wp_scope_straight ((wpIn_wide (n:=6)).1 ?_))
 gi_wp2_with fail
 refine ⟨trivial,?_⟩
 generalize w.alloc (.cells #[.int .u64 b0,.bool s0,.int .u64 b1,.bool s1,.int .u64 b2,.bool s2,.int .u64 b3,.bool s3,.int .u64 b4,.bool s4] 26)=w1 at HB ⊢
 refine (callsIn_wide.2 (next_odd.calls _ _ _ _ _ _ _ _ _ _ _ _ A.out)).mono ?_
 rintro e w2 ⟨rfl,hb⟩
 have H2:=Aside0.mk (show Spc.Row w2 w.heap.size b0 s0 b1 s1 b2 s2 b3 s3 b4 s4∧Below w.heap.size w w2 from ⟨blk_below HB.out.1 hb,below_step HB.out.2 hb⟩)
 clear HB hb A
 obtain ⟨k0,k1,k2,k3,k4,k5,k6,k7,k8,k9⟩ :=H2.out.1.cells
 gi_wp2_with fail
 refine ⟨trivial,?_⟩
 have H3:=Aside0.mk (show Spc.Row (w2.alloc (.cells #[.int .i64 (X - 1)] 3)) w.heap.size b0 s0 b1 s1 b2 s2 b3 s3 b4 s4∧Below w.heap.size w (w2.alloc (.cells #[.int .i64 (X - 1)] 3))∧(w2.alloc (.cells #[.int .i64 (X - 1)] 3)).heap[w2.heap.size]?=some (.cells #[.int .i64 (X - 1)] 3 (0,0)) from ⟨blk_alloc H2.out.1 _,below_alloc H2.out.2 _,heap_alloc_new _ _⟩)
 obtain ⟨gs,hgs⟩:∃ g,w2.heap.size=g:=⟨_,rfl⟩
 have hgs1:w.heap.size < gs:=by rw [← hgs]; exact blk_lt H2.out.1
 rw [hgs] at H3 ⊢
 generalize w2.alloc (.cells #[.int .i64 (X - 1)] 3)=w3 at H3 ⊢
 clear H2 k0 k1 k2 k3 k4 k5 k6 k7 k8 k9 hgs
 refine (callsIn_wide.2 (civil_Of.calls 2 (X - 1) y0 m0 cd c3 c4 c5 ce _ (by rw [Civ.of_f (X - 1) 2 (by decide),hO.out]))).mono ?_
 rintro e w4 ⟨rfl,hb⟩
 have H4:=Aside0.mk (show Spc.Row w4 w.heap.size b0 s0 b1 s1 b2 s2 b3 s3 b4 s4∧Below w.heap.size w w4∧w4.heap[gs]?=some (.cells #[.int .i64 (X - 1)] 3 (0,0)) from ⟨blk_below H3.out.1 hb,below_step H3.out.2.1 hb,blk_below H3.out.2.2 hb⟩)
 clear H3 hb
 obtain ⟨k0,k1,k2,k3,k4,k5,k6,k7,k8,k9⟩ :=H4.out.1.cells
 gi_wp2_with fail
 refine wpIn_label ?_
 obtain ⟨g,hg⟩:∃ g,w4.heap.size=g:=⟨_,rfl⟩
 have hg1:gs < g:=by rw [← hg]; exact blk_lt H4.out.2.2
 have hal:=Nx.alloc3 w4 g hg (.cells #[.int .i64 y0,.int .i64 m0,.int .i64 cd,.int .i64 c3,.int .i64 c4,.int .i64 c5] 42) (.cells #[.int .i64 0] 3) (.cells #[.int .i64 11] 28)
 have hbl:=below_alloc (below_alloc (below_alloc (Below.refl w4.heap.size w4) (.cells #[.int .i64 y0,.int .i64 m0,.int .i64 cd,.int .i64 c3,.int .i64 c4,.int .i64 c5] 42)) (.cells #[.int .i64 0] 3)) (.cells #[.int .i64 11] 28)
 generalize (((w4.alloc (.cells #[.int .i64 y0,.int .i64 m0,.int .i64 cd,.int .i64 c3,.int .i64 c4,.int .i64 c5] 42)).alloc (.cells #[.int .i64 0] 3)).alloc (.cells #[.int .i64 11] 28))=w5 at hal hbl ⊢
 rw [hg]
 clear k0 k1 k2 k3 k4 k5 k6 k7 k8 k9
 have H5:=Aside0.mk (show Spc.Row w5 w.heap.size b0 s0 b1 s1 b2 s2 b3 s3 b4 s4∧Below w.heap.size w w5∧w5.heap[gs]?=some (.cells #[.int .i64 (X - 1)] 3 (0,0)) from ⟨blk_below H4.out.1 hbl,below_step H4.out.2.1 hbl,blk_below H4.out.2.2 hbl⟩)
 clear H4 hbl hg
 have hal2:=Aside0.mk hal
 obtain ⟨k0,k1,k2,k3,k4,k5,k6,k7,k8,k9⟩ :=H5.out.1.cells
 have v0:w5.cell? ⟨g,0,none⟩=some (.int .i64 y0):=(blk_cell hal.2.1 0).trans rfl
 have v1:w5.cell? ⟨g,1,none⟩=some (.int .i64 m0):=(blk_cell hal.2.1 1).trans rfl
 have v2:w5.cell? ⟨g,2,none⟩=some (.int .i64 cd):=(blk_cell hal.2.1 2).trans rfl
 have v3:w5.cell? ⟨g,3,none⟩=some (.int .i64 c3):=(blk_cell hal.2.1 3).trans rfl
 have v4:w5.cell? ⟨g,4,none⟩=some (.int .i64 c4):=(blk_cell hal.2.1 4).trans rfl
 have v5:w5.cell? ⟨g,5,none⟩=some (.int .i64 c5):=(blk_cell hal.2.1 5).trans rfl
 clear hal
 gi_wp2_with fail
 refine ⟨trivial,?_⟩
 refine (callsIn_wide.2 (Nx.months_box b0 s0 b1 s1 b2 s2 b3 s3 b4 s4 y0 m0 cd c3 c4 c5 (-1) w5)).mono ?_
 rintro e w6 ⟨rfl,hb,hz,hqc,hqb,hqx⟩
 have hsz:=hal2.out.1
 have H6:=Aside0.mk (show Spc.Row w6 w.heap.size b0 s0 b1 s1 b2 s2 b3 s3 b4 s4∧Below w.heap.size w w6∧w6.heap[gs]?=some (.cells #[.int .i64 (X - 1)] 3 (0,0))∧w6.heap[g]?=some (.cells #[.int .i64 y0,.int .i64 m0,.int .i64 cd,.int .i64 c3,.int .i64 c4,.int .i64 c5] 42 (0,0))∧w6.heap[g+1]?=some (.cells #[.int .i64 0] 3 (0,0))∧w6.heap[g+1+1]?=some (.cells #[.int .i64 11] 28 (0,0)) from
  ⟨blk_below H5.out.1 hb,below_step H5.out.2.1 hb,blk_below H5.out.2.2 hb,blk_below hal2.out.2.1 hb,blk_below hal2.out.2.2.1 hb,blk_below hal2.out.2.2.2 hb⟩)
 rw [hsz] at hz hqc hqb hqx ⊢
 clear H5 hal2 hb hsz k0 k1 k2 k3 k4 k5 k6 k7 k8 k9 v0 v1 v2 v3 v4 v5
 replace hqc:=Aside0.mk hqc
 replace hqb:=Aside0.mk hqb
 replace hqx:=Aside0.mk hqx
 gi_wp2_with fail
 refine Nx.prev_range _ _ _ _ _ _ _ _ _ _ _ _ _ _ _ _ _ _ _ _ _ _ _ _ _ _ _ _ _ _ _ _ _ _ _ _ _ _ _ _ _ _ _ _ _ _ _ _ _ _ _ _ _ _ _ _ _ _ _ _ _ _ _ _ _ _ _ _ _ _ _ _ _ _ _ _ w.heap.size gs g (g+1) (g+1+1) (g+1+1+1+1) (g+1+1+1+2) (g+1+1+1) b0 s0 b1 s1 b2 s2 b3 s3 b4 s4 hok.out B.out so hso.out (X - 1) y0 m0 cd c3 c4 c5 [] w6 (hT.keep H6.out.2.1) H6.out.1 H6.out.2.2.1 H6.out.2.2.2.1 H6.out.2.2.2.2.1 H6.out.2.2.2.2.2 hqc.out hqb.out hqx.out (by omega) (by omega) hy1 hy2 hm1 hm2 _ ?_ ?_
 ·intro D W' hD hb hfs hK
  have hv:S=(0,11):=by rw [← hS.out,hfs]
  have hg0:W'.heap[g+1]?=some (.cells #[.int .i64 0] 3 (0,0)):=blk_below H6.out.2.2.2.2.1 hb
  have hg1':W'.heap[g+1+1]?=some (.cells #[.int .i64 11] 28 (0,0)):=blk_below H6.out.2.2.2.2.2 hb
  have a0:W'.cell? ⟨g+1,0,none⟩=some (.int .i64 0):=(blk_cell hg0 0).trans rfl
  have a1:W'.cell? ⟨g+1+1,0,none⟩=some (.int .i64 11):=(blk_cell hg1' 0).trans rfl
  have HB2:Below w.heap.size w W':=H6.out.2.1.trans (hb.mono H6.out.2.1.size)
  replace hv:=Lib.hid hv
  gi_wp2_with fail
  gi_region
  gi_wp2_with fail
  dsimp only [Exit.noGoto]
  have hKb:=below_drew1 (Below.refl W'.heap.size W')
  refine Fld.leave w.heap.size _ (D+1) _ ⟨D,rfl,by have:=H6.out.2.1.size; omega,by omega,(hKb.block D (Array.getElem?_eq_some_iff.1 hK).1).trans hK,trivial⟩ ?_
  intro W2 hb2 hc
  refine ⟨.tuple #[.int .i64 0,.int .i64 11],by simp [results,Tryz.results13,go_sem],by rw [hv.out],?_⟩
  exact ((HB2.trans (hKb.mono (by have:=HB2.size; omega))).trans hb2)
 ·intro D W' r hD hO2 hfs hf he hK
  have hv:S=(r,0):=by rw [← hS.out,hfs]
  have a0:W'.cell? ⟨g+1,0,none⟩=some (.int .i64 r):=(blk_cell hf 0).trans rfl
  have a1:W'.cell? ⟨g+1+1,0,none⟩=some (.int .i64 0):=(blk_cell he 0).trans rfl
  have HB2:Below w.heap.size w W':=H6.out.2.1.trans (hO2.below (by omega) (by omega) H6.out.2.1.size)
  replace hv:=Lib.hid hv
  gi_wp2_with fail
  gi_region
  gi_wp2_with fail
  dsimp only [Exit.noGoto]
  have hKb:=below_drew1 (Below.refl W'.heap.size W')
  refine Fld.leave w.heap.size _ (D+1) _ ⟨D,rfl,by have:=H6.out.2.1.size; omega,by omega,(hKb.block D (Array.getElem?_eq_some_iff.1 hK).1).trans hK,trivial⟩ ?_
  intro W2 hb2 hc
  refine ⟨.tuple #[.int .i64 r,.int .i64 0],by simp [results,Tryz.results13,go_sem],by rw [hv.out],?_⟩
  exact ((HB2.trans (hKb.mono (by have:=HB2.size; omega))).trans hb2)
set_option maxHeartbeats 8000000 in
set_option maxRecDepth 1000000 in
theorem Nx.prev_odd (b0:Int)(s0:Bool)(b1:Int)(s1:Bool)(b2:Int)(s2:Bool)(b3:Int)(s3:Bool)(b4:Int)(s4:Bool)(A:next_odd.f b0 s0 b1 s1 b2 s2 b3 s3 b4 s4=some true)(m:Int)(w:World) :
  CallsIn Fence.wide 6 Tryz.prog 13 #[.agg #[.int .u64 b0,.bool s0,.int .u64 b1,.bool s1,.int .u64 b2,.bool s2,.int .u64 b3,.bool s3,.int .u64 b4,.bool s4],.int .i64 m] w fun e w'=>
   e=.returned (.tuple #[.int .i64 0,.int .i64 2])∧Below w.heap.size w w':=by
 have HB:=Aside0.mk (show Spc.Row (w.alloc (.cells #[.int .u64 b0,.bool s0,.int .u64 b1,.bool s1,.int .u64 b2,.bool s2,.int .u64 b3,.bool s3,.int .u64 b4,.bool s4] 26)) w.heap.size b0 s0 b1 s1 b2 s2 b3 s3 b4 s4∧Below w.heap.size w (w.alloc (.cells #[.int .u64 b0,.bool s0,.int .u64 b1,.bool s1,.int .u64 b2,.bool s2,.int .u64 b3,.bool s3,.int .u64 b4,.bool s4] 26)) from ⟨blk_new w _,below_alloc (Below.refl _ _) _⟩)
 replace A:=Lib.hid A
 refine callsIn_of_wp_marks Tryz.func13 rfl trivial ?_ rfl
 simp only [Tryz.ntmps13,List.size_toArray,List.length_cons,List.length_nil,Nat.reduceAdd,Nat.reduceSub,Array.replicate_succ,Array.replicate_zero,List.push_toArray,List.append_toArray,List.nil_append,List.cons_append]
 gi_wp2_with fail
 refine wpIn_wide.2 (wp_scope_straight ((wpIn_wide (n:=6)).1 ?_))
 gi_wp2_with fail
 refine ⟨trivial,?_⟩
 generalize w.alloc (.cells #[.int .u64 b0,.bool s0,.int .u64 b1,.bool s1,.int .u64 b2,.bool s2,.int .u64 b3,.bool s3,.int .u64 b4,.bool s4] 26)=w1 at HB ⊢
 refine (callsIn_wide.2 (next_odd.calls _ _ _ _ _ _ _ _ _ _ _ _ A.out)).mono ?_
 rintro e w2 ⟨rfl,hb⟩
 have H2:=Aside0.mk (below_step HB.out.2 hb)
 clear HB hb A
 gi_wp2_with fail
 dsimp only [Exit.noGoto]
 refine Fld.leave w.heap.size _ 0 _ trivial ?_
 intro W2 hb2 hc
 refine ⟨.tuple #[.int .i64 0,.int .i64 2],by simp [results,Tryz.results13,go_sem],rfl,?_⟩
 exact H2.out.trans hb2
set_option maxHeartbeats 8000000 in
set_option maxRecDepth 1000000 in
theorem Nx.prev_late (b0:Int)(s0:Bool)(b1:Int)(s1:Bool)(b2:Int)(s2:Bool)(b3:Int)(s3:Bool)(b4:Int)(s4:Bool)(A:next_odd.f b0 s0 b1 s1 b2 s2 b3 s3 b4 s4=some false)(m:Int)(hm:m≤0)(w:World) :
  CallsIn Fence.wide 6 Tryz.prog 13 #[.agg #[.int .u64 b0,.bool s0,.int .u64 b1,.bool s1,.int .u64 b2,.bool s2,.int .u64 b3,.bool s3,.int .u64 b4,.bool s4],.int .i64 m] w fun e w'=>
   e=.returned (.tuple #[.int .i64 0,.int .i64 11])∧Below w.heap.size w w':=by
 have HB:=Aside0.mk (show Spc.Row (w.alloc (.cells #[.int .u64 b0,.bool s0,.int .u64 b1,.bool s1,.int .u64 b2,.bool s2,.int .u64 b3,.bool s3,.int .u64 b4,.bool s4] 26)) w.heap.size b0 s0 b1 s1 b2 s2 b3 s3 b4 s4∧Below w.heap.size w (w.alloc (.cells #[.int .u64 b0,.bool s0,.int .u64 b1,.bool s1,.int .u64 b2,.bool s2,.int .u64 b3,.bool s3,.int .u64 b4,.bool s4] 26)) from ⟨blk_new w _,below_alloc (Below.refl _ _) _⟩)
 replace A:=Lib.hid A
 have hd1:decide (m≤0)=true:=decide_eq_true hm
 refine callsIn_of_wp_marks Tryz.func13 rfl trivial ?_ rfl
 simp only [Tryz.ntmps13,List.size_toArray,List.length_cons,List.length_nil,Nat.reduceAdd,Nat.reduceSub,Array.replicate_succ,Array.replicate_zero,List.push_toArray,List.append_toArray,List.nil_append,List.cons_append]
 gi_wp2_with fail
 refine wpIn_wide.2 (wp_scope_straight ((wpIn_wide (n:=6)).1 ?_))
 gi_wp2_with fail
 refine ⟨trivial,?_⟩
 generalize w.alloc (.cells #[.int .u64 b0,.bool s0,.int .u64 b1,.bool s1,.int .u64 b2,.bool s2,.int .u64 b3,.bool s3,.int .u64 b4,.bool s4] 26)=w1 at HB ⊢
 refine (callsIn_wide.2 (next_odd.calls _ _ _ _ _ _ _ _ _ _ _ _ A.out)).mono ?_
 rintro e w2 ⟨rfl,hb⟩
 have H2:=Aside0.mk (below_step HB.out.2 hb)
 clear HB hb A
 gi_wp2_with fail
 dsimp only [Exit.noGoto]
 refine Fld.leave w.heap.size _ 0 _ trivial ?_
 intro W2 hb2 hc
 refine ⟨.tuple #[.int .i64 0,.int .i64 11],by simp [results,Tryz.results13,go_sem],rfl,?_⟩
 exact H2.out.trans hb2
end
/-! This session's own: next.last and next.late answer at every field that is a u64. -/
theorem Nx.last_tot (b:Int)(s:Bool)(v:Int)(hb:Dy.InU b):∃ r,next_last.f b s v=some r:=by
 have hand:∀ z:Int,0≤Go.bits .and .u64 b (IntKind.u64.wrap z)∧Go.bits .and .u64 b (IntKind.u64.wrap z) < 18446744073709551616:=by
  intro z
  have hz:0≤IntKind.u64.wrap z∧IntKind.u64.wrap z < 18446744073709551616:=by simp [IntKind.wrap,IntKind.bits,IntKind.signed]; omega
  obtain ⟨n,hn⟩:∃ n:Nat,b=n:=⟨b.toNat,by unfold Dy.InU at hb; omega⟩
  obtain ⟨k,hk⟩:∃ k:Nat,IntKind.u64.wrap z=k:=⟨(IntKind.u64.wrap z).toNat,by omega⟩
  unfold Dy.InU at hb
  have h64:(2:Nat) ^ 64=18446744073709551616:=by decide
  rw [hk,hn,(bits_nat .u64 64 (by decide) (fun z h0 h1=>IntWalk.u64_in z ⟨h0,by omega⟩) n k (by omega) (by omega)).1]
  have:=@Nat.and_le_left n k
  omega
 unfold next_last.f
 split
 ·exact ⟨_,rfl⟩
 ·have hw:0≤IntKind.u64.wrap (mn v 62):=by simp [IntKind.wrap,IntKind.bits,IntKind.signed]; omega
  rw [if_pos hw]
  unfold bits_Len64.f
  rw [if_pos (hand _)]
  exact ⟨_,rfl⟩
theorem Nx.late_tot (b0:Int)(s0:Bool)(b1:Int)(s1:Bool)(b2:Int)(s2:Bool)(b3:Int)(s3:Bool)(b4:Int)(s4:Bool)(h0:Dy.InU b0)(h1:Dy.InU b1)(t:Int):∃ r,next_late.f 100 b0 s0 b1 s1 b2 s2 b3 s3 b4 s4 t=some r:=by
 unfold next_late.f
 obtain ⟨⟨m,ok⟩,A⟩ :=Nx.last_tot b0 s0 (Int.tmod t 60) h0
 rw [A]
 simp only [Option.bind_some]
 have hj:∀ q,∃ r,next_late.j0 100 t m q b0 s0 b1 s1 b2 s2 b3 s3 b4 s4=some r:=by
  intro q
  rw [show (100:Nat)=99+1 from rfl,next_late.j0]
  split
  ·exact ⟨_,rfl⟩
  ·obtain ⟨⟨x,ox⟩,C⟩ :=Nx.last_tot b1 s1 (wrap64 (wrap64 (Int.tdiv t 60) - 1)) h1
   rw [C]
   simp only [Option.bind_some]
   split
   ·obtain ⟨⟨u,ou⟩,D⟩ :=Nx.last_tot b0 s0 59 h0
    rw [D]
    exact ⟨_,rfl⟩
   ·exact ⟨_,rfl⟩
 split
 ·rw [Dy.has_f b1 s1 _ h1]
  exact hj _
 ·exact hj _
def next_Prev.f (a0_0:Int)(a0_1:Bool)(a0_2:Int)(a0_3:Bool)(a0_4:Int)(a0_5:Bool)(a0_6:Int)(a0_7:Bool)(a0_8:Int)(a0_9:Bool)(a1:Int):Option (Int × Int):=if Dy.okS a0_0 a0_2 a0_4 a0_6 a0_8=true then (next_odd.f a0_0 a0_1 a0_2 a0_3 a0_4 a0_5 a0_6 a0_7 a0_8 a0_9).bind fun o=>some (if o=true then ((0:Int),(2:Int)) else if a1≤0 then (0,11) else Nx.prevS (fun t=>(next_late.f 100 a0_0 a0_1 a0_2 a0_3 a0_4 a0_5 a0_6 a0_7 a0_8 a0_9 t).getD (0,false)) (Dy.mask false a0_4 a0_5 a0_6 a0_8 a0_9) a1) else none
set_option maxHeartbeats 8000000 in
set_option maxRecDepth 100000 in
theorem next_Prev.calls (a0_0:Int)(a0_1:Bool)(a0_2:Int)(a0_3:Bool)(a0_4:Int)(a0_5:Bool)(a0_6:Int)(a0_7:Bool)(a0_8:Int)(a0_9:Bool)(a1:Int)(r1:Int)(r2:Int)(w:World)(hT:Tab w)(h:next_Prev.f a0_0 a0_1 a0_2 a0_3 a0_4 a0_5 a0_6 a0_7 a0_8 a0_9 a1=some (r1,r2)) :
  Calls Tryz.prog 13 #[.agg #[.int .u64 a0_0,.bool a0_1,.int .u64 a0_2,.bool a0_3,.int .u64 a0_4,.bool a0_5,.int .u64 a0_6,.bool a0_7,.int .u64 a0_8,.bool a0_9],.int .i64 a1] w fun e w'=>e=.returned (.tuple #[.int .i64 r1,.int .i64 r2])∧Below w.heap.size w w':=by
 have HB:=Aside0.mk (Below.refl w.heap.size w)
 have hh:(if Dy.okS a0_0 a0_2 a0_4 a0_6 a0_8=true then (next_odd.f a0_0 a0_1 a0_2 a0_3 a0_4 a0_5 a0_6 a0_7 a0_8 a0_9).bind fun o=>some (if o=true then ((0:Int),(2:Int)) else if a1≤0 then (0,11) else Nx.prevS (fun t=>(next_late.f 100 a0_0 a0_1 a0_2 a0_3 a0_4 a0_5 a0_6 a0_7 a0_8 a0_9 t).getD (0,false)) (Dy.mask false a0_4 a0_5 a0_6 a0_8 a0_9) a1) else none)=some (r1,r2):=h
 clear h
 by_cases hok:Dy.okS a0_0 a0_2 a0_4 a0_6 a0_8=true
 ·rw [if_pos hok] at hh
  obtain ⟨o,A,hm⟩ :=Option.bind_eq_some_iff.1 hh
  cases o with
  | true=>
   rw [if_pos rfl] at hm
   obtain ⟨rfl,rfl⟩ :=Prod.mk.inj (Option.some.inj hm)
   exact callsIn_wide.1 (Nx.prev_odd a0_0 a0_1 a0_2 a0_3 a0_4 a0_5 a0_6 a0_7 a0_8 a0_9 A a1 w)
  | false=>
   rw [if_neg (by decide)] at hm
   by_cases hl:a1≤0
   ·rw [if_pos hl] at hm
    obtain ⟨rfl,rfl⟩ :=Prod.mk.inj (Option.some.inj hm)
    exact callsIn_wide.1 (Nx.prev_late a0_0 a0_1 a0_2 a0_3 a0_4 a0_5 a0_6 a0_7 a0_8 a0_9 A a1 hl w)
   ·rw [if_neg hl] at hm
    have k:=Nx.prev_good a0_0 a0_1 a0_2 a0_3 a0_4 a0_5 a0_6 a0_7 a0_8 a0_9 hok A (fun t=>(next_late.f 100 a0_0 a0_1 a0_2 a0_3 a0_4 a0_5 a0_6 a0_7 a0_8 a0_9 t).getD (0,false)) (fun t=>by
     obtain ⟨h0,h1,-⟩ :=of_decide_eq_true hok
     obtain ⟨r,hr⟩ :=Nx.late_tot a0_0 a0_1 a0_2 a0_3 a0_4 a0_5 a0_6 a0_7 a0_8 a0_9 h0 h1 t
     rw [hr]; rfl) a1 (by omega) w hT
    rw [Option.some.inj hm] at k
    exact callsIn_wide.1 k
 ·rw [if_neg hok] at hh
  cases hh
def day_Match.f (a0_0:Int)(a0_1:Bool)(a0_2:Int)(a0_3:Bool)(a0_4:Int)(a0_5:Bool)(a0_6:Int)(a0_7:Bool)(a0_8:Int)(a0_9:Bool)(a1:Int):Option (Bool × Int):=if Dy.okS a0_0 a0_2 a0_4 a0_6 a0_8=true then (day_odd.f a0_0 a0_1 a0_2 a0_3 a0_4 a0_5 a0_6 a0_7 a0_8 a0_9).bind fun o=>some (Dy.match_ o a0_0 a0_2 a0_4 a0_5 a0_6 a0_8 a0_9 a1) else none
set_option maxHeartbeats 8000000 in
set_option maxRecDepth 100000 in
theorem day_Match.calls (a0_0:Int)(a0_1:Bool)(a0_2:Int)(a0_3:Bool)(a0_4:Int)(a0_5:Bool)(a0_6:Int)(a0_7:Bool)(a0_8:Int)(a0_9:Bool)(a1:Int)(r1:Bool)(r2:Int)(w:World)(h:day_Match.f a0_0 a0_1 a0_2 a0_3 a0_4 a0_5 a0_6 a0_7 a0_8 a0_9 a1=some (r1,r2)) :
  Calls Tryz.prog 17 #[.agg #[.int .u64 a0_0,.bool a0_1,.int .u64 a0_2,.bool a0_3,.int .u64 a0_4,.bool a0_5,.int .u64 a0_6,.bool a0_7,.int .u64 a0_8,.bool a0_9],.int .i64 a1] w fun e w'=>e=.returned (.tuple #[.bool r1,.int .i64 r2])∧Below w.heap.size w w':=by
 have hh:(if Dy.okS a0_0 a0_2 a0_4 a0_6 a0_8=true then (day_odd.f a0_0 a0_1 a0_2 a0_3 a0_4 a0_5 a0_6 a0_7 a0_8 a0_9).bind fun o=>some (Dy.match_ o a0_0 a0_2 a0_4 a0_5 a0_6 a0_8 a0_9 a1) else none)=some (r1,r2):=h
 clear h
 by_cases hok:Dy.okS a0_0 a0_2 a0_4 a0_6 a0_8=true
 ·rw [if_pos hok] at hh
  obtain ⟨o,A,hm⟩ :=Option.bind_eq_some_iff.1 hh
  obtain ⟨h0,h1,h2,h3,h4⟩ :=of_decide_eq_true hok
  have k:=Dy.match_top a0_0 a0_1 a0_2 a0_3 a0_4 a0_5 a0_6 a0_7 a0_8 a0_9 a1 o A w h0 h1 h2 h3 h4
  rw [Option.some.inj hm] at k
  exact k
 ·rw [if_neg hok] at hh
  cases hh
def day_Minutes.f (a0_0:Int)(a0_1:Bool)(a0_2:Int)(a0_3:Bool)(a0_4:Int)(a0_5:Bool)(a0_6:Int)(a0_7:Bool)(a0_8:Int)(a0_9:Bool):Option (Int × Int):=(day_odd.f a0_0 a0_1 a0_2 a0_3 a0_4 a0_5 a0_6 a0_7 a0_8 a0_9).bind fun o=>if o=true then some (0,2) else (field_Count.f a0_2 a0_3).bind fun h=>(field_Count.f a0_0 a0_1).bind fun m=>some (wrap64 (h*m),0)
set_option maxHeartbeats 8000000 in
set_option maxRecDepth 100000 in
theorem day_Minutes.calls (a0_0:Int)(a0_1:Bool)(a0_2:Int)(a0_3:Bool)(a0_4:Int)(a0_5:Bool)(a0_6:Int)(a0_7:Bool)(a0_8:Int)(a0_9:Bool)(r1:Int)(r2:Int)(w:World)(h:day_Minutes.f a0_0 a0_1 a0_2 a0_3 a0_4 a0_5 a0_6 a0_7 a0_8 a0_9=some (r1,r2)) :
  Calls Tryz.prog 31 #[.agg #[.int .u64 a0_0,.bool a0_1,.int .u64 a0_2,.bool a0_3,.int .u64 a0_4,.bool a0_5,.int .u64 a0_6,.bool a0_7,.int .u64 a0_8,.bool a0_9]] w fun e w'=>e=.returned (.tuple #[.int .i64 r1,.int .i64 r2])∧Below w.heap.size w w':=by
 have hh:((day_odd.f a0_0 a0_1 a0_2 a0_3 a0_4 a0_5 a0_6 a0_7 a0_8 a0_9).bind fun o=>if o=true then some (0,2) else (field_Count.f a0_2 a0_3).bind fun h=>(field_Count.f a0_0 a0_1).bind fun m=>some (wrap64 (h*m),0))=some (r1,r2):=h
 clear h
 obtain ⟨o,A,hm⟩ :=Option.bind_eq_some_iff.1 hh
 cases o with
 | true=>
  rw [if_pos rfl] at hm
  obtain ⟨rfl,rfl⟩ :=Prod.mk.inj (Option.some.inj hm)
  exact Dy.minutes_bad a0_0 a0_1 a0_2 a0_3 a0_4 a0_5 a0_6 a0_7 a0_8 a0_9 A w
 | false=>
  rw [if_neg (by decide)] at hm
  obtain ⟨n1,A1,hm⟩ :=Option.bind_eq_some_iff.1 hm
  obtain ⟨n0,A0,hm⟩ :=Option.bind_eq_some_iff.1 hm
  have k:=Dy.minutes_top a0_0 a0_1 a0_2 a0_3 a0_4 a0_5 a0_6 a0_7 a0_8 a0_9 n1 n0 A1 A0 false A w
  rw [if_neg (by decide),Option.some.inj hm] at k
  exact k
/-! This session's own: bits.OnesCount32. -/
theorem Nx.and255 (y:Int)(h0:0≤y)(h1:y < 4294967296):Go.bits .and .u32 y 255=y % 256:=by
 obtain ⟨n,rfl⟩ :=Int.eq_ofNat_of_zero_le h0
 rw [show (255:Int)=((255:Nat):Int) from rfl,(bits_nat .u32 32 (by decide) (fun z q0 q1=>by simp [IntKind.wrap,IntKind.bits,IntKind.signed]; omega) n 255 (by omega) (by decide)).1]
 rw [show (255:Nat)=2 ^ 8 - 1 from rfl,Nat.and_two_pow_sub_one_eq_mod]
 omega
theorem Nx.popA_zero:∀ f,Lib.popAux f 0=0
 | 0=>rfl
 | f+1=>by rw [Lib.popAux,show (0:Nat) / 2=0 from rfl,Nx.popA_zero f]
theorem Nx.popA_split:∀ (k f x:Nat),Lib.popAux (k+f) x=Lib.popAux k x+Lib.popAux f (x / 2 ^ k)
 | 0,f,x=>by rw [Nat.zero_add,Nat.pow_zero,Nat.div_one]; exact (Nat.zero_add _).symm
 | k+1,f,x=>by
  rw [show k+1+f=(k+f)+1 by omega,Lib.popAux,Nx.popA_split k f (x / 2),Lib.popAux,Nat.div_div_eq_div_mul,← Nat.pow_succ',Nat.add_assoc]
theorem Nx.popA_mod:∀ (k x:Nat),Lib.popAux k (x % 2 ^ k)=Lib.popAux k x
 | 0,x=>rfl
 | k+1,x=>by
  have e:x % 2 ^ (k+1)=2*(x / 2 % 2 ^ k)+x % 2:=by
   rw [Nat.pow_succ',Nat.mod_mul]
   omega
  rw [Lib.popAux,Lib.popAux,e,show (2*(x / 2 % 2 ^ k)+x % 2) % 2=x % 2 by omega,show (2*(x / 2 % 2 ^ k)+x % 2) / 2=x / 2 % 2 ^ k by omega,Nx.popA_mod k (x / 2)]
theorem Nx.popA_le:∀ (k x:Nat),Lib.popAux k x≤k
 | 0,_=>Nat.le_refl _
 | k+1,x=>by have:=Nx.popA_le k (x / 2); rw [Lib.popAux]; omega
theorem Nx.pop8_of (b:Int)(h0:0≤b)(h1:b≤255):Lib.pop8 b=(Lib.popAux 8 b.toNat:Int):=by
 have e:=Lib.pop8_eq ⟨b.toNat,by omega⟩
 simp only [Int.toNat_of_nonneg h0] at e
 rw [e]
 unfold Lib.onesCount
 rw [show (64:Nat)=8+56 from rfl,Nx.popA_split,show b.toNat / 2 ^ 8=0 by omega,Nx.popA_zero,Nat.add_zero]
theorem Nx.pop_sum (x:Int)(h0:0≤x)(h1:x < 4294967296):(Lib.pop8 (x / 16777216)+Lib.pop8 (x / 65536 % 256)+Lib.pop8 (x / 256 % 256)+Lib.pop8 (x % 256)) % 256=(Lib.onesCount x.toNat:Int):=by
 obtain ⟨n,rfl⟩ :=Int.eq_ofNat_of_zero_le h0
 rw [Nx.pop8_of _ (by omega) (by omega),Nx.pop8_of _ (by omega) (by omega),Nx.pop8_of _ (by omega) (by omega),Nx.pop8_of _ (by omega) (by omega)]
 rw [show ((n:Int) / 16777216).toNat=n / 2 ^ 24 by omega,show ((n:Int) / 65536 % 256).toNat=n / 2 ^ 16 % 2 ^ 8 by omega,show ((n:Int) / 256 % 256).toNat=n / 2 ^ 8 % 2 ^ 8 by omega,show ((n:Int) % 256).toNat=n % 2 ^ 8 by omega,Nx.popA_mod,Nx.popA_mod,Nx.popA_mod]
 have e:Lib.onesCount n=Lib.popAux 8 n+(Lib.popAux 8 (n / 2 ^ 8)+(Lib.popAux 8 (n / 2 ^ 16)+Lib.popAux 8 (n / 2 ^ 24))):=by
  unfold Lib.onesCount
  rw [show (64:Nat)=8+(8+(8+(8+32))) from rfl,Nx.popA_split,Nx.popA_split,Nx.popA_split,Nx.popA_split,Nat.div_div_eq_div_mul,Nat.div_div_eq_div_mul,Nat.div_div_eq_div_mul,← Nat.pow_add,← Nat.pow_add,← Nat.pow_add,show n / 2 ^ (8+(8+(8+8)))=0 by omega,Nx.popA_zero]
  rfl
 have l1:=Nx.popA_le 8 n
 have l2:=Nx.popA_le 8 (n / 2 ^ 8)
 have l3:=Nx.popA_le 8 (n / 2 ^ 16)
 have l4:=Nx.popA_le 8 (n / 2 ^ 24)
 rw [Int.toNat_natCast,e]
 omega
theorem Nx.pop8_get (y:Int)(h:y.toNat < Lib.pop8tab.size):((Lib.pop8tab[y.toNat]'h).toNat:Int)=Lib.pop8 y:=by
 unfold Lib.pop8
 rw [getElem?_pos Lib.pop8tab y.toNat h]
 rfl
section
attribute [local go_sem] List.append_eq List.cons_append List.nil_append
set_option maxHeartbeats 4000000 in
set_option maxRecDepth 100000 in
theorem Nx.ones32_calls (x:Int)(h0:0≤x)(h1:x < 4294967296)(w:World) :
  Calls Tryz.prog 34 #[.int .u32 x] w fun e w'=>e=.returned (.int .i64 (Lib.onesCount x.toNat))∧Drawn0 w w':=by
 have s:(Lib.pop8tab.size:Int)=256:=by rw [Lib.pop8tab_size]; rfl
 have e16:=Nx.and255 (x / 65536) (by omega) (by omega)
 have e8:=Nx.and255 (x / 256) (by omega) (by omega)
 have e0:=Nx.and255 x h0 h1
 have r24:0≤x / 16777216∧x / 16777216 < (Lib.pop8tab.size:Int):=by omega
 have r16:0≤x / 65536 % 256∧x / 65536 % 256 < (Lib.pop8tab.size:Int):=by omega
 have r8:0≤x / 256 % 256∧x / 256 % 256 < (Lib.pop8tab.size:Int):=by omega
 have r0:0≤x % 256∧x % 256 < (Lib.pop8tab.size:Int):=by omega
 clear s
 go_enter Tryz.func34,Tryz.ntmps34
 go_wp2
 go_region
 go_wp2
 go_ret
 refine ⟨congrArg (fun z=>Ending.returned (.int .i64 z)) ?_,(Drawn0.refl w).step 1⟩
 rw [Nx.pop8_get]
 exact Nx.pop_sum x h0 h1
end
def bits_OnesCount32.f (a0:Int):Option (Int):=if 0≤a0∧a0 < 4294967296 then some ((Lib.onesCount a0.toNat:Nat):Int) else none
set_option maxHeartbeats 8000000 in
set_option maxRecDepth 100000 in
theorem bits_OnesCount32.calls (a0:Int)(r:Int)(w:World)(h:bits_OnesCount32.f a0=some r) :
  Calls Tryz.prog 34 #[.int .u32 a0] w fun e w'=>e=.returned (.int .i64 r)∧Drawn0 w w':=by
 unfold bits_OnesCount32.f at h
 split at h
 ·rename_i hb
  obtain rfl:=Option.some.inj h
  exact Nx.ones32_calls a0 hb.1 hb.2 w
 ·cases h
end Go.Proofs.YtabhfcoljgcpeaaGreatDoor.PNex
