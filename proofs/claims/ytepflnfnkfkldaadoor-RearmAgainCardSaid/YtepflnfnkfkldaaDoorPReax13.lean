-- Written by a program of this session (gprint.py) over the kit's print.
import Derived.Test.YtepflnfnkfkldaaDoorPReax0
import Derived.Test.YtepflnfnkfkldaaDoorPReax1
import Derived.Test.YtepflnfnkfkldaaDoorPReax12
namespace Go.Proofs.YtepflnfnkfkldaaDoor.PRea
open Go.RowKit Go.Proofs.YtepflnfnkfkldaaDoorW.PrintWords Go.Proofs.YtepflnfnkfkldaaDoorW.PrintLast Go.Proofs.YtepflnfnkfkldaaDoorW.PrintMore
attribute [local go_sem] max2_int min2_int max_two min_two max_three min_three max_four min_four
set_option linter.unusedVariables false
set_option linter.unusedSimpArgs false
attribute [local go_sem high] eqA26
mutual
def complineref23_Check.j0:Nat→Bool→Int→Int→Int→Int→Bool→Int→Bool→Int→Bool→Int→Bool→Int→Bool→Option (Int)
 | 0,_,_,_,_,_,_,_,_,_,_,_,_,_,_=>none
 | k+1,x13,x184000,x184001,x184002,x184003,x184004,x184005,x184006,x184007,x184008,x184009,x184010,x184011,x184012=>if x13=true then (some 7) else (if x184000=1 then (complineref23_Check.j1 k (x184001 == 0) x184000 x184001 x184002 x184003 x184004 x184005 x184006 x184007 x184008 x184009 x184010 x184011 x184012) else (complineref23_Check.j1 k false x184000 x184001 x184002 x184003 x184004 x184005 x184006 x184007 x184008 x184009 x184010 x184011 x184012))
def complineref23_Check.j1:Nat→Bool→Int→Int→Int→Int→Bool→Int→Bool→Int→Bool→Int→Bool→Int→Bool→Option (Int)
 | 0,_,_,_,_,_,_,_,_,_,_,_,_,_,_=>none
 | k+1,x21,x184000,x184001,x184002,x184003,x184004,x184005,x184006,x184007,x184008,x184009,x184010,x184011,x184012=>if x21=true then (some 10) else (if x184002 < 0 then (complineref23_Check.j2 k true x184000 x184001 x184002 x184003 x184004 x184005 x184006 x184007 x184008 x184009 x184010 x184011 x184012) else (if x184000=1 then (complineref23_Check.j2 k false x184000 x184001 x184002 x184003 x184004 x184005 x184006 x184007 x184008 x184009 x184010 x184011 x184012) else (if x184001=0 then (complineref23_Check.j2 k (x184002 != 0) x184000 x184001 x184002 x184003 x184004 x184005 x184006 x184007 x184008 x184009 x184010 x184011 x184012) else (complineref23_Check.j2 k true x184000 x184001 x184002 x184003 x184004 x184005 x184006 x184007 x184008 x184009 x184010 x184011 x184012))))
def complineref23_Check.j2:Nat→Bool→Int→Int→Int→Int→Bool→Int→Bool→Int→Bool→Int→Bool→Int→Bool→Option (Int)
 | 0,_,_,_,_,_,_,_,_,_,_,_,_,_,_=>none
 | k+1,x39,x184000,x184001,x184002,x184003,x184004,x184005,x184006,x184007,x184008,x184009,x184010,x184011,x184012=>if x39=true then (some 1) else (if x184000=2 then (complineref23_Check.j3 k false x184000 x184001 x184002 x184003 x184004 x184005 x184006 x184007 x184008 x184009 x184010 x184011 x184012) else (complineref23_Check.j3 k (!((x184003 == 0 && (!x184004)) && ((x184005 == 0 && (!x184006)) && ((x184007 == 0 && (!x184008)) && ((x184009 == 0 && (!x184010)) && ((x184011 == 0 && (!x184012)))))))) x184000 x184001 x184002 x184003 x184004 x184005 x184006 x184007 x184008 x184009 x184010 x184011 x184012))
def complineref23_Check.j3:Nat→Bool→Int→Int→Int→Int→Bool→Int→Bool→Int→Bool→Int→Bool→Int→Bool→Option (Int)
 | 0,_,_,_,_,_,_,_,_,_,_,_,_,_,_=>none
 | k+1,x50,x184000,x184001,x184002,x184003,x184004,x184005,x184006,x184007,x184008,x184009,x184010,x184011,x184012=>if x50=true then (some 1) else ((complineref19_Check.f k x184003 x184004 x184005 x184006 x184007 x184008 x184009 x184010 x184011 x184012).bind fun bt184=>(if x184000=2 then (if bt184.2=0 then (some 0) else (some 2)) else (some 0)))
end
def complineref23_Check.f (k:Nat)(a0_0:Int)(a0_1:Int)(a0_2:Int)(a0_3:Int)(a0_4:Bool)(a0_5:Int)(a0_6:Bool)(a0_7:Int)(a0_8:Bool)(a0_9:Int)(a0_10:Bool)(a0_11:Int)(a0_12:Bool):Option (Int):=if a0_0 < 0 then (complineref23_Check.j0 k true a0_0 a0_1 a0_2 a0_3 a0_4 a0_5 a0_6 a0_7 a0_8 a0_9 a0_10 a0_11 a0_12) else (complineref23_Check.j0 k (decide (a0_0 > 2)) a0_0 a0_1 a0_2 a0_3 a0_4 a0_5 a0_6 a0_7 a0_8 a0_9 a0_10 a0_11 a0_12)
set_option maxHeartbeats 8000000 in
set_option maxRecDepth 100000 in
theorem complineref23_Check.calls (k:Nat)(a0_0:Int)(a0_1:Int)(a0_2:Int)(a0_3:Int)(a0_4:Bool)(a0_5:Int)(a0_6:Bool)(a0_7:Int)(a0_8:Bool)(a0_9:Int)(a0_10:Bool)(a0_11:Int)(a0_12:Bool)(r:Int)(w:World)(h:complineref23_Check.f k a0_0 a0_1 a0_2 a0_3 a0_4 a0_5 a0_6 a0_7 a0_8 a0_9 a0_10 a0_11 a0_12=some r) :
  Calls Tryd.prog 15 #[.agg #[.int .i64 a0_0,.int .u64 a0_1,.int .i64 a0_2,.int .u64 a0_3,.bool a0_4,.int .u64 a0_5,.bool a0_6,.int .u64 a0_7,.bool a0_8,.int .u64 a0_9,.bool a0_10,.int .u64 a0_11,.bool a0_12]] w fun e w'=>e=.returned (.int .i64 r)∧Below w.heap.size w w':=by
 have hu28:=Tryd.underlying28
 have hu26:=Tryd.underlying26
 have HB:=Aside0.mk (Below.refl w.heap.size w)
 have H:(if a0_0 < 0 then (complineref23_Check.j0 k true a0_0 a0_1 a0_2 a0_3 a0_4 a0_5 a0_6 a0_7 a0_8 a0_9 a0_10 a0_11 a0_12) else (complineref23_Check.j0 k (decide (a0_0 > 2)) a0_0 a0_1 a0_2 a0_3 a0_4 a0_5 a0_6 a0_7 a0_8 a0_9 a0_10 a0_11 a0_12))=some r:=h
 clear h
 have HC2:=Aside0.mk H
 clear H
 go_enter Tryd.func15,Tryd.ntmps15
 go_upto_region 1 with (first | ((with_reducible refine gate_dst (N:=1) rfl ?_); refine box_event ?hg (N:=1) ?hd (cs:=#[.int .i64 a0_0,.int .u64 a0_1,.int .i64 a0_2,.int .u64 a0_3,.bool a0_4,.int .u64 a0_5,.bool a0_6,.int .u64 a0_7,.bool a0_8,.int .u64 a0_9,.bool a0_10,.int .u64 a0_11,.bool a0_12]) (t:=28) ?hr ?_; (case hd=>rfl); (case hg=>rfl); (case hr=>first | (go_simp; done) | (go_simp; rfl)); intro gb183 hg w3 hbox hb; have n0_:=Aside0.mk (below_step (by repeat (first | (with_reducible first | exact HB.out | apply below_alloc | apply pw_below_drewN | apply below_drew1) | exact HB.out)) hb); have n1_:=Aside0.mk (hbox); have n2_:=Aside0.mk ((by rw [hg]; exact (below_size (by repeat (first | (with_reducible first | exact HB.out | apply below_alloc | apply pw_below_drewN | apply below_drew1) | exact HB.out))):w.heap.size≤gb183)); have n3_:=Aside0.mk ((by rw [hg]; exact (below_size (by repeat (first | (with_reducible first | exact HB.out | apply below_alloc | apply pw_below_drewN | apply below_drew1) | exact HB.out))):w.heap.size≤gb183)); clear HB; have HB:=n0_; have BK183:=n1_; have GW183:=n2_; have GE183:=n3_; clear n0_ n1_ n2_ n3_; clear hb hbox hg))
 (try simp only [Act.put,List.setIfInBounds_toArray,List.set_cons_zero,List.set_cons_succ])
 go_cut [13] (fun v13 wc=>∃ (kq:Nat) (x13_1:Bool),v13=.bool x13_1∧Aside0 (complineref23_Check.j0 kq x13_1 a0_0 a0_1 a0_2 a0_3 a0_4 a0_5 a0_6 a0_7 a0_8 a0_9 a0_10 a0_11 a0_12=some r)∧Aside0 (kq≤k)∧Aside0 (wc.heap[gb183]?=some (.cells #[.int .i64 a0_0,.int .u64 a0_1,.int .i64 a0_2,.int .u64 a0_3,.bool a0_4,.int .u64 a0_5,.bool a0_6,.int .u64 a0_7,.bool a0_8,.int .u64 a0_9,.bool a0_10,.int .u64 a0_11,.bool a0_12] 28 (0,0)))∧Aside0 (Below w.heap.size w wc))
 case first=>
  have H:=HC2.out
  clear HC2
  by_cases c4:a0_0 < 0
  ·rw [if_pos c4] at H
   have c4b0:decide (a0_0 < 0)=true:=decide_eq_true c4
   clear c4
   (first | rw [c4b0] | (simp only [i64_w,i32_w]; rw [c4b0]) | skip)
   have H':=Aside0.mk H
   clear H
   have hcz5_0:w3.cell? ⟨gb183,0,none⟩=some (.int .i64 a0_0):=(blk_cell BK183.out 0).trans rfl
   have hcz5_1:w3.cell? ⟨gb183,1,none⟩=some (.int .u64 a0_1):=(blk_cell BK183.out 1).trans rfl
   have hcz5_2:w3.cell? ⟨gb183,2,none⟩=some (.int .i64 a0_2):=(blk_cell BK183.out 2).trans rfl
   have hcz5_3:w3.cell? ⟨gb183,3,none⟩=some (.int .u64 a0_3):=(blk_cell BK183.out 3).trans rfl
   have hcz5_4:w3.cell? ⟨gb183,4,none⟩=some (.bool a0_4):=(blk_cell BK183.out 4).trans rfl
   have hcz5_5:w3.cell? ⟨gb183,5,none⟩=some (.int .u64 a0_5):=(blk_cell BK183.out 5).trans rfl
   have hcz5_6:w3.cell? ⟨gb183,6,none⟩=some (.bool a0_6):=(blk_cell BK183.out 6).trans rfl
   have hcz5_7:w3.cell? ⟨gb183,7,none⟩=some (.int .u64 a0_7):=(blk_cell BK183.out 7).trans rfl
   have hcz5_8:w3.cell? ⟨gb183,8,none⟩=some (.bool a0_8):=(blk_cell BK183.out 8).trans rfl
   have hcz5_9:w3.cell? ⟨gb183,9,none⟩=some (.int .u64 a0_9):=(blk_cell BK183.out 9).trans rfl
   have hcz5_10:w3.cell? ⟨gb183,10,none⟩=some (.bool a0_10):=(blk_cell BK183.out 10).trans rfl
   have hcz5_11:w3.cell? ⟨gb183,11,none⟩=some (.int .u64 a0_11):=(blk_cell BK183.out 11).trans rfl
   have hcz5_12:w3.cell? ⟨gb183,12,none⟩=some (.bool a0_12):=(blk_cell BK183.out 12).trans rfl
   have hfz5_0:=blk_frozen BK183.out 0
   have hfz5_1:=blk_frozen BK183.out 1
   have hfz5_2:=blk_frozen BK183.out 2
   have hfz5_3:=blk_frozen BK183.out 3
   have hfz5_4:=blk_frozen BK183.out 4
   have hfz5_5:=blk_frozen BK183.out 5
   have hfz5_6:=blk_frozen BK183.out 6
   have hfz5_7:=blk_frozen BK183.out 7
   have hfz5_8:=blk_frozen BK183.out 8
   have hfz5_9:=blk_frozen BK183.out 9
   have hfz5_10:=blk_frozen BK183.out 10
   have hfz5_11:=blk_frozen BK183.out 11
   have hfz5_12:=blk_frozen BK183.out 12
   go_wp2
   go_meet
   case rel=>exact ⟨_,(true),(by first | rfl | (simp; done) | (simp [*]; done)),H',⟨by first | omega | exact Nat.le_refl _⟩,⟨by (with_reducible repeat (first | refine blk_drewN ?_ _ | refine blk_drew ?_ | refine blk_alloc ?_ _)); exact BK183.out⟩,⟨by repeat (first | (with_reducible first | exact HB.out | apply below_alloc | apply pw_below_drewN | apply below_drew1 | refine below_set ?_ GE183.out) | exact HB.out)⟩⟩
  ·rw [if_neg c4] at H
   have c4b0:decide (a0_0 < 0)=false:=decide_eq_false c4
   clear c4
   (first | rw [c4b0] | (simp only [i64_w,i32_w]; rw [c4b0]) | skip)
   have H':=Aside0.mk H
   clear H
   have hcz6_0:w3.cell? ⟨gb183,0,none⟩=some (.int .i64 a0_0):=(blk_cell BK183.out 0).trans rfl
   have hcz6_1:w3.cell? ⟨gb183,1,none⟩=some (.int .u64 a0_1):=(blk_cell BK183.out 1).trans rfl
   have hcz6_2:w3.cell? ⟨gb183,2,none⟩=some (.int .i64 a0_2):=(blk_cell BK183.out 2).trans rfl
   have hcz6_3:w3.cell? ⟨gb183,3,none⟩=some (.int .u64 a0_3):=(blk_cell BK183.out 3).trans rfl
   have hcz6_4:w3.cell? ⟨gb183,4,none⟩=some (.bool a0_4):=(blk_cell BK183.out 4).trans rfl
   have hcz6_5:w3.cell? ⟨gb183,5,none⟩=some (.int .u64 a0_5):=(blk_cell BK183.out 5).trans rfl
   have hcz6_6:w3.cell? ⟨gb183,6,none⟩=some (.bool a0_6):=(blk_cell BK183.out 6).trans rfl
   have hcz6_7:w3.cell? ⟨gb183,7,none⟩=some (.int .u64 a0_7):=(blk_cell BK183.out 7).trans rfl
   have hcz6_8:w3.cell? ⟨gb183,8,none⟩=some (.bool a0_8):=(blk_cell BK183.out 8).trans rfl
   have hcz6_9:w3.cell? ⟨gb183,9,none⟩=some (.int .u64 a0_9):=(blk_cell BK183.out 9).trans rfl
   have hcz6_10:w3.cell? ⟨gb183,10,none⟩=some (.bool a0_10):=(blk_cell BK183.out 10).trans rfl
   have hcz6_11:w3.cell? ⟨gb183,11,none⟩=some (.int .u64 a0_11):=(blk_cell BK183.out 11).trans rfl
   have hcz6_12:w3.cell? ⟨gb183,12,none⟩=some (.bool a0_12):=(blk_cell BK183.out 12).trans rfl
   have hfz6_0:=blk_frozen BK183.out 0
   have hfz6_1:=blk_frozen BK183.out 1
   have hfz6_2:=blk_frozen BK183.out 2
   have hfz6_3:=blk_frozen BK183.out 3
   have hfz6_4:=blk_frozen BK183.out 4
   have hfz6_5:=blk_frozen BK183.out 5
   have hfz6_6:=blk_frozen BK183.out 6
   have hfz6_7:=blk_frozen BK183.out 7
   have hfz6_8:=blk_frozen BK183.out 8
   have hfz6_9:=blk_frozen BK183.out 9
   have hfz6_10:=blk_frozen BK183.out 10
   have hfz6_11:=blk_frozen BK183.out 11
   have hfz6_12:=blk_frozen BK183.out 12
   go_wp2
   go_meet
   case rel=>exact ⟨_,(decide (a0_0 > 2)),(by first | rfl | (simp; done) | (simp [*]; done)),H',⟨by first | omega | exact Nat.le_refl _⟩,⟨by (with_reducible repeat (first | refine blk_drewN ?_ _ | refine blk_drew ?_ | refine blk_alloc ?_ _)); exact BK183.out⟩,⟨by repeat (first | (with_reducible first | exact HB.out | apply below_alloc | apply pw_below_drewN | apply below_drew1 | refine below_set ?_ GE183.out) | exact HB.out)⟩⟩
 case rest=>
  clear HC2
  try clear c1
  try clear p2
  try clear c4
  try clear c4b0
  try clear hcz5_0
  try clear hcz5_1
  try clear hcz5_10
  try clear hcz5_11
  try clear hcz5_12
  try clear hcz5_2
  try clear hcz5_3
  try clear hcz5_4
  try clear hcz5_5
  try clear hcz5_6
  try clear hcz5_7
  try clear hcz5_8
  try clear hcz5_9
  try clear hcz6_0
  try clear hcz6_1
  try clear hcz6_10
  try clear hcz6_11
  try clear hcz6_12
  try clear hcz6_2
  try clear hcz6_3
  try clear hcz6_4
  try clear hcz6_5
  try clear hcz6_6
  try clear hcz6_7
  try clear hcz6_8
  try clear hcz6_9
  try clear hfz5_0
  try clear hfz5_1
  try clear hfz5_10
  try clear hfz5_11
  try clear hfz5_12
  try clear hfz5_2
  try clear hfz5_3
  try clear hfz5_4
  try clear hfz5_5
  try clear hfz5_6
  try clear hfz5_7
  try clear hfz5_8
  try clear hfz5_9
  try clear hfz6_0
  try clear hfz6_1
  try clear hfz6_10
  try clear hfz6_11
  try clear hfz6_12
  try clear hfz6_2
  try clear hfz6_3
  try clear hfz6_4
  try clear hfz6_5
  try clear hfz6_6
  try clear hfz6_7
  try clear hfz6_8
  try clear hfz6_9
  obtain ⟨kq,x13_1,rfl,HA,HJ1,BK183,HB⟩ :=hcut
  cases kq with
  | zero=>exact absurd HA.out (by simp [complineref23_Check.j0])
  | succ kj1=>
   have H:=HA.out
   clear HA
   simp only [complineref23_Check.j0] at H
   by_cases c7:x13_1=true
   ·subst c7
    have H1:(some 7)=some r:=by rw [if_pos rfl] at H; exact H
    clear H
    have H:=H1
    clear H1
    obtain rfl:=Option.some.inj H
    go_wp2
    go_ret
    exact ⟨by first | rfl | (simp [errW_none,errW_some] <;> rfl) | (simp [*,errW_none,errW_some] <;> rfl),by repeat (first | (with_reducible first | exact HB.out | apply below_alloc | apply pw_below_drewN | apply below_drew1 | refine below_set ?_ GE183.out) | exact HB.out)⟩
   ·replace c7:=Bool.eq_false_iff.mpr c7
    subst c7
    have H1:(if a0_0=1 then (complineref23_Check.j1 kj1 (a0_1 == 0) a0_0 a0_1 a0_2 a0_3 a0_4 a0_5 a0_6 a0_7 a0_8 a0_9 a0_10 a0_11 a0_12) else (complineref23_Check.j1 kj1 false a0_0 a0_1 a0_2 a0_3 a0_4 a0_5 a0_6 a0_7 a0_8 a0_9 a0_10 a0_11 a0_12))=some r:=by rw [if_neg (show ¬ (false=true) by decide)] at H; exact H
    clear H
    have H:=H1
    clear H1
    have HC8:=Aside0.mk H
    clear H
    go_upto_region 3 with (fail)
    go_cut [21] (fun v21 wc=>∃ (kq:Nat) (x21_7:Bool),v21=.bool x21_7∧Aside0 (complineref23_Check.j1 kq x21_7 a0_0 a0_1 a0_2 a0_3 a0_4 a0_5 a0_6 a0_7 a0_8 a0_9 a0_10 a0_11 a0_12=some r)∧Aside0 (kq≤kj1)∧Aside0 (wc.heap[gb183]?=some (.cells #[.int .i64 a0_0,.int .u64 a0_1,.int .i64 a0_2,.int .u64 a0_3,.bool a0_4,.int .u64 a0_5,.bool a0_6,.int .u64 a0_7,.bool a0_8,.int .u64 a0_9,.bool a0_10,.int .u64 a0_11,.bool a0_12] 28 (0,0)))∧Aside0 (Below w.heap.size w wc))
    case first=>
     have H:=HC8.out
     clear HC8
     by_cases c9:a0_0=1
     ·rw [if_pos c9] at H
      have c9b0:(a0_0 == 1)=true:=beq_iff_eq.mpr c9
      have c9b1:(a0_0 != 1)=false:=bne_eq_false_iff_eq.mpr c9
      clear c9
      (first | rw [c9b0] | (simp only [i64_w,i32_w]; rw [c9b0]) | skip)
      have H':=Aside0.mk H
      clear H
      have hcz10_0:wc.cell? ⟨gb183,0,none⟩=some (.int .i64 a0_0):=(blk_cell BK183.out 0).trans rfl
      have hcz10_1:wc.cell? ⟨gb183,1,none⟩=some (.int .u64 a0_1):=(blk_cell BK183.out 1).trans rfl
      have hcz10_2:wc.cell? ⟨gb183,2,none⟩=some (.int .i64 a0_2):=(blk_cell BK183.out 2).trans rfl
      have hcz10_3:wc.cell? ⟨gb183,3,none⟩=some (.int .u64 a0_3):=(blk_cell BK183.out 3).trans rfl
      have hcz10_4:wc.cell? ⟨gb183,4,none⟩=some (.bool a0_4):=(blk_cell BK183.out 4).trans rfl
      have hcz10_5:wc.cell? ⟨gb183,5,none⟩=some (.int .u64 a0_5):=(blk_cell BK183.out 5).trans rfl
      have hcz10_6:wc.cell? ⟨gb183,6,none⟩=some (.bool a0_6):=(blk_cell BK183.out 6).trans rfl
      have hcz10_7:wc.cell? ⟨gb183,7,none⟩=some (.int .u64 a0_7):=(blk_cell BK183.out 7).trans rfl
      have hcz10_8:wc.cell? ⟨gb183,8,none⟩=some (.bool a0_8):=(blk_cell BK183.out 8).trans rfl
      have hcz10_9:wc.cell? ⟨gb183,9,none⟩=some (.int .u64 a0_9):=(blk_cell BK183.out 9).trans rfl
      have hcz10_10:wc.cell? ⟨gb183,10,none⟩=some (.bool a0_10):=(blk_cell BK183.out 10).trans rfl
      have hcz10_11:wc.cell? ⟨gb183,11,none⟩=some (.int .u64 a0_11):=(blk_cell BK183.out 11).trans rfl
      have hcz10_12:wc.cell? ⟨gb183,12,none⟩=some (.bool a0_12):=(blk_cell BK183.out 12).trans rfl
      have hfz10_0:=blk_frozen BK183.out 0
      have hfz10_1:=blk_frozen BK183.out 1
      have hfz10_2:=blk_frozen BK183.out 2
      have hfz10_3:=blk_frozen BK183.out 3
      have hfz10_4:=blk_frozen BK183.out 4
      have hfz10_5:=blk_frozen BK183.out 5
      have hfz10_6:=blk_frozen BK183.out 6
      have hfz10_7:=blk_frozen BK183.out 7
      have hfz10_8:=blk_frozen BK183.out 8
      have hfz10_9:=blk_frozen BK183.out 9
      have hfz10_10:=blk_frozen BK183.out 10
      have hfz10_11:=blk_frozen BK183.out 11
      have hfz10_12:=blk_frozen BK183.out 12
      go_wp2
      go_meet
      case rel=>exact ⟨_,((a0_1 == 0)),(by first | rfl | (simp; done) | (simp [*]; done)),H',⟨by have:=HJ1.out; first | omega | exact Nat.le_refl _⟩,⟨by (with_reducible repeat (first | refine blk_drewN ?_ _ | refine blk_drew ?_ | refine blk_alloc ?_ _)); exact BK183.out⟩,⟨by repeat (first | (with_reducible first | exact HB.out | apply below_alloc | apply pw_below_drewN | apply below_drew1 | refine below_set ?_ GE183.out) | exact HB.out)⟩⟩
     ·rw [if_neg c9] at H
      have c9b0:(a0_0 == 1)=false:=beq_eq_false_iff_ne.mpr c9
      have c9b1:(a0_0 != 1)=true:=bne_iff_ne.mpr c9
      (first | rw [c9b0] | (simp only [i64_w,i32_w]; rw [c9b0]) | skip)
      have H':=Aside0.mk H
      clear H
      have hcz11_0:wc.cell? ⟨gb183,0,none⟩=some (.int .i64 a0_0):=(blk_cell BK183.out 0).trans rfl
      have hcz11_1:wc.cell? ⟨gb183,1,none⟩=some (.int .u64 a0_1):=(blk_cell BK183.out 1).trans rfl
      have hcz11_2:wc.cell? ⟨gb183,2,none⟩=some (.int .i64 a0_2):=(blk_cell BK183.out 2).trans rfl
      have hcz11_3:wc.cell? ⟨gb183,3,none⟩=some (.int .u64 a0_3):=(blk_cell BK183.out 3).trans rfl
      have hcz11_4:wc.cell? ⟨gb183,4,none⟩=some (.bool a0_4):=(blk_cell BK183.out 4).trans rfl
      have hcz11_5:wc.cell? ⟨gb183,5,none⟩=some (.int .u64 a0_5):=(blk_cell BK183.out 5).trans rfl
      have hcz11_6:wc.cell? ⟨gb183,6,none⟩=some (.bool a0_6):=(blk_cell BK183.out 6).trans rfl
      have hcz11_7:wc.cell? ⟨gb183,7,none⟩=some (.int .u64 a0_7):=(blk_cell BK183.out 7).trans rfl
      have hcz11_8:wc.cell? ⟨gb183,8,none⟩=some (.bool a0_8):=(blk_cell BK183.out 8).trans rfl
      have hcz11_9:wc.cell? ⟨gb183,9,none⟩=some (.int .u64 a0_9):=(blk_cell BK183.out 9).trans rfl
      have hcz11_10:wc.cell? ⟨gb183,10,none⟩=some (.bool a0_10):=(blk_cell BK183.out 10).trans rfl
      have hcz11_11:wc.cell? ⟨gb183,11,none⟩=some (.int .u64 a0_11):=(blk_cell BK183.out 11).trans rfl
      have hcz11_12:wc.cell? ⟨gb183,12,none⟩=some (.bool a0_12):=(blk_cell BK183.out 12).trans rfl
      have hfz11_0:=blk_frozen BK183.out 0
      have hfz11_1:=blk_frozen BK183.out 1
      have hfz11_2:=blk_frozen BK183.out 2
      have hfz11_3:=blk_frozen BK183.out 3
      have hfz11_4:=blk_frozen BK183.out 4
      have hfz11_5:=blk_frozen BK183.out 5
      have hfz11_6:=blk_frozen BK183.out 6
      have hfz11_7:=blk_frozen BK183.out 7
      have hfz11_8:=blk_frozen BK183.out 8
      have hfz11_9:=blk_frozen BK183.out 9
      have hfz11_10:=blk_frozen BK183.out 10
      have hfz11_11:=blk_frozen BK183.out 11
      have hfz11_12:=blk_frozen BK183.out 12
      go_wp2
      go_meet
      case rel=>exact ⟨_,(false),(by first | rfl | (simp; done) | (simp [*]; done)),H',⟨by have:=HJ1.out; first | omega | exact Nat.le_refl _⟩,⟨by (with_reducible repeat (first | refine blk_drewN ?_ _ | refine blk_drew ?_ | refine blk_alloc ?_ _)); exact BK183.out⟩,⟨by repeat (first | (with_reducible first | exact HB.out | apply below_alloc | apply pw_below_drewN | apply below_drew1 | refine below_set ?_ GE183.out) | exact HB.out)⟩⟩
    case rest=>
     clear HC8
     try clear c1
     try clear p2
     try clear c4
     try clear c4b0
     try clear c7
     try clear c9
     try clear c9b0
     try clear c9b1
     try clear hcz10_0
     try clear hcz10_1
     try clear hcz10_10
     try clear hcz10_11
     try clear hcz10_12
     try clear hcz10_2
     try clear hcz10_3
     try clear hcz10_4
     try clear hcz10_5
     try clear hcz10_6
     try clear hcz10_7
     try clear hcz10_8
     try clear hcz10_9
     try clear hcz11_0
     try clear hcz11_1
     try clear hcz11_10
     try clear hcz11_11
     try clear hcz11_12
     try clear hcz11_2
     try clear hcz11_3
     try clear hcz11_4
     try clear hcz11_5
     try clear hcz11_6
     try clear hcz11_7
     try clear hcz11_8
     try clear hcz11_9
     try clear hcz5_0
     try clear hcz5_1
     try clear hcz5_10
     try clear hcz5_11
     try clear hcz5_12
     try clear hcz5_2
     try clear hcz5_3
     try clear hcz5_4
     try clear hcz5_5
     try clear hcz5_6
     try clear hcz5_7
     try clear hcz5_8
     try clear hcz5_9
     try clear hcz6_0
     try clear hcz6_1
     try clear hcz6_10
     try clear hcz6_11
     try clear hcz6_12
     try clear hcz6_2
     try clear hcz6_3
     try clear hcz6_4
     try clear hcz6_5
     try clear hcz6_6
     try clear hcz6_7
     try clear hcz6_8
     try clear hcz6_9
     try clear hfz10_0
     try clear hfz10_1
     try clear hfz10_10
     try clear hfz10_11
     try clear hfz10_12
     try clear hfz10_2
     try clear hfz10_3
     try clear hfz10_4
     try clear hfz10_5
     try clear hfz10_6
     try clear hfz10_7
     try clear hfz10_8
     try clear hfz10_9
     try clear hfz11_0
     try clear hfz11_1
     try clear hfz11_10
     try clear hfz11_11
     try clear hfz11_12
     try clear hfz11_2
     try clear hfz11_3
     try clear hfz11_4
     try clear hfz11_5
     try clear hfz11_6
     try clear hfz11_7
     try clear hfz11_8
     try clear hfz11_9
     try clear hfz5_0
     try clear hfz5_1
     try clear hfz5_10
     try clear hfz5_11
     try clear hfz5_12
     try clear hfz5_2
     try clear hfz5_3
     try clear hfz5_4
     try clear hfz5_5
     try clear hfz5_6
     try clear hfz5_7
     try clear hfz5_8
     try clear hfz5_9
     try clear hfz6_0
     try clear hfz6_1
     try clear hfz6_10
     try clear hfz6_11
     try clear hfz6_12
     try clear hfz6_2
     try clear hfz6_3
     try clear hfz6_4
     try clear hfz6_5
     try clear hfz6_6
     try clear hfz6_7
     try clear hfz6_8
     try clear hfz6_9
     try clear p2
     obtain ⟨kq,x21_7,rfl,HA,HJ7,BK183,HB⟩ :=hcut
     cases kq with
     | zero=>exact absurd HA.out (by simp [complineref23_Check.j1])
     | succ kj7=>
      have H:=HA.out
      clear HA
      simp only [complineref23_Check.j1] at H
      by_cases c12:x21_7=true
      ·subst c12
       have H1:(some 10)=some r:=by rw [if_pos rfl] at H; exact H
       clear H
       have H:=H1
       clear H1
       obtain rfl:=Option.some.inj H
       go_wp2
       go_ret
       exact ⟨by first | rfl | (simp [errW_none,errW_some] <;> rfl) | (simp [*,errW_none,errW_some] <;> rfl),by repeat (first | (with_reducible first | exact HB.out | apply below_alloc | apply pw_below_drewN | apply below_drew1 | refine below_set ?_ GE183.out) | exact HB.out)⟩
      ·replace c12:=Bool.eq_false_iff.mpr c12
       subst c12
       have H1:(if a0_2 < 0 then (complineref23_Check.j2 kj7 true a0_0 a0_1 a0_2 a0_3 a0_4 a0_5 a0_6 a0_7 a0_8 a0_9 a0_10 a0_11 a0_12) else (if a0_0=1 then (complineref23_Check.j2 kj7 false a0_0 a0_1 a0_2 a0_3 a0_4 a0_5 a0_6 a0_7 a0_8 a0_9 a0_10 a0_11 a0_12) else (if a0_1=0 then (complineref23_Check.j2 kj7 (a0_2 != 0) a0_0 a0_1 a0_2 a0_3 a0_4 a0_5 a0_6 a0_7 a0_8 a0_9 a0_10 a0_11 a0_12) else (complineref23_Check.j2 kj7 true a0_0 a0_1 a0_2 a0_3 a0_4 a0_5 a0_6 a0_7 a0_8 a0_9 a0_10 a0_11 a0_12))))=some r:=by rw [if_neg (show ¬ (false=true) by decide)] at H; exact H
       clear H
       have H:=H1
       clear H1
       have HC13:=Aside0.mk H
       clear H
       go_upto_region 5 with (fail)
       go_cut [39] (fun v39 wc=>∃ (kq:Nat) (x39_12:Bool),v39=.bool x39_12∧Aside0 (complineref23_Check.j2 kq x39_12 a0_0 a0_1 a0_2 a0_3 a0_4 a0_5 a0_6 a0_7 a0_8 a0_9 a0_10 a0_11 a0_12=some r)∧Aside0 (kq≤kj7)∧Aside0 (wc.heap[gb183]?=some (.cells #[.int .i64 a0_0,.int .u64 a0_1,.int .i64 a0_2,.int .u64 a0_3,.bool a0_4,.int .u64 a0_5,.bool a0_6,.int .u64 a0_7,.bool a0_8,.int .u64 a0_9,.bool a0_10,.int .u64 a0_11,.bool a0_12] 28 (0,0)))∧Aside0 (Below w.heap.size w wc))
       case first=>
        have H:=HC13.out
        clear HC13
        by_cases c14:a0_2 < 0
        ·rw [if_pos c14] at H
         have c14b0:decide (a0_2 < 0)=true:=decide_eq_true c14
         clear c14
         (first | rw [c14b0] | (simp only [i64_w,i32_w]; rw [c14b0]) | skip)
         have H':=Aside0.mk H
         clear H
         have hcz15_0:wc.cell? ⟨gb183,0,none⟩=some (.int .i64 a0_0):=(blk_cell BK183.out 0).trans rfl
         have hcz15_1:wc.cell? ⟨gb183,1,none⟩=some (.int .u64 a0_1):=(blk_cell BK183.out 1).trans rfl
         have hcz15_2:wc.cell? ⟨gb183,2,none⟩=some (.int .i64 a0_2):=(blk_cell BK183.out 2).trans rfl
         have hcz15_3:wc.cell? ⟨gb183,3,none⟩=some (.int .u64 a0_3):=(blk_cell BK183.out 3).trans rfl
         have hcz15_4:wc.cell? ⟨gb183,4,none⟩=some (.bool a0_4):=(blk_cell BK183.out 4).trans rfl
         have hcz15_5:wc.cell? ⟨gb183,5,none⟩=some (.int .u64 a0_5):=(blk_cell BK183.out 5).trans rfl
         have hcz15_6:wc.cell? ⟨gb183,6,none⟩=some (.bool a0_6):=(blk_cell BK183.out 6).trans rfl
         have hcz15_7:wc.cell? ⟨gb183,7,none⟩=some (.int .u64 a0_7):=(blk_cell BK183.out 7).trans rfl
         have hcz15_8:wc.cell? ⟨gb183,8,none⟩=some (.bool a0_8):=(blk_cell BK183.out 8).trans rfl
         have hcz15_9:wc.cell? ⟨gb183,9,none⟩=some (.int .u64 a0_9):=(blk_cell BK183.out 9).trans rfl
         have hcz15_10:wc.cell? ⟨gb183,10,none⟩=some (.bool a0_10):=(blk_cell BK183.out 10).trans rfl
         have hcz15_11:wc.cell? ⟨gb183,11,none⟩=some (.int .u64 a0_11):=(blk_cell BK183.out 11).trans rfl
         have hcz15_12:wc.cell? ⟨gb183,12,none⟩=some (.bool a0_12):=(blk_cell BK183.out 12).trans rfl
         have hfz15_0:=blk_frozen BK183.out 0
         have hfz15_1:=blk_frozen BK183.out 1
         have hfz15_2:=blk_frozen BK183.out 2
         have hfz15_3:=blk_frozen BK183.out 3
         have hfz15_4:=blk_frozen BK183.out 4
         have hfz15_5:=blk_frozen BK183.out 5
         have hfz15_6:=blk_frozen BK183.out 6
         have hfz15_7:=blk_frozen BK183.out 7
         have hfz15_8:=blk_frozen BK183.out 8
         have hfz15_9:=blk_frozen BK183.out 9
         have hfz15_10:=blk_frozen BK183.out 10
         have hfz15_11:=blk_frozen BK183.out 11
         have hfz15_12:=blk_frozen BK183.out 12
         go_wp2
         go_meet
         case rel=>exact ⟨_,(true),(by first | rfl | (simp; done) | (simp [*]; done)),H',⟨by have:=HJ1.out; have:=HJ7.out; first | omega | exact Nat.le_refl _⟩,⟨by (with_reducible repeat (first | refine blk_drewN ?_ _ | refine blk_drew ?_ | refine blk_alloc ?_ _)); exact BK183.out⟩,⟨by repeat (first | (with_reducible first | exact HB.out | apply below_alloc | apply pw_below_drewN | apply below_drew1 | refine below_set ?_ GE183.out) | exact HB.out)⟩⟩
        ·rw [if_neg c14] at H
         have c14b0:decide (a0_2 < 0)=false:=decide_eq_false c14
         clear c14
         (first | rw [c14b0] | (simp only [i64_w,i32_w]; rw [c14b0]) | skip)
         by_cases c16:a0_0=1
         ·rw [if_pos c16] at H
          have c16b0:(a0_0 == 1)=true:=beq_iff_eq.mpr c16
          have c16b1:(a0_0 != 1)=false:=bne_eq_false_iff_eq.mpr c16
          clear c16
          have H':=Aside0.mk H
          clear H
          have hcz17_0:wc.cell? ⟨gb183,0,none⟩=some (.int .i64 a0_0):=(blk_cell BK183.out 0).trans rfl
          have hcz17_1:wc.cell? ⟨gb183,1,none⟩=some (.int .u64 a0_1):=(blk_cell BK183.out 1).trans rfl
          have hcz17_2:wc.cell? ⟨gb183,2,none⟩=some (.int .i64 a0_2):=(blk_cell BK183.out 2).trans rfl
          have hcz17_3:wc.cell? ⟨gb183,3,none⟩=some (.int .u64 a0_3):=(blk_cell BK183.out 3).trans rfl
          have hcz17_4:wc.cell? ⟨gb183,4,none⟩=some (.bool a0_4):=(blk_cell BK183.out 4).trans rfl
          have hcz17_5:wc.cell? ⟨gb183,5,none⟩=some (.int .u64 a0_5):=(blk_cell BK183.out 5).trans rfl
          have hcz17_6:wc.cell? ⟨gb183,6,none⟩=some (.bool a0_6):=(blk_cell BK183.out 6).trans rfl
          have hcz17_7:wc.cell? ⟨gb183,7,none⟩=some (.int .u64 a0_7):=(blk_cell BK183.out 7).trans rfl
          have hcz17_8:wc.cell? ⟨gb183,8,none⟩=some (.bool a0_8):=(blk_cell BK183.out 8).trans rfl
          have hcz17_9:wc.cell? ⟨gb183,9,none⟩=some (.int .u64 a0_9):=(blk_cell BK183.out 9).trans rfl
          have hcz17_10:wc.cell? ⟨gb183,10,none⟩=some (.bool a0_10):=(blk_cell BK183.out 10).trans rfl
          have hcz17_11:wc.cell? ⟨gb183,11,none⟩=some (.int .u64 a0_11):=(blk_cell BK183.out 11).trans rfl
          have hcz17_12:wc.cell? ⟨gb183,12,none⟩=some (.bool a0_12):=(blk_cell BK183.out 12).trans rfl
          have hfz17_0:=blk_frozen BK183.out 0
          have hfz17_1:=blk_frozen BK183.out 1
          have hfz17_2:=blk_frozen BK183.out 2
          have hfz17_3:=blk_frozen BK183.out 3
          have hfz17_4:=blk_frozen BK183.out 4
          have hfz17_5:=blk_frozen BK183.out 5
          have hfz17_6:=blk_frozen BK183.out 6
          have hfz17_7:=blk_frozen BK183.out 7
          have hfz17_8:=blk_frozen BK183.out 8
          have hfz17_9:=blk_frozen BK183.out 9
          have hfz17_10:=blk_frozen BK183.out 10
          have hfz17_11:=blk_frozen BK183.out 11
          have hfz17_12:=blk_frozen BK183.out 12
          go_wp2
          go_meet
          case rel=>exact ⟨_,(false),(by first | rfl | (simp; done) | (simp [*]; done)),H',⟨by have:=HJ1.out; have:=HJ7.out; first | omega | exact Nat.le_refl _⟩,⟨by (with_reducible repeat (first | refine blk_drewN ?_ _ | refine blk_drew ?_ | refine blk_alloc ?_ _)); exact BK183.out⟩,⟨by repeat (first | (with_reducible first | exact HB.out | apply below_alloc | apply pw_below_drewN | apply below_drew1 | refine below_set ?_ GE183.out) | exact HB.out)⟩⟩
         ·rw [if_neg c16] at H
          have c16b0:(a0_0 == 1)=false:=beq_eq_false_iff_ne.mpr c16
          have c16b1:(a0_0 != 1)=true:=bne_iff_ne.mpr c16
          by_cases c18:a0_1=0
          ·rw [if_pos c18] at H
           have c18b0:(a0_1 == 0)=true:=beq_iff_eq.mpr c18
           have c18b1:(a0_1 != 0)=false:=bne_eq_false_iff_eq.mpr c18
           clear c18
           have H':=Aside0.mk H
           clear H
           have hcz19_0:wc.cell? ⟨gb183,0,none⟩=some (.int .i64 a0_0):=(blk_cell BK183.out 0).trans rfl
           have hcz19_1:wc.cell? ⟨gb183,1,none⟩=some (.int .u64 a0_1):=(blk_cell BK183.out 1).trans rfl
           have hcz19_2:wc.cell? ⟨gb183,2,none⟩=some (.int .i64 a0_2):=(blk_cell BK183.out 2).trans rfl
           have hcz19_3:wc.cell? ⟨gb183,3,none⟩=some (.int .u64 a0_3):=(blk_cell BK183.out 3).trans rfl
           have hcz19_4:wc.cell? ⟨gb183,4,none⟩=some (.bool a0_4):=(blk_cell BK183.out 4).trans rfl
           have hcz19_5:wc.cell? ⟨gb183,5,none⟩=some (.int .u64 a0_5):=(blk_cell BK183.out 5).trans rfl
           have hcz19_6:wc.cell? ⟨gb183,6,none⟩=some (.bool a0_6):=(blk_cell BK183.out 6).trans rfl
           have hcz19_7:wc.cell? ⟨gb183,7,none⟩=some (.int .u64 a0_7):=(blk_cell BK183.out 7).trans rfl
           have hcz19_8:wc.cell? ⟨gb183,8,none⟩=some (.bool a0_8):=(blk_cell BK183.out 8).trans rfl
           have hcz19_9:wc.cell? ⟨gb183,9,none⟩=some (.int .u64 a0_9):=(blk_cell BK183.out 9).trans rfl
           have hcz19_10:wc.cell? ⟨gb183,10,none⟩=some (.bool a0_10):=(blk_cell BK183.out 10).trans rfl
           have hcz19_11:wc.cell? ⟨gb183,11,none⟩=some (.int .u64 a0_11):=(blk_cell BK183.out 11).trans rfl
           have hcz19_12:wc.cell? ⟨gb183,12,none⟩=some (.bool a0_12):=(blk_cell BK183.out 12).trans rfl
           have hfz19_0:=blk_frozen BK183.out 0
           have hfz19_1:=blk_frozen BK183.out 1
           have hfz19_2:=blk_frozen BK183.out 2
           have hfz19_3:=blk_frozen BK183.out 3
           have hfz19_4:=blk_frozen BK183.out 4
           have hfz19_5:=blk_frozen BK183.out 5
           have hfz19_6:=blk_frozen BK183.out 6
           have hfz19_7:=blk_frozen BK183.out 7
           have hfz19_8:=blk_frozen BK183.out 8
           have hfz19_9:=blk_frozen BK183.out 9
           have hfz19_10:=blk_frozen BK183.out 10
           have hfz19_11:=blk_frozen BK183.out 11
           have hfz19_12:=blk_frozen BK183.out 12
           go_wp2
           go_meet
           case rel=>exact ⟨_,((a0_2 != 0)),(by first | rfl | (simp; done) | (simp [*]; done)),H',⟨by have:=HJ1.out; have:=HJ7.out; first | omega | exact Nat.le_refl _⟩,⟨by (with_reducible repeat (first | refine blk_drewN ?_ _ | refine blk_drew ?_ | refine blk_alloc ?_ _)); exact BK183.out⟩,⟨by repeat (first | (with_reducible first | exact HB.out | apply below_alloc | apply pw_below_drewN | apply below_drew1 | refine below_set ?_ GE183.out) | exact HB.out)⟩⟩
          ·rw [if_neg c18] at H
           have c18b0:(a0_1 == 0)=false:=beq_eq_false_iff_ne.mpr c18
           have c18b1:(a0_1 != 0)=true:=bne_iff_ne.mpr c18
           have H':=Aside0.mk H
           clear H
           have hcz20_0:wc.cell? ⟨gb183,0,none⟩=some (.int .i64 a0_0):=(blk_cell BK183.out 0).trans rfl
           have hcz20_1:wc.cell? ⟨gb183,1,none⟩=some (.int .u64 a0_1):=(blk_cell BK183.out 1).trans rfl
           have hcz20_2:wc.cell? ⟨gb183,2,none⟩=some (.int .i64 a0_2):=(blk_cell BK183.out 2).trans rfl
           have hcz20_3:wc.cell? ⟨gb183,3,none⟩=some (.int .u64 a0_3):=(blk_cell BK183.out 3).trans rfl
           have hcz20_4:wc.cell? ⟨gb183,4,none⟩=some (.bool a0_4):=(blk_cell BK183.out 4).trans rfl
           have hcz20_5:wc.cell? ⟨gb183,5,none⟩=some (.int .u64 a0_5):=(blk_cell BK183.out 5).trans rfl
           have hcz20_6:wc.cell? ⟨gb183,6,none⟩=some (.bool a0_6):=(blk_cell BK183.out 6).trans rfl
           have hcz20_7:wc.cell? ⟨gb183,7,none⟩=some (.int .u64 a0_7):=(blk_cell BK183.out 7).trans rfl
           have hcz20_8:wc.cell? ⟨gb183,8,none⟩=some (.bool a0_8):=(blk_cell BK183.out 8).trans rfl
           have hcz20_9:wc.cell? ⟨gb183,9,none⟩=some (.int .u64 a0_9):=(blk_cell BK183.out 9).trans rfl
           have hcz20_10:wc.cell? ⟨gb183,10,none⟩=some (.bool a0_10):=(blk_cell BK183.out 10).trans rfl
           have hcz20_11:wc.cell? ⟨gb183,11,none⟩=some (.int .u64 a0_11):=(blk_cell BK183.out 11).trans rfl
           have hcz20_12:wc.cell? ⟨gb183,12,none⟩=some (.bool a0_12):=(blk_cell BK183.out 12).trans rfl
           have hfz20_0:=blk_frozen BK183.out 0
           have hfz20_1:=blk_frozen BK183.out 1
           have hfz20_2:=blk_frozen BK183.out 2
           have hfz20_3:=blk_frozen BK183.out 3
           have hfz20_4:=blk_frozen BK183.out 4
           have hfz20_5:=blk_frozen BK183.out 5
           have hfz20_6:=blk_frozen BK183.out 6
           have hfz20_7:=blk_frozen BK183.out 7
           have hfz20_8:=blk_frozen BK183.out 8
           have hfz20_9:=blk_frozen BK183.out 9
           have hfz20_10:=blk_frozen BK183.out 10
           have hfz20_11:=blk_frozen BK183.out 11
           have hfz20_12:=blk_frozen BK183.out 12
           go_wp2
           go_meet
           case rel=>exact ⟨_,(true),(by first | rfl | (simp; done) | (simp [*]; done)),H',⟨by have:=HJ1.out; have:=HJ7.out; first | omega | exact Nat.le_refl _⟩,⟨by (with_reducible repeat (first | refine blk_drewN ?_ _ | refine blk_drew ?_ | refine blk_alloc ?_ _)); exact BK183.out⟩,⟨by repeat (first | (with_reducible first | exact HB.out | apply below_alloc | apply pw_below_drewN | apply below_drew1 | refine below_set ?_ GE183.out) | exact HB.out)⟩⟩
       case rest=>
        clear HC13
        try clear c1
        try clear p2
        try clear c4
        try clear c4b0
        try clear c7
        try clear c9
        try clear c9b0
        try clear c9b1
        try clear c12
        try clear c14
        try clear c14b0
        try clear c15
        try clear c16
        try clear c16b0
        try clear c16b1
        try clear c18
        try clear c18b0
        try clear c18b1
        try clear hcz10_0
        try clear hcz10_1
        try clear hcz10_10
        try clear hcz10_11
        try clear hcz10_12
        try clear hcz10_2
        try clear hcz10_3
        try clear hcz10_4
        try clear hcz10_5
        try clear hcz10_6
        try clear hcz10_7
        try clear hcz10_8
        try clear hcz10_9
        try clear hcz11_0
        try clear hcz11_1
        try clear hcz11_10
        try clear hcz11_11
        try clear hcz11_12
        try clear hcz11_2
        try clear hcz11_3
        try clear hcz11_4
        try clear hcz11_5
        try clear hcz11_6
        try clear hcz11_7
        try clear hcz11_8
        try clear hcz11_9
        try clear hcz15_0
        try clear hcz15_1
        try clear hcz15_10
        try clear hcz15_11
        try clear hcz15_12
        try clear hcz15_2
        try clear hcz15_3
        try clear hcz15_4
        try clear hcz15_5
        try clear hcz15_6
        try clear hcz15_7
        try clear hcz15_8
        try clear hcz15_9
        try clear hcz17_0
        try clear hcz17_1
        try clear hcz17_10
        try clear hcz17_11
        try clear hcz17_12
        try clear hcz17_2
        try clear hcz17_3
        try clear hcz17_4
        try clear hcz17_5
        try clear hcz17_6
        try clear hcz17_7
        try clear hcz17_8
        try clear hcz17_9
        try clear hcz19_0
        try clear hcz19_1
        try clear hcz19_10
        try clear hcz19_11
        try clear hcz19_12
        try clear hcz19_2
        try clear hcz19_3
        try clear hcz19_4
        try clear hcz19_5
        try clear hcz19_6
        try clear hcz19_7
        try clear hcz19_8
        try clear hcz19_9
        try clear hcz20_0
        try clear hcz20_1
        try clear hcz20_10
        try clear hcz20_11
        try clear hcz20_12
        try clear hcz20_2
        try clear hcz20_3
        try clear hcz20_4
        try clear hcz20_5
        try clear hcz20_6
        try clear hcz20_7
        try clear hcz20_8
        try clear hcz20_9
        try clear hcz5_0
        try clear hcz5_1
        try clear hcz5_10
        try clear hcz5_11
        try clear hcz5_12
        try clear hcz5_2
        try clear hcz5_3
        try clear hcz5_4
        try clear hcz5_5
        try clear hcz5_6
        try clear hcz5_7
        try clear hcz5_8
        try clear hcz5_9
        try clear hcz6_0
        try clear hcz6_1
        try clear hcz6_10
        try clear hcz6_11
        try clear hcz6_12
        try clear hcz6_2
        try clear hcz6_3
        try clear hcz6_4
        try clear hcz6_5
        try clear hcz6_6
        try clear hcz6_7
        try clear hcz6_8
        try clear hcz6_9
        try clear hfz10_0
        try clear hfz10_1
        try clear hfz10_10
        try clear hfz10_11
        try clear hfz10_12
        try clear hfz10_2
        try clear hfz10_3
        try clear hfz10_4
        try clear hfz10_5
        try clear hfz10_6
        try clear hfz10_7
        try clear hfz10_8
        try clear hfz10_9
        try clear hfz11_0
        try clear hfz11_1
        try clear hfz11_10
        try clear hfz11_11
        try clear hfz11_12
        try clear hfz11_2
        try clear hfz11_3
        try clear hfz11_4
        try clear hfz11_5
        try clear hfz11_6
        try clear hfz11_7
        try clear hfz11_8
        try clear hfz11_9
        try clear hfz15_0
        try clear hfz15_1
        try clear hfz15_10
        try clear hfz15_11
        try clear hfz15_12
        try clear hfz15_2
        try clear hfz15_3
        try clear hfz15_4
        try clear hfz15_5
        try clear hfz15_6
        try clear hfz15_7
        try clear hfz15_8
        try clear hfz15_9
        try clear hfz17_0
        try clear hfz17_1
        try clear hfz17_10
        try clear hfz17_11
        try clear hfz17_12
        try clear hfz17_2
        try clear hfz17_3
        try clear hfz17_4
        try clear hfz17_5
        try clear hfz17_6
        try clear hfz17_7
        try clear hfz17_8
        try clear hfz17_9
        try clear hfz19_0
        try clear hfz19_1
        try clear hfz19_10
        try clear hfz19_11
        try clear hfz19_12
        try clear hfz19_2
        try clear hfz19_3
        try clear hfz19_4
        try clear hfz19_5
        try clear hfz19_6
        try clear hfz19_7
        try clear hfz19_8
        try clear hfz19_9
        try clear hfz20_0
        try clear hfz20_1
        try clear hfz20_10
        try clear hfz20_11
        try clear hfz20_12
        try clear hfz20_2
        try clear hfz20_3
        try clear hfz20_4
        try clear hfz20_5
        try clear hfz20_6
        try clear hfz20_7
        try clear hfz20_8
        try clear hfz20_9
        try clear hfz5_0
        try clear hfz5_1
        try clear hfz5_10
        try clear hfz5_11
        try clear hfz5_12
        try clear hfz5_2
        try clear hfz5_3
        try clear hfz5_4
        try clear hfz5_5
        try clear hfz5_6
        try clear hfz5_7
        try clear hfz5_8
        try clear hfz5_9
        try clear hfz6_0
        try clear hfz6_1
        try clear hfz6_10
        try clear hfz6_11
        try clear hfz6_12
        try clear hfz6_2
        try clear hfz6_3
        try clear hfz6_4
        try clear hfz6_5
        try clear hfz6_6
        try clear hfz6_7
        try clear hfz6_8
        try clear hfz6_9
        try clear p2
        obtain ⟨kq,x39_12,rfl,HA,HJ12,BK183,HB⟩ :=hcut
        cases kq with
        | zero=>exact absurd HA.out (by simp [complineref23_Check.j2])
        | succ kj12=>
         have H:=HA.out
         clear HA
         simp only [complineref23_Check.j2] at H
         by_cases c21:x39_12=true
         ·subst c21
          have H1:(some 1)=some r:=by rw [if_pos rfl] at H; exact H
          clear H
          have H:=H1
          clear H1
          obtain rfl:=Option.some.inj H
          go_wp2
          go_ret
          exact ⟨by first | rfl | (simp [errW_none,errW_some] <;> rfl) | (simp [*,errW_none,errW_some] <;> rfl),by repeat (first | (with_reducible first | exact HB.out | apply below_alloc | apply pw_below_drewN | apply below_drew1 | refine below_set ?_ GE183.out) | exact HB.out)⟩
         ·replace c21:=Bool.eq_false_iff.mpr c21
          subst c21
          have H1:(if a0_0=2 then (complineref23_Check.j3 kj12 false a0_0 a0_1 a0_2 a0_3 a0_4 a0_5 a0_6 a0_7 a0_8 a0_9 a0_10 a0_11 a0_12) else (complineref23_Check.j3 kj12 (!((a0_3 == 0 && (!a0_4)) && ((a0_5 == 0 && (!a0_6)) && ((a0_7 == 0 && (!a0_8)) && ((a0_9 == 0 && (!a0_10)) && ((a0_11 == 0 && (!a0_12)))))))) a0_0 a0_1 a0_2 a0_3 a0_4 a0_5 a0_6 a0_7 a0_8 a0_9 a0_10 a0_11 a0_12))=some r:=by rw [if_neg (show ¬ (false=true) by decide)] at H; exact H
          clear H
          have H:=H1
          clear H1
          have HC22:=Aside0.mk H
          clear H
          have hcz23_0:wc.cell? ⟨gb183,0,none⟩=some (.int .i64 a0_0):=(blk_cell BK183.out 0).trans rfl
          have hcz23_1:wc.cell? ⟨gb183,1,none⟩=some (.int .u64 a0_1):=(blk_cell BK183.out 1).trans rfl
          have hcz23_2:wc.cell? ⟨gb183,2,none⟩=some (.int .i64 a0_2):=(blk_cell BK183.out 2).trans rfl
          have hcz23_3:wc.cell? ⟨gb183,3,none⟩=some (.int .u64 a0_3):=(blk_cell BK183.out 3).trans rfl
          have hcz23_4:wc.cell? ⟨gb183,4,none⟩=some (.bool a0_4):=(blk_cell BK183.out 4).trans rfl
          have hcz23_5:wc.cell? ⟨gb183,5,none⟩=some (.int .u64 a0_5):=(blk_cell BK183.out 5).trans rfl
          have hcz23_6:wc.cell? ⟨gb183,6,none⟩=some (.bool a0_6):=(blk_cell BK183.out 6).trans rfl
          have hcz23_7:wc.cell? ⟨gb183,7,none⟩=some (.int .u64 a0_7):=(blk_cell BK183.out 7).trans rfl
          have hcz23_8:wc.cell? ⟨gb183,8,none⟩=some (.bool a0_8):=(blk_cell BK183.out 8).trans rfl
          have hcz23_9:wc.cell? ⟨gb183,9,none⟩=some (.int .u64 a0_9):=(blk_cell BK183.out 9).trans rfl
          have hcz23_10:wc.cell? ⟨gb183,10,none⟩=some (.bool a0_10):=(blk_cell BK183.out 10).trans rfl
          have hcz23_11:wc.cell? ⟨gb183,11,none⟩=some (.int .u64 a0_11):=(blk_cell BK183.out 11).trans rfl
          have hcz23_12:wc.cell? ⟨gb183,12,none⟩=some (.bool a0_12):=(blk_cell BK183.out 12).trans rfl
          have hfz23_0:=blk_frozen BK183.out 0
          have hfz23_1:=blk_frozen BK183.out 1
          have hfz23_2:=blk_frozen BK183.out 2
          have hfz23_3:=blk_frozen BK183.out 3
          have hfz23_4:=blk_frozen BK183.out 4
          have hfz23_5:=blk_frozen BK183.out 5
          have hfz23_6:=blk_frozen BK183.out 6
          have hfz23_7:=blk_frozen BK183.out 7
          have hfz23_8:=blk_frozen BK183.out 8
          have hfz23_9:=blk_frozen BK183.out 9
          have hfz23_10:=blk_frozen BK183.out 10
          have hfz23_11:=blk_frozen BK183.out 11
          have hfz23_12:=blk_frozen BK183.out 12
          go_upto_region 8 with (fail)
          go_cut [50] (fun v50 wc=>∃ (kq:Nat) (x50_21:Bool),v50=.bool x50_21∧Aside0 (complineref23_Check.j3 kq x50_21 a0_0 a0_1 a0_2 a0_3 a0_4 a0_5 a0_6 a0_7 a0_8 a0_9 a0_10 a0_11 a0_12=some r)∧Aside0 (kq≤kj12)∧Aside0 (wc.heap[gb183]?=some (.cells #[.int .i64 a0_0,.int .u64 a0_1,.int .i64 a0_2,.int .u64 a0_3,.bool a0_4,.int .u64 a0_5,.bool a0_6,.int .u64 a0_7,.bool a0_8,.int .u64 a0_9,.bool a0_10,.int .u64 a0_11,.bool a0_12] 28 (0,0)))∧Aside0 (Below w.heap.size w wc))
          case first=>
           have H:=HC22.out
           clear HC22
           by_cases c24:a0_0=2
           ·rw [if_pos c24] at H
            have c24b0:(a0_0 == 2)=true:=beq_iff_eq.mpr c24
            have c24b1:(a0_0 != 2)=false:=bne_eq_false_iff_eq.mpr c24
            clear c24
            (first | rw [c24b0] | (simp only [i64_w,i32_w]; rw [c24b0]) | skip)
            have H':=Aside0.mk H
            clear H
            have hcz25_0:wc.cell? ⟨gb183,0,none⟩=some (.int .i64 a0_0):=(blk_cell BK183.out 0).trans rfl
            have hcz25_1:wc.cell? ⟨gb183,1,none⟩=some (.int .u64 a0_1):=(blk_cell BK183.out 1).trans rfl
            have hcz25_2:wc.cell? ⟨gb183,2,none⟩=some (.int .i64 a0_2):=(blk_cell BK183.out 2).trans rfl
            have hcz25_3:wc.cell? ⟨gb183,3,none⟩=some (.int .u64 a0_3):=(blk_cell BK183.out 3).trans rfl
            have hcz25_4:wc.cell? ⟨gb183,4,none⟩=some (.bool a0_4):=(blk_cell BK183.out 4).trans rfl
            have hcz25_5:wc.cell? ⟨gb183,5,none⟩=some (.int .u64 a0_5):=(blk_cell BK183.out 5).trans rfl
            have hcz25_6:wc.cell? ⟨gb183,6,none⟩=some (.bool a0_6):=(blk_cell BK183.out 6).trans rfl
            have hcz25_7:wc.cell? ⟨gb183,7,none⟩=some (.int .u64 a0_7):=(blk_cell BK183.out 7).trans rfl
            have hcz25_8:wc.cell? ⟨gb183,8,none⟩=some (.bool a0_8):=(blk_cell BK183.out 8).trans rfl
            have hcz25_9:wc.cell? ⟨gb183,9,none⟩=some (.int .u64 a0_9):=(blk_cell BK183.out 9).trans rfl
            have hcz25_10:wc.cell? ⟨gb183,10,none⟩=some (.bool a0_10):=(blk_cell BK183.out 10).trans rfl
            have hcz25_11:wc.cell? ⟨gb183,11,none⟩=some (.int .u64 a0_11):=(blk_cell BK183.out 11).trans rfl
            have hcz25_12:wc.cell? ⟨gb183,12,none⟩=some (.bool a0_12):=(blk_cell BK183.out 12).trans rfl
            have hfz25_0:=blk_frozen BK183.out 0
            have hfz25_1:=blk_frozen BK183.out 1
            have hfz25_2:=blk_frozen BK183.out 2
            have hfz25_3:=blk_frozen BK183.out 3
            have hfz25_4:=blk_frozen BK183.out 4
            have hfz25_5:=blk_frozen BK183.out 5
            have hfz25_6:=blk_frozen BK183.out 6
            have hfz25_7:=blk_frozen BK183.out 7
            have hfz25_8:=blk_frozen BK183.out 8
            have hfz25_9:=blk_frozen BK183.out 9
            have hfz25_10:=blk_frozen BK183.out 10
            have hfz25_11:=blk_frozen BK183.out 11
            have hfz25_12:=blk_frozen BK183.out 12
            go_wp2
            go_meet
            case rel=>exact ⟨_,(false),(by first | rfl | (simp; done) | (simp [*]; done)),H',⟨by have:=HJ1.out; have:=HJ7.out; have:=HJ12.out; first | omega | exact Nat.le_refl _⟩,⟨by (with_reducible repeat (first | refine blk_drewN ?_ _ | refine blk_drew ?_ | refine blk_alloc ?_ _)); exact BK183.out⟩,⟨by repeat (first | (with_reducible first | exact HB.out | apply below_alloc | apply pw_below_drewN | apply below_drew1 | refine below_set ?_ GE183.out) | exact HB.out)⟩⟩
           ·rw [if_neg c24] at H
            have c24b0:(a0_0 == 2)=false:=beq_eq_false_iff_ne.mpr c24
            have c24b1:(a0_0 != 2)=true:=bne_iff_ne.mpr c24
            (first | rw [c24b0] | (simp only [i64_w,i32_w]; rw [c24b0]) | skip)
            have H':=Aside0.mk H
            clear H
            have hcz26_0:wc.cell? ⟨gb183,0,none⟩=some (.int .i64 a0_0):=(blk_cell BK183.out 0).trans rfl
            have hcz26_1:wc.cell? ⟨gb183,1,none⟩=some (.int .u64 a0_1):=(blk_cell BK183.out 1).trans rfl
            have hcz26_2:wc.cell? ⟨gb183,2,none⟩=some (.int .i64 a0_2):=(blk_cell BK183.out 2).trans rfl
            have hcz26_3:wc.cell? ⟨gb183,3,none⟩=some (.int .u64 a0_3):=(blk_cell BK183.out 3).trans rfl
            have hcz26_4:wc.cell? ⟨gb183,4,none⟩=some (.bool a0_4):=(blk_cell BK183.out 4).trans rfl
            have hcz26_5:wc.cell? ⟨gb183,5,none⟩=some (.int .u64 a0_5):=(blk_cell BK183.out 5).trans rfl
            have hcz26_6:wc.cell? ⟨gb183,6,none⟩=some (.bool a0_6):=(blk_cell BK183.out 6).trans rfl
            have hcz26_7:wc.cell? ⟨gb183,7,none⟩=some (.int .u64 a0_7):=(blk_cell BK183.out 7).trans rfl
            have hcz26_8:wc.cell? ⟨gb183,8,none⟩=some (.bool a0_8):=(blk_cell BK183.out 8).trans rfl
            have hcz26_9:wc.cell? ⟨gb183,9,none⟩=some (.int .u64 a0_9):=(blk_cell BK183.out 9).trans rfl
            have hcz26_10:wc.cell? ⟨gb183,10,none⟩=some (.bool a0_10):=(blk_cell BK183.out 10).trans rfl
            have hcz26_11:wc.cell? ⟨gb183,11,none⟩=some (.int .u64 a0_11):=(blk_cell BK183.out 11).trans rfl
            have hcz26_12:wc.cell? ⟨gb183,12,none⟩=some (.bool a0_12):=(blk_cell BK183.out 12).trans rfl
            have hfz26_0:=blk_frozen BK183.out 0
            have hfz26_1:=blk_frozen BK183.out 1
            have hfz26_2:=blk_frozen BK183.out 2
            have hfz26_3:=blk_frozen BK183.out 3
            have hfz26_4:=blk_frozen BK183.out 4
            have hfz26_5:=blk_frozen BK183.out 5
            have hfz26_6:=blk_frozen BK183.out 6
            have hfz26_7:=blk_frozen BK183.out 7
            have hfz26_8:=blk_frozen BK183.out 8
            have hfz26_9:=blk_frozen BK183.out 9
            have hfz26_10:=blk_frozen BK183.out 10
            have hfz26_11:=blk_frozen BK183.out 11
            have hfz26_12:=blk_frozen BK183.out 12
            go_wp2
            go_meet
            case rel=>exact ⟨_,(!((a0_3 == 0 && (!a0_4)) && ((a0_5 == 0 && (!a0_6)) && ((a0_7 == 0 && (!a0_8)) && ((a0_9 == 0 && (!a0_10)) && ((a0_11 == 0 && (!a0_12)))))))),(by first | rfl | (simp; done) | (simp [*]; done)),H',⟨by have:=HJ1.out; have:=HJ7.out; have:=HJ12.out; first | omega | exact Nat.le_refl _⟩,⟨by (with_reducible repeat (first | refine blk_drewN ?_ _ | refine blk_drew ?_ | refine blk_alloc ?_ _)); exact BK183.out⟩,⟨by repeat (first | (with_reducible first | exact HB.out | apply below_alloc | apply pw_below_drewN | apply below_drew1 | refine below_set ?_ GE183.out) | exact HB.out)⟩⟩
          case rest=>
           clear HC22
           try clear c1
           try clear c2
           try clear p2
           try clear c4
           try clear c4b0
           try clear c7
           try clear c9
           try clear c9b0
           try clear c9b1
           try clear c12
           try clear c14
           try clear c14b0
           try clear c15
           try clear c16
           try clear c16b0
           try clear c16b1
           try clear c18
           try clear c18b0
           try clear c18b1
           try clear c21
           try clear c24
           try clear c24b0
           try clear c24b1
           try clear hcz10_0
           try clear hcz10_1
           try clear hcz10_10
           try clear hcz10_11
           try clear hcz10_12
           try clear hcz10_2
           try clear hcz10_3
           try clear hcz10_4
           try clear hcz10_5
           try clear hcz10_6
           try clear hcz10_7
           try clear hcz10_8
           try clear hcz10_9
           try clear hcz11_0
           try clear hcz11_1
           try clear hcz11_10
           try clear hcz11_11
           try clear hcz11_12
           try clear hcz11_2
           try clear hcz11_3
           try clear hcz11_4
           try clear hcz11_5
           try clear hcz11_6
           try clear hcz11_7
           try clear hcz11_8
           try clear hcz11_9
           try clear hcz15_0
           try clear hcz15_1
           try clear hcz15_10
           try clear hcz15_11
           try clear hcz15_12
           try clear hcz15_2
           try clear hcz15_3
           try clear hcz15_4
           try clear hcz15_5
           try clear hcz15_6
           try clear hcz15_7
           try clear hcz15_8
           try clear hcz15_9
           try clear hcz17_0
           try clear hcz17_1
           try clear hcz17_10
           try clear hcz17_11
           try clear hcz17_12
           try clear hcz17_2
           try clear hcz17_3
           try clear hcz17_4
           try clear hcz17_5
           try clear hcz17_6
           try clear hcz17_7
           try clear hcz17_8
           try clear hcz17_9
           try clear hcz19_0
           try clear hcz19_1
           try clear hcz19_10
           try clear hcz19_11
           try clear hcz19_12
           try clear hcz19_2
           try clear hcz19_3
           try clear hcz19_4
           try clear hcz19_5
           try clear hcz19_6
           try clear hcz19_7
           try clear hcz19_8
           try clear hcz19_9
           try clear hcz20_0
           try clear hcz20_1
           try clear hcz20_10
           try clear hcz20_11
           try clear hcz20_12
           try clear hcz20_2
           try clear hcz20_3
           try clear hcz20_4
           try clear hcz20_5
           try clear hcz20_6
           try clear hcz20_7
           try clear hcz20_8
           try clear hcz20_9
           try clear hcz23_0
           try clear hcz23_1
           try clear hcz23_10
           try clear hcz23_11
           try clear hcz23_12
           try clear hcz23_2
           try clear hcz23_3
           try clear hcz23_4
           try clear hcz23_5
           try clear hcz23_6
           try clear hcz23_7
           try clear hcz23_8
           try clear hcz23_9
           try clear hcz25_0
           try clear hcz25_1
           try clear hcz25_10
           try clear hcz25_11
           try clear hcz25_12
           try clear hcz25_2
           try clear hcz25_3
           try clear hcz25_4
           try clear hcz25_5
           try clear hcz25_6
           try clear hcz25_7
           try clear hcz25_8
           try clear hcz25_9
           try clear hcz26_0
           try clear hcz26_1
           try clear hcz26_10
           try clear hcz26_11
           try clear hcz26_12
           try clear hcz26_2
           try clear hcz26_3
           try clear hcz26_4
           try clear hcz26_5
           try clear hcz26_6
           try clear hcz26_7
           try clear hcz26_8
           try clear hcz26_9
           try clear hcz5_0
           try clear hcz5_1
           try clear hcz5_10
           try clear hcz5_11
           try clear hcz5_12
           try clear hcz5_2
           try clear hcz5_3
           try clear hcz5_4
           try clear hcz5_5
           try clear hcz5_6
           try clear hcz5_7
           try clear hcz5_8
           try clear hcz5_9
           try clear hcz6_0
           try clear hcz6_1
           try clear hcz6_10
           try clear hcz6_11
           try clear hcz6_12
           try clear hcz6_2
           try clear hcz6_3
           try clear hcz6_4
           try clear hcz6_5
           try clear hcz6_6
           try clear hcz6_7
           try clear hcz6_8
           try clear hcz6_9
           try clear hfz10_0
           try clear hfz10_1
           try clear hfz10_10
           try clear hfz10_11
           try clear hfz10_12
           try clear hfz10_2
           try clear hfz10_3
           try clear hfz10_4
           try clear hfz10_5
           try clear hfz10_6
           try clear hfz10_7
           try clear hfz10_8
           try clear hfz10_9
           try clear hfz11_0
           try clear hfz11_1
           try clear hfz11_10
           try clear hfz11_11
           try clear hfz11_12
           try clear hfz11_2
           try clear hfz11_3
           try clear hfz11_4
           try clear hfz11_5
           try clear hfz11_6
           try clear hfz11_7
           try clear hfz11_8
           try clear hfz11_9
           try clear hfz15_0
           try clear hfz15_1
           try clear hfz15_10
           try clear hfz15_11
           try clear hfz15_12
           try clear hfz15_2
           try clear hfz15_3
           try clear hfz15_4
           try clear hfz15_5
           try clear hfz15_6
           try clear hfz15_7
           try clear hfz15_8
           try clear hfz15_9
           try clear hfz17_0
           try clear hfz17_1
           try clear hfz17_10
           try clear hfz17_11
           try clear hfz17_12
           try clear hfz17_2
           try clear hfz17_3
           try clear hfz17_4
           try clear hfz17_5
           try clear hfz17_6
           try clear hfz17_7
           try clear hfz17_8
           try clear hfz17_9
           try clear hfz19_0
           try clear hfz19_1
           try clear hfz19_10
           try clear hfz19_11
           try clear hfz19_12
           try clear hfz19_2
           try clear hfz19_3
           try clear hfz19_4
           try clear hfz19_5
           try clear hfz19_6
           try clear hfz19_7
           try clear hfz19_8
           try clear hfz19_9
           try clear hfz20_0
           try clear hfz20_1
           try clear hfz20_10
           try clear hfz20_11
           try clear hfz20_12
           try clear hfz20_2
           try clear hfz20_3
           try clear hfz20_4
           try clear hfz20_5
           try clear hfz20_6
           try clear hfz20_7
           try clear hfz20_8
           try clear hfz20_9
           try clear hfz23_0
           try clear hfz23_1
           try clear hfz23_10
           try clear hfz23_11
           try clear hfz23_12
           try clear hfz23_2
           try clear hfz23_3
           try clear hfz23_4
           try clear hfz23_5
           try clear hfz23_6
           try clear hfz23_7
           try clear hfz23_8
           try clear hfz23_9
           try clear hfz25_0
           try clear hfz25_1
           try clear hfz25_10
           try clear hfz25_11
           try clear hfz25_12
           try clear hfz25_2
           try clear hfz25_3
           try clear hfz25_4
           try clear hfz25_5
           try clear hfz25_6
           try clear hfz25_7
           try clear hfz25_8
           try clear hfz25_9
           try clear hfz26_0
           try clear hfz26_1
           try clear hfz26_10
           try clear hfz26_11
           try clear hfz26_12
           try clear hfz26_2
           try clear hfz26_3
           try clear hfz26_4
           try clear hfz26_5
           try clear hfz26_6
           try clear hfz26_7
           try clear hfz26_8
           try clear hfz26_9
           try clear hfz5_0
           try clear hfz5_1
           try clear hfz5_10
           try clear hfz5_11
           try clear hfz5_12
           try clear hfz5_2
           try clear hfz5_3
           try clear hfz5_4
           try clear hfz5_5
           try clear hfz5_6
           try clear hfz5_7
           try clear hfz5_8
           try clear hfz5_9
           try clear hfz6_0
           try clear hfz6_1
           try clear hfz6_10
           try clear hfz6_11
           try clear hfz6_12
           try clear hfz6_2
           try clear hfz6_3
           try clear hfz6_4
           try clear hfz6_5
           try clear hfz6_6
           try clear hfz6_7
           try clear hfz6_8
           try clear hfz6_9
           try clear p2
           obtain ⟨kq,x50_21,rfl,HA,HJ21,BK183,HB⟩ :=hcut
           cases kq with
           | zero=>exact absurd HA.out (by simp [complineref23_Check.j3])
           | succ kj21=>
            have H:=HA.out
            clear HA
            simp only [complineref23_Check.j3] at H
            by_cases c27:x50_21=true
            ·subst c27
             have H1:(some 1)=some r:=by rw [if_pos rfl] at H; exact H
             clear H
             have H:=H1
             clear H1
             obtain rfl:=Option.some.inj H
             go_wp2
             go_ret
             exact ⟨by first | rfl | (simp [errW_none,errW_some] <;> rfl) | (simp [*,errW_none,errW_some] <;> rfl),by repeat (first | (with_reducible first | exact HB.out | apply below_alloc | apply pw_below_drewN | apply below_drew1 | refine below_set ?_ GE183.out) | exact HB.out)⟩
            ·replace c27:=Bool.eq_false_iff.mpr c27
             subst c27
             have H1:((complineref19_Check.f kj21 a0_3 a0_4 a0_5 a0_6 a0_7 a0_8 a0_9 a0_10 a0_11 a0_12).bind fun bt184=>(if a0_0=2 then (if bt184.2=0 then (some 0) else (some 2)) else (some 0)))=some r:=by rw [if_neg (show ¬ (false=true) by decide)] at H; exact H
             clear H
             have H:=H1
             clear H1
             replace H:=Option.bind_eq_some_iff.mp H
             obtain ⟨⟨t184,t185⟩,A280,H⟩ :=H
             replace H:(if a0_0=2 then (if t185=0 then (some 0) else (some 2)) else (some 0))=some r:=H
             have A28:=Aside0.mk A280
             clear A280
             by_cases c29:a0_0=2
             ·rw [if_pos c29] at H
              have c29b0:(a0_0 == 2)=true:=beq_iff_eq.mpr c29
              have c29b1:(a0_0 != 2)=false:=bne_eq_false_iff_eq.mpr c29
              clear c29
              by_cases c30:t185=0
              ·rw [if_pos c30] at H
               have c30b0:(t185 == 0)=true:=beq_iff_eq.mpr c30
               have c30b1:(t185 != 0)=false:=bne_eq_false_iff_eq.mpr c30
               clear c30
               obtain rfl:=Option.some.inj H
               have hcz31_0:wc.cell? ⟨gb183,0,none⟩=some (.int .i64 a0_0):=(blk_cell BK183.out 0).trans rfl
               have hcz31_1:wc.cell? ⟨gb183,1,none⟩=some (.int .u64 a0_1):=(blk_cell BK183.out 1).trans rfl
               have hcz31_2:wc.cell? ⟨gb183,2,none⟩=some (.int .i64 a0_2):=(blk_cell BK183.out 2).trans rfl
               have hcz31_3:wc.cell? ⟨gb183,3,none⟩=some (.int .u64 a0_3):=(blk_cell BK183.out 3).trans rfl
               have hcz31_4:wc.cell? ⟨gb183,4,none⟩=some (.bool a0_4):=(blk_cell BK183.out 4).trans rfl
               have hcz31_5:wc.cell? ⟨gb183,5,none⟩=some (.int .u64 a0_5):=(blk_cell BK183.out 5).trans rfl
               have hcz31_6:wc.cell? ⟨gb183,6,none⟩=some (.bool a0_6):=(blk_cell BK183.out 6).trans rfl
               have hcz31_7:wc.cell? ⟨gb183,7,none⟩=some (.int .u64 a0_7):=(blk_cell BK183.out 7).trans rfl
               have hcz31_8:wc.cell? ⟨gb183,8,none⟩=some (.bool a0_8):=(blk_cell BK183.out 8).trans rfl
               have hcz31_9:wc.cell? ⟨gb183,9,none⟩=some (.int .u64 a0_9):=(blk_cell BK183.out 9).trans rfl
               have hcz31_10:wc.cell? ⟨gb183,10,none⟩=some (.bool a0_10):=(blk_cell BK183.out 10).trans rfl
               have hcz31_11:wc.cell? ⟨gb183,11,none⟩=some (.int .u64 a0_11):=(blk_cell BK183.out 11).trans rfl
               have hcz31_12:wc.cell? ⟨gb183,12,none⟩=some (.bool a0_12):=(blk_cell BK183.out 12).trans rfl
               have hfz31_0:=blk_frozen BK183.out 0
               have hfz31_1:=blk_frozen BK183.out 1
               have hfz31_2:=blk_frozen BK183.out 2
               have hfz31_3:=blk_frozen BK183.out 3
               have hfz31_4:=blk_frozen BK183.out 4
               have hfz31_5:=blk_frozen BK183.out 5
               have hfz31_6:=blk_frozen BK183.out 6
               have hfz31_7:=blk_frozen BK183.out 7
               have hfz31_8:=blk_frozen BK183.out 8
               have hfz31_9:=blk_frozen BK183.out 9
               have hfz31_10:=blk_frozen BK183.out 10
               have hfz31_11:=blk_frozen BK183.out 11
               have hfz31_12:=blk_frozen BK183.out 12
               go_wp2_with (first | ((with_reducible refine gate_callee (f:=26) rfl ?_); refine goesL_ (some 54) rfl rfl Tryd.func26 (by kernel_rfl) rfl #[.agg #[.int .u64 a0_3,.bool a0_4,.int .u64 a0_5,.bool a0_6,.int .u64 a0_7,.bool a0_8,.int .u64 a0_9,.bool a0_10,.int .u64 a0_11,.bool a0_12]] rfl (by (try simp only [List.map_toArray,List.map_cons,List.map_nil]); first | done | rfl | (simp only [List.length_drop,List.length_take]; rfl)) ?_; (with_reducible refine (complineref19_Check.calls kj21 a0_3 a0_4 a0_5 a0_6 a0_7 a0_8 a0_9 a0_10 a0_11 a0_12 t184 t185 _ A28.out).mono ?_); rintro e w32 ⟨rfl,hb⟩; refine ⟨_,rfl,?_⟩; have n0_:=Aside0.mk (blk_below (g:=gb183) (o:=.cells #[.int .i64 a0_0,.int .u64 a0_1,.int .i64 a0_2,.int .u64 a0_3,.bool a0_4,.int .u64 a0_5,.bool a0_6,.int .u64 a0_7,.bool a0_8,.int .u64 a0_9,.bool a0_10,.int .u64 a0_11,.bool a0_12] 28 (0,0)) (by (with_reducible repeat (first | refine blk_drewN ?_ _ | refine blk_drew ?_ | refine blk_alloc ?_ _)); exact BK183.out) hb); have n1_:=Aside0.mk (below_step (by repeat (first | (with_reducible first | exact HB.out | apply below_alloc | apply pw_below_drewN | apply below_drew1 | refine below_set ?_ GE183.out) | exact HB.out)) hb); clear BK183; clear HB; have BK183:=n0_; have HB:=n1_; clear n0_ n1_; (try clear hb); (try clear hb2); (try clear hk); (try clear hi); have hcz33_0:w32.cell? ⟨gb183,0,none⟩=some (.int .i64 a0_0):=(blk_cell BK183.out 0).trans rfl; have hcz33_1:w32.cell? ⟨gb183,1,none⟩=some (.int .u64 a0_1):=(blk_cell BK183.out 1).trans rfl; have hcz33_2:w32.cell? ⟨gb183,2,none⟩=some (.int .i64 a0_2):=(blk_cell BK183.out 2).trans rfl; have hcz33_3:w32.cell? ⟨gb183,3,none⟩=some (.int .u64 a0_3):=(blk_cell BK183.out 3).trans rfl; have hcz33_4:w32.cell? ⟨gb183,4,none⟩=some (.bool a0_4):=(blk_cell BK183.out 4).trans rfl; have hcz33_5:w32.cell? ⟨gb183,5,none⟩=some (.int .u64 a0_5):=(blk_cell BK183.out 5).trans rfl; have hcz33_6:w32.cell? ⟨gb183,6,none⟩=some (.bool a0_6):=(blk_cell BK183.out 6).trans rfl; have hcz33_7:w32.cell? ⟨gb183,7,none⟩=some (.int .u64 a0_7):=(blk_cell BK183.out 7).trans rfl; have hcz33_8:w32.cell? ⟨gb183,8,none⟩=some (.bool a0_8):=(blk_cell BK183.out 8).trans rfl; have hcz33_9:w32.cell? ⟨gb183,9,none⟩=some (.int .u64 a0_9):=(blk_cell BK183.out 9).trans rfl; have hcz33_10:w32.cell? ⟨gb183,10,none⟩=some (.bool a0_10):=(blk_cell BK183.out 10).trans rfl; have hcz33_11:w32.cell? ⟨gb183,11,none⟩=some (.int .u64 a0_11):=(blk_cell BK183.out 11).trans rfl; have hcz33_12:w32.cell? ⟨gb183,12,none⟩=some (.bool a0_12):=(blk_cell BK183.out 12).trans rfl; have hfz33_0:=blk_frozen BK183.out 0; have hfz33_1:=blk_frozen BK183.out 1; have hfz33_2:=blk_frozen BK183.out 2; have hfz33_3:=blk_frozen BK183.out 3; have hfz33_4:=blk_frozen BK183.out 4; have hfz33_5:=blk_frozen BK183.out 5; have hfz33_6:=blk_frozen BK183.out 6; have hfz33_7:=blk_frozen BK183.out 7; have hfz33_8:=blk_frozen BK183.out 8; have hfz33_9:=blk_frozen BK183.out 9; have hfz33_10:=blk_frozen BK183.out 10; have hfz33_11:=blk_frozen BK183.out 11; have hfz33_12:=blk_frozen BK183.out 12))
               go_ret
               exact ⟨by first | rfl | (simp [errW_none,errW_some] <;> rfl) | (simp [*,errW_none,errW_some] <;> rfl),by repeat (first | (with_reducible first | exact HB.out | apply below_alloc | apply pw_below_drewN | apply below_drew1 | refine below_set ?_ GE183.out) | exact HB.out)⟩
              ·rw [if_neg c30] at H
               have c30b0:(t185 == 0)=false:=beq_eq_false_iff_ne.mpr c30
               have c30b1:(t185 != 0)=true:=bne_iff_ne.mpr c30
               obtain rfl:=Option.some.inj H
               have hcz34_0:wc.cell? ⟨gb183,0,none⟩=some (.int .i64 a0_0):=(blk_cell BK183.out 0).trans rfl
               have hcz34_1:wc.cell? ⟨gb183,1,none⟩=some (.int .u64 a0_1):=(blk_cell BK183.out 1).trans rfl
               have hcz34_2:wc.cell? ⟨gb183,2,none⟩=some (.int .i64 a0_2):=(blk_cell BK183.out 2).trans rfl
               have hcz34_3:wc.cell? ⟨gb183,3,none⟩=some (.int .u64 a0_3):=(blk_cell BK183.out 3).trans rfl
               have hcz34_4:wc.cell? ⟨gb183,4,none⟩=some (.bool a0_4):=(blk_cell BK183.out 4).trans rfl
               have hcz34_5:wc.cell? ⟨gb183,5,none⟩=some (.int .u64 a0_5):=(blk_cell BK183.out 5).trans rfl
               have hcz34_6:wc.cell? ⟨gb183,6,none⟩=some (.bool a0_6):=(blk_cell BK183.out 6).trans rfl
               have hcz34_7:wc.cell? ⟨gb183,7,none⟩=some (.int .u64 a0_7):=(blk_cell BK183.out 7).trans rfl
               have hcz34_8:wc.cell? ⟨gb183,8,none⟩=some (.bool a0_8):=(blk_cell BK183.out 8).trans rfl
               have hcz34_9:wc.cell? ⟨gb183,9,none⟩=some (.int .u64 a0_9):=(blk_cell BK183.out 9).trans rfl
               have hcz34_10:wc.cell? ⟨gb183,10,none⟩=some (.bool a0_10):=(blk_cell BK183.out 10).trans rfl
               have hcz34_11:wc.cell? ⟨gb183,11,none⟩=some (.int .u64 a0_11):=(blk_cell BK183.out 11).trans rfl
               have hcz34_12:wc.cell? ⟨gb183,12,none⟩=some (.bool a0_12):=(blk_cell BK183.out 12).trans rfl
               have hfz34_0:=blk_frozen BK183.out 0
               have hfz34_1:=blk_frozen BK183.out 1
               have hfz34_2:=blk_frozen BK183.out 2
               have hfz34_3:=blk_frozen BK183.out 3
               have hfz34_4:=blk_frozen BK183.out 4
               have hfz34_5:=blk_frozen BK183.out 5
               have hfz34_6:=blk_frozen BK183.out 6
               have hfz34_7:=blk_frozen BK183.out 7
               have hfz34_8:=blk_frozen BK183.out 8
               have hfz34_9:=blk_frozen BK183.out 9
               have hfz34_10:=blk_frozen BK183.out 10
               have hfz34_11:=blk_frozen BK183.out 11
               have hfz34_12:=blk_frozen BK183.out 12
               go_wp2_with (first | ((with_reducible refine gate_callee (f:=26) rfl ?_); refine goesL_ (some 54) rfl rfl Tryd.func26 (by kernel_rfl) rfl #[.agg #[.int .u64 a0_3,.bool a0_4,.int .u64 a0_5,.bool a0_6,.int .u64 a0_7,.bool a0_8,.int .u64 a0_9,.bool a0_10,.int .u64 a0_11,.bool a0_12]] rfl (by (try simp only [List.map_toArray,List.map_cons,List.map_nil]); first | done | rfl | (simp only [List.length_drop,List.length_take]; rfl)) ?_; (with_reducible refine (complineref19_Check.calls kj21 a0_3 a0_4 a0_5 a0_6 a0_7 a0_8 a0_9 a0_10 a0_11 a0_12 t184 t185 _ A28.out).mono ?_); rintro e w35 ⟨rfl,hb⟩; refine ⟨_,rfl,?_⟩; have n0_:=Aside0.mk (blk_below (g:=gb183) (o:=.cells #[.int .i64 a0_0,.int .u64 a0_1,.int .i64 a0_2,.int .u64 a0_3,.bool a0_4,.int .u64 a0_5,.bool a0_6,.int .u64 a0_7,.bool a0_8,.int .u64 a0_9,.bool a0_10,.int .u64 a0_11,.bool a0_12] 28 (0,0)) (by (with_reducible repeat (first | refine blk_drewN ?_ _ | refine blk_drew ?_ | refine blk_alloc ?_ _)); exact BK183.out) hb); have n1_:=Aside0.mk (below_step (by repeat (first | (with_reducible first | exact HB.out | apply below_alloc | apply pw_below_drewN | apply below_drew1 | refine below_set ?_ GE183.out) | exact HB.out)) hb); clear BK183; clear HB; have BK183:=n0_; have HB:=n1_; clear n0_ n1_; (try clear hb); (try clear hb2); (try clear hk); (try clear hi); have hcz36_0:w35.cell? ⟨gb183,0,none⟩=some (.int .i64 a0_0):=(blk_cell BK183.out 0).trans rfl; have hcz36_1:w35.cell? ⟨gb183,1,none⟩=some (.int .u64 a0_1):=(blk_cell BK183.out 1).trans rfl; have hcz36_2:w35.cell? ⟨gb183,2,none⟩=some (.int .i64 a0_2):=(blk_cell BK183.out 2).trans rfl; have hcz36_3:w35.cell? ⟨gb183,3,none⟩=some (.int .u64 a0_3):=(blk_cell BK183.out 3).trans rfl; have hcz36_4:w35.cell? ⟨gb183,4,none⟩=some (.bool a0_4):=(blk_cell BK183.out 4).trans rfl; have hcz36_5:w35.cell? ⟨gb183,5,none⟩=some (.int .u64 a0_5):=(blk_cell BK183.out 5).trans rfl; have hcz36_6:w35.cell? ⟨gb183,6,none⟩=some (.bool a0_6):=(blk_cell BK183.out 6).trans rfl; have hcz36_7:w35.cell? ⟨gb183,7,none⟩=some (.int .u64 a0_7):=(blk_cell BK183.out 7).trans rfl; have hcz36_8:w35.cell? ⟨gb183,8,none⟩=some (.bool a0_8):=(blk_cell BK183.out 8).trans rfl; have hcz36_9:w35.cell? ⟨gb183,9,none⟩=some (.int .u64 a0_9):=(blk_cell BK183.out 9).trans rfl; have hcz36_10:w35.cell? ⟨gb183,10,none⟩=some (.bool a0_10):=(blk_cell BK183.out 10).trans rfl; have hcz36_11:w35.cell? ⟨gb183,11,none⟩=some (.int .u64 a0_11):=(blk_cell BK183.out 11).trans rfl; have hcz36_12:w35.cell? ⟨gb183,12,none⟩=some (.bool a0_12):=(blk_cell BK183.out 12).trans rfl; have hfz36_0:=blk_frozen BK183.out 0; have hfz36_1:=blk_frozen BK183.out 1; have hfz36_2:=blk_frozen BK183.out 2; have hfz36_3:=blk_frozen BK183.out 3; have hfz36_4:=blk_frozen BK183.out 4; have hfz36_5:=blk_frozen BK183.out 5; have hfz36_6:=blk_frozen BK183.out 6; have hfz36_7:=blk_frozen BK183.out 7; have hfz36_8:=blk_frozen BK183.out 8; have hfz36_9:=blk_frozen BK183.out 9; have hfz36_10:=blk_frozen BK183.out 10; have hfz36_11:=blk_frozen BK183.out 11; have hfz36_12:=blk_frozen BK183.out 12))
               go_ret
               exact ⟨by first | rfl | (simp [errW_none,errW_some] <;> rfl) | (simp [*,errW_none,errW_some] <;> rfl),by repeat (first | (with_reducible first | exact HB.out | apply below_alloc | apply pw_below_drewN | apply below_drew1 | refine below_set ?_ GE183.out) | exact HB.out)⟩
             ·rw [if_neg c29] at H
              have c29b0:(a0_0 == 2)=false:=beq_eq_false_iff_ne.mpr c29
              have c29b1:(a0_0 != 2)=true:=bne_iff_ne.mpr c29
              obtain rfl:=Option.some.inj H
              have hcz37_0:wc.cell? ⟨gb183,0,none⟩=some (.int .i64 a0_0):=(blk_cell BK183.out 0).trans rfl
              have hcz37_1:wc.cell? ⟨gb183,1,none⟩=some (.int .u64 a0_1):=(blk_cell BK183.out 1).trans rfl
              have hcz37_2:wc.cell? ⟨gb183,2,none⟩=some (.int .i64 a0_2):=(blk_cell BK183.out 2).trans rfl
              have hcz37_3:wc.cell? ⟨gb183,3,none⟩=some (.int .u64 a0_3):=(blk_cell BK183.out 3).trans rfl
              have hcz37_4:wc.cell? ⟨gb183,4,none⟩=some (.bool a0_4):=(blk_cell BK183.out 4).trans rfl
              have hcz37_5:wc.cell? ⟨gb183,5,none⟩=some (.int .u64 a0_5):=(blk_cell BK183.out 5).trans rfl
              have hcz37_6:wc.cell? ⟨gb183,6,none⟩=some (.bool a0_6):=(blk_cell BK183.out 6).trans rfl
              have hcz37_7:wc.cell? ⟨gb183,7,none⟩=some (.int .u64 a0_7):=(blk_cell BK183.out 7).trans rfl
              have hcz37_8:wc.cell? ⟨gb183,8,none⟩=some (.bool a0_8):=(blk_cell BK183.out 8).trans rfl
              have hcz37_9:wc.cell? ⟨gb183,9,none⟩=some (.int .u64 a0_9):=(blk_cell BK183.out 9).trans rfl
              have hcz37_10:wc.cell? ⟨gb183,10,none⟩=some (.bool a0_10):=(blk_cell BK183.out 10).trans rfl
              have hcz37_11:wc.cell? ⟨gb183,11,none⟩=some (.int .u64 a0_11):=(blk_cell BK183.out 11).trans rfl
              have hcz37_12:wc.cell? ⟨gb183,12,none⟩=some (.bool a0_12):=(blk_cell BK183.out 12).trans rfl
              have hfz37_0:=blk_frozen BK183.out 0
              have hfz37_1:=blk_frozen BK183.out 1
              have hfz37_2:=blk_frozen BK183.out 2
              have hfz37_3:=blk_frozen BK183.out 3
              have hfz37_4:=blk_frozen BK183.out 4
              have hfz37_5:=blk_frozen BK183.out 5
              have hfz37_6:=blk_frozen BK183.out 6
              have hfz37_7:=blk_frozen BK183.out 7
              have hfz37_8:=blk_frozen BK183.out 8
              have hfz37_9:=blk_frozen BK183.out 9
              have hfz37_10:=blk_frozen BK183.out 10
              have hfz37_11:=blk_frozen BK183.out 11
              have hfz37_12:=blk_frozen BK183.out 12
              go_wp2_with (first | ((with_reducible refine gate_callee (f:=26) rfl ?_); refine goesL_ (some 54) rfl rfl Tryd.func26 (by kernel_rfl) rfl #[.agg #[.int .u64 a0_3,.bool a0_4,.int .u64 a0_5,.bool a0_6,.int .u64 a0_7,.bool a0_8,.int .u64 a0_9,.bool a0_10,.int .u64 a0_11,.bool a0_12]] rfl (by (try simp only [List.map_toArray,List.map_cons,List.map_nil]); first | done | rfl | (simp only [List.length_drop,List.length_take]; rfl)) ?_; (with_reducible refine (complineref19_Check.calls kj21 a0_3 a0_4 a0_5 a0_6 a0_7 a0_8 a0_9 a0_10 a0_11 a0_12 t184 t185 _ A28.out).mono ?_); rintro e w38 ⟨rfl,hb⟩; refine ⟨_,rfl,?_⟩; have n0_:=Aside0.mk (blk_below (g:=gb183) (o:=.cells #[.int .i64 a0_0,.int .u64 a0_1,.int .i64 a0_2,.int .u64 a0_3,.bool a0_4,.int .u64 a0_5,.bool a0_6,.int .u64 a0_7,.bool a0_8,.int .u64 a0_9,.bool a0_10,.int .u64 a0_11,.bool a0_12] 28 (0,0)) (by (with_reducible repeat (first | refine blk_drewN ?_ _ | refine blk_drew ?_ | refine blk_alloc ?_ _)); exact BK183.out) hb); have n1_:=Aside0.mk (below_step (by repeat (first | (with_reducible first | exact HB.out | apply below_alloc | apply pw_below_drewN | apply below_drew1 | refine below_set ?_ GE183.out) | exact HB.out)) hb); clear BK183; clear HB; have BK183:=n0_; have HB:=n1_; clear n0_ n1_; (try clear hb); (try clear hb2); (try clear hk); (try clear hi); have hcz39_0:w38.cell? ⟨gb183,0,none⟩=some (.int .i64 a0_0):=(blk_cell BK183.out 0).trans rfl; have hcz39_1:w38.cell? ⟨gb183,1,none⟩=some (.int .u64 a0_1):=(blk_cell BK183.out 1).trans rfl; have hcz39_2:w38.cell? ⟨gb183,2,none⟩=some (.int .i64 a0_2):=(blk_cell BK183.out 2).trans rfl; have hcz39_3:w38.cell? ⟨gb183,3,none⟩=some (.int .u64 a0_3):=(blk_cell BK183.out 3).trans rfl; have hcz39_4:w38.cell? ⟨gb183,4,none⟩=some (.bool a0_4):=(blk_cell BK183.out 4).trans rfl; have hcz39_5:w38.cell? ⟨gb183,5,none⟩=some (.int .u64 a0_5):=(blk_cell BK183.out 5).trans rfl; have hcz39_6:w38.cell? ⟨gb183,6,none⟩=some (.bool a0_6):=(blk_cell BK183.out 6).trans rfl; have hcz39_7:w38.cell? ⟨gb183,7,none⟩=some (.int .u64 a0_7):=(blk_cell BK183.out 7).trans rfl; have hcz39_8:w38.cell? ⟨gb183,8,none⟩=some (.bool a0_8):=(blk_cell BK183.out 8).trans rfl; have hcz39_9:w38.cell? ⟨gb183,9,none⟩=some (.int .u64 a0_9):=(blk_cell BK183.out 9).trans rfl; have hcz39_10:w38.cell? ⟨gb183,10,none⟩=some (.bool a0_10):=(blk_cell BK183.out 10).trans rfl; have hcz39_11:w38.cell? ⟨gb183,11,none⟩=some (.int .u64 a0_11):=(blk_cell BK183.out 11).trans rfl; have hcz39_12:w38.cell? ⟨gb183,12,none⟩=some (.bool a0_12):=(blk_cell BK183.out 12).trans rfl; have hfz39_0:=blk_frozen BK183.out 0; have hfz39_1:=blk_frozen BK183.out 1; have hfz39_2:=blk_frozen BK183.out 2; have hfz39_3:=blk_frozen BK183.out 3; have hfz39_4:=blk_frozen BK183.out 4; have hfz39_5:=blk_frozen BK183.out 5; have hfz39_6:=blk_frozen BK183.out 6; have hfz39_7:=blk_frozen BK183.out 7; have hfz39_8:=blk_frozen BK183.out 8; have hfz39_9:=blk_frozen BK183.out 9; have hfz39_10:=blk_frozen BK183.out 10; have hfz39_11:=blk_frozen BK183.out 11; have hfz39_12:=blk_frozen BK183.out 12))
              go_ret
              exact ⟨by first | rfl | (simp [errW_none,errW_some] <;> rfl) | (simp [*,errW_none,errW_some] <;> rfl),by repeat (first | (with_reducible first | exact HB.out | apply below_alloc | apply pw_below_drewN | apply below_drew1 | refine below_set ?_ GE183.out) | exact HB.out)⟩
end Go.Proofs.YtepflnfnkfkldaaDoor.PRea
