-- Written by a program of this session (gprint.py) over the kit's print.
import Derived.Test.YtepflnfnkfkldaaDoorPReax0
import Derived.Test.YtepflnfnkfkldaaDoorPReax2
import Derived.Test.YtepflnfnkfkldaaDoorPReax3
namespace Go.Proofs.YtepflnfnkfkldaaDoor.PRea
open Go.RowKit Go.Proofs.YtepflnfnkfkldaaDoorW.PrintWords Go.Proofs.YtepflnfnkfkldaaDoorW.PrintLast Go.Proofs.YtepflnfnkfkldaaDoorW.PrintMore
attribute [local go_sem] max2_int min2_int max_two min_two max_three min_three max_four min_four
set_option linter.unusedVariables false
set_option linter.unusedSimpArgs false
attribute [local go_sem high] eqA28
mutual
def rearm_Check.j0:Nat→Int→Int→Int→Int→Bool→Int→Bool→Int→Bool→Int→Bool→Int→Bool→Int→Int→Int→Int→Bool→Int→Bool→Int→Bool→Int→Bool→Int→Bool→Option (Int)
 | 0,_,_,_,_,_,_,_,_,_,_,_,_,_,_,_,_,_,_,_,_,_,_,_,_,_,_=>none
 | k+1,x110000,x110001,x110002,x110003,x110004,x110005,x110006,x110007,x110008,x110009,x110010,x110011,x110012,x111000,x111001,x111002,x111003,x111004,x111005,x111006,x111007,x111008,x111009,x111010,x111011,x111012=>if x110002 < 0 then (rearm_Check.j1 k true x110000 x110001 x110002 x110003 x110004 x110005 x110006 x110007 x110008 x110009 x110010 x110011 x110012) else (rearm_Check.j1 k (!(x110000 == x111000) || (!(x110001 == x111001) || (!(x110002 == x111002) || (((!(x110003 == x111003) || (!(x110004 == x111004))) || ((!(x110005 == x111005) || (!(x110006 == x111006))) || ((!(x110007 == x111007) || (!(x110008 == x111008))) || ((!(x110009 == x111009) || (!(x110010 == x111010))) || ((!(x110011 == x111011) || (!(x110012 == x111012)))))))))))) x110000 x110001 x110002 x110003 x110004 x110005 x110006 x110007 x110008 x110009 x110010 x110011 x110012)
def rearm_Check.j1:Nat→Bool→Int→Int→Int→Int→Bool→Int→Bool→Int→Bool→Int→Bool→Int→Bool→Option (Int)
 | 0,_,_,_,_,_,_,_,_,_,_,_,_,_,_=>none
 | k+1,x36,x110000,x110001,x110002,x110003,x110004,x110005,x110006,x110007,x110008,x110009,x110010,x110011,x110012=>if x36=true then (some 1) else ((spec_Check.f x110003 x110004 x110005 x110006 x110007 x110008 x110009 x110010 x110011 x110012).bind fun bt111=>(if x110000=2 then (if bt111.2=0 then (some 0) else (some 2)) else (some 0)))
end
def rearm_Check.f (k:Nat)(a0_0:Int)(a0_1:Int)(a0_2:Int)(a0_3:Int)(a0_4:Bool)(a0_5:Int)(a0_6:Bool)(a0_7:Int)(a0_8:Bool)(a0_9:Int)(a0_10:Bool)(a0_11:Int)(a0_12:Bool):Option (Int):=if a0_0=0 then (rearm_Check.j0 k a0_0 a0_1 a0_2 a0_3 a0_4 a0_5 a0_6 a0_7 a0_8 a0_9 a0_10 a0_11 a0_12 a0_0 0 0 0 false 0 false 0 false 0 false 0 false) else (if a0_0=1 then (if a0_1=0 then (some 10) else (rearm_Check.j0 k a0_0 a0_1 a0_2 a0_3 a0_4 a0_5 a0_6 a0_7 a0_8 a0_9 a0_10 a0_11 a0_12 a0_0 a0_1 a0_2 0 false 0 false 0 false 0 false 0 false)) else (if a0_0=2 then (rearm_Check.j0 k a0_0 a0_1 a0_2 a0_3 a0_4 a0_5 a0_6 a0_7 a0_8 a0_9 a0_10 a0_11 a0_12 a0_0 0 0 a0_3 a0_4 a0_5 a0_6 a0_7 a0_8 a0_9 a0_10 a0_11 a0_12) else (some 7)))
def rearm_Check.T8:Bool × List (List Nat × List Nat):=(true,[([],[]),([0],[0]),([],[]),([2],[2]),([0,1],[]),([4,1,0,1],[1,4]),([0,1,2,3,4,5],[]),([6,3,5,0,1,2,3,4,5],[3,6])])
def rearm_Check.B8:List Nat:=[0,1,0,4,3,19,63,127]
theorem rearm_Check.tab8:rtab .any (opsOf Tryd.f14 8)=rearm_Check.T8:=by kernel_rfl
theorem rearm_Check.bits8:waitsOk rearm_Check.T8.2 rearm_Check.B8=true:=by kernel_rfl
set_option maxHeartbeats 8000000 in
set_option maxRecDepth 100000 in
theorem rearm_Check.calls (k:Nat)(a0_0:Int)(a0_1:Int)(a0_2:Int)(a0_3:Int)(a0_4:Bool)(a0_5:Int)(a0_6:Bool)(a0_7:Int)(a0_8:Bool)(a0_9:Int)(a0_10:Bool)(a0_11:Int)(a0_12:Bool)(r:Int)(w:World)(h:rearm_Check.f k a0_0 a0_1 a0_2 a0_3 a0_4 a0_5 a0_6 a0_7 a0_8 a0_9 a0_10 a0_11 a0_12=some r) :
  Calls Tryd.prog 14 #[.agg #[.int .i64 a0_0,.int .u64 a0_1,.int .i64 a0_2,.int .u64 a0_3,.bool a0_4,.int .u64 a0_5,.bool a0_6,.int .u64 a0_7,.bool a0_8,.int .u64 a0_9,.bool a0_10,.int .u64 a0_11,.bool a0_12]] w fun e w'=>e=.returned (.int .i64 r)∧Below w.heap.size w w':=by
 have hu28:=Tryd.underlying28
 have hu26:=Tryd.underlying26
 have HB:=Aside0.mk (Below.refl w.heap.size w)
 have H:(if a0_0=0 then (rearm_Check.j0 k a0_0 a0_1 a0_2 a0_3 a0_4 a0_5 a0_6 a0_7 a0_8 a0_9 a0_10 a0_11 a0_12 a0_0 0 0 0 false 0 false 0 false 0 false 0 false) else (if a0_0=1 then (if a0_1=0 then (some 10) else (rearm_Check.j0 k a0_0 a0_1 a0_2 a0_3 a0_4 a0_5 a0_6 a0_7 a0_8 a0_9 a0_10 a0_11 a0_12 a0_0 a0_1 a0_2 0 false 0 false 0 false 0 false 0 false)) else (if a0_0=2 then (rearm_Check.j0 k a0_0 a0_1 a0_2 a0_3 a0_4 a0_5 a0_6 a0_7 a0_8 a0_9 a0_10 a0_11 a0_12 a0_0 0 0 a0_3 a0_4 a0_5 a0_6 a0_7 a0_8 a0_9 a0_10 a0_11 a0_12) else (some 7))))=some r:=h
 clear h
 have HC2:=Aside0.mk H
 clear H
 go_enter Tryd.func14,Tryd.ntmps14
 go_upto_block 0 with (first | ((with_reducible refine gate_dst (N:=1) rfl ?_); refine box_event ?hg (N:=1) ?hd (cs:=#[.int .i64 a0_0,.int .u64 a0_1,.int .i64 a0_2,.int .u64 a0_3,.bool a0_4,.int .u64 a0_5,.bool a0_6,.int .u64 a0_7,.bool a0_8,.int .u64 a0_9,.bool a0_10,.int .u64 a0_11,.bool a0_12]) (t:=28) ?hr ?_; (case hd=>rfl); (case hg=>rfl); (case hr=>first | (go_simp; done) | (go_simp; rfl)); intro gb109 hg w3 hbox hb; have n0_:=Aside0.mk (below_step (by repeat (first | (with_reducible first | exact HB.out | apply below_alloc | apply pw_below_drewN | apply below_drew1) | exact HB.out)) hb); have n1_:=Aside0.mk (hbox); have n2_:=Aside0.mk ((by rw [hg]; exact (below_size (by repeat (first | (with_reducible first | exact HB.out | apply below_alloc | apply pw_below_drewN | apply below_drew1) | exact HB.out))):w.heap.size≤gb109)); have n3_:=Aside0.mk ((by rw [hg]; exact (below_size (by repeat (first | (with_reducible first | exact HB.out | apply below_alloc | apply pw_below_drewN | apply below_drew1) | exact HB.out))):w.heap.size≤gb109)); clear HB; have HB:=n0_; have BK109:=n1_; have GW109:=n2_; have GE109:=n3_; clear n0_ n1_ n2_ n3_; clear hb hbox hg; have hcz4_0:w3.cell? ⟨gb109,0,none⟩=some (.int .i64 a0_0):=(blk_cell BK109.out 0).trans rfl; have hcz4_1:w3.cell? ⟨gb109,1,none⟩=some (.int .u64 a0_1):=(blk_cell BK109.out 1).trans rfl; have hcz4_2:w3.cell? ⟨gb109,2,none⟩=some (.int .i64 a0_2):=(blk_cell BK109.out 2).trans rfl; have hcz4_3:w3.cell? ⟨gb109,3,none⟩=some (.int .u64 a0_3):=(blk_cell BK109.out 3).trans rfl; have hcz4_4:w3.cell? ⟨gb109,4,none⟩=some (.bool a0_4):=(blk_cell BK109.out 4).trans rfl; have hcz4_5:w3.cell? ⟨gb109,5,none⟩=some (.int .u64 a0_5):=(blk_cell BK109.out 5).trans rfl; have hcz4_6:w3.cell? ⟨gb109,6,none⟩=some (.bool a0_6):=(blk_cell BK109.out 6).trans rfl; have hcz4_7:w3.cell? ⟨gb109,7,none⟩=some (.int .u64 a0_7):=(blk_cell BK109.out 7).trans rfl; have hcz4_8:w3.cell? ⟨gb109,8,none⟩=some (.bool a0_8):=(blk_cell BK109.out 8).trans rfl; have hcz4_9:w3.cell? ⟨gb109,9,none⟩=some (.int .u64 a0_9):=(blk_cell BK109.out 9).trans rfl; have hcz4_10:w3.cell? ⟨gb109,10,none⟩=some (.bool a0_10):=(blk_cell BK109.out 10).trans rfl; have hcz4_11:w3.cell? ⟨gb109,11,none⟩=some (.int .u64 a0_11):=(blk_cell BK109.out 11).trans rfl; have hcz4_12:w3.cell? ⟨gb109,12,none⟩=some (.bool a0_12):=(blk_cell BK109.out 12).trans rfl; have hfz4_0:=blk_frozen BK109.out 0; have hfz4_1:=blk_frozen BK109.out 1; have hfz4_2:=blk_frozen BK109.out 2; have hfz4_3:=blk_frozen BK109.out 3; have hfz4_4:=blk_frozen BK109.out 4; have hfz4_5:=blk_frozen BK109.out 5; have hfz4_6:=blk_frozen BK109.out 6; have hfz4_7:=blk_frozen BK109.out 7; have hfz4_8:=blk_frozen BK109.out 8; have hfz4_9:=blk_frozen BK109.out 9; have hfz4_10:=blk_frozen BK109.out 10; have hfz4_11:=blk_frozen BK109.out 11; have hfz4_12:=blk_frozen BK109.out 12) | ((with_reducible refine gate_dst (N:=3) rfl ?_); refine box_event ?hg (N:=3) ?hd (cs:=#[.int .i64 0,.int .u64 0,.int .i64 0,.int .u64 0,.bool false,.int .u64 0,.bool false,.int .u64 0,.bool false,.int .u64 0,.bool false,.int .u64 0,.bool false]) (t:=28) ?hr ?_; (case hd=>rfl); (case hg=>rfl); (case hr=>first | (go_simp; done) | (go_simp; rfl)); intro gb110 hg w5 hbox hb; have n0_:=Aside0.mk (blk_below (g:=gb109) (o:=.cells #[.int .i64 a0_0,.int .u64 a0_1,.int .i64 a0_2,.int .u64 a0_3,.bool a0_4,.int .u64 a0_5,.bool a0_6,.int .u64 a0_7,.bool a0_8,.int .u64 a0_9,.bool a0_10,.int .u64 a0_11,.bool a0_12] 28 (0,0)) (by (with_reducible repeat (first | refine blk_drewN ?_ _ | refine blk_drew ?_ | refine blk_alloc ?_ _)); exact BK109.out) hb); have n1_:=Aside0.mk (below_step (by repeat (first | (with_reducible first | exact HB.out | apply below_alloc | apply pw_below_drewN | apply below_drew1 | refine below_set ?_ GE109.out) | exact HB.out)) hb); have n2_:=Aside0.mk (hbox); have n3_:=Aside0.mk ((by rw [hg]; exact (below_size (by repeat (first | (with_reducible first | exact HB.out | apply below_alloc | apply pw_below_drewN | apply below_drew1 | refine below_set ?_ GE109.out) | exact HB.out))):w.heap.size≤gb110)); have n4_:=Aside0.mk ((by rw [hg]; exact (below_size (by repeat (first | (with_reducible first | exact HB.out | apply below_alloc | apply pw_below_drewN | apply below_drew1 | refine below_set ?_ GE109.out) | exact HB.out))):w.heap.size≤gb110)); have n5_:=Aside0.mk ((by rw [hg]; exact Nat.ne_of_lt (blk_lt (g:=gb109) (o:=.cells #[.int .i64 a0_0,.int .u64 a0_1,.int .i64 a0_2,.int .u64 a0_3,.bool a0_4,.int .u64 a0_5,.bool a0_6,.int .u64 a0_7,.bool a0_8,.int .u64 a0_9,.bool a0_10,.int .u64 a0_11,.bool a0_12] 28 (0,0)) (by (with_reducible repeat (first | refine blk_drewN ?_ _ | refine blk_drew ?_ | refine blk_alloc ?_ _)); exact BK109.out)):gb109≠gb110)); have n6_:=Aside0.mk ((by rw [hg]; exact Nat.ne_of_gt (blk_lt (g:=gb109) (o:=.cells #[.int .i64 a0_0,.int .u64 a0_1,.int .i64 a0_2,.int .u64 a0_3,.bool a0_4,.int .u64 a0_5,.bool a0_6,.int .u64 a0_7,.bool a0_8,.int .u64 a0_9,.bool a0_10,.int .u64 a0_11,.bool a0_12] 28 (0,0)) (by (with_reducible repeat (first | refine blk_drewN ?_ _ | refine blk_drew ?_ | refine blk_alloc ?_ _)); exact BK109.out)):gb110≠gb109)); clear BK109; clear HB; have BK109:=n0_; have HB:=n1_; have BK110:=n2_; have GW110:=n3_; have GE110:=n4_; have NB109_110:=n5_; have NB110_109:=n6_; clear n0_ n1_ n2_ n3_ n4_ n5_ n6_; clear hb hbox hg; have hnb6:=NB110_109.out; have hnc6:=NB109_110.out; have hcz7_0:w5.cell? ⟨gb110,0,none⟩=some (.int .i64 0):=(blk_cell BK110.out 0).trans rfl; have hcz7_1:w5.cell? ⟨gb110,1,none⟩=some (.int .u64 0):=(blk_cell BK110.out 1).trans rfl; have hcz7_2:w5.cell? ⟨gb110,2,none⟩=some (.int .i64 0):=(blk_cell BK110.out 2).trans rfl; have hcz7_3:w5.cell? ⟨gb110,3,none⟩=some (.int .u64 0):=(blk_cell BK110.out 3).trans rfl; have hcz7_4:w5.cell? ⟨gb110,4,none⟩=some (.bool false):=(blk_cell BK110.out 4).trans rfl; have hcz7_5:w5.cell? ⟨gb110,5,none⟩=some (.int .u64 0):=(blk_cell BK110.out 5).trans rfl; have hcz7_6:w5.cell? ⟨gb110,6,none⟩=some (.bool false):=(blk_cell BK110.out 6).trans rfl; have hcz7_7:w5.cell? ⟨gb110,7,none⟩=some (.int .u64 0):=(blk_cell BK110.out 7).trans rfl; have hcz7_8:w5.cell? ⟨gb110,8,none⟩=some (.bool false):=(blk_cell BK110.out 8).trans rfl; have hcz7_9:w5.cell? ⟨gb110,9,none⟩=some (.int .u64 0):=(blk_cell BK110.out 9).trans rfl; have hcz7_10:w5.cell? ⟨gb110,10,none⟩=some (.bool false):=(blk_cell BK110.out 10).trans rfl; have hcz7_11:w5.cell? ⟨gb110,11,none⟩=some (.int .u64 0):=(blk_cell BK110.out 11).trans rfl; have hcz7_12:w5.cell? ⟨gb110,12,none⟩=some (.bool false):=(blk_cell BK110.out 12).trans rfl; have hfz7_0:=blk_frozen BK110.out 0; have hfz7_1:=blk_frozen BK110.out 1; have hfz7_2:=blk_frozen BK110.out 2; have hfz7_3:=blk_frozen BK110.out 3; have hfz7_4:=blk_frozen BK110.out 4; have hfz7_5:=blk_frozen BK110.out 5; have hfz7_6:=blk_frozen BK110.out 6; have hfz7_7:=blk_frozen BK110.out 7; have hfz7_8:=blk_frozen BK110.out 8; have hfz7_9:=blk_frozen BK110.out 9; have hfz7_10:=blk_frozen BK110.out 10; have hfz7_11:=blk_frozen BK110.out 11; have hfz7_12:=blk_frozen BK110.out 12; have hcz8_0:w5.cell? ⟨gb109,0,none⟩=some (.int .i64 a0_0):=(blk_cell BK109.out 0).trans rfl; have hcz8_1:w5.cell? ⟨gb109,1,none⟩=some (.int .u64 a0_1):=(blk_cell BK109.out 1).trans rfl; have hcz8_2:w5.cell? ⟨gb109,2,none⟩=some (.int .i64 a0_2):=(blk_cell BK109.out 2).trans rfl; have hcz8_3:w5.cell? ⟨gb109,3,none⟩=some (.int .u64 a0_3):=(blk_cell BK109.out 3).trans rfl; have hcz8_4:w5.cell? ⟨gb109,4,none⟩=some (.bool a0_4):=(blk_cell BK109.out 4).trans rfl; have hcz8_5:w5.cell? ⟨gb109,5,none⟩=some (.int .u64 a0_5):=(blk_cell BK109.out 5).trans rfl; have hcz8_6:w5.cell? ⟨gb109,6,none⟩=some (.bool a0_6):=(blk_cell BK109.out 6).trans rfl; have hcz8_7:w5.cell? ⟨gb109,7,none⟩=some (.int .u64 a0_7):=(blk_cell BK109.out 7).trans rfl; have hcz8_8:w5.cell? ⟨gb109,8,none⟩=some (.bool a0_8):=(blk_cell BK109.out 8).trans rfl; have hcz8_9:w5.cell? ⟨gb109,9,none⟩=some (.int .u64 a0_9):=(blk_cell BK109.out 9).trans rfl; have hcz8_10:w5.cell? ⟨gb109,10,none⟩=some (.bool a0_10):=(blk_cell BK109.out 10).trans rfl; have hcz8_11:w5.cell? ⟨gb109,11,none⟩=some (.int .u64 a0_11):=(blk_cell BK109.out 11).trans rfl; have hcz8_12:w5.cell? ⟨gb109,12,none⟩=some (.bool a0_12):=(blk_cell BK109.out 12).trans rfl; have hfz8_0:=blk_frozen BK109.out 0; have hfz8_1:=blk_frozen BK109.out 1; have hfz8_2:=blk_frozen BK109.out 2; have hfz8_3:=blk_frozen BK109.out 3; have hfz8_4:=blk_frozen BK109.out 4; have hfz8_5:=blk_frozen BK109.out 5; have hfz8_6:=blk_frozen BK109.out 6; have hfz8_7:=blk_frozen BK109.out 7; have hfz8_8:=blk_frozen BK109.out 8; have hfz8_9:=blk_frozen BK109.out 9; have hfz8_10:=blk_frozen BK109.out 10; have hfz8_11:=blk_frozen BK109.out 11; have hfz8_12:=blk_frozen BK109.out 12))
 (try simp only [Act.put,List.setIfInBounds_toArray,List.set_cons_zero,List.set_cons_succ])
 go_cut [] (fun wc=>∃ (kq:Nat) (x111001_1:Int) (x111002_1:Int) (x111003_1:Int) (x111004_1:Bool) (x111005_1:Int) (x111006_1:Bool) (x111007_1:Int) (x111008_1:Bool) (x111009_1:Int) (x111010_1:Bool) (x111011_1:Int) (x111012_1:Bool),Aside0 (rearm_Check.j0 kq a0_0 a0_1 a0_2 a0_3 a0_4 a0_5 a0_6 a0_7 a0_8 a0_9 a0_10 a0_11 a0_12 a0_0 x111001_1 x111002_1 x111003_1 x111004_1 x111005_1 x111006_1 x111007_1 x111008_1 x111009_1 x111010_1 x111011_1 x111012_1=some r)∧Aside0 (kq≤k)∧Aside0 (wc.heap[gb109]?=some (.cells #[.int .i64 a0_0,.int .u64 a0_1,.int .i64 a0_2,.int .u64 a0_3,.bool a0_4,.int .u64 a0_5,.bool a0_6,.int .u64 a0_7,.bool a0_8,.int .u64 a0_9,.bool a0_10,.int .u64 a0_11,.bool a0_12] 28 (0,0)))∧Aside0 (wc.heap[gb110]?=some (.cells #[.int .i64 a0_0,.int .u64 x111001_1,.int .i64 x111002_1,.int .u64 x111003_1,.bool x111004_1,.int .u64 x111005_1,.bool x111006_1,.int .u64 x111007_1,.bool x111008_1,.int .u64 x111009_1,.bool x111010_1,.int .u64 x111011_1,.bool x111012_1] 28 (0,0)))∧Aside0 (Below w.heap.size w wc))
 case first=>
  have H:=HC2.out
  clear HC2
  by_cases c9:a0_0=0
  ·rw [if_pos c9] at H
   have c9b0:(a0_0 == 0)=true:=beq_iff_eq.mpr c9
   have c9b1:(a0_0 != 0)=false:=bne_eq_false_iff_eq.mpr c9
   clear c9
   (first | rw [c9b0] | (simp only [i64_w,i32_w]; rw [c9b0]) | skip)
   have H':=Aside0.mk H
   clear H
   go_wp2
   go_meet
   case rel=>exact ⟨_,(0),(0),(0),(false),(0),(false),(0),(false),(0),(false),(0),(false),H',⟨by first | omega | exact Nat.le_refl _⟩,⟨by (with_reducible repeat (first | refine blk_drewN ?_ _ | refine blk_drew ?_ | refine blk_alloc ?_ _)); refine blk_far ?_ NB109_110.out _; (with_reducible repeat (first | refine blk_drewN ?_ _ | refine blk_drew ?_ | refine blk_alloc ?_ _)); refine blk_far ?_ NB109_110.out _; (with_reducible repeat (first | refine blk_drewN ?_ _ | refine blk_drew ?_ | refine blk_alloc ?_ _)); refine blk_far ?_ NB109_110.out _; (with_reducible repeat (first | refine blk_drewN ?_ _ | refine blk_drew ?_ | refine blk_alloc ?_ _)); refine blk_far ?_ NB109_110.out _; (with_reducible repeat (first | refine blk_drewN ?_ _ | refine blk_drew ?_ | refine blk_alloc ?_ _)); refine blk_far ?_ NB109_110.out _; (with_reducible repeat (first | refine blk_drewN ?_ _ | refine blk_drew ?_ | refine blk_alloc ?_ _)); refine blk_far ?_ NB109_110.out _; (with_reducible repeat (first | refine blk_drewN ?_ _ | refine blk_drew ?_ | refine blk_alloc ?_ _)); refine blk_far ?_ NB109_110.out _; (with_reducible repeat (first | refine blk_drewN ?_ _ | refine blk_drew ?_ | refine blk_alloc ?_ _)); refine blk_far ?_ NB109_110.out _; (with_reducible repeat (first | refine blk_drewN ?_ _ | refine blk_drew ?_ | refine blk_alloc ?_ _)); refine blk_far ?_ NB109_110.out _; (with_reducible repeat (first | refine blk_drewN ?_ _ | refine blk_drew ?_ | refine blk_alloc ?_ _)); refine blk_far ?_ NB109_110.out _; (with_reducible repeat (first | refine blk_drewN ?_ _ | refine blk_drew ?_ | refine blk_alloc ?_ _)); refine blk_far ?_ NB109_110.out _; (with_reducible repeat (first | refine blk_drewN ?_ _ | refine blk_drew ?_ | refine blk_alloc ?_ _)); refine blk_far ?_ NB109_110.out _; (with_reducible repeat (first | refine blk_drewN ?_ _ | refine blk_drew ?_ | refine blk_alloc ?_ _)); refine blk_far ?_ NB109_110.out _; (with_reducible repeat (first | refine blk_drewN ?_ _ | refine blk_drew ?_ | refine blk_alloc ?_ _)); exact BK109.out⟩,⟨by (with_reducible repeat (first | refine blk_drewN ?_ _ | refine blk_drew ?_ | refine blk_alloc ?_ _)); refine blk_put (cs:=#[.int .i64 a0_0,.int .u64 0,.int .i64 0,.int .u64 0,.bool false,.int .u64 0,.bool false,.int .u64 0,.bool false,.int .u64 0,.bool false,.int .u64 0,.bool false]) ?_ 12 _ rfl; (with_reducible repeat (first | refine blk_drewN ?_ _ | refine blk_drew ?_ | refine blk_alloc ?_ _)); refine blk_put (cs:=#[.int .i64 a0_0,.int .u64 0,.int .i64 0,.int .u64 0,.bool false,.int .u64 0,.bool false,.int .u64 0,.bool false,.int .u64 0,.bool false,.int .u64 0,.bool false]) ?_ 11 _ rfl; (with_reducible repeat (first | refine blk_drewN ?_ _ | refine blk_drew ?_ | refine blk_alloc ?_ _)); refine blk_put (cs:=#[.int .i64 a0_0,.int .u64 0,.int .i64 0,.int .u64 0,.bool false,.int .u64 0,.bool false,.int .u64 0,.bool false,.int .u64 0,.bool false,.int .u64 0,.bool false]) ?_ 10 _ rfl; (with_reducible repeat (first | refine blk_drewN ?_ _ | refine blk_drew ?_ | refine blk_alloc ?_ _)); refine blk_put (cs:=#[.int .i64 a0_0,.int .u64 0,.int .i64 0,.int .u64 0,.bool false,.int .u64 0,.bool false,.int .u64 0,.bool false,.int .u64 0,.bool false,.int .u64 0,.bool false]) ?_ 9 _ rfl; (with_reducible repeat (first | refine blk_drewN ?_ _ | refine blk_drew ?_ | refine blk_alloc ?_ _)); refine blk_put (cs:=#[.int .i64 a0_0,.int .u64 0,.int .i64 0,.int .u64 0,.bool false,.int .u64 0,.bool false,.int .u64 0,.bool false,.int .u64 0,.bool false,.int .u64 0,.bool false]) ?_ 8 _ rfl; (with_reducible repeat (first | refine blk_drewN ?_ _ | refine blk_drew ?_ | refine blk_alloc ?_ _)); refine blk_put (cs:=#[.int .i64 a0_0,.int .u64 0,.int .i64 0,.int .u64 0,.bool false,.int .u64 0,.bool false,.int .u64 0,.bool false,.int .u64 0,.bool false,.int .u64 0,.bool false]) ?_ 7 _ rfl; (with_reducible repeat (first | refine blk_drewN ?_ _ | refine blk_drew ?_ | refine blk_alloc ?_ _)); refine blk_put (cs:=#[.int .i64 a0_0,.int .u64 0,.int .i64 0,.int .u64 0,.bool false,.int .u64 0,.bool false,.int .u64 0,.bool false,.int .u64 0,.bool false,.int .u64 0,.bool false]) ?_ 6 _ rfl; (with_reducible repeat (first | refine blk_drewN ?_ _ | refine blk_drew ?_ | refine blk_alloc ?_ _)); refine blk_put (cs:=#[.int .i64 a0_0,.int .u64 0,.int .i64 0,.int .u64 0,.bool false,.int .u64 0,.bool false,.int .u64 0,.bool false,.int .u64 0,.bool false,.int .u64 0,.bool false]) ?_ 5 _ rfl; (with_reducible repeat (first | refine blk_drewN ?_ _ | refine blk_drew ?_ | refine blk_alloc ?_ _)); refine blk_put (cs:=#[.int .i64 a0_0,.int .u64 0,.int .i64 0,.int .u64 0,.bool false,.int .u64 0,.bool false,.int .u64 0,.bool false,.int .u64 0,.bool false,.int .u64 0,.bool false]) ?_ 4 _ rfl; (with_reducible repeat (first | refine blk_drewN ?_ _ | refine blk_drew ?_ | refine blk_alloc ?_ _)); refine blk_put (cs:=#[.int .i64 a0_0,.int .u64 0,.int .i64 0,.int .u64 0,.bool false,.int .u64 0,.bool false,.int .u64 0,.bool false,.int .u64 0,.bool false,.int .u64 0,.bool false]) ?_ 3 _ rfl; (with_reducible repeat (first | refine blk_drewN ?_ _ | refine blk_drew ?_ | refine blk_alloc ?_ _)); refine blk_put (cs:=#[.int .i64 a0_0,.int .u64 0,.int .i64 0,.int .u64 0,.bool false,.int .u64 0,.bool false,.int .u64 0,.bool false,.int .u64 0,.bool false,.int .u64 0,.bool false]) ?_ 2 _ rfl; (with_reducible repeat (first | refine blk_drewN ?_ _ | refine blk_drew ?_ | refine blk_alloc ?_ _)); refine blk_put (cs:=#[.int .i64 a0_0,.int .u64 0,.int .i64 0,.int .u64 0,.bool false,.int .u64 0,.bool false,.int .u64 0,.bool false,.int .u64 0,.bool false,.int .u64 0,.bool false]) ?_ 1 _ rfl; (with_reducible repeat (first | refine blk_drewN ?_ _ | refine blk_drew ?_ | refine blk_alloc ?_ _)); refine blk_put (cs:=#[.int .i64 0,.int .u64 0,.int .i64 0,.int .u64 0,.bool false,.int .u64 0,.bool false,.int .u64 0,.bool false,.int .u64 0,.bool false,.int .u64 0,.bool false]) ?_ 0 _ rfl; (with_reducible repeat (first | refine blk_drewN ?_ _ | refine blk_drew ?_ | refine blk_alloc ?_ _)); exact BK110.out⟩,⟨by repeat (first | (with_reducible first | exact HB.out | apply below_alloc | apply pw_below_drewN | apply below_drew1 | refine below_set ?_ GE109.out | refine below_set ?_ GE110.out) | exact HB.out)⟩⟩
  ·rw [if_neg c9] at H
   have c9b0:(a0_0 == 0)=false:=beq_eq_false_iff_ne.mpr c9
   have c9b1:(a0_0 != 0)=true:=bne_iff_ne.mpr c9
   (first | rw [c9b0] | (simp only [i64_w,i32_w]; rw [c9b0]) | skip)
   by_cases c10:a0_0=1
   ·rw [if_pos c10] at H
    have c10b0:(a0_0 == 1)=true:=beq_iff_eq.mpr c10
    have c10b1:(a0_0 != 1)=false:=bne_eq_false_iff_eq.mpr c10
    clear c10
    by_cases c11:a0_1=0
    ·rw [if_pos c11] at H
     have c11b0:(a0_1 == 0)=true:=beq_iff_eq.mpr c11
     have c11b1:(a0_1 != 0)=false:=bne_eq_false_iff_eq.mpr c11
     clear c11
     obtain rfl:=Option.some.inj H
     have hnb12:=NB109_110.out
     have hnc12:=NB110_109.out
     have hcz13_0:w5.cell? ⟨gb109,0,none⟩=some (.int .i64 a0_0):=(blk_cell BK109.out 0).trans rfl
     have hcz13_1:w5.cell? ⟨gb109,1,none⟩=some (.int .u64 a0_1):=(blk_cell BK109.out 1).trans rfl
     have hcz13_2:w5.cell? ⟨gb109,2,none⟩=some (.int .i64 a0_2):=(blk_cell BK109.out 2).trans rfl
     have hcz13_3:w5.cell? ⟨gb109,3,none⟩=some (.int .u64 a0_3):=(blk_cell BK109.out 3).trans rfl
     have hcz13_4:w5.cell? ⟨gb109,4,none⟩=some (.bool a0_4):=(blk_cell BK109.out 4).trans rfl
     have hcz13_5:w5.cell? ⟨gb109,5,none⟩=some (.int .u64 a0_5):=(blk_cell BK109.out 5).trans rfl
     have hcz13_6:w5.cell? ⟨gb109,6,none⟩=some (.bool a0_6):=(blk_cell BK109.out 6).trans rfl
     have hcz13_7:w5.cell? ⟨gb109,7,none⟩=some (.int .u64 a0_7):=(blk_cell BK109.out 7).trans rfl
     have hcz13_8:w5.cell? ⟨gb109,8,none⟩=some (.bool a0_8):=(blk_cell BK109.out 8).trans rfl
     have hcz13_9:w5.cell? ⟨gb109,9,none⟩=some (.int .u64 a0_9):=(blk_cell BK109.out 9).trans rfl
     have hcz13_10:w5.cell? ⟨gb109,10,none⟩=some (.bool a0_10):=(blk_cell BK109.out 10).trans rfl
     have hcz13_11:w5.cell? ⟨gb109,11,none⟩=some (.int .u64 a0_11):=(blk_cell BK109.out 11).trans rfl
     have hcz13_12:w5.cell? ⟨gb109,12,none⟩=some (.bool a0_12):=(blk_cell BK109.out 12).trans rfl
     have hfz13_0:=blk_frozen BK109.out 0
     have hfz13_1:=blk_frozen BK109.out 1
     have hfz13_2:=blk_frozen BK109.out 2
     have hfz13_3:=blk_frozen BK109.out 3
     have hfz13_4:=blk_frozen BK109.out 4
     have hfz13_5:=blk_frozen BK109.out 5
     have hfz13_6:=blk_frozen BK109.out 6
     have hfz13_7:=blk_frozen BK109.out 7
     have hfz13_8:=blk_frozen BK109.out 8
     have hfz13_9:=blk_frozen BK109.out 9
     have hfz13_10:=blk_frozen BK109.out 10
     have hfz13_11:=blk_frozen BK109.out 11
     have hfz13_12:=blk_frozen BK109.out 12
     go_wp2
     go_ret
     exact ⟨by first | rfl | (simp [errW_none,errW_some] <;> rfl) | (simp [*,errW_none,errW_some] <;> rfl),by repeat (first | (with_reducible first | exact HB.out | apply below_alloc | apply pw_below_drewN | apply below_drew1 | refine below_set ?_ GE109.out | refine below_set ?_ GE110.out) | exact HB.out)⟩
    ·rw [if_neg c11] at H
     have c11b0:(a0_1 == 0)=false:=beq_eq_false_iff_ne.mpr c11
     have c11b1:(a0_1 != 0)=true:=bne_iff_ne.mpr c11
     have H':=Aside0.mk H
     clear H
     have hnb14:=NB109_110.out
     have hnc14:=NB110_109.out
     have hcz15_0:w5.cell? ⟨gb109,0,none⟩=some (.int .i64 a0_0):=(blk_cell BK109.out 0).trans rfl
     have hcz15_1:w5.cell? ⟨gb109,1,none⟩=some (.int .u64 a0_1):=(blk_cell BK109.out 1).trans rfl
     have hcz15_2:w5.cell? ⟨gb109,2,none⟩=some (.int .i64 a0_2):=(blk_cell BK109.out 2).trans rfl
     have hcz15_3:w5.cell? ⟨gb109,3,none⟩=some (.int .u64 a0_3):=(blk_cell BK109.out 3).trans rfl
     have hcz15_4:w5.cell? ⟨gb109,4,none⟩=some (.bool a0_4):=(blk_cell BK109.out 4).trans rfl
     have hcz15_5:w5.cell? ⟨gb109,5,none⟩=some (.int .u64 a0_5):=(blk_cell BK109.out 5).trans rfl
     have hcz15_6:w5.cell? ⟨gb109,6,none⟩=some (.bool a0_6):=(blk_cell BK109.out 6).trans rfl
     have hcz15_7:w5.cell? ⟨gb109,7,none⟩=some (.int .u64 a0_7):=(blk_cell BK109.out 7).trans rfl
     have hcz15_8:w5.cell? ⟨gb109,8,none⟩=some (.bool a0_8):=(blk_cell BK109.out 8).trans rfl
     have hcz15_9:w5.cell? ⟨gb109,9,none⟩=some (.int .u64 a0_9):=(blk_cell BK109.out 9).trans rfl
     have hcz15_10:w5.cell? ⟨gb109,10,none⟩=some (.bool a0_10):=(blk_cell BK109.out 10).trans rfl
     have hcz15_11:w5.cell? ⟨gb109,11,none⟩=some (.int .u64 a0_11):=(blk_cell BK109.out 11).trans rfl
     have hcz15_12:w5.cell? ⟨gb109,12,none⟩=some (.bool a0_12):=(blk_cell BK109.out 12).trans rfl
     have hfz15_0:=blk_frozen BK109.out 0
     have hfz15_1:=blk_frozen BK109.out 1
     have hfz15_2:=blk_frozen BK109.out 2
     have hfz15_3:=blk_frozen BK109.out 3
     have hfz15_4:=blk_frozen BK109.out 4
     have hfz15_5:=blk_frozen BK109.out 5
     have hfz15_6:=blk_frozen BK109.out 6
     have hfz15_7:=blk_frozen BK109.out 7
     have hfz15_8:=blk_frozen BK109.out 8
     have hfz15_9:=blk_frozen BK109.out 9
     have hfz15_10:=blk_frozen BK109.out 10
     have hfz15_11:=blk_frozen BK109.out 11
     have hfz15_12:=blk_frozen BK109.out 12
     try go_wp2
     have n0_:Aside0 ((((((((((((((w5.setCell ⟨gb110,0,none⟩ (.int .i64 a0_0)).setCell ⟨gb110,1,none⟩ (.int .u64 0)).setCell ⟨gb110,2,none⟩ (.int .i64 0)).setCell ⟨gb110,3,none⟩ (.int .u64 0)).setCell ⟨gb110,4,none⟩ (.bool false)).setCell ⟨gb110,5,none⟩ (.int .u64 0)).setCell ⟨gb110,6,none⟩ (.bool false)).setCell ⟨gb110,7,none⟩ (.int .u64 0)).setCell ⟨gb110,8,none⟩ (.bool false)).setCell ⟨gb110,9,none⟩ (.int .u64 0)).setCell ⟨gb110,10,none⟩ (.bool false)).setCell ⟨gb110,11,none⟩ (.int .u64 0)).setCell ⟨gb110,12,none⟩ (.bool false)).heap[gb109]?=some (.cells #[.int .i64 a0_0,.int .u64 a0_1,.int .i64 a0_2,.int .u64 a0_3,.bool a0_4,.int .u64 a0_5,.bool a0_6,.int .u64 a0_7,.bool a0_8,.int .u64 a0_9,.bool a0_10,.int .u64 a0_11,.bool a0_12] 28 (0,0))):=⟨by (with_reducible repeat (first | refine blk_drewN ?_ _ | refine blk_drew ?_ | refine blk_alloc ?_ _)); refine blk_far ?_ NB109_110.out _; (with_reducible repeat (first | refine blk_drewN ?_ _ | refine blk_drew ?_ | refine blk_alloc ?_ _)); refine blk_far ?_ NB109_110.out _; (with_reducible repeat (first | refine blk_drewN ?_ _ | refine blk_drew ?_ | refine blk_alloc ?_ _)); refine blk_far ?_ NB109_110.out _; (with_reducible repeat (first | refine blk_drewN ?_ _ | refine blk_drew ?_ | refine blk_alloc ?_ _)); refine blk_far ?_ NB109_110.out _; (with_reducible repeat (first | refine blk_drewN ?_ _ | refine blk_drew ?_ | refine blk_alloc ?_ _)); refine blk_far ?_ NB109_110.out _; (with_reducible repeat (first | refine blk_drewN ?_ _ | refine blk_drew ?_ | refine blk_alloc ?_ _)); refine blk_far ?_ NB109_110.out _; (with_reducible repeat (first | refine blk_drewN ?_ _ | refine blk_drew ?_ | refine blk_alloc ?_ _)); refine blk_far ?_ NB109_110.out _; (with_reducible repeat (first | refine blk_drewN ?_ _ | refine blk_drew ?_ | refine blk_alloc ?_ _)); refine blk_far ?_ NB109_110.out _; (with_reducible repeat (first | refine blk_drewN ?_ _ | refine blk_drew ?_ | refine blk_alloc ?_ _)); refine blk_far ?_ NB109_110.out _; (with_reducible repeat (first | refine blk_drewN ?_ _ | refine blk_drew ?_ | refine blk_alloc ?_ _)); refine blk_far ?_ NB109_110.out _; (with_reducible repeat (first | refine blk_drewN ?_ _ | refine blk_drew ?_ | refine blk_alloc ?_ _)); refine blk_far ?_ NB109_110.out _; (with_reducible repeat (first | refine blk_drewN ?_ _ | refine blk_drew ?_ | refine blk_alloc ?_ _)); refine blk_far ?_ NB109_110.out _; (with_reducible repeat (first | refine blk_drewN ?_ _ | refine blk_drew ?_ | refine blk_alloc ?_ _)); refine blk_far ?_ NB109_110.out _; (with_reducible repeat (first | refine blk_drewN ?_ _ | refine blk_drew ?_ | refine blk_alloc ?_ _)); exact BK109.out⟩
     have n1_:Aside0 ((((((((((((((w5.setCell ⟨gb110,0,none⟩ (.int .i64 a0_0)).setCell ⟨gb110,1,none⟩ (.int .u64 0)).setCell ⟨gb110,2,none⟩ (.int .i64 0)).setCell ⟨gb110,3,none⟩ (.int .u64 0)).setCell ⟨gb110,4,none⟩ (.bool false)).setCell ⟨gb110,5,none⟩ (.int .u64 0)).setCell ⟨gb110,6,none⟩ (.bool false)).setCell ⟨gb110,7,none⟩ (.int .u64 0)).setCell ⟨gb110,8,none⟩ (.bool false)).setCell ⟨gb110,9,none⟩ (.int .u64 0)).setCell ⟨gb110,10,none⟩ (.bool false)).setCell ⟨gb110,11,none⟩ (.int .u64 0)).setCell ⟨gb110,12,none⟩ (.bool false)).heap[gb110]?=some (.cells #[.int .i64 a0_0,.int .u64 0,.int .i64 0,.int .u64 0,.bool false,.int .u64 0,.bool false,.int .u64 0,.bool false,.int .u64 0,.bool false,.int .u64 0,.bool false] 28 (0,0))):=⟨by (with_reducible repeat (first | refine blk_drewN ?_ _ | refine blk_drew ?_ | refine blk_alloc ?_ _)); refine blk_put (cs:=#[.int .i64 a0_0,.int .u64 0,.int .i64 0,.int .u64 0,.bool false,.int .u64 0,.bool false,.int .u64 0,.bool false,.int .u64 0,.bool false,.int .u64 0,.bool false]) ?_ 12 _ rfl; (with_reducible repeat (first | refine blk_drewN ?_ _ | refine blk_drew ?_ | refine blk_alloc ?_ _)); refine blk_put (cs:=#[.int .i64 a0_0,.int .u64 0,.int .i64 0,.int .u64 0,.bool false,.int .u64 0,.bool false,.int .u64 0,.bool false,.int .u64 0,.bool false,.int .u64 0,.bool false]) ?_ 11 _ rfl; (with_reducible repeat (first | refine blk_drewN ?_ _ | refine blk_drew ?_ | refine blk_alloc ?_ _)); refine blk_put (cs:=#[.int .i64 a0_0,.int .u64 0,.int .i64 0,.int .u64 0,.bool false,.int .u64 0,.bool false,.int .u64 0,.bool false,.int .u64 0,.bool false,.int .u64 0,.bool false]) ?_ 10 _ rfl; (with_reducible repeat (first | refine blk_drewN ?_ _ | refine blk_drew ?_ | refine blk_alloc ?_ _)); refine blk_put (cs:=#[.int .i64 a0_0,.int .u64 0,.int .i64 0,.int .u64 0,.bool false,.int .u64 0,.bool false,.int .u64 0,.bool false,.int .u64 0,.bool false,.int .u64 0,.bool false]) ?_ 9 _ rfl; (with_reducible repeat (first | refine blk_drewN ?_ _ | refine blk_drew ?_ | refine blk_alloc ?_ _)); refine blk_put (cs:=#[.int .i64 a0_0,.int .u64 0,.int .i64 0,.int .u64 0,.bool false,.int .u64 0,.bool false,.int .u64 0,.bool false,.int .u64 0,.bool false,.int .u64 0,.bool false]) ?_ 8 _ rfl; (with_reducible repeat (first | refine blk_drewN ?_ _ | refine blk_drew ?_ | refine blk_alloc ?_ _)); refine blk_put (cs:=#[.int .i64 a0_0,.int .u64 0,.int .i64 0,.int .u64 0,.bool false,.int .u64 0,.bool false,.int .u64 0,.bool false,.int .u64 0,.bool false,.int .u64 0,.bool false]) ?_ 7 _ rfl; (with_reducible repeat (first | refine blk_drewN ?_ _ | refine blk_drew ?_ | refine blk_alloc ?_ _)); refine blk_put (cs:=#[.int .i64 a0_0,.int .u64 0,.int .i64 0,.int .u64 0,.bool false,.int .u64 0,.bool false,.int .u64 0,.bool false,.int .u64 0,.bool false,.int .u64 0,.bool false]) ?_ 6 _ rfl; (with_reducible repeat (first | refine blk_drewN ?_ _ | refine blk_drew ?_ | refine blk_alloc ?_ _)); refine blk_put (cs:=#[.int .i64 a0_0,.int .u64 0,.int .i64 0,.int .u64 0,.bool false,.int .u64 0,.bool false,.int .u64 0,.bool false,.int .u64 0,.bool false,.int .u64 0,.bool false]) ?_ 5 _ rfl; (with_reducible repeat (first | refine blk_drewN ?_ _ | refine blk_drew ?_ | refine blk_alloc ?_ _)); refine blk_put (cs:=#[.int .i64 a0_0,.int .u64 0,.int .i64 0,.int .u64 0,.bool false,.int .u64 0,.bool false,.int .u64 0,.bool false,.int .u64 0,.bool false,.int .u64 0,.bool false]) ?_ 4 _ rfl; (with_reducible repeat (first | refine blk_drewN ?_ _ | refine blk_drew ?_ | refine blk_alloc ?_ _)); refine blk_put (cs:=#[.int .i64 a0_0,.int .u64 0,.int .i64 0,.int .u64 0,.bool false,.int .u64 0,.bool false,.int .u64 0,.bool false,.int .u64 0,.bool false,.int .u64 0,.bool false]) ?_ 3 _ rfl; (with_reducible repeat (first | refine blk_drewN ?_ _ | refine blk_drew ?_ | refine blk_alloc ?_ _)); refine blk_put (cs:=#[.int .i64 a0_0,.int .u64 0,.int .i64 0,.int .u64 0,.bool false,.int .u64 0,.bool false,.int .u64 0,.bool false,.int .u64 0,.bool false,.int .u64 0,.bool false]) ?_ 2 _ rfl; (with_reducible repeat (first | refine blk_drewN ?_ _ | refine blk_drew ?_ | refine blk_alloc ?_ _)); refine blk_put (cs:=#[.int .i64 a0_0,.int .u64 0,.int .i64 0,.int .u64 0,.bool false,.int .u64 0,.bool false,.int .u64 0,.bool false,.int .u64 0,.bool false,.int .u64 0,.bool false]) ?_ 1 _ rfl; (with_reducible repeat (first | refine blk_drewN ?_ _ | refine blk_drew ?_ | refine blk_alloc ?_ _)); refine blk_put (cs:=#[.int .i64 0,.int .u64 0,.int .i64 0,.int .u64 0,.bool false,.int .u64 0,.bool false,.int .u64 0,.bool false,.int .u64 0,.bool false,.int .u64 0,.bool false]) ?_ 0 _ rfl; (with_reducible repeat (first | refine blk_drewN ?_ _ | refine blk_drew ?_ | refine blk_alloc ?_ _)); exact BK110.out⟩
     have n2_:Aside0 (Below w.heap.size w (((((((((((((w5.setCell ⟨gb110,0,none⟩ (.int .i64 a0_0)).setCell ⟨gb110,1,none⟩ (.int .u64 0)).setCell ⟨gb110,2,none⟩ (.int .i64 0)).setCell ⟨gb110,3,none⟩ (.int .u64 0)).setCell ⟨gb110,4,none⟩ (.bool false)).setCell ⟨gb110,5,none⟩ (.int .u64 0)).setCell ⟨gb110,6,none⟩ (.bool false)).setCell ⟨gb110,7,none⟩ (.int .u64 0)).setCell ⟨gb110,8,none⟩ (.bool false)).setCell ⟨gb110,9,none⟩ (.int .u64 0)).setCell ⟨gb110,10,none⟩ (.bool false)).setCell ⟨gb110,11,none⟩ (.int .u64 0)).setCell ⟨gb110,12,none⟩ (.bool false))):=⟨by repeat (first | (with_reducible first | exact HB.out | apply below_alloc | apply pw_below_drewN | apply below_drew1 | refine below_set ?_ GE109.out | refine below_set ?_ GE110.out) | exact HB.out)⟩
     (try clear BK109)
     (try clear BK110)
     (try clear HB)
     generalize (((((((((((((w5.setCell ⟨gb110,0,none⟩ (.int .i64 a0_0)).setCell ⟨gb110,1,none⟩ (.int .u64 0)).setCell ⟨gb110,2,none⟩ (.int .i64 0)).setCell ⟨gb110,3,none⟩ (.int .u64 0)).setCell ⟨gb110,4,none⟩ (.bool false)).setCell ⟨gb110,5,none⟩ (.int .u64 0)).setCell ⟨gb110,6,none⟩ (.bool false)).setCell ⟨gb110,7,none⟩ (.int .u64 0)).setCell ⟨gb110,8,none⟩ (.bool false)).setCell ⟨gb110,9,none⟩ (.int .u64 0)).setCell ⟨gb110,10,none⟩ (.bool false)).setCell ⟨gb110,11,none⟩ (.int .u64 0)).setCell ⟨gb110,12,none⟩ (.bool false))=w16 at n0_ n1_ n2_ ⊢
     have BK109:=n0_
     have BK110:=n1_
     have HB:=n2_
     clear n0_ n1_ n2_
     have n0_:=Aside0.mk (blk_drew BK109.out)
     have n1_:=Aside0.mk (blk_drew BK110.out)
     have n2_:=Aside0.mk (below_drew1 HB.out)
     clear BK109
     clear BK110
     clear HB
     have BK109:=n0_
     have BK110:=n1_
     have HB:=n2_
     clear n0_ n1_ n2_
     refine start_ (n:=8) (S:=fun w'=>w'.cell? ⟨gb109,0,none⟩=some (.int .i64 a0_0)∧w'.cell? ⟨gb109,1,none⟩=some (.int .u64 a0_1)∧w'.cell? ⟨gb109,2,none⟩=some (.int .i64 a0_2)∧w'.cell? ⟨gb109,3,none⟩=some (.int .u64 a0_3)∧w'.cell? ⟨gb109,4,none⟩=some (.bool a0_4)∧w'.cell? ⟨gb109,5,none⟩=some (.int .u64 a0_5)∧w'.cell? ⟨gb109,6,none⟩=some (.bool a0_6)∧w'.cell? ⟨gb109,7,none⟩=some (.int .u64 a0_7)∧w'.cell? ⟨gb109,8,none⟩=some (.bool a0_8)∧w'.cell? ⟨gb109,9,none⟩=some (.int .u64 a0_9)∧w'.cell? ⟨gb109,10,none⟩=some (.bool a0_10)∧w'.cell? ⟨gb109,11,none⟩=some (.int .u64 a0_11)∧w'.cell? ⟨gb109,12,none⟩=some (.bool a0_12)) (ds:=[]) #[false,false,false,false,false,false,false,false] (by kernel_rfl) rfl rfl ⟨(blk_cell BK109.out 0).trans rfl,(blk_cell BK109.out 1).trans rfl,(blk_cell BK109.out 2).trans rfl,(blk_cell BK109.out 3).trans rfl,(blk_cell BK109.out 4).trans rfl,(blk_cell BK109.out 5).trans rfl,(blk_cell BK109.out 6).trans rfl,(blk_cell BK109.out 7).trans rfl,(blk_cell BK109.out 8).trans rfl,(blk_cell BK109.out 9).trans rfl,(blk_cell BK109.out 10).trans rfl,(blk_cell BK109.out 11).trans rfl,(blk_cell BK109.out 12).trans rfl⟩ (fun hHeld=>?_); refine with_tabW rearm_Check.tab8 rearm_Check.bits8 (fun HT_ HW_=>?_)
     generalize w16.drew=w17 at BK109 BK110 HB hHeld ⊢
     refine pure_ (i:=0) (N:=some 18) (v:=?_) (a':=?_) #[true,false,false,false,false,false,false,false] rfl rfl (any_of HT_.out (by kernel_rfl)) (fun _ _ _ h=>h) (Or.inl ⟨by rfl,?_⟩) ?_ ?_
     rotate_left
     ·intro w'
      go_simp
      with_reducible rfl
     rotate_left
     ·simp only [Act.put,List.setIfInBounds_toArray,List.set_cons_zero,List.set_cons_succ,i64_w,i32_w]
      rfl
     refine pure_ (i:=2) (N:=some 20) (v:=?_) (a':=?_) #[true,false,true,false,false,false,false,false] rfl rfl (any_of HT_.out (by kernel_rfl)) (fun _ _ _ h=>h) (Or.inl ⟨by rfl,?_⟩) ?_ ?_
     rotate_left
     ·intro w'
      go_simp
      with_reducible rfl
     rotate_left
     ·simp only [Act.put,List.setIfInBounds_toArray,List.set_cons_zero,List.set_cons_succ,i64_w,i32_w]
      rfl
     refine take_ (i:=1) (N:=some 19) (v:=?_) (a':=?_) #[true,true,true,false,false,false,false,false] rfl rfl (take_ofW HT_.out HW_.out (by kernel_rfl)) (fun _ _ _ h=>h) (Or.inl ⟨by rfl,?_⟩) hHeld ?_ ?_
     rotate_left
     ·rintro w' ⟨s0,s1,s2,s3,s4,s5,s6,s7,s8,s9,s10,s11,s12⟩
      go_simp
      with_reducible rfl
     rotate_left
     ·simp only [Act.put,List.setIfInBounds_toArray,List.set_cons_zero,List.set_cons_succ,i64_w,i32_w]
      rfl
     refine pure_ (i:=4) (N:=some 22) (v:=?_) (a':=?_) #[true,true,true,false,true,false,false,false] rfl rfl (any_of HT_.out (by kernel_rfl)) (fun _ _ _ h=>h) (Or.inl ⟨by rfl,?_⟩) ?_ ?_
     rotate_left
     ·intro w'
      go_simp
      with_reducible rfl
     rotate_left
     ·simp only [Act.put,List.setIfInBounds_toArray,List.set_cons_zero,List.set_cons_succ,i64_w,i32_w]
      rfl
     refine take_ (i:=3) (N:=some 21) (v:=?_) (a':=?_) #[true,true,true,true,true,false,false,false] rfl rfl (take_ofW HT_.out HW_.out (by kernel_rfl)) (fun _ _ _ h=>h) (Or.inl ⟨by rfl,?_⟩) hHeld ?_ ?_
     rotate_left
     ·rintro w' ⟨s0,s1,s2,s3,s4,s5,s6,s7,s8,s9,s10,s11,s12⟩
      go_simp
      with_reducible rfl
     rotate_left
     ·simp only [Act.put,List.setIfInBounds_toArray,List.set_cons_zero,List.set_cons_succ,i64_w,i32_w]
      rfl
     refine one_ (i:=5) (N:=none) #[true,true,true,true,true,true,false,false] rfl rfl (one_of HT_.out (by kernel_rfl)) (by decide) (fun K hK=>?_)
     have hs18:w17.cell? ⟨gb110,1,none⟩=some (.int .u64 0):=(blk_cell BK110.out 1).trans rfl
     have hfs18:=blk_frozen BK110.out 1
     have hns18_0:=NB109_110.out
     have hms18_0:=NB110_109.out
     refine skip_ (w1:=?_) (by rfl) rfl ?_ ?_
     rotate_left
     ·go_simp
      rfl
     refine hK.out _ _ ⟨((cell_far (p:=⟨gb110,_,none⟩) NB109_110.out _).trans (hHeld.1)),((cell_far (p:=⟨gb110,_,none⟩) NB109_110.out _).trans (hHeld.2.1)),((cell_far (p:=⟨gb110,_,none⟩) NB109_110.out _).trans (hHeld.2.2.1)),((cell_far (p:=⟨gb110,_,none⟩) NB109_110.out _).trans (hHeld.2.2.2.1)),((cell_far (p:=⟨gb110,_,none⟩) NB109_110.out _).trans (hHeld.2.2.2.2.1)),((cell_far (p:=⟨gb110,_,none⟩) NB109_110.out _).trans (hHeld.2.2.2.2.2.1)),((cell_far (p:=⟨gb110,_,none⟩) NB109_110.out _).trans (hHeld.2.2.2.2.2.2.1)),((cell_far (p:=⟨gb110,_,none⟩) NB109_110.out _).trans (hHeld.2.2.2.2.2.2.2.1)),((cell_far (p:=⟨gb110,_,none⟩) NB109_110.out _).trans (hHeld.2.2.2.2.2.2.2.2.1)),((cell_far (p:=⟨gb110,_,none⟩) NB109_110.out _).trans (hHeld.2.2.2.2.2.2.2.2.2.1)),((cell_far (p:=⟨gb110,_,none⟩) NB109_110.out _).trans (hHeld.2.2.2.2.2.2.2.2.2.2.1)),((cell_far (p:=⟨gb110,_,none⟩) NB109_110.out _).trans (hHeld.2.2.2.2.2.2.2.2.2.2.2.1)),((cell_far (p:=⟨gb110,_,none⟩) NB109_110.out _).trans (hHeld.2.2.2.2.2.2.2.2.2.2.2.2))⟩ (fun hHeld=>?_)
     clear hK K
     refine pure_ (i:=6) (N:=some 23) (v:=?_) (a':=?_) #[true,true,true,true,true,true,true,false] rfl rfl (any_of HT_.out (by kernel_rfl)) (fun _ _ _ h=>h) (Or.inl ⟨by rfl,?_⟩) ?_ ?_
     rotate_left
     ·intro w'
      go_simp
      with_reducible rfl
     rotate_left
     ·simp only [Act.put,List.setIfInBounds_toArray,List.set_cons_zero,List.set_cons_succ,i64_w,i32_w]
      rfl
     refine one_ (i:=7) (N:=none) #[true,true,true,true,true,true,true,true] rfl rfl (one_of HT_.out (by kernel_rfl)) (by decide) (fun K hK=>?_)
     have hs19:w17.cell? ⟨gb110,2,none⟩=some (.int .i64 0):=(blk_cell BK110.out 2).trans rfl
     have hfs19:=blk_frozen BK110.out 2
     have hns19_0:=NB109_110.out
     have hms19_0:=NB110_109.out
     refine skip_ (w1:=?_) (by rfl) rfl ?_ ?_
     rotate_left
     ·go_simp
      rfl
     refine hK.out _ _ ⟨((cell_far (p:=⟨gb110,_,none⟩) NB109_110.out _).trans (hHeld.1)),((cell_far (p:=⟨gb110,_,none⟩) NB109_110.out _).trans (hHeld.2.1)),((cell_far (p:=⟨gb110,_,none⟩) NB109_110.out _).trans (hHeld.2.2.1)),((cell_far (p:=⟨gb110,_,none⟩) NB109_110.out _).trans (hHeld.2.2.2.1)),((cell_far (p:=⟨gb110,_,none⟩) NB109_110.out _).trans (hHeld.2.2.2.2.1)),((cell_far (p:=⟨gb110,_,none⟩) NB109_110.out _).trans (hHeld.2.2.2.2.2.1)),((cell_far (p:=⟨gb110,_,none⟩) NB109_110.out _).trans (hHeld.2.2.2.2.2.2.1)),((cell_far (p:=⟨gb110,_,none⟩) NB109_110.out _).trans (hHeld.2.2.2.2.2.2.2.1)),((cell_far (p:=⟨gb110,_,none⟩) NB109_110.out _).trans (hHeld.2.2.2.2.2.2.2.2.1)),((cell_far (p:=⟨gb110,_,none⟩) NB109_110.out _).trans (hHeld.2.2.2.2.2.2.2.2.2.1)),((cell_far (p:=⟨gb110,_,none⟩) NB109_110.out _).trans (hHeld.2.2.2.2.2.2.2.2.2.2.1)),((cell_far (p:=⟨gb110,_,none⟩) NB109_110.out _).trans (hHeld.2.2.2.2.2.2.2.2.2.2.2.1)),((cell_far (p:=⟨gb110,_,none⟩) NB109_110.out _).trans (hHeld.2.2.2.2.2.2.2.2.2.2.2.2))⟩ (fun hHeld=>?_)
     clear hK K
     refine done_ (done_of HT_.out (by kernel_rfl)) ?_
     try go_wp2
     go_meet
     case rel=>exact ⟨_,(a0_1),(a0_2),(0),(false),(0),(false),(0),(false),(0),(false),(0),(false),H',⟨by first | omega | exact Nat.le_refl _⟩,⟨by (with_reducible repeat (first | refine blk_drewN ?_ _ | refine blk_drew ?_ | refine blk_alloc ?_ _)); refine blk_far ?_ NB109_110.out _; (with_reducible repeat (first | refine blk_drewN ?_ _ | refine blk_drew ?_ | refine blk_alloc ?_ _)); refine blk_far ?_ NB109_110.out _; (with_reducible repeat (first | refine blk_drewN ?_ _ | refine blk_drew ?_ | refine blk_alloc ?_ _)); exact BK109.out⟩,⟨by (with_reducible repeat (first | refine blk_drewN ?_ _ | refine blk_drew ?_ | refine blk_alloc ?_ _)); refine blk_put (cs:=#[.int .i64 a0_0,.int .u64 a0_1,.int .i64 0,.int .u64 0,.bool false,.int .u64 0,.bool false,.int .u64 0,.bool false,.int .u64 0,.bool false,.int .u64 0,.bool false]) ?_ 2 _ rfl; (with_reducible repeat (first | refine blk_drewN ?_ _ | refine blk_drew ?_ | refine blk_alloc ?_ _)); refine blk_put (cs:=#[.int .i64 a0_0,.int .u64 0,.int .i64 0,.int .u64 0,.bool false,.int .u64 0,.bool false,.int .u64 0,.bool false,.int .u64 0,.bool false,.int .u64 0,.bool false]) ?_ 1 _ rfl; (with_reducible repeat (first | refine blk_drewN ?_ _ | refine blk_drew ?_ | refine blk_alloc ?_ _)); exact BK110.out⟩,⟨by repeat (first | (with_reducible first | exact HB.out | apply below_alloc | apply pw_below_drewN | apply below_drew1 | refine below_set ?_ GE109.out | refine below_set ?_ GE110.out) | exact HB.out)⟩⟩
   ·rw [if_neg c10] at H
    have c10b0:(a0_0 == 1)=false:=beq_eq_false_iff_ne.mpr c10
    have c10b1:(a0_0 != 1)=true:=bne_iff_ne.mpr c10
    by_cases c20:a0_0=2
    ·rw [if_pos c20] at H
     have c20b0:(a0_0 == 2)=true:=beq_iff_eq.mpr c20
     have c20b1:(a0_0 != 2)=false:=bne_eq_false_iff_eq.mpr c20
     clear c20
     have H':=Aside0.mk H
     clear H
     have hnb21:=NB109_110.out
     have hnc21:=NB110_109.out
     have hcz22_0:w5.cell? ⟨gb109,0,none⟩=some (.int .i64 a0_0):=(blk_cell BK109.out 0).trans rfl
     have hcz22_1:w5.cell? ⟨gb109,1,none⟩=some (.int .u64 a0_1):=(blk_cell BK109.out 1).trans rfl
     have hcz22_2:w5.cell? ⟨gb109,2,none⟩=some (.int .i64 a0_2):=(blk_cell BK109.out 2).trans rfl
     have hcz22_3:w5.cell? ⟨gb109,3,none⟩=some (.int .u64 a0_3):=(blk_cell BK109.out 3).trans rfl
     have hcz22_4:w5.cell? ⟨gb109,4,none⟩=some (.bool a0_4):=(blk_cell BK109.out 4).trans rfl
     have hcz22_5:w5.cell? ⟨gb109,5,none⟩=some (.int .u64 a0_5):=(blk_cell BK109.out 5).trans rfl
     have hcz22_6:w5.cell? ⟨gb109,6,none⟩=some (.bool a0_6):=(blk_cell BK109.out 6).trans rfl
     have hcz22_7:w5.cell? ⟨gb109,7,none⟩=some (.int .u64 a0_7):=(blk_cell BK109.out 7).trans rfl
     have hcz22_8:w5.cell? ⟨gb109,8,none⟩=some (.bool a0_8):=(blk_cell BK109.out 8).trans rfl
     have hcz22_9:w5.cell? ⟨gb109,9,none⟩=some (.int .u64 a0_9):=(blk_cell BK109.out 9).trans rfl
     have hcz22_10:w5.cell? ⟨gb109,10,none⟩=some (.bool a0_10):=(blk_cell BK109.out 10).trans rfl
     have hcz22_11:w5.cell? ⟨gb109,11,none⟩=some (.int .u64 a0_11):=(blk_cell BK109.out 11).trans rfl
     have hcz22_12:w5.cell? ⟨gb109,12,none⟩=some (.bool a0_12):=(blk_cell BK109.out 12).trans rfl
     have hfz22_0:=blk_frozen BK109.out 0
     have hfz22_1:=blk_frozen BK109.out 1
     have hfz22_2:=blk_frozen BK109.out 2
     have hfz22_3:=blk_frozen BK109.out 3
     have hfz22_4:=blk_frozen BK109.out 4
     have hfz22_5:=blk_frozen BK109.out 5
     have hfz22_6:=blk_frozen BK109.out 6
     have hfz22_7:=blk_frozen BK109.out 7
     have hfz22_8:=blk_frozen BK109.out 8
     have hfz22_9:=blk_frozen BK109.out 9
     have hfz22_10:=blk_frozen BK109.out 10
     have hfz22_11:=blk_frozen BK109.out 11
     have hfz22_12:=blk_frozen BK109.out 12
     have hcz23_0:w5.cell? ⟨gb110,0,none⟩=some (.int .i64 0):=(blk_cell BK110.out 0).trans rfl
     have hcz23_1:w5.cell? ⟨gb110,1,none⟩=some (.int .u64 0):=(blk_cell BK110.out 1).trans rfl
     have hcz23_2:w5.cell? ⟨gb110,2,none⟩=some (.int .i64 0):=(blk_cell BK110.out 2).trans rfl
     have hcz23_3:w5.cell? ⟨gb110,3,none⟩=some (.int .u64 0):=(blk_cell BK110.out 3).trans rfl
     have hcz23_4:w5.cell? ⟨gb110,4,none⟩=some (.bool false):=(blk_cell BK110.out 4).trans rfl
     have hcz23_5:w5.cell? ⟨gb110,5,none⟩=some (.int .u64 0):=(blk_cell BK110.out 5).trans rfl
     have hcz23_6:w5.cell? ⟨gb110,6,none⟩=some (.bool false):=(blk_cell BK110.out 6).trans rfl
     have hcz23_7:w5.cell? ⟨gb110,7,none⟩=some (.int .u64 0):=(blk_cell BK110.out 7).trans rfl
     have hcz23_8:w5.cell? ⟨gb110,8,none⟩=some (.bool false):=(blk_cell BK110.out 8).trans rfl
     have hcz23_9:w5.cell? ⟨gb110,9,none⟩=some (.int .u64 0):=(blk_cell BK110.out 9).trans rfl
     have hcz23_10:w5.cell? ⟨gb110,10,none⟩=some (.bool false):=(blk_cell BK110.out 10).trans rfl
     have hcz23_11:w5.cell? ⟨gb110,11,none⟩=some (.int .u64 0):=(blk_cell BK110.out 11).trans rfl
     have hcz23_12:w5.cell? ⟨gb110,12,none⟩=some (.bool false):=(blk_cell BK110.out 12).trans rfl
     have hfz23_0:=blk_frozen BK110.out 0
     have hfz23_1:=blk_frozen BK110.out 1
     have hfz23_2:=blk_frozen BK110.out 2
     have hfz23_3:=blk_frozen BK110.out 3
     have hfz23_4:=blk_frozen BK110.out 4
     have hfz23_5:=blk_frozen BK110.out 5
     have hfz23_6:=blk_frozen BK110.out 6
     have hfz23_7:=blk_frozen BK110.out 7
     have hfz23_8:=blk_frozen BK110.out 8
     have hfz23_9:=blk_frozen BK110.out 9
     have hfz23_10:=blk_frozen BK110.out 10
     have hfz23_11:=blk_frozen BK110.out 11
     have hfz23_12:=blk_frozen BK110.out 12
     go_wp2
     go_meet
     case rel=>exact ⟨_,(0),(0),(a0_3),(a0_4),(a0_5),(a0_6),(a0_7),(a0_8),(a0_9),(a0_10),(a0_11),(a0_12),H',⟨by first | omega | exact Nat.le_refl _⟩,⟨by (with_reducible repeat (first | refine blk_drewN ?_ _ | refine blk_drew ?_ | refine blk_alloc ?_ _)); refine blk_far ?_ NB109_110.out _; (with_reducible repeat (first | refine blk_drewN ?_ _ | refine blk_drew ?_ | refine blk_alloc ?_ _)); refine blk_far ?_ NB109_110.out _; (with_reducible repeat (first | refine blk_drewN ?_ _ | refine blk_drew ?_ | refine blk_alloc ?_ _)); refine blk_far ?_ NB109_110.out _; (with_reducible repeat (first | refine blk_drewN ?_ _ | refine blk_drew ?_ | refine blk_alloc ?_ _)); refine blk_far ?_ NB109_110.out _; (with_reducible repeat (first | refine blk_drewN ?_ _ | refine blk_drew ?_ | refine blk_alloc ?_ _)); refine blk_far ?_ NB109_110.out _; (with_reducible repeat (first | refine blk_drewN ?_ _ | refine blk_drew ?_ | refine blk_alloc ?_ _)); refine blk_far ?_ NB109_110.out _; (with_reducible repeat (first | refine blk_drewN ?_ _ | refine blk_drew ?_ | refine blk_alloc ?_ _)); refine blk_far ?_ NB109_110.out _; (with_reducible repeat (first | refine blk_drewN ?_ _ | refine blk_drew ?_ | refine blk_alloc ?_ _)); refine blk_far ?_ NB109_110.out _; (with_reducible repeat (first | refine blk_drewN ?_ _ | refine blk_drew ?_ | refine blk_alloc ?_ _)); refine blk_far ?_ NB109_110.out _; (with_reducible repeat (first | refine blk_drewN ?_ _ | refine blk_drew ?_ | refine blk_alloc ?_ _)); refine blk_far ?_ NB109_110.out _; (with_reducible repeat (first | refine blk_drewN ?_ _ | refine blk_drew ?_ | refine blk_alloc ?_ _)); refine blk_far ?_ NB109_110.out _; (with_reducible repeat (first | refine blk_drewN ?_ _ | refine blk_drew ?_ | refine blk_alloc ?_ _)); refine blk_far ?_ NB109_110.out _; (with_reducible repeat (first | refine blk_drewN ?_ _ | refine blk_drew ?_ | refine blk_alloc ?_ _)); refine blk_far ?_ NB109_110.out _; (with_reducible repeat (first | refine blk_drewN ?_ _ | refine blk_drew ?_ | refine blk_alloc ?_ _)); refine blk_far ?_ NB109_110.out _; (with_reducible repeat (first | refine blk_drewN ?_ _ | refine blk_drew ?_ | refine blk_alloc ?_ _)); refine blk_far ?_ NB109_110.out _; (with_reducible repeat (first | refine blk_drewN ?_ _ | refine blk_drew ?_ | refine blk_alloc ?_ _)); refine blk_far ?_ NB109_110.out _; (with_reducible repeat (first | refine blk_drewN ?_ _ | refine blk_drew ?_ | refine blk_alloc ?_ _)); refine blk_far ?_ NB109_110.out _; (with_reducible repeat (first | refine blk_drewN ?_ _ | refine blk_drew ?_ | refine blk_alloc ?_ _)); refine blk_far ?_ NB109_110.out _; (with_reducible repeat (first | refine blk_drewN ?_ _ | refine blk_drew ?_ | refine blk_alloc ?_ _)); refine blk_far ?_ NB109_110.out _; (with_reducible repeat (first | refine blk_drewN ?_ _ | refine blk_drew ?_ | refine blk_alloc ?_ _)); refine blk_far ?_ NB109_110.out _; (with_reducible repeat (first | refine blk_drewN ?_ _ | refine blk_drew ?_ | refine blk_alloc ?_ _)); refine blk_far ?_ NB109_110.out _; (with_reducible repeat (first | refine blk_drewN ?_ _ | refine blk_drew ?_ | refine blk_alloc ?_ _)); refine blk_far ?_ NB109_110.out _; (with_reducible repeat (first | refine blk_drewN ?_ _ | refine blk_drew ?_ | refine blk_alloc ?_ _)); refine blk_far ?_ NB109_110.out _; (with_reducible repeat (first | refine blk_drewN ?_ _ | refine blk_drew ?_ | refine blk_alloc ?_ _)); exact BK109.out⟩,⟨by (with_reducible repeat (first | refine blk_drewN ?_ _ | refine blk_drew ?_ | refine blk_alloc ?_ _)); refine blk_put (cs:=#[.int .i64 a0_0,.int .u64 0,.int .i64 0,.int .u64 a0_3,.bool a0_4,.int .u64 a0_5,.bool a0_6,.int .u64 a0_7,.bool a0_8,.int .u64 a0_9,.bool a0_10,.int .u64 a0_11,.bool false]) ?_ 12 _ rfl; (with_reducible repeat (first | refine blk_drewN ?_ _ | refine blk_drew ?_ | refine blk_alloc ?_ _)); refine blk_put (cs:=#[.int .i64 a0_0,.int .u64 0,.int .i64 0,.int .u64 a0_3,.bool a0_4,.int .u64 a0_5,.bool a0_6,.int .u64 a0_7,.bool a0_8,.int .u64 a0_9,.bool a0_10,.int .u64 0,.bool false]) ?_ 11 _ rfl; (with_reducible repeat (first | refine blk_drewN ?_ _ | refine blk_drew ?_ | refine blk_alloc ?_ _)); refine blk_put (cs:=#[.int .i64 a0_0,.int .u64 0,.int .i64 0,.int .u64 a0_3,.bool a0_4,.int .u64 a0_5,.bool a0_6,.int .u64 a0_7,.bool a0_8,.int .u64 a0_9,.bool false,.int .u64 0,.bool false]) ?_ 10 _ rfl; (with_reducible repeat (first | refine blk_drewN ?_ _ | refine blk_drew ?_ | refine blk_alloc ?_ _)); refine blk_put (cs:=#[.int .i64 a0_0,.int .u64 0,.int .i64 0,.int .u64 a0_3,.bool a0_4,.int .u64 a0_5,.bool a0_6,.int .u64 a0_7,.bool a0_8,.int .u64 0,.bool false,.int .u64 0,.bool false]) ?_ 9 _ rfl; (with_reducible repeat (first | refine blk_drewN ?_ _ | refine blk_drew ?_ | refine blk_alloc ?_ _)); refine blk_put (cs:=#[.int .i64 a0_0,.int .u64 0,.int .i64 0,.int .u64 a0_3,.bool a0_4,.int .u64 a0_5,.bool a0_6,.int .u64 a0_7,.bool false,.int .u64 0,.bool false,.int .u64 0,.bool false]) ?_ 8 _ rfl; (with_reducible repeat (first | refine blk_drewN ?_ _ | refine blk_drew ?_ | refine blk_alloc ?_ _)); refine blk_put (cs:=#[.int .i64 a0_0,.int .u64 0,.int .i64 0,.int .u64 a0_3,.bool a0_4,.int .u64 a0_5,.bool a0_6,.int .u64 0,.bool false,.int .u64 0,.bool false,.int .u64 0,.bool false]) ?_ 7 _ rfl; (with_reducible repeat (first | refine blk_drewN ?_ _ | refine blk_drew ?_ | refine blk_alloc ?_ _)); refine blk_put (cs:=#[.int .i64 a0_0,.int .u64 0,.int .i64 0,.int .u64 a0_3,.bool a0_4,.int .u64 a0_5,.bool false,.int .u64 0,.bool false,.int .u64 0,.bool false,.int .u64 0,.bool false]) ?_ 6 _ rfl; (with_reducible repeat (first | refine blk_drewN ?_ _ | refine blk_drew ?_ | refine blk_alloc ?_ _)); refine blk_put (cs:=#[.int .i64 a0_0,.int .u64 0,.int .i64 0,.int .u64 a0_3,.bool a0_4,.int .u64 0,.bool false,.int .u64 0,.bool false,.int .u64 0,.bool false,.int .u64 0,.bool false]) ?_ 5 _ rfl; (with_reducible repeat (first | refine blk_drewN ?_ _ | refine blk_drew ?_ | refine blk_alloc ?_ _)); refine blk_put (cs:=#[.int .i64 a0_0,.int .u64 0,.int .i64 0,.int .u64 a0_3,.bool false,.int .u64 0,.bool false,.int .u64 0,.bool false,.int .u64 0,.bool false,.int .u64 0,.bool false]) ?_ 4 _ rfl; (with_reducible repeat (first | refine blk_drewN ?_ _ | refine blk_drew ?_ | refine blk_alloc ?_ _)); refine blk_put (cs:=#[.int .i64 a0_0,.int .u64 0,.int .i64 0,.int .u64 0,.bool false,.int .u64 0,.bool false,.int .u64 0,.bool false,.int .u64 0,.bool false,.int .u64 0,.bool false]) ?_ 3 _ rfl; (with_reducible repeat (first | refine blk_drewN ?_ _ | refine blk_drew ?_ | refine blk_alloc ?_ _)); refine blk_put (cs:=#[.int .i64 a0_0,.int .u64 0,.int .i64 0,.int .u64 0,.bool false,.int .u64 0,.bool false,.int .u64 0,.bool false,.int .u64 0,.bool false,.int .u64 0,.bool false]) ?_ 12 _ rfl; (with_reducible repeat (first | refine blk_drewN ?_ _ | refine blk_drew ?_ | refine blk_alloc ?_ _)); refine blk_put (cs:=#[.int .i64 a0_0,.int .u64 0,.int .i64 0,.int .u64 0,.bool false,.int .u64 0,.bool false,.int .u64 0,.bool false,.int .u64 0,.bool false,.int .u64 0,.bool false]) ?_ 11 _ rfl; (with_reducible repeat (first | refine blk_drewN ?_ _ | refine blk_drew ?_ | refine blk_alloc ?_ _)); refine blk_put (cs:=#[.int .i64 a0_0,.int .u64 0,.int .i64 0,.int .u64 0,.bool false,.int .u64 0,.bool false,.int .u64 0,.bool false,.int .u64 0,.bool false,.int .u64 0,.bool false]) ?_ 10 _ rfl; (with_reducible repeat (first | refine blk_drewN ?_ _ | refine blk_drew ?_ | refine blk_alloc ?_ _)); refine blk_put (cs:=#[.int .i64 a0_0,.int .u64 0,.int .i64 0,.int .u64 0,.bool false,.int .u64 0,.bool false,.int .u64 0,.bool false,.int .u64 0,.bool false,.int .u64 0,.bool false]) ?_ 9 _ rfl; (with_reducible repeat (first | refine blk_drewN ?_ _ | refine blk_drew ?_ | refine blk_alloc ?_ _)); refine blk_put (cs:=#[.int .i64 a0_0,.int .u64 0,.int .i64 0,.int .u64 0,.bool false,.int .u64 0,.bool false,.int .u64 0,.bool false,.int .u64 0,.bool false,.int .u64 0,.bool false]) ?_ 8 _ rfl; (with_reducible repeat (first | refine blk_drewN ?_ _ | refine blk_drew ?_ | refine blk_alloc ?_ _)); refine blk_put (cs:=#[.int .i64 a0_0,.int .u64 0,.int .i64 0,.int .u64 0,.bool false,.int .u64 0,.bool false,.int .u64 0,.bool false,.int .u64 0,.bool false,.int .u64 0,.bool false]) ?_ 7 _ rfl; (with_reducible repeat (first | refine blk_drewN ?_ _ | refine blk_drew ?_ | refine blk_alloc ?_ _)); refine blk_put (cs:=#[.int .i64 a0_0,.int .u64 0,.int .i64 0,.int .u64 0,.bool false,.int .u64 0,.bool false,.int .u64 0,.bool false,.int .u64 0,.bool false,.int .u64 0,.bool false]) ?_ 6 _ rfl; (with_reducible repeat (first | refine blk_drewN ?_ _ | refine blk_drew ?_ | refine blk_alloc ?_ _)); refine blk_put (cs:=#[.int .i64 a0_0,.int .u64 0,.int .i64 0,.int .u64 0,.bool false,.int .u64 0,.bool false,.int .u64 0,.bool false,.int .u64 0,.bool false,.int .u64 0,.bool false]) ?_ 5 _ rfl; (with_reducible repeat (first | refine blk_drewN ?_ _ | refine blk_drew ?_ | refine blk_alloc ?_ _)); refine blk_put (cs:=#[.int .i64 a0_0,.int .u64 0,.int .i64 0,.int .u64 0,.bool false,.int .u64 0,.bool false,.int .u64 0,.bool false,.int .u64 0,.bool false,.int .u64 0,.bool false]) ?_ 4 _ rfl; (with_reducible repeat (first | refine blk_drewN ?_ _ | refine blk_drew ?_ | refine blk_alloc ?_ _)); refine blk_put (cs:=#[.int .i64 a0_0,.int .u64 0,.int .i64 0,.int .u64 0,.bool false,.int .u64 0,.bool false,.int .u64 0,.bool false,.int .u64 0,.bool false,.int .u64 0,.bool false]) ?_ 3 _ rfl; (with_reducible repeat (first | refine blk_drewN ?_ _ | refine blk_drew ?_ | refine blk_alloc ?_ _)); refine blk_put (cs:=#[.int .i64 a0_0,.int .u64 0,.int .i64 0,.int .u64 0,.bool false,.int .u64 0,.bool false,.int .u64 0,.bool false,.int .u64 0,.bool false,.int .u64 0,.bool false]) ?_ 2 _ rfl; (with_reducible repeat (first | refine blk_drewN ?_ _ | refine blk_drew ?_ | refine blk_alloc ?_ _)); refine blk_put (cs:=#[.int .i64 a0_0,.int .u64 0,.int .i64 0,.int .u64 0,.bool false,.int .u64 0,.bool false,.int .u64 0,.bool false,.int .u64 0,.bool false,.int .u64 0,.bool false]) ?_ 1 _ rfl; (with_reducible repeat (first | refine blk_drewN ?_ _ | refine blk_drew ?_ | refine blk_alloc ?_ _)); refine blk_put (cs:=#[.int .i64 0,.int .u64 0,.int .i64 0,.int .u64 0,.bool false,.int .u64 0,.bool false,.int .u64 0,.bool false,.int .u64 0,.bool false,.int .u64 0,.bool false]) ?_ 0 _ rfl; (with_reducible repeat (first | refine blk_drewN ?_ _ | refine blk_drew ?_ | refine blk_alloc ?_ _)); exact BK110.out⟩,⟨by repeat (first | (with_reducible first | exact HB.out | apply below_alloc | apply pw_below_drewN | apply below_drew1 | refine below_set ?_ GE109.out | refine below_set ?_ GE110.out) | exact HB.out)⟩⟩
    ·rw [if_neg c20] at H
     have c20b0:(a0_0 == 2)=false:=beq_eq_false_iff_ne.mpr c20
     have c20b1:(a0_0 != 2)=true:=bne_iff_ne.mpr c20
     obtain rfl:=Option.some.inj H
     go_wp2
     go_ret
     exact ⟨by first | rfl | (simp [errW_none,errW_some] <;> rfl) | (simp [*,errW_none,errW_some] <;> rfl),by repeat (first | (with_reducible first | exact HB.out | apply below_alloc | apply pw_below_drewN | apply below_drew1 | refine below_set ?_ GE109.out | refine below_set ?_ GE110.out) | exact HB.out)⟩
 case rest=>
  clear HC2
  try clear c1
  try clear c2
  try clear p2
  try clear c6
  try clear c9
  try clear c9b0
  try clear c9b1
  try clear c10
  try clear c10b0
  try clear c10b1
  try clear c11
  try clear c11b0
  try clear c11b1
  try clear c12
  try clear c14
  try clear c20
  try clear c20b0
  try clear c20b1
  try clear c21
  try clear hcz13_0
  try clear hcz13_1
  try clear hcz13_10
  try clear hcz13_11
  try clear hcz13_12
  try clear hcz13_2
  try clear hcz13_3
  try clear hcz13_4
  try clear hcz13_5
  try clear hcz13_6
  try clear hcz13_7
  try clear hcz13_8
  try clear hcz13_9
  try clear hcz15_0
  try clear hcz15_1
  try clear hcz15_10
  try clear hcz15_11
  try clear hcz15_12
  try clear hcz15_2
  try clear hcz15_3
  try clear hcz15_4
  try clear hcz15_5
  try clear hcz15_6
  try clear hcz15_7
  try clear hcz15_8
  try clear hcz15_9
  try clear hcz22_0
  try clear hcz22_1
  try clear hcz22_10
  try clear hcz22_11
  try clear hcz22_12
  try clear hcz22_2
  try clear hcz22_3
  try clear hcz22_4
  try clear hcz22_5
  try clear hcz22_6
  try clear hcz22_7
  try clear hcz22_8
  try clear hcz22_9
  try clear hcz23_0
  try clear hcz23_1
  try clear hcz23_10
  try clear hcz23_11
  try clear hcz23_12
  try clear hcz23_2
  try clear hcz23_3
  try clear hcz23_4
  try clear hcz23_5
  try clear hcz23_6
  try clear hcz23_7
  try clear hcz23_8
  try clear hcz23_9
  try clear hcz4_0
  try clear hcz4_1
  try clear hcz4_10
  try clear hcz4_11
  try clear hcz4_12
  try clear hcz4_2
  try clear hcz4_3
  try clear hcz4_4
  try clear hcz4_5
  try clear hcz4_6
  try clear hcz4_7
  try clear hcz4_8
  try clear hcz4_9
  try clear hcz7_0
  try clear hcz7_1
  try clear hcz7_10
  try clear hcz7_11
  try clear hcz7_12
  try clear hcz7_2
  try clear hcz7_3
  try clear hcz7_4
  try clear hcz7_5
  try clear hcz7_6
  try clear hcz7_7
  try clear hcz7_8
  try clear hcz7_9
  try clear hcz8_0
  try clear hcz8_1
  try clear hcz8_10
  try clear hcz8_11
  try clear hcz8_12
  try clear hcz8_2
  try clear hcz8_3
  try clear hcz8_4
  try clear hcz8_5
  try clear hcz8_6
  try clear hcz8_7
  try clear hcz8_8
  try clear hcz8_9
  try clear hfz13_0
  try clear hfz13_1
  try clear hfz13_10
  try clear hfz13_11
  try clear hfz13_12
  try clear hfz13_2
  try clear hfz13_3
  try clear hfz13_4
  try clear hfz13_5
  try clear hfz13_6
  try clear hfz13_7
  try clear hfz13_8
  try clear hfz13_9
  try clear hfz15_0
  try clear hfz15_1
  try clear hfz15_10
  try clear hfz15_11
  try clear hfz15_12
  try clear hfz15_2
  try clear hfz15_3
  try clear hfz15_4
  try clear hfz15_5
  try clear hfz15_6
  try clear hfz15_7
  try clear hfz15_8
  try clear hfz15_9
  try clear hfz22_0
  try clear hfz22_1
  try clear hfz22_10
  try clear hfz22_11
  try clear hfz22_12
  try clear hfz22_2
  try clear hfz22_3
  try clear hfz22_4
  try clear hfz22_5
  try clear hfz22_6
  try clear hfz22_7
  try clear hfz22_8
  try clear hfz22_9
  try clear hfz23_0
  try clear hfz23_1
  try clear hfz23_10
  try clear hfz23_11
  try clear hfz23_12
  try clear hfz23_2
  try clear hfz23_3
  try clear hfz23_4
  try clear hfz23_5
  try clear hfz23_6
  try clear hfz23_7
  try clear hfz23_8
  try clear hfz23_9
  try clear hfz4_0
  try clear hfz4_1
  try clear hfz4_10
  try clear hfz4_11
  try clear hfz4_12
  try clear hfz4_2
  try clear hfz4_3
  try clear hfz4_4
  try clear hfz4_5
  try clear hfz4_6
  try clear hfz4_7
  try clear hfz4_8
  try clear hfz4_9
  try clear hfz7_0
  try clear hfz7_1
  try clear hfz7_10
  try clear hfz7_11
  try clear hfz7_12
  try clear hfz7_2
  try clear hfz7_3
  try clear hfz7_4
  try clear hfz7_5
  try clear hfz7_6
  try clear hfz7_7
  try clear hfz7_8
  try clear hfz7_9
  try clear hfz8_0
  try clear hfz8_1
  try clear hfz8_10
  try clear hfz8_11
  try clear hfz8_12
  try clear hfz8_2
  try clear hfz8_3
  try clear hfz8_4
  try clear hfz8_5
  try clear hfz8_6
  try clear hfz8_7
  try clear hfz8_8
  try clear hfz8_9
  obtain ⟨kq,x111001_1,x111002_1,x111003_1,x111004_1,x111005_1,x111006_1,x111007_1,x111008_1,x111009_1,x111010_1,x111011_1,x111012_1,HA,HJ1,BK109,BK110,HB⟩ :=hcut
  cases kq with
  | zero=>exact absurd HA.out (by simp [rearm_Check.j0])
  | succ kj1=>
   have H:=HA.out
   clear HA
   simp only [rearm_Check.j0] at H
   have HC24:=Aside0.mk H
   clear H
   go_upto_region 11 with (fail)
   go_cut [36] (fun v36 wc=>∃ (kq:Nat) (x36_23:Bool),v36=.bool x36_23∧Aside0 (rearm_Check.j1 kq x36_23 a0_0 a0_1 a0_2 a0_3 a0_4 a0_5 a0_6 a0_7 a0_8 a0_9 a0_10 a0_11 a0_12=some r)∧Aside0 (kq≤kj1)∧Aside0 (wc.heap[gb109]?=some (.cells #[.int .i64 a0_0,.int .u64 a0_1,.int .i64 a0_2,.int .u64 a0_3,.bool a0_4,.int .u64 a0_5,.bool a0_6,.int .u64 a0_7,.bool a0_8,.int .u64 a0_9,.bool a0_10,.int .u64 a0_11,.bool a0_12] 28 (0,0)))∧Aside0 (wc.heap[gb110]?=some (.cells #[.int .i64 a0_0,.int .u64 x111001_1,.int .i64 x111002_1,.int .u64 x111003_1,.bool x111004_1,.int .u64 x111005_1,.bool x111006_1,.int .u64 x111007_1,.bool x111008_1,.int .u64 x111009_1,.bool x111010_1,.int .u64 x111011_1,.bool x111012_1] 28 (0,0)))∧Aside0 (Below w.heap.size w wc))
   case first=>
    have H:=HC24.out
    clear HC24
    by_cases c25:a0_2 < 0
    ·rw [if_pos c25] at H
     have c25b0:decide (a0_2 < 0)=true:=decide_eq_true c25
     clear c25
     (first | rw [c25b0] | (simp only [i64_w,i32_w]; rw [c25b0]) | skip)
     have H':=Aside0.mk H
     clear H
     have hnb26:=NB109_110.out
     have hnc26:=NB110_109.out
     have hcz27_0:wc.cell? ⟨gb109,0,none⟩=some (.int .i64 a0_0):=(blk_cell BK109.out 0).trans rfl
     have hcz27_1:wc.cell? ⟨gb109,1,none⟩=some (.int .u64 a0_1):=(blk_cell BK109.out 1).trans rfl
     have hcz27_2:wc.cell? ⟨gb109,2,none⟩=some (.int .i64 a0_2):=(blk_cell BK109.out 2).trans rfl
     have hcz27_3:wc.cell? ⟨gb109,3,none⟩=some (.int .u64 a0_3):=(blk_cell BK109.out 3).trans rfl
     have hcz27_4:wc.cell? ⟨gb109,4,none⟩=some (.bool a0_4):=(blk_cell BK109.out 4).trans rfl
     have hcz27_5:wc.cell? ⟨gb109,5,none⟩=some (.int .u64 a0_5):=(blk_cell BK109.out 5).trans rfl
     have hcz27_6:wc.cell? ⟨gb109,6,none⟩=some (.bool a0_6):=(blk_cell BK109.out 6).trans rfl
     have hcz27_7:wc.cell? ⟨gb109,7,none⟩=some (.int .u64 a0_7):=(blk_cell BK109.out 7).trans rfl
     have hcz27_8:wc.cell? ⟨gb109,8,none⟩=some (.bool a0_8):=(blk_cell BK109.out 8).trans rfl
     have hcz27_9:wc.cell? ⟨gb109,9,none⟩=some (.int .u64 a0_9):=(blk_cell BK109.out 9).trans rfl
     have hcz27_10:wc.cell? ⟨gb109,10,none⟩=some (.bool a0_10):=(blk_cell BK109.out 10).trans rfl
     have hcz27_11:wc.cell? ⟨gb109,11,none⟩=some (.int .u64 a0_11):=(blk_cell BK109.out 11).trans rfl
     have hcz27_12:wc.cell? ⟨gb109,12,none⟩=some (.bool a0_12):=(blk_cell BK109.out 12).trans rfl
     have hfz27_0:=blk_frozen BK109.out 0
     have hfz27_1:=blk_frozen BK109.out 1
     have hfz27_2:=blk_frozen BK109.out 2
     have hfz27_3:=blk_frozen BK109.out 3
     have hfz27_4:=blk_frozen BK109.out 4
     have hfz27_5:=blk_frozen BK109.out 5
     have hfz27_6:=blk_frozen BK109.out 6
     have hfz27_7:=blk_frozen BK109.out 7
     have hfz27_8:=blk_frozen BK109.out 8
     have hfz27_9:=blk_frozen BK109.out 9
     have hfz27_10:=blk_frozen BK109.out 10
     have hfz27_11:=blk_frozen BK109.out 11
     have hfz27_12:=blk_frozen BK109.out 12
     go_wp2
     go_meet
     case rel=>exact ⟨_,(true),(by first | rfl | (simp; done) | (simp [*]; done)),H',⟨by have:=HJ1.out; first | omega | exact Nat.le_refl _⟩,⟨by (with_reducible repeat (first | refine blk_drewN ?_ _ | refine blk_drew ?_ | refine blk_alloc ?_ _)); exact BK109.out⟩,⟨by (with_reducible repeat (first | refine blk_drewN ?_ _ | refine blk_drew ?_ | refine blk_alloc ?_ _)); exact BK110.out⟩,⟨by repeat (first | (with_reducible first | exact HB.out | apply below_alloc | apply pw_below_drewN | apply below_drew1 | refine below_set ?_ GE109.out | refine below_set ?_ GE110.out) | exact HB.out)⟩⟩
    ·rw [if_neg c25] at H
     have c25b0:decide (a0_2 < 0)=false:=decide_eq_false c25
     clear c25
     (first | rw [c25b0] | (simp only [i64_w,i32_w]; rw [c25b0]) | skip)
     have H':=Aside0.mk H
     clear H
     have hnb28:=NB109_110.out
     have hnc28:=NB110_109.out
     have hcz29_0:wc.cell? ⟨gb109,0,none⟩=some (.int .i64 a0_0):=(blk_cell BK109.out 0).trans rfl
     have hcz29_1:wc.cell? ⟨gb109,1,none⟩=some (.int .u64 a0_1):=(blk_cell BK109.out 1).trans rfl
     have hcz29_2:wc.cell? ⟨gb109,2,none⟩=some (.int .i64 a0_2):=(blk_cell BK109.out 2).trans rfl
     have hcz29_3:wc.cell? ⟨gb109,3,none⟩=some (.int .u64 a0_3):=(blk_cell BK109.out 3).trans rfl
     have hcz29_4:wc.cell? ⟨gb109,4,none⟩=some (.bool a0_4):=(blk_cell BK109.out 4).trans rfl
     have hcz29_5:wc.cell? ⟨gb109,5,none⟩=some (.int .u64 a0_5):=(blk_cell BK109.out 5).trans rfl
     have hcz29_6:wc.cell? ⟨gb109,6,none⟩=some (.bool a0_6):=(blk_cell BK109.out 6).trans rfl
     have hcz29_7:wc.cell? ⟨gb109,7,none⟩=some (.int .u64 a0_7):=(blk_cell BK109.out 7).trans rfl
     have hcz29_8:wc.cell? ⟨gb109,8,none⟩=some (.bool a0_8):=(blk_cell BK109.out 8).trans rfl
     have hcz29_9:wc.cell? ⟨gb109,9,none⟩=some (.int .u64 a0_9):=(blk_cell BK109.out 9).trans rfl
     have hcz29_10:wc.cell? ⟨gb109,10,none⟩=some (.bool a0_10):=(blk_cell BK109.out 10).trans rfl
     have hcz29_11:wc.cell? ⟨gb109,11,none⟩=some (.int .u64 a0_11):=(blk_cell BK109.out 11).trans rfl
     have hcz29_12:wc.cell? ⟨gb109,12,none⟩=some (.bool a0_12):=(blk_cell BK109.out 12).trans rfl
     have hfz29_0:=blk_frozen BK109.out 0
     have hfz29_1:=blk_frozen BK109.out 1
     have hfz29_2:=blk_frozen BK109.out 2
     have hfz29_3:=blk_frozen BK109.out 3
     have hfz29_4:=blk_frozen BK109.out 4
     have hfz29_5:=blk_frozen BK109.out 5
     have hfz29_6:=blk_frozen BK109.out 6
     have hfz29_7:=blk_frozen BK109.out 7
     have hfz29_8:=blk_frozen BK109.out 8
     have hfz29_9:=blk_frozen BK109.out 9
     have hfz29_10:=blk_frozen BK109.out 10
     have hfz29_11:=blk_frozen BK109.out 11
     have hfz29_12:=blk_frozen BK109.out 12
     have hcz30_0:wc.cell? ⟨gb110,0,none⟩=some (.int .i64 a0_0):=(blk_cell BK110.out 0).trans rfl
     have hcz30_1:wc.cell? ⟨gb110,1,none⟩=some (.int .u64 x111001_1):=(blk_cell BK110.out 1).trans rfl
     have hcz30_2:wc.cell? ⟨gb110,2,none⟩=some (.int .i64 x111002_1):=(blk_cell BK110.out 2).trans rfl
     have hcz30_3:wc.cell? ⟨gb110,3,none⟩=some (.int .u64 x111003_1):=(blk_cell BK110.out 3).trans rfl
     have hcz30_4:wc.cell? ⟨gb110,4,none⟩=some (.bool x111004_1):=(blk_cell BK110.out 4).trans rfl
     have hcz30_5:wc.cell? ⟨gb110,5,none⟩=some (.int .u64 x111005_1):=(blk_cell BK110.out 5).trans rfl
     have hcz30_6:wc.cell? ⟨gb110,6,none⟩=some (.bool x111006_1):=(blk_cell BK110.out 6).trans rfl
     have hcz30_7:wc.cell? ⟨gb110,7,none⟩=some (.int .u64 x111007_1):=(blk_cell BK110.out 7).trans rfl
     have hcz30_8:wc.cell? ⟨gb110,8,none⟩=some (.bool x111008_1):=(blk_cell BK110.out 8).trans rfl
     have hcz30_9:wc.cell? ⟨gb110,9,none⟩=some (.int .u64 x111009_1):=(blk_cell BK110.out 9).trans rfl
     have hcz30_10:wc.cell? ⟨gb110,10,none⟩=some (.bool x111010_1):=(blk_cell BK110.out 10).trans rfl
     have hcz30_11:wc.cell? ⟨gb110,11,none⟩=some (.int .u64 x111011_1):=(blk_cell BK110.out 11).trans rfl
     have hcz30_12:wc.cell? ⟨gb110,12,none⟩=some (.bool x111012_1):=(blk_cell BK110.out 12).trans rfl
     have hfz30_0:=blk_frozen BK110.out 0
     have hfz30_1:=blk_frozen BK110.out 1
     have hfz30_2:=blk_frozen BK110.out 2
     have hfz30_3:=blk_frozen BK110.out 3
     have hfz30_4:=blk_frozen BK110.out 4
     have hfz30_5:=blk_frozen BK110.out 5
     have hfz30_6:=blk_frozen BK110.out 6
     have hfz30_7:=blk_frozen BK110.out 7
     have hfz30_8:=blk_frozen BK110.out 8
     have hfz30_9:=blk_frozen BK110.out 9
     have hfz30_10:=blk_frozen BK110.out 10
     have hfz30_11:=blk_frozen BK110.out 11
     have hfz30_12:=blk_frozen BK110.out 12
     go_wp2
     go_meet
     case rel=>exact ⟨_,((!(a0_0 == a0_0) || (!(a0_1 == x111001_1) || (!(a0_2 == x111002_1) || (((!(a0_3 == x111003_1) || (!(a0_4 == x111004_1))) || ((!(a0_5 == x111005_1) || (!(a0_6 == x111006_1))) || ((!(a0_7 == x111007_1) || (!(a0_8 == x111008_1))) || ((!(a0_9 == x111009_1) || (!(a0_10 == x111010_1))) || ((!(a0_11 == x111011_1) || (!(a0_12 == x111012_1))))))))))))),(by first | rfl | (simp; done) | (simp [*]; done)),H',⟨by have:=HJ1.out; first | omega | exact Nat.le_refl _⟩,⟨by (with_reducible repeat (first | refine blk_drewN ?_ _ | refine blk_drew ?_ | refine blk_alloc ?_ _)); exact BK109.out⟩,⟨by (with_reducible repeat (first | refine blk_drewN ?_ _ | refine blk_drew ?_ | refine blk_alloc ?_ _)); exact BK110.out⟩,⟨by repeat (first | (with_reducible first | exact HB.out | apply below_alloc | apply pw_below_drewN | apply below_drew1 | refine below_set ?_ GE109.out | refine below_set ?_ GE110.out) | exact HB.out)⟩⟩
   case rest=>
    clear HC24
    try clear c1
    try clear c2
    try clear p2
    try clear c6
    try clear c9
    try clear c9b0
    try clear c9b1
    try clear c10
    try clear c10b0
    try clear c10b1
    try clear c11
    try clear c11b0
    try clear c11b1
    try clear c12
    try clear c14
    try clear c20
    try clear c20b0
    try clear c20b1
    try clear c21
    try clear c25
    try clear c25b0
    try clear c26
    try clear c28
    try clear hcz13_0
    try clear hcz13_1
    try clear hcz13_10
    try clear hcz13_11
    try clear hcz13_12
    try clear hcz13_2
    try clear hcz13_3
    try clear hcz13_4
    try clear hcz13_5
    try clear hcz13_6
    try clear hcz13_7
    try clear hcz13_8
    try clear hcz13_9
    try clear hcz15_0
    try clear hcz15_1
    try clear hcz15_10
    try clear hcz15_11
    try clear hcz15_12
    try clear hcz15_2
    try clear hcz15_3
    try clear hcz15_4
    try clear hcz15_5
    try clear hcz15_6
    try clear hcz15_7
    try clear hcz15_8
    try clear hcz15_9
    try clear hcz22_0
    try clear hcz22_1
    try clear hcz22_10
    try clear hcz22_11
    try clear hcz22_12
    try clear hcz22_2
    try clear hcz22_3
    try clear hcz22_4
    try clear hcz22_5
    try clear hcz22_6
    try clear hcz22_7
    try clear hcz22_8
    try clear hcz22_9
    try clear hcz23_0
    try clear hcz23_1
    try clear hcz23_10
    try clear hcz23_11
    try clear hcz23_12
    try clear hcz23_2
    try clear hcz23_3
    try clear hcz23_4
    try clear hcz23_5
    try clear hcz23_6
    try clear hcz23_7
    try clear hcz23_8
    try clear hcz23_9
    try clear hcz27_0
    try clear hcz27_1
    try clear hcz27_10
    try clear hcz27_11
    try clear hcz27_12
    try clear hcz27_2
    try clear hcz27_3
    try clear hcz27_4
    try clear hcz27_5
    try clear hcz27_6
    try clear hcz27_7
    try clear hcz27_8
    try clear hcz27_9
    try clear hcz29_0
    try clear hcz29_1
    try clear hcz29_10
    try clear hcz29_11
    try clear hcz29_12
    try clear hcz29_2
    try clear hcz29_3
    try clear hcz29_4
    try clear hcz29_5
    try clear hcz29_6
    try clear hcz29_7
    try clear hcz29_8
    try clear hcz29_9
    try clear hcz30_0
    try clear hcz30_1
    try clear hcz30_10
    try clear hcz30_11
    try clear hcz30_12
    try clear hcz30_2
    try clear hcz30_3
    try clear hcz30_4
    try clear hcz30_5
    try clear hcz30_6
    try clear hcz30_7
    try clear hcz30_8
    try clear hcz30_9
    try clear hcz4_0
    try clear hcz4_1
    try clear hcz4_10
    try clear hcz4_11
    try clear hcz4_12
    try clear hcz4_2
    try clear hcz4_3
    try clear hcz4_4
    try clear hcz4_5
    try clear hcz4_6
    try clear hcz4_7
    try clear hcz4_8
    try clear hcz4_9
    try clear hcz7_0
    try clear hcz7_1
    try clear hcz7_10
    try clear hcz7_11
    try clear hcz7_12
    try clear hcz7_2
    try clear hcz7_3
    try clear hcz7_4
    try clear hcz7_5
    try clear hcz7_6
    try clear hcz7_7
    try clear hcz7_8
    try clear hcz7_9
    try clear hcz8_0
    try clear hcz8_1
    try clear hcz8_10
    try clear hcz8_11
    try clear hcz8_12
    try clear hcz8_2
    try clear hcz8_3
    try clear hcz8_4
    try clear hcz8_5
    try clear hcz8_6
    try clear hcz8_7
    try clear hcz8_8
    try clear hcz8_9
    try clear hfz13_0
    try clear hfz13_1
    try clear hfz13_10
    try clear hfz13_11
    try clear hfz13_12
    try clear hfz13_2
    try clear hfz13_3
    try clear hfz13_4
    try clear hfz13_5
    try clear hfz13_6
    try clear hfz13_7
    try clear hfz13_8
    try clear hfz13_9
    try clear hfz15_0
    try clear hfz15_1
    try clear hfz15_10
    try clear hfz15_11
    try clear hfz15_12
    try clear hfz15_2
    try clear hfz15_3
    try clear hfz15_4
    try clear hfz15_5
    try clear hfz15_6
    try clear hfz15_7
    try clear hfz15_8
    try clear hfz15_9
    try clear hfz22_0
    try clear hfz22_1
    try clear hfz22_10
    try clear hfz22_11
    try clear hfz22_12
    try clear hfz22_2
    try clear hfz22_3
    try clear hfz22_4
    try clear hfz22_5
    try clear hfz22_6
    try clear hfz22_7
    try clear hfz22_8
    try clear hfz22_9
    try clear hfz23_0
    try clear hfz23_1
    try clear hfz23_10
    try clear hfz23_11
    try clear hfz23_12
    try clear hfz23_2
    try clear hfz23_3
    try clear hfz23_4
    try clear hfz23_5
    try clear hfz23_6
    try clear hfz23_7
    try clear hfz23_8
    try clear hfz23_9
    try clear hfz27_0
    try clear hfz27_1
    try clear hfz27_10
    try clear hfz27_11
    try clear hfz27_12
    try clear hfz27_2
    try clear hfz27_3
    try clear hfz27_4
    try clear hfz27_5
    try clear hfz27_6
    try clear hfz27_7
    try clear hfz27_8
    try clear hfz27_9
    try clear hfz29_0
    try clear hfz29_1
    try clear hfz29_10
    try clear hfz29_11
    try clear hfz29_12
    try clear hfz29_2
    try clear hfz29_3
    try clear hfz29_4
    try clear hfz29_5
    try clear hfz29_6
    try clear hfz29_7
    try clear hfz29_8
    try clear hfz29_9
    try clear hfz30_0
    try clear hfz30_1
    try clear hfz30_10
    try clear hfz30_11
    try clear hfz30_12
    try clear hfz30_2
    try clear hfz30_3
    try clear hfz30_4
    try clear hfz30_5
    try clear hfz30_6
    try clear hfz30_7
    try clear hfz30_8
    try clear hfz30_9
    try clear hfz4_0
    try clear hfz4_1
    try clear hfz4_10
    try clear hfz4_11
    try clear hfz4_12
    try clear hfz4_2
    try clear hfz4_3
    try clear hfz4_4
    try clear hfz4_5
    try clear hfz4_6
    try clear hfz4_7
    try clear hfz4_8
    try clear hfz4_9
    try clear hfz7_0
    try clear hfz7_1
    try clear hfz7_10
    try clear hfz7_11
    try clear hfz7_12
    try clear hfz7_2
    try clear hfz7_3
    try clear hfz7_4
    try clear hfz7_5
    try clear hfz7_6
    try clear hfz7_7
    try clear hfz7_8
    try clear hfz7_9
    try clear hfz8_0
    try clear hfz8_1
    try clear hfz8_10
    try clear hfz8_11
    try clear hfz8_12
    try clear hfz8_2
    try clear hfz8_3
    try clear hfz8_4
    try clear hfz8_5
    try clear hfz8_6
    try clear hfz8_7
    try clear hfz8_8
    try clear hfz8_9
    try clear p2
    obtain ⟨kq,x36_23,rfl,HA,HJ23,BK109,BK110,HB⟩ :=hcut
    cases kq with
    | zero=>exact absurd HA.out (by simp [rearm_Check.j1])
    | succ kj23=>
     have H:=HA.out
     clear HA
     simp only [rearm_Check.j1] at H
     by_cases c31:x36_23=true
     ·subst c31
      have H1:(some 1)=some r:=by rw [if_pos rfl] at H; exact H
      clear H
      have H:=H1
      clear H1
      obtain rfl:=Option.some.inj H
      go_wp2
      go_ret
      exact ⟨by first | rfl | (simp [errW_none,errW_some] <;> rfl) | (simp [*,errW_none,errW_some] <;> rfl),by repeat (first | (with_reducible first | exact HB.out | apply below_alloc | apply pw_below_drewN | apply below_drew1 | refine below_set ?_ GE109.out | refine below_set ?_ GE110.out) | exact HB.out)⟩
     ·replace c31:=Bool.eq_false_iff.mpr c31
      subst c31
      have H1:((spec_Check.f a0_3 a0_4 a0_5 a0_6 a0_7 a0_8 a0_9 a0_10 a0_11 a0_12).bind fun bt111=>(if a0_0=2 then (if bt111.2=0 then (some 0) else (some 2)) else (some 0)))=some r:=by rw [if_neg (show ¬ (false=true) by decide)] at H; exact H
      clear H
      have H:=H1
      clear H1
      replace H:=Option.bind_eq_some_iff.mp H
      obtain ⟨⟨t111,t112⟩,A320,H⟩ :=H
      replace H:(if a0_0=2 then (if t112=0 then (some 0) else (some 2)) else (some 0))=some r:=H
      have A32:=Aside0.mk A320
      clear A320
      by_cases c33:a0_0=2
      ·rw [if_pos c33] at H
       have c33b0:(a0_0 == 2)=true:=beq_iff_eq.mpr c33
       have c33b1:(a0_0 != 2)=false:=bne_eq_false_iff_eq.mpr c33
       clear c33
       by_cases c34:t112=0
       ·rw [if_pos c34] at H
        have c34b0:(t112 == 0)=true:=beq_iff_eq.mpr c34
        have c34b1:(t112 != 0)=false:=bne_eq_false_iff_eq.mpr c34
        clear c34
        obtain rfl:=Option.some.inj H
        have hnb35:=NB109_110.out
        have hnc35:=NB110_109.out
        have hcz36_0:wc.cell? ⟨gb109,0,none⟩=some (.int .i64 a0_0):=(blk_cell BK109.out 0).trans rfl
        have hcz36_1:wc.cell? ⟨gb109,1,none⟩=some (.int .u64 a0_1):=(blk_cell BK109.out 1).trans rfl
        have hcz36_2:wc.cell? ⟨gb109,2,none⟩=some (.int .i64 a0_2):=(blk_cell BK109.out 2).trans rfl
        have hcz36_3:wc.cell? ⟨gb109,3,none⟩=some (.int .u64 a0_3):=(blk_cell BK109.out 3).trans rfl
        have hcz36_4:wc.cell? ⟨gb109,4,none⟩=some (.bool a0_4):=(blk_cell BK109.out 4).trans rfl
        have hcz36_5:wc.cell? ⟨gb109,5,none⟩=some (.int .u64 a0_5):=(blk_cell BK109.out 5).trans rfl
        have hcz36_6:wc.cell? ⟨gb109,6,none⟩=some (.bool a0_6):=(blk_cell BK109.out 6).trans rfl
        have hcz36_7:wc.cell? ⟨gb109,7,none⟩=some (.int .u64 a0_7):=(blk_cell BK109.out 7).trans rfl
        have hcz36_8:wc.cell? ⟨gb109,8,none⟩=some (.bool a0_8):=(blk_cell BK109.out 8).trans rfl
        have hcz36_9:wc.cell? ⟨gb109,9,none⟩=some (.int .u64 a0_9):=(blk_cell BK109.out 9).trans rfl
        have hcz36_10:wc.cell? ⟨gb109,10,none⟩=some (.bool a0_10):=(blk_cell BK109.out 10).trans rfl
        have hcz36_11:wc.cell? ⟨gb109,11,none⟩=some (.int .u64 a0_11):=(blk_cell BK109.out 11).trans rfl
        have hcz36_12:wc.cell? ⟨gb109,12,none⟩=some (.bool a0_12):=(blk_cell BK109.out 12).trans rfl
        have hfz36_0:=blk_frozen BK109.out 0
        have hfz36_1:=blk_frozen BK109.out 1
        have hfz36_2:=blk_frozen BK109.out 2
        have hfz36_3:=blk_frozen BK109.out 3
        have hfz36_4:=blk_frozen BK109.out 4
        have hfz36_5:=blk_frozen BK109.out 5
        have hfz36_6:=blk_frozen BK109.out 6
        have hfz36_7:=blk_frozen BK109.out 7
        have hfz36_8:=blk_frozen BK109.out 8
        have hfz36_9:=blk_frozen BK109.out 9
        have hfz36_10:=blk_frozen BK109.out 10
        have hfz36_11:=blk_frozen BK109.out 11
        have hfz36_12:=blk_frozen BK109.out 12
        go_wp2_with (first | ((with_reducible refine gate_callee (f:=25) rfl ?_); refine goesL_ (some 40) rfl rfl Tryd.func25 (by kernel_rfl) rfl #[.agg #[.int .u64 a0_3,.bool a0_4,.int .u64 a0_5,.bool a0_6,.int .u64 a0_7,.bool a0_8,.int .u64 a0_9,.bool a0_10,.int .u64 a0_11,.bool a0_12]] rfl (by (try simp only [List.map_toArray,List.map_cons,List.map_nil]); first | done | rfl | (simp only [List.length_drop,List.length_take]; rfl)) ?_; (with_reducible refine (spec_Check.calls a0_3 a0_4 a0_5 a0_6 a0_7 a0_8 a0_9 a0_10 a0_11 a0_12 t111 t112 _ A32.out).mono ?_); rintro e w37 ⟨rfl,hb⟩; refine ⟨_,rfl,?_⟩; have n0_:=Aside0.mk (blk_below (g:=gb109) (o:=.cells #[.int .i64 a0_0,.int .u64 a0_1,.int .i64 a0_2,.int .u64 a0_3,.bool a0_4,.int .u64 a0_5,.bool a0_6,.int .u64 a0_7,.bool a0_8,.int .u64 a0_9,.bool a0_10,.int .u64 a0_11,.bool a0_12] 28 (0,0)) (by (with_reducible repeat (first | refine blk_drewN ?_ _ | refine blk_drew ?_ | refine blk_alloc ?_ _)); exact BK109.out) hb); have n1_:=Aside0.mk (blk_below (g:=gb110) (o:=.cells #[.int .i64 a0_0,.int .u64 x111001_1,.int .i64 x111002_1,.int .u64 x111003_1,.bool x111004_1,.int .u64 x111005_1,.bool x111006_1,.int .u64 x111007_1,.bool x111008_1,.int .u64 x111009_1,.bool x111010_1,.int .u64 x111011_1,.bool x111012_1] 28 (0,0)) (by (with_reducible repeat (first | refine blk_drewN ?_ _ | refine blk_drew ?_ | refine blk_alloc ?_ _)); exact BK110.out) hb); have n2_:=Aside0.mk (below_step (by repeat (first | (with_reducible first | exact HB.out | apply below_alloc | apply pw_below_drewN | apply below_drew1 | refine below_set ?_ GE109.out | refine below_set ?_ GE110.out) | exact HB.out)) hb); clear BK109; clear BK110; clear HB; have BK109:=n0_; have BK110:=n1_; have HB:=n2_; clear n0_ n1_ n2_; (try clear hb); (try clear hb2); (try clear hk); (try clear hi); have hcz38_0:w37.cell? ⟨gb109,0,none⟩=some (.int .i64 a0_0):=(blk_cell BK109.out 0).trans rfl; have hcz38_1:w37.cell? ⟨gb109,1,none⟩=some (.int .u64 a0_1):=(blk_cell BK109.out 1).trans rfl; have hcz38_2:w37.cell? ⟨gb109,2,none⟩=some (.int .i64 a0_2):=(blk_cell BK109.out 2).trans rfl; have hcz38_3:w37.cell? ⟨gb109,3,none⟩=some (.int .u64 a0_3):=(blk_cell BK109.out 3).trans rfl; have hcz38_4:w37.cell? ⟨gb109,4,none⟩=some (.bool a0_4):=(blk_cell BK109.out 4).trans rfl; have hcz38_5:w37.cell? ⟨gb109,5,none⟩=some (.int .u64 a0_5):=(blk_cell BK109.out 5).trans rfl; have hcz38_6:w37.cell? ⟨gb109,6,none⟩=some (.bool a0_6):=(blk_cell BK109.out 6).trans rfl; have hcz38_7:w37.cell? ⟨gb109,7,none⟩=some (.int .u64 a0_7):=(blk_cell BK109.out 7).trans rfl; have hcz38_8:w37.cell? ⟨gb109,8,none⟩=some (.bool a0_8):=(blk_cell BK109.out 8).trans rfl; have hcz38_9:w37.cell? ⟨gb109,9,none⟩=some (.int .u64 a0_9):=(blk_cell BK109.out 9).trans rfl; have hcz38_10:w37.cell? ⟨gb109,10,none⟩=some (.bool a0_10):=(blk_cell BK109.out 10).trans rfl; have hcz38_11:w37.cell? ⟨gb109,11,none⟩=some (.int .u64 a0_11):=(blk_cell BK109.out 11).trans rfl; have hcz38_12:w37.cell? ⟨gb109,12,none⟩=some (.bool a0_12):=(blk_cell BK109.out 12).trans rfl; have hfz38_0:=blk_frozen BK109.out 0; have hfz38_1:=blk_frozen BK109.out 1; have hfz38_2:=blk_frozen BK109.out 2; have hfz38_3:=blk_frozen BK109.out 3; have hfz38_4:=blk_frozen BK109.out 4; have hfz38_5:=blk_frozen BK109.out 5; have hfz38_6:=blk_frozen BK109.out 6; have hfz38_7:=blk_frozen BK109.out 7; have hfz38_8:=blk_frozen BK109.out 8; have hfz38_9:=blk_frozen BK109.out 9; have hfz38_10:=blk_frozen BK109.out 10; have hfz38_11:=blk_frozen BK109.out 11; have hfz38_12:=blk_frozen BK109.out 12))
        go_ret
        exact ⟨by first | rfl | (simp [errW_none,errW_some] <;> rfl) | (simp [*,errW_none,errW_some] <;> rfl),by repeat (first | (with_reducible first | exact HB.out | apply below_alloc | apply pw_below_drewN | apply below_drew1 | refine below_set ?_ GE109.out | refine below_set ?_ GE110.out) | exact HB.out)⟩
       ·rw [if_neg c34] at H
        have c34b0:(t112 == 0)=false:=beq_eq_false_iff_ne.mpr c34
        have c34b1:(t112 != 0)=true:=bne_iff_ne.mpr c34
        obtain rfl:=Option.some.inj H
        have hnb39:=NB109_110.out
        have hnc39:=NB110_109.out
        have hcz40_0:wc.cell? ⟨gb109,0,none⟩=some (.int .i64 a0_0):=(blk_cell BK109.out 0).trans rfl
        have hcz40_1:wc.cell? ⟨gb109,1,none⟩=some (.int .u64 a0_1):=(blk_cell BK109.out 1).trans rfl
        have hcz40_2:wc.cell? ⟨gb109,2,none⟩=some (.int .i64 a0_2):=(blk_cell BK109.out 2).trans rfl
        have hcz40_3:wc.cell? ⟨gb109,3,none⟩=some (.int .u64 a0_3):=(blk_cell BK109.out 3).trans rfl
        have hcz40_4:wc.cell? ⟨gb109,4,none⟩=some (.bool a0_4):=(blk_cell BK109.out 4).trans rfl
        have hcz40_5:wc.cell? ⟨gb109,5,none⟩=some (.int .u64 a0_5):=(blk_cell BK109.out 5).trans rfl
        have hcz40_6:wc.cell? ⟨gb109,6,none⟩=some (.bool a0_6):=(blk_cell BK109.out 6).trans rfl
        have hcz40_7:wc.cell? ⟨gb109,7,none⟩=some (.int .u64 a0_7):=(blk_cell BK109.out 7).trans rfl
        have hcz40_8:wc.cell? ⟨gb109,8,none⟩=some (.bool a0_8):=(blk_cell BK109.out 8).trans rfl
        have hcz40_9:wc.cell? ⟨gb109,9,none⟩=some (.int .u64 a0_9):=(blk_cell BK109.out 9).trans rfl
        have hcz40_10:wc.cell? ⟨gb109,10,none⟩=some (.bool a0_10):=(blk_cell BK109.out 10).trans rfl
        have hcz40_11:wc.cell? ⟨gb109,11,none⟩=some (.int .u64 a0_11):=(blk_cell BK109.out 11).trans rfl
        have hcz40_12:wc.cell? ⟨gb109,12,none⟩=some (.bool a0_12):=(blk_cell BK109.out 12).trans rfl
        have hfz40_0:=blk_frozen BK109.out 0
        have hfz40_1:=blk_frozen BK109.out 1
        have hfz40_2:=blk_frozen BK109.out 2
        have hfz40_3:=blk_frozen BK109.out 3
        have hfz40_4:=blk_frozen BK109.out 4
        have hfz40_5:=blk_frozen BK109.out 5
        have hfz40_6:=blk_frozen BK109.out 6
        have hfz40_7:=blk_frozen BK109.out 7
        have hfz40_8:=blk_frozen BK109.out 8
        have hfz40_9:=blk_frozen BK109.out 9
        have hfz40_10:=blk_frozen BK109.out 10
        have hfz40_11:=blk_frozen BK109.out 11
        have hfz40_12:=blk_frozen BK109.out 12
        go_wp2_with (first | ((with_reducible refine gate_callee (f:=25) rfl ?_); refine goesL_ (some 40) rfl rfl Tryd.func25 (by kernel_rfl) rfl #[.agg #[.int .u64 a0_3,.bool a0_4,.int .u64 a0_5,.bool a0_6,.int .u64 a0_7,.bool a0_8,.int .u64 a0_9,.bool a0_10,.int .u64 a0_11,.bool a0_12]] rfl (by (try simp only [List.map_toArray,List.map_cons,List.map_nil]); first | done | rfl | (simp only [List.length_drop,List.length_take]; rfl)) ?_; (with_reducible refine (spec_Check.calls a0_3 a0_4 a0_5 a0_6 a0_7 a0_8 a0_9 a0_10 a0_11 a0_12 t111 t112 _ A32.out).mono ?_); rintro e w41 ⟨rfl,hb⟩; refine ⟨_,rfl,?_⟩; have n0_:=Aside0.mk (blk_below (g:=gb109) (o:=.cells #[.int .i64 a0_0,.int .u64 a0_1,.int .i64 a0_2,.int .u64 a0_3,.bool a0_4,.int .u64 a0_5,.bool a0_6,.int .u64 a0_7,.bool a0_8,.int .u64 a0_9,.bool a0_10,.int .u64 a0_11,.bool a0_12] 28 (0,0)) (by (with_reducible repeat (first | refine blk_drewN ?_ _ | refine blk_drew ?_ | refine blk_alloc ?_ _)); exact BK109.out) hb); have n1_:=Aside0.mk (blk_below (g:=gb110) (o:=.cells #[.int .i64 a0_0,.int .u64 x111001_1,.int .i64 x111002_1,.int .u64 x111003_1,.bool x111004_1,.int .u64 x111005_1,.bool x111006_1,.int .u64 x111007_1,.bool x111008_1,.int .u64 x111009_1,.bool x111010_1,.int .u64 x111011_1,.bool x111012_1] 28 (0,0)) (by (with_reducible repeat (first | refine blk_drewN ?_ _ | refine blk_drew ?_ | refine blk_alloc ?_ _)); exact BK110.out) hb); have n2_:=Aside0.mk (below_step (by repeat (first | (with_reducible first | exact HB.out | apply below_alloc | apply pw_below_drewN | apply below_drew1 | refine below_set ?_ GE109.out | refine below_set ?_ GE110.out) | exact HB.out)) hb); clear BK109; clear BK110; clear HB; have BK109:=n0_; have BK110:=n1_; have HB:=n2_; clear n0_ n1_ n2_; (try clear hb); (try clear hb2); (try clear hk); (try clear hi); have hcz42_0:w41.cell? ⟨gb109,0,none⟩=some (.int .i64 a0_0):=(blk_cell BK109.out 0).trans rfl; have hcz42_1:w41.cell? ⟨gb109,1,none⟩=some (.int .u64 a0_1):=(blk_cell BK109.out 1).trans rfl; have hcz42_2:w41.cell? ⟨gb109,2,none⟩=some (.int .i64 a0_2):=(blk_cell BK109.out 2).trans rfl; have hcz42_3:w41.cell? ⟨gb109,3,none⟩=some (.int .u64 a0_3):=(blk_cell BK109.out 3).trans rfl; have hcz42_4:w41.cell? ⟨gb109,4,none⟩=some (.bool a0_4):=(blk_cell BK109.out 4).trans rfl; have hcz42_5:w41.cell? ⟨gb109,5,none⟩=some (.int .u64 a0_5):=(blk_cell BK109.out 5).trans rfl; have hcz42_6:w41.cell? ⟨gb109,6,none⟩=some (.bool a0_6):=(blk_cell BK109.out 6).trans rfl; have hcz42_7:w41.cell? ⟨gb109,7,none⟩=some (.int .u64 a0_7):=(blk_cell BK109.out 7).trans rfl; have hcz42_8:w41.cell? ⟨gb109,8,none⟩=some (.bool a0_8):=(blk_cell BK109.out 8).trans rfl; have hcz42_9:w41.cell? ⟨gb109,9,none⟩=some (.int .u64 a0_9):=(blk_cell BK109.out 9).trans rfl; have hcz42_10:w41.cell? ⟨gb109,10,none⟩=some (.bool a0_10):=(blk_cell BK109.out 10).trans rfl; have hcz42_11:w41.cell? ⟨gb109,11,none⟩=some (.int .u64 a0_11):=(blk_cell BK109.out 11).trans rfl; have hcz42_12:w41.cell? ⟨gb109,12,none⟩=some (.bool a0_12):=(blk_cell BK109.out 12).trans rfl; have hfz42_0:=blk_frozen BK109.out 0; have hfz42_1:=blk_frozen BK109.out 1; have hfz42_2:=blk_frozen BK109.out 2; have hfz42_3:=blk_frozen BK109.out 3; have hfz42_4:=blk_frozen BK109.out 4; have hfz42_5:=blk_frozen BK109.out 5; have hfz42_6:=blk_frozen BK109.out 6; have hfz42_7:=blk_frozen BK109.out 7; have hfz42_8:=blk_frozen BK109.out 8; have hfz42_9:=blk_frozen BK109.out 9; have hfz42_10:=blk_frozen BK109.out 10; have hfz42_11:=blk_frozen BK109.out 11; have hfz42_12:=blk_frozen BK109.out 12))
        go_ret
        exact ⟨by first | rfl | (simp [errW_none,errW_some] <;> rfl) | (simp [*,errW_none,errW_some] <;> rfl),by repeat (first | (with_reducible first | exact HB.out | apply below_alloc | apply pw_below_drewN | apply below_drew1 | refine below_set ?_ GE109.out | refine below_set ?_ GE110.out) | exact HB.out)⟩
      ·rw [if_neg c33] at H
       have c33b0:(a0_0 == 2)=false:=beq_eq_false_iff_ne.mpr c33
       have c33b1:(a0_0 != 2)=true:=bne_iff_ne.mpr c33
       obtain rfl:=Option.some.inj H
       have hnb43:=NB109_110.out
       have hnc43:=NB110_109.out
       have hcz44_0:wc.cell? ⟨gb109,0,none⟩=some (.int .i64 a0_0):=(blk_cell BK109.out 0).trans rfl
       have hcz44_1:wc.cell? ⟨gb109,1,none⟩=some (.int .u64 a0_1):=(blk_cell BK109.out 1).trans rfl
       have hcz44_2:wc.cell? ⟨gb109,2,none⟩=some (.int .i64 a0_2):=(blk_cell BK109.out 2).trans rfl
       have hcz44_3:wc.cell? ⟨gb109,3,none⟩=some (.int .u64 a0_3):=(blk_cell BK109.out 3).trans rfl
       have hcz44_4:wc.cell? ⟨gb109,4,none⟩=some (.bool a0_4):=(blk_cell BK109.out 4).trans rfl
       have hcz44_5:wc.cell? ⟨gb109,5,none⟩=some (.int .u64 a0_5):=(blk_cell BK109.out 5).trans rfl
       have hcz44_6:wc.cell? ⟨gb109,6,none⟩=some (.bool a0_6):=(blk_cell BK109.out 6).trans rfl
       have hcz44_7:wc.cell? ⟨gb109,7,none⟩=some (.int .u64 a0_7):=(blk_cell BK109.out 7).trans rfl
       have hcz44_8:wc.cell? ⟨gb109,8,none⟩=some (.bool a0_8):=(blk_cell BK109.out 8).trans rfl
       have hcz44_9:wc.cell? ⟨gb109,9,none⟩=some (.int .u64 a0_9):=(blk_cell BK109.out 9).trans rfl
       have hcz44_10:wc.cell? ⟨gb109,10,none⟩=some (.bool a0_10):=(blk_cell BK109.out 10).trans rfl
       have hcz44_11:wc.cell? ⟨gb109,11,none⟩=some (.int .u64 a0_11):=(blk_cell BK109.out 11).trans rfl
       have hcz44_12:wc.cell? ⟨gb109,12,none⟩=some (.bool a0_12):=(blk_cell BK109.out 12).trans rfl
       have hfz44_0:=blk_frozen BK109.out 0
       have hfz44_1:=blk_frozen BK109.out 1
       have hfz44_2:=blk_frozen BK109.out 2
       have hfz44_3:=blk_frozen BK109.out 3
       have hfz44_4:=blk_frozen BK109.out 4
       have hfz44_5:=blk_frozen BK109.out 5
       have hfz44_6:=blk_frozen BK109.out 6
       have hfz44_7:=blk_frozen BK109.out 7
       have hfz44_8:=blk_frozen BK109.out 8
       have hfz44_9:=blk_frozen BK109.out 9
       have hfz44_10:=blk_frozen BK109.out 10
       have hfz44_11:=blk_frozen BK109.out 11
       have hfz44_12:=blk_frozen BK109.out 12
       go_wp2_with (first | ((with_reducible refine gate_callee (f:=25) rfl ?_); refine goesL_ (some 40) rfl rfl Tryd.func25 (by kernel_rfl) rfl #[.agg #[.int .u64 a0_3,.bool a0_4,.int .u64 a0_5,.bool a0_6,.int .u64 a0_7,.bool a0_8,.int .u64 a0_9,.bool a0_10,.int .u64 a0_11,.bool a0_12]] rfl (by (try simp only [List.map_toArray,List.map_cons,List.map_nil]); first | done | rfl | (simp only [List.length_drop,List.length_take]; rfl)) ?_; (with_reducible refine (spec_Check.calls a0_3 a0_4 a0_5 a0_6 a0_7 a0_8 a0_9 a0_10 a0_11 a0_12 t111 t112 _ A32.out).mono ?_); rintro e w45 ⟨rfl,hb⟩; refine ⟨_,rfl,?_⟩; have n0_:=Aside0.mk (blk_below (g:=gb109) (o:=.cells #[.int .i64 a0_0,.int .u64 a0_1,.int .i64 a0_2,.int .u64 a0_3,.bool a0_4,.int .u64 a0_5,.bool a0_6,.int .u64 a0_7,.bool a0_8,.int .u64 a0_9,.bool a0_10,.int .u64 a0_11,.bool a0_12] 28 (0,0)) (by (with_reducible repeat (first | refine blk_drewN ?_ _ | refine blk_drew ?_ | refine blk_alloc ?_ _)); exact BK109.out) hb); have n1_:=Aside0.mk (blk_below (g:=gb110) (o:=.cells #[.int .i64 a0_0,.int .u64 x111001_1,.int .i64 x111002_1,.int .u64 x111003_1,.bool x111004_1,.int .u64 x111005_1,.bool x111006_1,.int .u64 x111007_1,.bool x111008_1,.int .u64 x111009_1,.bool x111010_1,.int .u64 x111011_1,.bool x111012_1] 28 (0,0)) (by (with_reducible repeat (first | refine blk_drewN ?_ _ | refine blk_drew ?_ | refine blk_alloc ?_ _)); exact BK110.out) hb); have n2_:=Aside0.mk (below_step (by repeat (first | (with_reducible first | exact HB.out | apply below_alloc | apply pw_below_drewN | apply below_drew1 | refine below_set ?_ GE109.out | refine below_set ?_ GE110.out) | exact HB.out)) hb); clear BK109; clear BK110; clear HB; have BK109:=n0_; have BK110:=n1_; have HB:=n2_; clear n0_ n1_ n2_; (try clear hb); (try clear hb2); (try clear hk); (try clear hi); have hcz46_0:w45.cell? ⟨gb109,0,none⟩=some (.int .i64 a0_0):=(blk_cell BK109.out 0).trans rfl; have hcz46_1:w45.cell? ⟨gb109,1,none⟩=some (.int .u64 a0_1):=(blk_cell BK109.out 1).trans rfl; have hcz46_2:w45.cell? ⟨gb109,2,none⟩=some (.int .i64 a0_2):=(blk_cell BK109.out 2).trans rfl; have hcz46_3:w45.cell? ⟨gb109,3,none⟩=some (.int .u64 a0_3):=(blk_cell BK109.out 3).trans rfl; have hcz46_4:w45.cell? ⟨gb109,4,none⟩=some (.bool a0_4):=(blk_cell BK109.out 4).trans rfl; have hcz46_5:w45.cell? ⟨gb109,5,none⟩=some (.int .u64 a0_5):=(blk_cell BK109.out 5).trans rfl; have hcz46_6:w45.cell? ⟨gb109,6,none⟩=some (.bool a0_6):=(blk_cell BK109.out 6).trans rfl; have hcz46_7:w45.cell? ⟨gb109,7,none⟩=some (.int .u64 a0_7):=(blk_cell BK109.out 7).trans rfl; have hcz46_8:w45.cell? ⟨gb109,8,none⟩=some (.bool a0_8):=(blk_cell BK109.out 8).trans rfl; have hcz46_9:w45.cell? ⟨gb109,9,none⟩=some (.int .u64 a0_9):=(blk_cell BK109.out 9).trans rfl; have hcz46_10:w45.cell? ⟨gb109,10,none⟩=some (.bool a0_10):=(blk_cell BK109.out 10).trans rfl; have hcz46_11:w45.cell? ⟨gb109,11,none⟩=some (.int .u64 a0_11):=(blk_cell BK109.out 11).trans rfl; have hcz46_12:w45.cell? ⟨gb109,12,none⟩=some (.bool a0_12):=(blk_cell BK109.out 12).trans rfl; have hfz46_0:=blk_frozen BK109.out 0; have hfz46_1:=blk_frozen BK109.out 1; have hfz46_2:=blk_frozen BK109.out 2; have hfz46_3:=blk_frozen BK109.out 3; have hfz46_4:=blk_frozen BK109.out 4; have hfz46_5:=blk_frozen BK109.out 5; have hfz46_6:=blk_frozen BK109.out 6; have hfz46_7:=blk_frozen BK109.out 7; have hfz46_8:=blk_frozen BK109.out 8; have hfz46_9:=blk_frozen BK109.out 9; have hfz46_10:=blk_frozen BK109.out 10; have hfz46_11:=blk_frozen BK109.out 11; have hfz46_12:=blk_frozen BK109.out 12))
       go_ret
       exact ⟨by first | rfl | (simp [errW_none,errW_some] <;> rfl) | (simp [*,errW_none,errW_some] <;> rfl),by repeat (first | (with_reducible first | exact HB.out | apply below_alloc | apply pw_below_drewN | apply below_drew1 | refine below_set ?_ GE109.out | refine below_set ?_ GE110.out) | exact HB.out)⟩
end Go.Proofs.YtepflnfnkfkldaaDoor.PRea
