-- Written by a program of this session (gprint.py) over the kit's print.
import Derived.Test.YtepflnfnkfkldaaDoorPReax0
import Derived.Test.YtepflnfnkfkldaaDoorPReax13
import Derived.Test.YtepflnfnkfkldaaDoorPReax15
import Derived.Test.YtepflnfnkfkldaaDoorPReax17
namespace Go.Proofs.YtepflnfnkfkldaaDoor.PRea
open Go.RowKit Go.Proofs.YtepflnfnkfkldaaDoorW.PrintWords Go.Proofs.YtepflnfnkfkldaaDoorW.PrintLast Go.Proofs.YtepflnfnkfkldaaDoorW.PrintMore
attribute [local go_sem] max2_int min2_int max_two min_two max_three min_three max_four min_four
set_option linter.unusedVariables false
set_option linter.unusedSimpArgs false
def complineref23_Again.j0:Nat→Int→Int→Bool→Int→Int→Int→Int→Bool→Int→Bool→Int→Bool→Int→Bool→Int→Bool→Option (Int × Int × Int × Int × Int × Bool × Int × Bool × Int × Bool × Int × Bool × Int × Bool × Int × Int)
 | 0,_,_,_,_,_,_,_,_,_,_,_,_,_,_,_,_=>none
 | k+1,x1,x2,x37,x225000,x225001,x225002,x225003,x225004,x225005,x225006,x225007,x225008,x225009,x225010,x225011,x225012=>if x37=true then (some (0,0,0,0,0,false,0,false,0,false,0,false,0,false,0,5)) else (if x225000=2 then ((complineref23_First.f k x225000 x225001 x225002 x225003 x225004 x225005 x225006 x225007 x225008 x225009 x225010 x225011 x225012 x2 0).bind fun bt227=>(if bt227.2=0 then (some (bt227.1,x225000,x225001,x225002,x225003,x225004,x225005,x225006,x225007,x225008,x225009,x225010,x225011,x225012,0,0)) else (some (0,0,0,0,0,false,0,false,0,false,0,false,0,false,0,bt227.2)))) else ((complineref01_After.f x1 x225001 x2).bind fun bt229=>(if x225002 > 0 then (some (bt229.1,x225000,x225001,wrap64 (x225002 - 1),x225003,x225004,x225005,x225006,x225007,x225008,x225009,x225010,x225011,x225012,bt229.2,0)) else (some (bt229.1,x225000,x225001,x225002,x225003,x225004,x225005,x225006,x225007,x225008,x225009,x225010,x225011,x225012,bt229.2,0)))))
def complineref23_Again.f (k:Nat)(a0_0:Int)(a0_1:Int)(a0_2:Int)(a0_3:Int)(a0_4:Bool)(a0_5:Int)(a0_6:Bool)(a0_7:Int)(a0_8:Bool)(a0_9:Int)(a0_10:Bool)(a0_11:Int)(a0_12:Bool)(a1:Int)(a2:Int):Option (Int × Int × Int × Int × Int × Bool × Int × Bool × Int × Bool × Int × Bool × Int × Bool × Int × Int):=(complineref23_Check.f k a0_0 a0_1 a0_2 a0_3 a0_4 a0_5 a0_6 a0_7 a0_8 a0_9 a0_10 a0_11 a0_12).bind fun t226=>(if t226=0 then (if a0_0=0 then (complineref23_Again.j0 k a1 a2 true a0_0 a0_1 a0_2 a0_3 a0_4 a0_5 a0_6 a0_7 a0_8 a0_9 a0_10 a0_11 a0_12) else (if a0_0=1 then (if a0_2=1 then (complineref23_Again.j0 k a1 a2 true a0_0 a0_1 a0_2 a0_3 a0_4 a0_5 a0_6 a0_7 a0_8 a0_9 a0_10 a0_11 a0_12) else (complineref23_Again.j0 k a1 a2 (a1 == 18446744073709551615) a0_0 a0_1 a0_2 a0_3 a0_4 a0_5 a0_6 a0_7 a0_8 a0_9 a0_10 a0_11 a0_12)) else (complineref23_Again.j0 k a1 a2 false a0_0 a0_1 a0_2 a0_3 a0_4 a0_5 a0_6 a0_7 a0_8 a0_9 a0_10 a0_11 a0_12))) else (some (0,0,0,0,0,false,0,false,0,false,0,false,0,false,0,t226)))
set_option maxHeartbeats 8000000 in
set_option maxRecDepth 100000 in
theorem complineref23_Again.calls (k:Nat)(a0_0:Int)(a0_1:Int)(a0_2:Int)(a0_3:Int)(a0_4:Bool)(a0_5:Int)(a0_6:Bool)(a0_7:Int)(a0_8:Bool)(a0_9:Int)(a0_10:Bool)(a0_11:Int)(a0_12:Bool)(a1:Int)(a2:Int)(r1:Int)(r2:Int)(r3:Int)(r4:Int)(r5:Int)(r6:Bool)(r7:Int)(r8:Bool)(r9:Int)(r10:Bool)(r11:Int)(r12:Bool)(r13:Int)(r14:Bool)(r15:Int)(r16:Int)(w:World)(h:complineref23_Again.f k a0_0 a0_1 a0_2 a0_3 a0_4 a0_5 a0_6 a0_7 a0_8 a0_9 a0_10 a0_11 a0_12 a1 a2=some (r1,r2,r3,r4,r5,r6,r7,r8,r9,r10,r11,r12,r13,r14,r15,r16)) :
  Calls Tryd.prog 17 #[.agg #[.int .i64 a0_0,.int .u64 a0_1,.int .i64 a0_2,.int .u64 a0_3,.bool a0_4,.int .u64 a0_5,.bool a0_6,.int .u64 a0_7,.bool a0_8,.int .u64 a0_9,.bool a0_10,.int .u64 a0_11,.bool a0_12],.int .u64 a1,.int .u64 a2] w fun e w'=>e=.returned (.tuple #[.int .u64 r1,.agg #[.int .i64 r2,.int .u64 r3,.int .i64 r4,.int .u64 r5,.bool r6,.int .u64 r7,.bool r8,.int .u64 r9,.bool r10,.int .u64 r11,.bool r12,.int .u64 r13,.bool r14],.int .u64 r15,.int .i64 r16])∧Below w.heap.size w w':=by
 have hu28:=Tryd.underlying28
 have HB:=Aside0.mk (Below.refl w.heap.size w)
 have H:((complineref23_Check.f k a0_0 a0_1 a0_2 a0_3 a0_4 a0_5 a0_6 a0_7 a0_8 a0_9 a0_10 a0_11 a0_12).bind fun t226=>(if t226=0 then (if a0_0=0 then (complineref23_Again.j0 k a1 a2 true a0_0 a0_1 a0_2 a0_3 a0_4 a0_5 a0_6 a0_7 a0_8 a0_9 a0_10 a0_11 a0_12) else (if a0_0=1 then (if a0_2=1 then (complineref23_Again.j0 k a1 a2 true a0_0 a0_1 a0_2 a0_3 a0_4 a0_5 a0_6 a0_7 a0_8 a0_9 a0_10 a0_11 a0_12) else (complineref23_Again.j0 k a1 a2 (a1 == 18446744073709551615) a0_0 a0_1 a0_2 a0_3 a0_4 a0_5 a0_6 a0_7 a0_8 a0_9 a0_10 a0_11 a0_12)) else (complineref23_Again.j0 k a1 a2 false a0_0 a0_1 a0_2 a0_3 a0_4 a0_5 a0_6 a0_7 a0_8 a0_9 a0_10 a0_11 a0_12))) else (some (0,0,0,0,0,false,0,false,0,false,0,false,0,false,0,t226))))=some (r1,r2,r3,r4,r5,r6,r7,r8,r9,r10,r11,r12,r13,r14,r15,r16):=h
 clear h
 replace H:=Option.bind_eq_some_iff.mp H
 obtain ⟨t226,A40,H⟩ :=H
 replace H:(if t226=0 then (if a0_0=0 then (complineref23_Again.j0 k a1 a2 true a0_0 a0_1 a0_2 a0_3 a0_4 a0_5 a0_6 a0_7 a0_8 a0_9 a0_10 a0_11 a0_12) else (if a0_0=1 then (if a0_2=1 then (complineref23_Again.j0 k a1 a2 true a0_0 a0_1 a0_2 a0_3 a0_4 a0_5 a0_6 a0_7 a0_8 a0_9 a0_10 a0_11 a0_12) else (complineref23_Again.j0 k a1 a2 (a1 == 18446744073709551615) a0_0 a0_1 a0_2 a0_3 a0_4 a0_5 a0_6 a0_7 a0_8 a0_9 a0_10 a0_11 a0_12)) else (complineref23_Again.j0 k a1 a2 false a0_0 a0_1 a0_2 a0_3 a0_4 a0_5 a0_6 a0_7 a0_8 a0_9 a0_10 a0_11 a0_12))) else (some (0,0,0,0,0,false,0,false,0,false,0,false,0,false,0,t226)))=some (r1,r2,r3,r4,r5,r6,r7,r8,r9,r10,r11,r12,r13,r14,r15,r16):=H
 have A4:=Aside0.mk A40
 clear A40
 by_cases c5:t226=0
 ·rw [if_pos c5] at H
  have c5b0:(t226 == 0)=true:=beq_iff_eq.mpr c5
  have c5b1:(t226 != 0)=false:=bne_eq_false_iff_eq.mpr c5
  clear c5
  have HC6:=Aside0.mk H
  clear H
  go_enter Tryd.func17,Tryd.ntmps17
  go_upto_region 4 with (first | ((with_reducible refine gate_dst (N:=3) rfl ?_); refine box_event ?hg (N:=3) ?hd (cs:=#[.int .i64 a0_0,.int .u64 a0_1,.int .i64 a0_2,.int .u64 a0_3,.bool a0_4,.int .u64 a0_5,.bool a0_6,.int .u64 a0_7,.bool a0_8,.int .u64 a0_9,.bool a0_10,.int .u64 a0_11,.bool a0_12]) (t:=28) ?hr ?_; (case hd=>rfl); (case hg=>rfl); (case hr=>first | (go_simp; done) | (go_simp; rfl)); intro gb224 hg w7 hbox hb; have n0_:=Aside0.mk (below_step (by repeat (first | (with_reducible first | exact HB.out | apply below_alloc | apply pw_below_drewN | apply below_drew1) | exact HB.out)) hb); have n1_:=Aside0.mk (hbox); have n2_:=Aside0.mk ((by rw [hg]; exact (below_size (by repeat (first | (with_reducible first | exact HB.out | apply below_alloc | apply pw_below_drewN | apply below_drew1) | exact HB.out))):w.heap.size≤gb224)); have n3_:=Aside0.mk ((by rw [hg]; exact (below_size (by repeat (first | (with_reducible first | exact HB.out | apply below_alloc | apply pw_below_drewN | apply below_drew1) | exact HB.out))):w.heap.size≤gb224)); clear HB; have HB:=n0_; have BK224:=n1_; have GW224:=n2_; have GE224:=n3_; clear n0_ n1_ n2_ n3_; clear hb hbox hg) | ((with_reducible refine gate_dst (N:=7) rfl ?_); refine box_event ?hg (N:=7) ?hd (cs:=#[.int .i64 0,.int .u64 0,.int .i64 0,.int .u64 0,.bool false,.int .u64 0,.bool false,.int .u64 0,.bool false,.int .u64 0,.bool false,.int .u64 0,.bool false]) (t:=28) ?hr ?_; (case hd=>rfl); (case hg=>rfl); (case hr=>first | (go_simp; done) | (go_simp; rfl)); intro gb225 hg w8 hbox hb; have n0_:=Aside0.mk (blk_below (g:=gb224) (o:=.cells #[.int .i64 a0_0,.int .u64 a0_1,.int .i64 a0_2,.int .u64 a0_3,.bool a0_4,.int .u64 a0_5,.bool a0_6,.int .u64 a0_7,.bool a0_8,.int .u64 a0_9,.bool a0_10,.int .u64 a0_11,.bool a0_12] 28 (0,0)) (by (with_reducible repeat (first | refine blk_drewN ?_ _ | refine blk_drew ?_ | refine blk_alloc ?_ _)); exact BK224.out) hb); have n1_:=Aside0.mk (below_step (by repeat (first | (with_reducible first | exact HB.out | apply below_alloc | apply pw_below_drewN | apply below_drew1 | refine below_set ?_ GE224.out) | exact HB.out)) hb); have n2_:=Aside0.mk (hbox); have n3_:=Aside0.mk ((by rw [hg]; exact (below_size (by repeat (first | (with_reducible first | exact HB.out | apply below_alloc | apply pw_below_drewN | apply below_drew1 | refine below_set ?_ GE224.out) | exact HB.out))):w.heap.size≤gb225)); have n4_:=Aside0.mk ((by rw [hg]; exact (below_size (by repeat (first | (with_reducible first | exact HB.out | apply below_alloc | apply pw_below_drewN | apply below_drew1 | refine below_set ?_ GE224.out) | exact HB.out))):w.heap.size≤gb225)); have n5_:=Aside0.mk ((by rw [hg]; exact Nat.ne_of_lt (blk_lt (g:=gb224) (o:=.cells #[.int .i64 a0_0,.int .u64 a0_1,.int .i64 a0_2,.int .u64 a0_3,.bool a0_4,.int .u64 a0_5,.bool a0_6,.int .u64 a0_7,.bool a0_8,.int .u64 a0_9,.bool a0_10,.int .u64 a0_11,.bool a0_12] 28 (0,0)) (by (with_reducible repeat (first | refine blk_drewN ?_ _ | refine blk_drew ?_ | refine blk_alloc ?_ _)); exact BK224.out)):gb224≠gb225)); have n6_:=Aside0.mk ((by rw [hg]; exact Nat.ne_of_gt (blk_lt (g:=gb224) (o:=.cells #[.int .i64 a0_0,.int .u64 a0_1,.int .i64 a0_2,.int .u64 a0_3,.bool a0_4,.int .u64 a0_5,.bool a0_6,.int .u64 a0_7,.bool a0_8,.int .u64 a0_9,.bool a0_10,.int .u64 a0_11,.bool a0_12] 28 (0,0)) (by (with_reducible repeat (first | refine blk_drewN ?_ _ | refine blk_drew ?_ | refine blk_alloc ?_ _)); exact BK224.out)):gb225≠gb224)); clear BK224; clear HB; have BK224:=n0_; have HB:=n1_; have BK225:=n2_; have GW225:=n3_; have GE225:=n4_; have NB224_225:=n5_; have NB225_224:=n6_; clear n0_ n1_ n2_ n3_ n4_ n5_ n6_; clear hb hbox hg; have hnb9:=NB224_225.out; have hnc9:=NB225_224.out; have hcz10_0:w8.cell? ⟨gb224,0,none⟩=some (.int .i64 a0_0):=(blk_cell BK224.out 0).trans rfl; have hcz10_1:w8.cell? ⟨gb224,1,none⟩=some (.int .u64 a0_1):=(blk_cell BK224.out 1).trans rfl; have hcz10_2:w8.cell? ⟨gb224,2,none⟩=some (.int .i64 a0_2):=(blk_cell BK224.out 2).trans rfl; have hcz10_3:w8.cell? ⟨gb224,3,none⟩=some (.int .u64 a0_3):=(blk_cell BK224.out 3).trans rfl; have hcz10_4:w8.cell? ⟨gb224,4,none⟩=some (.bool a0_4):=(blk_cell BK224.out 4).trans rfl; have hcz10_5:w8.cell? ⟨gb224,5,none⟩=some (.int .u64 a0_5):=(blk_cell BK224.out 5).trans rfl; have hcz10_6:w8.cell? ⟨gb224,6,none⟩=some (.bool a0_6):=(blk_cell BK224.out 6).trans rfl; have hcz10_7:w8.cell? ⟨gb224,7,none⟩=some (.int .u64 a0_7):=(blk_cell BK224.out 7).trans rfl; have hcz10_8:w8.cell? ⟨gb224,8,none⟩=some (.bool a0_8):=(blk_cell BK224.out 8).trans rfl; have hcz10_9:w8.cell? ⟨gb224,9,none⟩=some (.int .u64 a0_9):=(blk_cell BK224.out 9).trans rfl; have hcz10_10:w8.cell? ⟨gb224,10,none⟩=some (.bool a0_10):=(blk_cell BK224.out 10).trans rfl; have hcz10_11:w8.cell? ⟨gb224,11,none⟩=some (.int .u64 a0_11):=(blk_cell BK224.out 11).trans rfl; have hcz10_12:w8.cell? ⟨gb224,12,none⟩=some (.bool a0_12):=(blk_cell BK224.out 12).trans rfl; have hfz10_0:=blk_frozen BK224.out 0; have hfz10_1:=blk_frozen BK224.out 1; have hfz10_2:=blk_frozen BK224.out 2; have hfz10_3:=blk_frozen BK224.out 3; have hfz10_4:=blk_frozen BK224.out 4; have hfz10_5:=blk_frozen BK224.out 5; have hfz10_6:=blk_frozen BK224.out 6; have hfz10_7:=blk_frozen BK224.out 7; have hfz10_8:=blk_frozen BK224.out 8; have hfz10_9:=blk_frozen BK224.out 9; have hfz10_10:=blk_frozen BK224.out 10; have hfz10_11:=blk_frozen BK224.out 11; have hfz10_12:=blk_frozen BK224.out 12) | ((with_reducible refine gate_callee (f:=15) rfl ?_); refine goesL_ (some 16) rfl rfl Tryd.func15 (by kernel_rfl) rfl #[.agg #[.int .i64 a0_0,.int .u64 a0_1,.int .i64 a0_2,.int .u64 a0_3,.bool a0_4,.int .u64 a0_5,.bool a0_6,.int .u64 a0_7,.bool a0_8,.int .u64 a0_9,.bool a0_10,.int .u64 a0_11,.bool a0_12]] rfl (by (try simp only [List.map_toArray,List.map_cons,List.map_nil]); first | done | rfl | (simp only [List.length_drop,List.length_take]; rfl)) ?_; (with_reducible refine (complineref23_Check.calls k a0_0 a0_1 a0_2 a0_3 a0_4 a0_5 a0_6 a0_7 a0_8 a0_9 a0_10 a0_11 a0_12 t226 _ A4.out).mono ?_); rintro e w11 ⟨rfl,hb⟩; refine ⟨_,rfl,?_⟩; have n0_:=Aside0.mk (blk_below (g:=gb224) (o:=.cells #[.int .i64 a0_0,.int .u64 a0_1,.int .i64 a0_2,.int .u64 a0_3,.bool a0_4,.int .u64 a0_5,.bool a0_6,.int .u64 a0_7,.bool a0_8,.int .u64 a0_9,.bool a0_10,.int .u64 a0_11,.bool a0_12] 28 (0,0)) (by (with_reducible repeat (first | refine blk_drewN ?_ _ | refine blk_drew ?_ | refine blk_alloc ?_ _)); exact BK224.out) hb); have n1_:=Aside0.mk (blk_below (g:=gb225) (o:=.cells #[.int .i64 0,.int .u64 0,.int .i64 0,.int .u64 0,.bool false,.int .u64 0,.bool false,.int .u64 0,.bool false,.int .u64 0,.bool false,.int .u64 0,.bool false] 28 (0,0)) (by (with_reducible repeat (first | refine blk_drewN ?_ _ | refine blk_drew ?_ | refine blk_alloc ?_ _)); exact BK225.out) hb); have n2_:=Aside0.mk (below_step (by repeat (first | (with_reducible first | exact HB.out | apply below_alloc | apply pw_below_drewN | apply below_drew1 | refine below_set ?_ GE224.out | refine below_set ?_ GE225.out) | exact HB.out)) hb); clear BK224; clear BK225; clear HB; have BK224:=n0_; have BK225:=n1_; have HB:=n2_; clear n0_ n1_ n2_; (try clear hb); (try clear hb2); (try clear hk); (try clear hi)))
  (try simp only [Act.put,List.setIfInBounds_toArray,List.set_cons_zero,List.set_cons_succ])
  go_cut [37] (fun v37 wc=>∃ (kq:Nat) (x37_5:Bool),v37=.bool x37_5∧Aside0 (complineref23_Again.j0 kq a1 a2 x37_5 a0_0 a0_1 a0_2 a0_3 a0_4 a0_5 a0_6 a0_7 a0_8 a0_9 a0_10 a0_11 a0_12=some (r1,r2,r3,r4,r5,r6,r7,r8,r9,r10,r11,r12,r13,r14,r15,r16))∧Aside0 (kq≤k)∧Aside0 (wc.heap[gb224]?=some (.cells #[.int .i64 a0_0,.int .u64 a0_1,.int .i64 a0_2,.int .u64 a0_3,.bool a0_4,.int .u64 a0_5,.bool a0_6,.int .u64 a0_7,.bool a0_8,.int .u64 a0_9,.bool a0_10,.int .u64 a0_11,.bool a0_12] 28 (0,0)))∧Aside0 (wc.heap[gb225]?=some (.cells #[.int .i64 0,.int .u64 0,.int .i64 0,.int .u64 0,.bool false,.int .u64 0,.bool false,.int .u64 0,.bool false,.int .u64 0,.bool false,.int .u64 0,.bool false] 28 (0,0)))∧Aside0 (Below w.heap.size w wc))
  case first=>
   have H:=HC6.out
   clear HC6
   by_cases c12:a0_0=0
   ·rw [if_pos c12] at H
    have c12b0:(a0_0 == 0)=true:=beq_iff_eq.mpr c12
    have c12b1:(a0_0 != 0)=false:=bne_eq_false_iff_eq.mpr c12
    clear c12
    (first | rw [c12b0] | (simp only [i64_w,i32_w]; rw [c12b0]) | skip)
    have H':=Aside0.mk H
    clear H
    have hnb13:=NB224_225.out
    have hnc13:=NB225_224.out
    have hcz14_0:w11.cell? ⟨gb224,0,none⟩=some (.int .i64 a0_0):=(blk_cell BK224.out 0).trans rfl
    have hcz14_1:w11.cell? ⟨gb224,1,none⟩=some (.int .u64 a0_1):=(blk_cell BK224.out 1).trans rfl
    have hcz14_2:w11.cell? ⟨gb224,2,none⟩=some (.int .i64 a0_2):=(blk_cell BK224.out 2).trans rfl
    have hcz14_3:w11.cell? ⟨gb224,3,none⟩=some (.int .u64 a0_3):=(blk_cell BK224.out 3).trans rfl
    have hcz14_4:w11.cell? ⟨gb224,4,none⟩=some (.bool a0_4):=(blk_cell BK224.out 4).trans rfl
    have hcz14_5:w11.cell? ⟨gb224,5,none⟩=some (.int .u64 a0_5):=(blk_cell BK224.out 5).trans rfl
    have hcz14_6:w11.cell? ⟨gb224,6,none⟩=some (.bool a0_6):=(blk_cell BK224.out 6).trans rfl
    have hcz14_7:w11.cell? ⟨gb224,7,none⟩=some (.int .u64 a0_7):=(blk_cell BK224.out 7).trans rfl
    have hcz14_8:w11.cell? ⟨gb224,8,none⟩=some (.bool a0_8):=(blk_cell BK224.out 8).trans rfl
    have hcz14_9:w11.cell? ⟨gb224,9,none⟩=some (.int .u64 a0_9):=(blk_cell BK224.out 9).trans rfl
    have hcz14_10:w11.cell? ⟨gb224,10,none⟩=some (.bool a0_10):=(blk_cell BK224.out 10).trans rfl
    have hcz14_11:w11.cell? ⟨gb224,11,none⟩=some (.int .u64 a0_11):=(blk_cell BK224.out 11).trans rfl
    have hcz14_12:w11.cell? ⟨gb224,12,none⟩=some (.bool a0_12):=(blk_cell BK224.out 12).trans rfl
    have hfz14_0:=blk_frozen BK224.out 0
    have hfz14_1:=blk_frozen BK224.out 1
    have hfz14_2:=blk_frozen BK224.out 2
    have hfz14_3:=blk_frozen BK224.out 3
    have hfz14_4:=blk_frozen BK224.out 4
    have hfz14_5:=blk_frozen BK224.out 5
    have hfz14_6:=blk_frozen BK224.out 6
    have hfz14_7:=blk_frozen BK224.out 7
    have hfz14_8:=blk_frozen BK224.out 8
    have hfz14_9:=blk_frozen BK224.out 9
    have hfz14_10:=blk_frozen BK224.out 10
    have hfz14_11:=blk_frozen BK224.out 11
    have hfz14_12:=blk_frozen BK224.out 12
    go_wp2
    go_meet
    case rel=>exact ⟨_,(true),(by first | rfl | (simp; done) | (simp [*]; done)),H',⟨by first | omega | exact Nat.le_refl _⟩,⟨by (with_reducible repeat (first | refine blk_drewN ?_ _ | refine blk_drew ?_ | refine blk_alloc ?_ _)); exact BK224.out⟩,⟨by (with_reducible repeat (first | refine blk_drewN ?_ _ | refine blk_drew ?_ | refine blk_alloc ?_ _)); exact BK225.out⟩,⟨by repeat (first | (with_reducible first | exact HB.out | apply below_alloc | apply pw_below_drewN | apply below_drew1 | refine below_set ?_ GE224.out | refine below_set ?_ GE225.out) | exact HB.out)⟩⟩
   ·rw [if_neg c12] at H
    have c12b0:(a0_0 == 0)=false:=beq_eq_false_iff_ne.mpr c12
    have c12b1:(a0_0 != 0)=true:=bne_iff_ne.mpr c12
    (first | rw [c12b0] | (simp only [i64_w,i32_w]; rw [c12b0]) | skip)
    by_cases c15:a0_0=1
    ·rw [if_pos c15] at H
     have c15b0:(a0_0 == 1)=true:=beq_iff_eq.mpr c15
     have c15b1:(a0_0 != 1)=false:=bne_eq_false_iff_eq.mpr c15
     clear c15
     by_cases c16:a0_2=1
     ·rw [if_pos c16] at H
      have c16b0:(a0_2 == 1)=true:=beq_iff_eq.mpr c16
      have c16b1:(a0_2 != 1)=false:=bne_eq_false_iff_eq.mpr c16
      clear c16
      have H':=Aside0.mk H
      clear H
      have hnb17:=NB224_225.out
      have hnc17:=NB225_224.out
      have hcz18_0:w11.cell? ⟨gb224,0,none⟩=some (.int .i64 a0_0):=(blk_cell BK224.out 0).trans rfl
      have hcz18_1:w11.cell? ⟨gb224,1,none⟩=some (.int .u64 a0_1):=(blk_cell BK224.out 1).trans rfl
      have hcz18_2:w11.cell? ⟨gb224,2,none⟩=some (.int .i64 a0_2):=(blk_cell BK224.out 2).trans rfl
      have hcz18_3:w11.cell? ⟨gb224,3,none⟩=some (.int .u64 a0_3):=(blk_cell BK224.out 3).trans rfl
      have hcz18_4:w11.cell? ⟨gb224,4,none⟩=some (.bool a0_4):=(blk_cell BK224.out 4).trans rfl
      have hcz18_5:w11.cell? ⟨gb224,5,none⟩=some (.int .u64 a0_5):=(blk_cell BK224.out 5).trans rfl
      have hcz18_6:w11.cell? ⟨gb224,6,none⟩=some (.bool a0_6):=(blk_cell BK224.out 6).trans rfl
      have hcz18_7:w11.cell? ⟨gb224,7,none⟩=some (.int .u64 a0_7):=(blk_cell BK224.out 7).trans rfl
      have hcz18_8:w11.cell? ⟨gb224,8,none⟩=some (.bool a0_8):=(blk_cell BK224.out 8).trans rfl
      have hcz18_9:w11.cell? ⟨gb224,9,none⟩=some (.int .u64 a0_9):=(blk_cell BK224.out 9).trans rfl
      have hcz18_10:w11.cell? ⟨gb224,10,none⟩=some (.bool a0_10):=(blk_cell BK224.out 10).trans rfl
      have hcz18_11:w11.cell? ⟨gb224,11,none⟩=some (.int .u64 a0_11):=(blk_cell BK224.out 11).trans rfl
      have hcz18_12:w11.cell? ⟨gb224,12,none⟩=some (.bool a0_12):=(blk_cell BK224.out 12).trans rfl
      have hfz18_0:=blk_frozen BK224.out 0
      have hfz18_1:=blk_frozen BK224.out 1
      have hfz18_2:=blk_frozen BK224.out 2
      have hfz18_3:=blk_frozen BK224.out 3
      have hfz18_4:=blk_frozen BK224.out 4
      have hfz18_5:=blk_frozen BK224.out 5
      have hfz18_6:=blk_frozen BK224.out 6
      have hfz18_7:=blk_frozen BK224.out 7
      have hfz18_8:=blk_frozen BK224.out 8
      have hfz18_9:=blk_frozen BK224.out 9
      have hfz18_10:=blk_frozen BK224.out 10
      have hfz18_11:=blk_frozen BK224.out 11
      have hfz18_12:=blk_frozen BK224.out 12
      go_wp2
      go_meet
      case rel=>exact ⟨_,(true),(by first | rfl | (simp; done) | (simp [*]; done)),H',⟨by first | omega | exact Nat.le_refl _⟩,⟨by (with_reducible repeat (first | refine blk_drewN ?_ _ | refine blk_drew ?_ | refine blk_alloc ?_ _)); exact BK224.out⟩,⟨by (with_reducible repeat (first | refine blk_drewN ?_ _ | refine blk_drew ?_ | refine blk_alloc ?_ _)); exact BK225.out⟩,⟨by repeat (first | (with_reducible first | exact HB.out | apply below_alloc | apply pw_below_drewN | apply below_drew1 | refine below_set ?_ GE224.out | refine below_set ?_ GE225.out) | exact HB.out)⟩⟩
     ·rw [if_neg c16] at H
      have c16b0:(a0_2 == 1)=false:=beq_eq_false_iff_ne.mpr c16
      have c16b1:(a0_2 != 1)=true:=bne_iff_ne.mpr c16
      have H':=Aside0.mk H
      clear H
      have hnb19:=NB224_225.out
      have hnc19:=NB225_224.out
      have hcz20_0:w11.cell? ⟨gb224,0,none⟩=some (.int .i64 a0_0):=(blk_cell BK224.out 0).trans rfl
      have hcz20_1:w11.cell? ⟨gb224,1,none⟩=some (.int .u64 a0_1):=(blk_cell BK224.out 1).trans rfl
      have hcz20_2:w11.cell? ⟨gb224,2,none⟩=some (.int .i64 a0_2):=(blk_cell BK224.out 2).trans rfl
      have hcz20_3:w11.cell? ⟨gb224,3,none⟩=some (.int .u64 a0_3):=(blk_cell BK224.out 3).trans rfl
      have hcz20_4:w11.cell? ⟨gb224,4,none⟩=some (.bool a0_4):=(blk_cell BK224.out 4).trans rfl
      have hcz20_5:w11.cell? ⟨gb224,5,none⟩=some (.int .u64 a0_5):=(blk_cell BK224.out 5).trans rfl
      have hcz20_6:w11.cell? ⟨gb224,6,none⟩=some (.bool a0_6):=(blk_cell BK224.out 6).trans rfl
      have hcz20_7:w11.cell? ⟨gb224,7,none⟩=some (.int .u64 a0_7):=(blk_cell BK224.out 7).trans rfl
      have hcz20_8:w11.cell? ⟨gb224,8,none⟩=some (.bool a0_8):=(blk_cell BK224.out 8).trans rfl
      have hcz20_9:w11.cell? ⟨gb224,9,none⟩=some (.int .u64 a0_9):=(blk_cell BK224.out 9).trans rfl
      have hcz20_10:w11.cell? ⟨gb224,10,none⟩=some (.bool a0_10):=(blk_cell BK224.out 10).trans rfl
      have hcz20_11:w11.cell? ⟨gb224,11,none⟩=some (.int .u64 a0_11):=(blk_cell BK224.out 11).trans rfl
      have hcz20_12:w11.cell? ⟨gb224,12,none⟩=some (.bool a0_12):=(blk_cell BK224.out 12).trans rfl
      have hfz20_0:=blk_frozen BK224.out 0
      have hfz20_1:=blk_frozen BK224.out 1
      have hfz20_2:=blk_frozen BK224.out 2
      have hfz20_3:=blk_frozen BK224.out 3
      have hfz20_4:=blk_frozen BK224.out 4
      have hfz20_5:=blk_frozen BK224.out 5
      have hfz20_6:=blk_frozen BK224.out 6
      have hfz20_7:=blk_frozen BK224.out 7
      have hfz20_8:=blk_frozen BK224.out 8
      have hfz20_9:=blk_frozen BK224.out 9
      have hfz20_10:=blk_frozen BK224.out 10
      have hfz20_11:=blk_frozen BK224.out 11
      have hfz20_12:=blk_frozen BK224.out 12
      go_wp2
      go_meet
      case rel=>exact ⟨_,((a1 == 18446744073709551615)),(by first | rfl | (simp; done) | (simp [*]; done)),H',⟨by first | omega | exact Nat.le_refl _⟩,⟨by (with_reducible repeat (first | refine blk_drewN ?_ _ | refine blk_drew ?_ | refine blk_alloc ?_ _)); exact BK224.out⟩,⟨by (with_reducible repeat (first | refine blk_drewN ?_ _ | refine blk_drew ?_ | refine blk_alloc ?_ _)); exact BK225.out⟩,⟨by repeat (first | (with_reducible first | exact HB.out | apply below_alloc | apply pw_below_drewN | apply below_drew1 | refine below_set ?_ GE224.out | refine below_set ?_ GE225.out) | exact HB.out)⟩⟩
    ·rw [if_neg c15] at H
     have c15b0:(a0_0 == 1)=false:=beq_eq_false_iff_ne.mpr c15
     have c15b1:(a0_0 != 1)=true:=bne_iff_ne.mpr c15
     have H':=Aside0.mk H
     clear H
     have hnb21:=NB224_225.out
     have hnc21:=NB225_224.out
     have hcz22_0:w11.cell? ⟨gb224,0,none⟩=some (.int .i64 a0_0):=(blk_cell BK224.out 0).trans rfl
     have hcz22_1:w11.cell? ⟨gb224,1,none⟩=some (.int .u64 a0_1):=(blk_cell BK224.out 1).trans rfl
     have hcz22_2:w11.cell? ⟨gb224,2,none⟩=some (.int .i64 a0_2):=(blk_cell BK224.out 2).trans rfl
     have hcz22_3:w11.cell? ⟨gb224,3,none⟩=some (.int .u64 a0_3):=(blk_cell BK224.out 3).trans rfl
     have hcz22_4:w11.cell? ⟨gb224,4,none⟩=some (.bool a0_4):=(blk_cell BK224.out 4).trans rfl
     have hcz22_5:w11.cell? ⟨gb224,5,none⟩=some (.int .u64 a0_5):=(blk_cell BK224.out 5).trans rfl
     have hcz22_6:w11.cell? ⟨gb224,6,none⟩=some (.bool a0_6):=(blk_cell BK224.out 6).trans rfl
     have hcz22_7:w11.cell? ⟨gb224,7,none⟩=some (.int .u64 a0_7):=(blk_cell BK224.out 7).trans rfl
     have hcz22_8:w11.cell? ⟨gb224,8,none⟩=some (.bool a0_8):=(blk_cell BK224.out 8).trans rfl
     have hcz22_9:w11.cell? ⟨gb224,9,none⟩=some (.int .u64 a0_9):=(blk_cell BK224.out 9).trans rfl
     have hcz22_10:w11.cell? ⟨gb224,10,none⟩=some (.bool a0_10):=(blk_cell BK224.out 10).trans rfl
     have hcz22_11:w11.cell? ⟨gb224,11,none⟩=some (.int .u64 a0_11):=(blk_cell BK224.out 11).trans rfl
     have hcz22_12:w11.cell? ⟨gb224,12,none⟩=some (.bool a0_12):=(blk_cell BK224.out 12).trans rfl
     have hfz22_0:=blk_frozen BK224.out 0
     have hfz22_1:=blk_frozen BK224.out 1
     have hfz22_2:=blk_frozen BK224.out 2
     have hfz22_3:=blk_frozen BK224.out 3
     have hfz22_4:=blk_frozen BK224.out 4
     have hfz22_5:=blk_frozen BK224.out 5
     have hfz22_6:=blk_frozen BK224.out 6
     have hfz22_7:=blk_frozen BK224.out 7
     have hfz22_8:=blk_frozen BK224.out 8
     have hfz22_9:=blk_frozen BK224.out 9
     have hfz22_10:=blk_frozen BK224.out 10
     have hfz22_11:=blk_frozen BK224.out 11
     have hfz22_12:=blk_frozen BK224.out 12
     go_wp2
     go_meet
     case rel=>exact ⟨_,(false),(by first | rfl | (simp; done) | (simp [*]; done)),H',⟨by first | omega | exact Nat.le_refl _⟩,⟨by (with_reducible repeat (first | refine blk_drewN ?_ _ | refine blk_drew ?_ | refine blk_alloc ?_ _)); exact BK224.out⟩,⟨by (with_reducible repeat (first | refine blk_drewN ?_ _ | refine blk_drew ?_ | refine blk_alloc ?_ _)); exact BK225.out⟩,⟨by repeat (first | (with_reducible first | exact HB.out | apply below_alloc | apply pw_below_drewN | apply below_drew1 | refine below_set ?_ GE224.out | refine below_set ?_ GE225.out) | exact HB.out)⟩⟩
  case rest=>
   clear HC6
   try clear c1
   try clear c2
   try clear p2
   try clear c5
   try clear c5b0
   try clear c5b1
   try clear c9
   try clear c12
   try clear c12b0
   try clear c12b1
   try clear c13
   try clear c15
   try clear c15b0
   try clear c15b1
   try clear c16
   try clear c16b0
   try clear c16b1
   try clear c17
   try clear c19
   try clear c21
   try clear hcz10_0
   try clear hcz10_1
   try clear hcz10_10
   try clear hcz10_11
   try clear hcz10_12
   try clear hcz10_2
   try clear hcz10_3
   try clear hcz10_4
   try clear hcz10_5
   try clear hcz10_6
   try clear hcz10_7
   try clear hcz10_8
   try clear hcz10_9
   try clear hcz14_0
   try clear hcz14_1
   try clear hcz14_10
   try clear hcz14_11
   try clear hcz14_12
   try clear hcz14_2
   try clear hcz14_3
   try clear hcz14_4
   try clear hcz14_5
   try clear hcz14_6
   try clear hcz14_7
   try clear hcz14_8
   try clear hcz14_9
   try clear hcz18_0
   try clear hcz18_1
   try clear hcz18_10
   try clear hcz18_11
   try clear hcz18_12
   try clear hcz18_2
   try clear hcz18_3
   try clear hcz18_4
   try clear hcz18_5
   try clear hcz18_6
   try clear hcz18_7
   try clear hcz18_8
   try clear hcz18_9
   try clear hcz20_0
   try clear hcz20_1
   try clear hcz20_10
   try clear hcz20_11
   try clear hcz20_12
   try clear hcz20_2
   try clear hcz20_3
   try clear hcz20_4
   try clear hcz20_5
   try clear hcz20_6
   try clear hcz20_7
   try clear hcz20_8
   try clear hcz20_9
   try clear hcz22_0
   try clear hcz22_1
   try clear hcz22_10
   try clear hcz22_11
   try clear hcz22_12
   try clear hcz22_2
   try clear hcz22_3
   try clear hcz22_4
   try clear hcz22_5
   try clear hcz22_6
   try clear hcz22_7
   try clear hcz22_8
   try clear hcz22_9
   try clear hfz10_0
   try clear hfz10_1
   try clear hfz10_10
   try clear hfz10_11
   try clear hfz10_12
   try clear hfz10_2
   try clear hfz10_3
   try clear hfz10_4
   try clear hfz10_5
   try clear hfz10_6
   try clear hfz10_7
   try clear hfz10_8
   try clear hfz10_9
   try clear hfz14_0
   try clear hfz14_1
   try clear hfz14_10
   try clear hfz14_11
   try clear hfz14_12
   try clear hfz14_2
   try clear hfz14_3
   try clear hfz14_4
   try clear hfz14_5
   try clear hfz14_6
   try clear hfz14_7
   try clear hfz14_8
   try clear hfz14_9
   try clear hfz18_0
   try clear hfz18_1
   try clear hfz18_10
   try clear hfz18_11
   try clear hfz18_12
   try clear hfz18_2
   try clear hfz18_3
   try clear hfz18_4
   try clear hfz18_5
   try clear hfz18_6
   try clear hfz18_7
   try clear hfz18_8
   try clear hfz18_9
   try clear hfz20_0
   try clear hfz20_1
   try clear hfz20_10
   try clear hfz20_11
   try clear hfz20_12
   try clear hfz20_2
   try clear hfz20_3
   try clear hfz20_4
   try clear hfz20_5
   try clear hfz20_6
   try clear hfz20_7
   try clear hfz20_8
   try clear hfz20_9
   try clear hfz22_0
   try clear hfz22_1
   try clear hfz22_10
   try clear hfz22_11
   try clear hfz22_12
   try clear hfz22_2
   try clear hfz22_3
   try clear hfz22_4
   try clear hfz22_5
   try clear hfz22_6
   try clear hfz22_7
   try clear hfz22_8
   try clear hfz22_9
   obtain ⟨kq,x37_5,rfl,HA,HJ5,BK224,BK225,HB⟩ :=hcut
   cases kq with
   | zero=>exact absurd HA.out (by simp [complineref23_Again.j0])
   | succ kj5=>
    have H:=HA.out
    clear HA
    simp only [complineref23_Again.j0] at H
    by_cases c23:x37_5=true
    ·subst c23
     have H1:(some (0,0,0,0,0,false,0,false,0,false,0,false,0,false,0,5))=some (r1,r2,r3,r4,r5,r6,r7,r8,r9,r10,r11,r12,r13,r14,r15,r16):=by rw [if_pos rfl] at H; exact H
     clear H
     have H:=H1
     clear H1
     simp only [Option.some.injEq,Prod.mk.injEq] at H
     obtain ⟨rfl,rfl,rfl,rfl,rfl,rfl,rfl,rfl,rfl,rfl,rfl,rfl,rfl,rfl,rfl,rfl⟩ :=H
     have hnb24:=NB225_224.out
     have hnc24:=NB224_225.out
     have hcz25_0:wc.cell? ⟨gb225,0,none⟩=some (.int .i64 0):=(blk_cell BK225.out 0).trans rfl
     have hcz25_1:wc.cell? ⟨gb225,1,none⟩=some (.int .u64 0):=(blk_cell BK225.out 1).trans rfl
     have hcz25_2:wc.cell? ⟨gb225,2,none⟩=some (.int .i64 0):=(blk_cell BK225.out 2).trans rfl
     have hcz25_3:wc.cell? ⟨gb225,3,none⟩=some (.int .u64 0):=(blk_cell BK225.out 3).trans rfl
     have hcz25_4:wc.cell? ⟨gb225,4,none⟩=some (.bool false):=(blk_cell BK225.out 4).trans rfl
     have hcz25_5:wc.cell? ⟨gb225,5,none⟩=some (.int .u64 0):=(blk_cell BK225.out 5).trans rfl
     have hcz25_6:wc.cell? ⟨gb225,6,none⟩=some (.bool false):=(blk_cell BK225.out 6).trans rfl
     have hcz25_7:wc.cell? ⟨gb225,7,none⟩=some (.int .u64 0):=(blk_cell BK225.out 7).trans rfl
     have hcz25_8:wc.cell? ⟨gb225,8,none⟩=some (.bool false):=(blk_cell BK225.out 8).trans rfl
     have hcz25_9:wc.cell? ⟨gb225,9,none⟩=some (.int .u64 0):=(blk_cell BK225.out 9).trans rfl
     have hcz25_10:wc.cell? ⟨gb225,10,none⟩=some (.bool false):=(blk_cell BK225.out 10).trans rfl
     have hcz25_11:wc.cell? ⟨gb225,11,none⟩=some (.int .u64 0):=(blk_cell BK225.out 11).trans rfl
     have hcz25_12:wc.cell? ⟨gb225,12,none⟩=some (.bool false):=(blk_cell BK225.out 12).trans rfl
     have hfz25_0:=blk_frozen BK225.out 0
     have hfz25_1:=blk_frozen BK225.out 1
     have hfz25_2:=blk_frozen BK225.out 2
     have hfz25_3:=blk_frozen BK225.out 3
     have hfz25_4:=blk_frozen BK225.out 4
     have hfz25_5:=blk_frozen BK225.out 5
     have hfz25_6:=blk_frozen BK225.out 6
     have hfz25_7:=blk_frozen BK225.out 7
     have hfz25_8:=blk_frozen BK225.out 8
     have hfz25_9:=blk_frozen BK225.out 9
     have hfz25_10:=blk_frozen BK225.out 10
     have hfz25_11:=blk_frozen BK225.out 11
     have hfz25_12:=blk_frozen BK225.out 12
     go_wp2
     refine bodyPost_ret (results_list (rs:=[.tmp 6,.cell 7 28,.tmp 8,.tmp 9]) rfl (by simp) (.tmp (.cell gb225 28 #[.int .i64 0,.int .u64 0,.int .i64 0,.int .u64 0,.bool false,.int .u64 0,.bool false,.int .u64 0,.bool false,.int .u64 0,.bool false,.int .u64 0,.bool false] (0,0) _ rfl (by (with_reducible repeat (first | refine blk_drewN ?_ _ | refine blk_drew ?_ | refine blk_alloc ?_ _)); refine blk_put (cs:=#[.int .i64 0,.int .u64 0,.int .i64 0,.int .u64 0,.bool false,.int .u64 0,.bool false,.int .u64 0,.bool false,.int .u64 0,.bool false,.int .u64 0,.bool false]) ?_ 12 _ rfl; (with_reducible repeat (first | refine blk_drewN ?_ _ | refine blk_drew ?_ | refine blk_alloc ?_ _)); refine blk_put (cs:=#[.int .i64 0,.int .u64 0,.int .i64 0,.int .u64 0,.bool false,.int .u64 0,.bool false,.int .u64 0,.bool false,.int .u64 0,.bool false,.int .u64 0,.bool false]) ?_ 11 _ rfl; (with_reducible repeat (first | refine blk_drewN ?_ _ | refine blk_drew ?_ | refine blk_alloc ?_ _)); refine blk_put (cs:=#[.int .i64 0,.int .u64 0,.int .i64 0,.int .u64 0,.bool false,.int .u64 0,.bool false,.int .u64 0,.bool false,.int .u64 0,.bool false,.int .u64 0,.bool false]) ?_ 10 _ rfl; (with_reducible repeat (first | refine blk_drewN ?_ _ | refine blk_drew ?_ | refine blk_alloc ?_ _)); refine blk_put (cs:=#[.int .i64 0,.int .u64 0,.int .i64 0,.int .u64 0,.bool false,.int .u64 0,.bool false,.int .u64 0,.bool false,.int .u64 0,.bool false,.int .u64 0,.bool false]) ?_ 9 _ rfl; (with_reducible repeat (first | refine blk_drewN ?_ _ | refine blk_drew ?_ | refine blk_alloc ?_ _)); refine blk_put (cs:=#[.int .i64 0,.int .u64 0,.int .i64 0,.int .u64 0,.bool false,.int .u64 0,.bool false,.int .u64 0,.bool false,.int .u64 0,.bool false,.int .u64 0,.bool false]) ?_ 8 _ rfl; (with_reducible repeat (first | refine blk_drewN ?_ _ | refine blk_drew ?_ | refine blk_alloc ?_ _)); refine blk_put (cs:=#[.int .i64 0,.int .u64 0,.int .i64 0,.int .u64 0,.bool false,.int .u64 0,.bool false,.int .u64 0,.bool false,.int .u64 0,.bool false,.int .u64 0,.bool false]) ?_ 7 _ rfl; (with_reducible repeat (first | refine blk_drewN ?_ _ | refine blk_drew ?_ | refine blk_alloc ?_ _)); refine blk_put (cs:=#[.int .i64 0,.int .u64 0,.int .i64 0,.int .u64 0,.bool false,.int .u64 0,.bool false,.int .u64 0,.bool false,.int .u64 0,.bool false,.int .u64 0,.bool false]) ?_ 6 _ rfl; (with_reducible repeat (first | refine blk_drewN ?_ _ | refine blk_drew ?_ | refine blk_alloc ?_ _)); refine blk_put (cs:=#[.int .i64 0,.int .u64 0,.int .i64 0,.int .u64 0,.bool false,.int .u64 0,.bool false,.int .u64 0,.bool false,.int .u64 0,.bool false,.int .u64 0,.bool false]) ?_ 5 _ rfl; (with_reducible repeat (first | refine blk_drewN ?_ _ | refine blk_drew ?_ | refine blk_alloc ?_ _)); refine blk_put (cs:=#[.int .i64 0,.int .u64 0,.int .i64 0,.int .u64 0,.bool false,.int .u64 0,.bool false,.int .u64 0,.bool false,.int .u64 0,.bool false,.int .u64 0,.bool false]) ?_ 4 _ rfl; (with_reducible repeat (first | refine blk_drewN ?_ _ | refine blk_drew ?_ | refine blk_alloc ?_ _)); refine blk_put (cs:=#[.int .i64 0,.int .u64 0,.int .i64 0,.int .u64 0,.bool false,.int .u64 0,.bool false,.int .u64 0,.bool false,.int .u64 0,.bool false,.int .u64 0,.bool false]) ?_ 3 _ rfl; (with_reducible repeat (first | refine blk_drewN ?_ _ | refine blk_drew ?_ | refine blk_alloc ?_ _)); refine blk_put (cs:=#[.int .i64 0,.int .u64 0,.int .i64 0,.int .u64 0,.bool false,.int .u64 0,.bool false,.int .u64 0,.bool false,.int .u64 0,.bool false,.int .u64 0,.bool false]) ?_ 2 _ rfl; (with_reducible repeat (first | refine blk_drewN ?_ _ | refine blk_drew ?_ | refine blk_alloc ?_ _)); refine blk_put (cs:=#[.int .i64 0,.int .u64 0,.int .i64 0,.int .u64 0,.bool false,.int .u64 0,.bool false,.int .u64 0,.bool false,.int .u64 0,.bool false,.int .u64 0,.bool false]) ?_ 1 _ rfl; (with_reducible repeat (first | refine blk_drewN ?_ _ | refine blk_drew ?_ | refine blk_alloc ?_ _)); refine blk_put (cs:=#[.int .i64 0,.int .u64 0,.int .i64 0,.int .u64 0,.bool false,.int .u64 0,.bool false,.int .u64 0,.bool false,.int .u64 0,.bool false,.int .u64 0,.bool false]) ?_ 0 _ rfl; (with_reducible repeat (first | refine blk_drewN ?_ _ | refine blk_drew ?_ | refine blk_alloc ?_ _)); exact BK225.out) Tryd.underlying28 rfl (by kernel_rfl) (.tmp (.tmp .nil))))) rfl ?_
     exact ⟨by first | rfl | (simp [errW_none,errW_some] <;> rfl) | (simp [*,errW_none,errW_some] <;> rfl),by repeat (first | (with_reducible first | exact HB.out | apply below_alloc | apply pw_below_drewN | apply below_drew1 | refine below_set ?_ GE224.out | refine below_set ?_ GE225.out) | exact HB.out)⟩
    ·replace c23:=Bool.eq_false_iff.mpr c23
     subst c23
     have H1:(if a0_0=2 then ((complineref23_First.f kj5 a0_0 a0_1 a0_2 a0_3 a0_4 a0_5 a0_6 a0_7 a0_8 a0_9 a0_10 a0_11 a0_12 a2 0).bind fun bt227=>(if bt227.2=0 then (some (bt227.1,a0_0,a0_1,a0_2,a0_3,a0_4,a0_5,a0_6,a0_7,a0_8,a0_9,a0_10,a0_11,a0_12,0,0)) else (some (0,0,0,0,0,false,0,false,0,false,0,false,0,false,0,bt227.2)))) else ((complineref01_After.f a1 a0_1 a2).bind fun bt229=>(if a0_2 > 0 then (some (bt229.1,a0_0,a0_1,wrap64 (a0_2 - 1),a0_3,a0_4,a0_5,a0_6,a0_7,a0_8,a0_9,a0_10,a0_11,a0_12,bt229.2,0)) else (some (bt229.1,a0_0,a0_1,a0_2,a0_3,a0_4,a0_5,a0_6,a0_7,a0_8,a0_9,a0_10,a0_11,a0_12,bt229.2,0)))))=some (r1,r2,r3,r4,r5,r6,r7,r8,r9,r10,r11,r12,r13,r14,r15,r16):=by rw [if_neg (show ¬ (false=true) by decide)] at H; exact H
     clear H
     have H:=H1
     clear H1
     by_cases c26:a0_0=2
     ·rw [if_pos c26] at H
      have c26b0:(a0_0 == 2)=true:=beq_iff_eq.mpr c26
      have c26b1:(a0_0 != 2)=false:=bne_eq_false_iff_eq.mpr c26
      clear c26
      replace H:=Option.bind_eq_some_iff.mp H
      obtain ⟨⟨t227,t228⟩,A270,H⟩ :=H
      replace H:(if t228=0 then (some (t227,a0_0,a0_1,a0_2,a0_3,a0_4,a0_5,a0_6,a0_7,a0_8,a0_9,a0_10,a0_11,a0_12,0,0)) else (some (0,0,0,0,0,false,0,false,0,false,0,false,0,false,0,t228)))=some (r1,r2,r3,r4,r5,r6,r7,r8,r9,r10,r11,r12,r13,r14,r15,r16):=H
      have A27:=Aside0.mk A270
      clear A270
      by_cases c28:t228=0
      ·rw [if_pos c28] at H
       have c28b0:(t228 == 0)=true:=beq_iff_eq.mpr c28
       have c28b1:(t228 != 0)=false:=bne_eq_false_iff_eq.mpr c28
       clear c28
       simp only [Option.some.injEq,Prod.mk.injEq] at H
       obtain ⟨rfl,rfl,rfl,rfl,rfl,rfl,rfl,rfl,rfl,rfl,rfl,rfl,rfl,rfl,rfl,rfl⟩ :=H
       have hnb29:=NB224_225.out
       have hnc29:=NB225_224.out
       have hcz30_0:wc.cell? ⟨gb224,0,none⟩=some (.int .i64 a0_0):=(blk_cell BK224.out 0).trans rfl
       have hcz30_1:wc.cell? ⟨gb224,1,none⟩=some (.int .u64 a0_1):=(blk_cell BK224.out 1).trans rfl
       have hcz30_2:wc.cell? ⟨gb224,2,none⟩=some (.int .i64 a0_2):=(blk_cell BK224.out 2).trans rfl
       have hcz30_3:wc.cell? ⟨gb224,3,none⟩=some (.int .u64 a0_3):=(blk_cell BK224.out 3).trans rfl
       have hcz30_4:wc.cell? ⟨gb224,4,none⟩=some (.bool a0_4):=(blk_cell BK224.out 4).trans rfl
       have hcz30_5:wc.cell? ⟨gb224,5,none⟩=some (.int .u64 a0_5):=(blk_cell BK224.out 5).trans rfl
       have hcz30_6:wc.cell? ⟨gb224,6,none⟩=some (.bool a0_6):=(blk_cell BK224.out 6).trans rfl
       have hcz30_7:wc.cell? ⟨gb224,7,none⟩=some (.int .u64 a0_7):=(blk_cell BK224.out 7).trans rfl
       have hcz30_8:wc.cell? ⟨gb224,8,none⟩=some (.bool a0_8):=(blk_cell BK224.out 8).trans rfl
       have hcz30_9:wc.cell? ⟨gb224,9,none⟩=some (.int .u64 a0_9):=(blk_cell BK224.out 9).trans rfl
       have hcz30_10:wc.cell? ⟨gb224,10,none⟩=some (.bool a0_10):=(blk_cell BK224.out 10).trans rfl
       have hcz30_11:wc.cell? ⟨gb224,11,none⟩=some (.int .u64 a0_11):=(blk_cell BK224.out 11).trans rfl
       have hcz30_12:wc.cell? ⟨gb224,12,none⟩=some (.bool a0_12):=(blk_cell BK224.out 12).trans rfl
       have hfz30_0:=blk_frozen BK224.out 0
       have hfz30_1:=blk_frozen BK224.out 1
       have hfz30_2:=blk_frozen BK224.out 2
       have hfz30_3:=blk_frozen BK224.out 3
       have hfz30_4:=blk_frozen BK224.out 4
       have hfz30_5:=blk_frozen BK224.out 5
       have hfz30_6:=blk_frozen BK224.out 6
       have hfz30_7:=blk_frozen BK224.out 7
       have hfz30_8:=blk_frozen BK224.out 8
       have hfz30_9:=blk_frozen BK224.out 9
       have hfz30_10:=blk_frozen BK224.out 10
       have hfz30_11:=blk_frozen BK224.out 11
       have hfz30_12:=blk_frozen BK224.out 12
       try go_wp2_with (first | ((with_reducible refine gate_callee (f:=11) rfl ?_); refine goesL_ (some 45) rfl rfl Tryd.func11 (by kernel_rfl) rfl #[.agg #[.int .i64 a0_0,.int .u64 a0_1,.int .i64 a0_2,.int .u64 a0_3,.bool a0_4,.int .u64 a0_5,.bool a0_6,.int .u64 a0_7,.bool a0_8,.int .u64 a0_9,.bool a0_10,.int .u64 a0_11,.bool a0_12],.int .u64 a2,.int .u64 0] rfl (by (try simp only [List.map_toArray,List.map_cons,List.map_nil]); first | done | rfl | (simp only [List.length_drop,List.length_take]; rfl)) ?_; (with_reducible refine (complineref23_First.calls kj5 a0_0 a0_1 a0_2 a0_3 a0_4 a0_5 a0_6 a0_7 a0_8 a0_9 a0_10 a0_11 a0_12 a2 0 t227 t228 _ A27.out).mono ?_); rintro e w31 ⟨rfl,hb⟩; refine ⟨_,rfl,?_⟩; have n0_:=Aside0.mk (blk_below (g:=gb224) (o:=.cells #[.int .i64 a0_0,.int .u64 a0_1,.int .i64 a0_2,.int .u64 a0_3,.bool a0_4,.int .u64 a0_5,.bool a0_6,.int .u64 a0_7,.bool a0_8,.int .u64 a0_9,.bool a0_10,.int .u64 a0_11,.bool a0_12] 28 (0,0)) (by (with_reducible repeat (first | refine blk_drewN ?_ _ | refine blk_drew ?_ | refine blk_alloc ?_ _)); exact BK224.out) hb); have n1_:=Aside0.mk (blk_below (g:=gb225) (o:=.cells #[.int .i64 0,.int .u64 0,.int .i64 0,.int .u64 0,.bool false,.int .u64 0,.bool false,.int .u64 0,.bool false,.int .u64 0,.bool false,.int .u64 0,.bool false] 28 (0,0)) (by (with_reducible repeat (first | refine blk_drewN ?_ _ | refine blk_drew ?_ | refine blk_alloc ?_ _)); exact BK225.out) hb); have n2_:=Aside0.mk (below_step (by repeat (first | (with_reducible first | exact HB.out | apply below_alloc | apply pw_below_drewN | apply below_drew1 | refine below_set ?_ GE224.out | refine below_set ?_ GE225.out) | exact HB.out)) hb); clear BK224; clear BK225; clear HB; have BK224:=n0_; have BK225:=n1_; have HB:=n2_; clear n0_ n1_ n2_; (try clear hb); (try clear hb2); (try clear hk); (try clear hi)))
       have n0_:=Aside0.mk (blk_drew BK224.out)
       have n1_:=Aside0.mk (blk_drew BK225.out)
       have n2_:=Aside0.mk (below_drew1 HB.out)
       clear BK224
       clear BK225
       clear HB
       have BK224:=n0_
       have BK225:=n1_
       have HB:=n2_
       clear n0_ n1_ n2_
       refine start_ (n:=6) (S:=fun w'=>w'.cell? ⟨gb224,0,none⟩=some (.int .i64 a0_0)∧w'.cell? ⟨gb224,1,none⟩=some (.int .u64 a0_1)∧w'.cell? ⟨gb224,2,none⟩=some (.int .i64 a0_2)∧w'.cell? ⟨gb224,3,none⟩=some (.int .u64 a0_3)∧w'.cell? ⟨gb224,4,none⟩=some (.bool a0_4)∧w'.cell? ⟨gb224,5,none⟩=some (.int .u64 a0_5)∧w'.cell? ⟨gb224,6,none⟩=some (.bool a0_6)∧w'.cell? ⟨gb224,7,none⟩=some (.int .u64 a0_7)∧w'.cell? ⟨gb224,8,none⟩=some (.bool a0_8)∧w'.cell? ⟨gb224,9,none⟩=some (.int .u64 a0_9)∧w'.cell? ⟨gb224,10,none⟩=some (.bool a0_10)∧w'.cell? ⟨gb224,11,none⟩=some (.int .u64 a0_11)∧w'.cell? ⟨gb224,12,none⟩=some (.bool a0_12)) (ds:=[]) #[false,false,false,false,false,false] (by kernel_rfl) rfl rfl ⟨(blk_cell BK224.out 0).trans rfl,(blk_cell BK224.out 1).trans rfl,(blk_cell BK224.out 2).trans rfl,(blk_cell BK224.out 3).trans rfl,(blk_cell BK224.out 4).trans rfl,(blk_cell BK224.out 5).trans rfl,(blk_cell BK224.out 6).trans rfl,(blk_cell BK224.out 7).trans rfl,(blk_cell BK224.out 8).trans rfl,(blk_cell BK224.out 9).trans rfl,(blk_cell BK224.out 10).trans rfl,(blk_cell BK224.out 11).trans rfl,(blk_cell BK224.out 12).trans rfl⟩ (fun hHeld=>?_)
       generalize w31.drew=w32 at BK224 BK225 HB hHeld ⊢
       refine pure_ (i:=0) (N:=some 52) (v:=?_) (a':=?_) #[true,false,false,false,false,false] rfl rfl (by kernel_rfl) (fun _ _ _ h=>h) (Or.inl ⟨by rfl,?_⟩) ?_ ?_
       rotate_left
       ·intro w'
        go_simp
        with_reducible rfl
       rotate_left
       ·simp only [Act.put,List.setIfInBounds_toArray,List.set_cons_zero,List.set_cons_succ,i64_w,i32_w]
        rfl
       refine pure_ (i:=2) (N:=some 6) (v:=?_) (a':=?_) #[true,false,true,false,false,false] rfl rfl (by kernel_rfl) (fun _ _ _ h=>h) (Or.inl ⟨by rfl,?_⟩) ?_ ?_
       rotate_left
       ·intro w'
        go_simp
        with_reducible rfl
       rotate_left
       ·simp only [Act.put,List.setIfInBounds_toArray,List.set_cons_zero,List.set_cons_succ,i64_w,i32_w]
        rfl
       refine take_ (i:=1) (N:=some 53) (v:=?_) (a':=?_) #[true,true,true,false,false,false] rfl rfl (by kernel_rfl) (fun _ _ _ h=>h) (Or.inl ⟨by rfl,?_⟩) hHeld ?_ ?_
       rotate_left
       ·rintro w' ⟨s0,s1,s2,s3,s4,s5,s6,s7,s8,s9,s10,s11,s12⟩
        go_simp
        with_reducible rfl
       rotate_left
       ·simp only [Act.put,List.setIfInBounds_toArray,List.set_cons_zero,List.set_cons_succ,i64_w,i32_w]
        rfl
       refine one_ (i:=3) (N:=none) #[true,true,true,true,false,false] rfl rfl (by kernel_rfl) (by decide) (fun K hK=>?_)
       have hs33:w32.cell? ⟨gb225,0,none⟩=some (.int .i64 0):=(blk_cell BK225.out 0).trans rfl
       have hfs33:=blk_frozen BK225.out 0
       have hns33_0:=NB224_225.out
       have hms33_0:=NB225_224.out
       have hs34:w32.cell? ⟨gb225,1,none⟩=some (.int .u64 0):=(blk_cell BK225.out 1).trans rfl
       have hfs34:=blk_frozen BK225.out 1
       have hns34_0:=NB224_225.out
       have hms34_0:=NB225_224.out
       have hs35:w32.cell? ⟨gb225,2,none⟩=some (.int .i64 0):=(blk_cell BK225.out 2).trans rfl
       have hfs35:=blk_frozen BK225.out 2
       have hns35_0:=NB224_225.out
       have hms35_0:=NB225_224.out
       have hs36:w32.cell? ⟨gb225,3,none⟩=some (.int .u64 0):=(blk_cell BK225.out 3).trans rfl
       have hfs36:=blk_frozen BK225.out 3
       have hns36_0:=NB224_225.out
       have hms36_0:=NB225_224.out
       have hs37:w32.cell? ⟨gb225,4,none⟩=some (.bool false):=(blk_cell BK225.out 4).trans rfl
       have hfs37:=blk_frozen BK225.out 4
       have hns37_0:=NB224_225.out
       have hms37_0:=NB225_224.out
       have hs38:w32.cell? ⟨gb225,5,none⟩=some (.int .u64 0):=(blk_cell BK225.out 5).trans rfl
       have hfs38:=blk_frozen BK225.out 5
       have hns38_0:=NB224_225.out
       have hms38_0:=NB225_224.out
       have hs39:w32.cell? ⟨gb225,6,none⟩=some (.bool false):=(blk_cell BK225.out 6).trans rfl
       have hfs39:=blk_frozen BK225.out 6
       have hns39_0:=NB224_225.out
       have hms39_0:=NB225_224.out
       have hs40:w32.cell? ⟨gb225,7,none⟩=some (.int .u64 0):=(blk_cell BK225.out 7).trans rfl
       have hfs40:=blk_frozen BK225.out 7
       have hns40_0:=NB224_225.out
       have hms40_0:=NB225_224.out
       have hs41:w32.cell? ⟨gb225,8,none⟩=some (.bool false):=(blk_cell BK225.out 8).trans rfl
       have hfs41:=blk_frozen BK225.out 8
       have hns41_0:=NB224_225.out
       have hms41_0:=NB225_224.out
       have hs42:w32.cell? ⟨gb225,9,none⟩=some (.int .u64 0):=(blk_cell BK225.out 9).trans rfl
       have hfs42:=blk_frozen BK225.out 9
       have hns42_0:=NB224_225.out
       have hms42_0:=NB225_224.out
       have hs43:w32.cell? ⟨gb225,10,none⟩=some (.bool false):=(blk_cell BK225.out 10).trans rfl
       have hfs43:=blk_frozen BK225.out 10
       have hns43_0:=NB224_225.out
       have hms43_0:=NB225_224.out
       have hs44:w32.cell? ⟨gb225,11,none⟩=some (.int .u64 0):=(blk_cell BK225.out 11).trans rfl
       have hfs44:=blk_frozen BK225.out 11
       have hns44_0:=NB224_225.out
       have hms44_0:=NB225_224.out
       have hs45:w32.cell? ⟨gb225,12,none⟩=some (.bool false):=(blk_cell BK225.out 12).trans rfl
       have hfs45:=blk_frozen BK225.out 12
       have hns45_0:=NB224_225.out
       have hms45_0:=NB225_224.out
       refine skip_ (w1:=?_) (by rfl) rfl ?_ ?_
       rotate_left
       ·go_simp
        rfl
       refine hK.out _ _ ⟨((cell_far (p:=⟨gb225,_,none⟩) NB224_225.out _).trans (((cell_far (p:=⟨gb225,_,none⟩) NB224_225.out _).trans (((cell_far (p:=⟨gb225,_,none⟩) NB224_225.out _).trans (((cell_far (p:=⟨gb225,_,none⟩) NB224_225.out _).trans (((cell_far (p:=⟨gb225,_,none⟩) NB224_225.out _).trans (((cell_far (p:=⟨gb225,_,none⟩) NB224_225.out _).trans (((cell_far (p:=⟨gb225,_,none⟩) NB224_225.out _).trans (((cell_far (p:=⟨gb225,_,none⟩) NB224_225.out _).trans (((cell_far (p:=⟨gb225,_,none⟩) NB224_225.out _).trans (((cell_far (p:=⟨gb225,_,none⟩) NB224_225.out _).trans (((cell_far (p:=⟨gb225,_,none⟩) NB224_225.out _).trans (((cell_far (p:=⟨gb225,_,none⟩) NB224_225.out _).trans (((cell_far (p:=⟨gb225,_,none⟩) NB224_225.out _).trans (hHeld.1)))))))))))))))))))))))))),((cell_far (p:=⟨gb225,_,none⟩) NB224_225.out _).trans (((cell_far (p:=⟨gb225,_,none⟩) NB224_225.out _).trans (((cell_far (p:=⟨gb225,_,none⟩) NB224_225.out _).trans (((cell_far (p:=⟨gb225,_,none⟩) NB224_225.out _).trans (((cell_far (p:=⟨gb225,_,none⟩) NB224_225.out _).trans (((cell_far (p:=⟨gb225,_,none⟩) NB224_225.out _).trans (((cell_far (p:=⟨gb225,_,none⟩) NB224_225.out _).trans (((cell_far (p:=⟨gb225,_,none⟩) NB224_225.out _).trans (((cell_far (p:=⟨gb225,_,none⟩) NB224_225.out _).trans (((cell_far (p:=⟨gb225,_,none⟩) NB224_225.out _).trans (((cell_far (p:=⟨gb225,_,none⟩) NB224_225.out _).trans (((cell_far (p:=⟨gb225,_,none⟩) NB224_225.out _).trans (((cell_far (p:=⟨gb225,_,none⟩) NB224_225.out _).trans (hHeld.2.1)))))))))))))))))))))))))),((cell_far (p:=⟨gb225,_,none⟩) NB224_225.out _).trans (((cell_far (p:=⟨gb225,_,none⟩) NB224_225.out _).trans (((cell_far (p:=⟨gb225,_,none⟩) NB224_225.out _).trans (((cell_far (p:=⟨gb225,_,none⟩) NB224_225.out _).trans (((cell_far (p:=⟨gb225,_,none⟩) NB224_225.out _).trans (((cell_far (p:=⟨gb225,_,none⟩) NB224_225.out _).trans (((cell_far (p:=⟨gb225,_,none⟩) NB224_225.out _).trans (((cell_far (p:=⟨gb225,_,none⟩) NB224_225.out _).trans (((cell_far (p:=⟨gb225,_,none⟩) NB224_225.out _).trans (((cell_far (p:=⟨gb225,_,none⟩) NB224_225.out _).trans (((cell_far (p:=⟨gb225,_,none⟩) NB224_225.out _).trans (((cell_far (p:=⟨gb225,_,none⟩) NB224_225.out _).trans (((cell_far (p:=⟨gb225,_,none⟩) NB224_225.out _).trans (hHeld.2.2.1)))))))))))))))))))))))))),((cell_far (p:=⟨gb225,_,none⟩) NB224_225.out _).trans (((cell_far (p:=⟨gb225,_,none⟩) NB224_225.out _).trans (((cell_far (p:=⟨gb225,_,none⟩) NB224_225.out _).trans (((cell_far (p:=⟨gb225,_,none⟩) NB224_225.out _).trans (((cell_far (p:=⟨gb225,_,none⟩) NB224_225.out _).trans (((cell_far (p:=⟨gb225,_,none⟩) NB224_225.out _).trans (((cell_far (p:=⟨gb225,_,none⟩) NB224_225.out _).trans (((cell_far (p:=⟨gb225,_,none⟩) NB224_225.out _).trans (((cell_far (p:=⟨gb225,_,none⟩) NB224_225.out _).trans (((cell_far (p:=⟨gb225,_,none⟩) NB224_225.out _).trans (((cell_far (p:=⟨gb225,_,none⟩) NB224_225.out _).trans (((cell_far (p:=⟨gb225,_,none⟩) NB224_225.out _).trans (((cell_far (p:=⟨gb225,_,none⟩) NB224_225.out _).trans (hHeld.2.2.2.1)))))))))))))))))))))))))),((cell_far (p:=⟨gb225,_,none⟩) NB224_225.out _).trans (((cell_far (p:=⟨gb225,_,none⟩) NB224_225.out _).trans (((cell_far (p:=⟨gb225,_,none⟩) NB224_225.out _).trans (((cell_far (p:=⟨gb225,_,none⟩) NB224_225.out _).trans (((cell_far (p:=⟨gb225,_,none⟩) NB224_225.out _).trans (((cell_far (p:=⟨gb225,_,none⟩) NB224_225.out _).trans (((cell_far (p:=⟨gb225,_,none⟩) NB224_225.out _).trans (((cell_far (p:=⟨gb225,_,none⟩) NB224_225.out _).trans (((cell_far (p:=⟨gb225,_,none⟩) NB224_225.out _).trans (((cell_far (p:=⟨gb225,_,none⟩) NB224_225.out _).trans (((cell_far (p:=⟨gb225,_,none⟩) NB224_225.out _).trans (((cell_far (p:=⟨gb225,_,none⟩) NB224_225.out _).trans (((cell_far (p:=⟨gb225,_,none⟩) NB224_225.out _).trans (hHeld.2.2.2.2.1)))))))))))))))))))))))))),((cell_far (p:=⟨gb225,_,none⟩) NB224_225.out _).trans (((cell_far (p:=⟨gb225,_,none⟩) NB224_225.out _).trans (((cell_far (p:=⟨gb225,_,none⟩) NB224_225.out _).trans (((cell_far (p:=⟨gb225,_,none⟩) NB224_225.out _).trans (((cell_far (p:=⟨gb225,_,none⟩) NB224_225.out _).trans (((cell_far (p:=⟨gb225,_,none⟩) NB224_225.out _).trans (((cell_far (p:=⟨gb225,_,none⟩) NB224_225.out _).trans (((cell_far (p:=⟨gb225,_,none⟩) NB224_225.out _).trans (((cell_far (p:=⟨gb225,_,none⟩) NB224_225.out _).trans (((cell_far (p:=⟨gb225,_,none⟩) NB224_225.out _).trans (((cell_far (p:=⟨gb225,_,none⟩) NB224_225.out _).trans (((cell_far (p:=⟨gb225,_,none⟩) NB224_225.out _).trans (((cell_far (p:=⟨gb225,_,none⟩) NB224_225.out _).trans (hHeld.2.2.2.2.2.1)))))))))))))))))))))))))),((cell_far (p:=⟨gb225,_,none⟩) NB224_225.out _).trans (((cell_far (p:=⟨gb225,_,none⟩) NB224_225.out _).trans (((cell_far (p:=⟨gb225,_,none⟩) NB224_225.out _).trans (((cell_far (p:=⟨gb225,_,none⟩) NB224_225.out _).trans (((cell_far (p:=⟨gb225,_,none⟩) NB224_225.out _).trans (((cell_far (p:=⟨gb225,_,none⟩) NB224_225.out _).trans (((cell_far (p:=⟨gb225,_,none⟩) NB224_225.out _).trans (((cell_far (p:=⟨gb225,_,none⟩) NB224_225.out _).trans (((cell_far (p:=⟨gb225,_,none⟩) NB224_225.out _).trans (((cell_far (p:=⟨gb225,_,none⟩) NB224_225.out _).trans (((cell_far (p:=⟨gb225,_,none⟩) NB224_225.out _).trans (((cell_far (p:=⟨gb225,_,none⟩) NB224_225.out _).trans (((cell_far (p:=⟨gb225,_,none⟩) NB224_225.out _).trans (hHeld.2.2.2.2.2.2.1)))))))))))))))))))))))))),((cell_far (p:=⟨gb225,_,none⟩) NB224_225.out _).trans (((cell_far (p:=⟨gb225,_,none⟩) NB224_225.out _).trans (((cell_far (p:=⟨gb225,_,none⟩) NB224_225.out _).trans (((cell_far (p:=⟨gb225,_,none⟩) NB224_225.out _).trans (((cell_far (p:=⟨gb225,_,none⟩) NB224_225.out _).trans (((cell_far (p:=⟨gb225,_,none⟩) NB224_225.out _).trans (((cell_far (p:=⟨gb225,_,none⟩) NB224_225.out _).trans (((cell_far (p:=⟨gb225,_,none⟩) NB224_225.out _).trans (((cell_far (p:=⟨gb225,_,none⟩) NB224_225.out _).trans (((cell_far (p:=⟨gb225,_,none⟩) NB224_225.out _).trans (((cell_far (p:=⟨gb225,_,none⟩) NB224_225.out _).trans (((cell_far (p:=⟨gb225,_,none⟩) NB224_225.out _).trans (((cell_far (p:=⟨gb225,_,none⟩) NB224_225.out _).trans (hHeld.2.2.2.2.2.2.2.1)))))))))))))))))))))))))),((cell_far (p:=⟨gb225,_,none⟩) NB224_225.out _).trans (((cell_far (p:=⟨gb225,_,none⟩) NB224_225.out _).trans (((cell_far (p:=⟨gb225,_,none⟩) NB224_225.out _).trans (((cell_far (p:=⟨gb225,_,none⟩) NB224_225.out _).trans (((cell_far (p:=⟨gb225,_,none⟩) NB224_225.out _).trans (((cell_far (p:=⟨gb225,_,none⟩) NB224_225.out _).trans (((cell_far (p:=⟨gb225,_,none⟩) NB224_225.out _).trans (((cell_far (p:=⟨gb225,_,none⟩) NB224_225.out _).trans (((cell_far (p:=⟨gb225,_,none⟩) NB224_225.out _).trans (((cell_far (p:=⟨gb225,_,none⟩) NB224_225.out _).trans (((cell_far (p:=⟨gb225,_,none⟩) NB224_225.out _).trans (((cell_far (p:=⟨gb225,_,none⟩) NB224_225.out _).trans (((cell_far (p:=⟨gb225,_,none⟩) NB224_225.out _).trans (hHeld.2.2.2.2.2.2.2.2.1)))))))))))))))))))))))))),((cell_far (p:=⟨gb225,_,none⟩) NB224_225.out _).trans (((cell_far (p:=⟨gb225,_,none⟩) NB224_225.out _).trans (((cell_far (p:=⟨gb225,_,none⟩) NB224_225.out _).trans (((cell_far (p:=⟨gb225,_,none⟩) NB224_225.out _).trans (((cell_far (p:=⟨gb225,_,none⟩) NB224_225.out _).trans (((cell_far (p:=⟨gb225,_,none⟩) NB224_225.out _).trans (((cell_far (p:=⟨gb225,_,none⟩) NB224_225.out _).trans (((cell_far (p:=⟨gb225,_,none⟩) NB224_225.out _).trans (((cell_far (p:=⟨gb225,_,none⟩) NB224_225.out _).trans (((cell_far (p:=⟨gb225,_,none⟩) NB224_225.out _).trans (((cell_far (p:=⟨gb225,_,none⟩) NB224_225.out _).trans (((cell_far (p:=⟨gb225,_,none⟩) NB224_225.out _).trans (((cell_far (p:=⟨gb225,_,none⟩) NB224_225.out _).trans (hHeld.2.2.2.2.2.2.2.2.2.1)))))))))))))))))))))))))),((cell_far (p:=⟨gb225,_,none⟩) NB224_225.out _).trans (((cell_far (p:=⟨gb225,_,none⟩) NB224_225.out _).trans (((cell_far (p:=⟨gb225,_,none⟩) NB224_225.out _).trans (((cell_far (p:=⟨gb225,_,none⟩) NB224_225.out _).trans (((cell_far (p:=⟨gb225,_,none⟩) NB224_225.out _).trans (((cell_far (p:=⟨gb225,_,none⟩) NB224_225.out _).trans (((cell_far (p:=⟨gb225,_,none⟩) NB224_225.out _).trans (((cell_far (p:=⟨gb225,_,none⟩) NB224_225.out _).trans (((cell_far (p:=⟨gb225,_,none⟩) NB224_225.out _).trans (((cell_far (p:=⟨gb225,_,none⟩) NB224_225.out _).trans (((cell_far (p:=⟨gb225,_,none⟩) NB224_225.out _).trans (((cell_far (p:=⟨gb225,_,none⟩) NB224_225.out _).trans (((cell_far (p:=⟨gb225,_,none⟩) NB224_225.out _).trans (hHeld.2.2.2.2.2.2.2.2.2.2.1)))))))))))))))))))))))))),((cell_far (p:=⟨gb225,_,none⟩) NB224_225.out _).trans (((cell_far (p:=⟨gb225,_,none⟩) NB224_225.out _).trans (((cell_far (p:=⟨gb225,_,none⟩) NB224_225.out _).trans (((cell_far (p:=⟨gb225,_,none⟩) NB224_225.out _).trans (((cell_far (p:=⟨gb225,_,none⟩) NB224_225.out _).trans (((cell_far (p:=⟨gb225,_,none⟩) NB224_225.out _).trans (((cell_far (p:=⟨gb225,_,none⟩) NB224_225.out _).trans (((cell_far (p:=⟨gb225,_,none⟩) NB224_225.out _).trans (((cell_far (p:=⟨gb225,_,none⟩) NB224_225.out _).trans (((cell_far (p:=⟨gb225,_,none⟩) NB224_225.out _).trans (((cell_far (p:=⟨gb225,_,none⟩) NB224_225.out _).trans (((cell_far (p:=⟨gb225,_,none⟩) NB224_225.out _).trans (((cell_far (p:=⟨gb225,_,none⟩) NB224_225.out _).trans (hHeld.2.2.2.2.2.2.2.2.2.2.2.1)))))))))))))))))))))))))),((cell_far (p:=⟨gb225,_,none⟩) NB224_225.out _).trans (((cell_far (p:=⟨gb225,_,none⟩) NB224_225.out _).trans (((cell_far (p:=⟨gb225,_,none⟩) NB224_225.out _).trans (((cell_far (p:=⟨gb225,_,none⟩) NB224_225.out _).trans (((cell_far (p:=⟨gb225,_,none⟩) NB224_225.out _).trans (((cell_far (p:=⟨gb225,_,none⟩) NB224_225.out _).trans (((cell_far (p:=⟨gb225,_,none⟩) NB224_225.out _).trans (((cell_far (p:=⟨gb225,_,none⟩) NB224_225.out _).trans (((cell_far (p:=⟨gb225,_,none⟩) NB224_225.out _).trans (((cell_far (p:=⟨gb225,_,none⟩) NB224_225.out _).trans (((cell_far (p:=⟨gb225,_,none⟩) NB224_225.out _).trans (((cell_far (p:=⟨gb225,_,none⟩) NB224_225.out _).trans (((cell_far (p:=⟨gb225,_,none⟩) NB224_225.out _).trans (hHeld.2.2.2.2.2.2.2.2.2.2.2.2))))))))))))))))))))))))))⟩ (fun hHeld=>?_)
       clear hK K
       refine pure_ (i:=4) (N:=some 8) (v:=?_) (a':=?_) #[true,true,true,true,true,false] rfl rfl (by kernel_rfl) (fun _ _ _ h=>h) (Or.inl ⟨by rfl,?_⟩) ?_ ?_
       rotate_left
       ·intro w'
        go_simp
        with_reducible rfl
       rotate_left
       ·simp only [Act.put,List.setIfInBounds_toArray,List.set_cons_zero,List.set_cons_succ,i64_w,i32_w]
        rfl
       refine pure_ (i:=5) (N:=some 9) (v:=?_) (a':=?_) #[true,true,true,true,true,true] rfl rfl (by kernel_rfl) (fun _ _ _ h=>h) (Or.inl ⟨by rfl,?_⟩) ?_ ?_
       rotate_left
       ·intro w'
        go_simp
        with_reducible rfl
       rotate_left
       ·simp only [Act.put,List.setIfInBounds_toArray,List.set_cons_zero,List.set_cons_succ,i64_w,i32_w]
        rfl
       refine done_ (by kernel_rfl) ?_
       try go_wp2
       refine bodyPost_ret (results_list (rs:=[.tmp 6,.cell 7 28,.tmp 8,.tmp 9]) rfl (by simp) (.tmp (.cell gb225 28 #[.int .i64 a0_0,.int .u64 a0_1,.int .i64 a0_2,.int .u64 a0_3,.bool a0_4,.int .u64 a0_5,.bool a0_6,.int .u64 a0_7,.bool a0_8,.int .u64 a0_9,.bool a0_10,.int .u64 a0_11,.bool a0_12] (0,0) _ rfl (by (with_reducible repeat (first | refine blk_drewN ?_ _ | refine blk_drew ?_ | refine blk_alloc ?_ _)); refine blk_put (cs:=#[.int .i64 a0_0,.int .u64 a0_1,.int .i64 a0_2,.int .u64 a0_3,.bool a0_4,.int .u64 a0_5,.bool a0_6,.int .u64 a0_7,.bool a0_8,.int .u64 a0_9,.bool a0_10,.int .u64 a0_11,.bool false]) ?_ 12 _ rfl; (with_reducible repeat (first | refine blk_drewN ?_ _ | refine blk_drew ?_ | refine blk_alloc ?_ _)); refine blk_put (cs:=#[.int .i64 a0_0,.int .u64 a0_1,.int .i64 a0_2,.int .u64 a0_3,.bool a0_4,.int .u64 a0_5,.bool a0_6,.int .u64 a0_7,.bool a0_8,.int .u64 a0_9,.bool a0_10,.int .u64 0,.bool false]) ?_ 11 _ rfl; (with_reducible repeat (first | refine blk_drewN ?_ _ | refine blk_drew ?_ | refine blk_alloc ?_ _)); refine blk_put (cs:=#[.int .i64 a0_0,.int .u64 a0_1,.int .i64 a0_2,.int .u64 a0_3,.bool a0_4,.int .u64 a0_5,.bool a0_6,.int .u64 a0_7,.bool a0_8,.int .u64 a0_9,.bool false,.int .u64 0,.bool false]) ?_ 10 _ rfl; (with_reducible repeat (first | refine blk_drewN ?_ _ | refine blk_drew ?_ | refine blk_alloc ?_ _)); refine blk_put (cs:=#[.int .i64 a0_0,.int .u64 a0_1,.int .i64 a0_2,.int .u64 a0_3,.bool a0_4,.int .u64 a0_5,.bool a0_6,.int .u64 a0_7,.bool a0_8,.int .u64 0,.bool false,.int .u64 0,.bool false]) ?_ 9 _ rfl; (with_reducible repeat (first | refine blk_drewN ?_ _ | refine blk_drew ?_ | refine blk_alloc ?_ _)); refine blk_put (cs:=#[.int .i64 a0_0,.int .u64 a0_1,.int .i64 a0_2,.int .u64 a0_3,.bool a0_4,.int .u64 a0_5,.bool a0_6,.int .u64 a0_7,.bool false,.int .u64 0,.bool false,.int .u64 0,.bool false]) ?_ 8 _ rfl; (with_reducible repeat (first | refine blk_drewN ?_ _ | refine blk_drew ?_ | refine blk_alloc ?_ _)); refine blk_put (cs:=#[.int .i64 a0_0,.int .u64 a0_1,.int .i64 a0_2,.int .u64 a0_3,.bool a0_4,.int .u64 a0_5,.bool a0_6,.int .u64 0,.bool false,.int .u64 0,.bool false,.int .u64 0,.bool false]) ?_ 7 _ rfl; (with_reducible repeat (first | refine blk_drewN ?_ _ | refine blk_drew ?_ | refine blk_alloc ?_ _)); refine blk_put (cs:=#[.int .i64 a0_0,.int .u64 a0_1,.int .i64 a0_2,.int .u64 a0_3,.bool a0_4,.int .u64 a0_5,.bool false,.int .u64 0,.bool false,.int .u64 0,.bool false,.int .u64 0,.bool false]) ?_ 6 _ rfl; (with_reducible repeat (first | refine blk_drewN ?_ _ | refine blk_drew ?_ | refine blk_alloc ?_ _)); refine blk_put (cs:=#[.int .i64 a0_0,.int .u64 a0_1,.int .i64 a0_2,.int .u64 a0_3,.bool a0_4,.int .u64 0,.bool false,.int .u64 0,.bool false,.int .u64 0,.bool false,.int .u64 0,.bool false]) ?_ 5 _ rfl; (with_reducible repeat (first | refine blk_drewN ?_ _ | refine blk_drew ?_ | refine blk_alloc ?_ _)); refine blk_put (cs:=#[.int .i64 a0_0,.int .u64 a0_1,.int .i64 a0_2,.int .u64 a0_3,.bool false,.int .u64 0,.bool false,.int .u64 0,.bool false,.int .u64 0,.bool false,.int .u64 0,.bool false]) ?_ 4 _ rfl; (with_reducible repeat (first | refine blk_drewN ?_ _ | refine blk_drew ?_ | refine blk_alloc ?_ _)); refine blk_put (cs:=#[.int .i64 a0_0,.int .u64 a0_1,.int .i64 a0_2,.int .u64 0,.bool false,.int .u64 0,.bool false,.int .u64 0,.bool false,.int .u64 0,.bool false,.int .u64 0,.bool false]) ?_ 3 _ rfl; (with_reducible repeat (first | refine blk_drewN ?_ _ | refine blk_drew ?_ | refine blk_alloc ?_ _)); refine blk_put (cs:=#[.int .i64 a0_0,.int .u64 a0_1,.int .i64 0,.int .u64 0,.bool false,.int .u64 0,.bool false,.int .u64 0,.bool false,.int .u64 0,.bool false,.int .u64 0,.bool false]) ?_ 2 _ rfl; (with_reducible repeat (first | refine blk_drewN ?_ _ | refine blk_drew ?_ | refine blk_alloc ?_ _)); refine blk_put (cs:=#[.int .i64 a0_0,.int .u64 0,.int .i64 0,.int .u64 0,.bool false,.int .u64 0,.bool false,.int .u64 0,.bool false,.int .u64 0,.bool false,.int .u64 0,.bool false]) ?_ 1 _ rfl; (with_reducible repeat (first | refine blk_drewN ?_ _ | refine blk_drew ?_ | refine blk_alloc ?_ _)); refine blk_put (cs:=#[.int .i64 0,.int .u64 0,.int .i64 0,.int .u64 0,.bool false,.int .u64 0,.bool false,.int .u64 0,.bool false,.int .u64 0,.bool false,.int .u64 0,.bool false]) ?_ 0 _ rfl; (with_reducible repeat (first | refine blk_drewN ?_ _ | refine blk_drew ?_ | refine blk_alloc ?_ _)); exact BK225.out) Tryd.underlying28 rfl (by kernel_rfl) (.tmp (.tmp .nil))))) rfl ?_
       exact ⟨by first | rfl | (simp [errW_none,errW_some] <;> rfl) | (simp [*,errW_none,errW_some] <;> rfl),by repeat (first | (with_reducible first | exact HB.out | apply below_alloc | apply pw_below_drewN | apply below_drew1 | refine below_set ?_ GE224.out | refine below_set ?_ GE225.out) | exact HB.out)⟩
      ·rw [if_neg c28] at H
       have c28b0:(t228 == 0)=false:=beq_eq_false_iff_ne.mpr c28
       have c28b1:(t228 != 0)=true:=bne_iff_ne.mpr c28
       simp only [Option.some.injEq,Prod.mk.injEq] at H
       obtain ⟨rfl,rfl,rfl,rfl,rfl,rfl,rfl,rfl,rfl,rfl,rfl,rfl,rfl,rfl,rfl,rfl⟩ :=H
       have hnb46:=NB224_225.out
       have hnc46:=NB225_224.out
       have hcz47_0:wc.cell? ⟨gb224,0,none⟩=some (.int .i64 a0_0):=(blk_cell BK224.out 0).trans rfl
       have hcz47_1:wc.cell? ⟨gb224,1,none⟩=some (.int .u64 a0_1):=(blk_cell BK224.out 1).trans rfl
       have hcz47_2:wc.cell? ⟨gb224,2,none⟩=some (.int .i64 a0_2):=(blk_cell BK224.out 2).trans rfl
       have hcz47_3:wc.cell? ⟨gb224,3,none⟩=some (.int .u64 a0_3):=(blk_cell BK224.out 3).trans rfl
       have hcz47_4:wc.cell? ⟨gb224,4,none⟩=some (.bool a0_4):=(blk_cell BK224.out 4).trans rfl
       have hcz47_5:wc.cell? ⟨gb224,5,none⟩=some (.int .u64 a0_5):=(blk_cell BK224.out 5).trans rfl
       have hcz47_6:wc.cell? ⟨gb224,6,none⟩=some (.bool a0_6):=(blk_cell BK224.out 6).trans rfl
       have hcz47_7:wc.cell? ⟨gb224,7,none⟩=some (.int .u64 a0_7):=(blk_cell BK224.out 7).trans rfl
       have hcz47_8:wc.cell? ⟨gb224,8,none⟩=some (.bool a0_8):=(blk_cell BK224.out 8).trans rfl
       have hcz47_9:wc.cell? ⟨gb224,9,none⟩=some (.int .u64 a0_9):=(blk_cell BK224.out 9).trans rfl
       have hcz47_10:wc.cell? ⟨gb224,10,none⟩=some (.bool a0_10):=(blk_cell BK224.out 10).trans rfl
       have hcz47_11:wc.cell? ⟨gb224,11,none⟩=some (.int .u64 a0_11):=(blk_cell BK224.out 11).trans rfl
       have hcz47_12:wc.cell? ⟨gb224,12,none⟩=some (.bool a0_12):=(blk_cell BK224.out 12).trans rfl
       have hfz47_0:=blk_frozen BK224.out 0
       have hfz47_1:=blk_frozen BK224.out 1
       have hfz47_2:=blk_frozen BK224.out 2
       have hfz47_3:=blk_frozen BK224.out 3
       have hfz47_4:=blk_frozen BK224.out 4
       have hfz47_5:=blk_frozen BK224.out 5
       have hfz47_6:=blk_frozen BK224.out 6
       have hfz47_7:=blk_frozen BK224.out 7
       have hfz47_8:=blk_frozen BK224.out 8
       have hfz47_9:=blk_frozen BK224.out 9
       have hfz47_10:=blk_frozen BK224.out 10
       have hfz47_11:=blk_frozen BK224.out 11
       have hfz47_12:=blk_frozen BK224.out 12
       go_wp2_with (first | ((with_reducible refine gate_callee (f:=11) rfl ?_); refine goesL_ (some 45) rfl rfl Tryd.func11 (by kernel_rfl) rfl #[.agg #[.int .i64 a0_0,.int .u64 a0_1,.int .i64 a0_2,.int .u64 a0_3,.bool a0_4,.int .u64 a0_5,.bool a0_6,.int .u64 a0_7,.bool a0_8,.int .u64 a0_9,.bool a0_10,.int .u64 a0_11,.bool a0_12],.int .u64 a2,.int .u64 0] rfl (by (try simp only [List.map_toArray,List.map_cons,List.map_nil]); first | done | rfl | (simp only [List.length_drop,List.length_take]; rfl)) ?_; (with_reducible refine (complineref23_First.calls kj5 a0_0 a0_1 a0_2 a0_3 a0_4 a0_5 a0_6 a0_7 a0_8 a0_9 a0_10 a0_11 a0_12 a2 0 t227 t228 _ A27.out).mono ?_); rintro e w48 ⟨rfl,hb⟩; refine ⟨_,rfl,?_⟩; have n0_:=Aside0.mk (blk_below (g:=gb224) (o:=.cells #[.int .i64 a0_0,.int .u64 a0_1,.int .i64 a0_2,.int .u64 a0_3,.bool a0_4,.int .u64 a0_5,.bool a0_6,.int .u64 a0_7,.bool a0_8,.int .u64 a0_9,.bool a0_10,.int .u64 a0_11,.bool a0_12] 28 (0,0)) (by (with_reducible repeat (first | refine blk_drewN ?_ _ | refine blk_drew ?_ | refine blk_alloc ?_ _)); exact BK224.out) hb); have n1_:=Aside0.mk (blk_below (g:=gb225) (o:=.cells #[.int .i64 0,.int .u64 0,.int .i64 0,.int .u64 0,.bool false,.int .u64 0,.bool false,.int .u64 0,.bool false,.int .u64 0,.bool false,.int .u64 0,.bool false] 28 (0,0)) (by (with_reducible repeat (first | refine blk_drewN ?_ _ | refine blk_drew ?_ | refine blk_alloc ?_ _)); exact BK225.out) hb); have n2_:=Aside0.mk (below_step (by repeat (first | (with_reducible first | exact HB.out | apply below_alloc | apply pw_below_drewN | apply below_drew1 | refine below_set ?_ GE224.out | refine below_set ?_ GE225.out) | exact HB.out)) hb); clear BK224; clear BK225; clear HB; have BK224:=n0_; have BK225:=n1_; have HB:=n2_; clear n0_ n1_ n2_; (try clear hb); (try clear hb2); (try clear hk); (try clear hi); have hcz49_0:w48.cell? ⟨gb225,0,none⟩=some (.int .i64 0):=(blk_cell BK225.out 0).trans rfl; have hcz49_1:w48.cell? ⟨gb225,1,none⟩=some (.int .u64 0):=(blk_cell BK225.out 1).trans rfl; have hcz49_2:w48.cell? ⟨gb225,2,none⟩=some (.int .i64 0):=(blk_cell BK225.out 2).trans rfl; have hcz49_3:w48.cell? ⟨gb225,3,none⟩=some (.int .u64 0):=(blk_cell BK225.out 3).trans rfl; have hcz49_4:w48.cell? ⟨gb225,4,none⟩=some (.bool false):=(blk_cell BK225.out 4).trans rfl; have hcz49_5:w48.cell? ⟨gb225,5,none⟩=some (.int .u64 0):=(blk_cell BK225.out 5).trans rfl; have hcz49_6:w48.cell? ⟨gb225,6,none⟩=some (.bool false):=(blk_cell BK225.out 6).trans rfl; have hcz49_7:w48.cell? ⟨gb225,7,none⟩=some (.int .u64 0):=(blk_cell BK225.out 7).trans rfl; have hcz49_8:w48.cell? ⟨gb225,8,none⟩=some (.bool false):=(blk_cell BK225.out 8).trans rfl; have hcz49_9:w48.cell? ⟨gb225,9,none⟩=some (.int .u64 0):=(blk_cell BK225.out 9).trans rfl; have hcz49_10:w48.cell? ⟨gb225,10,none⟩=some (.bool false):=(blk_cell BK225.out 10).trans rfl; have hcz49_11:w48.cell? ⟨gb225,11,none⟩=some (.int .u64 0):=(blk_cell BK225.out 11).trans rfl; have hcz49_12:w48.cell? ⟨gb225,12,none⟩=some (.bool false):=(blk_cell BK225.out 12).trans rfl; have hfz49_0:=blk_frozen BK225.out 0; have hfz49_1:=blk_frozen BK225.out 1; have hfz49_2:=blk_frozen BK225.out 2; have hfz49_3:=blk_frozen BK225.out 3; have hfz49_4:=blk_frozen BK225.out 4; have hfz49_5:=blk_frozen BK225.out 5; have hfz49_6:=blk_frozen BK225.out 6; have hfz49_7:=blk_frozen BK225.out 7; have hfz49_8:=blk_frozen BK225.out 8; have hfz49_9:=blk_frozen BK225.out 9; have hfz49_10:=blk_frozen BK225.out 10; have hfz49_11:=blk_frozen BK225.out 11; have hfz49_12:=blk_frozen BK225.out 12))
       refine bodyPost_ret (results_list (rs:=[.tmp 6,.cell 7 28,.tmp 8,.tmp 9]) rfl (by simp) (.tmp (.cell gb225 28 #[.int .i64 0,.int .u64 0,.int .i64 0,.int .u64 0,.bool false,.int .u64 0,.bool false,.int .u64 0,.bool false,.int .u64 0,.bool false,.int .u64 0,.bool false] (0,0) _ rfl (by (with_reducible repeat (first | refine blk_drewN ?_ _ | refine blk_drew ?_ | refine blk_alloc ?_ _)); refine blk_put (cs:=#[.int .i64 0,.int .u64 0,.int .i64 0,.int .u64 0,.bool false,.int .u64 0,.bool false,.int .u64 0,.bool false,.int .u64 0,.bool false,.int .u64 0,.bool false]) ?_ 12 _ rfl; (with_reducible repeat (first | refine blk_drewN ?_ _ | refine blk_drew ?_ | refine blk_alloc ?_ _)); refine blk_put (cs:=#[.int .i64 0,.int .u64 0,.int .i64 0,.int .u64 0,.bool false,.int .u64 0,.bool false,.int .u64 0,.bool false,.int .u64 0,.bool false,.int .u64 0,.bool false]) ?_ 11 _ rfl; (with_reducible repeat (first | refine blk_drewN ?_ _ | refine blk_drew ?_ | refine blk_alloc ?_ _)); refine blk_put (cs:=#[.int .i64 0,.int .u64 0,.int .i64 0,.int .u64 0,.bool false,.int .u64 0,.bool false,.int .u64 0,.bool false,.int .u64 0,.bool false,.int .u64 0,.bool false]) ?_ 10 _ rfl; (with_reducible repeat (first | refine blk_drewN ?_ _ | refine blk_drew ?_ | refine blk_alloc ?_ _)); refine blk_put (cs:=#[.int .i64 0,.int .u64 0,.int .i64 0,.int .u64 0,.bool false,.int .u64 0,.bool false,.int .u64 0,.bool false,.int .u64 0,.bool false,.int .u64 0,.bool false]) ?_ 9 _ rfl; (with_reducible repeat (first | refine blk_drewN ?_ _ | refine blk_drew ?_ | refine blk_alloc ?_ _)); refine blk_put (cs:=#[.int .i64 0,.int .u64 0,.int .i64 0,.int .u64 0,.bool false,.int .u64 0,.bool false,.int .u64 0,.bool false,.int .u64 0,.bool false,.int .u64 0,.bool false]) ?_ 8 _ rfl; (with_reducible repeat (first | refine blk_drewN ?_ _ | refine blk_drew ?_ | refine blk_alloc ?_ _)); refine blk_put (cs:=#[.int .i64 0,.int .u64 0,.int .i64 0,.int .u64 0,.bool false,.int .u64 0,.bool false,.int .u64 0,.bool false,.int .u64 0,.bool false,.int .u64 0,.bool false]) ?_ 7 _ rfl; (with_reducible repeat (first | refine blk_drewN ?_ _ | refine blk_drew ?_ | refine blk_alloc ?_ _)); refine blk_put (cs:=#[.int .i64 0,.int .u64 0,.int .i64 0,.int .u64 0,.bool false,.int .u64 0,.bool false,.int .u64 0,.bool false,.int .u64 0,.bool false,.int .u64 0,.bool false]) ?_ 6 _ rfl; (with_reducible repeat (first | refine blk_drewN ?_ _ | refine blk_drew ?_ | refine blk_alloc ?_ _)); refine blk_put (cs:=#[.int .i64 0,.int .u64 0,.int .i64 0,.int .u64 0,.bool false,.int .u64 0,.bool false,.int .u64 0,.bool false,.int .u64 0,.bool false,.int .u64 0,.bool false]) ?_ 5 _ rfl; (with_reducible repeat (first | refine blk_drewN ?_ _ | refine blk_drew ?_ | refine blk_alloc ?_ _)); refine blk_put (cs:=#[.int .i64 0,.int .u64 0,.int .i64 0,.int .u64 0,.bool false,.int .u64 0,.bool false,.int .u64 0,.bool false,.int .u64 0,.bool false,.int .u64 0,.bool false]) ?_ 4 _ rfl; (with_reducible repeat (first | refine blk_drewN ?_ _ | refine blk_drew ?_ | refine blk_alloc ?_ _)); refine blk_put (cs:=#[.int .i64 0,.int .u64 0,.int .i64 0,.int .u64 0,.bool false,.int .u64 0,.bool false,.int .u64 0,.bool false,.int .u64 0,.bool false,.int .u64 0,.bool false]) ?_ 3 _ rfl; (with_reducible repeat (first | refine blk_drewN ?_ _ | refine blk_drew ?_ | refine blk_alloc ?_ _)); refine blk_put (cs:=#[.int .i64 0,.int .u64 0,.int .i64 0,.int .u64 0,.bool false,.int .u64 0,.bool false,.int .u64 0,.bool false,.int .u64 0,.bool false,.int .u64 0,.bool false]) ?_ 2 _ rfl; (with_reducible repeat (first | refine blk_drewN ?_ _ | refine blk_drew ?_ | refine blk_alloc ?_ _)); refine blk_put (cs:=#[.int .i64 0,.int .u64 0,.int .i64 0,.int .u64 0,.bool false,.int .u64 0,.bool false,.int .u64 0,.bool false,.int .u64 0,.bool false,.int .u64 0,.bool false]) ?_ 1 _ rfl; (with_reducible repeat (first | refine blk_drewN ?_ _ | refine blk_drew ?_ | refine blk_alloc ?_ _)); refine blk_put (cs:=#[.int .i64 0,.int .u64 0,.int .i64 0,.int .u64 0,.bool false,.int .u64 0,.bool false,.int .u64 0,.bool false,.int .u64 0,.bool false,.int .u64 0,.bool false]) ?_ 0 _ rfl; (with_reducible repeat (first | refine blk_drewN ?_ _ | refine blk_drew ?_ | refine blk_alloc ?_ _)); exact BK225.out) Tryd.underlying28 rfl (by kernel_rfl) (.tmp (.tmp .nil))))) rfl ?_
       exact ⟨by first | rfl | (simp [errW_none,errW_some] <;> rfl) | (simp [*,errW_none,errW_some] <;> rfl),by repeat (first | (with_reducible first | exact HB.out | apply below_alloc | apply pw_below_drewN | apply below_drew1 | refine below_set ?_ GE224.out | refine below_set ?_ GE225.out) | exact HB.out)⟩
     ·rw [if_neg c26] at H
      have c26b0:(a0_0 == 2)=false:=beq_eq_false_iff_ne.mpr c26
      have c26b1:(a0_0 != 2)=true:=bne_iff_ne.mpr c26
      replace H:=Option.bind_eq_some_iff.mp H
      obtain ⟨⟨t229,t230⟩,A500,H⟩ :=H
      replace H:(if a0_2 > 0 then (some (t229,a0_0,a0_1,wrap64 (a0_2 - 1),a0_3,a0_4,a0_5,a0_6,a0_7,a0_8,a0_9,a0_10,a0_11,a0_12,t230,0)) else (some (t229,a0_0,a0_1,a0_2,a0_3,a0_4,a0_5,a0_6,a0_7,a0_8,a0_9,a0_10,a0_11,a0_12,t230,0)))=some (r1,r2,r3,r4,r5,r6,r7,r8,r9,r10,r11,r12,r13,r14,r15,r16):=H
      have A50:=Aside0.mk A500
      clear A500
      by_cases c51:a0_2 > 0
      ·rw [if_pos c51] at H
       have c51b0:decide (0 < a0_2)=true:=decide_eq_true c51
       clear c51
       simp only [Option.some.injEq,Prod.mk.injEq] at H
       obtain ⟨rfl,rfl,rfl,rfl,rfl,rfl,rfl,rfl,rfl,rfl,rfl,rfl,rfl,rfl,rfl,rfl⟩ :=H
       have hnb52:=NB224_225.out
       have hnc52:=NB225_224.out
       have hcz53_0:wc.cell? ⟨gb224,0,none⟩=some (.int .i64 a0_0):=(blk_cell BK224.out 0).trans rfl
       have hcz53_1:wc.cell? ⟨gb224,1,none⟩=some (.int .u64 a0_1):=(blk_cell BK224.out 1).trans rfl
       have hcz53_2:wc.cell? ⟨gb224,2,none⟩=some (.int .i64 a0_2):=(blk_cell BK224.out 2).trans rfl
       have hcz53_3:wc.cell? ⟨gb224,3,none⟩=some (.int .u64 a0_3):=(blk_cell BK224.out 3).trans rfl
       have hcz53_4:wc.cell? ⟨gb224,4,none⟩=some (.bool a0_4):=(blk_cell BK224.out 4).trans rfl
       have hcz53_5:wc.cell? ⟨gb224,5,none⟩=some (.int .u64 a0_5):=(blk_cell BK224.out 5).trans rfl
       have hcz53_6:wc.cell? ⟨gb224,6,none⟩=some (.bool a0_6):=(blk_cell BK224.out 6).trans rfl
       have hcz53_7:wc.cell? ⟨gb224,7,none⟩=some (.int .u64 a0_7):=(blk_cell BK224.out 7).trans rfl
       have hcz53_8:wc.cell? ⟨gb224,8,none⟩=some (.bool a0_8):=(blk_cell BK224.out 8).trans rfl
       have hcz53_9:wc.cell? ⟨gb224,9,none⟩=some (.int .u64 a0_9):=(blk_cell BK224.out 9).trans rfl
       have hcz53_10:wc.cell? ⟨gb224,10,none⟩=some (.bool a0_10):=(blk_cell BK224.out 10).trans rfl
       have hcz53_11:wc.cell? ⟨gb224,11,none⟩=some (.int .u64 a0_11):=(blk_cell BK224.out 11).trans rfl
       have hcz53_12:wc.cell? ⟨gb224,12,none⟩=some (.bool a0_12):=(blk_cell BK224.out 12).trans rfl
       have hfz53_0:=blk_frozen BK224.out 0
       have hfz53_1:=blk_frozen BK224.out 1
       have hfz53_2:=blk_frozen BK224.out 2
       have hfz53_3:=blk_frozen BK224.out 3
       have hfz53_4:=blk_frozen BK224.out 4
       have hfz53_5:=blk_frozen BK224.out 5
       have hfz53_6:=blk_frozen BK224.out 6
       have hfz53_7:=blk_frozen BK224.out 7
       have hfz53_8:=blk_frozen BK224.out 8
       have hfz53_9:=blk_frozen BK224.out 9
       have hfz53_10:=blk_frozen BK224.out 10
       have hfz53_11:=blk_frozen BK224.out 11
       have hfz53_12:=blk_frozen BK224.out 12
       try go_wp2_with (first | ((with_reducible refine gate_callee (f:=30) rfl ?_); refine goesL_ (some 59) rfl rfl Tryd.func30 (by kernel_rfl) rfl #[.int .u64 a1,.int .u64 a0_1,.int .u64 a2] rfl (by (try simp only [List.map_toArray,List.map_cons,List.map_nil]); first | done | rfl | (simp only [List.length_drop,List.length_take]; rfl)) ?_; (with_reducible refine (complineref01_After.calls a1 a0_1 a2 t229 t230 _ A50.out).mono ?_); rintro e w' ⟨rfl,⟨nd,rfl⟩⟩; refine ⟨_,rfl,?_⟩; (try (rw [drewN_self wc]; generalize hq_:World.drewN wc _=wc; have n0_:Aside0 (wc.heap[gb224]?=some (.cells #[.int .i64 a0_0,.int .u64 a0_1,.int .i64 a0_2,.int .u64 a0_3,.bool a0_4,.int .u64 a0_5,.bool a0_6,.int .u64 a0_7,.bool a0_8,.int .u64 a0_9,.bool a0_10,.int .u64 a0_11,.bool a0_12] 28 (0,0))):=⟨by rw [← hq_]; exact (by (with_reducible repeat (first | refine blk_drewN ?_ _ | refine blk_drew ?_ | refine blk_alloc ?_ _)); exact BK224.out)⟩; have n1_:Aside0 (wc.heap[gb225]?=some (.cells #[.int .i64 0,.int .u64 0,.int .i64 0,.int .u64 0,.bool false,.int .u64 0,.bool false,.int .u64 0,.bool false,.int .u64 0,.bool false,.int .u64 0,.bool false] 28 (0,0))):=⟨by rw [← hq_]; exact (by (with_reducible repeat (first | refine blk_drewN ?_ _ | refine blk_drew ?_ | refine blk_alloc ?_ _)); exact BK225.out)⟩; have n2_:Aside0 (Below w.heap.size w wc):=⟨by rw [← hq_]; exact (by repeat (first | (with_reducible first | exact HB.out | apply below_alloc | apply pw_below_drewN | apply below_drew1 | refine below_set ?_ GE224.out | refine below_set ?_ GE225.out) | exact HB.out))⟩; clear BK224 BK225 HB hq_; have BK224:=n0_; have BK225:=n1_; have HB:=n2_; clear n0_ n1_ n2_)); have hczx_0:wc.cell? ⟨gb224,0,none⟩=some (.int .i64 a0_0):=(blk_cell BK224.out 0).trans rfl; have hczx_1:wc.cell? ⟨gb224,1,none⟩=some (.int .u64 a0_1):=(blk_cell BK224.out 1).trans rfl; have hczx_2:wc.cell? ⟨gb224,2,none⟩=some (.int .i64 a0_2):=(blk_cell BK224.out 2).trans rfl; have hczx_3:wc.cell? ⟨gb224,3,none⟩=some (.int .u64 a0_3):=(blk_cell BK224.out 3).trans rfl; have hczx_4:wc.cell? ⟨gb224,4,none⟩=some (.bool a0_4):=(blk_cell BK224.out 4).trans rfl; have hczx_5:wc.cell? ⟨gb224,5,none⟩=some (.int .u64 a0_5):=(blk_cell BK224.out 5).trans rfl; have hczx_6:wc.cell? ⟨gb224,6,none⟩=some (.bool a0_6):=(blk_cell BK224.out 6).trans rfl; have hczx_7:wc.cell? ⟨gb224,7,none⟩=some (.int .u64 a0_7):=(blk_cell BK224.out 7).trans rfl; have hczx_8:wc.cell? ⟨gb224,8,none⟩=some (.bool a0_8):=(blk_cell BK224.out 8).trans rfl; have hczx_9:wc.cell? ⟨gb224,9,none⟩=some (.int .u64 a0_9):=(blk_cell BK224.out 9).trans rfl; have hczx_10:wc.cell? ⟨gb224,10,none⟩=some (.bool a0_10):=(blk_cell BK224.out 10).trans rfl; have hczx_11:wc.cell? ⟨gb224,11,none⟩=some (.int .u64 a0_11):=(blk_cell BK224.out 11).trans rfl; have hczx_12:wc.cell? ⟨gb224,12,none⟩=some (.bool a0_12):=(blk_cell BK224.out 12).trans rfl; have hfzx_0:=blk_frozen BK224.out 0; have hfzx_1:=blk_frozen BK224.out 1; have hfzx_2:=blk_frozen BK224.out 2; have hfzx_3:=blk_frozen BK224.out 3; have hfzx_4:=blk_frozen BK224.out 4; have hfzx_5:=blk_frozen BK224.out 5; have hfzx_6:=blk_frozen BK224.out 6; have hfzx_7:=blk_frozen BK224.out 7; have hfzx_8:=blk_frozen BK224.out 8; have hfzx_9:=blk_frozen BK224.out 9; have hfzx_10:=blk_frozen BK224.out 10; have hfzx_11:=blk_frozen BK224.out 11; have hfzx_12:=blk_frozen BK224.out 12))
       have n0_:Aside0 ((wc.setCell ⟨gb224,2,none⟩ (.int .i64 (wrap64 (a0_2 - 1)))).heap[gb224]?=some (.cells #[.int .i64 a0_0,.int .u64 a0_1,.int .i64 (wrap64 (a0_2 - 1)),.int .u64 a0_3,.bool a0_4,.int .u64 a0_5,.bool a0_6,.int .u64 a0_7,.bool a0_8,.int .u64 a0_9,.bool a0_10,.int .u64 a0_11,.bool a0_12] 28 (0,0))):=⟨by (with_reducible repeat (first | refine blk_drewN ?_ _ | refine blk_drew ?_ | refine blk_alloc ?_ _)); refine blk_put (cs:=#[.int .i64 a0_0,.int .u64 a0_1,.int .i64 a0_2,.int .u64 a0_3,.bool a0_4,.int .u64 a0_5,.bool a0_6,.int .u64 a0_7,.bool a0_8,.int .u64 a0_9,.bool a0_10,.int .u64 a0_11,.bool a0_12]) ?_ 2 _ rfl; (with_reducible repeat (first | refine blk_drewN ?_ _ | refine blk_drew ?_ | refine blk_alloc ?_ _)); exact BK224.out⟩
       have n1_:Aside0 ((wc.setCell ⟨gb224,2,none⟩ (.int .i64 (wrap64 (a0_2 - 1)))).heap[gb225]?=some (.cells #[.int .i64 0,.int .u64 0,.int .i64 0,.int .u64 0,.bool false,.int .u64 0,.bool false,.int .u64 0,.bool false,.int .u64 0,.bool false,.int .u64 0,.bool false] 28 (0,0))):=⟨by (with_reducible repeat (first | refine blk_drewN ?_ _ | refine blk_drew ?_ | refine blk_alloc ?_ _)); refine blk_far ?_ NB225_224.out _; (with_reducible repeat (first | refine blk_drewN ?_ _ | refine blk_drew ?_ | refine blk_alloc ?_ _)); exact BK225.out⟩
       have n2_:Aside0 (Below w.heap.size w (wc.setCell ⟨gb224,2,none⟩ (.int .i64 (wrap64 (a0_2 - 1))))):=⟨by repeat (first | (with_reducible first | exact HB.out | apply below_alloc | apply pw_below_drewN | apply below_drew1 | refine below_set ?_ GE224.out | refine below_set ?_ GE225.out) | exact HB.out)⟩
       (try clear BK224)
       (try clear BK225)
       (try clear HB)
       generalize (wc.setCell ⟨gb224,2,none⟩ (.int .i64 (wrap64 (a0_2 - 1))))=w54 at n0_ n1_ n2_ ⊢
       have BK224:=n0_
       have BK225:=n1_
       have HB:=n2_
       clear n0_ n1_ n2_
       have n0_:=Aside0.mk (blk_drew BK224.out)
       have n1_:=Aside0.mk (blk_drew BK225.out)
       have n2_:=Aside0.mk (below_drew1 HB.out)
       clear BK224
       clear BK225
       clear HB
       have BK224:=n0_
       have BK225:=n1_
       have HB:=n2_
       clear n0_ n1_ n2_
       refine start_ (n:=7) (S:=fun w'=>w'.cell? ⟨gb224,0,none⟩=some (.int .i64 a0_0)∧w'.cell? ⟨gb224,1,none⟩=some (.int .u64 a0_1)∧w'.cell? ⟨gb224,2,none⟩=some (.int .i64 (wrap64 (a0_2 - 1)))∧w'.cell? ⟨gb224,3,none⟩=some (.int .u64 a0_3)∧w'.cell? ⟨gb224,4,none⟩=some (.bool a0_4)∧w'.cell? ⟨gb224,5,none⟩=some (.int .u64 a0_5)∧w'.cell? ⟨gb224,6,none⟩=some (.bool a0_6)∧w'.cell? ⟨gb224,7,none⟩=some (.int .u64 a0_7)∧w'.cell? ⟨gb224,8,none⟩=some (.bool a0_8)∧w'.cell? ⟨gb224,9,none⟩=some (.int .u64 a0_9)∧w'.cell? ⟨gb224,10,none⟩=some (.bool a0_10)∧w'.cell? ⟨gb224,11,none⟩=some (.int .u64 a0_11)∧w'.cell? ⟨gb224,12,none⟩=some (.bool a0_12)) (ds:=[]) #[false,false,false,false,false,false,false] (by kernel_rfl) rfl rfl ⟨(blk_cell BK224.out 0).trans rfl,(blk_cell BK224.out 1).trans rfl,(blk_cell BK224.out 2).trans rfl,(blk_cell BK224.out 3).trans rfl,(blk_cell BK224.out 4).trans rfl,(blk_cell BK224.out 5).trans rfl,(blk_cell BK224.out 6).trans rfl,(blk_cell BK224.out 7).trans rfl,(blk_cell BK224.out 8).trans rfl,(blk_cell BK224.out 9).trans rfl,(blk_cell BK224.out 10).trans rfl,(blk_cell BK224.out 11).trans rfl,(blk_cell BK224.out 12).trans rfl⟩ (fun hHeld=>?_)
       generalize w54.drew=w55 at BK224 BK225 HB hHeld ⊢
       refine pure_ (i:=0) (N:=some 69) (v:=?_) (a':=?_) #[true,false,false,false,false,false,false] rfl rfl (by kernel_rfl) (fun _ _ _ h=>h) (Or.inl ⟨by rfl,?_⟩) ?_ ?_
       rotate_left
       ·intro w'
        go_simp
        with_reducible rfl
       rotate_left
       ·simp only [Act.put,List.setIfInBounds_toArray,List.set_cons_zero,List.set_cons_succ,i64_w,i32_w]
        rfl
       refine pure_ (i:=2) (N:=some 71) (v:=?_) (a':=?_) #[true,false,true,false,false,false,false] rfl rfl (by kernel_rfl) (fun _ _ _ h=>h) (Or.inl ⟨by rfl,?_⟩) ?_ ?_
       rotate_left
       ·intro w'
        go_simp
        with_reducible rfl
       rotate_left
       ·simp only [Act.put,List.setIfInBounds_toArray,List.set_cons_zero,List.set_cons_succ,i64_w,i32_w]
        rfl
       refine pure_ (i:=3) (N:=some 6) (v:=?_) (a':=?_) #[true,false,true,true,false,false,false] rfl rfl (by kernel_rfl) (fun _ _ _ h=>h) (Or.inl ⟨by rfl,?_⟩) ?_ ?_
       rotate_left
       ·intro w'
        go_simp
        with_reducible rfl
       rotate_left
       ·simp only [Act.put,List.setIfInBounds_toArray,List.set_cons_zero,List.set_cons_succ,i64_w,i32_w]
        rfl
       refine take_ (i:=1) (N:=some 70) (v:=?_) (a':=?_) #[true,true,true,true,false,false,false] rfl rfl (by kernel_rfl) (fun _ _ _ h=>h) (Or.inl ⟨by rfl,?_⟩) hHeld ?_ ?_
       rotate_left
       ·rintro w' ⟨s0,s1,s2,s3,s4,s5,s6,s7,s8,s9,s10,s11,s12⟩
        go_simp
        with_reducible rfl
       rotate_left
       ·simp only [Act.put,List.setIfInBounds_toArray,List.set_cons_zero,List.set_cons_succ,i64_w,i32_w]
        rfl
       refine one_ (i:=4) (N:=none) #[true,true,true,true,true,false,false] rfl rfl (by kernel_rfl) (by decide) (fun K hK=>?_)
       have hs56:w55.cell? ⟨gb225,0,none⟩=some (.int .i64 0):=(blk_cell BK225.out 0).trans rfl
       have hfs56:=blk_frozen BK225.out 0
       have hns56_0:=NB224_225.out
       have hms56_0:=NB225_224.out
       have hs57:w55.cell? ⟨gb225,1,none⟩=some (.int .u64 0):=(blk_cell BK225.out 1).trans rfl
       have hfs57:=blk_frozen BK225.out 1
       have hns57_0:=NB224_225.out
       have hms57_0:=NB225_224.out
       have hs58:w55.cell? ⟨gb225,2,none⟩=some (.int .i64 0):=(blk_cell BK225.out 2).trans rfl
       have hfs58:=blk_frozen BK225.out 2
       have hns58_0:=NB224_225.out
       have hms58_0:=NB225_224.out
       have hs59:w55.cell? ⟨gb225,3,none⟩=some (.int .u64 0):=(blk_cell BK225.out 3).trans rfl
       have hfs59:=blk_frozen BK225.out 3
       have hns59_0:=NB224_225.out
       have hms59_0:=NB225_224.out
       have hs60:w55.cell? ⟨gb225,4,none⟩=some (.bool false):=(blk_cell BK225.out 4).trans rfl
       have hfs60:=blk_frozen BK225.out 4
       have hns60_0:=NB224_225.out
       have hms60_0:=NB225_224.out
       have hs61:w55.cell? ⟨gb225,5,none⟩=some (.int .u64 0):=(blk_cell BK225.out 5).trans rfl
       have hfs61:=blk_frozen BK225.out 5
       have hns61_0:=NB224_225.out
       have hms61_0:=NB225_224.out
       have hs62:w55.cell? ⟨gb225,6,none⟩=some (.bool false):=(blk_cell BK225.out 6).trans rfl
       have hfs62:=blk_frozen BK225.out 6
       have hns62_0:=NB224_225.out
       have hms62_0:=NB225_224.out
       have hs63:w55.cell? ⟨gb225,7,none⟩=some (.int .u64 0):=(blk_cell BK225.out 7).trans rfl
       have hfs63:=blk_frozen BK225.out 7
       have hns63_0:=NB224_225.out
       have hms63_0:=NB225_224.out
       have hs64:w55.cell? ⟨gb225,8,none⟩=some (.bool false):=(blk_cell BK225.out 8).trans rfl
       have hfs64:=blk_frozen BK225.out 8
       have hns64_0:=NB224_225.out
       have hms64_0:=NB225_224.out
       have hs65:w55.cell? ⟨gb225,9,none⟩=some (.int .u64 0):=(blk_cell BK225.out 9).trans rfl
       have hfs65:=blk_frozen BK225.out 9
       have hns65_0:=NB224_225.out
       have hms65_0:=NB225_224.out
       have hs66:w55.cell? ⟨gb225,10,none⟩=some (.bool false):=(blk_cell BK225.out 10).trans rfl
       have hfs66:=blk_frozen BK225.out 10
       have hns66_0:=NB224_225.out
       have hms66_0:=NB225_224.out
       have hs67:w55.cell? ⟨gb225,11,none⟩=some (.int .u64 0):=(blk_cell BK225.out 11).trans rfl
       have hfs67:=blk_frozen BK225.out 11
       have hns67_0:=NB224_225.out
       have hms67_0:=NB225_224.out
       have hs68:w55.cell? ⟨gb225,12,none⟩=some (.bool false):=(blk_cell BK225.out 12).trans rfl
       have hfs68:=blk_frozen BK225.out 12
       have hns68_0:=NB224_225.out
       have hms68_0:=NB225_224.out
       refine skip_ (w1:=?_) (by rfl) rfl ?_ ?_
       rotate_left
       ·go_simp
        rfl
       refine hK.out _ _ ⟨((cell_far (p:=⟨gb225,_,none⟩) NB224_225.out _).trans (((cell_far (p:=⟨gb225,_,none⟩) NB224_225.out _).trans (((cell_far (p:=⟨gb225,_,none⟩) NB224_225.out _).trans (((cell_far (p:=⟨gb225,_,none⟩) NB224_225.out _).trans (((cell_far (p:=⟨gb225,_,none⟩) NB224_225.out _).trans (((cell_far (p:=⟨gb225,_,none⟩) NB224_225.out _).trans (((cell_far (p:=⟨gb225,_,none⟩) NB224_225.out _).trans (((cell_far (p:=⟨gb225,_,none⟩) NB224_225.out _).trans (((cell_far (p:=⟨gb225,_,none⟩) NB224_225.out _).trans (((cell_far (p:=⟨gb225,_,none⟩) NB224_225.out _).trans (((cell_far (p:=⟨gb225,_,none⟩) NB224_225.out _).trans (((cell_far (p:=⟨gb225,_,none⟩) NB224_225.out _).trans (((cell_far (p:=⟨gb225,_,none⟩) NB224_225.out _).trans (hHeld.1)))))))))))))))))))))))))),((cell_far (p:=⟨gb225,_,none⟩) NB224_225.out _).trans (((cell_far (p:=⟨gb225,_,none⟩) NB224_225.out _).trans (((cell_far (p:=⟨gb225,_,none⟩) NB224_225.out _).trans (((cell_far (p:=⟨gb225,_,none⟩) NB224_225.out _).trans (((cell_far (p:=⟨gb225,_,none⟩) NB224_225.out _).trans (((cell_far (p:=⟨gb225,_,none⟩) NB224_225.out _).trans (((cell_far (p:=⟨gb225,_,none⟩) NB224_225.out _).trans (((cell_far (p:=⟨gb225,_,none⟩) NB224_225.out _).trans (((cell_far (p:=⟨gb225,_,none⟩) NB224_225.out _).trans (((cell_far (p:=⟨gb225,_,none⟩) NB224_225.out _).trans (((cell_far (p:=⟨gb225,_,none⟩) NB224_225.out _).trans (((cell_far (p:=⟨gb225,_,none⟩) NB224_225.out _).trans (((cell_far (p:=⟨gb225,_,none⟩) NB224_225.out _).trans (hHeld.2.1)))))))))))))))))))))))))),((cell_far (p:=⟨gb225,_,none⟩) NB224_225.out _).trans (((cell_far (p:=⟨gb225,_,none⟩) NB224_225.out _).trans (((cell_far (p:=⟨gb225,_,none⟩) NB224_225.out _).trans (((cell_far (p:=⟨gb225,_,none⟩) NB224_225.out _).trans (((cell_far (p:=⟨gb225,_,none⟩) NB224_225.out _).trans (((cell_far (p:=⟨gb225,_,none⟩) NB224_225.out _).trans (((cell_far (p:=⟨gb225,_,none⟩) NB224_225.out _).trans (((cell_far (p:=⟨gb225,_,none⟩) NB224_225.out _).trans (((cell_far (p:=⟨gb225,_,none⟩) NB224_225.out _).trans (((cell_far (p:=⟨gb225,_,none⟩) NB224_225.out _).trans (((cell_far (p:=⟨gb225,_,none⟩) NB224_225.out _).trans (((cell_far (p:=⟨gb225,_,none⟩) NB224_225.out _).trans (((cell_far (p:=⟨gb225,_,none⟩) NB224_225.out _).trans (hHeld.2.2.1)))))))))))))))))))))))))),((cell_far (p:=⟨gb225,_,none⟩) NB224_225.out _).trans (((cell_far (p:=⟨gb225,_,none⟩) NB224_225.out _).trans (((cell_far (p:=⟨gb225,_,none⟩) NB224_225.out _).trans (((cell_far (p:=⟨gb225,_,none⟩) NB224_225.out _).trans (((cell_far (p:=⟨gb225,_,none⟩) NB224_225.out _).trans (((cell_far (p:=⟨gb225,_,none⟩) NB224_225.out _).trans (((cell_far (p:=⟨gb225,_,none⟩) NB224_225.out _).trans (((cell_far (p:=⟨gb225,_,none⟩) NB224_225.out _).trans (((cell_far (p:=⟨gb225,_,none⟩) NB224_225.out _).trans (((cell_far (p:=⟨gb225,_,none⟩) NB224_225.out _).trans (((cell_far (p:=⟨gb225,_,none⟩) NB224_225.out _).trans (((cell_far (p:=⟨gb225,_,none⟩) NB224_225.out _).trans (((cell_far (p:=⟨gb225,_,none⟩) NB224_225.out _).trans (hHeld.2.2.2.1)))))))))))))))))))))))))),((cell_far (p:=⟨gb225,_,none⟩) NB224_225.out _).trans (((cell_far (p:=⟨gb225,_,none⟩) NB224_225.out _).trans (((cell_far (p:=⟨gb225,_,none⟩) NB224_225.out _).trans (((cell_far (p:=⟨gb225,_,none⟩) NB224_225.out _).trans (((cell_far (p:=⟨gb225,_,none⟩) NB224_225.out _).trans (((cell_far (p:=⟨gb225,_,none⟩) NB224_225.out _).trans (((cell_far (p:=⟨gb225,_,none⟩) NB224_225.out _).trans (((cell_far (p:=⟨gb225,_,none⟩) NB224_225.out _).trans (((cell_far (p:=⟨gb225,_,none⟩) NB224_225.out _).trans (((cell_far (p:=⟨gb225,_,none⟩) NB224_225.out _).trans (((cell_far (p:=⟨gb225,_,none⟩) NB224_225.out _).trans (((cell_far (p:=⟨gb225,_,none⟩) NB224_225.out _).trans (((cell_far (p:=⟨gb225,_,none⟩) NB224_225.out _).trans (hHeld.2.2.2.2.1)))))))))))))))))))))))))),((cell_far (p:=⟨gb225,_,none⟩) NB224_225.out _).trans (((cell_far (p:=⟨gb225,_,none⟩) NB224_225.out _).trans (((cell_far (p:=⟨gb225,_,none⟩) NB224_225.out _).trans (((cell_far (p:=⟨gb225,_,none⟩) NB224_225.out _).trans (((cell_far (p:=⟨gb225,_,none⟩) NB224_225.out _).trans (((cell_far (p:=⟨gb225,_,none⟩) NB224_225.out _).trans (((cell_far (p:=⟨gb225,_,none⟩) NB224_225.out _).trans (((cell_far (p:=⟨gb225,_,none⟩) NB224_225.out _).trans (((cell_far (p:=⟨gb225,_,none⟩) NB224_225.out _).trans (((cell_far (p:=⟨gb225,_,none⟩) NB224_225.out _).trans (((cell_far (p:=⟨gb225,_,none⟩) NB224_225.out _).trans (((cell_far (p:=⟨gb225,_,none⟩) NB224_225.out _).trans (((cell_far (p:=⟨gb225,_,none⟩) NB224_225.out _).trans (hHeld.2.2.2.2.2.1)))))))))))))))))))))))))),((cell_far (p:=⟨gb225,_,none⟩) NB224_225.out _).trans (((cell_far (p:=⟨gb225,_,none⟩) NB224_225.out _).trans (((cell_far (p:=⟨gb225,_,none⟩) NB224_225.out _).trans (((cell_far (p:=⟨gb225,_,none⟩) NB224_225.out _).trans (((cell_far (p:=⟨gb225,_,none⟩) NB224_225.out _).trans (((cell_far (p:=⟨gb225,_,none⟩) NB224_225.out _).trans (((cell_far (p:=⟨gb225,_,none⟩) NB224_225.out _).trans (((cell_far (p:=⟨gb225,_,none⟩) NB224_225.out _).trans (((cell_far (p:=⟨gb225,_,none⟩) NB224_225.out _).trans (((cell_far (p:=⟨gb225,_,none⟩) NB224_225.out _).trans (((cell_far (p:=⟨gb225,_,none⟩) NB224_225.out _).trans (((cell_far (p:=⟨gb225,_,none⟩) NB224_225.out _).trans (((cell_far (p:=⟨gb225,_,none⟩) NB224_225.out _).trans (hHeld.2.2.2.2.2.2.1)))))))))))))))))))))))))),((cell_far (p:=⟨gb225,_,none⟩) NB224_225.out _).trans (((cell_far (p:=⟨gb225,_,none⟩) NB224_225.out _).trans (((cell_far (p:=⟨gb225,_,none⟩) NB224_225.out _).trans (((cell_far (p:=⟨gb225,_,none⟩) NB224_225.out _).trans (((cell_far (p:=⟨gb225,_,none⟩) NB224_225.out _).trans (((cell_far (p:=⟨gb225,_,none⟩) NB224_225.out _).trans (((cell_far (p:=⟨gb225,_,none⟩) NB224_225.out _).trans (((cell_far (p:=⟨gb225,_,none⟩) NB224_225.out _).trans (((cell_far (p:=⟨gb225,_,none⟩) NB224_225.out _).trans (((cell_far (p:=⟨gb225,_,none⟩) NB224_225.out _).trans (((cell_far (p:=⟨gb225,_,none⟩) NB224_225.out _).trans (((cell_far (p:=⟨gb225,_,none⟩) NB224_225.out _).trans (((cell_far (p:=⟨gb225,_,none⟩) NB224_225.out _).trans (hHeld.2.2.2.2.2.2.2.1)))))))))))))))))))))))))),((cell_far (p:=⟨gb225,_,none⟩) NB224_225.out _).trans (((cell_far (p:=⟨gb225,_,none⟩) NB224_225.out _).trans (((cell_far (p:=⟨gb225,_,none⟩) NB224_225.out _).trans (((cell_far (p:=⟨gb225,_,none⟩) NB224_225.out _).trans (((cell_far (p:=⟨gb225,_,none⟩) NB224_225.out _).trans (((cell_far (p:=⟨gb225,_,none⟩) NB224_225.out _).trans (((cell_far (p:=⟨gb225,_,none⟩) NB224_225.out _).trans (((cell_far (p:=⟨gb225,_,none⟩) NB224_225.out _).trans (((cell_far (p:=⟨gb225,_,none⟩) NB224_225.out _).trans (((cell_far (p:=⟨gb225,_,none⟩) NB224_225.out _).trans (((cell_far (p:=⟨gb225,_,none⟩) NB224_225.out _).trans (((cell_far (p:=⟨gb225,_,none⟩) NB224_225.out _).trans (((cell_far (p:=⟨gb225,_,none⟩) NB224_225.out _).trans (hHeld.2.2.2.2.2.2.2.2.1)))))))))))))))))))))))))),((cell_far (p:=⟨gb225,_,none⟩) NB224_225.out _).trans (((cell_far (p:=⟨gb225,_,none⟩) NB224_225.out _).trans (((cell_far (p:=⟨gb225,_,none⟩) NB224_225.out _).trans (((cell_far (p:=⟨gb225,_,none⟩) NB224_225.out _).trans (((cell_far (p:=⟨gb225,_,none⟩) NB224_225.out _).trans (((cell_far (p:=⟨gb225,_,none⟩) NB224_225.out _).trans (((cell_far (p:=⟨gb225,_,none⟩) NB224_225.out _).trans (((cell_far (p:=⟨gb225,_,none⟩) NB224_225.out _).trans (((cell_far (p:=⟨gb225,_,none⟩) NB224_225.out _).trans (((cell_far (p:=⟨gb225,_,none⟩) NB224_225.out _).trans (((cell_far (p:=⟨gb225,_,none⟩) NB224_225.out _).trans (((cell_far (p:=⟨gb225,_,none⟩) NB224_225.out _).trans (((cell_far (p:=⟨gb225,_,none⟩) NB224_225.out _).trans (hHeld.2.2.2.2.2.2.2.2.2.1)))))))))))))))))))))))))),((cell_far (p:=⟨gb225,_,none⟩) NB224_225.out _).trans (((cell_far (p:=⟨gb225,_,none⟩) NB224_225.out _).trans (((cell_far (p:=⟨gb225,_,none⟩) NB224_225.out _).trans (((cell_far (p:=⟨gb225,_,none⟩) NB224_225.out _).trans (((cell_far (p:=⟨gb225,_,none⟩) NB224_225.out _).trans (((cell_far (p:=⟨gb225,_,none⟩) NB224_225.out _).trans (((cell_far (p:=⟨gb225,_,none⟩) NB224_225.out _).trans (((cell_far (p:=⟨gb225,_,none⟩) NB224_225.out _).trans (((cell_far (p:=⟨gb225,_,none⟩) NB224_225.out _).trans (((cell_far (p:=⟨gb225,_,none⟩) NB224_225.out _).trans (((cell_far (p:=⟨gb225,_,none⟩) NB224_225.out _).trans (((cell_far (p:=⟨gb225,_,none⟩) NB224_225.out _).trans (((cell_far (p:=⟨gb225,_,none⟩) NB224_225.out _).trans (hHeld.2.2.2.2.2.2.2.2.2.2.1)))))))))))))))))))))))))),((cell_far (p:=⟨gb225,_,none⟩) NB224_225.out _).trans (((cell_far (p:=⟨gb225,_,none⟩) NB224_225.out _).trans (((cell_far (p:=⟨gb225,_,none⟩) NB224_225.out _).trans (((cell_far (p:=⟨gb225,_,none⟩) NB224_225.out _).trans (((cell_far (p:=⟨gb225,_,none⟩) NB224_225.out _).trans (((cell_far (p:=⟨gb225,_,none⟩) NB224_225.out _).trans (((cell_far (p:=⟨gb225,_,none⟩) NB224_225.out _).trans (((cell_far (p:=⟨gb225,_,none⟩) NB224_225.out _).trans (((cell_far (p:=⟨gb225,_,none⟩) NB224_225.out _).trans (((cell_far (p:=⟨gb225,_,none⟩) NB224_225.out _).trans (((cell_far (p:=⟨gb225,_,none⟩) NB224_225.out _).trans (((cell_far (p:=⟨gb225,_,none⟩) NB224_225.out _).trans (((cell_far (p:=⟨gb225,_,none⟩) NB224_225.out _).trans (hHeld.2.2.2.2.2.2.2.2.2.2.2.1)))))))))))))))))))))))))),((cell_far (p:=⟨gb225,_,none⟩) NB224_225.out _).trans (((cell_far (p:=⟨gb225,_,none⟩) NB224_225.out _).trans (((cell_far (p:=⟨gb225,_,none⟩) NB224_225.out _).trans (((cell_far (p:=⟨gb225,_,none⟩) NB224_225.out _).trans (((cell_far (p:=⟨gb225,_,none⟩) NB224_225.out _).trans (((cell_far (p:=⟨gb225,_,none⟩) NB224_225.out _).trans (((cell_far (p:=⟨gb225,_,none⟩) NB224_225.out _).trans (((cell_far (p:=⟨gb225,_,none⟩) NB224_225.out _).trans (((cell_far (p:=⟨gb225,_,none⟩) NB224_225.out _).trans (((cell_far (p:=⟨gb225,_,none⟩) NB224_225.out _).trans (((cell_far (p:=⟨gb225,_,none⟩) NB224_225.out _).trans (((cell_far (p:=⟨gb225,_,none⟩) NB224_225.out _).trans (((cell_far (p:=⟨gb225,_,none⟩) NB224_225.out _).trans (hHeld.2.2.2.2.2.2.2.2.2.2.2.2))))))))))))))))))))))))))⟩ (fun hHeld=>?_)
       clear hK K
       refine pure_ (i:=5) (N:=some 8) (v:=?_) (a':=?_) #[true,true,true,true,true,true,false] rfl rfl (by kernel_rfl) (fun _ _ _ h=>h) (Or.inl ⟨by rfl,?_⟩) ?_ ?_
       rotate_left
       ·intro w'
        go_simp
        with_reducible rfl
       rotate_left
       ·simp only [Act.put,List.setIfInBounds_toArray,List.set_cons_zero,List.set_cons_succ,i64_w,i32_w]
        rfl
       refine pure_ (i:=6) (N:=some 9) (v:=?_) (a':=?_) #[true,true,true,true,true,true,true] rfl rfl (by kernel_rfl) (fun _ _ _ h=>h) (Or.inl ⟨by rfl,?_⟩) ?_ ?_
       rotate_left
       ·intro w'
        go_simp
        with_reducible rfl
       rotate_left
       ·simp only [Act.put,List.setIfInBounds_toArray,List.set_cons_zero,List.set_cons_succ,i64_w,i32_w]
        rfl
       refine done_ (by kernel_rfl) ?_
       try go_wp2
       refine bodyPost_ret (results_list (rs:=[.tmp 6,.cell 7 28,.tmp 8,.tmp 9]) rfl (by simp) (.tmp (.cell gb225 28 #[.int .i64 a0_0,.int .u64 a0_1,.int .i64 (wrap64 (a0_2 - 1)),.int .u64 a0_3,.bool a0_4,.int .u64 a0_5,.bool a0_6,.int .u64 a0_7,.bool a0_8,.int .u64 a0_9,.bool a0_10,.int .u64 a0_11,.bool a0_12] (0,0) _ rfl (by (with_reducible repeat (first | refine blk_drewN ?_ _ | refine blk_drew ?_ | refine blk_alloc ?_ _)); refine blk_put (cs:=#[.int .i64 a0_0,.int .u64 a0_1,.int .i64 (wrap64 (a0_2 - 1)),.int .u64 a0_3,.bool a0_4,.int .u64 a0_5,.bool a0_6,.int .u64 a0_7,.bool a0_8,.int .u64 a0_9,.bool a0_10,.int .u64 a0_11,.bool false]) ?_ 12 _ rfl; (with_reducible repeat (first | refine blk_drewN ?_ _ | refine blk_drew ?_ | refine blk_alloc ?_ _)); refine blk_put (cs:=#[.int .i64 a0_0,.int .u64 a0_1,.int .i64 (wrap64 (a0_2 - 1)),.int .u64 a0_3,.bool a0_4,.int .u64 a0_5,.bool a0_6,.int .u64 a0_7,.bool a0_8,.int .u64 a0_9,.bool a0_10,.int .u64 0,.bool false]) ?_ 11 _ rfl; (with_reducible repeat (first | refine blk_drewN ?_ _ | refine blk_drew ?_ | refine blk_alloc ?_ _)); refine blk_put (cs:=#[.int .i64 a0_0,.int .u64 a0_1,.int .i64 (wrap64 (a0_2 - 1)),.int .u64 a0_3,.bool a0_4,.int .u64 a0_5,.bool a0_6,.int .u64 a0_7,.bool a0_8,.int .u64 a0_9,.bool false,.int .u64 0,.bool false]) ?_ 10 _ rfl; (with_reducible repeat (first | refine blk_drewN ?_ _ | refine blk_drew ?_ | refine blk_alloc ?_ _)); refine blk_put (cs:=#[.int .i64 a0_0,.int .u64 a0_1,.int .i64 (wrap64 (a0_2 - 1)),.int .u64 a0_3,.bool a0_4,.int .u64 a0_5,.bool a0_6,.int .u64 a0_7,.bool a0_8,.int .u64 0,.bool false,.int .u64 0,.bool false]) ?_ 9 _ rfl; (with_reducible repeat (first | refine blk_drewN ?_ _ | refine blk_drew ?_ | refine blk_alloc ?_ _)); refine blk_put (cs:=#[.int .i64 a0_0,.int .u64 a0_1,.int .i64 (wrap64 (a0_2 - 1)),.int .u64 a0_3,.bool a0_4,.int .u64 a0_5,.bool a0_6,.int .u64 a0_7,.bool false,.int .u64 0,.bool false,.int .u64 0,.bool false]) ?_ 8 _ rfl; (with_reducible repeat (first | refine blk_drewN ?_ _ | refine blk_drew ?_ | refine blk_alloc ?_ _)); refine blk_put (cs:=#[.int .i64 a0_0,.int .u64 a0_1,.int .i64 (wrap64 (a0_2 - 1)),.int .u64 a0_3,.bool a0_4,.int .u64 a0_5,.bool a0_6,.int .u64 0,.bool false,.int .u64 0,.bool false,.int .u64 0,.bool false]) ?_ 7 _ rfl; (with_reducible repeat (first | refine blk_drewN ?_ _ | refine blk_drew ?_ | refine blk_alloc ?_ _)); refine blk_put (cs:=#[.int .i64 a0_0,.int .u64 a0_1,.int .i64 (wrap64 (a0_2 - 1)),.int .u64 a0_3,.bool a0_4,.int .u64 a0_5,.bool false,.int .u64 0,.bool false,.int .u64 0,.bool false,.int .u64 0,.bool false]) ?_ 6 _ rfl; (with_reducible repeat (first | refine blk_drewN ?_ _ | refine blk_drew ?_ | refine blk_alloc ?_ _)); refine blk_put (cs:=#[.int .i64 a0_0,.int .u64 a0_1,.int .i64 (wrap64 (a0_2 - 1)),.int .u64 a0_3,.bool a0_4,.int .u64 0,.bool false,.int .u64 0,.bool false,.int .u64 0,.bool false,.int .u64 0,.bool false]) ?_ 5 _ rfl; (with_reducible repeat (first | refine blk_drewN ?_ _ | refine blk_drew ?_ | refine blk_alloc ?_ _)); refine blk_put (cs:=#[.int .i64 a0_0,.int .u64 a0_1,.int .i64 (wrap64 (a0_2 - 1)),.int .u64 a0_3,.bool false,.int .u64 0,.bool false,.int .u64 0,.bool false,.int .u64 0,.bool false,.int .u64 0,.bool false]) ?_ 4 _ rfl; (with_reducible repeat (first | refine blk_drewN ?_ _ | refine blk_drew ?_ | refine blk_alloc ?_ _)); refine blk_put (cs:=#[.int .i64 a0_0,.int .u64 a0_1,.int .i64 (wrap64 (a0_2 - 1)),.int .u64 0,.bool false,.int .u64 0,.bool false,.int .u64 0,.bool false,.int .u64 0,.bool false,.int .u64 0,.bool false]) ?_ 3 _ rfl; (with_reducible repeat (first | refine blk_drewN ?_ _ | refine blk_drew ?_ | refine blk_alloc ?_ _)); refine blk_put (cs:=#[.int .i64 a0_0,.int .u64 a0_1,.int .i64 0,.int .u64 0,.bool false,.int .u64 0,.bool false,.int .u64 0,.bool false,.int .u64 0,.bool false,.int .u64 0,.bool false]) ?_ 2 _ rfl; (with_reducible repeat (first | refine blk_drewN ?_ _ | refine blk_drew ?_ | refine blk_alloc ?_ _)); refine blk_put (cs:=#[.int .i64 a0_0,.int .u64 0,.int .i64 0,.int .u64 0,.bool false,.int .u64 0,.bool false,.int .u64 0,.bool false,.int .u64 0,.bool false,.int .u64 0,.bool false]) ?_ 1 _ rfl; (with_reducible repeat (first | refine blk_drewN ?_ _ | refine blk_drew ?_ | refine blk_alloc ?_ _)); refine blk_put (cs:=#[.int .i64 0,.int .u64 0,.int .i64 0,.int .u64 0,.bool false,.int .u64 0,.bool false,.int .u64 0,.bool false,.int .u64 0,.bool false,.int .u64 0,.bool false]) ?_ 0 _ rfl; (with_reducible repeat (first | refine blk_drewN ?_ _ | refine blk_drew ?_ | refine blk_alloc ?_ _)); exact BK225.out) Tryd.underlying28 rfl (by kernel_rfl) (.tmp (.tmp .nil))))) rfl ?_
       exact ⟨by first | rfl | (simp [errW_none,errW_some] <;> rfl) | (simp [*,errW_none,errW_some] <;> rfl),by repeat (first | (with_reducible first | exact HB.out | apply below_alloc | apply pw_below_drewN | apply below_drew1 | refine below_set ?_ GE224.out | refine below_set ?_ GE225.out) | exact HB.out)⟩
      ·rw [if_neg c51] at H
       have c51b0:decide (0 < a0_2)=false:=decide_eq_false c51
       clear c51
       simp only [Option.some.injEq,Prod.mk.injEq] at H
       obtain ⟨rfl,rfl,rfl,rfl,rfl,rfl,rfl,rfl,rfl,rfl,rfl,rfl,rfl,rfl,rfl,rfl⟩ :=H
       have hnb69:=NB224_225.out
       have hnc69:=NB225_224.out
       have hcz70_0:wc.cell? ⟨gb224,0,none⟩=some (.int .i64 a0_0):=(blk_cell BK224.out 0).trans rfl
       have hcz70_1:wc.cell? ⟨gb224,1,none⟩=some (.int .u64 a0_1):=(blk_cell BK224.out 1).trans rfl
       have hcz70_2:wc.cell? ⟨gb224,2,none⟩=some (.int .i64 a0_2):=(blk_cell BK224.out 2).trans rfl
       have hcz70_3:wc.cell? ⟨gb224,3,none⟩=some (.int .u64 a0_3):=(blk_cell BK224.out 3).trans rfl
       have hcz70_4:wc.cell? ⟨gb224,4,none⟩=some (.bool a0_4):=(blk_cell BK224.out 4).trans rfl
       have hcz70_5:wc.cell? ⟨gb224,5,none⟩=some (.int .u64 a0_5):=(blk_cell BK224.out 5).trans rfl
       have hcz70_6:wc.cell? ⟨gb224,6,none⟩=some (.bool a0_6):=(blk_cell BK224.out 6).trans rfl
       have hcz70_7:wc.cell? ⟨gb224,7,none⟩=some (.int .u64 a0_7):=(blk_cell BK224.out 7).trans rfl
       have hcz70_8:wc.cell? ⟨gb224,8,none⟩=some (.bool a0_8):=(blk_cell BK224.out 8).trans rfl
       have hcz70_9:wc.cell? ⟨gb224,9,none⟩=some (.int .u64 a0_9):=(blk_cell BK224.out 9).trans rfl
       have hcz70_10:wc.cell? ⟨gb224,10,none⟩=some (.bool a0_10):=(blk_cell BK224.out 10).trans rfl
       have hcz70_11:wc.cell? ⟨gb224,11,none⟩=some (.int .u64 a0_11):=(blk_cell BK224.out 11).trans rfl
       have hcz70_12:wc.cell? ⟨gb224,12,none⟩=some (.bool a0_12):=(blk_cell BK224.out 12).trans rfl
       have hfz70_0:=blk_frozen BK224.out 0
       have hfz70_1:=blk_frozen BK224.out 1
       have hfz70_2:=blk_frozen BK224.out 2
       have hfz70_3:=blk_frozen BK224.out 3
       have hfz70_4:=blk_frozen BK224.out 4
       have hfz70_5:=blk_frozen BK224.out 5
       have hfz70_6:=blk_frozen BK224.out 6
       have hfz70_7:=blk_frozen BK224.out 7
       have hfz70_8:=blk_frozen BK224.out 8
       have hfz70_9:=blk_frozen BK224.out 9
       have hfz70_10:=blk_frozen BK224.out 10
       have hfz70_11:=blk_frozen BK224.out 11
       have hfz70_12:=blk_frozen BK224.out 12
       try go_wp2_with (first | ((with_reducible refine gate_callee (f:=30) rfl ?_); refine goesL_ (some 59) rfl rfl Tryd.func30 (by kernel_rfl) rfl #[.int .u64 a1,.int .u64 a0_1,.int .u64 a2] rfl (by (try simp only [List.map_toArray,List.map_cons,List.map_nil]); first | done | rfl | (simp only [List.length_drop,List.length_take]; rfl)) ?_; (with_reducible refine (complineref01_After.calls a1 a0_1 a2 t229 t230 _ A50.out).mono ?_); rintro e w' ⟨rfl,⟨nd,rfl⟩⟩; refine ⟨_,rfl,?_⟩; (try (rw [drewN_self wc]; generalize hq_:World.drewN wc _=wc; have n0_:Aside0 (wc.heap[gb224]?=some (.cells #[.int .i64 a0_0,.int .u64 a0_1,.int .i64 a0_2,.int .u64 a0_3,.bool a0_4,.int .u64 a0_5,.bool a0_6,.int .u64 a0_7,.bool a0_8,.int .u64 a0_9,.bool a0_10,.int .u64 a0_11,.bool a0_12] 28 (0,0))):=⟨by rw [← hq_]; exact (by (with_reducible repeat (first | refine blk_drewN ?_ _ | refine blk_drew ?_ | refine blk_alloc ?_ _)); exact BK224.out)⟩; have n1_:Aside0 (wc.heap[gb225]?=some (.cells #[.int .i64 0,.int .u64 0,.int .i64 0,.int .u64 0,.bool false,.int .u64 0,.bool false,.int .u64 0,.bool false,.int .u64 0,.bool false,.int .u64 0,.bool false] 28 (0,0))):=⟨by rw [← hq_]; exact (by (with_reducible repeat (first | refine blk_drewN ?_ _ | refine blk_drew ?_ | refine blk_alloc ?_ _)); exact BK225.out)⟩; have n2_:Aside0 (Below w.heap.size w wc):=⟨by rw [← hq_]; exact (by repeat (first | (with_reducible first | exact HB.out | apply below_alloc | apply pw_below_drewN | apply below_drew1 | refine below_set ?_ GE224.out | refine below_set ?_ GE225.out) | exact HB.out))⟩; clear BK224 BK225 HB hq_; have BK224:=n0_; have BK225:=n1_; have HB:=n2_; clear n0_ n1_ n2_)); have hczx_0:wc.cell? ⟨gb224,0,none⟩=some (.int .i64 a0_0):=(blk_cell BK224.out 0).trans rfl; have hczx_1:wc.cell? ⟨gb224,1,none⟩=some (.int .u64 a0_1):=(blk_cell BK224.out 1).trans rfl; have hczx_2:wc.cell? ⟨gb224,2,none⟩=some (.int .i64 a0_2):=(blk_cell BK224.out 2).trans rfl; have hczx_3:wc.cell? ⟨gb224,3,none⟩=some (.int .u64 a0_3):=(blk_cell BK224.out 3).trans rfl; have hczx_4:wc.cell? ⟨gb224,4,none⟩=some (.bool a0_4):=(blk_cell BK224.out 4).trans rfl; have hczx_5:wc.cell? ⟨gb224,5,none⟩=some (.int .u64 a0_5):=(blk_cell BK224.out 5).trans rfl; have hczx_6:wc.cell? ⟨gb224,6,none⟩=some (.bool a0_6):=(blk_cell BK224.out 6).trans rfl; have hczx_7:wc.cell? ⟨gb224,7,none⟩=some (.int .u64 a0_7):=(blk_cell BK224.out 7).trans rfl; have hczx_8:wc.cell? ⟨gb224,8,none⟩=some (.bool a0_8):=(blk_cell BK224.out 8).trans rfl; have hczx_9:wc.cell? ⟨gb224,9,none⟩=some (.int .u64 a0_9):=(blk_cell BK224.out 9).trans rfl; have hczx_10:wc.cell? ⟨gb224,10,none⟩=some (.bool a0_10):=(blk_cell BK224.out 10).trans rfl; have hczx_11:wc.cell? ⟨gb224,11,none⟩=some (.int .u64 a0_11):=(blk_cell BK224.out 11).trans rfl; have hczx_12:wc.cell? ⟨gb224,12,none⟩=some (.bool a0_12):=(blk_cell BK224.out 12).trans rfl; have hfzx_0:=blk_frozen BK224.out 0; have hfzx_1:=blk_frozen BK224.out 1; have hfzx_2:=blk_frozen BK224.out 2; have hfzx_3:=blk_frozen BK224.out 3; have hfzx_4:=blk_frozen BK224.out 4; have hfzx_5:=blk_frozen BK224.out 5; have hfzx_6:=blk_frozen BK224.out 6; have hfzx_7:=blk_frozen BK224.out 7; have hfzx_8:=blk_frozen BK224.out 8; have hfzx_9:=blk_frozen BK224.out 9; have hfzx_10:=blk_frozen BK224.out 10; have hfzx_11:=blk_frozen BK224.out 11; have hfzx_12:=blk_frozen BK224.out 12))
       have n0_:=Aside0.mk (blk_drew BK224.out)
       have n1_:=Aside0.mk (blk_drew BK225.out)
       have n2_:=Aside0.mk (below_drew1 HB.out)
       clear BK224
       clear BK225
       clear HB
       have BK224:=n0_
       have BK225:=n1_
       have HB:=n2_
       clear n0_ n1_ n2_
       refine start_ (n:=7) (S:=fun w'=>w'.cell? ⟨gb224,0,none⟩=some (.int .i64 a0_0)∧w'.cell? ⟨gb224,1,none⟩=some (.int .u64 a0_1)∧w'.cell? ⟨gb224,2,none⟩=some (.int .i64 a0_2)∧w'.cell? ⟨gb224,3,none⟩=some (.int .u64 a0_3)∧w'.cell? ⟨gb224,4,none⟩=some (.bool a0_4)∧w'.cell? ⟨gb224,5,none⟩=some (.int .u64 a0_5)∧w'.cell? ⟨gb224,6,none⟩=some (.bool a0_6)∧w'.cell? ⟨gb224,7,none⟩=some (.int .u64 a0_7)∧w'.cell? ⟨gb224,8,none⟩=some (.bool a0_8)∧w'.cell? ⟨gb224,9,none⟩=some (.int .u64 a0_9)∧w'.cell? ⟨gb224,10,none⟩=some (.bool a0_10)∧w'.cell? ⟨gb224,11,none⟩=some (.int .u64 a0_11)∧w'.cell? ⟨gb224,12,none⟩=some (.bool a0_12)) (ds:=[]) #[false,false,false,false,false,false,false] (by kernel_rfl) rfl rfl ⟨(blk_cell BK224.out 0).trans rfl,(blk_cell BK224.out 1).trans rfl,(blk_cell BK224.out 2).trans rfl,(blk_cell BK224.out 3).trans rfl,(blk_cell BK224.out 4).trans rfl,(blk_cell BK224.out 5).trans rfl,(blk_cell BK224.out 6).trans rfl,(blk_cell BK224.out 7).trans rfl,(blk_cell BK224.out 8).trans rfl,(blk_cell BK224.out 9).trans rfl,(blk_cell BK224.out 10).trans rfl,(blk_cell BK224.out 11).trans rfl,(blk_cell BK224.out 12).trans rfl⟩ (fun hHeld=>?_)
       generalize wc.drew=w71 at BK224 BK225 HB hHeld ⊢
       refine pure_ (i:=0) (N:=some 69) (v:=?_) (a':=?_) #[true,false,false,false,false,false,false] rfl rfl (by kernel_rfl) (fun _ _ _ h=>h) (Or.inl ⟨by rfl,?_⟩) ?_ ?_
       rotate_left
       ·intro w'
        go_simp
        with_reducible rfl
       rotate_left
       ·simp only [Act.put,List.setIfInBounds_toArray,List.set_cons_zero,List.set_cons_succ,i64_w,i32_w]
        rfl
       refine pure_ (i:=2) (N:=some 71) (v:=?_) (a':=?_) #[true,false,true,false,false,false,false] rfl rfl (by kernel_rfl) (fun _ _ _ h=>h) (Or.inl ⟨by rfl,?_⟩) ?_ ?_
       rotate_left
       ·intro w'
        go_simp
        with_reducible rfl
       rotate_left
       ·simp only [Act.put,List.setIfInBounds_toArray,List.set_cons_zero,List.set_cons_succ,i64_w,i32_w]
        rfl
       refine pure_ (i:=3) (N:=some 6) (v:=?_) (a':=?_) #[true,false,true,true,false,false,false] rfl rfl (by kernel_rfl) (fun _ _ _ h=>h) (Or.inl ⟨by rfl,?_⟩) ?_ ?_
       rotate_left
       ·intro w'
        go_simp
        with_reducible rfl
       rotate_left
       ·simp only [Act.put,List.setIfInBounds_toArray,List.set_cons_zero,List.set_cons_succ,i64_w,i32_w]
        rfl
       refine take_ (i:=1) (N:=some 70) (v:=?_) (a':=?_) #[true,true,true,true,false,false,false] rfl rfl (by kernel_rfl) (fun _ _ _ h=>h) (Or.inl ⟨by rfl,?_⟩) hHeld ?_ ?_
       rotate_left
       ·rintro w' ⟨s0,s1,s2,s3,s4,s5,s6,s7,s8,s9,s10,s11,s12⟩
        go_simp
        with_reducible rfl
       rotate_left
       ·simp only [Act.put,List.setIfInBounds_toArray,List.set_cons_zero,List.set_cons_succ,i64_w,i32_w]
        rfl
       refine one_ (i:=4) (N:=none) #[true,true,true,true,true,false,false] rfl rfl (by kernel_rfl) (by decide) (fun K hK=>?_)
       have hs72:w71.cell? ⟨gb225,0,none⟩=some (.int .i64 0):=(blk_cell BK225.out 0).trans rfl
       have hfs72:=blk_frozen BK225.out 0
       have hns72_0:=NB224_225.out
       have hms72_0:=NB225_224.out
       have hs73:w71.cell? ⟨gb225,1,none⟩=some (.int .u64 0):=(blk_cell BK225.out 1).trans rfl
       have hfs73:=blk_frozen BK225.out 1
       have hns73_0:=NB224_225.out
       have hms73_0:=NB225_224.out
       have hs74:w71.cell? ⟨gb225,2,none⟩=some (.int .i64 0):=(blk_cell BK225.out 2).trans rfl
       have hfs74:=blk_frozen BK225.out 2
       have hns74_0:=NB224_225.out
       have hms74_0:=NB225_224.out
       have hs75:w71.cell? ⟨gb225,3,none⟩=some (.int .u64 0):=(blk_cell BK225.out 3).trans rfl
       have hfs75:=blk_frozen BK225.out 3
       have hns75_0:=NB224_225.out
       have hms75_0:=NB225_224.out
       have hs76:w71.cell? ⟨gb225,4,none⟩=some (.bool false):=(blk_cell BK225.out 4).trans rfl
       have hfs76:=blk_frozen BK225.out 4
       have hns76_0:=NB224_225.out
       have hms76_0:=NB225_224.out
       have hs77:w71.cell? ⟨gb225,5,none⟩=some (.int .u64 0):=(blk_cell BK225.out 5).trans rfl
       have hfs77:=blk_frozen BK225.out 5
       have hns77_0:=NB224_225.out
       have hms77_0:=NB225_224.out
       have hs78:w71.cell? ⟨gb225,6,none⟩=some (.bool false):=(blk_cell BK225.out 6).trans rfl
       have hfs78:=blk_frozen BK225.out 6
       have hns78_0:=NB224_225.out
       have hms78_0:=NB225_224.out
       have hs79:w71.cell? ⟨gb225,7,none⟩=some (.int .u64 0):=(blk_cell BK225.out 7).trans rfl
       have hfs79:=blk_frozen BK225.out 7
       have hns79_0:=NB224_225.out
       have hms79_0:=NB225_224.out
       have hs80:w71.cell? ⟨gb225,8,none⟩=some (.bool false):=(blk_cell BK225.out 8).trans rfl
       have hfs80:=blk_frozen BK225.out 8
       have hns80_0:=NB224_225.out
       have hms80_0:=NB225_224.out
       have hs81:w71.cell? ⟨gb225,9,none⟩=some (.int .u64 0):=(blk_cell BK225.out 9).trans rfl
       have hfs81:=blk_frozen BK225.out 9
       have hns81_0:=NB224_225.out
       have hms81_0:=NB225_224.out
       have hs82:w71.cell? ⟨gb225,10,none⟩=some (.bool false):=(blk_cell BK225.out 10).trans rfl
       have hfs82:=blk_frozen BK225.out 10
       have hns82_0:=NB224_225.out
       have hms82_0:=NB225_224.out
       have hs83:w71.cell? ⟨gb225,11,none⟩=some (.int .u64 0):=(blk_cell BK225.out 11).trans rfl
       have hfs83:=blk_frozen BK225.out 11
       have hns83_0:=NB224_225.out
       have hms83_0:=NB225_224.out
       have hs84:w71.cell? ⟨gb225,12,none⟩=some (.bool false):=(blk_cell BK225.out 12).trans rfl
       have hfs84:=blk_frozen BK225.out 12
       have hns84_0:=NB224_225.out
       have hms84_0:=NB225_224.out
       refine skip_ (w1:=?_) (by rfl) rfl ?_ ?_
       rotate_left
       ·go_simp
        rfl
       refine hK.out _ _ ⟨((cell_far (p:=⟨gb225,_,none⟩) NB224_225.out _).trans (((cell_far (p:=⟨gb225,_,none⟩) NB224_225.out _).trans (((cell_far (p:=⟨gb225,_,none⟩) NB224_225.out _).trans (((cell_far (p:=⟨gb225,_,none⟩) NB224_225.out _).trans (((cell_far (p:=⟨gb225,_,none⟩) NB224_225.out _).trans (((cell_far (p:=⟨gb225,_,none⟩) NB224_225.out _).trans (((cell_far (p:=⟨gb225,_,none⟩) NB224_225.out _).trans (((cell_far (p:=⟨gb225,_,none⟩) NB224_225.out _).trans (((cell_far (p:=⟨gb225,_,none⟩) NB224_225.out _).trans (((cell_far (p:=⟨gb225,_,none⟩) NB224_225.out _).trans (((cell_far (p:=⟨gb225,_,none⟩) NB224_225.out _).trans (((cell_far (p:=⟨gb225,_,none⟩) NB224_225.out _).trans (((cell_far (p:=⟨gb225,_,none⟩) NB224_225.out _).trans (hHeld.1)))))))))))))))))))))))))),((cell_far (p:=⟨gb225,_,none⟩) NB224_225.out _).trans (((cell_far (p:=⟨gb225,_,none⟩) NB224_225.out _).trans (((cell_far (p:=⟨gb225,_,none⟩) NB224_225.out _).trans (((cell_far (p:=⟨gb225,_,none⟩) NB224_225.out _).trans (((cell_far (p:=⟨gb225,_,none⟩) NB224_225.out _).trans (((cell_far (p:=⟨gb225,_,none⟩) NB224_225.out _).trans (((cell_far (p:=⟨gb225,_,none⟩) NB224_225.out _).trans (((cell_far (p:=⟨gb225,_,none⟩) NB224_225.out _).trans (((cell_far (p:=⟨gb225,_,none⟩) NB224_225.out _).trans (((cell_far (p:=⟨gb225,_,none⟩) NB224_225.out _).trans (((cell_far (p:=⟨gb225,_,none⟩) NB224_225.out _).trans (((cell_far (p:=⟨gb225,_,none⟩) NB224_225.out _).trans (((cell_far (p:=⟨gb225,_,none⟩) NB224_225.out _).trans (hHeld.2.1)))))))))))))))))))))))))),((cell_far (p:=⟨gb225,_,none⟩) NB224_225.out _).trans (((cell_far (p:=⟨gb225,_,none⟩) NB224_225.out _).trans (((cell_far (p:=⟨gb225,_,none⟩) NB224_225.out _).trans (((cell_far (p:=⟨gb225,_,none⟩) NB224_225.out _).trans (((cell_far (p:=⟨gb225,_,none⟩) NB224_225.out _).trans (((cell_far (p:=⟨gb225,_,none⟩) NB224_225.out _).trans (((cell_far (p:=⟨gb225,_,none⟩) NB224_225.out _).trans (((cell_far (p:=⟨gb225,_,none⟩) NB224_225.out _).trans (((cell_far (p:=⟨gb225,_,none⟩) NB224_225.out _).trans (((cell_far (p:=⟨gb225,_,none⟩) NB224_225.out _).trans (((cell_far (p:=⟨gb225,_,none⟩) NB224_225.out _).trans (((cell_far (p:=⟨gb225,_,none⟩) NB224_225.out _).trans (((cell_far (p:=⟨gb225,_,none⟩) NB224_225.out _).trans (hHeld.2.2.1)))))))))))))))))))))))))),((cell_far (p:=⟨gb225,_,none⟩) NB224_225.out _).trans (((cell_far (p:=⟨gb225,_,none⟩) NB224_225.out _).trans (((cell_far (p:=⟨gb225,_,none⟩) NB224_225.out _).trans (((cell_far (p:=⟨gb225,_,none⟩) NB224_225.out _).trans (((cell_far (p:=⟨gb225,_,none⟩) NB224_225.out _).trans (((cell_far (p:=⟨gb225,_,none⟩) NB224_225.out _).trans (((cell_far (p:=⟨gb225,_,none⟩) NB224_225.out _).trans (((cell_far (p:=⟨gb225,_,none⟩) NB224_225.out _).trans (((cell_far (p:=⟨gb225,_,none⟩) NB224_225.out _).trans (((cell_far (p:=⟨gb225,_,none⟩) NB224_225.out _).trans (((cell_far (p:=⟨gb225,_,none⟩) NB224_225.out _).trans (((cell_far (p:=⟨gb225,_,none⟩) NB224_225.out _).trans (((cell_far (p:=⟨gb225,_,none⟩) NB224_225.out _).trans (hHeld.2.2.2.1)))))))))))))))))))))))))),((cell_far (p:=⟨gb225,_,none⟩) NB224_225.out _).trans (((cell_far (p:=⟨gb225,_,none⟩) NB224_225.out _).trans (((cell_far (p:=⟨gb225,_,none⟩) NB224_225.out _).trans (((cell_far (p:=⟨gb225,_,none⟩) NB224_225.out _).trans (((cell_far (p:=⟨gb225,_,none⟩) NB224_225.out _).trans (((cell_far (p:=⟨gb225,_,none⟩) NB224_225.out _).trans (((cell_far (p:=⟨gb225,_,none⟩) NB224_225.out _).trans (((cell_far (p:=⟨gb225,_,none⟩) NB224_225.out _).trans (((cell_far (p:=⟨gb225,_,none⟩) NB224_225.out _).trans (((cell_far (p:=⟨gb225,_,none⟩) NB224_225.out _).trans (((cell_far (p:=⟨gb225,_,none⟩) NB224_225.out _).trans (((cell_far (p:=⟨gb225,_,none⟩) NB224_225.out _).trans (((cell_far (p:=⟨gb225,_,none⟩) NB224_225.out _).trans (hHeld.2.2.2.2.1)))))))))))))))))))))))))),((cell_far (p:=⟨gb225,_,none⟩) NB224_225.out _).trans (((cell_far (p:=⟨gb225,_,none⟩) NB224_225.out _).trans (((cell_far (p:=⟨gb225,_,none⟩) NB224_225.out _).trans (((cell_far (p:=⟨gb225,_,none⟩) NB224_225.out _).trans (((cell_far (p:=⟨gb225,_,none⟩) NB224_225.out _).trans (((cell_far (p:=⟨gb225,_,none⟩) NB224_225.out _).trans (((cell_far (p:=⟨gb225,_,none⟩) NB224_225.out _).trans (((cell_far (p:=⟨gb225,_,none⟩) NB224_225.out _).trans (((cell_far (p:=⟨gb225,_,none⟩) NB224_225.out _).trans (((cell_far (p:=⟨gb225,_,none⟩) NB224_225.out _).trans (((cell_far (p:=⟨gb225,_,none⟩) NB224_225.out _).trans (((cell_far (p:=⟨gb225,_,none⟩) NB224_225.out _).trans (((cell_far (p:=⟨gb225,_,none⟩) NB224_225.out _).trans (hHeld.2.2.2.2.2.1)))))))))))))))))))))))))),((cell_far (p:=⟨gb225,_,none⟩) NB224_225.out _).trans (((cell_far (p:=⟨gb225,_,none⟩) NB224_225.out _).trans (((cell_far (p:=⟨gb225,_,none⟩) NB224_225.out _).trans (((cell_far (p:=⟨gb225,_,none⟩) NB224_225.out _).trans (((cell_far (p:=⟨gb225,_,none⟩) NB224_225.out _).trans (((cell_far (p:=⟨gb225,_,none⟩) NB224_225.out _).trans (((cell_far (p:=⟨gb225,_,none⟩) NB224_225.out _).trans (((cell_far (p:=⟨gb225,_,none⟩) NB224_225.out _).trans (((cell_far (p:=⟨gb225,_,none⟩) NB224_225.out _).trans (((cell_far (p:=⟨gb225,_,none⟩) NB224_225.out _).trans (((cell_far (p:=⟨gb225,_,none⟩) NB224_225.out _).trans (((cell_far (p:=⟨gb225,_,none⟩) NB224_225.out _).trans (((cell_far (p:=⟨gb225,_,none⟩) NB224_225.out _).trans (hHeld.2.2.2.2.2.2.1)))))))))))))))))))))))))),((cell_far (p:=⟨gb225,_,none⟩) NB224_225.out _).trans (((cell_far (p:=⟨gb225,_,none⟩) NB224_225.out _).trans (((cell_far (p:=⟨gb225,_,none⟩) NB224_225.out _).trans (((cell_far (p:=⟨gb225,_,none⟩) NB224_225.out _).trans (((cell_far (p:=⟨gb225,_,none⟩) NB224_225.out _).trans (((cell_far (p:=⟨gb225,_,none⟩) NB224_225.out _).trans (((cell_far (p:=⟨gb225,_,none⟩) NB224_225.out _).trans (((cell_far (p:=⟨gb225,_,none⟩) NB224_225.out _).trans (((cell_far (p:=⟨gb225,_,none⟩) NB224_225.out _).trans (((cell_far (p:=⟨gb225,_,none⟩) NB224_225.out _).trans (((cell_far (p:=⟨gb225,_,none⟩) NB224_225.out _).trans (((cell_far (p:=⟨gb225,_,none⟩) NB224_225.out _).trans (((cell_far (p:=⟨gb225,_,none⟩) NB224_225.out _).trans (hHeld.2.2.2.2.2.2.2.1)))))))))))))))))))))))))),((cell_far (p:=⟨gb225,_,none⟩) NB224_225.out _).trans (((cell_far (p:=⟨gb225,_,none⟩) NB224_225.out _).trans (((cell_far (p:=⟨gb225,_,none⟩) NB224_225.out _).trans (((cell_far (p:=⟨gb225,_,none⟩) NB224_225.out _).trans (((cell_far (p:=⟨gb225,_,none⟩) NB224_225.out _).trans (((cell_far (p:=⟨gb225,_,none⟩) NB224_225.out _).trans (((cell_far (p:=⟨gb225,_,none⟩) NB224_225.out _).trans (((cell_far (p:=⟨gb225,_,none⟩) NB224_225.out _).trans (((cell_far (p:=⟨gb225,_,none⟩) NB224_225.out _).trans (((cell_far (p:=⟨gb225,_,none⟩) NB224_225.out _).trans (((cell_far (p:=⟨gb225,_,none⟩) NB224_225.out _).trans (((cell_far (p:=⟨gb225,_,none⟩) NB224_225.out _).trans (((cell_far (p:=⟨gb225,_,none⟩) NB224_225.out _).trans (hHeld.2.2.2.2.2.2.2.2.1)))))))))))))))))))))))))),((cell_far (p:=⟨gb225,_,none⟩) NB224_225.out _).trans (((cell_far (p:=⟨gb225,_,none⟩) NB224_225.out _).trans (((cell_far (p:=⟨gb225,_,none⟩) NB224_225.out _).trans (((cell_far (p:=⟨gb225,_,none⟩) NB224_225.out _).trans (((cell_far (p:=⟨gb225,_,none⟩) NB224_225.out _).trans (((cell_far (p:=⟨gb225,_,none⟩) NB224_225.out _).trans (((cell_far (p:=⟨gb225,_,none⟩) NB224_225.out _).trans (((cell_far (p:=⟨gb225,_,none⟩) NB224_225.out _).trans (((cell_far (p:=⟨gb225,_,none⟩) NB224_225.out _).trans (((cell_far (p:=⟨gb225,_,none⟩) NB224_225.out _).trans (((cell_far (p:=⟨gb225,_,none⟩) NB224_225.out _).trans (((cell_far (p:=⟨gb225,_,none⟩) NB224_225.out _).trans (((cell_far (p:=⟨gb225,_,none⟩) NB224_225.out _).trans (hHeld.2.2.2.2.2.2.2.2.2.1)))))))))))))))))))))))))),((cell_far (p:=⟨gb225,_,none⟩) NB224_225.out _).trans (((cell_far (p:=⟨gb225,_,none⟩) NB224_225.out _).trans (((cell_far (p:=⟨gb225,_,none⟩) NB224_225.out _).trans (((cell_far (p:=⟨gb225,_,none⟩) NB224_225.out _).trans (((cell_far (p:=⟨gb225,_,none⟩) NB224_225.out _).trans (((cell_far (p:=⟨gb225,_,none⟩) NB224_225.out _).trans (((cell_far (p:=⟨gb225,_,none⟩) NB224_225.out _).trans (((cell_far (p:=⟨gb225,_,none⟩) NB224_225.out _).trans (((cell_far (p:=⟨gb225,_,none⟩) NB224_225.out _).trans (((cell_far (p:=⟨gb225,_,none⟩) NB224_225.out _).trans (((cell_far (p:=⟨gb225,_,none⟩) NB224_225.out _).trans (((cell_far (p:=⟨gb225,_,none⟩) NB224_225.out _).trans (((cell_far (p:=⟨gb225,_,none⟩) NB224_225.out _).trans (hHeld.2.2.2.2.2.2.2.2.2.2.1)))))))))))))))))))))))))),((cell_far (p:=⟨gb225,_,none⟩) NB224_225.out _).trans (((cell_far (p:=⟨gb225,_,none⟩) NB224_225.out _).trans (((cell_far (p:=⟨gb225,_,none⟩) NB224_225.out _).trans (((cell_far (p:=⟨gb225,_,none⟩) NB224_225.out _).trans (((cell_far (p:=⟨gb225,_,none⟩) NB224_225.out _).trans (((cell_far (p:=⟨gb225,_,none⟩) NB224_225.out _).trans (((cell_far (p:=⟨gb225,_,none⟩) NB224_225.out _).trans (((cell_far (p:=⟨gb225,_,none⟩) NB224_225.out _).trans (((cell_far (p:=⟨gb225,_,none⟩) NB224_225.out _).trans (((cell_far (p:=⟨gb225,_,none⟩) NB224_225.out _).trans (((cell_far (p:=⟨gb225,_,none⟩) NB224_225.out _).trans (((cell_far (p:=⟨gb225,_,none⟩) NB224_225.out _).trans (((cell_far (p:=⟨gb225,_,none⟩) NB224_225.out _).trans (hHeld.2.2.2.2.2.2.2.2.2.2.2.1)))))))))))))))))))))))))),((cell_far (p:=⟨gb225,_,none⟩) NB224_225.out _).trans (((cell_far (p:=⟨gb225,_,none⟩) NB224_225.out _).trans (((cell_far (p:=⟨gb225,_,none⟩) NB224_225.out _).trans (((cell_far (p:=⟨gb225,_,none⟩) NB224_225.out _).trans (((cell_far (p:=⟨gb225,_,none⟩) NB224_225.out _).trans (((cell_far (p:=⟨gb225,_,none⟩) NB224_225.out _).trans (((cell_far (p:=⟨gb225,_,none⟩) NB224_225.out _).trans (((cell_far (p:=⟨gb225,_,none⟩) NB224_225.out _).trans (((cell_far (p:=⟨gb225,_,none⟩) NB224_225.out _).trans (((cell_far (p:=⟨gb225,_,none⟩) NB224_225.out _).trans (((cell_far (p:=⟨gb225,_,none⟩) NB224_225.out _).trans (((cell_far (p:=⟨gb225,_,none⟩) NB224_225.out _).trans (((cell_far (p:=⟨gb225,_,none⟩) NB224_225.out _).trans (hHeld.2.2.2.2.2.2.2.2.2.2.2.2))))))))))))))))))))))))))⟩ (fun hHeld=>?_)
       clear hK K
       refine pure_ (i:=5) (N:=some 8) (v:=?_) (a':=?_) #[true,true,true,true,true,true,false] rfl rfl (by kernel_rfl) (fun _ _ _ h=>h) (Or.inl ⟨by rfl,?_⟩) ?_ ?_
       rotate_left
       ·intro w'
        go_simp
        with_reducible rfl
       rotate_left
       ·simp only [Act.put,List.setIfInBounds_toArray,List.set_cons_zero,List.set_cons_succ,i64_w,i32_w]
        rfl
       refine pure_ (i:=6) (N:=some 9) (v:=?_) (a':=?_) #[true,true,true,true,true,true,true] rfl rfl (by kernel_rfl) (fun _ _ _ h=>h) (Or.inl ⟨by rfl,?_⟩) ?_ ?_
       rotate_left
       ·intro w'
        go_simp
        with_reducible rfl
       rotate_left
       ·simp only [Act.put,List.setIfInBounds_toArray,List.set_cons_zero,List.set_cons_succ,i64_w,i32_w]
        rfl
       refine done_ (by kernel_rfl) ?_
       try go_wp2
       refine bodyPost_ret (results_list (rs:=[.tmp 6,.cell 7 28,.tmp 8,.tmp 9]) rfl (by simp) (.tmp (.cell gb225 28 #[.int .i64 a0_0,.int .u64 a0_1,.int .i64 a0_2,.int .u64 a0_3,.bool a0_4,.int .u64 a0_5,.bool a0_6,.int .u64 a0_7,.bool a0_8,.int .u64 a0_9,.bool a0_10,.int .u64 a0_11,.bool a0_12] (0,0) _ rfl (by (with_reducible repeat (first | refine blk_drewN ?_ _ | refine blk_drew ?_ | refine blk_alloc ?_ _)); refine blk_put (cs:=#[.int .i64 a0_0,.int .u64 a0_1,.int .i64 a0_2,.int .u64 a0_3,.bool a0_4,.int .u64 a0_5,.bool a0_6,.int .u64 a0_7,.bool a0_8,.int .u64 a0_9,.bool a0_10,.int .u64 a0_11,.bool false]) ?_ 12 _ rfl; (with_reducible repeat (first | refine blk_drewN ?_ _ | refine blk_drew ?_ | refine blk_alloc ?_ _)); refine blk_put (cs:=#[.int .i64 a0_0,.int .u64 a0_1,.int .i64 a0_2,.int .u64 a0_3,.bool a0_4,.int .u64 a0_5,.bool a0_6,.int .u64 a0_7,.bool a0_8,.int .u64 a0_9,.bool a0_10,.int .u64 0,.bool false]) ?_ 11 _ rfl; (with_reducible repeat (first | refine blk_drewN ?_ _ | refine blk_drew ?_ | refine blk_alloc ?_ _)); refine blk_put (cs:=#[.int .i64 a0_0,.int .u64 a0_1,.int .i64 a0_2,.int .u64 a0_3,.bool a0_4,.int .u64 a0_5,.bool a0_6,.int .u64 a0_7,.bool a0_8,.int .u64 a0_9,.bool false,.int .u64 0,.bool false]) ?_ 10 _ rfl; (with_reducible repeat (first | refine blk_drewN ?_ _ | refine blk_drew ?_ | refine blk_alloc ?_ _)); refine blk_put (cs:=#[.int .i64 a0_0,.int .u64 a0_1,.int .i64 a0_2,.int .u64 a0_3,.bool a0_4,.int .u64 a0_5,.bool a0_6,.int .u64 a0_7,.bool a0_8,.int .u64 0,.bool false,.int .u64 0,.bool false]) ?_ 9 _ rfl; (with_reducible repeat (first | refine blk_drewN ?_ _ | refine blk_drew ?_ | refine blk_alloc ?_ _)); refine blk_put (cs:=#[.int .i64 a0_0,.int .u64 a0_1,.int .i64 a0_2,.int .u64 a0_3,.bool a0_4,.int .u64 a0_5,.bool a0_6,.int .u64 a0_7,.bool false,.int .u64 0,.bool false,.int .u64 0,.bool false]) ?_ 8 _ rfl; (with_reducible repeat (first | refine blk_drewN ?_ _ | refine blk_drew ?_ | refine blk_alloc ?_ _)); refine blk_put (cs:=#[.int .i64 a0_0,.int .u64 a0_1,.int .i64 a0_2,.int .u64 a0_3,.bool a0_4,.int .u64 a0_5,.bool a0_6,.int .u64 0,.bool false,.int .u64 0,.bool false,.int .u64 0,.bool false]) ?_ 7 _ rfl; (with_reducible repeat (first | refine blk_drewN ?_ _ | refine blk_drew ?_ | refine blk_alloc ?_ _)); refine blk_put (cs:=#[.int .i64 a0_0,.int .u64 a0_1,.int .i64 a0_2,.int .u64 a0_3,.bool a0_4,.int .u64 a0_5,.bool false,.int .u64 0,.bool false,.int .u64 0,.bool false,.int .u64 0,.bool false]) ?_ 6 _ rfl; (with_reducible repeat (first | refine blk_drewN ?_ _ | refine blk_drew ?_ | refine blk_alloc ?_ _)); refine blk_put (cs:=#[.int .i64 a0_0,.int .u64 a0_1,.int .i64 a0_2,.int .u64 a0_3,.bool a0_4,.int .u64 0,.bool false,.int .u64 0,.bool false,.int .u64 0,.bool false,.int .u64 0,.bool false]) ?_ 5 _ rfl; (with_reducible repeat (first | refine blk_drewN ?_ _ | refine blk_drew ?_ | refine blk_alloc ?_ _)); refine blk_put (cs:=#[.int .i64 a0_0,.int .u64 a0_1,.int .i64 a0_2,.int .u64 a0_3,.bool false,.int .u64 0,.bool false,.int .u64 0,.bool false,.int .u64 0,.bool false,.int .u64 0,.bool false]) ?_ 4 _ rfl; (with_reducible repeat (first | refine blk_drewN ?_ _ | refine blk_drew ?_ | refine blk_alloc ?_ _)); refine blk_put (cs:=#[.int .i64 a0_0,.int .u64 a0_1,.int .i64 a0_2,.int .u64 0,.bool false,.int .u64 0,.bool false,.int .u64 0,.bool false,.int .u64 0,.bool false,.int .u64 0,.bool false]) ?_ 3 _ rfl; (with_reducible repeat (first | refine blk_drewN ?_ _ | refine blk_drew ?_ | refine blk_alloc ?_ _)); refine blk_put (cs:=#[.int .i64 a0_0,.int .u64 a0_1,.int .i64 0,.int .u64 0,.bool false,.int .u64 0,.bool false,.int .u64 0,.bool false,.int .u64 0,.bool false,.int .u64 0,.bool false]) ?_ 2 _ rfl; (with_reducible repeat (first | refine blk_drewN ?_ _ | refine blk_drew ?_ | refine blk_alloc ?_ _)); refine blk_put (cs:=#[.int .i64 a0_0,.int .u64 0,.int .i64 0,.int .u64 0,.bool false,.int .u64 0,.bool false,.int .u64 0,.bool false,.int .u64 0,.bool false,.int .u64 0,.bool false]) ?_ 1 _ rfl; (with_reducible repeat (first | refine blk_drewN ?_ _ | refine blk_drew ?_ | refine blk_alloc ?_ _)); refine blk_put (cs:=#[.int .i64 0,.int .u64 0,.int .i64 0,.int .u64 0,.bool false,.int .u64 0,.bool false,.int .u64 0,.bool false,.int .u64 0,.bool false,.int .u64 0,.bool false]) ?_ 0 _ rfl; (with_reducible repeat (first | refine blk_drewN ?_ _ | refine blk_drew ?_ | refine blk_alloc ?_ _)); exact BK225.out) Tryd.underlying28 rfl (by kernel_rfl) (.tmp (.tmp .nil))))) rfl ?_
       exact ⟨by first | rfl | (simp [errW_none,errW_some] <;> rfl) | (simp [*,errW_none,errW_some] <;> rfl),by repeat (first | (with_reducible first | exact HB.out | apply below_alloc | apply pw_below_drewN | apply below_drew1 | refine below_set ?_ GE224.out | refine below_set ?_ GE225.out) | exact HB.out)⟩
 ·rw [if_neg c5] at H
  have c5b0:(t226 == 0)=false:=beq_eq_false_iff_ne.mpr c5
  have c5b1:(t226 != 0)=true:=bne_iff_ne.mpr c5
  simp only [Option.some.injEq,Prod.mk.injEq] at H
  obtain ⟨rfl,rfl,rfl,rfl,rfl,rfl,rfl,rfl,rfl,rfl,rfl,rfl,rfl,rfl,rfl,rfl⟩ :=H
  go_enter Tryd.func17,Tryd.ntmps17
  go_wp2_with (first | ((with_reducible refine gate_dst (N:=3) rfl ?_); refine box_event ?hg (N:=3) ?hd (cs:=#[.int .i64 a0_0,.int .u64 a0_1,.int .i64 a0_2,.int .u64 a0_3,.bool a0_4,.int .u64 a0_5,.bool a0_6,.int .u64 a0_7,.bool a0_8,.int .u64 a0_9,.bool a0_10,.int .u64 a0_11,.bool a0_12]) (t:=28) ?hr ?_; (case hd=>rfl); (case hg=>rfl); (case hr=>first | (go_simp; done) | (go_simp; rfl)); intro gb224 hg w85 hbox hb; have n0_:=Aside0.mk (below_step (by repeat (first | (with_reducible first | exact HB.out | apply below_alloc | apply pw_below_drewN | apply below_drew1) | exact HB.out)) hb); have n1_:=Aside0.mk (hbox); have n2_:=Aside0.mk ((by rw [hg]; exact (below_size (by repeat (first | (with_reducible first | exact HB.out | apply below_alloc | apply pw_below_drewN | apply below_drew1) | exact HB.out))):w.heap.size≤gb224)); have n3_:=Aside0.mk ((by rw [hg]; exact (below_size (by repeat (first | (with_reducible first | exact HB.out | apply below_alloc | apply pw_below_drewN | apply below_drew1) | exact HB.out))):w.heap.size≤gb224)); clear HB; have HB:=n0_; have BK224:=n1_; have GW224:=n2_; have GE224:=n3_; clear n0_ n1_ n2_ n3_; clear hb hbox hg) | ((with_reducible refine gate_dst (N:=7) rfl ?_); refine box_event ?hg (N:=7) ?hd (cs:=#[.int .i64 0,.int .u64 0,.int .i64 0,.int .u64 0,.bool false,.int .u64 0,.bool false,.int .u64 0,.bool false,.int .u64 0,.bool false,.int .u64 0,.bool false]) (t:=28) ?hr ?_; (case hd=>rfl); (case hg=>rfl); (case hr=>first | (go_simp; done) | (go_simp; rfl)); intro gb225 hg w86 hbox hb; have n0_:=Aside0.mk (blk_below (g:=gb224) (o:=.cells #[.int .i64 a0_0,.int .u64 a0_1,.int .i64 a0_2,.int .u64 a0_3,.bool a0_4,.int .u64 a0_5,.bool a0_6,.int .u64 a0_7,.bool a0_8,.int .u64 a0_9,.bool a0_10,.int .u64 a0_11,.bool a0_12] 28 (0,0)) (by (with_reducible repeat (first | refine blk_drewN ?_ _ | refine blk_drew ?_ | refine blk_alloc ?_ _)); exact BK224.out) hb); have n1_:=Aside0.mk (below_step (by repeat (first | (with_reducible first | exact HB.out | apply below_alloc | apply pw_below_drewN | apply below_drew1 | refine below_set ?_ GE224.out) | exact HB.out)) hb); have n2_:=Aside0.mk (hbox); have n3_:=Aside0.mk ((by rw [hg]; exact (below_size (by repeat (first | (with_reducible first | exact HB.out | apply below_alloc | apply pw_below_drewN | apply below_drew1 | refine below_set ?_ GE224.out) | exact HB.out))):w.heap.size≤gb225)); have n4_:=Aside0.mk ((by rw [hg]; exact (below_size (by repeat (first | (with_reducible first | exact HB.out | apply below_alloc | apply pw_below_drewN | apply below_drew1 | refine below_set ?_ GE224.out) | exact HB.out))):w.heap.size≤gb225)); have n5_:=Aside0.mk ((by rw [hg]; exact Nat.ne_of_lt (blk_lt (g:=gb224) (o:=.cells #[.int .i64 a0_0,.int .u64 a0_1,.int .i64 a0_2,.int .u64 a0_3,.bool a0_4,.int .u64 a0_5,.bool a0_6,.int .u64 a0_7,.bool a0_8,.int .u64 a0_9,.bool a0_10,.int .u64 a0_11,.bool a0_12] 28 (0,0)) (by (with_reducible repeat (first | refine blk_drewN ?_ _ | refine blk_drew ?_ | refine blk_alloc ?_ _)); exact BK224.out)):gb224≠gb225)); have n6_:=Aside0.mk ((by rw [hg]; exact Nat.ne_of_gt (blk_lt (g:=gb224) (o:=.cells #[.int .i64 a0_0,.int .u64 a0_1,.int .i64 a0_2,.int .u64 a0_3,.bool a0_4,.int .u64 a0_5,.bool a0_6,.int .u64 a0_7,.bool a0_8,.int .u64 a0_9,.bool a0_10,.int .u64 a0_11,.bool a0_12] 28 (0,0)) (by (with_reducible repeat (first | refine blk_drewN ?_ _ | refine blk_drew ?_ | refine blk_alloc ?_ _)); exact BK224.out)):gb225≠gb224)); clear BK224; clear HB; have BK224:=n0_; have HB:=n1_; have BK225:=n2_; have GW225:=n3_; have GE225:=n4_; have NB224_225:=n5_; have NB225_224:=n6_; clear n0_ n1_ n2_ n3_ n4_ n5_ n6_; clear hb hbox hg; have hnb87:=NB224_225.out; have hnc87:=NB225_224.out; have hcz88_0:w86.cell? ⟨gb224,0,none⟩=some (.int .i64 a0_0):=(blk_cell BK224.out 0).trans rfl; have hcz88_1:w86.cell? ⟨gb224,1,none⟩=some (.int .u64 a0_1):=(blk_cell BK224.out 1).trans rfl; have hcz88_2:w86.cell? ⟨gb224,2,none⟩=some (.int .i64 a0_2):=(blk_cell BK224.out 2).trans rfl; have hcz88_3:w86.cell? ⟨gb224,3,none⟩=some (.int .u64 a0_3):=(blk_cell BK224.out 3).trans rfl; have hcz88_4:w86.cell? ⟨gb224,4,none⟩=some (.bool a0_4):=(blk_cell BK224.out 4).trans rfl; have hcz88_5:w86.cell? ⟨gb224,5,none⟩=some (.int .u64 a0_5):=(blk_cell BK224.out 5).trans rfl; have hcz88_6:w86.cell? ⟨gb224,6,none⟩=some (.bool a0_6):=(blk_cell BK224.out 6).trans rfl; have hcz88_7:w86.cell? ⟨gb224,7,none⟩=some (.int .u64 a0_7):=(blk_cell BK224.out 7).trans rfl; have hcz88_8:w86.cell? ⟨gb224,8,none⟩=some (.bool a0_8):=(blk_cell BK224.out 8).trans rfl; have hcz88_9:w86.cell? ⟨gb224,9,none⟩=some (.int .u64 a0_9):=(blk_cell BK224.out 9).trans rfl; have hcz88_10:w86.cell? ⟨gb224,10,none⟩=some (.bool a0_10):=(blk_cell BK224.out 10).trans rfl; have hcz88_11:w86.cell? ⟨gb224,11,none⟩=some (.int .u64 a0_11):=(blk_cell BK224.out 11).trans rfl; have hcz88_12:w86.cell? ⟨gb224,12,none⟩=some (.bool a0_12):=(blk_cell BK224.out 12).trans rfl; have hfz88_0:=blk_frozen BK224.out 0; have hfz88_1:=blk_frozen BK224.out 1; have hfz88_2:=blk_frozen BK224.out 2; have hfz88_3:=blk_frozen BK224.out 3; have hfz88_4:=blk_frozen BK224.out 4; have hfz88_5:=blk_frozen BK224.out 5; have hfz88_6:=blk_frozen BK224.out 6; have hfz88_7:=blk_frozen BK224.out 7; have hfz88_8:=blk_frozen BK224.out 8; have hfz88_9:=blk_frozen BK224.out 9; have hfz88_10:=blk_frozen BK224.out 10; have hfz88_11:=blk_frozen BK224.out 11; have hfz88_12:=blk_frozen BK224.out 12) | ((with_reducible refine gate_callee (f:=15) rfl ?_); refine goesL_ (some 16) rfl rfl Tryd.func15 (by kernel_rfl) rfl #[.agg #[.int .i64 a0_0,.int .u64 a0_1,.int .i64 a0_2,.int .u64 a0_3,.bool a0_4,.int .u64 a0_5,.bool a0_6,.int .u64 a0_7,.bool a0_8,.int .u64 a0_9,.bool a0_10,.int .u64 a0_11,.bool a0_12]] rfl (by (try simp only [List.map_toArray,List.map_cons,List.map_nil]); first | done | rfl | (simp only [List.length_drop,List.length_take]; rfl)) ?_; (with_reducible refine (complineref23_Check.calls k a0_0 a0_1 a0_2 a0_3 a0_4 a0_5 a0_6 a0_7 a0_8 a0_9 a0_10 a0_11 a0_12 t226 _ A4.out).mono ?_); rintro e w89 ⟨rfl,hb⟩; refine ⟨_,rfl,?_⟩; have n0_:=Aside0.mk (blk_below (g:=gb224) (o:=.cells #[.int .i64 a0_0,.int .u64 a0_1,.int .i64 a0_2,.int .u64 a0_3,.bool a0_4,.int .u64 a0_5,.bool a0_6,.int .u64 a0_7,.bool a0_8,.int .u64 a0_9,.bool a0_10,.int .u64 a0_11,.bool a0_12] 28 (0,0)) (by (with_reducible repeat (first | refine blk_drewN ?_ _ | refine blk_drew ?_ | refine blk_alloc ?_ _)); exact BK224.out) hb); have n1_:=Aside0.mk (blk_below (g:=gb225) (o:=.cells #[.int .i64 0,.int .u64 0,.int .i64 0,.int .u64 0,.bool false,.int .u64 0,.bool false,.int .u64 0,.bool false,.int .u64 0,.bool false,.int .u64 0,.bool false] 28 (0,0)) (by (with_reducible repeat (first | refine blk_drewN ?_ _ | refine blk_drew ?_ | refine blk_alloc ?_ _)); exact BK225.out) hb); have n2_:=Aside0.mk (below_step (by repeat (first | (with_reducible first | exact HB.out | apply below_alloc | apply pw_below_drewN | apply below_drew1 | refine below_set ?_ GE224.out | refine below_set ?_ GE225.out) | exact HB.out)) hb); clear BK224; clear BK225; clear HB; have BK224:=n0_; have BK225:=n1_; have HB:=n2_; clear n0_ n1_ n2_; (try clear hb); (try clear hb2); (try clear hk); (try clear hi); have hcz90_0:w89.cell? ⟨gb225,0,none⟩=some (.int .i64 0):=(blk_cell BK225.out 0).trans rfl; have hcz90_1:w89.cell? ⟨gb225,1,none⟩=some (.int .u64 0):=(blk_cell BK225.out 1).trans rfl; have hcz90_2:w89.cell? ⟨gb225,2,none⟩=some (.int .i64 0):=(blk_cell BK225.out 2).trans rfl; have hcz90_3:w89.cell? ⟨gb225,3,none⟩=some (.int .u64 0):=(blk_cell BK225.out 3).trans rfl; have hcz90_4:w89.cell? ⟨gb225,4,none⟩=some (.bool false):=(blk_cell BK225.out 4).trans rfl; have hcz90_5:w89.cell? ⟨gb225,5,none⟩=some (.int .u64 0):=(blk_cell BK225.out 5).trans rfl; have hcz90_6:w89.cell? ⟨gb225,6,none⟩=some (.bool false):=(blk_cell BK225.out 6).trans rfl; have hcz90_7:w89.cell? ⟨gb225,7,none⟩=some (.int .u64 0):=(blk_cell BK225.out 7).trans rfl; have hcz90_8:w89.cell? ⟨gb225,8,none⟩=some (.bool false):=(blk_cell BK225.out 8).trans rfl; have hcz90_9:w89.cell? ⟨gb225,9,none⟩=some (.int .u64 0):=(blk_cell BK225.out 9).trans rfl; have hcz90_10:w89.cell? ⟨gb225,10,none⟩=some (.bool false):=(blk_cell BK225.out 10).trans rfl; have hcz90_11:w89.cell? ⟨gb225,11,none⟩=some (.int .u64 0):=(blk_cell BK225.out 11).trans rfl; have hcz90_12:w89.cell? ⟨gb225,12,none⟩=some (.bool false):=(blk_cell BK225.out 12).trans rfl; have hfz90_0:=blk_frozen BK225.out 0; have hfz90_1:=blk_frozen BK225.out 1; have hfz90_2:=blk_frozen BK225.out 2; have hfz90_3:=blk_frozen BK225.out 3; have hfz90_4:=blk_frozen BK225.out 4; have hfz90_5:=blk_frozen BK225.out 5; have hfz90_6:=blk_frozen BK225.out 6; have hfz90_7:=blk_frozen BK225.out 7; have hfz90_8:=blk_frozen BK225.out 8; have hfz90_9:=blk_frozen BK225.out 9; have hfz90_10:=blk_frozen BK225.out 10; have hfz90_11:=blk_frozen BK225.out 11; have hfz90_12:=blk_frozen BK225.out 12))
  refine bodyPost_ret (results_list (rs:=[.tmp 6,.cell 7 28,.tmp 8,.tmp 9]) rfl (by simp) (.tmp (.cell gb225 28 #[.int .i64 0,.int .u64 0,.int .i64 0,.int .u64 0,.bool false,.int .u64 0,.bool false,.int .u64 0,.bool false,.int .u64 0,.bool false,.int .u64 0,.bool false] (0,0) _ rfl (by (with_reducible repeat (first | refine blk_drewN ?_ _ | refine blk_drew ?_ | refine blk_alloc ?_ _)); refine blk_put (cs:=#[.int .i64 0,.int .u64 0,.int .i64 0,.int .u64 0,.bool false,.int .u64 0,.bool false,.int .u64 0,.bool false,.int .u64 0,.bool false,.int .u64 0,.bool false]) ?_ 12 _ rfl; (with_reducible repeat (first | refine blk_drewN ?_ _ | refine blk_drew ?_ | refine blk_alloc ?_ _)); refine blk_put (cs:=#[.int .i64 0,.int .u64 0,.int .i64 0,.int .u64 0,.bool false,.int .u64 0,.bool false,.int .u64 0,.bool false,.int .u64 0,.bool false,.int .u64 0,.bool false]) ?_ 11 _ rfl; (with_reducible repeat (first | refine blk_drewN ?_ _ | refine blk_drew ?_ | refine blk_alloc ?_ _)); refine blk_put (cs:=#[.int .i64 0,.int .u64 0,.int .i64 0,.int .u64 0,.bool false,.int .u64 0,.bool false,.int .u64 0,.bool false,.int .u64 0,.bool false,.int .u64 0,.bool false]) ?_ 10 _ rfl; (with_reducible repeat (first | refine blk_drewN ?_ _ | refine blk_drew ?_ | refine blk_alloc ?_ _)); refine blk_put (cs:=#[.int .i64 0,.int .u64 0,.int .i64 0,.int .u64 0,.bool false,.int .u64 0,.bool false,.int .u64 0,.bool false,.int .u64 0,.bool false,.int .u64 0,.bool false]) ?_ 9 _ rfl; (with_reducible repeat (first | refine blk_drewN ?_ _ | refine blk_drew ?_ | refine blk_alloc ?_ _)); refine blk_put (cs:=#[.int .i64 0,.int .u64 0,.int .i64 0,.int .u64 0,.bool false,.int .u64 0,.bool false,.int .u64 0,.bool false,.int .u64 0,.bool false,.int .u64 0,.bool false]) ?_ 8 _ rfl; (with_reducible repeat (first | refine blk_drewN ?_ _ | refine blk_drew ?_ | refine blk_alloc ?_ _)); refine blk_put (cs:=#[.int .i64 0,.int .u64 0,.int .i64 0,.int .u64 0,.bool false,.int .u64 0,.bool false,.int .u64 0,.bool false,.int .u64 0,.bool false,.int .u64 0,.bool false]) ?_ 7 _ rfl; (with_reducible repeat (first | refine blk_drewN ?_ _ | refine blk_drew ?_ | refine blk_alloc ?_ _)); refine blk_put (cs:=#[.int .i64 0,.int .u64 0,.int .i64 0,.int .u64 0,.bool false,.int .u64 0,.bool false,.int .u64 0,.bool false,.int .u64 0,.bool false,.int .u64 0,.bool false]) ?_ 6 _ rfl; (with_reducible repeat (first | refine blk_drewN ?_ _ | refine blk_drew ?_ | refine blk_alloc ?_ _)); refine blk_put (cs:=#[.int .i64 0,.int .u64 0,.int .i64 0,.int .u64 0,.bool false,.int .u64 0,.bool false,.int .u64 0,.bool false,.int .u64 0,.bool false,.int .u64 0,.bool false]) ?_ 5 _ rfl; (with_reducible repeat (first | refine blk_drewN ?_ _ | refine blk_drew ?_ | refine blk_alloc ?_ _)); refine blk_put (cs:=#[.int .i64 0,.int .u64 0,.int .i64 0,.int .u64 0,.bool false,.int .u64 0,.bool false,.int .u64 0,.bool false,.int .u64 0,.bool false,.int .u64 0,.bool false]) ?_ 4 _ rfl; (with_reducible repeat (first | refine blk_drewN ?_ _ | refine blk_drew ?_ | refine blk_alloc ?_ _)); refine blk_put (cs:=#[.int .i64 0,.int .u64 0,.int .i64 0,.int .u64 0,.bool false,.int .u64 0,.bool false,.int .u64 0,.bool false,.int .u64 0,.bool false,.int .u64 0,.bool false]) ?_ 3 _ rfl; (with_reducible repeat (first | refine blk_drewN ?_ _ | refine blk_drew ?_ | refine blk_alloc ?_ _)); refine blk_put (cs:=#[.int .i64 0,.int .u64 0,.int .i64 0,.int .u64 0,.bool false,.int .u64 0,.bool false,.int .u64 0,.bool false,.int .u64 0,.bool false,.int .u64 0,.bool false]) ?_ 2 _ rfl; (with_reducible repeat (first | refine blk_drewN ?_ _ | refine blk_drew ?_ | refine blk_alloc ?_ _)); refine blk_put (cs:=#[.int .i64 0,.int .u64 0,.int .i64 0,.int .u64 0,.bool false,.int .u64 0,.bool false,.int .u64 0,.bool false,.int .u64 0,.bool false,.int .u64 0,.bool false]) ?_ 1 _ rfl; (with_reducible repeat (first | refine blk_drewN ?_ _ | refine blk_drew ?_ | refine blk_alloc ?_ _)); refine blk_put (cs:=#[.int .i64 0,.int .u64 0,.int .i64 0,.int .u64 0,.bool false,.int .u64 0,.bool false,.int .u64 0,.bool false,.int .u64 0,.bool false,.int .u64 0,.bool false]) ?_ 0 _ rfl; (with_reducible repeat (first | refine blk_drewN ?_ _ | refine blk_drew ?_ | refine blk_alloc ?_ _)); exact BK225.out) Tryd.underlying28 rfl (by kernel_rfl) (.tmp (.tmp .nil))))) rfl ?_
  exact ⟨by first | rfl | (simp [errW_none,errW_some] <;> rfl) | (simp [*,errW_none,errW_some] <;> rfl),by repeat (first | (with_reducible first | exact HB.out | apply below_alloc | apply pw_below_drewN | apply below_drew1 | refine below_set ?_ GE224.out | refine below_set ?_ GE225.out) | exact HB.out)⟩
end Go.Proofs.YtepflnfnkfkldaaDoor.PRea
