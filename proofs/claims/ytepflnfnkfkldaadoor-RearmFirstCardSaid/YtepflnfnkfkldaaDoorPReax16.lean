-- Written by a program of this session (gprint.py) over the kit's print.
import Derived.Test.YtepflnfnkfkldaaDoorPReax0
import Derived.Test.YtepflnfnkfkldaaDoorPReax4
import Derived.Test.YtepflnfnkfkldaaDoorPReax5
import Derived.Test.YtepflnfnkfkldaaDoorPReax10
import Derived.Test.YtepflnfnkfkldaaDoorPReax11
import Derived.Test.YtepflnfnkfkldaaDoorPReax13
import Derived.Test.YtepflnfnkfkldaaDoorPReax15
namespace Go.Proofs.YtepflnfnkfkldaaDoor.PRea
open Go.RowKit Go.Proofs.YtepflnfnkfkldaaDoorW.PrintWords Go.Proofs.YtepflnfnkfkldaaDoorW.PrintLast Go.Proofs.YtepflnfnkfkldaaDoorW.PrintMore
attribute [local go_sem] max2_int min2_int max_two min_two max_three min_three max_four min_four
set_option linter.unusedVariables false
set_option linter.unusedSimpArgs false
def complinelaw23_RearmFirst.f (k:Nat)(a0_0:Int)(a0_1:Int)(a0_2:Int)(a0_3:Int)(a0_4:Bool)(a0_5:Int)(a0_6:Bool)(a0_7:Int)(a0_8:Bool)(a0_9:Int)(a0_10:Bool)(a0_11:Int)(a0_12:Bool)(a1:Int)(a2:Int):Option (Bool):=(complinelaw23_works.f).bind fun t209=>(if t209=true then ((rearm_First.f a0_0 a0_1 a0_2 a0_3 a0_4 a0_5 a0_6 a0_7 a0_8 a0_9 a0_10 a0_11 a0_12 a1 a2).bind fun bt210=>((complineref23_First.f k a0_0 a0_1 a0_2 a0_3 a0_4 a0_5 a0_6 a0_7 a0_8 a0_9 a0_10 a0_11 a0_12 a1 a2).bind fun bt212=>((rearm_Minute.f a1).bind fun bt214=>((complineref23_Minute.f a1).bind fun bt216=>((rearm_Check.f k a0_0 a0_1 a0_2 a0_3 a0_4 a0_5 a0_6 a0_7 a0_8 a0_9 a0_10 a0_11 a0_12).bind fun t218=>((complineref23_Check.f k a0_0 a0_1 a0_2 a0_3 a0_4 a0_5 a0_6 a0_7 a0_8 a0_9 a0_10 a0_11 a0_12).bind fun t219=>(if t218=t219 then (if bt210.1=bt212.1 then (if bt210.2=bt212.2 then (if bt214.1=bt216.1 then (some (bt214.2 == bt216.2)) else (some false)) else (some false)) else (some false)) else (some false)))))))) else (some false))
def complinelaw23_RearmFirst.T8:Bool × List (List Nat × List Nat):=(true,[([],[]),([0],[0]),([1],[1]),([2,1,1],[1,2]),([1],[1]),([4,3,1],[1,4]),([3,5,1],[1,3,5]),([1,6],[1,6]),([7,5],[7]),([8],[8]),([8],[8]),([9,10,8],[8,9,10]),([8,11],[8,11]),([12,8],[12]),([13],[13]),([13],[13]),([14,15,13],[13,14,15]),([13,16],[13,16]),([17,13],[17]),([18],[18]),([18],[18]),([19,20,18],[18,19,20]),([18,21],[18,21]),([22,18],[22]),([23],[23]),([23],[23]),([24,25,23],[23,24,25]),([23,26],[23,26]),([27,23,0,1,2,3,4,5,6,7,8,9,10,11,12,13,14,15,16,17,18,19,20,21,22,23,24,25,26,27],[27])])
def complinelaw23_RearmFirst.B8:List Nat:=[0,1,3,7,3,31,63,127,255,511,511,2047,4095,8191,16383,16383,65535,131071,262143,524287,524287,2097151,4194303,8388607,16777215,16777215,67108863,134217727,268435455]
theorem complinelaw23_RearmFirst.tab8:rtab .any (opsOf Tryd.f3 8)=complinelaw23_RearmFirst.T8:=by kernel_rfl
theorem complinelaw23_RearmFirst.bits8:waitsOk complinelaw23_RearmFirst.T8.2 complinelaw23_RearmFirst.B8=true:=by kernel_rfl
set_option maxHeartbeats 8000000 in
set_option maxRecDepth 100000 in
theorem complinelaw23_RearmFirst.calls (k:Nat)(a0_0:Int)(a0_1:Int)(a0_2:Int)(a0_3:Int)(a0_4:Bool)(a0_5:Int)(a0_6:Bool)(a0_7:Int)(a0_8:Bool)(a0_9:Int)(a0_10:Bool)(a0_11:Int)(a0_12:Bool)(a1:Int)(a2:Int)(r:Bool)(w:World)(hT:Tab w)(h:complinelaw23_RearmFirst.f k a0_0 a0_1 a0_2 a0_3 a0_4 a0_5 a0_6 a0_7 a0_8 a0_9 a0_10 a0_11 a0_12 a1 a2=some r) :
  Calls Tryd.prog 3 #[.agg #[.int .i64 a0_0,.int .u64 a0_1,.int .i64 a0_2,.int .u64 a0_3,.bool a0_4,.int .u64 a0_5,.bool a0_6,.int .u64 a0_7,.bool a0_8,.int .u64 a0_9,.bool a0_10,.int .u64 a0_11,.bool a0_12],.int .u64 a1,.int .u64 a2] w fun e w'=>e=.returned (.bool r)∧Below w.heap.size w w':=by
 have hu28:=Tryd.underlying28
 have HB:=Aside0.mk (Below.refl w.heap.size w)
 have H:((complinelaw23_works.f).bind fun t209=>(if t209=true then ((rearm_First.f a0_0 a0_1 a0_2 a0_3 a0_4 a0_5 a0_6 a0_7 a0_8 a0_9 a0_10 a0_11 a0_12 a1 a2).bind fun bt210=>((complineref23_First.f k a0_0 a0_1 a0_2 a0_3 a0_4 a0_5 a0_6 a0_7 a0_8 a0_9 a0_10 a0_11 a0_12 a1 a2).bind fun bt212=>((rearm_Minute.f a1).bind fun bt214=>((complineref23_Minute.f a1).bind fun bt216=>((rearm_Check.f k a0_0 a0_1 a0_2 a0_3 a0_4 a0_5 a0_6 a0_7 a0_8 a0_9 a0_10 a0_11 a0_12).bind fun t218=>((complineref23_Check.f k a0_0 a0_1 a0_2 a0_3 a0_4 a0_5 a0_6 a0_7 a0_8 a0_9 a0_10 a0_11 a0_12).bind fun t219=>(if t218=t219 then (if bt210.1=bt212.1 then (if bt210.2=bt212.2 then (if bt214.1=bt216.1 then (some (bt214.2 == bt216.2)) else (some false)) else (some false)) else (some false)) else (some false)))))))) else (some false)))=some r:=h
 clear h
 replace H:=Option.bind_eq_some_iff.mp H
 obtain ⟨t209,A40,H⟩ :=H
 replace H:(if t209=true then ((rearm_First.f a0_0 a0_1 a0_2 a0_3 a0_4 a0_5 a0_6 a0_7 a0_8 a0_9 a0_10 a0_11 a0_12 a1 a2).bind fun bt210=>((complineref23_First.f k a0_0 a0_1 a0_2 a0_3 a0_4 a0_5 a0_6 a0_7 a0_8 a0_9 a0_10 a0_11 a0_12 a1 a2).bind fun bt212=>((rearm_Minute.f a1).bind fun bt214=>((complineref23_Minute.f a1).bind fun bt216=>((rearm_Check.f k a0_0 a0_1 a0_2 a0_3 a0_4 a0_5 a0_6 a0_7 a0_8 a0_9 a0_10 a0_11 a0_12).bind fun t218=>((complineref23_Check.f k a0_0 a0_1 a0_2 a0_3 a0_4 a0_5 a0_6 a0_7 a0_8 a0_9 a0_10 a0_11 a0_12).bind fun t219=>(if t218=t219 then (if bt210.1=bt212.1 then (if bt210.2=bt212.2 then (if bt214.1=bt216.1 then (some (bt214.2 == bt216.2)) else (some false)) else (some false)) else (some false)) else (some false)))))))) else (some false))=some r:=H
 have A4:=Aside0.mk A40
 clear A40
 by_cases c5:t209=true
 ·subst c5
  have H1:((rearm_First.f a0_0 a0_1 a0_2 a0_3 a0_4 a0_5 a0_6 a0_7 a0_8 a0_9 a0_10 a0_11 a0_12 a1 a2).bind fun bt210=>((complineref23_First.f k a0_0 a0_1 a0_2 a0_3 a0_4 a0_5 a0_6 a0_7 a0_8 a0_9 a0_10 a0_11 a0_12 a1 a2).bind fun bt212=>((rearm_Minute.f a1).bind fun bt214=>((complineref23_Minute.f a1).bind fun bt216=>((rearm_Check.f k a0_0 a0_1 a0_2 a0_3 a0_4 a0_5 a0_6 a0_7 a0_8 a0_9 a0_10 a0_11 a0_12).bind fun t218=>((complineref23_Check.f k a0_0 a0_1 a0_2 a0_3 a0_4 a0_5 a0_6 a0_7 a0_8 a0_9 a0_10 a0_11 a0_12).bind fun t219=>(if t218=t219 then (if bt210.1=bt212.1 then (if bt210.2=bt212.2 then (if bt214.1=bt216.1 then (some (bt214.2 == bt216.2)) else (some false)) else (some false)) else (some false)) else (some false))))))))=some r:=by rw [if_pos rfl] at H; exact H
  clear H
  have H:=H1
  clear H1
  replace H:=Option.bind_eq_some_iff.mp H
  obtain ⟨⟨t210,t211⟩,A60,H⟩ :=H
  replace H:((complineref23_First.f k a0_0 a0_1 a0_2 a0_3 a0_4 a0_5 a0_6 a0_7 a0_8 a0_9 a0_10 a0_11 a0_12 a1 a2).bind fun bt212=>((rearm_Minute.f a1).bind fun bt214=>((complineref23_Minute.f a1).bind fun bt216=>((rearm_Check.f k a0_0 a0_1 a0_2 a0_3 a0_4 a0_5 a0_6 a0_7 a0_8 a0_9 a0_10 a0_11 a0_12).bind fun t218=>((complineref23_Check.f k a0_0 a0_1 a0_2 a0_3 a0_4 a0_5 a0_6 a0_7 a0_8 a0_9 a0_10 a0_11 a0_12).bind fun t219=>(if t218=t219 then (if t210=bt212.1 then (if t211=bt212.2 then (if bt214.1=bt216.1 then (some (bt214.2 == bt216.2)) else (some false)) else (some false)) else (some false)) else (some false)))))))=some r:=H
  have A6:=Aside0.mk A60
  clear A60
  replace H:=Option.bind_eq_some_iff.mp H
  obtain ⟨⟨t212,t213⟩,A70,H⟩ :=H
  replace H:((rearm_Minute.f a1).bind fun bt214=>((complineref23_Minute.f a1).bind fun bt216=>((rearm_Check.f k a0_0 a0_1 a0_2 a0_3 a0_4 a0_5 a0_6 a0_7 a0_8 a0_9 a0_10 a0_11 a0_12).bind fun t218=>((complineref23_Check.f k a0_0 a0_1 a0_2 a0_3 a0_4 a0_5 a0_6 a0_7 a0_8 a0_9 a0_10 a0_11 a0_12).bind fun t219=>(if t218=t219 then (if t210=t212 then (if t211=t213 then (if bt214.1=bt216.1 then (some (bt214.2 == bt216.2)) else (some false)) else (some false)) else (some false)) else (some false))))))=some r:=H
  have A7:=Aside0.mk A70
  clear A70
  replace H:=Option.bind_eq_some_iff.mp H
  obtain ⟨⟨t214,t215⟩,A80,H⟩ :=H
  replace H:((complineref23_Minute.f a1).bind fun bt216=>((rearm_Check.f k a0_0 a0_1 a0_2 a0_3 a0_4 a0_5 a0_6 a0_7 a0_8 a0_9 a0_10 a0_11 a0_12).bind fun t218=>((complineref23_Check.f k a0_0 a0_1 a0_2 a0_3 a0_4 a0_5 a0_6 a0_7 a0_8 a0_9 a0_10 a0_11 a0_12).bind fun t219=>(if t218=t219 then (if t210=t212 then (if t211=t213 then (if t214=bt216.1 then (some (t215 == bt216.2)) else (some false)) else (some false)) else (some false)) else (some false)))))=some r:=H
  have A8:=Aside0.mk A80
  clear A80
  replace H:=Option.bind_eq_some_iff.mp H
  obtain ⟨⟨t216,t217⟩,A90,H⟩ :=H
  replace H:((rearm_Check.f k a0_0 a0_1 a0_2 a0_3 a0_4 a0_5 a0_6 a0_7 a0_8 a0_9 a0_10 a0_11 a0_12).bind fun t218=>((complineref23_Check.f k a0_0 a0_1 a0_2 a0_3 a0_4 a0_5 a0_6 a0_7 a0_8 a0_9 a0_10 a0_11 a0_12).bind fun t219=>(if t218=t219 then (if t210=t212 then (if t211=t213 then (if t214=t216 then (some (t215 == t217)) else (some false)) else (some false)) else (some false)) else (some false))))=some r:=H
  have A9:=Aside0.mk A90
  clear A90
  replace H:=Option.bind_eq_some_iff.mp H
  obtain ⟨t218,A100,H⟩ :=H
  replace H:((complineref23_Check.f k a0_0 a0_1 a0_2 a0_3 a0_4 a0_5 a0_6 a0_7 a0_8 a0_9 a0_10 a0_11 a0_12).bind fun t219=>(if t218=t219 then (if t210=t212 then (if t211=t213 then (if t214=t216 then (some (t215 == t217)) else (some false)) else (some false)) else (some false)) else (some false)))=some r:=H
  have A10:=Aside0.mk A100
  clear A100
  replace H:=Option.bind_eq_some_iff.mp H
  obtain ⟨t219,A110,H⟩ :=H
  replace H:(if t218=t219 then (if t210=t212 then (if t211=t213 then (if t214=t216 then (some (t215 == t217)) else (some false)) else (some false)) else (some false)) else (some false))=some r:=H
  have A11:=Aside0.mk A110
  clear A110
  by_cases c12:t218=t219
  ·rw [if_pos c12] at H
   have c12b0:(t218 == t219)=true:=beq_iff_eq.mpr c12
   have c12b1:(t218 != t219)=false:=bne_eq_false_iff_eq.mpr c12
   clear c12
   by_cases c13:t210=t212
   ·rw [if_pos c13] at H
    have c13b0:(t210 == t212)=true:=beq_iff_eq.mpr c13
    have c13b1:(t210 != t212)=false:=bne_eq_false_iff_eq.mpr c13
    clear c13
    by_cases c14:t211=t213
    ·rw [if_pos c14] at H
     have c14b0:(t211 == t213)=true:=beq_iff_eq.mpr c14
     have c14b1:(t211 != t213)=false:=bne_eq_false_iff_eq.mpr c14
     clear c14
     by_cases c15:t214=t216
     ·rw [if_pos c15] at H
      have c15b0:(t214 == t216)=true:=beq_iff_eq.mpr c15
      have c15b1:(t214 != t216)=false:=bne_eq_false_iff_eq.mpr c15
      clear c15
      obtain rfl:=Option.some.inj H
      go_enter Tryd.func3,Tryd.ntmps3
      try go_wp2_with (first | ((with_reducible refine gate_dst (N:=3) rfl ?_); refine box_event ?hg (N:=3) ?hd (cs:=#[.int .i64 a0_0,.int .u64 a0_1,.int .i64 a0_2,.int .u64 a0_3,.bool a0_4,.int .u64 a0_5,.bool a0_6,.int .u64 a0_7,.bool a0_8,.int .u64 a0_9,.bool a0_10,.int .u64 a0_11,.bool a0_12]) (t:=28) ?hr ?_; (case hd=>rfl); (case hg=>rfl); (case hr=>first | (go_simp; done) | (go_simp; rfl)); intro gb208 hg w16 hbox hb; have n0_:=Aside0.mk (below_step (by repeat (first | (with_reducible first | exact HB.out | apply below_alloc | apply pw_below_drewN | apply below_drew1) | exact HB.out)) hb); have n1_:=Aside0.mk (hbox); have n2_:=Aside0.mk ((by rw [hg]; exact (below_size (by repeat (first | (with_reducible first | exact HB.out | apply below_alloc | apply pw_below_drewN | apply below_drew1) | exact HB.out))):w.heap.size≤gb208)); have n3_:=Aside0.mk ((by rw [hg]; exact (below_size (by repeat (first | (with_reducible first | exact HB.out | apply below_alloc | apply pw_below_drewN | apply below_drew1) | exact HB.out))):w.heap.size≤gb208)); clear HB; have HB:=n0_; have BK208:=n1_; have GW208:=n2_; have GE208:=n3_; clear n0_ n1_ n2_ n3_; clear hb hbox hg) | ((with_reducible refine gate_callee (f:=9) rfl ?_); refine goesL_ (some 16) rfl rfl Tryd.func9 (by kernel_rfl) rfl #[] rfl (by (try simp only [List.map_toArray,List.map_cons,List.map_nil]); first | done | rfl | (simp only [List.length_drop,List.length_take]; rfl)) ?_; (with_reducible refine (complinelaw23_works.calls  true _ (hT.keep (by repeat (first | (with_reducible first | exact HB.out | apply below_alloc | apply pw_below_drewN | apply below_drew1 | refine below_set ?_ GE208.out) | exact HB.out))) A4.out).mono ?_); rintro e w17 ⟨rfl,hb⟩; refine ⟨_,rfl,?_⟩; have n0_:=Aside0.mk (blk_below (g:=gb208) (o:=.cells #[.int .i64 a0_0,.int .u64 a0_1,.int .i64 a0_2,.int .u64 a0_3,.bool a0_4,.int .u64 a0_5,.bool a0_6,.int .u64 a0_7,.bool a0_8,.int .u64 a0_9,.bool a0_10,.int .u64 a0_11,.bool a0_12] 28 (0,0)) (by (with_reducible repeat (first | refine blk_drewN ?_ _ | refine blk_drew ?_ | refine blk_alloc ?_ _)); exact BK208.out) hb); have n1_:=Aside0.mk (below_step (by repeat (first | (with_reducible first | exact HB.out | apply below_alloc | apply pw_below_drewN | apply below_drew1 | refine below_set ?_ GE208.out) | exact HB.out)) hb); clear BK208; clear HB; have BK208:=n0_; have HB:=n1_; clear n0_ n1_; (try clear hb); (try clear hb2); (try clear hk); (try clear hi); have hcz18_0:w17.cell? ⟨gb208,0,none⟩=some (.int .i64 a0_0):=(blk_cell BK208.out 0).trans rfl; have hcz18_1:w17.cell? ⟨gb208,1,none⟩=some (.int .u64 a0_1):=(blk_cell BK208.out 1).trans rfl; have hcz18_2:w17.cell? ⟨gb208,2,none⟩=some (.int .i64 a0_2):=(blk_cell BK208.out 2).trans rfl; have hcz18_3:w17.cell? ⟨gb208,3,none⟩=some (.int .u64 a0_3):=(blk_cell BK208.out 3).trans rfl; have hcz18_4:w17.cell? ⟨gb208,4,none⟩=some (.bool a0_4):=(blk_cell BK208.out 4).trans rfl; have hcz18_5:w17.cell? ⟨gb208,5,none⟩=some (.int .u64 a0_5):=(blk_cell BK208.out 5).trans rfl; have hcz18_6:w17.cell? ⟨gb208,6,none⟩=some (.bool a0_6):=(blk_cell BK208.out 6).trans rfl; have hcz18_7:w17.cell? ⟨gb208,7,none⟩=some (.int .u64 a0_7):=(blk_cell BK208.out 7).trans rfl; have hcz18_8:w17.cell? ⟨gb208,8,none⟩=some (.bool a0_8):=(blk_cell BK208.out 8).trans rfl; have hcz18_9:w17.cell? ⟨gb208,9,none⟩=some (.int .u64 a0_9):=(blk_cell BK208.out 9).trans rfl; have hcz18_10:w17.cell? ⟨gb208,10,none⟩=some (.bool a0_10):=(blk_cell BK208.out 10).trans rfl; have hcz18_11:w17.cell? ⟨gb208,11,none⟩=some (.int .u64 a0_11):=(blk_cell BK208.out 11).trans rfl; have hcz18_12:w17.cell? ⟨gb208,12,none⟩=some (.bool a0_12):=(blk_cell BK208.out 12).trans rfl; have hfz18_0:=blk_frozen BK208.out 0; have hfz18_1:=blk_frozen BK208.out 1; have hfz18_2:=blk_frozen BK208.out 2; have hfz18_3:=blk_frozen BK208.out 3; have hfz18_4:=blk_frozen BK208.out 4; have hfz18_5:=blk_frozen BK208.out 5; have hfz18_6:=blk_frozen BK208.out 6; have hfz18_7:=blk_frozen BK208.out 7; have hfz18_8:=blk_frozen BK208.out 8; have hfz18_9:=blk_frozen BK208.out 9; have hfz18_10:=blk_frozen BK208.out 10; have hfz18_11:=blk_frozen BK208.out 11; have hfz18_12:=blk_frozen BK208.out 12) | ((with_reducible refine gate_callee (f:=10) rfl ?_); refine goesL_ (some 23) rfl rfl Tryd.func10 (by kernel_rfl) rfl #[.agg #[.int .i64 a0_0,.int .u64 a0_1,.int .i64 a0_2,.int .u64 a0_3,.bool a0_4,.int .u64 a0_5,.bool a0_6,.int .u64 a0_7,.bool a0_8,.int .u64 a0_9,.bool a0_10,.int .u64 a0_11,.bool a0_12],.int .u64 a1,.int .u64 a2] rfl (by (try simp only [List.map_toArray,List.map_cons,List.map_nil]); first | done | rfl | (simp only [List.length_drop,List.length_take]; rfl)) ?_; (with_reducible refine (rearm_First.calls a0_0 a0_1 a0_2 a0_3 a0_4 a0_5 a0_6 a0_7 a0_8 a0_9 a0_10 a0_11 a0_12 a1 a2 t210 t211 _ (hT.keep (by repeat (first | (with_reducible first | exact HB.out | apply below_alloc | apply pw_below_drewN | apply below_drew1 | refine below_set ?_ GE208.out) | exact HB.out))) A6.out).mono ?_); rintro e w19 ⟨rfl,hb⟩; refine ⟨_,rfl,?_⟩; have n0_:=Aside0.mk (blk_below (g:=gb208) (o:=.cells #[.int .i64 a0_0,.int .u64 a0_1,.int .i64 a0_2,.int .u64 a0_3,.bool a0_4,.int .u64 a0_5,.bool a0_6,.int .u64 a0_7,.bool a0_8,.int .u64 a0_9,.bool a0_10,.int .u64 a0_11,.bool a0_12] 28 (0,0)) (by (with_reducible repeat (first | refine blk_drewN ?_ _ | refine blk_drew ?_ | refine blk_alloc ?_ _)); exact BK208.out) hb); have n1_:=Aside0.mk (below_step (by repeat (first | (with_reducible first | exact HB.out | apply below_alloc | apply pw_below_drewN | apply below_drew1 | refine below_set ?_ GE208.out) | exact HB.out)) hb); clear BK208; clear HB; have BK208:=n0_; have HB:=n1_; clear n0_ n1_; (try clear hb); (try clear hb2); (try clear hk); (try clear hi); have hcz20_0:w19.cell? ⟨gb208,0,none⟩=some (.int .i64 a0_0):=(blk_cell BK208.out 0).trans rfl; have hcz20_1:w19.cell? ⟨gb208,1,none⟩=some (.int .u64 a0_1):=(blk_cell BK208.out 1).trans rfl; have hcz20_2:w19.cell? ⟨gb208,2,none⟩=some (.int .i64 a0_2):=(blk_cell BK208.out 2).trans rfl; have hcz20_3:w19.cell? ⟨gb208,3,none⟩=some (.int .u64 a0_3):=(blk_cell BK208.out 3).trans rfl; have hcz20_4:w19.cell? ⟨gb208,4,none⟩=some (.bool a0_4):=(blk_cell BK208.out 4).trans rfl; have hcz20_5:w19.cell? ⟨gb208,5,none⟩=some (.int .u64 a0_5):=(blk_cell BK208.out 5).trans rfl; have hcz20_6:w19.cell? ⟨gb208,6,none⟩=some (.bool a0_6):=(blk_cell BK208.out 6).trans rfl; have hcz20_7:w19.cell? ⟨gb208,7,none⟩=some (.int .u64 a0_7):=(blk_cell BK208.out 7).trans rfl; have hcz20_8:w19.cell? ⟨gb208,8,none⟩=some (.bool a0_8):=(blk_cell BK208.out 8).trans rfl; have hcz20_9:w19.cell? ⟨gb208,9,none⟩=some (.int .u64 a0_9):=(blk_cell BK208.out 9).trans rfl; have hcz20_10:w19.cell? ⟨gb208,10,none⟩=some (.bool a0_10):=(blk_cell BK208.out 10).trans rfl; have hcz20_11:w19.cell? ⟨gb208,11,none⟩=some (.int .u64 a0_11):=(blk_cell BK208.out 11).trans rfl; have hcz20_12:w19.cell? ⟨gb208,12,none⟩=some (.bool a0_12):=(blk_cell BK208.out 12).trans rfl; have hfz20_0:=blk_frozen BK208.out 0; have hfz20_1:=blk_frozen BK208.out 1; have hfz20_2:=blk_frozen BK208.out 2; have hfz20_3:=blk_frozen BK208.out 3; have hfz20_4:=blk_frozen BK208.out 4; have hfz20_5:=blk_frozen BK208.out 5; have hfz20_6:=blk_frozen BK208.out 6; have hfz20_7:=blk_frozen BK208.out 7; have hfz20_8:=blk_frozen BK208.out 8; have hfz20_9:=blk_frozen BK208.out 9; have hfz20_10:=blk_frozen BK208.out 10; have hfz20_11:=blk_frozen BK208.out 11; have hfz20_12:=blk_frozen BK208.out 12) | ((with_reducible refine gate_callee (f:=11) rfl ?_); refine goesL_ (some 30) rfl rfl Tryd.func11 (by kernel_rfl) rfl #[.agg #[.int .i64 a0_0,.int .u64 a0_1,.int .i64 a0_2,.int .u64 a0_3,.bool a0_4,.int .u64 a0_5,.bool a0_6,.int .u64 a0_7,.bool a0_8,.int .u64 a0_9,.bool a0_10,.int .u64 a0_11,.bool a0_12],.int .u64 a1,.int .u64 a2] rfl (by (try simp only [List.map_toArray,List.map_cons,List.map_nil]); first | done | rfl | (simp only [List.length_drop,List.length_take]; rfl)) ?_; (with_reducible refine (complineref23_First.calls k a0_0 a0_1 a0_2 a0_3 a0_4 a0_5 a0_6 a0_7 a0_8 a0_9 a0_10 a0_11 a0_12 a1 a2 t212 t213 _ A7.out).mono ?_); rintro e w21 ⟨rfl,hb⟩; refine ⟨_,rfl,?_⟩; have n0_:=Aside0.mk (blk_below (g:=gb208) (o:=.cells #[.int .i64 a0_0,.int .u64 a0_1,.int .i64 a0_2,.int .u64 a0_3,.bool a0_4,.int .u64 a0_5,.bool a0_6,.int .u64 a0_7,.bool a0_8,.int .u64 a0_9,.bool a0_10,.int .u64 a0_11,.bool a0_12] 28 (0,0)) (by (with_reducible repeat (first | refine blk_drewN ?_ _ | refine blk_drew ?_ | refine blk_alloc ?_ _)); exact BK208.out) hb); have n1_:=Aside0.mk (below_step (by repeat (first | (with_reducible first | exact HB.out | apply below_alloc | apply pw_below_drewN | apply below_drew1 | refine below_set ?_ GE208.out) | exact HB.out)) hb); clear BK208; clear HB; have BK208:=n0_; have HB:=n1_; clear n0_ n1_; (try clear hb); (try clear hb2); (try clear hk); (try clear hi)) | ((with_reducible refine gate_callee (f:=12) rfl ?_); refine goesL_ (some 35) rfl rfl Tryd.func12 (by kernel_rfl) rfl #[.int .u64 a1] rfl (by (try simp only [List.map_toArray,List.map_cons,List.map_nil]); first | done | rfl | (simp only [List.length_drop,List.length_take]; rfl)) ?_; (with_reducible refine (rearm_Minute.calls a1 t214 t215 _ A8.out).mono ?_); rintro e w' ⟨rfl,⟨nd,rfl⟩⟩; refine ⟨_,rfl,?_⟩) | ((with_reducible refine gate_callee (f:=13) rfl ?_); refine goesL_ (some 40) rfl rfl Tryd.func13 (by kernel_rfl) rfl #[.int .u64 a1] rfl (by (try simp only [List.map_toArray,List.map_cons,List.map_nil]); first | done | rfl | (simp only [List.length_drop,List.length_take]; rfl)) ?_; (with_reducible refine (complineref23_Minute.calls a1 t216 t217 _ A9.out).mono ?_); rintro e w' ⟨rfl,⟨nd,rfl⟩⟩; refine ⟨_,rfl,?_⟩))
      (try (rw [drewN_self w21]; generalize hq_:World.drewN w21 _=w21; have n0_:Aside0 (w21.heap[gb208]?=some (.cells #[.int .i64 a0_0,.int .u64 a0_1,.int .i64 a0_2,.int .u64 a0_3,.bool a0_4,.int .u64 a0_5,.bool a0_6,.int .u64 a0_7,.bool a0_8,.int .u64 a0_9,.bool a0_10,.int .u64 a0_11,.bool a0_12] 28 (0,0))):=⟨by rw [← hq_]; exact (by (with_reducible repeat (first | refine blk_drewN ?_ _ | refine blk_drew ?_ | refine blk_alloc ?_ _)); exact BK208.out)⟩; have n1_:Aside0 (Below w.heap.size w w21):=⟨by rw [← hq_]; exact (by repeat (first | (with_reducible first | exact HB.out | apply below_alloc | apply pw_below_drewN | apply below_drew1 | refine below_set ?_ GE208.out) | exact HB.out))⟩; clear BK208 HB hq_; have BK208:=n0_; have HB:=n1_; clear n0_ n1_))
      have n0_:=Aside0.mk (blk_drew BK208.out)
      have n1_:=Aside0.mk (below_drew1 HB.out)
      clear BK208
      clear HB
      have BK208:=n0_
      have HB:=n1_
      clear n0_ n1_
      refine start_ (n:=29) (S:=fun w'=>w'.cell? ⟨gb208,0,none⟩=some (.int .i64 a0_0)∧w'.cell? ⟨gb208,1,none⟩=some (.int .u64 a0_1)∧w'.cell? ⟨gb208,2,none⟩=some (.int .i64 a0_2)∧w'.cell? ⟨gb208,3,none⟩=some (.int .u64 a0_3)∧w'.cell? ⟨gb208,4,none⟩=some (.bool a0_4)∧w'.cell? ⟨gb208,5,none⟩=some (.int .u64 a0_5)∧w'.cell? ⟨gb208,6,none⟩=some (.bool a0_6)∧w'.cell? ⟨gb208,7,none⟩=some (.int .u64 a0_7)∧w'.cell? ⟨gb208,8,none⟩=some (.bool a0_8)∧w'.cell? ⟨gb208,9,none⟩=some (.int .u64 a0_9)∧w'.cell? ⟨gb208,10,none⟩=some (.bool a0_10)∧w'.cell? ⟨gb208,11,none⟩=some (.int .u64 a0_11)∧w'.cell? ⟨gb208,12,none⟩=some (.bool a0_12)) (ds:=[]) #[F_,F_,F_,F_,F_,F_,F_,F_,F_,F_,F_,F_,F_,F_,F_,F_,F_,F_,F_,F_,F_,F_,F_,F_,F_,F_,F_,F_,F_] (by kernel_rfl) rfl rfl ⟨(blk_cell BK208.out 0).trans rfl,(blk_cell BK208.out 1).trans rfl,(blk_cell BK208.out 2).trans rfl,(blk_cell BK208.out 3).trans rfl,(blk_cell BK208.out 4).trans rfl,(blk_cell BK208.out 5).trans rfl,(blk_cell BK208.out 6).trans rfl,(blk_cell BK208.out 7).trans rfl,(blk_cell BK208.out 8).trans rfl,(blk_cell BK208.out 9).trans rfl,(blk_cell BK208.out 10).trans rfl,(blk_cell BK208.out 11).trans rfl,(blk_cell BK208.out 12).trans rfl⟩ (fun hHeld=>?_); refine with_tabW complinelaw23_RearmFirst.tab8 complinelaw23_RearmFirst.bits8 (fun HT_ HW_=>?_)
      generalize w21.drew=w22 at BK208 HB hHeld ⊢
      refine pure_ (i:=0) (N:=some 43) (v:=?_) (a':=?_) #[T_,F_,F_,F_,F_,F_,F_,F_,F_,F_,F_,F_,F_,F_,F_,F_,F_,F_,F_,F_,F_,F_,F_,F_,F_,F_,F_,F_,F_] rfl rfl (any_of HT_.out (by kernel_rfl)) (fun _ _ _ h=>h) (Or.inl ⟨by rfl,?_⟩) ?_ ?_
      rotate_left
      ·intro w'
       go_simp
       with_reducible rfl
      rotate_left
      ·simp only [Act.put,List.setIfInBounds_toArray,List.set_cons_zero,List.set_cons_succ,i64_w,i32_w]
       rfl
      refine pure_ (i:=1) (N:=some 44) (v:=?_) (a':=?_) #[T_,T_,F_,F_,F_,F_,F_,F_,F_,F_,F_,F_,F_,F_,F_,F_,F_,F_,F_,F_,F_,F_,F_,F_,F_,F_,F_,F_,F_] rfl rfl (any_of HT_.out (by kernel_rfl)) (fun _ _ _ h=>h) (Or.inl ⟨by rfl,?_⟩) ?_ ?_
      rotate_left
      ·intro w'
       go_simp
       with_reducible rfl
      rotate_left
      ·simp only [Act.put,List.setIfInBounds_toArray,List.set_cons_zero,List.set_cons_succ,i64_w,i32_w]
       rfl
      refine take_ (i:=2) (N:=some 45) (v:=?_) (a':=?_) #[T_,T_,T_,F_,F_,F_,F_,F_,F_,F_,F_,F_,F_,F_,F_,F_,F_,F_,F_,F_,F_,F_,F_,F_,F_,F_,F_,F_,F_] rfl rfl (take_ofW HT_.out HW_.out (by kernel_rfl)) (fun _ _ _ h=>h) (Or.inl ⟨by rfl,?_⟩) hHeld ?_ ?_
      rotate_left
      ·rintro w' ⟨s0,s1,s2,s3,s4,s5,s6,s7,s8,s9,s10,s11,s12⟩
       go_simp
       with_reducible rfl
      rotate_left
      ·simp only [Act.put,List.setIfInBounds_toArray,List.set_cons_zero,List.set_cons_succ,i64_w,i32_w]
       rfl
      refine take_ (i:=4) (N:=some 47) (v:=?_) (a':=?_) #[T_,T_,T_,F_,T_,F_,F_,F_,F_,F_,F_,F_,F_,F_,F_,F_,F_,F_,F_,F_,F_,F_,F_,F_,F_,F_,F_,F_,F_] rfl rfl (take_ofW HT_.out HW_.out (by kernel_rfl)) (fun _ _ _ h=>h) (Or.inl ⟨by rfl,?_⟩) hHeld ?_ ?_
      rotate_left
      ·rintro w' ⟨s0,s1,s2,s3,s4,s5,s6,s7,s8,s9,s10,s11,s12⟩
       go_simp
       with_reducible rfl
      rotate_left
      ·simp only [Act.put,List.setIfInBounds_toArray,List.set_cons_zero,List.set_cons_succ,i64_w,i32_w]
       rfl
      refine one_ (i:=3) (N:=some 46) #[T_,T_,T_,T_,T_,F_,F_,F_,F_,F_,F_,F_,F_,F_,F_,F_,F_,F_,F_,F_,F_,F_,F_,F_,F_,F_,F_,F_,F_] rfl rfl (one_of HT_.out (by kernel_rfl)) (by decide) (fun K hK=>?_)
      refine goes_ Tryd.func14 (by kernel_rfl) rfl #[.agg #[.int .i64 a0_0,.int .u64 a0_1,.int .i64 a0_2,.int .u64 a0_3,.bool a0_4,.int .u64 a0_5,.bool a0_6,.int .u64 a0_7,.bool a0_8,.int .u64 a0_9,.bool a0_10,.int .u64 a0_11,.bool a0_12]] (by rfl) rfl rfl (by (try simp only [List.map_toArray,List.map_cons,List.map_nil]); first | done | rfl | (simp only [List.length_drop,List.length_take]; rfl)) ?_
      with_reducible refine (rearm_Check.calls k a0_0 a0_1 a0_2 a0_3 a0_4 a0_5 a0_6 a0_7 a0_8 a0_9 a0_10 a0_11 a0_12 t218 _ A10.out).mono ?_
      rintro e w23 ⟨rfl,hb⟩
      refine ⟨_,rfl,?_⟩
      have n0_:=Aside0.mk (blk_below (g:=gb208) (o:=.cells #[.int .i64 a0_0,.int .u64 a0_1,.int .i64 a0_2,.int .u64 a0_3,.bool a0_4,.int .u64 a0_5,.bool a0_6,.int .u64 a0_7,.bool a0_8,.int .u64 a0_9,.bool a0_10,.int .u64 a0_11,.bool a0_12] 28 (0,0)) (by (with_reducible repeat (first | refine blk_drewN ?_ _ | refine blk_drew ?_ | refine blk_alloc ?_ _)); exact BK208.out) hb)
      have n1_:=Aside0.mk (below_step (by repeat (first | (with_reducible first | exact HB.out | apply below_alloc | apply pw_below_drewN | apply below_drew1 | refine below_set ?_ GE208.out) | exact HB.out)) hb)
      clear BK208
      clear HB
      have BK208:=n0_
      have HB:=n1_
      clear n0_ n1_
      (try clear hb)
      (try clear hb2)
      (try clear hk)
      (try clear hi)
      refine hK.out _ _ ⟨(blk_cell BK208.out 0).trans rfl,(blk_cell BK208.out 1).trans rfl,(blk_cell BK208.out 2).trans rfl,(blk_cell BK208.out 3).trans rfl,(blk_cell BK208.out 4).trans rfl,(blk_cell BK208.out 5).trans rfl,(blk_cell BK208.out 6).trans rfl,(blk_cell BK208.out 7).trans rfl,(blk_cell BK208.out 8).trans rfl,(blk_cell BK208.out 9).trans rfl,(blk_cell BK208.out 10).trans rfl,(blk_cell BK208.out 11).trans rfl,(blk_cell BK208.out 12).trans rfl⟩ (fun hHeld=>?_)
      clear hK K
      refine norm_ (a':=?_) ?_ ?_
      rotate_left
      ·show Act.put _ (some 46) _=_
       simp only [Act.put,List.setIfInBounds_toArray,List.set_cons_zero,List.set_cons_succ,i64_w,i32_w]
       rfl
      refine one_ (i:=5) (N:=some 48) #[T_,T_,T_,T_,T_,T_,F_,F_,F_,F_,F_,F_,F_,F_,F_,F_,F_,F_,F_,F_,F_,F_,F_,F_,F_,F_,F_,F_,F_] rfl rfl (one_of HT_.out (by kernel_rfl)) (by decide) (fun K hK=>?_)
      refine goes_ Tryd.func15 (by kernel_rfl) rfl #[.agg #[.int .i64 a0_0,.int .u64 a0_1,.int .i64 a0_2,.int .u64 a0_3,.bool a0_4,.int .u64 a0_5,.bool a0_6,.int .u64 a0_7,.bool a0_8,.int .u64 a0_9,.bool a0_10,.int .u64 a0_11,.bool a0_12]] (by rfl) rfl rfl (by (try simp only [List.map_toArray,List.map_cons,List.map_nil]); first | done | rfl | (simp only [List.length_drop,List.length_take]; rfl)) ?_
      with_reducible refine (complineref23_Check.calls k a0_0 a0_1 a0_2 a0_3 a0_4 a0_5 a0_6 a0_7 a0_8 a0_9 a0_10 a0_11 a0_12 t219 _ A11.out).mono ?_
      rintro e w24 ⟨rfl,hb⟩
      refine ⟨_,rfl,?_⟩
      have n0_:=Aside0.mk (blk_below (g:=gb208) (o:=.cells #[.int .i64 a0_0,.int .u64 a0_1,.int .i64 a0_2,.int .u64 a0_3,.bool a0_4,.int .u64 a0_5,.bool a0_6,.int .u64 a0_7,.bool a0_8,.int .u64 a0_9,.bool a0_10,.int .u64 a0_11,.bool a0_12] 28 (0,0)) (by (with_reducible repeat (first | refine blk_drewN ?_ _ | refine blk_drew ?_ | refine blk_alloc ?_ _)); exact BK208.out) hb)
      have n1_:=Aside0.mk (below_step (by repeat (first | (with_reducible first | exact HB.out | apply below_alloc | apply pw_below_drewN | apply below_drew1 | refine below_set ?_ GE208.out) | exact HB.out)) hb)
      clear BK208
      clear HB
      have BK208:=n0_
      have HB:=n1_
      clear n0_ n1_
      (try clear hb)
      (try clear hb2)
      (try clear hk)
      (try clear hi)
      refine hK.out _ _ ⟨(blk_cell BK208.out 0).trans rfl,(blk_cell BK208.out 1).trans rfl,(blk_cell BK208.out 2).trans rfl,(blk_cell BK208.out 3).trans rfl,(blk_cell BK208.out 4).trans rfl,(blk_cell BK208.out 5).trans rfl,(blk_cell BK208.out 6).trans rfl,(blk_cell BK208.out 7).trans rfl,(blk_cell BK208.out 8).trans rfl,(blk_cell BK208.out 9).trans rfl,(blk_cell BK208.out 10).trans rfl,(blk_cell BK208.out 11).trans rfl,(blk_cell BK208.out 12).trans rfl⟩ (fun hHeld=>?_)
      clear hK K
      refine norm_ (a':=?_) ?_ ?_
      rotate_left
      ·show Act.put _ (some 48) _=_
       simp only [Act.put,List.setIfInBounds_toArray,List.set_cons_zero,List.set_cons_succ,i64_w,i32_w]
       rfl
      refine pure_ (i:=6) (N:=some 49) (v:=?_) (a':=?_) #[T_,T_,T_,T_,T_,T_,T_,F_,F_,F_,F_,F_,F_,F_,F_,F_,F_,F_,F_,F_,F_,F_,F_,F_,F_,F_,F_,F_,F_] rfl rfl (any_of HT_.out (by kernel_rfl)) (fun _ _ _ h=>h) (Or.inl ⟨by rfl,?_⟩) ?_ ?_
      rotate_left
      ·intro w'
       go_simp
       with_reducible rfl
      rotate_left
      ·simp only [Act.put,List.setIfInBounds_toArray,List.set_cons_zero,List.set_cons_succ,i64_w,i32_w]
       rfl
      refine pure_ (i:=7) (N:=some 50) (v:=?_) (a':=?_) #[T_,T_,T_,T_,T_,T_,T_,T_,F_,F_,F_,F_,F_,F_,F_,F_,F_,F_,F_,F_,F_,F_,F_,F_,F_,F_,F_,F_,F_] rfl rfl (any_of HT_.out (by kernel_rfl)) (fun _ _ _ h=>h) (Or.inl ⟨by rfl,?_⟩) ?_ ?_
      rotate_left
      ·intro w'
       go_simp
       with_reducible rfl
      rotate_left
      ·simp only [Act.put,List.setIfInBounds_toArray,List.set_cons_zero,List.set_cons_succ,i64_w,i32_w]
       rfl
      refine pure_ (i:=8) (N:=some 51) (v:=?_) (a':=?_) #[T_,T_,T_,T_,T_,T_,T_,T_,T_,F_,F_,F_,F_,F_,F_,F_,F_,F_,F_,F_,F_,F_,F_,F_,F_,F_,F_,F_,F_] rfl rfl (any_of HT_.out (by kernel_rfl)) (fun _ _ _ h=>h) (Or.inl ⟨by rfl,?_⟩) ?_ ?_
      rotate_left
      ·intro w'
       go_simp
       with_reducible rfl
      rotate_left
      ·simp only [Act.put,List.setIfInBounds_toArray,List.set_cons_zero,List.set_cons_succ,i64_w,i32_w]
       rfl
      refine pure_ (i:=9) (N:=some 52) (v:=?_) (a':=?_) #[T_,T_,T_,T_,T_,T_,T_,T_,T_,T_,F_,F_,F_,F_,F_,F_,F_,F_,F_,F_,F_,F_,F_,F_,F_,F_,F_,F_,F_] rfl rfl (any_of HT_.out (by kernel_rfl)) (fun _ _ _ h=>h) (Or.inl ⟨by rfl,?_⟩) ?_ ?_
      rotate_left
      ·intro w'
       go_simp
       with_reducible rfl
      rotate_left
      ·simp only [Act.put,List.setIfInBounds_toArray,List.set_cons_zero,List.set_cons_succ,i64_w,i32_w]
       rfl
      refine pure_ (i:=10) (N:=some 53) (v:=?_) (a':=?_) #[T_,T_,T_,T_,T_,T_,T_,T_,T_,T_,T_,F_,F_,F_,F_,F_,F_,F_,F_,F_,F_,F_,F_,F_,F_,F_,F_,F_,F_] rfl rfl (any_of HT_.out (by kernel_rfl)) (fun _ _ _ h=>h) (Or.inl ⟨by rfl,?_⟩) ?_ ?_
      rotate_left
      ·intro w'
       go_simp
       with_reducible rfl
      rotate_left
      ·simp only [Act.put,List.setIfInBounds_toArray,List.set_cons_zero,List.set_cons_succ,i64_w,i32_w]
       rfl
      refine pure_ (i:=11) (N:=some 54) (v:=?_) (a':=?_) #[T_,T_,T_,T_,T_,T_,T_,T_,T_,T_,T_,T_,F_,F_,F_,F_,F_,F_,F_,F_,F_,F_,F_,F_,F_,F_,F_,F_,F_] rfl rfl (any_of HT_.out (by kernel_rfl)) (fun _ _ _ h=>h) (Or.inl ⟨by rfl,?_⟩) ?_ ?_
      rotate_left
      ·intro w'
       go_simp
       with_reducible rfl
      rotate_left
      ·simp only [Act.put,List.setIfInBounds_toArray,List.set_cons_zero,List.set_cons_succ,i64_w,i32_w]
       rfl
      refine pure_ (i:=12) (N:=some 55) (v:=?_) (a':=?_) #[T_,T_,T_,T_,T_,T_,T_,T_,T_,T_,T_,T_,T_,F_,F_,F_,F_,F_,F_,F_,F_,F_,F_,F_,F_,F_,F_,F_,F_] rfl rfl (any_of HT_.out (by kernel_rfl)) (fun _ _ _ h=>h) (Or.inl ⟨by rfl,?_⟩) ?_ ?_
      rotate_left
      ·intro w'
       go_simp
       with_reducible rfl
      rotate_left
      ·simp only [Act.put,List.setIfInBounds_toArray,List.set_cons_zero,List.set_cons_succ,i64_w,i32_w]
       rfl
      refine pure_ (i:=13) (N:=some 56) (v:=?_) (a':=?_) #[T_,T_,T_,T_,T_,T_,T_,T_,T_,T_,T_,T_,T_,T_,F_,F_,F_,F_,F_,F_,F_,F_,F_,F_,F_,F_,F_,F_,F_] rfl rfl (any_of HT_.out (by kernel_rfl)) (fun _ _ _ h=>h) (Or.inl ⟨by rfl,?_⟩) ?_ ?_
      rotate_left
      ·intro w'
       go_simp
       with_reducible rfl
      rotate_left
      ·simp only [Act.put,List.setIfInBounds_toArray,List.set_cons_zero,List.set_cons_succ,i64_w,i32_w]
       rfl
      refine pure_ (i:=14) (N:=some 57) (v:=?_) (a':=?_) #[T_,T_,T_,T_,T_,T_,T_,T_,T_,T_,T_,T_,T_,T_,T_,F_,F_,F_,F_,F_,F_,F_,F_,F_,F_,F_,F_,F_,F_] rfl rfl (any_of HT_.out (by kernel_rfl)) (fun _ _ _ h=>h) (Or.inl ⟨by rfl,?_⟩) ?_ ?_
      rotate_left
      ·intro w'
       go_simp
       with_reducible rfl
      rotate_left
      ·simp only [Act.put,List.setIfInBounds_toArray,List.set_cons_zero,List.set_cons_succ,i64_w,i32_w]
       rfl
      refine pure_ (i:=15) (N:=some 58) (v:=?_) (a':=?_) #[T_,T_,T_,T_,T_,T_,T_,T_,T_,T_,T_,T_,T_,T_,T_,T_,F_,F_,F_,F_,F_,F_,F_,F_,F_,F_,F_,F_,F_] rfl rfl (any_of HT_.out (by kernel_rfl)) (fun _ _ _ h=>h) (Or.inl ⟨by rfl,?_⟩) ?_ ?_
      rotate_left
      ·intro w'
       go_simp
       with_reducible rfl
      rotate_left
      ·simp only [Act.put,List.setIfInBounds_toArray,List.set_cons_zero,List.set_cons_succ,i64_w,i32_w]
       rfl
      refine pure_ (i:=16) (N:=some 59) (v:=?_) (a':=?_) #[T_,T_,T_,T_,T_,T_,T_,T_,T_,T_,T_,T_,T_,T_,T_,T_,T_,F_,F_,F_,F_,F_,F_,F_,F_,F_,F_,F_,F_] rfl rfl (any_of HT_.out (by kernel_rfl)) (fun _ _ _ h=>h) (Or.inl ⟨by rfl,?_⟩) ?_ ?_
      rotate_left
      ·intro w'
       go_simp
       with_reducible rfl
      rotate_left
      ·simp only [Act.put,List.setIfInBounds_toArray,List.set_cons_zero,List.set_cons_succ,i64_w,i32_w]
       rfl
      refine pure_ (i:=17) (N:=some 60) (v:=?_) (a':=?_) #[T_,T_,T_,T_,T_,T_,T_,T_,T_,T_,T_,T_,T_,T_,T_,T_,T_,T_,F_,F_,F_,F_,F_,F_,F_,F_,F_,F_,F_] rfl rfl (any_of HT_.out (by kernel_rfl)) (fun _ _ _ h=>h) (Or.inl ⟨by rfl,?_⟩) ?_ ?_
      rotate_left
      ·intro w'
       go_simp
       with_reducible rfl
      rotate_left
      ·simp only [Act.put,List.setIfInBounds_toArray,List.set_cons_zero,List.set_cons_succ,i64_w,i32_w]
       rfl
      refine pure_ (i:=18) (N:=some 61) (v:=?_) (a':=?_) #[T_,T_,T_,T_,T_,T_,T_,T_,T_,T_,T_,T_,T_,T_,T_,T_,T_,T_,T_,F_,F_,F_,F_,F_,F_,F_,F_,F_,F_] rfl rfl (any_of HT_.out (by kernel_rfl)) (fun _ _ _ h=>h) (Or.inl ⟨by rfl,?_⟩) ?_ ?_
      rotate_left
      ·intro w'
       go_simp
       with_reducible rfl
      rotate_left
      ·simp only [Act.put,List.setIfInBounds_toArray,List.set_cons_zero,List.set_cons_succ,i64_w,i32_w]
       rfl
      refine pure_ (i:=19) (N:=some 62) (v:=?_) (a':=?_) #[T_,T_,T_,T_,T_,T_,T_,T_,T_,T_,T_,T_,T_,T_,T_,T_,T_,T_,T_,T_,F_,F_,F_,F_,F_,F_,F_,F_,F_] rfl rfl (any_of HT_.out (by kernel_rfl)) (fun _ _ _ h=>h) (Or.inl ⟨by rfl,?_⟩) ?_ ?_
      rotate_left
      ·intro w'
       go_simp
       with_reducible rfl
      rotate_left
      ·simp only [Act.put,List.setIfInBounds_toArray,List.set_cons_zero,List.set_cons_succ,i64_w,i32_w]
       rfl
      refine pure_ (i:=20) (N:=some 63) (v:=?_) (a':=?_) #[T_,T_,T_,T_,T_,T_,T_,T_,T_,T_,T_,T_,T_,T_,T_,T_,T_,T_,T_,T_,T_,F_,F_,F_,F_,F_,F_,F_,F_] rfl rfl (any_of HT_.out (by kernel_rfl)) (fun _ _ _ h=>h) (Or.inl ⟨by rfl,?_⟩) ?_ ?_
      rotate_left
      ·intro w'
       go_simp
       with_reducible rfl
      rotate_left
      ·simp only [Act.put,List.setIfInBounds_toArray,List.set_cons_zero,List.set_cons_succ,i64_w,i32_w]
       rfl
      refine pure_ (i:=21) (N:=some 64) (v:=?_) (a':=?_) #[T_,T_,T_,T_,T_,T_,T_,T_,T_,T_,T_,T_,T_,T_,T_,T_,T_,T_,T_,T_,T_,T_,F_,F_,F_,F_,F_,F_,F_] rfl rfl (any_of HT_.out (by kernel_rfl)) (fun _ _ _ h=>h) (Or.inl ⟨by rfl,?_⟩) ?_ ?_
      rotate_left
      ·intro w'
       go_simp
       with_reducible rfl
      rotate_left
      ·simp only [Act.put,List.setIfInBounds_toArray,List.set_cons_zero,List.set_cons_succ,i64_w,i32_w]
       rfl
      refine pure_ (i:=22) (N:=some 65) (v:=?_) (a':=?_) #[T_,T_,T_,T_,T_,T_,T_,T_,T_,T_,T_,T_,T_,T_,T_,T_,T_,T_,T_,T_,T_,T_,T_,F_,F_,F_,F_,F_,F_] rfl rfl (any_of HT_.out (by kernel_rfl)) (fun _ _ _ h=>h) (Or.inl ⟨by rfl,?_⟩) ?_ ?_
      rotate_left
      ·intro w'
       go_simp
       with_reducible rfl
      rotate_left
      ·simp only [Act.put,List.setIfInBounds_toArray,List.set_cons_zero,List.set_cons_succ,i64_w,i32_w]
       rfl
      refine pure_ (i:=23) (N:=some 66) (v:=?_) (a':=?_) #[T_,T_,T_,T_,T_,T_,T_,T_,T_,T_,T_,T_,T_,T_,T_,T_,T_,T_,T_,T_,T_,T_,T_,T_,F_,F_,F_,F_,F_] rfl rfl (any_of HT_.out (by kernel_rfl)) (fun _ _ _ h=>h) (Or.inl ⟨by rfl,?_⟩) ?_ ?_
      rotate_left
      ·intro w'
       go_simp
       with_reducible rfl
      rotate_left
      ·simp only [Act.put,List.setIfInBounds_toArray,List.set_cons_zero,List.set_cons_succ,i64_w,i32_w]
       rfl
      refine pure_ (i:=24) (N:=some 67) (v:=?_) (a':=?_) #[T_,T_,T_,T_,T_,T_,T_,T_,T_,T_,T_,T_,T_,T_,T_,T_,T_,T_,T_,T_,T_,T_,T_,T_,T_,F_,F_,F_,F_] rfl rfl (any_of HT_.out (by kernel_rfl)) (fun _ _ _ h=>h) (Or.inl ⟨by rfl,?_⟩) ?_ ?_
      rotate_left
      ·intro w'
       go_simp
       with_reducible rfl
      rotate_left
      ·simp only [Act.put,List.setIfInBounds_toArray,List.set_cons_zero,List.set_cons_succ,i64_w,i32_w]
       rfl
      refine pure_ (i:=25) (N:=some 68) (v:=?_) (a':=?_) #[T_,T_,T_,T_,T_,T_,T_,T_,T_,T_,T_,T_,T_,T_,T_,T_,T_,T_,T_,T_,T_,T_,T_,T_,T_,T_,F_,F_,F_] rfl rfl (any_of HT_.out (by kernel_rfl)) (fun _ _ _ h=>h) (Or.inl ⟨by rfl,?_⟩) ?_ ?_
      rotate_left
      ·intro w'
       go_simp
       with_reducible rfl
      rotate_left
      ·simp only [Act.put,List.setIfInBounds_toArray,List.set_cons_zero,List.set_cons_succ,i64_w,i32_w]
       rfl
      refine pure_ (i:=26) (N:=some 69) (v:=?_) (a':=?_) #[T_,T_,T_,T_,T_,T_,T_,T_,T_,T_,T_,T_,T_,T_,T_,T_,T_,T_,T_,T_,T_,T_,T_,T_,T_,T_,T_,F_,F_] rfl rfl (any_of HT_.out (by kernel_rfl)) (fun _ _ _ h=>h) (Or.inl ⟨by rfl,?_⟩) ?_ ?_
      rotate_left
      ·intro w'
       go_simp
       with_reducible rfl
      rotate_left
      ·simp only [Act.put,List.setIfInBounds_toArray,List.set_cons_zero,List.set_cons_succ,i64_w,i32_w]
       rfl
      refine pure_ (i:=27) (N:=some 70) (v:=?_) (a':=?_) #[T_,T_,T_,T_,T_,T_,T_,T_,T_,T_,T_,T_,T_,T_,T_,T_,T_,T_,T_,T_,T_,T_,T_,T_,T_,T_,T_,T_,F_] rfl rfl (any_of HT_.out (by kernel_rfl)) (fun _ _ _ h=>h) (Or.inl ⟨by rfl,?_⟩) ?_ ?_
      rotate_left
      ·intro w'
       go_simp
       with_reducible rfl
      rotate_left
      ·simp only [Act.put,List.setIfInBounds_toArray,List.set_cons_zero,List.set_cons_succ,i64_w,i32_w]
       rfl
      refine pure_ (i:=28) (N:=some 6) (v:=?_) (a':=?_) #[T_,T_,T_,T_,T_,T_,T_,T_,T_,T_,T_,T_,T_,T_,T_,T_,T_,T_,T_,T_,T_,T_,T_,T_,T_,T_,T_,T_,T_] rfl rfl (any_of HT_.out (by kernel_rfl)) (fun _ _ _ h=>h) (Or.inl ⟨by rfl,?_⟩) ?_ ?_
      rotate_left
      ·intro w'
       go_simp
       with_reducible rfl
      rotate_left
      ·simp only [Act.put,List.setIfInBounds_toArray,List.set_cons_zero,List.set_cons_succ,i64_w,i32_w]
       rfl
      refine done_ (done_of HT_.out (by kernel_rfl)) ?_
      try go_wp2
      go_ret
      exact ⟨by first | rfl | (simp [errW_none,errW_some] <;> rfl) | (simp [*,errW_none,errW_some] <;> rfl),by repeat (first | (with_reducible first | exact HB.out | apply below_alloc | apply pw_below_drewN | apply below_drew1 | refine below_set ?_ GE208.out) | exact HB.out)⟩
     ·rw [if_neg c15] at H
      have c15b0:(t214 == t216)=false:=beq_eq_false_iff_ne.mpr c15
      have c15b1:(t214 != t216)=true:=bne_iff_ne.mpr c15
      obtain rfl:=Option.some.inj H
      go_enter Tryd.func3,Tryd.ntmps3
      try go_wp2_with (first | ((with_reducible refine gate_dst (N:=3) rfl ?_); refine box_event ?hg (N:=3) ?hd (cs:=#[.int .i64 a0_0,.int .u64 a0_1,.int .i64 a0_2,.int .u64 a0_3,.bool a0_4,.int .u64 a0_5,.bool a0_6,.int .u64 a0_7,.bool a0_8,.int .u64 a0_9,.bool a0_10,.int .u64 a0_11,.bool a0_12]) (t:=28) ?hr ?_; (case hd=>rfl); (case hg=>rfl); (case hr=>first | (go_simp; done) | (go_simp; rfl)); intro gb208 hg w25 hbox hb; have n0_:=Aside0.mk (below_step (by repeat (first | (with_reducible first | exact HB.out | apply below_alloc | apply pw_below_drewN | apply below_drew1) | exact HB.out)) hb); have n1_:=Aside0.mk (hbox); have n2_:=Aside0.mk ((by rw [hg]; exact (below_size (by repeat (first | (with_reducible first | exact HB.out | apply below_alloc | apply pw_below_drewN | apply below_drew1) | exact HB.out))):w.heap.size≤gb208)); have n3_:=Aside0.mk ((by rw [hg]; exact (below_size (by repeat (first | (with_reducible first | exact HB.out | apply below_alloc | apply pw_below_drewN | apply below_drew1) | exact HB.out))):w.heap.size≤gb208)); clear HB; have HB:=n0_; have BK208:=n1_; have GW208:=n2_; have GE208:=n3_; clear n0_ n1_ n2_ n3_; clear hb hbox hg) | ((with_reducible refine gate_callee (f:=9) rfl ?_); refine goesL_ (some 16) rfl rfl Tryd.func9 (by kernel_rfl) rfl #[] rfl (by (try simp only [List.map_toArray,List.map_cons,List.map_nil]); first | done | rfl | (simp only [List.length_drop,List.length_take]; rfl)) ?_; (with_reducible refine (complinelaw23_works.calls  true _ (hT.keep (by repeat (first | (with_reducible first | exact HB.out | apply below_alloc | apply pw_below_drewN | apply below_drew1 | refine below_set ?_ GE208.out) | exact HB.out))) A4.out).mono ?_); rintro e w26 ⟨rfl,hb⟩; refine ⟨_,rfl,?_⟩; have n0_:=Aside0.mk (blk_below (g:=gb208) (o:=.cells #[.int .i64 a0_0,.int .u64 a0_1,.int .i64 a0_2,.int .u64 a0_3,.bool a0_4,.int .u64 a0_5,.bool a0_6,.int .u64 a0_7,.bool a0_8,.int .u64 a0_9,.bool a0_10,.int .u64 a0_11,.bool a0_12] 28 (0,0)) (by (with_reducible repeat (first | refine blk_drewN ?_ _ | refine blk_drew ?_ | refine blk_alloc ?_ _)); exact BK208.out) hb); have n1_:=Aside0.mk (below_step (by repeat (first | (with_reducible first | exact HB.out | apply below_alloc | apply pw_below_drewN | apply below_drew1 | refine below_set ?_ GE208.out) | exact HB.out)) hb); clear BK208; clear HB; have BK208:=n0_; have HB:=n1_; clear n0_ n1_; (try clear hb); (try clear hb2); (try clear hk); (try clear hi); have hcz27_0:w26.cell? ⟨gb208,0,none⟩=some (.int .i64 a0_0):=(blk_cell BK208.out 0).trans rfl; have hcz27_1:w26.cell? ⟨gb208,1,none⟩=some (.int .u64 a0_1):=(blk_cell BK208.out 1).trans rfl; have hcz27_2:w26.cell? ⟨gb208,2,none⟩=some (.int .i64 a0_2):=(blk_cell BK208.out 2).trans rfl; have hcz27_3:w26.cell? ⟨gb208,3,none⟩=some (.int .u64 a0_3):=(blk_cell BK208.out 3).trans rfl; have hcz27_4:w26.cell? ⟨gb208,4,none⟩=some (.bool a0_4):=(blk_cell BK208.out 4).trans rfl; have hcz27_5:w26.cell? ⟨gb208,5,none⟩=some (.int .u64 a0_5):=(blk_cell BK208.out 5).trans rfl; have hcz27_6:w26.cell? ⟨gb208,6,none⟩=some (.bool a0_6):=(blk_cell BK208.out 6).trans rfl; have hcz27_7:w26.cell? ⟨gb208,7,none⟩=some (.int .u64 a0_7):=(blk_cell BK208.out 7).trans rfl; have hcz27_8:w26.cell? ⟨gb208,8,none⟩=some (.bool a0_8):=(blk_cell BK208.out 8).trans rfl; have hcz27_9:w26.cell? ⟨gb208,9,none⟩=some (.int .u64 a0_9):=(blk_cell BK208.out 9).trans rfl; have hcz27_10:w26.cell? ⟨gb208,10,none⟩=some (.bool a0_10):=(blk_cell BK208.out 10).trans rfl; have hcz27_11:w26.cell? ⟨gb208,11,none⟩=some (.int .u64 a0_11):=(blk_cell BK208.out 11).trans rfl; have hcz27_12:w26.cell? ⟨gb208,12,none⟩=some (.bool a0_12):=(blk_cell BK208.out 12).trans rfl; have hfz27_0:=blk_frozen BK208.out 0; have hfz27_1:=blk_frozen BK208.out 1; have hfz27_2:=blk_frozen BK208.out 2; have hfz27_3:=blk_frozen BK208.out 3; have hfz27_4:=blk_frozen BK208.out 4; have hfz27_5:=blk_frozen BK208.out 5; have hfz27_6:=blk_frozen BK208.out 6; have hfz27_7:=blk_frozen BK208.out 7; have hfz27_8:=blk_frozen BK208.out 8; have hfz27_9:=blk_frozen BK208.out 9; have hfz27_10:=blk_frozen BK208.out 10; have hfz27_11:=blk_frozen BK208.out 11; have hfz27_12:=blk_frozen BK208.out 12) | ((with_reducible refine gate_callee (f:=10) rfl ?_); refine goesL_ (some 23) rfl rfl Tryd.func10 (by kernel_rfl) rfl #[.agg #[.int .i64 a0_0,.int .u64 a0_1,.int .i64 a0_2,.int .u64 a0_3,.bool a0_4,.int .u64 a0_5,.bool a0_6,.int .u64 a0_7,.bool a0_8,.int .u64 a0_9,.bool a0_10,.int .u64 a0_11,.bool a0_12],.int .u64 a1,.int .u64 a2] rfl (by (try simp only [List.map_toArray,List.map_cons,List.map_nil]); first | done | rfl | (simp only [List.length_drop,List.length_take]; rfl)) ?_; (with_reducible refine (rearm_First.calls a0_0 a0_1 a0_2 a0_3 a0_4 a0_5 a0_6 a0_7 a0_8 a0_9 a0_10 a0_11 a0_12 a1 a2 t210 t211 _ (hT.keep (by repeat (first | (with_reducible first | exact HB.out | apply below_alloc | apply pw_below_drewN | apply below_drew1 | refine below_set ?_ GE208.out) | exact HB.out))) A6.out).mono ?_); rintro e w28 ⟨rfl,hb⟩; refine ⟨_,rfl,?_⟩; have n0_:=Aside0.mk (blk_below (g:=gb208) (o:=.cells #[.int .i64 a0_0,.int .u64 a0_1,.int .i64 a0_2,.int .u64 a0_3,.bool a0_4,.int .u64 a0_5,.bool a0_6,.int .u64 a0_7,.bool a0_8,.int .u64 a0_9,.bool a0_10,.int .u64 a0_11,.bool a0_12] 28 (0,0)) (by (with_reducible repeat (first | refine blk_drewN ?_ _ | refine blk_drew ?_ | refine blk_alloc ?_ _)); exact BK208.out) hb); have n1_:=Aside0.mk (below_step (by repeat (first | (with_reducible first | exact HB.out | apply below_alloc | apply pw_below_drewN | apply below_drew1 | refine below_set ?_ GE208.out) | exact HB.out)) hb); clear BK208; clear HB; have BK208:=n0_; have HB:=n1_; clear n0_ n1_; (try clear hb); (try clear hb2); (try clear hk); (try clear hi); have hcz29_0:w28.cell? ⟨gb208,0,none⟩=some (.int .i64 a0_0):=(blk_cell BK208.out 0).trans rfl; have hcz29_1:w28.cell? ⟨gb208,1,none⟩=some (.int .u64 a0_1):=(blk_cell BK208.out 1).trans rfl; have hcz29_2:w28.cell? ⟨gb208,2,none⟩=some (.int .i64 a0_2):=(blk_cell BK208.out 2).trans rfl; have hcz29_3:w28.cell? ⟨gb208,3,none⟩=some (.int .u64 a0_3):=(blk_cell BK208.out 3).trans rfl; have hcz29_4:w28.cell? ⟨gb208,4,none⟩=some (.bool a0_4):=(blk_cell BK208.out 4).trans rfl; have hcz29_5:w28.cell? ⟨gb208,5,none⟩=some (.int .u64 a0_5):=(blk_cell BK208.out 5).trans rfl; have hcz29_6:w28.cell? ⟨gb208,6,none⟩=some (.bool a0_6):=(blk_cell BK208.out 6).trans rfl; have hcz29_7:w28.cell? ⟨gb208,7,none⟩=some (.int .u64 a0_7):=(blk_cell BK208.out 7).trans rfl; have hcz29_8:w28.cell? ⟨gb208,8,none⟩=some (.bool a0_8):=(blk_cell BK208.out 8).trans rfl; have hcz29_9:w28.cell? ⟨gb208,9,none⟩=some (.int .u64 a0_9):=(blk_cell BK208.out 9).trans rfl; have hcz29_10:w28.cell? ⟨gb208,10,none⟩=some (.bool a0_10):=(blk_cell BK208.out 10).trans rfl; have hcz29_11:w28.cell? ⟨gb208,11,none⟩=some (.int .u64 a0_11):=(blk_cell BK208.out 11).trans rfl; have hcz29_12:w28.cell? ⟨gb208,12,none⟩=some (.bool a0_12):=(blk_cell BK208.out 12).trans rfl; have hfz29_0:=blk_frozen BK208.out 0; have hfz29_1:=blk_frozen BK208.out 1; have hfz29_2:=blk_frozen BK208.out 2; have hfz29_3:=blk_frozen BK208.out 3; have hfz29_4:=blk_frozen BK208.out 4; have hfz29_5:=blk_frozen BK208.out 5; have hfz29_6:=blk_frozen BK208.out 6; have hfz29_7:=blk_frozen BK208.out 7; have hfz29_8:=blk_frozen BK208.out 8; have hfz29_9:=blk_frozen BK208.out 9; have hfz29_10:=blk_frozen BK208.out 10; have hfz29_11:=blk_frozen BK208.out 11; have hfz29_12:=blk_frozen BK208.out 12) | ((with_reducible refine gate_callee (f:=11) rfl ?_); refine goesL_ (some 30) rfl rfl Tryd.func11 (by kernel_rfl) rfl #[.agg #[.int .i64 a0_0,.int .u64 a0_1,.int .i64 a0_2,.int .u64 a0_3,.bool a0_4,.int .u64 a0_5,.bool a0_6,.int .u64 a0_7,.bool a0_8,.int .u64 a0_9,.bool a0_10,.int .u64 a0_11,.bool a0_12],.int .u64 a1,.int .u64 a2] rfl (by (try simp only [List.map_toArray,List.map_cons,List.map_nil]); first | done | rfl | (simp only [List.length_drop,List.length_take]; rfl)) ?_; (with_reducible refine (complineref23_First.calls k a0_0 a0_1 a0_2 a0_3 a0_4 a0_5 a0_6 a0_7 a0_8 a0_9 a0_10 a0_11 a0_12 a1 a2 t212 t213 _ A7.out).mono ?_); rintro e w30 ⟨rfl,hb⟩; refine ⟨_,rfl,?_⟩; have n0_:=Aside0.mk (blk_below (g:=gb208) (o:=.cells #[.int .i64 a0_0,.int .u64 a0_1,.int .i64 a0_2,.int .u64 a0_3,.bool a0_4,.int .u64 a0_5,.bool a0_6,.int .u64 a0_7,.bool a0_8,.int .u64 a0_9,.bool a0_10,.int .u64 a0_11,.bool a0_12] 28 (0,0)) (by (with_reducible repeat (first | refine blk_drewN ?_ _ | refine blk_drew ?_ | refine blk_alloc ?_ _)); exact BK208.out) hb); have n1_:=Aside0.mk (below_step (by repeat (first | (with_reducible first | exact HB.out | apply below_alloc | apply pw_below_drewN | apply below_drew1 | refine below_set ?_ GE208.out) | exact HB.out)) hb); clear BK208; clear HB; have BK208:=n0_; have HB:=n1_; clear n0_ n1_; (try clear hb); (try clear hb2); (try clear hk); (try clear hi)) | ((with_reducible refine gate_callee (f:=12) rfl ?_); refine goesL_ (some 35) rfl rfl Tryd.func12 (by kernel_rfl) rfl #[.int .u64 a1] rfl (by (try simp only [List.map_toArray,List.map_cons,List.map_nil]); first | done | rfl | (simp only [List.length_drop,List.length_take]; rfl)) ?_; (with_reducible refine (rearm_Minute.calls a1 t214 t215 _ A8.out).mono ?_); rintro e w' ⟨rfl,⟨nd,rfl⟩⟩; refine ⟨_,rfl,?_⟩) | ((with_reducible refine gate_callee (f:=13) rfl ?_); refine goesL_ (some 40) rfl rfl Tryd.func13 (by kernel_rfl) rfl #[.int .u64 a1] rfl (by (try simp only [List.map_toArray,List.map_cons,List.map_nil]); first | done | rfl | (simp only [List.length_drop,List.length_take]; rfl)) ?_; (with_reducible refine (complineref23_Minute.calls a1 t216 t217 _ A9.out).mono ?_); rintro e w' ⟨rfl,⟨nd,rfl⟩⟩; refine ⟨_,rfl,?_⟩))
      (try (rw [drewN_self w30]; generalize hq_:World.drewN w30 _=w30; have n0_:Aside0 (w30.heap[gb208]?=some (.cells #[.int .i64 a0_0,.int .u64 a0_1,.int .i64 a0_2,.int .u64 a0_3,.bool a0_4,.int .u64 a0_5,.bool a0_6,.int .u64 a0_7,.bool a0_8,.int .u64 a0_9,.bool a0_10,.int .u64 a0_11,.bool a0_12] 28 (0,0))):=⟨by rw [← hq_]; exact (by (with_reducible repeat (first | refine blk_drewN ?_ _ | refine blk_drew ?_ | refine blk_alloc ?_ _)); exact BK208.out)⟩; have n1_:Aside0 (Below w.heap.size w w30):=⟨by rw [← hq_]; exact (by repeat (first | (with_reducible first | exact HB.out | apply below_alloc | apply pw_below_drewN | apply below_drew1 | refine below_set ?_ GE208.out) | exact HB.out))⟩; clear BK208 HB hq_; have BK208:=n0_; have HB:=n1_; clear n0_ n1_))
      have n0_:=Aside0.mk (blk_drew BK208.out)
      have n1_:=Aside0.mk (below_drew1 HB.out)
      clear BK208
      clear HB
      have BK208:=n0_
      have HB:=n1_
      clear n0_ n1_
      refine start_ (n:=29) (S:=fun w'=>w'.cell? ⟨gb208,0,none⟩=some (.int .i64 a0_0)∧w'.cell? ⟨gb208,1,none⟩=some (.int .u64 a0_1)∧w'.cell? ⟨gb208,2,none⟩=some (.int .i64 a0_2)∧w'.cell? ⟨gb208,3,none⟩=some (.int .u64 a0_3)∧w'.cell? ⟨gb208,4,none⟩=some (.bool a0_4)∧w'.cell? ⟨gb208,5,none⟩=some (.int .u64 a0_5)∧w'.cell? ⟨gb208,6,none⟩=some (.bool a0_6)∧w'.cell? ⟨gb208,7,none⟩=some (.int .u64 a0_7)∧w'.cell? ⟨gb208,8,none⟩=some (.bool a0_8)∧w'.cell? ⟨gb208,9,none⟩=some (.int .u64 a0_9)∧w'.cell? ⟨gb208,10,none⟩=some (.bool a0_10)∧w'.cell? ⟨gb208,11,none⟩=some (.int .u64 a0_11)∧w'.cell? ⟨gb208,12,none⟩=some (.bool a0_12)) (ds:=[]) #[F_,F_,F_,F_,F_,F_,F_,F_,F_,F_,F_,F_,F_,F_,F_,F_,F_,F_,F_,F_,F_,F_,F_,F_,F_,F_,F_,F_,F_] (by kernel_rfl) rfl rfl ⟨(blk_cell BK208.out 0).trans rfl,(blk_cell BK208.out 1).trans rfl,(blk_cell BK208.out 2).trans rfl,(blk_cell BK208.out 3).trans rfl,(blk_cell BK208.out 4).trans rfl,(blk_cell BK208.out 5).trans rfl,(blk_cell BK208.out 6).trans rfl,(blk_cell BK208.out 7).trans rfl,(blk_cell BK208.out 8).trans rfl,(blk_cell BK208.out 9).trans rfl,(blk_cell BK208.out 10).trans rfl,(blk_cell BK208.out 11).trans rfl,(blk_cell BK208.out 12).trans rfl⟩ (fun hHeld=>?_); refine with_tabW complinelaw23_RearmFirst.tab8 complinelaw23_RearmFirst.bits8 (fun HT_ HW_=>?_)
      generalize w30.drew=w31 at BK208 HB hHeld ⊢
      refine pure_ (i:=0) (N:=some 43) (v:=?_) (a':=?_) #[T_,F_,F_,F_,F_,F_,F_,F_,F_,F_,F_,F_,F_,F_,F_,F_,F_,F_,F_,F_,F_,F_,F_,F_,F_,F_,F_,F_,F_] rfl rfl (any_of HT_.out (by kernel_rfl)) (fun _ _ _ h=>h) (Or.inl ⟨by rfl,?_⟩) ?_ ?_
      rotate_left
      ·intro w'
       go_simp
       with_reducible rfl
      rotate_left
      ·simp only [Act.put,List.setIfInBounds_toArray,List.set_cons_zero,List.set_cons_succ,i64_w,i32_w]
       rfl
      refine pure_ (i:=1) (N:=some 44) (v:=?_) (a':=?_) #[T_,T_,F_,F_,F_,F_,F_,F_,F_,F_,F_,F_,F_,F_,F_,F_,F_,F_,F_,F_,F_,F_,F_,F_,F_,F_,F_,F_,F_] rfl rfl (any_of HT_.out (by kernel_rfl)) (fun _ _ _ h=>h) (Or.inl ⟨by rfl,?_⟩) ?_ ?_
      rotate_left
      ·intro w'
       go_simp
       with_reducible rfl
      rotate_left
      ·simp only [Act.put,List.setIfInBounds_toArray,List.set_cons_zero,List.set_cons_succ,i64_w,i32_w]
       rfl
      refine take_ (i:=2) (N:=some 45) (v:=?_) (a':=?_) #[T_,T_,T_,F_,F_,F_,F_,F_,F_,F_,F_,F_,F_,F_,F_,F_,F_,F_,F_,F_,F_,F_,F_,F_,F_,F_,F_,F_,F_] rfl rfl (take_ofW HT_.out HW_.out (by kernel_rfl)) (fun _ _ _ h=>h) (Or.inl ⟨by rfl,?_⟩) hHeld ?_ ?_
      rotate_left
      ·rintro w' ⟨s0,s1,s2,s3,s4,s5,s6,s7,s8,s9,s10,s11,s12⟩
       go_simp
       with_reducible rfl
      rotate_left
      ·simp only [Act.put,List.setIfInBounds_toArray,List.set_cons_zero,List.set_cons_succ,i64_w,i32_w]
       rfl
      refine take_ (i:=4) (N:=some 47) (v:=?_) (a':=?_) #[T_,T_,T_,F_,T_,F_,F_,F_,F_,F_,F_,F_,F_,F_,F_,F_,F_,F_,F_,F_,F_,F_,F_,F_,F_,F_,F_,F_,F_] rfl rfl (take_ofW HT_.out HW_.out (by kernel_rfl)) (fun _ _ _ h=>h) (Or.inl ⟨by rfl,?_⟩) hHeld ?_ ?_
      rotate_left
      ·rintro w' ⟨s0,s1,s2,s3,s4,s5,s6,s7,s8,s9,s10,s11,s12⟩
       go_simp
       with_reducible rfl
      rotate_left
      ·simp only [Act.put,List.setIfInBounds_toArray,List.set_cons_zero,List.set_cons_succ,i64_w,i32_w]
       rfl
      refine one_ (i:=3) (N:=some 46) #[T_,T_,T_,T_,T_,F_,F_,F_,F_,F_,F_,F_,F_,F_,F_,F_,F_,F_,F_,F_,F_,F_,F_,F_,F_,F_,F_,F_,F_] rfl rfl (one_of HT_.out (by kernel_rfl)) (by decide) (fun K hK=>?_)
      refine goes_ Tryd.func14 (by kernel_rfl) rfl #[.agg #[.int .i64 a0_0,.int .u64 a0_1,.int .i64 a0_2,.int .u64 a0_3,.bool a0_4,.int .u64 a0_5,.bool a0_6,.int .u64 a0_7,.bool a0_8,.int .u64 a0_9,.bool a0_10,.int .u64 a0_11,.bool a0_12]] (by rfl) rfl rfl (by (try simp only [List.map_toArray,List.map_cons,List.map_nil]); first | done | rfl | (simp only [List.length_drop,List.length_take]; rfl)) ?_
      with_reducible refine (rearm_Check.calls k a0_0 a0_1 a0_2 a0_3 a0_4 a0_5 a0_6 a0_7 a0_8 a0_9 a0_10 a0_11 a0_12 t218 _ A10.out).mono ?_
      rintro e w32 ⟨rfl,hb⟩
      refine ⟨_,rfl,?_⟩
      have n0_:=Aside0.mk (blk_below (g:=gb208) (o:=.cells #[.int .i64 a0_0,.int .u64 a0_1,.int .i64 a0_2,.int .u64 a0_3,.bool a0_4,.int .u64 a0_5,.bool a0_6,.int .u64 a0_7,.bool a0_8,.int .u64 a0_9,.bool a0_10,.int .u64 a0_11,.bool a0_12] 28 (0,0)) (by (with_reducible repeat (first | refine blk_drewN ?_ _ | refine blk_drew ?_ | refine blk_alloc ?_ _)); exact BK208.out) hb)
      have n1_:=Aside0.mk (below_step (by repeat (first | (with_reducible first | exact HB.out | apply below_alloc | apply pw_below_drewN | apply below_drew1 | refine below_set ?_ GE208.out) | exact HB.out)) hb)
      clear BK208
      clear HB
      have BK208:=n0_
      have HB:=n1_
      clear n0_ n1_
      (try clear hb)
      (try clear hb2)
      (try clear hk)
      (try clear hi)
      refine hK.out _ _ ⟨(blk_cell BK208.out 0).trans rfl,(blk_cell BK208.out 1).trans rfl,(blk_cell BK208.out 2).trans rfl,(blk_cell BK208.out 3).trans rfl,(blk_cell BK208.out 4).trans rfl,(blk_cell BK208.out 5).trans rfl,(blk_cell BK208.out 6).trans rfl,(blk_cell BK208.out 7).trans rfl,(blk_cell BK208.out 8).trans rfl,(blk_cell BK208.out 9).trans rfl,(blk_cell BK208.out 10).trans rfl,(blk_cell BK208.out 11).trans rfl,(blk_cell BK208.out 12).trans rfl⟩ (fun hHeld=>?_)
      clear hK K
      refine norm_ (a':=?_) ?_ ?_
      rotate_left
      ·show Act.put _ (some 46) _=_
       simp only [Act.put,List.setIfInBounds_toArray,List.set_cons_zero,List.set_cons_succ,i64_w,i32_w]
       rfl
      refine one_ (i:=5) (N:=some 48) #[T_,T_,T_,T_,T_,T_,F_,F_,F_,F_,F_,F_,F_,F_,F_,F_,F_,F_,F_,F_,F_,F_,F_,F_,F_,F_,F_,F_,F_] rfl rfl (one_of HT_.out (by kernel_rfl)) (by decide) (fun K hK=>?_)
      refine goes_ Tryd.func15 (by kernel_rfl) rfl #[.agg #[.int .i64 a0_0,.int .u64 a0_1,.int .i64 a0_2,.int .u64 a0_3,.bool a0_4,.int .u64 a0_5,.bool a0_6,.int .u64 a0_7,.bool a0_8,.int .u64 a0_9,.bool a0_10,.int .u64 a0_11,.bool a0_12]] (by rfl) rfl rfl (by (try simp only [List.map_toArray,List.map_cons,List.map_nil]); first | done | rfl | (simp only [List.length_drop,List.length_take]; rfl)) ?_
      with_reducible refine (complineref23_Check.calls k a0_0 a0_1 a0_2 a0_3 a0_4 a0_5 a0_6 a0_7 a0_8 a0_9 a0_10 a0_11 a0_12 t219 _ A11.out).mono ?_
      rintro e w33 ⟨rfl,hb⟩
      refine ⟨_,rfl,?_⟩
      have n0_:=Aside0.mk (blk_below (g:=gb208) (o:=.cells #[.int .i64 a0_0,.int .u64 a0_1,.int .i64 a0_2,.int .u64 a0_3,.bool a0_4,.int .u64 a0_5,.bool a0_6,.int .u64 a0_7,.bool a0_8,.int .u64 a0_9,.bool a0_10,.int .u64 a0_11,.bool a0_12] 28 (0,0)) (by (with_reducible repeat (first | refine blk_drewN ?_ _ | refine blk_drew ?_ | refine blk_alloc ?_ _)); exact BK208.out) hb)
      have n1_:=Aside0.mk (below_step (by repeat (first | (with_reducible first | exact HB.out | apply below_alloc | apply pw_below_drewN | apply below_drew1 | refine below_set ?_ GE208.out) | exact HB.out)) hb)
      clear BK208
      clear HB
      have BK208:=n0_
      have HB:=n1_
      clear n0_ n1_
      (try clear hb)
      (try clear hb2)
      (try clear hk)
      (try clear hi)
      refine hK.out _ _ ⟨(blk_cell BK208.out 0).trans rfl,(blk_cell BK208.out 1).trans rfl,(blk_cell BK208.out 2).trans rfl,(blk_cell BK208.out 3).trans rfl,(blk_cell BK208.out 4).trans rfl,(blk_cell BK208.out 5).trans rfl,(blk_cell BK208.out 6).trans rfl,(blk_cell BK208.out 7).trans rfl,(blk_cell BK208.out 8).trans rfl,(blk_cell BK208.out 9).trans rfl,(blk_cell BK208.out 10).trans rfl,(blk_cell BK208.out 11).trans rfl,(blk_cell BK208.out 12).trans rfl⟩ (fun hHeld=>?_)
      clear hK K
      refine norm_ (a':=?_) ?_ ?_
      rotate_left
      ·show Act.put _ (some 48) _=_
       simp only [Act.put,List.setIfInBounds_toArray,List.set_cons_zero,List.set_cons_succ,i64_w,i32_w]
       rfl
      refine pure_ (i:=6) (N:=some 49) (v:=?_) (a':=?_) #[T_,T_,T_,T_,T_,T_,T_,F_,F_,F_,F_,F_,F_,F_,F_,F_,F_,F_,F_,F_,F_,F_,F_,F_,F_,F_,F_,F_,F_] rfl rfl (any_of HT_.out (by kernel_rfl)) (fun _ _ _ h=>h) (Or.inl ⟨by rfl,?_⟩) ?_ ?_
      rotate_left
      ·intro w'
       go_simp
       with_reducible rfl
      rotate_left
      ·simp only [Act.put,List.setIfInBounds_toArray,List.set_cons_zero,List.set_cons_succ,i64_w,i32_w]
       rfl
      refine pure_ (i:=7) (N:=some 50) (v:=?_) (a':=?_) #[T_,T_,T_,T_,T_,T_,T_,T_,F_,F_,F_,F_,F_,F_,F_,F_,F_,F_,F_,F_,F_,F_,F_,F_,F_,F_,F_,F_,F_] rfl rfl (any_of HT_.out (by kernel_rfl)) (fun _ _ _ h=>h) (Or.inl ⟨by rfl,?_⟩) ?_ ?_
      rotate_left
      ·intro w'
       go_simp
       with_reducible rfl
      rotate_left
      ·simp only [Act.put,List.setIfInBounds_toArray,List.set_cons_zero,List.set_cons_succ,i64_w,i32_w]
       rfl
      refine pure_ (i:=8) (N:=some 51) (v:=?_) (a':=?_) #[T_,T_,T_,T_,T_,T_,T_,T_,T_,F_,F_,F_,F_,F_,F_,F_,F_,F_,F_,F_,F_,F_,F_,F_,F_,F_,F_,F_,F_] rfl rfl (any_of HT_.out (by kernel_rfl)) (fun _ _ _ h=>h) (Or.inl ⟨by rfl,?_⟩) ?_ ?_
      rotate_left
      ·intro w'
       go_simp
       with_reducible rfl
      rotate_left
      ·simp only [Act.put,List.setIfInBounds_toArray,List.set_cons_zero,List.set_cons_succ,i64_w,i32_w]
       rfl
      refine pure_ (i:=9) (N:=some 52) (v:=?_) (a':=?_) #[T_,T_,T_,T_,T_,T_,T_,T_,T_,T_,F_,F_,F_,F_,F_,F_,F_,F_,F_,F_,F_,F_,F_,F_,F_,F_,F_,F_,F_] rfl rfl (any_of HT_.out (by kernel_rfl)) (fun _ _ _ h=>h) (Or.inl ⟨by rfl,?_⟩) ?_ ?_
      rotate_left
      ·intro w'
       go_simp
       with_reducible rfl
      rotate_left
      ·simp only [Act.put,List.setIfInBounds_toArray,List.set_cons_zero,List.set_cons_succ,i64_w,i32_w]
       rfl
      refine pure_ (i:=10) (N:=some 53) (v:=?_) (a':=?_) #[T_,T_,T_,T_,T_,T_,T_,T_,T_,T_,T_,F_,F_,F_,F_,F_,F_,F_,F_,F_,F_,F_,F_,F_,F_,F_,F_,F_,F_] rfl rfl (any_of HT_.out (by kernel_rfl)) (fun _ _ _ h=>h) (Or.inl ⟨by rfl,?_⟩) ?_ ?_
      rotate_left
      ·intro w'
       go_simp
       with_reducible rfl
      rotate_left
      ·simp only [Act.put,List.setIfInBounds_toArray,List.set_cons_zero,List.set_cons_succ,i64_w,i32_w]
       rfl
      refine pure_ (i:=11) (N:=some 54) (v:=?_) (a':=?_) #[T_,T_,T_,T_,T_,T_,T_,T_,T_,T_,T_,T_,F_,F_,F_,F_,F_,F_,F_,F_,F_,F_,F_,F_,F_,F_,F_,F_,F_] rfl rfl (any_of HT_.out (by kernel_rfl)) (fun _ _ _ h=>h) (Or.inl ⟨by rfl,?_⟩) ?_ ?_
      rotate_left
      ·intro w'
       go_simp
       with_reducible rfl
      rotate_left
      ·simp only [Act.put,List.setIfInBounds_toArray,List.set_cons_zero,List.set_cons_succ,i64_w,i32_w]
       rfl
      refine pure_ (i:=12) (N:=some 55) (v:=?_) (a':=?_) #[T_,T_,T_,T_,T_,T_,T_,T_,T_,T_,T_,T_,T_,F_,F_,F_,F_,F_,F_,F_,F_,F_,F_,F_,F_,F_,F_,F_,F_] rfl rfl (any_of HT_.out (by kernel_rfl)) (fun _ _ _ h=>h) (Or.inl ⟨by rfl,?_⟩) ?_ ?_
      rotate_left
      ·intro w'
       go_simp
       with_reducible rfl
      rotate_left
      ·simp only [Act.put,List.setIfInBounds_toArray,List.set_cons_zero,List.set_cons_succ,i64_w,i32_w]
       rfl
      refine pure_ (i:=13) (N:=some 56) (v:=?_) (a':=?_) #[T_,T_,T_,T_,T_,T_,T_,T_,T_,T_,T_,T_,T_,T_,F_,F_,F_,F_,F_,F_,F_,F_,F_,F_,F_,F_,F_,F_,F_] rfl rfl (any_of HT_.out (by kernel_rfl)) (fun _ _ _ h=>h) (Or.inl ⟨by rfl,?_⟩) ?_ ?_
      rotate_left
      ·intro w'
       go_simp
       with_reducible rfl
      rotate_left
      ·simp only [Act.put,List.setIfInBounds_toArray,List.set_cons_zero,List.set_cons_succ,i64_w,i32_w]
       rfl
      refine pure_ (i:=14) (N:=some 57) (v:=?_) (a':=?_) #[T_,T_,T_,T_,T_,T_,T_,T_,T_,T_,T_,T_,T_,T_,T_,F_,F_,F_,F_,F_,F_,F_,F_,F_,F_,F_,F_,F_,F_] rfl rfl (any_of HT_.out (by kernel_rfl)) (fun _ _ _ h=>h) (Or.inl ⟨by rfl,?_⟩) ?_ ?_
      rotate_left
      ·intro w'
       go_simp
       with_reducible rfl
      rotate_left
      ·simp only [Act.put,List.setIfInBounds_toArray,List.set_cons_zero,List.set_cons_succ,i64_w,i32_w]
       rfl
      refine pure_ (i:=15) (N:=some 58) (v:=?_) (a':=?_) #[T_,T_,T_,T_,T_,T_,T_,T_,T_,T_,T_,T_,T_,T_,T_,T_,F_,F_,F_,F_,F_,F_,F_,F_,F_,F_,F_,F_,F_] rfl rfl (any_of HT_.out (by kernel_rfl)) (fun _ _ _ h=>h) (Or.inl ⟨by rfl,?_⟩) ?_ ?_
      rotate_left
      ·intro w'
       go_simp
       with_reducible rfl
      rotate_left
      ·simp only [Act.put,List.setIfInBounds_toArray,List.set_cons_zero,List.set_cons_succ,i64_w,i32_w]
       rfl
      refine pure_ (i:=16) (N:=some 59) (v:=?_) (a':=?_) #[T_,T_,T_,T_,T_,T_,T_,T_,T_,T_,T_,T_,T_,T_,T_,T_,T_,F_,F_,F_,F_,F_,F_,F_,F_,F_,F_,F_,F_] rfl rfl (any_of HT_.out (by kernel_rfl)) (fun _ _ _ h=>h) (Or.inl ⟨by rfl,?_⟩) ?_ ?_
      rotate_left
      ·intro w'
       go_simp
       with_reducible rfl
      rotate_left
      ·simp only [Act.put,List.setIfInBounds_toArray,List.set_cons_zero,List.set_cons_succ,i64_w,i32_w]
       rfl
      refine pure_ (i:=17) (N:=some 60) (v:=?_) (a':=?_) #[T_,T_,T_,T_,T_,T_,T_,T_,T_,T_,T_,T_,T_,T_,T_,T_,T_,T_,F_,F_,F_,F_,F_,F_,F_,F_,F_,F_,F_] rfl rfl (any_of HT_.out (by kernel_rfl)) (fun _ _ _ h=>h) (Or.inl ⟨by rfl,?_⟩) ?_ ?_
      rotate_left
      ·intro w'
       go_simp
       with_reducible rfl
      rotate_left
      ·simp only [Act.put,List.setIfInBounds_toArray,List.set_cons_zero,List.set_cons_succ,i64_w,i32_w]
       rfl
      refine pure_ (i:=18) (N:=some 61) (v:=?_) (a':=?_) #[T_,T_,T_,T_,T_,T_,T_,T_,T_,T_,T_,T_,T_,T_,T_,T_,T_,T_,T_,F_,F_,F_,F_,F_,F_,F_,F_,F_,F_] rfl rfl (any_of HT_.out (by kernel_rfl)) (fun _ _ _ h=>h) (Or.inl ⟨by rfl,?_⟩) ?_ ?_
      rotate_left
      ·intro w'
       go_simp
       with_reducible rfl
      rotate_left
      ·simp only [Act.put,List.setIfInBounds_toArray,List.set_cons_zero,List.set_cons_succ,i64_w,i32_w]
       rfl
      refine pure_ (i:=19) (N:=some 62) (v:=?_) (a':=?_) #[T_,T_,T_,T_,T_,T_,T_,T_,T_,T_,T_,T_,T_,T_,T_,T_,T_,T_,T_,T_,F_,F_,F_,F_,F_,F_,F_,F_,F_] rfl rfl (any_of HT_.out (by kernel_rfl)) (fun _ _ _ h=>h) (Or.inl ⟨by rfl,?_⟩) ?_ ?_
      rotate_left
      ·intro w'
       go_simp
       with_reducible rfl
      rotate_left
      ·simp only [Act.put,List.setIfInBounds_toArray,List.set_cons_zero,List.set_cons_succ,i64_w,i32_w]
       rfl
      refine pure_ (i:=20) (N:=some 63) (v:=?_) (a':=?_) #[T_,T_,T_,T_,T_,T_,T_,T_,T_,T_,T_,T_,T_,T_,T_,T_,T_,T_,T_,T_,T_,F_,F_,F_,F_,F_,F_,F_,F_] rfl rfl (any_of HT_.out (by kernel_rfl)) (fun _ _ _ h=>h) (Or.inl ⟨by rfl,?_⟩) ?_ ?_
      rotate_left
      ·intro w'
       go_simp
       with_reducible rfl
      rotate_left
      ·simp only [Act.put,List.setIfInBounds_toArray,List.set_cons_zero,List.set_cons_succ,i64_w,i32_w]
       rfl
      refine pure_ (i:=21) (N:=some 64) (v:=?_) (a':=?_) #[T_,T_,T_,T_,T_,T_,T_,T_,T_,T_,T_,T_,T_,T_,T_,T_,T_,T_,T_,T_,T_,T_,F_,F_,F_,F_,F_,F_,F_] rfl rfl (any_of HT_.out (by kernel_rfl)) (fun _ _ _ h=>h) (Or.inl ⟨by rfl,?_⟩) ?_ ?_
      rotate_left
      ·intro w'
       go_simp
       with_reducible rfl
      rotate_left
      ·simp only [Act.put,List.setIfInBounds_toArray,List.set_cons_zero,List.set_cons_succ,i64_w,i32_w]
       rfl
      refine pure_ (i:=22) (N:=some 65) (v:=?_) (a':=?_) #[T_,T_,T_,T_,T_,T_,T_,T_,T_,T_,T_,T_,T_,T_,T_,T_,T_,T_,T_,T_,T_,T_,T_,F_,F_,F_,F_,F_,F_] rfl rfl (any_of HT_.out (by kernel_rfl)) (fun _ _ _ h=>h) (Or.inl ⟨by rfl,?_⟩) ?_ ?_
      rotate_left
      ·intro w'
       go_simp
       with_reducible rfl
      rotate_left
      ·simp only [Act.put,List.setIfInBounds_toArray,List.set_cons_zero,List.set_cons_succ,i64_w,i32_w]
       rfl
      refine pure_ (i:=23) (N:=some 66) (v:=?_) (a':=?_) #[T_,T_,T_,T_,T_,T_,T_,T_,T_,T_,T_,T_,T_,T_,T_,T_,T_,T_,T_,T_,T_,T_,T_,T_,F_,F_,F_,F_,F_] rfl rfl (any_of HT_.out (by kernel_rfl)) (fun _ _ _ h=>h) (Or.inl ⟨by rfl,?_⟩) ?_ ?_
      rotate_left
      ·intro w'
       go_simp
       with_reducible rfl
      rotate_left
      ·simp only [Act.put,List.setIfInBounds_toArray,List.set_cons_zero,List.set_cons_succ,i64_w,i32_w]
       rfl
      refine pure_ (i:=24) (N:=some 67) (v:=undef) (a':=?_) #[T_,T_,T_,T_,T_,T_,T_,T_,T_,T_,T_,T_,T_,T_,T_,T_,T_,T_,T_,T_,T_,T_,T_,T_,T_,F_,F_,F_,F_] rfl rfl (any_of HT_.out (by kernel_rfl)) (fun _ _ _ h=>h) (Or.inr ⟨by rfl,rfl⟩) ?_ ?_
      rotate_left
      ·simp only [Act.put,List.setIfInBounds_toArray,List.set_cons_zero,List.set_cons_succ,i64_w,i32_w]
       rfl
      refine pure_ (i:=25) (N:=some 68) (v:=undef) (a':=?_) #[T_,T_,T_,T_,T_,T_,T_,T_,T_,T_,T_,T_,T_,T_,T_,T_,T_,T_,T_,T_,T_,T_,T_,T_,T_,T_,F_,F_,F_] rfl rfl (any_of HT_.out (by kernel_rfl)) (fun _ _ _ h=>h) (Or.inr ⟨by rfl,rfl⟩) ?_ ?_
      rotate_left
      ·simp only [Act.put,List.setIfInBounds_toArray,List.set_cons_zero,List.set_cons_succ,i64_w,i32_w]
       rfl
      refine pure_ (i:=26) (N:=some 69) (v:=undef) (a':=?_) #[T_,T_,T_,T_,T_,T_,T_,T_,T_,T_,T_,T_,T_,T_,T_,T_,T_,T_,T_,T_,T_,T_,T_,T_,T_,T_,T_,F_,F_] rfl rfl (any_of HT_.out (by kernel_rfl)) (fun _ _ _ h=>h) (Or.inr ⟨by rfl,rfl⟩) ?_ ?_
      rotate_left
      ·simp only [Act.put,List.setIfInBounds_toArray,List.set_cons_zero,List.set_cons_succ,i64_w,i32_w]
       rfl
      refine pure_ (i:=27) (N:=some 70) (v:=?_) (a':=?_) #[T_,T_,T_,T_,T_,T_,T_,T_,T_,T_,T_,T_,T_,T_,T_,T_,T_,T_,T_,T_,T_,T_,T_,T_,T_,T_,T_,T_,F_] rfl rfl (any_of HT_.out (by kernel_rfl)) (fun _ _ _ h=>h) (Or.inl ⟨by rfl,?_⟩) ?_ ?_
      rotate_left
      ·intro w'
       go_simp
       with_reducible rfl
      rotate_left
      ·simp only [Act.put,List.setIfInBounds_toArray,List.set_cons_zero,List.set_cons_succ,i64_w,i32_w]
       rfl
      refine pure_ (i:=28) (N:=some 6) (v:=?_) (a':=?_) #[T_,T_,T_,T_,T_,T_,T_,T_,T_,T_,T_,T_,T_,T_,T_,T_,T_,T_,T_,T_,T_,T_,T_,T_,T_,T_,T_,T_,T_] rfl rfl (any_of HT_.out (by kernel_rfl)) (fun _ _ _ h=>h) (Or.inl ⟨by rfl,?_⟩) ?_ ?_
      rotate_left
      ·intro w'
       go_simp
       with_reducible rfl
      rotate_left
      ·simp only [Act.put,List.setIfInBounds_toArray,List.set_cons_zero,List.set_cons_succ,i64_w,i32_w]
       rfl
      refine done_ (done_of HT_.out (by kernel_rfl)) ?_
      try go_wp2
      go_ret
      exact ⟨by first | rfl | (simp [errW_none,errW_some] <;> rfl) | (simp [*,errW_none,errW_some] <;> rfl),by repeat (first | (with_reducible first | exact HB.out | apply below_alloc | apply pw_below_drewN | apply below_drew1 | refine below_set ?_ GE208.out) | exact HB.out)⟩
    ·rw [if_neg c14] at H
     have c14b0:(t211 == t213)=false:=beq_eq_false_iff_ne.mpr c14
     have c14b1:(t211 != t213)=true:=bne_iff_ne.mpr c14
     obtain rfl:=Option.some.inj H
     go_enter Tryd.func3,Tryd.ntmps3
     try go_wp2_with (first | ((with_reducible refine gate_dst (N:=3) rfl ?_); refine box_event ?hg (N:=3) ?hd (cs:=#[.int .i64 a0_0,.int .u64 a0_1,.int .i64 a0_2,.int .u64 a0_3,.bool a0_4,.int .u64 a0_5,.bool a0_6,.int .u64 a0_7,.bool a0_8,.int .u64 a0_9,.bool a0_10,.int .u64 a0_11,.bool a0_12]) (t:=28) ?hr ?_; (case hd=>rfl); (case hg=>rfl); (case hr=>first | (go_simp; done) | (go_simp; rfl)); intro gb208 hg w34 hbox hb; have n0_:=Aside0.mk (below_step (by repeat (first | (with_reducible first | exact HB.out | apply below_alloc | apply pw_below_drewN | apply below_drew1) | exact HB.out)) hb); have n1_:=Aside0.mk (hbox); have n2_:=Aside0.mk ((by rw [hg]; exact (below_size (by repeat (first | (with_reducible first | exact HB.out | apply below_alloc | apply pw_below_drewN | apply below_drew1) | exact HB.out))):w.heap.size≤gb208)); have n3_:=Aside0.mk ((by rw [hg]; exact (below_size (by repeat (first | (with_reducible first | exact HB.out | apply below_alloc | apply pw_below_drewN | apply below_drew1) | exact HB.out))):w.heap.size≤gb208)); clear HB; have HB:=n0_; have BK208:=n1_; have GW208:=n2_; have GE208:=n3_; clear n0_ n1_ n2_ n3_; clear hb hbox hg) | ((with_reducible refine gate_callee (f:=9) rfl ?_); refine goesL_ (some 16) rfl rfl Tryd.func9 (by kernel_rfl) rfl #[] rfl (by (try simp only [List.map_toArray,List.map_cons,List.map_nil]); first | done | rfl | (simp only [List.length_drop,List.length_take]; rfl)) ?_; (with_reducible refine (complinelaw23_works.calls  true _ (hT.keep (by repeat (first | (with_reducible first | exact HB.out | apply below_alloc | apply pw_below_drewN | apply below_drew1 | refine below_set ?_ GE208.out) | exact HB.out))) A4.out).mono ?_); rintro e w35 ⟨rfl,hb⟩; refine ⟨_,rfl,?_⟩; have n0_:=Aside0.mk (blk_below (g:=gb208) (o:=.cells #[.int .i64 a0_0,.int .u64 a0_1,.int .i64 a0_2,.int .u64 a0_3,.bool a0_4,.int .u64 a0_5,.bool a0_6,.int .u64 a0_7,.bool a0_8,.int .u64 a0_9,.bool a0_10,.int .u64 a0_11,.bool a0_12] 28 (0,0)) (by (with_reducible repeat (first | refine blk_drewN ?_ _ | refine blk_drew ?_ | refine blk_alloc ?_ _)); exact BK208.out) hb); have n1_:=Aside0.mk (below_step (by repeat (first | (with_reducible first | exact HB.out | apply below_alloc | apply pw_below_drewN | apply below_drew1 | refine below_set ?_ GE208.out) | exact HB.out)) hb); clear BK208; clear HB; have BK208:=n0_; have HB:=n1_; clear n0_ n1_; (try clear hb); (try clear hb2); (try clear hk); (try clear hi); have hcz36_0:w35.cell? ⟨gb208,0,none⟩=some (.int .i64 a0_0):=(blk_cell BK208.out 0).trans rfl; have hcz36_1:w35.cell? ⟨gb208,1,none⟩=some (.int .u64 a0_1):=(blk_cell BK208.out 1).trans rfl; have hcz36_2:w35.cell? ⟨gb208,2,none⟩=some (.int .i64 a0_2):=(blk_cell BK208.out 2).trans rfl; have hcz36_3:w35.cell? ⟨gb208,3,none⟩=some (.int .u64 a0_3):=(blk_cell BK208.out 3).trans rfl; have hcz36_4:w35.cell? ⟨gb208,4,none⟩=some (.bool a0_4):=(blk_cell BK208.out 4).trans rfl; have hcz36_5:w35.cell? ⟨gb208,5,none⟩=some (.int .u64 a0_5):=(blk_cell BK208.out 5).trans rfl; have hcz36_6:w35.cell? ⟨gb208,6,none⟩=some (.bool a0_6):=(blk_cell BK208.out 6).trans rfl; have hcz36_7:w35.cell? ⟨gb208,7,none⟩=some (.int .u64 a0_7):=(blk_cell BK208.out 7).trans rfl; have hcz36_8:w35.cell? ⟨gb208,8,none⟩=some (.bool a0_8):=(blk_cell BK208.out 8).trans rfl; have hcz36_9:w35.cell? ⟨gb208,9,none⟩=some (.int .u64 a0_9):=(blk_cell BK208.out 9).trans rfl; have hcz36_10:w35.cell? ⟨gb208,10,none⟩=some (.bool a0_10):=(blk_cell BK208.out 10).trans rfl; have hcz36_11:w35.cell? ⟨gb208,11,none⟩=some (.int .u64 a0_11):=(blk_cell BK208.out 11).trans rfl; have hcz36_12:w35.cell? ⟨gb208,12,none⟩=some (.bool a0_12):=(blk_cell BK208.out 12).trans rfl; have hfz36_0:=blk_frozen BK208.out 0; have hfz36_1:=blk_frozen BK208.out 1; have hfz36_2:=blk_frozen BK208.out 2; have hfz36_3:=blk_frozen BK208.out 3; have hfz36_4:=blk_frozen BK208.out 4; have hfz36_5:=blk_frozen BK208.out 5; have hfz36_6:=blk_frozen BK208.out 6; have hfz36_7:=blk_frozen BK208.out 7; have hfz36_8:=blk_frozen BK208.out 8; have hfz36_9:=blk_frozen BK208.out 9; have hfz36_10:=blk_frozen BK208.out 10; have hfz36_11:=blk_frozen BK208.out 11; have hfz36_12:=blk_frozen BK208.out 12) | ((with_reducible refine gate_callee (f:=10) rfl ?_); refine goesL_ (some 23) rfl rfl Tryd.func10 (by kernel_rfl) rfl #[.agg #[.int .i64 a0_0,.int .u64 a0_1,.int .i64 a0_2,.int .u64 a0_3,.bool a0_4,.int .u64 a0_5,.bool a0_6,.int .u64 a0_7,.bool a0_8,.int .u64 a0_9,.bool a0_10,.int .u64 a0_11,.bool a0_12],.int .u64 a1,.int .u64 a2] rfl (by (try simp only [List.map_toArray,List.map_cons,List.map_nil]); first | done | rfl | (simp only [List.length_drop,List.length_take]; rfl)) ?_; (with_reducible refine (rearm_First.calls a0_0 a0_1 a0_2 a0_3 a0_4 a0_5 a0_6 a0_7 a0_8 a0_9 a0_10 a0_11 a0_12 a1 a2 t210 t211 _ (hT.keep (by repeat (first | (with_reducible first | exact HB.out | apply below_alloc | apply pw_below_drewN | apply below_drew1 | refine below_set ?_ GE208.out) | exact HB.out))) A6.out).mono ?_); rintro e w37 ⟨rfl,hb⟩; refine ⟨_,rfl,?_⟩; have n0_:=Aside0.mk (blk_below (g:=gb208) (o:=.cells #[.int .i64 a0_0,.int .u64 a0_1,.int .i64 a0_2,.int .u64 a0_3,.bool a0_4,.int .u64 a0_5,.bool a0_6,.int .u64 a0_7,.bool a0_8,.int .u64 a0_9,.bool a0_10,.int .u64 a0_11,.bool a0_12] 28 (0,0)) (by (with_reducible repeat (first | refine blk_drewN ?_ _ | refine blk_drew ?_ | refine blk_alloc ?_ _)); exact BK208.out) hb); have n1_:=Aside0.mk (below_step (by repeat (first | (with_reducible first | exact HB.out | apply below_alloc | apply pw_below_drewN | apply below_drew1 | refine below_set ?_ GE208.out) | exact HB.out)) hb); clear BK208; clear HB; have BK208:=n0_; have HB:=n1_; clear n0_ n1_; (try clear hb); (try clear hb2); (try clear hk); (try clear hi); have hcz38_0:w37.cell? ⟨gb208,0,none⟩=some (.int .i64 a0_0):=(blk_cell BK208.out 0).trans rfl; have hcz38_1:w37.cell? ⟨gb208,1,none⟩=some (.int .u64 a0_1):=(blk_cell BK208.out 1).trans rfl; have hcz38_2:w37.cell? ⟨gb208,2,none⟩=some (.int .i64 a0_2):=(blk_cell BK208.out 2).trans rfl; have hcz38_3:w37.cell? ⟨gb208,3,none⟩=some (.int .u64 a0_3):=(blk_cell BK208.out 3).trans rfl; have hcz38_4:w37.cell? ⟨gb208,4,none⟩=some (.bool a0_4):=(blk_cell BK208.out 4).trans rfl; have hcz38_5:w37.cell? ⟨gb208,5,none⟩=some (.int .u64 a0_5):=(blk_cell BK208.out 5).trans rfl; have hcz38_6:w37.cell? ⟨gb208,6,none⟩=some (.bool a0_6):=(blk_cell BK208.out 6).trans rfl; have hcz38_7:w37.cell? ⟨gb208,7,none⟩=some (.int .u64 a0_7):=(blk_cell BK208.out 7).trans rfl; have hcz38_8:w37.cell? ⟨gb208,8,none⟩=some (.bool a0_8):=(blk_cell BK208.out 8).trans rfl; have hcz38_9:w37.cell? ⟨gb208,9,none⟩=some (.int .u64 a0_9):=(blk_cell BK208.out 9).trans rfl; have hcz38_10:w37.cell? ⟨gb208,10,none⟩=some (.bool a0_10):=(blk_cell BK208.out 10).trans rfl; have hcz38_11:w37.cell? ⟨gb208,11,none⟩=some (.int .u64 a0_11):=(blk_cell BK208.out 11).trans rfl; have hcz38_12:w37.cell? ⟨gb208,12,none⟩=some (.bool a0_12):=(blk_cell BK208.out 12).trans rfl; have hfz38_0:=blk_frozen BK208.out 0; have hfz38_1:=blk_frozen BK208.out 1; have hfz38_2:=blk_frozen BK208.out 2; have hfz38_3:=blk_frozen BK208.out 3; have hfz38_4:=blk_frozen BK208.out 4; have hfz38_5:=blk_frozen BK208.out 5; have hfz38_6:=blk_frozen BK208.out 6; have hfz38_7:=blk_frozen BK208.out 7; have hfz38_8:=blk_frozen BK208.out 8; have hfz38_9:=blk_frozen BK208.out 9; have hfz38_10:=blk_frozen BK208.out 10; have hfz38_11:=blk_frozen BK208.out 11; have hfz38_12:=blk_frozen BK208.out 12) | ((with_reducible refine gate_callee (f:=11) rfl ?_); refine goesL_ (some 30) rfl rfl Tryd.func11 (by kernel_rfl) rfl #[.agg #[.int .i64 a0_0,.int .u64 a0_1,.int .i64 a0_2,.int .u64 a0_3,.bool a0_4,.int .u64 a0_5,.bool a0_6,.int .u64 a0_7,.bool a0_8,.int .u64 a0_9,.bool a0_10,.int .u64 a0_11,.bool a0_12],.int .u64 a1,.int .u64 a2] rfl (by (try simp only [List.map_toArray,List.map_cons,List.map_nil]); first | done | rfl | (simp only [List.length_drop,List.length_take]; rfl)) ?_; (with_reducible refine (complineref23_First.calls k a0_0 a0_1 a0_2 a0_3 a0_4 a0_5 a0_6 a0_7 a0_8 a0_9 a0_10 a0_11 a0_12 a1 a2 t212 t213 _ A7.out).mono ?_); rintro e w39 ⟨rfl,hb⟩; refine ⟨_,rfl,?_⟩; have n0_:=Aside0.mk (blk_below (g:=gb208) (o:=.cells #[.int .i64 a0_0,.int .u64 a0_1,.int .i64 a0_2,.int .u64 a0_3,.bool a0_4,.int .u64 a0_5,.bool a0_6,.int .u64 a0_7,.bool a0_8,.int .u64 a0_9,.bool a0_10,.int .u64 a0_11,.bool a0_12] 28 (0,0)) (by (with_reducible repeat (first | refine blk_drewN ?_ _ | refine blk_drew ?_ | refine blk_alloc ?_ _)); exact BK208.out) hb); have n1_:=Aside0.mk (below_step (by repeat (first | (with_reducible first | exact HB.out | apply below_alloc | apply pw_below_drewN | apply below_drew1 | refine below_set ?_ GE208.out) | exact HB.out)) hb); clear BK208; clear HB; have BK208:=n0_; have HB:=n1_; clear n0_ n1_; (try clear hb); (try clear hb2); (try clear hk); (try clear hi)) | ((with_reducible refine gate_callee (f:=12) rfl ?_); refine goesL_ (some 35) rfl rfl Tryd.func12 (by kernel_rfl) rfl #[.int .u64 a1] rfl (by (try simp only [List.map_toArray,List.map_cons,List.map_nil]); first | done | rfl | (simp only [List.length_drop,List.length_take]; rfl)) ?_; (with_reducible refine (rearm_Minute.calls a1 t214 t215 _ A8.out).mono ?_); rintro e w' ⟨rfl,⟨nd,rfl⟩⟩; refine ⟨_,rfl,?_⟩) | ((with_reducible refine gate_callee (f:=13) rfl ?_); refine goesL_ (some 40) rfl rfl Tryd.func13 (by kernel_rfl) rfl #[.int .u64 a1] rfl (by (try simp only [List.map_toArray,List.map_cons,List.map_nil]); first | done | rfl | (simp only [List.length_drop,List.length_take]; rfl)) ?_; (with_reducible refine (complineref23_Minute.calls a1 t216 t217 _ A9.out).mono ?_); rintro e w' ⟨rfl,⟨nd,rfl⟩⟩; refine ⟨_,rfl,?_⟩))
     (try (rw [drewN_self w39]; generalize hq_:World.drewN w39 _=w39; have n0_:Aside0 (w39.heap[gb208]?=some (.cells #[.int .i64 a0_0,.int .u64 a0_1,.int .i64 a0_2,.int .u64 a0_3,.bool a0_4,.int .u64 a0_5,.bool a0_6,.int .u64 a0_7,.bool a0_8,.int .u64 a0_9,.bool a0_10,.int .u64 a0_11,.bool a0_12] 28 (0,0))):=⟨by rw [← hq_]; exact (by (with_reducible repeat (first | refine blk_drewN ?_ _ | refine blk_drew ?_ | refine blk_alloc ?_ _)); exact BK208.out)⟩; have n1_:Aside0 (Below w.heap.size w w39):=⟨by rw [← hq_]; exact (by repeat (first | (with_reducible first | exact HB.out | apply below_alloc | apply pw_below_drewN | apply below_drew1 | refine below_set ?_ GE208.out) | exact HB.out))⟩; clear BK208 HB hq_; have BK208:=n0_; have HB:=n1_; clear n0_ n1_))
     have n0_:=Aside0.mk (blk_drew BK208.out)
     have n1_:=Aside0.mk (below_drew1 HB.out)
     clear BK208
     clear HB
     have BK208:=n0_
     have HB:=n1_
     clear n0_ n1_
     refine start_ (n:=29) (S:=fun w'=>w'.cell? ⟨gb208,0,none⟩=some (.int .i64 a0_0)∧w'.cell? ⟨gb208,1,none⟩=some (.int .u64 a0_1)∧w'.cell? ⟨gb208,2,none⟩=some (.int .i64 a0_2)∧w'.cell? ⟨gb208,3,none⟩=some (.int .u64 a0_3)∧w'.cell? ⟨gb208,4,none⟩=some (.bool a0_4)∧w'.cell? ⟨gb208,5,none⟩=some (.int .u64 a0_5)∧w'.cell? ⟨gb208,6,none⟩=some (.bool a0_6)∧w'.cell? ⟨gb208,7,none⟩=some (.int .u64 a0_7)∧w'.cell? ⟨gb208,8,none⟩=some (.bool a0_8)∧w'.cell? ⟨gb208,9,none⟩=some (.int .u64 a0_9)∧w'.cell? ⟨gb208,10,none⟩=some (.bool a0_10)∧w'.cell? ⟨gb208,11,none⟩=some (.int .u64 a0_11)∧w'.cell? ⟨gb208,12,none⟩=some (.bool a0_12)) (ds:=[]) #[F_,F_,F_,F_,F_,F_,F_,F_,F_,F_,F_,F_,F_,F_,F_,F_,F_,F_,F_,F_,F_,F_,F_,F_,F_,F_,F_,F_,F_] (by kernel_rfl) rfl rfl ⟨(blk_cell BK208.out 0).trans rfl,(blk_cell BK208.out 1).trans rfl,(blk_cell BK208.out 2).trans rfl,(blk_cell BK208.out 3).trans rfl,(blk_cell BK208.out 4).trans rfl,(blk_cell BK208.out 5).trans rfl,(blk_cell BK208.out 6).trans rfl,(blk_cell BK208.out 7).trans rfl,(blk_cell BK208.out 8).trans rfl,(blk_cell BK208.out 9).trans rfl,(blk_cell BK208.out 10).trans rfl,(blk_cell BK208.out 11).trans rfl,(blk_cell BK208.out 12).trans rfl⟩ (fun hHeld=>?_); refine with_tabW complinelaw23_RearmFirst.tab8 complinelaw23_RearmFirst.bits8 (fun HT_ HW_=>?_)
     generalize w39.drew=w40 at BK208 HB hHeld ⊢
     refine pure_ (i:=0) (N:=some 43) (v:=?_) (a':=?_) #[T_,F_,F_,F_,F_,F_,F_,F_,F_,F_,F_,F_,F_,F_,F_,F_,F_,F_,F_,F_,F_,F_,F_,F_,F_,F_,F_,F_,F_] rfl rfl (any_of HT_.out (by kernel_rfl)) (fun _ _ _ h=>h) (Or.inl ⟨by rfl,?_⟩) ?_ ?_
     rotate_left
     ·intro w'
      go_simp
      with_reducible rfl
     rotate_left
     ·simp only [Act.put,List.setIfInBounds_toArray,List.set_cons_zero,List.set_cons_succ,i64_w,i32_w]
      rfl
     refine pure_ (i:=1) (N:=some 44) (v:=?_) (a':=?_) #[T_,T_,F_,F_,F_,F_,F_,F_,F_,F_,F_,F_,F_,F_,F_,F_,F_,F_,F_,F_,F_,F_,F_,F_,F_,F_,F_,F_,F_] rfl rfl (any_of HT_.out (by kernel_rfl)) (fun _ _ _ h=>h) (Or.inl ⟨by rfl,?_⟩) ?_ ?_
     rotate_left
     ·intro w'
      go_simp
      with_reducible rfl
     rotate_left
     ·simp only [Act.put,List.setIfInBounds_toArray,List.set_cons_zero,List.set_cons_succ,i64_w,i32_w]
      rfl
     refine take_ (i:=2) (N:=some 45) (v:=?_) (a':=?_) #[T_,T_,T_,F_,F_,F_,F_,F_,F_,F_,F_,F_,F_,F_,F_,F_,F_,F_,F_,F_,F_,F_,F_,F_,F_,F_,F_,F_,F_] rfl rfl (take_ofW HT_.out HW_.out (by kernel_rfl)) (fun _ _ _ h=>h) (Or.inl ⟨by rfl,?_⟩) hHeld ?_ ?_
     rotate_left
     ·rintro w' ⟨s0,s1,s2,s3,s4,s5,s6,s7,s8,s9,s10,s11,s12⟩
      go_simp
      with_reducible rfl
     rotate_left
     ·simp only [Act.put,List.setIfInBounds_toArray,List.set_cons_zero,List.set_cons_succ,i64_w,i32_w]
      rfl
     refine take_ (i:=4) (N:=some 47) (v:=?_) (a':=?_) #[T_,T_,T_,F_,T_,F_,F_,F_,F_,F_,F_,F_,F_,F_,F_,F_,F_,F_,F_,F_,F_,F_,F_,F_,F_,F_,F_,F_,F_] rfl rfl (take_ofW HT_.out HW_.out (by kernel_rfl)) (fun _ _ _ h=>h) (Or.inl ⟨by rfl,?_⟩) hHeld ?_ ?_
     rotate_left
     ·rintro w' ⟨s0,s1,s2,s3,s4,s5,s6,s7,s8,s9,s10,s11,s12⟩
      go_simp
      with_reducible rfl
     rotate_left
     ·simp only [Act.put,List.setIfInBounds_toArray,List.set_cons_zero,List.set_cons_succ,i64_w,i32_w]
      rfl
     refine one_ (i:=3) (N:=some 46) #[T_,T_,T_,T_,T_,F_,F_,F_,F_,F_,F_,F_,F_,F_,F_,F_,F_,F_,F_,F_,F_,F_,F_,F_,F_,F_,F_,F_,F_] rfl rfl (one_of HT_.out (by kernel_rfl)) (by decide) (fun K hK=>?_)
     refine goes_ Tryd.func14 (by kernel_rfl) rfl #[.agg #[.int .i64 a0_0,.int .u64 a0_1,.int .i64 a0_2,.int .u64 a0_3,.bool a0_4,.int .u64 a0_5,.bool a0_6,.int .u64 a0_7,.bool a0_8,.int .u64 a0_9,.bool a0_10,.int .u64 a0_11,.bool a0_12]] (by rfl) rfl rfl (by (try simp only [List.map_toArray,List.map_cons,List.map_nil]); first | done | rfl | (simp only [List.length_drop,List.length_take]; rfl)) ?_
     with_reducible refine (rearm_Check.calls k a0_0 a0_1 a0_2 a0_3 a0_4 a0_5 a0_6 a0_7 a0_8 a0_9 a0_10 a0_11 a0_12 t218 _ A10.out).mono ?_
     rintro e w41 ⟨rfl,hb⟩
     refine ⟨_,rfl,?_⟩
     have n0_:=Aside0.mk (blk_below (g:=gb208) (o:=.cells #[.int .i64 a0_0,.int .u64 a0_1,.int .i64 a0_2,.int .u64 a0_3,.bool a0_4,.int .u64 a0_5,.bool a0_6,.int .u64 a0_7,.bool a0_8,.int .u64 a0_9,.bool a0_10,.int .u64 a0_11,.bool a0_12] 28 (0,0)) (by (with_reducible repeat (first | refine blk_drewN ?_ _ | refine blk_drew ?_ | refine blk_alloc ?_ _)); exact BK208.out) hb)
     have n1_:=Aside0.mk (below_step (by repeat (first | (with_reducible first | exact HB.out | apply below_alloc | apply pw_below_drewN | apply below_drew1 | refine below_set ?_ GE208.out) | exact HB.out)) hb)
     clear BK208
     clear HB
     have BK208:=n0_
     have HB:=n1_
     clear n0_ n1_
     (try clear hb)
     (try clear hb2)
     (try clear hk)
     (try clear hi)
     refine hK.out _ _ ⟨(blk_cell BK208.out 0).trans rfl,(blk_cell BK208.out 1).trans rfl,(blk_cell BK208.out 2).trans rfl,(blk_cell BK208.out 3).trans rfl,(blk_cell BK208.out 4).trans rfl,(blk_cell BK208.out 5).trans rfl,(blk_cell BK208.out 6).trans rfl,(blk_cell BK208.out 7).trans rfl,(blk_cell BK208.out 8).trans rfl,(blk_cell BK208.out 9).trans rfl,(blk_cell BK208.out 10).trans rfl,(blk_cell BK208.out 11).trans rfl,(blk_cell BK208.out 12).trans rfl⟩ (fun hHeld=>?_)
     clear hK K
     refine norm_ (a':=?_) ?_ ?_
     rotate_left
     ·show Act.put _ (some 46) _=_
      simp only [Act.put,List.setIfInBounds_toArray,List.set_cons_zero,List.set_cons_succ,i64_w,i32_w]
      rfl
     refine one_ (i:=5) (N:=some 48) #[T_,T_,T_,T_,T_,T_,F_,F_,F_,F_,F_,F_,F_,F_,F_,F_,F_,F_,F_,F_,F_,F_,F_,F_,F_,F_,F_,F_,F_] rfl rfl (one_of HT_.out (by kernel_rfl)) (by decide) (fun K hK=>?_)
     refine goes_ Tryd.func15 (by kernel_rfl) rfl #[.agg #[.int .i64 a0_0,.int .u64 a0_1,.int .i64 a0_2,.int .u64 a0_3,.bool a0_4,.int .u64 a0_5,.bool a0_6,.int .u64 a0_7,.bool a0_8,.int .u64 a0_9,.bool a0_10,.int .u64 a0_11,.bool a0_12]] (by rfl) rfl rfl (by (try simp only [List.map_toArray,List.map_cons,List.map_nil]); first | done | rfl | (simp only [List.length_drop,List.length_take]; rfl)) ?_
     with_reducible refine (complineref23_Check.calls k a0_0 a0_1 a0_2 a0_3 a0_4 a0_5 a0_6 a0_7 a0_8 a0_9 a0_10 a0_11 a0_12 t219 _ A11.out).mono ?_
     rintro e w42 ⟨rfl,hb⟩
     refine ⟨_,rfl,?_⟩
     have n0_:=Aside0.mk (blk_below (g:=gb208) (o:=.cells #[.int .i64 a0_0,.int .u64 a0_1,.int .i64 a0_2,.int .u64 a0_3,.bool a0_4,.int .u64 a0_5,.bool a0_6,.int .u64 a0_7,.bool a0_8,.int .u64 a0_9,.bool a0_10,.int .u64 a0_11,.bool a0_12] 28 (0,0)) (by (with_reducible repeat (first | refine blk_drewN ?_ _ | refine blk_drew ?_ | refine blk_alloc ?_ _)); exact BK208.out) hb)
     have n1_:=Aside0.mk (below_step (by repeat (first | (with_reducible first | exact HB.out | apply below_alloc | apply pw_below_drewN | apply below_drew1 | refine below_set ?_ GE208.out) | exact HB.out)) hb)
     clear BK208
     clear HB
     have BK208:=n0_
     have HB:=n1_
     clear n0_ n1_
     (try clear hb)
     (try clear hb2)
     (try clear hk)
     (try clear hi)
     refine hK.out _ _ ⟨(blk_cell BK208.out 0).trans rfl,(blk_cell BK208.out 1).trans rfl,(blk_cell BK208.out 2).trans rfl,(blk_cell BK208.out 3).trans rfl,(blk_cell BK208.out 4).trans rfl,(blk_cell BK208.out 5).trans rfl,(blk_cell BK208.out 6).trans rfl,(blk_cell BK208.out 7).trans rfl,(blk_cell BK208.out 8).trans rfl,(blk_cell BK208.out 9).trans rfl,(blk_cell BK208.out 10).trans rfl,(blk_cell BK208.out 11).trans rfl,(blk_cell BK208.out 12).trans rfl⟩ (fun hHeld=>?_)
     clear hK K
     refine norm_ (a':=?_) ?_ ?_
     rotate_left
     ·show Act.put _ (some 48) _=_
      simp only [Act.put,List.setIfInBounds_toArray,List.set_cons_zero,List.set_cons_succ,i64_w,i32_w]
      rfl
     refine pure_ (i:=6) (N:=some 49) (v:=?_) (a':=?_) #[T_,T_,T_,T_,T_,T_,T_,F_,F_,F_,F_,F_,F_,F_,F_,F_,F_,F_,F_,F_,F_,F_,F_,F_,F_,F_,F_,F_,F_] rfl rfl (any_of HT_.out (by kernel_rfl)) (fun _ _ _ h=>h) (Or.inl ⟨by rfl,?_⟩) ?_ ?_
     rotate_left
     ·intro w'
      go_simp
      with_reducible rfl
     rotate_left
     ·simp only [Act.put,List.setIfInBounds_toArray,List.set_cons_zero,List.set_cons_succ,i64_w,i32_w]
      rfl
     refine pure_ (i:=7) (N:=some 50) (v:=?_) (a':=?_) #[T_,T_,T_,T_,T_,T_,T_,T_,F_,F_,F_,F_,F_,F_,F_,F_,F_,F_,F_,F_,F_,F_,F_,F_,F_,F_,F_,F_,F_] rfl rfl (any_of HT_.out (by kernel_rfl)) (fun _ _ _ h=>h) (Or.inl ⟨by rfl,?_⟩) ?_ ?_
     rotate_left
     ·intro w'
      go_simp
      with_reducible rfl
     rotate_left
     ·simp only [Act.put,List.setIfInBounds_toArray,List.set_cons_zero,List.set_cons_succ,i64_w,i32_w]
      rfl
     refine pure_ (i:=8) (N:=some 51) (v:=?_) (a':=?_) #[T_,T_,T_,T_,T_,T_,T_,T_,T_,F_,F_,F_,F_,F_,F_,F_,F_,F_,F_,F_,F_,F_,F_,F_,F_,F_,F_,F_,F_] rfl rfl (any_of HT_.out (by kernel_rfl)) (fun _ _ _ h=>h) (Or.inl ⟨by rfl,?_⟩) ?_ ?_
     rotate_left
     ·intro w'
      go_simp
      with_reducible rfl
     rotate_left
     ·simp only [Act.put,List.setIfInBounds_toArray,List.set_cons_zero,List.set_cons_succ,i64_w,i32_w]
      rfl
     refine pure_ (i:=9) (N:=some 52) (v:=?_) (a':=?_) #[T_,T_,T_,T_,T_,T_,T_,T_,T_,T_,F_,F_,F_,F_,F_,F_,F_,F_,F_,F_,F_,F_,F_,F_,F_,F_,F_,F_,F_] rfl rfl (any_of HT_.out (by kernel_rfl)) (fun _ _ _ h=>h) (Or.inl ⟨by rfl,?_⟩) ?_ ?_
     rotate_left
     ·intro w'
      go_simp
      with_reducible rfl
     rotate_left
     ·simp only [Act.put,List.setIfInBounds_toArray,List.set_cons_zero,List.set_cons_succ,i64_w,i32_w]
      rfl
     refine pure_ (i:=10) (N:=some 53) (v:=?_) (a':=?_) #[T_,T_,T_,T_,T_,T_,T_,T_,T_,T_,T_,F_,F_,F_,F_,F_,F_,F_,F_,F_,F_,F_,F_,F_,F_,F_,F_,F_,F_] rfl rfl (any_of HT_.out (by kernel_rfl)) (fun _ _ _ h=>h) (Or.inl ⟨by rfl,?_⟩) ?_ ?_
     rotate_left
     ·intro w'
      go_simp
      with_reducible rfl
     rotate_left
     ·simp only [Act.put,List.setIfInBounds_toArray,List.set_cons_zero,List.set_cons_succ,i64_w,i32_w]
      rfl
     refine pure_ (i:=11) (N:=some 54) (v:=?_) (a':=?_) #[T_,T_,T_,T_,T_,T_,T_,T_,T_,T_,T_,T_,F_,F_,F_,F_,F_,F_,F_,F_,F_,F_,F_,F_,F_,F_,F_,F_,F_] rfl rfl (any_of HT_.out (by kernel_rfl)) (fun _ _ _ h=>h) (Or.inl ⟨by rfl,?_⟩) ?_ ?_
     rotate_left
     ·intro w'
      go_simp
      with_reducible rfl
     rotate_left
     ·simp only [Act.put,List.setIfInBounds_toArray,List.set_cons_zero,List.set_cons_succ,i64_w,i32_w]
      rfl
     refine pure_ (i:=12) (N:=some 55) (v:=?_) (a':=?_) #[T_,T_,T_,T_,T_,T_,T_,T_,T_,T_,T_,T_,T_,F_,F_,F_,F_,F_,F_,F_,F_,F_,F_,F_,F_,F_,F_,F_,F_] rfl rfl (any_of HT_.out (by kernel_rfl)) (fun _ _ _ h=>h) (Or.inl ⟨by rfl,?_⟩) ?_ ?_
     rotate_left
     ·intro w'
      go_simp
      with_reducible rfl
     rotate_left
     ·simp only [Act.put,List.setIfInBounds_toArray,List.set_cons_zero,List.set_cons_succ,i64_w,i32_w]
      rfl
     refine pure_ (i:=13) (N:=some 56) (v:=?_) (a':=?_) #[T_,T_,T_,T_,T_,T_,T_,T_,T_,T_,T_,T_,T_,T_,F_,F_,F_,F_,F_,F_,F_,F_,F_,F_,F_,F_,F_,F_,F_] rfl rfl (any_of HT_.out (by kernel_rfl)) (fun _ _ _ h=>h) (Or.inl ⟨by rfl,?_⟩) ?_ ?_
     rotate_left
     ·intro w'
      go_simp
      with_reducible rfl
     rotate_left
     ·simp only [Act.put,List.setIfInBounds_toArray,List.set_cons_zero,List.set_cons_succ,i64_w,i32_w]
      rfl
     refine pure_ (i:=14) (N:=some 57) (v:=?_) (a':=?_) #[T_,T_,T_,T_,T_,T_,T_,T_,T_,T_,T_,T_,T_,T_,T_,F_,F_,F_,F_,F_,F_,F_,F_,F_,F_,F_,F_,F_,F_] rfl rfl (any_of HT_.out (by kernel_rfl)) (fun _ _ _ h=>h) (Or.inl ⟨by rfl,?_⟩) ?_ ?_
     rotate_left
     ·intro w'
      go_simp
      with_reducible rfl
     rotate_left
     ·simp only [Act.put,List.setIfInBounds_toArray,List.set_cons_zero,List.set_cons_succ,i64_w,i32_w]
      rfl
     refine pure_ (i:=15) (N:=some 58) (v:=?_) (a':=?_) #[T_,T_,T_,T_,T_,T_,T_,T_,T_,T_,T_,T_,T_,T_,T_,T_,F_,F_,F_,F_,F_,F_,F_,F_,F_,F_,F_,F_,F_] rfl rfl (any_of HT_.out (by kernel_rfl)) (fun _ _ _ h=>h) (Or.inl ⟨by rfl,?_⟩) ?_ ?_
     rotate_left
     ·intro w'
      go_simp
      with_reducible rfl
     rotate_left
     ·simp only [Act.put,List.setIfInBounds_toArray,List.set_cons_zero,List.set_cons_succ,i64_w,i32_w]
      rfl
     refine pure_ (i:=16) (N:=some 59) (v:=?_) (a':=?_) #[T_,T_,T_,T_,T_,T_,T_,T_,T_,T_,T_,T_,T_,T_,T_,T_,T_,F_,F_,F_,F_,F_,F_,F_,F_,F_,F_,F_,F_] rfl rfl (any_of HT_.out (by kernel_rfl)) (fun _ _ _ h=>h) (Or.inl ⟨by rfl,?_⟩) ?_ ?_
     rotate_left
     ·intro w'
      go_simp
      with_reducible rfl
     rotate_left
     ·simp only [Act.put,List.setIfInBounds_toArray,List.set_cons_zero,List.set_cons_succ,i64_w,i32_w]
      rfl
     refine pure_ (i:=17) (N:=some 60) (v:=?_) (a':=?_) #[T_,T_,T_,T_,T_,T_,T_,T_,T_,T_,T_,T_,T_,T_,T_,T_,T_,T_,F_,F_,F_,F_,F_,F_,F_,F_,F_,F_,F_] rfl rfl (any_of HT_.out (by kernel_rfl)) (fun _ _ _ h=>h) (Or.inl ⟨by rfl,?_⟩) ?_ ?_
     rotate_left
     ·intro w'
      go_simp
      with_reducible rfl
     rotate_left
     ·simp only [Act.put,List.setIfInBounds_toArray,List.set_cons_zero,List.set_cons_succ,i64_w,i32_w]
      rfl
     refine pure_ (i:=18) (N:=some 61) (v:=?_) (a':=?_) #[T_,T_,T_,T_,T_,T_,T_,T_,T_,T_,T_,T_,T_,T_,T_,T_,T_,T_,T_,F_,F_,F_,F_,F_,F_,F_,F_,F_,F_] rfl rfl (any_of HT_.out (by kernel_rfl)) (fun _ _ _ h=>h) (Or.inl ⟨by rfl,?_⟩) ?_ ?_
     rotate_left
     ·intro w'
      go_simp
      with_reducible rfl
     rotate_left
     ·simp only [Act.put,List.setIfInBounds_toArray,List.set_cons_zero,List.set_cons_succ,i64_w,i32_w]
      rfl
     refine pure_ (i:=19) (N:=some 62) (v:=undef) (a':=?_) #[T_,T_,T_,T_,T_,T_,T_,T_,T_,T_,T_,T_,T_,T_,T_,T_,T_,T_,T_,T_,F_,F_,F_,F_,F_,F_,F_,F_,F_] rfl rfl (any_of HT_.out (by kernel_rfl)) (fun _ _ _ h=>h) (Or.inr ⟨by rfl,rfl⟩) ?_ ?_
     rotate_left
     ·simp only [Act.put,List.setIfInBounds_toArray,List.set_cons_zero,List.set_cons_succ,i64_w,i32_w]
      rfl
     refine pure_ (i:=20) (N:=some 63) (v:=undef) (a':=?_) #[T_,T_,T_,T_,T_,T_,T_,T_,T_,T_,T_,T_,T_,T_,T_,T_,T_,T_,T_,T_,T_,F_,F_,F_,F_,F_,F_,F_,F_] rfl rfl (any_of HT_.out (by kernel_rfl)) (fun _ _ _ h=>h) (Or.inr ⟨by rfl,rfl⟩) ?_ ?_
     rotate_left
     ·simp only [Act.put,List.setIfInBounds_toArray,List.set_cons_zero,List.set_cons_succ,i64_w,i32_w]
      rfl
     refine pure_ (i:=21) (N:=some 64) (v:=undef) (a':=?_) #[T_,T_,T_,T_,T_,T_,T_,T_,T_,T_,T_,T_,T_,T_,T_,T_,T_,T_,T_,T_,T_,T_,F_,F_,F_,F_,F_,F_,F_] rfl rfl (any_of HT_.out (by kernel_rfl)) (fun _ _ _ h=>h) (Or.inr ⟨by rfl,rfl⟩) ?_ ?_
     rotate_left
     ·simp only [Act.put,List.setIfInBounds_toArray,List.set_cons_zero,List.set_cons_succ,i64_w,i32_w]
      rfl
     refine pure_ (i:=22) (N:=some 65) (v:=?_) (a':=?_) #[T_,T_,T_,T_,T_,T_,T_,T_,T_,T_,T_,T_,T_,T_,T_,T_,T_,T_,T_,T_,T_,T_,T_,F_,F_,F_,F_,F_,F_] rfl rfl (any_of HT_.out (by kernel_rfl)) (fun _ _ _ h=>h) (Or.inl ⟨by rfl,?_⟩) ?_ ?_
     rotate_left
     ·intro w'
      go_simp
      with_reducible rfl
     rotate_left
     ·simp only [Act.put,List.setIfInBounds_toArray,List.set_cons_zero,List.set_cons_succ,i64_w,i32_w]
      rfl
     refine pure_ (i:=23) (N:=some 66) (v:=?_) (a':=?_) #[T_,T_,T_,T_,T_,T_,T_,T_,T_,T_,T_,T_,T_,T_,T_,T_,T_,T_,T_,T_,T_,T_,T_,T_,F_,F_,F_,F_,F_] rfl rfl (any_of HT_.out (by kernel_rfl)) (fun _ _ _ h=>h) (Or.inl ⟨by rfl,?_⟩) ?_ ?_
     rotate_left
     ·intro w'
      go_simp
      with_reducible rfl
     rotate_left
     ·simp only [Act.put,List.setIfInBounds_toArray,List.set_cons_zero,List.set_cons_succ,i64_w,i32_w]
      rfl
     refine pure_ (i:=24) (N:=some 67) (v:=undef) (a':=?_) #[T_,T_,T_,T_,T_,T_,T_,T_,T_,T_,T_,T_,T_,T_,T_,T_,T_,T_,T_,T_,T_,T_,T_,T_,T_,F_,F_,F_,F_] rfl rfl (any_of HT_.out (by kernel_rfl)) (fun _ _ _ h=>h) (Or.inr ⟨by rfl,rfl⟩) ?_ ?_
     rotate_left
     ·simp only [Act.put,List.setIfInBounds_toArray,List.set_cons_zero,List.set_cons_succ,i64_w,i32_w]
      rfl
     refine pure_ (i:=25) (N:=some 68) (v:=undef) (a':=?_) #[T_,T_,T_,T_,T_,T_,T_,T_,T_,T_,T_,T_,T_,T_,T_,T_,T_,T_,T_,T_,T_,T_,T_,T_,T_,T_,F_,F_,F_] rfl rfl (any_of HT_.out (by kernel_rfl)) (fun _ _ _ h=>h) (Or.inr ⟨by rfl,rfl⟩) ?_ ?_
     rotate_left
     ·simp only [Act.put,List.setIfInBounds_toArray,List.set_cons_zero,List.set_cons_succ,i64_w,i32_w]
      rfl
     refine pure_ (i:=26) (N:=some 69) (v:=undef) (a':=?_) #[T_,T_,T_,T_,T_,T_,T_,T_,T_,T_,T_,T_,T_,T_,T_,T_,T_,T_,T_,T_,T_,T_,T_,T_,T_,T_,T_,F_,F_] rfl rfl (any_of HT_.out (by kernel_rfl)) (fun _ _ _ h=>h) (Or.inr ⟨by rfl,rfl⟩) ?_ ?_
     rotate_left
     ·simp only [Act.put,List.setIfInBounds_toArray,List.set_cons_zero,List.set_cons_succ,i64_w,i32_w]
      rfl
     refine pure_ (i:=27) (N:=some 70) (v:=?_) (a':=?_) #[T_,T_,T_,T_,T_,T_,T_,T_,T_,T_,T_,T_,T_,T_,T_,T_,T_,T_,T_,T_,T_,T_,T_,T_,T_,T_,T_,T_,F_] rfl rfl (any_of HT_.out (by kernel_rfl)) (fun _ _ _ h=>h) (Or.inl ⟨by rfl,?_⟩) ?_ ?_
     rotate_left
     ·intro w'
      go_simp
      with_reducible rfl
     rotate_left
     ·simp only [Act.put,List.setIfInBounds_toArray,List.set_cons_zero,List.set_cons_succ,i64_w,i32_w]
      rfl
     refine pure_ (i:=28) (N:=some 6) (v:=?_) (a':=?_) #[T_,T_,T_,T_,T_,T_,T_,T_,T_,T_,T_,T_,T_,T_,T_,T_,T_,T_,T_,T_,T_,T_,T_,T_,T_,T_,T_,T_,T_] rfl rfl (any_of HT_.out (by kernel_rfl)) (fun _ _ _ h=>h) (Or.inl ⟨by rfl,?_⟩) ?_ ?_
     rotate_left
     ·intro w'
      go_simp
      with_reducible rfl
     rotate_left
     ·simp only [Act.put,List.setIfInBounds_toArray,List.set_cons_zero,List.set_cons_succ,i64_w,i32_w]
      rfl
     refine done_ (done_of HT_.out (by kernel_rfl)) ?_
     try go_wp2
     go_ret
     exact ⟨by first | rfl | (simp [errW_none,errW_some] <;> rfl) | (simp [*,errW_none,errW_some] <;> rfl),by repeat (first | (with_reducible first | exact HB.out | apply below_alloc | apply pw_below_drewN | apply below_drew1 | refine below_set ?_ GE208.out) | exact HB.out)⟩
   ·rw [if_neg c13] at H
    have c13b0:(t210 == t212)=false:=beq_eq_false_iff_ne.mpr c13
    have c13b1:(t210 != t212)=true:=bne_iff_ne.mpr c13
    obtain rfl:=Option.some.inj H
    go_enter Tryd.func3,Tryd.ntmps3
    try go_wp2_with (first | ((with_reducible refine gate_dst (N:=3) rfl ?_); refine box_event ?hg (N:=3) ?hd (cs:=#[.int .i64 a0_0,.int .u64 a0_1,.int .i64 a0_2,.int .u64 a0_3,.bool a0_4,.int .u64 a0_5,.bool a0_6,.int .u64 a0_7,.bool a0_8,.int .u64 a0_9,.bool a0_10,.int .u64 a0_11,.bool a0_12]) (t:=28) ?hr ?_; (case hd=>rfl); (case hg=>rfl); (case hr=>first | (go_simp; done) | (go_simp; rfl)); intro gb208 hg w43 hbox hb; have n0_:=Aside0.mk (below_step (by repeat (first | (with_reducible first | exact HB.out | apply below_alloc | apply pw_below_drewN | apply below_drew1) | exact HB.out)) hb); have n1_:=Aside0.mk (hbox); have n2_:=Aside0.mk ((by rw [hg]; exact (below_size (by repeat (first | (with_reducible first | exact HB.out | apply below_alloc | apply pw_below_drewN | apply below_drew1) | exact HB.out))):w.heap.size≤gb208)); have n3_:=Aside0.mk ((by rw [hg]; exact (below_size (by repeat (first | (with_reducible first | exact HB.out | apply below_alloc | apply pw_below_drewN | apply below_drew1) | exact HB.out))):w.heap.size≤gb208)); clear HB; have HB:=n0_; have BK208:=n1_; have GW208:=n2_; have GE208:=n3_; clear n0_ n1_ n2_ n3_; clear hb hbox hg) | ((with_reducible refine gate_callee (f:=9) rfl ?_); refine goesL_ (some 16) rfl rfl Tryd.func9 (by kernel_rfl) rfl #[] rfl (by (try simp only [List.map_toArray,List.map_cons,List.map_nil]); first | done | rfl | (simp only [List.length_drop,List.length_take]; rfl)) ?_; (with_reducible refine (complinelaw23_works.calls  true _ (hT.keep (by repeat (first | (with_reducible first | exact HB.out | apply below_alloc | apply pw_below_drewN | apply below_drew1 | refine below_set ?_ GE208.out) | exact HB.out))) A4.out).mono ?_); rintro e w44 ⟨rfl,hb⟩; refine ⟨_,rfl,?_⟩; have n0_:=Aside0.mk (blk_below (g:=gb208) (o:=.cells #[.int .i64 a0_0,.int .u64 a0_1,.int .i64 a0_2,.int .u64 a0_3,.bool a0_4,.int .u64 a0_5,.bool a0_6,.int .u64 a0_7,.bool a0_8,.int .u64 a0_9,.bool a0_10,.int .u64 a0_11,.bool a0_12] 28 (0,0)) (by (with_reducible repeat (first | refine blk_drewN ?_ _ | refine blk_drew ?_ | refine blk_alloc ?_ _)); exact BK208.out) hb); have n1_:=Aside0.mk (below_step (by repeat (first | (with_reducible first | exact HB.out | apply below_alloc | apply pw_below_drewN | apply below_drew1 | refine below_set ?_ GE208.out) | exact HB.out)) hb); clear BK208; clear HB; have BK208:=n0_; have HB:=n1_; clear n0_ n1_; (try clear hb); (try clear hb2); (try clear hk); (try clear hi); have hcz45_0:w44.cell? ⟨gb208,0,none⟩=some (.int .i64 a0_0):=(blk_cell BK208.out 0).trans rfl; have hcz45_1:w44.cell? ⟨gb208,1,none⟩=some (.int .u64 a0_1):=(blk_cell BK208.out 1).trans rfl; have hcz45_2:w44.cell? ⟨gb208,2,none⟩=some (.int .i64 a0_2):=(blk_cell BK208.out 2).trans rfl; have hcz45_3:w44.cell? ⟨gb208,3,none⟩=some (.int .u64 a0_3):=(blk_cell BK208.out 3).trans rfl; have hcz45_4:w44.cell? ⟨gb208,4,none⟩=some (.bool a0_4):=(blk_cell BK208.out 4).trans rfl; have hcz45_5:w44.cell? ⟨gb208,5,none⟩=some (.int .u64 a0_5):=(blk_cell BK208.out 5).trans rfl; have hcz45_6:w44.cell? ⟨gb208,6,none⟩=some (.bool a0_6):=(blk_cell BK208.out 6).trans rfl; have hcz45_7:w44.cell? ⟨gb208,7,none⟩=some (.int .u64 a0_7):=(blk_cell BK208.out 7).trans rfl; have hcz45_8:w44.cell? ⟨gb208,8,none⟩=some (.bool a0_8):=(blk_cell BK208.out 8).trans rfl; have hcz45_9:w44.cell? ⟨gb208,9,none⟩=some (.int .u64 a0_9):=(blk_cell BK208.out 9).trans rfl; have hcz45_10:w44.cell? ⟨gb208,10,none⟩=some (.bool a0_10):=(blk_cell BK208.out 10).trans rfl; have hcz45_11:w44.cell? ⟨gb208,11,none⟩=some (.int .u64 a0_11):=(blk_cell BK208.out 11).trans rfl; have hcz45_12:w44.cell? ⟨gb208,12,none⟩=some (.bool a0_12):=(blk_cell BK208.out 12).trans rfl; have hfz45_0:=blk_frozen BK208.out 0; have hfz45_1:=blk_frozen BK208.out 1; have hfz45_2:=blk_frozen BK208.out 2; have hfz45_3:=blk_frozen BK208.out 3; have hfz45_4:=blk_frozen BK208.out 4; have hfz45_5:=blk_frozen BK208.out 5; have hfz45_6:=blk_frozen BK208.out 6; have hfz45_7:=blk_frozen BK208.out 7; have hfz45_8:=blk_frozen BK208.out 8; have hfz45_9:=blk_frozen BK208.out 9; have hfz45_10:=blk_frozen BK208.out 10; have hfz45_11:=blk_frozen BK208.out 11; have hfz45_12:=blk_frozen BK208.out 12) | ((with_reducible refine gate_callee (f:=10) rfl ?_); refine goesL_ (some 23) rfl rfl Tryd.func10 (by kernel_rfl) rfl #[.agg #[.int .i64 a0_0,.int .u64 a0_1,.int .i64 a0_2,.int .u64 a0_3,.bool a0_4,.int .u64 a0_5,.bool a0_6,.int .u64 a0_7,.bool a0_8,.int .u64 a0_9,.bool a0_10,.int .u64 a0_11,.bool a0_12],.int .u64 a1,.int .u64 a2] rfl (by (try simp only [List.map_toArray,List.map_cons,List.map_nil]); first | done | rfl | (simp only [List.length_drop,List.length_take]; rfl)) ?_; (with_reducible refine (rearm_First.calls a0_0 a0_1 a0_2 a0_3 a0_4 a0_5 a0_6 a0_7 a0_8 a0_9 a0_10 a0_11 a0_12 a1 a2 t210 t211 _ (hT.keep (by repeat (first | (with_reducible first | exact HB.out | apply below_alloc | apply pw_below_drewN | apply below_drew1 | refine below_set ?_ GE208.out) | exact HB.out))) A6.out).mono ?_); rintro e w46 ⟨rfl,hb⟩; refine ⟨_,rfl,?_⟩; have n0_:=Aside0.mk (blk_below (g:=gb208) (o:=.cells #[.int .i64 a0_0,.int .u64 a0_1,.int .i64 a0_2,.int .u64 a0_3,.bool a0_4,.int .u64 a0_5,.bool a0_6,.int .u64 a0_7,.bool a0_8,.int .u64 a0_9,.bool a0_10,.int .u64 a0_11,.bool a0_12] 28 (0,0)) (by (with_reducible repeat (first | refine blk_drewN ?_ _ | refine blk_drew ?_ | refine blk_alloc ?_ _)); exact BK208.out) hb); have n1_:=Aside0.mk (below_step (by repeat (first | (with_reducible first | exact HB.out | apply below_alloc | apply pw_below_drewN | apply below_drew1 | refine below_set ?_ GE208.out) | exact HB.out)) hb); clear BK208; clear HB; have BK208:=n0_; have HB:=n1_; clear n0_ n1_; (try clear hb); (try clear hb2); (try clear hk); (try clear hi); have hcz47_0:w46.cell? ⟨gb208,0,none⟩=some (.int .i64 a0_0):=(blk_cell BK208.out 0).trans rfl; have hcz47_1:w46.cell? ⟨gb208,1,none⟩=some (.int .u64 a0_1):=(blk_cell BK208.out 1).trans rfl; have hcz47_2:w46.cell? ⟨gb208,2,none⟩=some (.int .i64 a0_2):=(blk_cell BK208.out 2).trans rfl; have hcz47_3:w46.cell? ⟨gb208,3,none⟩=some (.int .u64 a0_3):=(blk_cell BK208.out 3).trans rfl; have hcz47_4:w46.cell? ⟨gb208,4,none⟩=some (.bool a0_4):=(blk_cell BK208.out 4).trans rfl; have hcz47_5:w46.cell? ⟨gb208,5,none⟩=some (.int .u64 a0_5):=(blk_cell BK208.out 5).trans rfl; have hcz47_6:w46.cell? ⟨gb208,6,none⟩=some (.bool a0_6):=(blk_cell BK208.out 6).trans rfl; have hcz47_7:w46.cell? ⟨gb208,7,none⟩=some (.int .u64 a0_7):=(blk_cell BK208.out 7).trans rfl; have hcz47_8:w46.cell? ⟨gb208,8,none⟩=some (.bool a0_8):=(blk_cell BK208.out 8).trans rfl; have hcz47_9:w46.cell? ⟨gb208,9,none⟩=some (.int .u64 a0_9):=(blk_cell BK208.out 9).trans rfl; have hcz47_10:w46.cell? ⟨gb208,10,none⟩=some (.bool a0_10):=(blk_cell BK208.out 10).trans rfl; have hcz47_11:w46.cell? ⟨gb208,11,none⟩=some (.int .u64 a0_11):=(blk_cell BK208.out 11).trans rfl; have hcz47_12:w46.cell? ⟨gb208,12,none⟩=some (.bool a0_12):=(blk_cell BK208.out 12).trans rfl; have hfz47_0:=blk_frozen BK208.out 0; have hfz47_1:=blk_frozen BK208.out 1; have hfz47_2:=blk_frozen BK208.out 2; have hfz47_3:=blk_frozen BK208.out 3; have hfz47_4:=blk_frozen BK208.out 4; have hfz47_5:=blk_frozen BK208.out 5; have hfz47_6:=blk_frozen BK208.out 6; have hfz47_7:=blk_frozen BK208.out 7; have hfz47_8:=blk_frozen BK208.out 8; have hfz47_9:=blk_frozen BK208.out 9; have hfz47_10:=blk_frozen BK208.out 10; have hfz47_11:=blk_frozen BK208.out 11; have hfz47_12:=blk_frozen BK208.out 12) | ((with_reducible refine gate_callee (f:=11) rfl ?_); refine goesL_ (some 30) rfl rfl Tryd.func11 (by kernel_rfl) rfl #[.agg #[.int .i64 a0_0,.int .u64 a0_1,.int .i64 a0_2,.int .u64 a0_3,.bool a0_4,.int .u64 a0_5,.bool a0_6,.int .u64 a0_7,.bool a0_8,.int .u64 a0_9,.bool a0_10,.int .u64 a0_11,.bool a0_12],.int .u64 a1,.int .u64 a2] rfl (by (try simp only [List.map_toArray,List.map_cons,List.map_nil]); first | done | rfl | (simp only [List.length_drop,List.length_take]; rfl)) ?_; (with_reducible refine (complineref23_First.calls k a0_0 a0_1 a0_2 a0_3 a0_4 a0_5 a0_6 a0_7 a0_8 a0_9 a0_10 a0_11 a0_12 a1 a2 t212 t213 _ A7.out).mono ?_); rintro e w48 ⟨rfl,hb⟩; refine ⟨_,rfl,?_⟩; have n0_:=Aside0.mk (blk_below (g:=gb208) (o:=.cells #[.int .i64 a0_0,.int .u64 a0_1,.int .i64 a0_2,.int .u64 a0_3,.bool a0_4,.int .u64 a0_5,.bool a0_6,.int .u64 a0_7,.bool a0_8,.int .u64 a0_9,.bool a0_10,.int .u64 a0_11,.bool a0_12] 28 (0,0)) (by (with_reducible repeat (first | refine blk_drewN ?_ _ | refine blk_drew ?_ | refine blk_alloc ?_ _)); exact BK208.out) hb); have n1_:=Aside0.mk (below_step (by repeat (first | (with_reducible first | exact HB.out | apply below_alloc | apply pw_below_drewN | apply below_drew1 | refine below_set ?_ GE208.out) | exact HB.out)) hb); clear BK208; clear HB; have BK208:=n0_; have HB:=n1_; clear n0_ n1_; (try clear hb); (try clear hb2); (try clear hk); (try clear hi)) | ((with_reducible refine gate_callee (f:=12) rfl ?_); refine goesL_ (some 35) rfl rfl Tryd.func12 (by kernel_rfl) rfl #[.int .u64 a1] rfl (by (try simp only [List.map_toArray,List.map_cons,List.map_nil]); first | done | rfl | (simp only [List.length_drop,List.length_take]; rfl)) ?_; (with_reducible refine (rearm_Minute.calls a1 t214 t215 _ A8.out).mono ?_); rintro e w' ⟨rfl,⟨nd,rfl⟩⟩; refine ⟨_,rfl,?_⟩) | ((with_reducible refine gate_callee (f:=13) rfl ?_); refine goesL_ (some 40) rfl rfl Tryd.func13 (by kernel_rfl) rfl #[.int .u64 a1] rfl (by (try simp only [List.map_toArray,List.map_cons,List.map_nil]); first | done | rfl | (simp only [List.length_drop,List.length_take]; rfl)) ?_; (with_reducible refine (complineref23_Minute.calls a1 t216 t217 _ A9.out).mono ?_); rintro e w' ⟨rfl,⟨nd,rfl⟩⟩; refine ⟨_,rfl,?_⟩))
    (try (rw [drewN_self w48]; generalize hq_:World.drewN w48 _=w48; have n0_:Aside0 (w48.heap[gb208]?=some (.cells #[.int .i64 a0_0,.int .u64 a0_1,.int .i64 a0_2,.int .u64 a0_3,.bool a0_4,.int .u64 a0_5,.bool a0_6,.int .u64 a0_7,.bool a0_8,.int .u64 a0_9,.bool a0_10,.int .u64 a0_11,.bool a0_12] 28 (0,0))):=⟨by rw [← hq_]; exact (by (with_reducible repeat (first | refine blk_drewN ?_ _ | refine blk_drew ?_ | refine blk_alloc ?_ _)); exact BK208.out)⟩; have n1_:Aside0 (Below w.heap.size w w48):=⟨by rw [← hq_]; exact (by repeat (first | (with_reducible first | exact HB.out | apply below_alloc | apply pw_below_drewN | apply below_drew1 | refine below_set ?_ GE208.out) | exact HB.out))⟩; clear BK208 HB hq_; have BK208:=n0_; have HB:=n1_; clear n0_ n1_))
    have n0_:=Aside0.mk (blk_drew BK208.out)
    have n1_:=Aside0.mk (below_drew1 HB.out)
    clear BK208
    clear HB
    have BK208:=n0_
    have HB:=n1_
    clear n0_ n1_
    refine start_ (n:=29) (S:=fun w'=>w'.cell? ⟨gb208,0,none⟩=some (.int .i64 a0_0)∧w'.cell? ⟨gb208,1,none⟩=some (.int .u64 a0_1)∧w'.cell? ⟨gb208,2,none⟩=some (.int .i64 a0_2)∧w'.cell? ⟨gb208,3,none⟩=some (.int .u64 a0_3)∧w'.cell? ⟨gb208,4,none⟩=some (.bool a0_4)∧w'.cell? ⟨gb208,5,none⟩=some (.int .u64 a0_5)∧w'.cell? ⟨gb208,6,none⟩=some (.bool a0_6)∧w'.cell? ⟨gb208,7,none⟩=some (.int .u64 a0_7)∧w'.cell? ⟨gb208,8,none⟩=some (.bool a0_8)∧w'.cell? ⟨gb208,9,none⟩=some (.int .u64 a0_9)∧w'.cell? ⟨gb208,10,none⟩=some (.bool a0_10)∧w'.cell? ⟨gb208,11,none⟩=some (.int .u64 a0_11)∧w'.cell? ⟨gb208,12,none⟩=some (.bool a0_12)) (ds:=[]) #[F_,F_,F_,F_,F_,F_,F_,F_,F_,F_,F_,F_,F_,F_,F_,F_,F_,F_,F_,F_,F_,F_,F_,F_,F_,F_,F_,F_,F_] (by kernel_rfl) rfl rfl ⟨(blk_cell BK208.out 0).trans rfl,(blk_cell BK208.out 1).trans rfl,(blk_cell BK208.out 2).trans rfl,(blk_cell BK208.out 3).trans rfl,(blk_cell BK208.out 4).trans rfl,(blk_cell BK208.out 5).trans rfl,(blk_cell BK208.out 6).trans rfl,(blk_cell BK208.out 7).trans rfl,(blk_cell BK208.out 8).trans rfl,(blk_cell BK208.out 9).trans rfl,(blk_cell BK208.out 10).trans rfl,(blk_cell BK208.out 11).trans rfl,(blk_cell BK208.out 12).trans rfl⟩ (fun hHeld=>?_); refine with_tabW complinelaw23_RearmFirst.tab8 complinelaw23_RearmFirst.bits8 (fun HT_ HW_=>?_)
    generalize w48.drew=w49 at BK208 HB hHeld ⊢
    refine pure_ (i:=0) (N:=some 43) (v:=?_) (a':=?_) #[T_,F_,F_,F_,F_,F_,F_,F_,F_,F_,F_,F_,F_,F_,F_,F_,F_,F_,F_,F_,F_,F_,F_,F_,F_,F_,F_,F_,F_] rfl rfl (any_of HT_.out (by kernel_rfl)) (fun _ _ _ h=>h) (Or.inl ⟨by rfl,?_⟩) ?_ ?_
    rotate_left
    ·intro w'
     go_simp
     with_reducible rfl
    rotate_left
    ·simp only [Act.put,List.setIfInBounds_toArray,List.set_cons_zero,List.set_cons_succ,i64_w,i32_w]
     rfl
    refine pure_ (i:=1) (N:=some 44) (v:=?_) (a':=?_) #[T_,T_,F_,F_,F_,F_,F_,F_,F_,F_,F_,F_,F_,F_,F_,F_,F_,F_,F_,F_,F_,F_,F_,F_,F_,F_,F_,F_,F_] rfl rfl (any_of HT_.out (by kernel_rfl)) (fun _ _ _ h=>h) (Or.inl ⟨by rfl,?_⟩) ?_ ?_
    rotate_left
    ·intro w'
     go_simp
     with_reducible rfl
    rotate_left
    ·simp only [Act.put,List.setIfInBounds_toArray,List.set_cons_zero,List.set_cons_succ,i64_w,i32_w]
     rfl
    refine take_ (i:=2) (N:=some 45) (v:=?_) (a':=?_) #[T_,T_,T_,F_,F_,F_,F_,F_,F_,F_,F_,F_,F_,F_,F_,F_,F_,F_,F_,F_,F_,F_,F_,F_,F_,F_,F_,F_,F_] rfl rfl (take_ofW HT_.out HW_.out (by kernel_rfl)) (fun _ _ _ h=>h) (Or.inl ⟨by rfl,?_⟩) hHeld ?_ ?_
    rotate_left
    ·rintro w' ⟨s0,s1,s2,s3,s4,s5,s6,s7,s8,s9,s10,s11,s12⟩
     go_simp
     with_reducible rfl
    rotate_left
    ·simp only [Act.put,List.setIfInBounds_toArray,List.set_cons_zero,List.set_cons_succ,i64_w,i32_w]
     rfl
    refine take_ (i:=4) (N:=some 47) (v:=?_) (a':=?_) #[T_,T_,T_,F_,T_,F_,F_,F_,F_,F_,F_,F_,F_,F_,F_,F_,F_,F_,F_,F_,F_,F_,F_,F_,F_,F_,F_,F_,F_] rfl rfl (take_ofW HT_.out HW_.out (by kernel_rfl)) (fun _ _ _ h=>h) (Or.inl ⟨by rfl,?_⟩) hHeld ?_ ?_
    rotate_left
    ·rintro w' ⟨s0,s1,s2,s3,s4,s5,s6,s7,s8,s9,s10,s11,s12⟩
     go_simp
     with_reducible rfl
    rotate_left
    ·simp only [Act.put,List.setIfInBounds_toArray,List.set_cons_zero,List.set_cons_succ,i64_w,i32_w]
     rfl
    refine one_ (i:=3) (N:=some 46) #[T_,T_,T_,T_,T_,F_,F_,F_,F_,F_,F_,F_,F_,F_,F_,F_,F_,F_,F_,F_,F_,F_,F_,F_,F_,F_,F_,F_,F_] rfl rfl (one_of HT_.out (by kernel_rfl)) (by decide) (fun K hK=>?_)
    refine goes_ Tryd.func14 (by kernel_rfl) rfl #[.agg #[.int .i64 a0_0,.int .u64 a0_1,.int .i64 a0_2,.int .u64 a0_3,.bool a0_4,.int .u64 a0_5,.bool a0_6,.int .u64 a0_7,.bool a0_8,.int .u64 a0_9,.bool a0_10,.int .u64 a0_11,.bool a0_12]] (by rfl) rfl rfl (by (try simp only [List.map_toArray,List.map_cons,List.map_nil]); first | done | rfl | (simp only [List.length_drop,List.length_take]; rfl)) ?_
    with_reducible refine (rearm_Check.calls k a0_0 a0_1 a0_2 a0_3 a0_4 a0_5 a0_6 a0_7 a0_8 a0_9 a0_10 a0_11 a0_12 t218 _ A10.out).mono ?_
    rintro e w50 ⟨rfl,hb⟩
    refine ⟨_,rfl,?_⟩
    have n0_:=Aside0.mk (blk_below (g:=gb208) (o:=.cells #[.int .i64 a0_0,.int .u64 a0_1,.int .i64 a0_2,.int .u64 a0_3,.bool a0_4,.int .u64 a0_5,.bool a0_6,.int .u64 a0_7,.bool a0_8,.int .u64 a0_9,.bool a0_10,.int .u64 a0_11,.bool a0_12] 28 (0,0)) (by (with_reducible repeat (first | refine blk_drewN ?_ _ | refine blk_drew ?_ | refine blk_alloc ?_ _)); exact BK208.out) hb)
    have n1_:=Aside0.mk (below_step (by repeat (first | (with_reducible first | exact HB.out | apply below_alloc | apply pw_below_drewN | apply below_drew1 | refine below_set ?_ GE208.out) | exact HB.out)) hb)
    clear BK208
    clear HB
    have BK208:=n0_
    have HB:=n1_
    clear n0_ n1_
    (try clear hb)
    (try clear hb2)
    (try clear hk)
    (try clear hi)
    refine hK.out _ _ ⟨(blk_cell BK208.out 0).trans rfl,(blk_cell BK208.out 1).trans rfl,(blk_cell BK208.out 2).trans rfl,(blk_cell BK208.out 3).trans rfl,(blk_cell BK208.out 4).trans rfl,(blk_cell BK208.out 5).trans rfl,(blk_cell BK208.out 6).trans rfl,(blk_cell BK208.out 7).trans rfl,(blk_cell BK208.out 8).trans rfl,(blk_cell BK208.out 9).trans rfl,(blk_cell BK208.out 10).trans rfl,(blk_cell BK208.out 11).trans rfl,(blk_cell BK208.out 12).trans rfl⟩ (fun hHeld=>?_)
    clear hK K
    refine norm_ (a':=?_) ?_ ?_
    rotate_left
    ·show Act.put _ (some 46) _=_
     simp only [Act.put,List.setIfInBounds_toArray,List.set_cons_zero,List.set_cons_succ,i64_w,i32_w]
     rfl
    refine one_ (i:=5) (N:=some 48) #[T_,T_,T_,T_,T_,T_,F_,F_,F_,F_,F_,F_,F_,F_,F_,F_,F_,F_,F_,F_,F_,F_,F_,F_,F_,F_,F_,F_,F_] rfl rfl (one_of HT_.out (by kernel_rfl)) (by decide) (fun K hK=>?_)
    refine goes_ Tryd.func15 (by kernel_rfl) rfl #[.agg #[.int .i64 a0_0,.int .u64 a0_1,.int .i64 a0_2,.int .u64 a0_3,.bool a0_4,.int .u64 a0_5,.bool a0_6,.int .u64 a0_7,.bool a0_8,.int .u64 a0_9,.bool a0_10,.int .u64 a0_11,.bool a0_12]] (by rfl) rfl rfl (by (try simp only [List.map_toArray,List.map_cons,List.map_nil]); first | done | rfl | (simp only [List.length_drop,List.length_take]; rfl)) ?_
    with_reducible refine (complineref23_Check.calls k a0_0 a0_1 a0_2 a0_3 a0_4 a0_5 a0_6 a0_7 a0_8 a0_9 a0_10 a0_11 a0_12 t219 _ A11.out).mono ?_
    rintro e w51 ⟨rfl,hb⟩
    refine ⟨_,rfl,?_⟩
    have n0_:=Aside0.mk (blk_below (g:=gb208) (o:=.cells #[.int .i64 a0_0,.int .u64 a0_1,.int .i64 a0_2,.int .u64 a0_3,.bool a0_4,.int .u64 a0_5,.bool a0_6,.int .u64 a0_7,.bool a0_8,.int .u64 a0_9,.bool a0_10,.int .u64 a0_11,.bool a0_12] 28 (0,0)) (by (with_reducible repeat (first | refine blk_drewN ?_ _ | refine blk_drew ?_ | refine blk_alloc ?_ _)); exact BK208.out) hb)
    have n1_:=Aside0.mk (below_step (by repeat (first | (with_reducible first | exact HB.out | apply below_alloc | apply pw_below_drewN | apply below_drew1 | refine below_set ?_ GE208.out) | exact HB.out)) hb)
    clear BK208
    clear HB
    have BK208:=n0_
    have HB:=n1_
    clear n0_ n1_
    (try clear hb)
    (try clear hb2)
    (try clear hk)
    (try clear hi)
    refine hK.out _ _ ⟨(blk_cell BK208.out 0).trans rfl,(blk_cell BK208.out 1).trans rfl,(blk_cell BK208.out 2).trans rfl,(blk_cell BK208.out 3).trans rfl,(blk_cell BK208.out 4).trans rfl,(blk_cell BK208.out 5).trans rfl,(blk_cell BK208.out 6).trans rfl,(blk_cell BK208.out 7).trans rfl,(blk_cell BK208.out 8).trans rfl,(blk_cell BK208.out 9).trans rfl,(blk_cell BK208.out 10).trans rfl,(blk_cell BK208.out 11).trans rfl,(blk_cell BK208.out 12).trans rfl⟩ (fun hHeld=>?_)
    clear hK K
    refine norm_ (a':=?_) ?_ ?_
    rotate_left
    ·show Act.put _ (some 48) _=_
     simp only [Act.put,List.setIfInBounds_toArray,List.set_cons_zero,List.set_cons_succ,i64_w,i32_w]
     rfl
    refine pure_ (i:=6) (N:=some 49) (v:=?_) (a':=?_) #[T_,T_,T_,T_,T_,T_,T_,F_,F_,F_,F_,F_,F_,F_,F_,F_,F_,F_,F_,F_,F_,F_,F_,F_,F_,F_,F_,F_,F_] rfl rfl (any_of HT_.out (by kernel_rfl)) (fun _ _ _ h=>h) (Or.inl ⟨by rfl,?_⟩) ?_ ?_
    rotate_left
    ·intro w'
     go_simp
     with_reducible rfl
    rotate_left
    ·simp only [Act.put,List.setIfInBounds_toArray,List.set_cons_zero,List.set_cons_succ,i64_w,i32_w]
     rfl
    refine pure_ (i:=7) (N:=some 50) (v:=?_) (a':=?_) #[T_,T_,T_,T_,T_,T_,T_,T_,F_,F_,F_,F_,F_,F_,F_,F_,F_,F_,F_,F_,F_,F_,F_,F_,F_,F_,F_,F_,F_] rfl rfl (any_of HT_.out (by kernel_rfl)) (fun _ _ _ h=>h) (Or.inl ⟨by rfl,?_⟩) ?_ ?_
    rotate_left
    ·intro w'
     go_simp
     with_reducible rfl
    rotate_left
    ·simp only [Act.put,List.setIfInBounds_toArray,List.set_cons_zero,List.set_cons_succ,i64_w,i32_w]
     rfl
    refine pure_ (i:=8) (N:=some 51) (v:=?_) (a':=?_) #[T_,T_,T_,T_,T_,T_,T_,T_,T_,F_,F_,F_,F_,F_,F_,F_,F_,F_,F_,F_,F_,F_,F_,F_,F_,F_,F_,F_,F_] rfl rfl (any_of HT_.out (by kernel_rfl)) (fun _ _ _ h=>h) (Or.inl ⟨by rfl,?_⟩) ?_ ?_
    rotate_left
    ·intro w'
     go_simp
     with_reducible rfl
    rotate_left
    ·simp only [Act.put,List.setIfInBounds_toArray,List.set_cons_zero,List.set_cons_succ,i64_w,i32_w]
     rfl
    refine pure_ (i:=9) (N:=some 52) (v:=?_) (a':=?_) #[T_,T_,T_,T_,T_,T_,T_,T_,T_,T_,F_,F_,F_,F_,F_,F_,F_,F_,F_,F_,F_,F_,F_,F_,F_,F_,F_,F_,F_] rfl rfl (any_of HT_.out (by kernel_rfl)) (fun _ _ _ h=>h) (Or.inl ⟨by rfl,?_⟩) ?_ ?_
    rotate_left
    ·intro w'
     go_simp
     with_reducible rfl
    rotate_left
    ·simp only [Act.put,List.setIfInBounds_toArray,List.set_cons_zero,List.set_cons_succ,i64_w,i32_w]
     rfl
    refine pure_ (i:=10) (N:=some 53) (v:=?_) (a':=?_) #[T_,T_,T_,T_,T_,T_,T_,T_,T_,T_,T_,F_,F_,F_,F_,F_,F_,F_,F_,F_,F_,F_,F_,F_,F_,F_,F_,F_,F_] rfl rfl (any_of HT_.out (by kernel_rfl)) (fun _ _ _ h=>h) (Or.inl ⟨by rfl,?_⟩) ?_ ?_
    rotate_left
    ·intro w'
     go_simp
     with_reducible rfl
    rotate_left
    ·simp only [Act.put,List.setIfInBounds_toArray,List.set_cons_zero,List.set_cons_succ,i64_w,i32_w]
     rfl
    refine pure_ (i:=11) (N:=some 54) (v:=?_) (a':=?_) #[T_,T_,T_,T_,T_,T_,T_,T_,T_,T_,T_,T_,F_,F_,F_,F_,F_,F_,F_,F_,F_,F_,F_,F_,F_,F_,F_,F_,F_] rfl rfl (any_of HT_.out (by kernel_rfl)) (fun _ _ _ h=>h) (Or.inl ⟨by rfl,?_⟩) ?_ ?_
    rotate_left
    ·intro w'
     go_simp
     with_reducible rfl
    rotate_left
    ·simp only [Act.put,List.setIfInBounds_toArray,List.set_cons_zero,List.set_cons_succ,i64_w,i32_w]
     rfl
    refine pure_ (i:=12) (N:=some 55) (v:=?_) (a':=?_) #[T_,T_,T_,T_,T_,T_,T_,T_,T_,T_,T_,T_,T_,F_,F_,F_,F_,F_,F_,F_,F_,F_,F_,F_,F_,F_,F_,F_,F_] rfl rfl (any_of HT_.out (by kernel_rfl)) (fun _ _ _ h=>h) (Or.inl ⟨by rfl,?_⟩) ?_ ?_
    rotate_left
    ·intro w'
     go_simp
     with_reducible rfl
    rotate_left
    ·simp only [Act.put,List.setIfInBounds_toArray,List.set_cons_zero,List.set_cons_succ,i64_w,i32_w]
     rfl
    refine pure_ (i:=13) (N:=some 56) (v:=?_) (a':=?_) #[T_,T_,T_,T_,T_,T_,T_,T_,T_,T_,T_,T_,T_,T_,F_,F_,F_,F_,F_,F_,F_,F_,F_,F_,F_,F_,F_,F_,F_] rfl rfl (any_of HT_.out (by kernel_rfl)) (fun _ _ _ h=>h) (Or.inl ⟨by rfl,?_⟩) ?_ ?_
    rotate_left
    ·intro w'
     go_simp
     with_reducible rfl
    rotate_left
    ·simp only [Act.put,List.setIfInBounds_toArray,List.set_cons_zero,List.set_cons_succ,i64_w,i32_w]
     rfl
    refine pure_ (i:=14) (N:=some 57) (v:=undef) (a':=?_) #[T_,T_,T_,T_,T_,T_,T_,T_,T_,T_,T_,T_,T_,T_,T_,F_,F_,F_,F_,F_,F_,F_,F_,F_,F_,F_,F_,F_,F_] rfl rfl (any_of HT_.out (by kernel_rfl)) (fun _ _ _ h=>h) (Or.inr ⟨by rfl,rfl⟩) ?_ ?_
    rotate_left
    ·simp only [Act.put,List.setIfInBounds_toArray,List.set_cons_zero,List.set_cons_succ,i64_w,i32_w]
     rfl
    refine pure_ (i:=15) (N:=some 58) (v:=undef) (a':=?_) #[T_,T_,T_,T_,T_,T_,T_,T_,T_,T_,T_,T_,T_,T_,T_,T_,F_,F_,F_,F_,F_,F_,F_,F_,F_,F_,F_,F_,F_] rfl rfl (any_of HT_.out (by kernel_rfl)) (fun _ _ _ h=>h) (Or.inr ⟨by rfl,rfl⟩) ?_ ?_
    rotate_left
    ·simp only [Act.put,List.setIfInBounds_toArray,List.set_cons_zero,List.set_cons_succ,i64_w,i32_w]
     rfl
    refine pure_ (i:=16) (N:=some 59) (v:=undef) (a':=?_) #[T_,T_,T_,T_,T_,T_,T_,T_,T_,T_,T_,T_,T_,T_,T_,T_,T_,F_,F_,F_,F_,F_,F_,F_,F_,F_,F_,F_,F_] rfl rfl (any_of HT_.out (by kernel_rfl)) (fun _ _ _ h=>h) (Or.inr ⟨by rfl,rfl⟩) ?_ ?_
    rotate_left
    ·simp only [Act.put,List.setIfInBounds_toArray,List.set_cons_zero,List.set_cons_succ,i64_w,i32_w]
     rfl
    refine pure_ (i:=17) (N:=some 60) (v:=?_) (a':=?_) #[T_,T_,T_,T_,T_,T_,T_,T_,T_,T_,T_,T_,T_,T_,T_,T_,T_,T_,F_,F_,F_,F_,F_,F_,F_,F_,F_,F_,F_] rfl rfl (any_of HT_.out (by kernel_rfl)) (fun _ _ _ h=>h) (Or.inl ⟨by rfl,?_⟩) ?_ ?_
    rotate_left
    ·intro w'
     go_simp
     with_reducible rfl
    rotate_left
    ·simp only [Act.put,List.setIfInBounds_toArray,List.set_cons_zero,List.set_cons_succ,i64_w,i32_w]
     rfl
    refine pure_ (i:=18) (N:=some 61) (v:=?_) (a':=?_) #[T_,T_,T_,T_,T_,T_,T_,T_,T_,T_,T_,T_,T_,T_,T_,T_,T_,T_,T_,F_,F_,F_,F_,F_,F_,F_,F_,F_,F_] rfl rfl (any_of HT_.out (by kernel_rfl)) (fun _ _ _ h=>h) (Or.inl ⟨by rfl,?_⟩) ?_ ?_
    rotate_left
    ·intro w'
     go_simp
     with_reducible rfl
    rotate_left
    ·simp only [Act.put,List.setIfInBounds_toArray,List.set_cons_zero,List.set_cons_succ,i64_w,i32_w]
     rfl
    refine pure_ (i:=19) (N:=some 62) (v:=undef) (a':=?_) #[T_,T_,T_,T_,T_,T_,T_,T_,T_,T_,T_,T_,T_,T_,T_,T_,T_,T_,T_,T_,F_,F_,F_,F_,F_,F_,F_,F_,F_] rfl rfl (any_of HT_.out (by kernel_rfl)) (fun _ _ _ h=>h) (Or.inr ⟨by rfl,rfl⟩) ?_ ?_
    rotate_left
    ·simp only [Act.put,List.setIfInBounds_toArray,List.set_cons_zero,List.set_cons_succ,i64_w,i32_w]
     rfl
    refine pure_ (i:=20) (N:=some 63) (v:=undef) (a':=?_) #[T_,T_,T_,T_,T_,T_,T_,T_,T_,T_,T_,T_,T_,T_,T_,T_,T_,T_,T_,T_,T_,F_,F_,F_,F_,F_,F_,F_,F_] rfl rfl (any_of HT_.out (by kernel_rfl)) (fun _ _ _ h=>h) (Or.inr ⟨by rfl,rfl⟩) ?_ ?_
    rotate_left
    ·simp only [Act.put,List.setIfInBounds_toArray,List.set_cons_zero,List.set_cons_succ,i64_w,i32_w]
     rfl
    refine pure_ (i:=21) (N:=some 64) (v:=undef) (a':=?_) #[T_,T_,T_,T_,T_,T_,T_,T_,T_,T_,T_,T_,T_,T_,T_,T_,T_,T_,T_,T_,T_,T_,F_,F_,F_,F_,F_,F_,F_] rfl rfl (any_of HT_.out (by kernel_rfl)) (fun _ _ _ h=>h) (Or.inr ⟨by rfl,rfl⟩) ?_ ?_
    rotate_left
    ·simp only [Act.put,List.setIfInBounds_toArray,List.set_cons_zero,List.set_cons_succ,i64_w,i32_w]
     rfl
    refine pure_ (i:=22) (N:=some 65) (v:=?_) (a':=?_) #[T_,T_,T_,T_,T_,T_,T_,T_,T_,T_,T_,T_,T_,T_,T_,T_,T_,T_,T_,T_,T_,T_,T_,F_,F_,F_,F_,F_,F_] rfl rfl (any_of HT_.out (by kernel_rfl)) (fun _ _ _ h=>h) (Or.inl ⟨by rfl,?_⟩) ?_ ?_
    rotate_left
    ·intro w'
     go_simp
     with_reducible rfl
    rotate_left
    ·simp only [Act.put,List.setIfInBounds_toArray,List.set_cons_zero,List.set_cons_succ,i64_w,i32_w]
     rfl
    refine pure_ (i:=23) (N:=some 66) (v:=?_) (a':=?_) #[T_,T_,T_,T_,T_,T_,T_,T_,T_,T_,T_,T_,T_,T_,T_,T_,T_,T_,T_,T_,T_,T_,T_,T_,F_,F_,F_,F_,F_] rfl rfl (any_of HT_.out (by kernel_rfl)) (fun _ _ _ h=>h) (Or.inl ⟨by rfl,?_⟩) ?_ ?_
    rotate_left
    ·intro w'
     go_simp
     with_reducible rfl
    rotate_left
    ·simp only [Act.put,List.setIfInBounds_toArray,List.set_cons_zero,List.set_cons_succ,i64_w,i32_w]
     rfl
    refine pure_ (i:=24) (N:=some 67) (v:=undef) (a':=?_) #[T_,T_,T_,T_,T_,T_,T_,T_,T_,T_,T_,T_,T_,T_,T_,T_,T_,T_,T_,T_,T_,T_,T_,T_,T_,F_,F_,F_,F_] rfl rfl (any_of HT_.out (by kernel_rfl)) (fun _ _ _ h=>h) (Or.inr ⟨by rfl,rfl⟩) ?_ ?_
    rotate_left
    ·simp only [Act.put,List.setIfInBounds_toArray,List.set_cons_zero,List.set_cons_succ,i64_w,i32_w]
     rfl
    refine pure_ (i:=25) (N:=some 68) (v:=undef) (a':=?_) #[T_,T_,T_,T_,T_,T_,T_,T_,T_,T_,T_,T_,T_,T_,T_,T_,T_,T_,T_,T_,T_,T_,T_,T_,T_,T_,F_,F_,F_] rfl rfl (any_of HT_.out (by kernel_rfl)) (fun _ _ _ h=>h) (Or.inr ⟨by rfl,rfl⟩) ?_ ?_
    rotate_left
    ·simp only [Act.put,List.setIfInBounds_toArray,List.set_cons_zero,List.set_cons_succ,i64_w,i32_w]
     rfl
    refine pure_ (i:=26) (N:=some 69) (v:=undef) (a':=?_) #[T_,T_,T_,T_,T_,T_,T_,T_,T_,T_,T_,T_,T_,T_,T_,T_,T_,T_,T_,T_,T_,T_,T_,T_,T_,T_,T_,F_,F_] rfl rfl (any_of HT_.out (by kernel_rfl)) (fun _ _ _ h=>h) (Or.inr ⟨by rfl,rfl⟩) ?_ ?_
    rotate_left
    ·simp only [Act.put,List.setIfInBounds_toArray,List.set_cons_zero,List.set_cons_succ,i64_w,i32_w]
     rfl
    refine pure_ (i:=27) (N:=some 70) (v:=?_) (a':=?_) #[T_,T_,T_,T_,T_,T_,T_,T_,T_,T_,T_,T_,T_,T_,T_,T_,T_,T_,T_,T_,T_,T_,T_,T_,T_,T_,T_,T_,F_] rfl rfl (any_of HT_.out (by kernel_rfl)) (fun _ _ _ h=>h) (Or.inl ⟨by rfl,?_⟩) ?_ ?_
    rotate_left
    ·intro w'
     go_simp
     with_reducible rfl
    rotate_left
    ·simp only [Act.put,List.setIfInBounds_toArray,List.set_cons_zero,List.set_cons_succ,i64_w,i32_w]
     rfl
    refine pure_ (i:=28) (N:=some 6) (v:=?_) (a':=?_) #[T_,T_,T_,T_,T_,T_,T_,T_,T_,T_,T_,T_,T_,T_,T_,T_,T_,T_,T_,T_,T_,T_,T_,T_,T_,T_,T_,T_,T_] rfl rfl (any_of HT_.out (by kernel_rfl)) (fun _ _ _ h=>h) (Or.inl ⟨by rfl,?_⟩) ?_ ?_
    rotate_left
    ·intro w'
     go_simp
     with_reducible rfl
    rotate_left
    ·simp only [Act.put,List.setIfInBounds_toArray,List.set_cons_zero,List.set_cons_succ,i64_w,i32_w]
     rfl
    refine done_ (done_of HT_.out (by kernel_rfl)) ?_
    try go_wp2
    go_ret
    exact ⟨by first | rfl | (simp [errW_none,errW_some] <;> rfl) | (simp [*,errW_none,errW_some] <;> rfl),by repeat (first | (with_reducible first | exact HB.out | apply below_alloc | apply pw_below_drewN | apply below_drew1 | refine below_set ?_ GE208.out) | exact HB.out)⟩
  ·rw [if_neg c12] at H
   have c12b0:(t218 == t219)=false:=beq_eq_false_iff_ne.mpr c12
   have c12b1:(t218 != t219)=true:=bne_iff_ne.mpr c12
   obtain rfl:=Option.some.inj H
   go_enter Tryd.func3,Tryd.ntmps3
   try go_wp2_with (first | ((with_reducible refine gate_dst (N:=3) rfl ?_); refine box_event ?hg (N:=3) ?hd (cs:=#[.int .i64 a0_0,.int .u64 a0_1,.int .i64 a0_2,.int .u64 a0_3,.bool a0_4,.int .u64 a0_5,.bool a0_6,.int .u64 a0_7,.bool a0_8,.int .u64 a0_9,.bool a0_10,.int .u64 a0_11,.bool a0_12]) (t:=28) ?hr ?_; (case hd=>rfl); (case hg=>rfl); (case hr=>first | (go_simp; done) | (go_simp; rfl)); intro gb208 hg w52 hbox hb; have n0_:=Aside0.mk (below_step (by repeat (first | (with_reducible first | exact HB.out | apply below_alloc | apply pw_below_drewN | apply below_drew1) | exact HB.out)) hb); have n1_:=Aside0.mk (hbox); have n2_:=Aside0.mk ((by rw [hg]; exact (below_size (by repeat (first | (with_reducible first | exact HB.out | apply below_alloc | apply pw_below_drewN | apply below_drew1) | exact HB.out))):w.heap.size≤gb208)); have n3_:=Aside0.mk ((by rw [hg]; exact (below_size (by repeat (first | (with_reducible first | exact HB.out | apply below_alloc | apply pw_below_drewN | apply below_drew1) | exact HB.out))):w.heap.size≤gb208)); clear HB; have HB:=n0_; have BK208:=n1_; have GW208:=n2_; have GE208:=n3_; clear n0_ n1_ n2_ n3_; clear hb hbox hg) | ((with_reducible refine gate_callee (f:=9) rfl ?_); refine goesL_ (some 16) rfl rfl Tryd.func9 (by kernel_rfl) rfl #[] rfl (by (try simp only [List.map_toArray,List.map_cons,List.map_nil]); first | done | rfl | (simp only [List.length_drop,List.length_take]; rfl)) ?_; (with_reducible refine (complinelaw23_works.calls  true _ (hT.keep (by repeat (first | (with_reducible first | exact HB.out | apply below_alloc | apply pw_below_drewN | apply below_drew1 | refine below_set ?_ GE208.out) | exact HB.out))) A4.out).mono ?_); rintro e w53 ⟨rfl,hb⟩; refine ⟨_,rfl,?_⟩; have n0_:=Aside0.mk (blk_below (g:=gb208) (o:=.cells #[.int .i64 a0_0,.int .u64 a0_1,.int .i64 a0_2,.int .u64 a0_3,.bool a0_4,.int .u64 a0_5,.bool a0_6,.int .u64 a0_7,.bool a0_8,.int .u64 a0_9,.bool a0_10,.int .u64 a0_11,.bool a0_12] 28 (0,0)) (by (with_reducible repeat (first | refine blk_drewN ?_ _ | refine blk_drew ?_ | refine blk_alloc ?_ _)); exact BK208.out) hb); have n1_:=Aside0.mk (below_step (by repeat (first | (with_reducible first | exact HB.out | apply below_alloc | apply pw_below_drewN | apply below_drew1 | refine below_set ?_ GE208.out) | exact HB.out)) hb); clear BK208; clear HB; have BK208:=n0_; have HB:=n1_; clear n0_ n1_; (try clear hb); (try clear hb2); (try clear hk); (try clear hi); have hcz54_0:w53.cell? ⟨gb208,0,none⟩=some (.int .i64 a0_0):=(blk_cell BK208.out 0).trans rfl; have hcz54_1:w53.cell? ⟨gb208,1,none⟩=some (.int .u64 a0_1):=(blk_cell BK208.out 1).trans rfl; have hcz54_2:w53.cell? ⟨gb208,2,none⟩=some (.int .i64 a0_2):=(blk_cell BK208.out 2).trans rfl; have hcz54_3:w53.cell? ⟨gb208,3,none⟩=some (.int .u64 a0_3):=(blk_cell BK208.out 3).trans rfl; have hcz54_4:w53.cell? ⟨gb208,4,none⟩=some (.bool a0_4):=(blk_cell BK208.out 4).trans rfl; have hcz54_5:w53.cell? ⟨gb208,5,none⟩=some (.int .u64 a0_5):=(blk_cell BK208.out 5).trans rfl; have hcz54_6:w53.cell? ⟨gb208,6,none⟩=some (.bool a0_6):=(blk_cell BK208.out 6).trans rfl; have hcz54_7:w53.cell? ⟨gb208,7,none⟩=some (.int .u64 a0_7):=(blk_cell BK208.out 7).trans rfl; have hcz54_8:w53.cell? ⟨gb208,8,none⟩=some (.bool a0_8):=(blk_cell BK208.out 8).trans rfl; have hcz54_9:w53.cell? ⟨gb208,9,none⟩=some (.int .u64 a0_9):=(blk_cell BK208.out 9).trans rfl; have hcz54_10:w53.cell? ⟨gb208,10,none⟩=some (.bool a0_10):=(blk_cell BK208.out 10).trans rfl; have hcz54_11:w53.cell? ⟨gb208,11,none⟩=some (.int .u64 a0_11):=(blk_cell BK208.out 11).trans rfl; have hcz54_12:w53.cell? ⟨gb208,12,none⟩=some (.bool a0_12):=(blk_cell BK208.out 12).trans rfl; have hfz54_0:=blk_frozen BK208.out 0; have hfz54_1:=blk_frozen BK208.out 1; have hfz54_2:=blk_frozen BK208.out 2; have hfz54_3:=blk_frozen BK208.out 3; have hfz54_4:=blk_frozen BK208.out 4; have hfz54_5:=blk_frozen BK208.out 5; have hfz54_6:=blk_frozen BK208.out 6; have hfz54_7:=blk_frozen BK208.out 7; have hfz54_8:=blk_frozen BK208.out 8; have hfz54_9:=blk_frozen BK208.out 9; have hfz54_10:=blk_frozen BK208.out 10; have hfz54_11:=blk_frozen BK208.out 11; have hfz54_12:=blk_frozen BK208.out 12) | ((with_reducible refine gate_callee (f:=10) rfl ?_); refine goesL_ (some 23) rfl rfl Tryd.func10 (by kernel_rfl) rfl #[.agg #[.int .i64 a0_0,.int .u64 a0_1,.int .i64 a0_2,.int .u64 a0_3,.bool a0_4,.int .u64 a0_5,.bool a0_6,.int .u64 a0_7,.bool a0_8,.int .u64 a0_9,.bool a0_10,.int .u64 a0_11,.bool a0_12],.int .u64 a1,.int .u64 a2] rfl (by (try simp only [List.map_toArray,List.map_cons,List.map_nil]); first | done | rfl | (simp only [List.length_drop,List.length_take]; rfl)) ?_; (with_reducible refine (rearm_First.calls a0_0 a0_1 a0_2 a0_3 a0_4 a0_5 a0_6 a0_7 a0_8 a0_9 a0_10 a0_11 a0_12 a1 a2 t210 t211 _ (hT.keep (by repeat (first | (with_reducible first | exact HB.out | apply below_alloc | apply pw_below_drewN | apply below_drew1 | refine below_set ?_ GE208.out) | exact HB.out))) A6.out).mono ?_); rintro e w55 ⟨rfl,hb⟩; refine ⟨_,rfl,?_⟩; have n0_:=Aside0.mk (blk_below (g:=gb208) (o:=.cells #[.int .i64 a0_0,.int .u64 a0_1,.int .i64 a0_2,.int .u64 a0_3,.bool a0_4,.int .u64 a0_5,.bool a0_6,.int .u64 a0_7,.bool a0_8,.int .u64 a0_9,.bool a0_10,.int .u64 a0_11,.bool a0_12] 28 (0,0)) (by (with_reducible repeat (first | refine blk_drewN ?_ _ | refine blk_drew ?_ | refine blk_alloc ?_ _)); exact BK208.out) hb); have n1_:=Aside0.mk (below_step (by repeat (first | (with_reducible first | exact HB.out | apply below_alloc | apply pw_below_drewN | apply below_drew1 | refine below_set ?_ GE208.out) | exact HB.out)) hb); clear BK208; clear HB; have BK208:=n0_; have HB:=n1_; clear n0_ n1_; (try clear hb); (try clear hb2); (try clear hk); (try clear hi); have hcz56_0:w55.cell? ⟨gb208,0,none⟩=some (.int .i64 a0_0):=(blk_cell BK208.out 0).trans rfl; have hcz56_1:w55.cell? ⟨gb208,1,none⟩=some (.int .u64 a0_1):=(blk_cell BK208.out 1).trans rfl; have hcz56_2:w55.cell? ⟨gb208,2,none⟩=some (.int .i64 a0_2):=(blk_cell BK208.out 2).trans rfl; have hcz56_3:w55.cell? ⟨gb208,3,none⟩=some (.int .u64 a0_3):=(blk_cell BK208.out 3).trans rfl; have hcz56_4:w55.cell? ⟨gb208,4,none⟩=some (.bool a0_4):=(blk_cell BK208.out 4).trans rfl; have hcz56_5:w55.cell? ⟨gb208,5,none⟩=some (.int .u64 a0_5):=(blk_cell BK208.out 5).trans rfl; have hcz56_6:w55.cell? ⟨gb208,6,none⟩=some (.bool a0_6):=(blk_cell BK208.out 6).trans rfl; have hcz56_7:w55.cell? ⟨gb208,7,none⟩=some (.int .u64 a0_7):=(blk_cell BK208.out 7).trans rfl; have hcz56_8:w55.cell? ⟨gb208,8,none⟩=some (.bool a0_8):=(blk_cell BK208.out 8).trans rfl; have hcz56_9:w55.cell? ⟨gb208,9,none⟩=some (.int .u64 a0_9):=(blk_cell BK208.out 9).trans rfl; have hcz56_10:w55.cell? ⟨gb208,10,none⟩=some (.bool a0_10):=(blk_cell BK208.out 10).trans rfl; have hcz56_11:w55.cell? ⟨gb208,11,none⟩=some (.int .u64 a0_11):=(blk_cell BK208.out 11).trans rfl; have hcz56_12:w55.cell? ⟨gb208,12,none⟩=some (.bool a0_12):=(blk_cell BK208.out 12).trans rfl; have hfz56_0:=blk_frozen BK208.out 0; have hfz56_1:=blk_frozen BK208.out 1; have hfz56_2:=blk_frozen BK208.out 2; have hfz56_3:=blk_frozen BK208.out 3; have hfz56_4:=blk_frozen BK208.out 4; have hfz56_5:=blk_frozen BK208.out 5; have hfz56_6:=blk_frozen BK208.out 6; have hfz56_7:=blk_frozen BK208.out 7; have hfz56_8:=blk_frozen BK208.out 8; have hfz56_9:=blk_frozen BK208.out 9; have hfz56_10:=blk_frozen BK208.out 10; have hfz56_11:=blk_frozen BK208.out 11; have hfz56_12:=blk_frozen BK208.out 12) | ((with_reducible refine gate_callee (f:=11) rfl ?_); refine goesL_ (some 30) rfl rfl Tryd.func11 (by kernel_rfl) rfl #[.agg #[.int .i64 a0_0,.int .u64 a0_1,.int .i64 a0_2,.int .u64 a0_3,.bool a0_4,.int .u64 a0_5,.bool a0_6,.int .u64 a0_7,.bool a0_8,.int .u64 a0_9,.bool a0_10,.int .u64 a0_11,.bool a0_12],.int .u64 a1,.int .u64 a2] rfl (by (try simp only [List.map_toArray,List.map_cons,List.map_nil]); first | done | rfl | (simp only [List.length_drop,List.length_take]; rfl)) ?_; (with_reducible refine (complineref23_First.calls k a0_0 a0_1 a0_2 a0_3 a0_4 a0_5 a0_6 a0_7 a0_8 a0_9 a0_10 a0_11 a0_12 a1 a2 t212 t213 _ A7.out).mono ?_); rintro e w57 ⟨rfl,hb⟩; refine ⟨_,rfl,?_⟩; have n0_:=Aside0.mk (blk_below (g:=gb208) (o:=.cells #[.int .i64 a0_0,.int .u64 a0_1,.int .i64 a0_2,.int .u64 a0_3,.bool a0_4,.int .u64 a0_5,.bool a0_6,.int .u64 a0_7,.bool a0_8,.int .u64 a0_9,.bool a0_10,.int .u64 a0_11,.bool a0_12] 28 (0,0)) (by (with_reducible repeat (first | refine blk_drewN ?_ _ | refine blk_drew ?_ | refine blk_alloc ?_ _)); exact BK208.out) hb); have n1_:=Aside0.mk (below_step (by repeat (first | (with_reducible first | exact HB.out | apply below_alloc | apply pw_below_drewN | apply below_drew1 | refine below_set ?_ GE208.out) | exact HB.out)) hb); clear BK208; clear HB; have BK208:=n0_; have HB:=n1_; clear n0_ n1_; (try clear hb); (try clear hb2); (try clear hk); (try clear hi)) | ((with_reducible refine gate_callee (f:=12) rfl ?_); refine goesL_ (some 35) rfl rfl Tryd.func12 (by kernel_rfl) rfl #[.int .u64 a1] rfl (by (try simp only [List.map_toArray,List.map_cons,List.map_nil]); first | done | rfl | (simp only [List.length_drop,List.length_take]; rfl)) ?_; (with_reducible refine (rearm_Minute.calls a1 t214 t215 _ A8.out).mono ?_); rintro e w' ⟨rfl,⟨nd,rfl⟩⟩; refine ⟨_,rfl,?_⟩) | ((with_reducible refine gate_callee (f:=13) rfl ?_); refine goesL_ (some 40) rfl rfl Tryd.func13 (by kernel_rfl) rfl #[.int .u64 a1] rfl (by (try simp only [List.map_toArray,List.map_cons,List.map_nil]); first | done | rfl | (simp only [List.length_drop,List.length_take]; rfl)) ?_; (with_reducible refine (complineref23_Minute.calls a1 t216 t217 _ A9.out).mono ?_); rintro e w' ⟨rfl,⟨nd,rfl⟩⟩; refine ⟨_,rfl,?_⟩))
   (try (rw [drewN_self w57]; generalize hq_:World.drewN w57 _=w57; have n0_:Aside0 (w57.heap[gb208]?=some (.cells #[.int .i64 a0_0,.int .u64 a0_1,.int .i64 a0_2,.int .u64 a0_3,.bool a0_4,.int .u64 a0_5,.bool a0_6,.int .u64 a0_7,.bool a0_8,.int .u64 a0_9,.bool a0_10,.int .u64 a0_11,.bool a0_12] 28 (0,0))):=⟨by rw [← hq_]; exact (by (with_reducible repeat (first | refine blk_drewN ?_ _ | refine blk_drew ?_ | refine blk_alloc ?_ _)); exact BK208.out)⟩; have n1_:Aside0 (Below w.heap.size w w57):=⟨by rw [← hq_]; exact (by repeat (first | (with_reducible first | exact HB.out | apply below_alloc | apply pw_below_drewN | apply below_drew1 | refine below_set ?_ GE208.out) | exact HB.out))⟩; clear BK208 HB hq_; have BK208:=n0_; have HB:=n1_; clear n0_ n1_))
   have n0_:=Aside0.mk (blk_drew BK208.out)
   have n1_:=Aside0.mk (below_drew1 HB.out)
   clear BK208
   clear HB
   have BK208:=n0_
   have HB:=n1_
   clear n0_ n1_
   refine start_ (n:=29) (S:=fun w'=>w'.cell? ⟨gb208,0,none⟩=some (.int .i64 a0_0)∧w'.cell? ⟨gb208,1,none⟩=some (.int .u64 a0_1)∧w'.cell? ⟨gb208,2,none⟩=some (.int .i64 a0_2)∧w'.cell? ⟨gb208,3,none⟩=some (.int .u64 a0_3)∧w'.cell? ⟨gb208,4,none⟩=some (.bool a0_4)∧w'.cell? ⟨gb208,5,none⟩=some (.int .u64 a0_5)∧w'.cell? ⟨gb208,6,none⟩=some (.bool a0_6)∧w'.cell? ⟨gb208,7,none⟩=some (.int .u64 a0_7)∧w'.cell? ⟨gb208,8,none⟩=some (.bool a0_8)∧w'.cell? ⟨gb208,9,none⟩=some (.int .u64 a0_9)∧w'.cell? ⟨gb208,10,none⟩=some (.bool a0_10)∧w'.cell? ⟨gb208,11,none⟩=some (.int .u64 a0_11)∧w'.cell? ⟨gb208,12,none⟩=some (.bool a0_12)) (ds:=[]) #[F_,F_,F_,F_,F_,F_,F_,F_,F_,F_,F_,F_,F_,F_,F_,F_,F_,F_,F_,F_,F_,F_,F_,F_,F_,F_,F_,F_,F_] (by kernel_rfl) rfl rfl ⟨(blk_cell BK208.out 0).trans rfl,(blk_cell BK208.out 1).trans rfl,(blk_cell BK208.out 2).trans rfl,(blk_cell BK208.out 3).trans rfl,(blk_cell BK208.out 4).trans rfl,(blk_cell BK208.out 5).trans rfl,(blk_cell BK208.out 6).trans rfl,(blk_cell BK208.out 7).trans rfl,(blk_cell BK208.out 8).trans rfl,(blk_cell BK208.out 9).trans rfl,(blk_cell BK208.out 10).trans rfl,(blk_cell BK208.out 11).trans rfl,(blk_cell BK208.out 12).trans rfl⟩ (fun hHeld=>?_); refine with_tabW complinelaw23_RearmFirst.tab8 complinelaw23_RearmFirst.bits8 (fun HT_ HW_=>?_)
   generalize w57.drew=w58 at BK208 HB hHeld ⊢
   refine pure_ (i:=0) (N:=some 43) (v:=?_) (a':=?_) #[T_,F_,F_,F_,F_,F_,F_,F_,F_,F_,F_,F_,F_,F_,F_,F_,F_,F_,F_,F_,F_,F_,F_,F_,F_,F_,F_,F_,F_] rfl rfl (any_of HT_.out (by kernel_rfl)) (fun _ _ _ h=>h) (Or.inl ⟨by rfl,?_⟩) ?_ ?_
   rotate_left
   ·intro w'
    go_simp
    with_reducible rfl
   rotate_left
   ·simp only [Act.put,List.setIfInBounds_toArray,List.set_cons_zero,List.set_cons_succ,i64_w,i32_w]
    rfl
   refine pure_ (i:=1) (N:=some 44) (v:=?_) (a':=?_) #[T_,T_,F_,F_,F_,F_,F_,F_,F_,F_,F_,F_,F_,F_,F_,F_,F_,F_,F_,F_,F_,F_,F_,F_,F_,F_,F_,F_,F_] rfl rfl (any_of HT_.out (by kernel_rfl)) (fun _ _ _ h=>h) (Or.inl ⟨by rfl,?_⟩) ?_ ?_
   rotate_left
   ·intro w'
    go_simp
    with_reducible rfl
   rotate_left
   ·simp only [Act.put,List.setIfInBounds_toArray,List.set_cons_zero,List.set_cons_succ,i64_w,i32_w]
    rfl
   refine take_ (i:=2) (N:=some 45) (v:=?_) (a':=?_) #[T_,T_,T_,F_,F_,F_,F_,F_,F_,F_,F_,F_,F_,F_,F_,F_,F_,F_,F_,F_,F_,F_,F_,F_,F_,F_,F_,F_,F_] rfl rfl (take_ofW HT_.out HW_.out (by kernel_rfl)) (fun _ _ _ h=>h) (Or.inl ⟨by rfl,?_⟩) hHeld ?_ ?_
   rotate_left
   ·rintro w' ⟨s0,s1,s2,s3,s4,s5,s6,s7,s8,s9,s10,s11,s12⟩
    go_simp
    with_reducible rfl
   rotate_left
   ·simp only [Act.put,List.setIfInBounds_toArray,List.set_cons_zero,List.set_cons_succ,i64_w,i32_w]
    rfl
   refine take_ (i:=4) (N:=some 47) (v:=?_) (a':=?_) #[T_,T_,T_,F_,T_,F_,F_,F_,F_,F_,F_,F_,F_,F_,F_,F_,F_,F_,F_,F_,F_,F_,F_,F_,F_,F_,F_,F_,F_] rfl rfl (take_ofW HT_.out HW_.out (by kernel_rfl)) (fun _ _ _ h=>h) (Or.inl ⟨by rfl,?_⟩) hHeld ?_ ?_
   rotate_left
   ·rintro w' ⟨s0,s1,s2,s3,s4,s5,s6,s7,s8,s9,s10,s11,s12⟩
    go_simp
    with_reducible rfl
   rotate_left
   ·simp only [Act.put,List.setIfInBounds_toArray,List.set_cons_zero,List.set_cons_succ,i64_w,i32_w]
    rfl
   refine one_ (i:=3) (N:=some 46) #[T_,T_,T_,T_,T_,F_,F_,F_,F_,F_,F_,F_,F_,F_,F_,F_,F_,F_,F_,F_,F_,F_,F_,F_,F_,F_,F_,F_,F_] rfl rfl (one_of HT_.out (by kernel_rfl)) (by decide) (fun K hK=>?_)
   refine goes_ Tryd.func14 (by kernel_rfl) rfl #[.agg #[.int .i64 a0_0,.int .u64 a0_1,.int .i64 a0_2,.int .u64 a0_3,.bool a0_4,.int .u64 a0_5,.bool a0_6,.int .u64 a0_7,.bool a0_8,.int .u64 a0_9,.bool a0_10,.int .u64 a0_11,.bool a0_12]] (by rfl) rfl rfl (by (try simp only [List.map_toArray,List.map_cons,List.map_nil]); first | done | rfl | (simp only [List.length_drop,List.length_take]; rfl)) ?_
   with_reducible refine (rearm_Check.calls k a0_0 a0_1 a0_2 a0_3 a0_4 a0_5 a0_6 a0_7 a0_8 a0_9 a0_10 a0_11 a0_12 t218 _ A10.out).mono ?_
   rintro e w59 ⟨rfl,hb⟩
   refine ⟨_,rfl,?_⟩
   have n0_:=Aside0.mk (blk_below (g:=gb208) (o:=.cells #[.int .i64 a0_0,.int .u64 a0_1,.int .i64 a0_2,.int .u64 a0_3,.bool a0_4,.int .u64 a0_5,.bool a0_6,.int .u64 a0_7,.bool a0_8,.int .u64 a0_9,.bool a0_10,.int .u64 a0_11,.bool a0_12] 28 (0,0)) (by (with_reducible repeat (first | refine blk_drewN ?_ _ | refine blk_drew ?_ | refine blk_alloc ?_ _)); exact BK208.out) hb)
   have n1_:=Aside0.mk (below_step (by repeat (first | (with_reducible first | exact HB.out | apply below_alloc | apply pw_below_drewN | apply below_drew1 | refine below_set ?_ GE208.out) | exact HB.out)) hb)
   clear BK208
   clear HB
   have BK208:=n0_
   have HB:=n1_
   clear n0_ n1_
   (try clear hb)
   (try clear hb2)
   (try clear hk)
   (try clear hi)
   refine hK.out _ _ ⟨(blk_cell BK208.out 0).trans rfl,(blk_cell BK208.out 1).trans rfl,(blk_cell BK208.out 2).trans rfl,(blk_cell BK208.out 3).trans rfl,(blk_cell BK208.out 4).trans rfl,(blk_cell BK208.out 5).trans rfl,(blk_cell BK208.out 6).trans rfl,(blk_cell BK208.out 7).trans rfl,(blk_cell BK208.out 8).trans rfl,(blk_cell BK208.out 9).trans rfl,(blk_cell BK208.out 10).trans rfl,(blk_cell BK208.out 11).trans rfl,(blk_cell BK208.out 12).trans rfl⟩ (fun hHeld=>?_)
   clear hK K
   refine norm_ (a':=?_) ?_ ?_
   rotate_left
   ·show Act.put _ (some 46) _=_
    simp only [Act.put,List.setIfInBounds_toArray,List.set_cons_zero,List.set_cons_succ,i64_w,i32_w]
    rfl
   refine one_ (i:=5) (N:=some 48) #[T_,T_,T_,T_,T_,T_,F_,F_,F_,F_,F_,F_,F_,F_,F_,F_,F_,F_,F_,F_,F_,F_,F_,F_,F_,F_,F_,F_,F_] rfl rfl (one_of HT_.out (by kernel_rfl)) (by decide) (fun K hK=>?_)
   refine goes_ Tryd.func15 (by kernel_rfl) rfl #[.agg #[.int .i64 a0_0,.int .u64 a0_1,.int .i64 a0_2,.int .u64 a0_3,.bool a0_4,.int .u64 a0_5,.bool a0_6,.int .u64 a0_7,.bool a0_8,.int .u64 a0_9,.bool a0_10,.int .u64 a0_11,.bool a0_12]] (by rfl) rfl rfl (by (try simp only [List.map_toArray,List.map_cons,List.map_nil]); first | done | rfl | (simp only [List.length_drop,List.length_take]; rfl)) ?_
   with_reducible refine (complineref23_Check.calls k a0_0 a0_1 a0_2 a0_3 a0_4 a0_5 a0_6 a0_7 a0_8 a0_9 a0_10 a0_11 a0_12 t219 _ A11.out).mono ?_
   rintro e w60 ⟨rfl,hb⟩
   refine ⟨_,rfl,?_⟩
   have n0_:=Aside0.mk (blk_below (g:=gb208) (o:=.cells #[.int .i64 a0_0,.int .u64 a0_1,.int .i64 a0_2,.int .u64 a0_3,.bool a0_4,.int .u64 a0_5,.bool a0_6,.int .u64 a0_7,.bool a0_8,.int .u64 a0_9,.bool a0_10,.int .u64 a0_11,.bool a0_12] 28 (0,0)) (by (with_reducible repeat (first | refine blk_drewN ?_ _ | refine blk_drew ?_ | refine blk_alloc ?_ _)); exact BK208.out) hb)
   have n1_:=Aside0.mk (below_step (by repeat (first | (with_reducible first | exact HB.out | apply below_alloc | apply pw_below_drewN | apply below_drew1 | refine below_set ?_ GE208.out) | exact HB.out)) hb)
   clear BK208
   clear HB
   have BK208:=n0_
   have HB:=n1_
   clear n0_ n1_
   (try clear hb)
   (try clear hb2)
   (try clear hk)
   (try clear hi)
   refine hK.out _ _ ⟨(blk_cell BK208.out 0).trans rfl,(blk_cell BK208.out 1).trans rfl,(blk_cell BK208.out 2).trans rfl,(blk_cell BK208.out 3).trans rfl,(blk_cell BK208.out 4).trans rfl,(blk_cell BK208.out 5).trans rfl,(blk_cell BK208.out 6).trans rfl,(blk_cell BK208.out 7).trans rfl,(blk_cell BK208.out 8).trans rfl,(blk_cell BK208.out 9).trans rfl,(blk_cell BK208.out 10).trans rfl,(blk_cell BK208.out 11).trans rfl,(blk_cell BK208.out 12).trans rfl⟩ (fun hHeld=>?_)
   clear hK K
   refine norm_ (a':=?_) ?_ ?_
   rotate_left
   ·show Act.put _ (some 48) _=_
    simp only [Act.put,List.setIfInBounds_toArray,List.set_cons_zero,List.set_cons_succ,i64_w,i32_w]
    rfl
   refine pure_ (i:=6) (N:=some 49) (v:=?_) (a':=?_) #[T_,T_,T_,T_,T_,T_,T_,F_,F_,F_,F_,F_,F_,F_,F_,F_,F_,F_,F_,F_,F_,F_,F_,F_,F_,F_,F_,F_,F_] rfl rfl (any_of HT_.out (by kernel_rfl)) (fun _ _ _ h=>h) (Or.inl ⟨by rfl,?_⟩) ?_ ?_
   rotate_left
   ·intro w'
    go_simp
    with_reducible rfl
   rotate_left
   ·simp only [Act.put,List.setIfInBounds_toArray,List.set_cons_zero,List.set_cons_succ,i64_w,i32_w]
    rfl
   refine pure_ (i:=7) (N:=some 50) (v:=?_) (a':=?_) #[T_,T_,T_,T_,T_,T_,T_,T_,F_,F_,F_,F_,F_,F_,F_,F_,F_,F_,F_,F_,F_,F_,F_,F_,F_,F_,F_,F_,F_] rfl rfl (any_of HT_.out (by kernel_rfl)) (fun _ _ _ h=>h) (Or.inl ⟨by rfl,?_⟩) ?_ ?_
   rotate_left
   ·intro w'
    go_simp
    with_reducible rfl
   rotate_left
   ·simp only [Act.put,List.setIfInBounds_toArray,List.set_cons_zero,List.set_cons_succ,i64_w,i32_w]
    rfl
   refine pure_ (i:=8) (N:=some 51) (v:=?_) (a':=?_) #[T_,T_,T_,T_,T_,T_,T_,T_,T_,F_,F_,F_,F_,F_,F_,F_,F_,F_,F_,F_,F_,F_,F_,F_,F_,F_,F_,F_,F_] rfl rfl (any_of HT_.out (by kernel_rfl)) (fun _ _ _ h=>h) (Or.inl ⟨by rfl,?_⟩) ?_ ?_
   rotate_left
   ·intro w'
    go_simp
    with_reducible rfl
   rotate_left
   ·simp only [Act.put,List.setIfInBounds_toArray,List.set_cons_zero,List.set_cons_succ,i64_w,i32_w]
    rfl
   refine pure_ (i:=9) (N:=some 52) (v:=undef) (a':=?_) #[T_,T_,T_,T_,T_,T_,T_,T_,T_,T_,F_,F_,F_,F_,F_,F_,F_,F_,F_,F_,F_,F_,F_,F_,F_,F_,F_,F_,F_] rfl rfl (any_of HT_.out (by kernel_rfl)) (fun _ _ _ h=>h) (Or.inr ⟨by rfl,rfl⟩) ?_ ?_
   rotate_left
   ·simp only [Act.put,List.setIfInBounds_toArray,List.set_cons_zero,List.set_cons_succ,i64_w,i32_w]
    rfl
   refine pure_ (i:=10) (N:=some 53) (v:=undef) (a':=?_) #[T_,T_,T_,T_,T_,T_,T_,T_,T_,T_,T_,F_,F_,F_,F_,F_,F_,F_,F_,F_,F_,F_,F_,F_,F_,F_,F_,F_,F_] rfl rfl (any_of HT_.out (by kernel_rfl)) (fun _ _ _ h=>h) (Or.inr ⟨by rfl,rfl⟩) ?_ ?_
   rotate_left
   ·simp only [Act.put,List.setIfInBounds_toArray,List.set_cons_zero,List.set_cons_succ,i64_w,i32_w]
    rfl
   refine pure_ (i:=11) (N:=some 54) (v:=undef) (a':=?_) #[T_,T_,T_,T_,T_,T_,T_,T_,T_,T_,T_,T_,F_,F_,F_,F_,F_,F_,F_,F_,F_,F_,F_,F_,F_,F_,F_,F_,F_] rfl rfl (any_of HT_.out (by kernel_rfl)) (fun _ _ _ h=>h) (Or.inr ⟨by rfl,rfl⟩) ?_ ?_
   rotate_left
   ·simp only [Act.put,List.setIfInBounds_toArray,List.set_cons_zero,List.set_cons_succ,i64_w,i32_w]
    rfl
   refine pure_ (i:=12) (N:=some 55) (v:=?_) (a':=?_) #[T_,T_,T_,T_,T_,T_,T_,T_,T_,T_,T_,T_,T_,F_,F_,F_,F_,F_,F_,F_,F_,F_,F_,F_,F_,F_,F_,F_,F_] rfl rfl (any_of HT_.out (by kernel_rfl)) (fun _ _ _ h=>h) (Or.inl ⟨by rfl,?_⟩) ?_ ?_
   rotate_left
   ·intro w'
    go_simp
    with_reducible rfl
   rotate_left
   ·simp only [Act.put,List.setIfInBounds_toArray,List.set_cons_zero,List.set_cons_succ,i64_w,i32_w]
    rfl
   refine pure_ (i:=13) (N:=some 56) (v:=?_) (a':=?_) #[T_,T_,T_,T_,T_,T_,T_,T_,T_,T_,T_,T_,T_,T_,F_,F_,F_,F_,F_,F_,F_,F_,F_,F_,F_,F_,F_,F_,F_] rfl rfl (any_of HT_.out (by kernel_rfl)) (fun _ _ _ h=>h) (Or.inl ⟨by rfl,?_⟩) ?_ ?_
   rotate_left
   ·intro w'
    go_simp
    with_reducible rfl
   rotate_left
   ·simp only [Act.put,List.setIfInBounds_toArray,List.set_cons_zero,List.set_cons_succ,i64_w,i32_w]
    rfl
   refine pure_ (i:=14) (N:=some 57) (v:=undef) (a':=?_) #[T_,T_,T_,T_,T_,T_,T_,T_,T_,T_,T_,T_,T_,T_,T_,F_,F_,F_,F_,F_,F_,F_,F_,F_,F_,F_,F_,F_,F_] rfl rfl (any_of HT_.out (by kernel_rfl)) (fun _ _ _ h=>h) (Or.inr ⟨by rfl,rfl⟩) ?_ ?_
   rotate_left
   ·simp only [Act.put,List.setIfInBounds_toArray,List.set_cons_zero,List.set_cons_succ,i64_w,i32_w]
    rfl
   refine pure_ (i:=15) (N:=some 58) (v:=undef) (a':=?_) #[T_,T_,T_,T_,T_,T_,T_,T_,T_,T_,T_,T_,T_,T_,T_,T_,F_,F_,F_,F_,F_,F_,F_,F_,F_,F_,F_,F_,F_] rfl rfl (any_of HT_.out (by kernel_rfl)) (fun _ _ _ h=>h) (Or.inr ⟨by rfl,rfl⟩) ?_ ?_
   rotate_left
   ·simp only [Act.put,List.setIfInBounds_toArray,List.set_cons_zero,List.set_cons_succ,i64_w,i32_w]
    rfl
   refine pure_ (i:=16) (N:=some 59) (v:=undef) (a':=?_) #[T_,T_,T_,T_,T_,T_,T_,T_,T_,T_,T_,T_,T_,T_,T_,T_,T_,F_,F_,F_,F_,F_,F_,F_,F_,F_,F_,F_,F_] rfl rfl (any_of HT_.out (by kernel_rfl)) (fun _ _ _ h=>h) (Or.inr ⟨by rfl,rfl⟩) ?_ ?_
   rotate_left
   ·simp only [Act.put,List.setIfInBounds_toArray,List.set_cons_zero,List.set_cons_succ,i64_w,i32_w]
    rfl
   refine pure_ (i:=17) (N:=some 60) (v:=?_) (a':=?_) #[T_,T_,T_,T_,T_,T_,T_,T_,T_,T_,T_,T_,T_,T_,T_,T_,T_,T_,F_,F_,F_,F_,F_,F_,F_,F_,F_,F_,F_] rfl rfl (any_of HT_.out (by kernel_rfl)) (fun _ _ _ h=>h) (Or.inl ⟨by rfl,?_⟩) ?_ ?_
   rotate_left
   ·intro w'
    go_simp
    with_reducible rfl
   rotate_left
   ·simp only [Act.put,List.setIfInBounds_toArray,List.set_cons_zero,List.set_cons_succ,i64_w,i32_w]
    rfl
   refine pure_ (i:=18) (N:=some 61) (v:=?_) (a':=?_) #[T_,T_,T_,T_,T_,T_,T_,T_,T_,T_,T_,T_,T_,T_,T_,T_,T_,T_,T_,F_,F_,F_,F_,F_,F_,F_,F_,F_,F_] rfl rfl (any_of HT_.out (by kernel_rfl)) (fun _ _ _ h=>h) (Or.inl ⟨by rfl,?_⟩) ?_ ?_
   rotate_left
   ·intro w'
    go_simp
    with_reducible rfl
   rotate_left
   ·simp only [Act.put,List.setIfInBounds_toArray,List.set_cons_zero,List.set_cons_succ,i64_w,i32_w]
    rfl
   refine pure_ (i:=19) (N:=some 62) (v:=undef) (a':=?_) #[T_,T_,T_,T_,T_,T_,T_,T_,T_,T_,T_,T_,T_,T_,T_,T_,T_,T_,T_,T_,F_,F_,F_,F_,F_,F_,F_,F_,F_] rfl rfl (any_of HT_.out (by kernel_rfl)) (fun _ _ _ h=>h) (Or.inr ⟨by rfl,rfl⟩) ?_ ?_
   rotate_left
   ·simp only [Act.put,List.setIfInBounds_toArray,List.set_cons_zero,List.set_cons_succ,i64_w,i32_w]
    rfl
   refine pure_ (i:=20) (N:=some 63) (v:=undef) (a':=?_) #[T_,T_,T_,T_,T_,T_,T_,T_,T_,T_,T_,T_,T_,T_,T_,T_,T_,T_,T_,T_,T_,F_,F_,F_,F_,F_,F_,F_,F_] rfl rfl (any_of HT_.out (by kernel_rfl)) (fun _ _ _ h=>h) (Or.inr ⟨by rfl,rfl⟩) ?_ ?_
   rotate_left
   ·simp only [Act.put,List.setIfInBounds_toArray,List.set_cons_zero,List.set_cons_succ,i64_w,i32_w]
    rfl
   refine pure_ (i:=21) (N:=some 64) (v:=undef) (a':=?_) #[T_,T_,T_,T_,T_,T_,T_,T_,T_,T_,T_,T_,T_,T_,T_,T_,T_,T_,T_,T_,T_,T_,F_,F_,F_,F_,F_,F_,F_] rfl rfl (any_of HT_.out (by kernel_rfl)) (fun _ _ _ h=>h) (Or.inr ⟨by rfl,rfl⟩) ?_ ?_
   rotate_left
   ·simp only [Act.put,List.setIfInBounds_toArray,List.set_cons_zero,List.set_cons_succ,i64_w,i32_w]
    rfl
   refine pure_ (i:=22) (N:=some 65) (v:=?_) (a':=?_) #[T_,T_,T_,T_,T_,T_,T_,T_,T_,T_,T_,T_,T_,T_,T_,T_,T_,T_,T_,T_,T_,T_,T_,F_,F_,F_,F_,F_,F_] rfl rfl (any_of HT_.out (by kernel_rfl)) (fun _ _ _ h=>h) (Or.inl ⟨by rfl,?_⟩) ?_ ?_
   rotate_left
   ·intro w'
    go_simp
    with_reducible rfl
   rotate_left
   ·simp only [Act.put,List.setIfInBounds_toArray,List.set_cons_zero,List.set_cons_succ,i64_w,i32_w]
    rfl
   refine pure_ (i:=23) (N:=some 66) (v:=?_) (a':=?_) #[T_,T_,T_,T_,T_,T_,T_,T_,T_,T_,T_,T_,T_,T_,T_,T_,T_,T_,T_,T_,T_,T_,T_,T_,F_,F_,F_,F_,F_] rfl rfl (any_of HT_.out (by kernel_rfl)) (fun _ _ _ h=>h) (Or.inl ⟨by rfl,?_⟩) ?_ ?_
   rotate_left
   ·intro w'
    go_simp
    with_reducible rfl
   rotate_left
   ·simp only [Act.put,List.setIfInBounds_toArray,List.set_cons_zero,List.set_cons_succ,i64_w,i32_w]
    rfl
   refine pure_ (i:=24) (N:=some 67) (v:=undef) (a':=?_) #[T_,T_,T_,T_,T_,T_,T_,T_,T_,T_,T_,T_,T_,T_,T_,T_,T_,T_,T_,T_,T_,T_,T_,T_,T_,F_,F_,F_,F_] rfl rfl (any_of HT_.out (by kernel_rfl)) (fun _ _ _ h=>h) (Or.inr ⟨by rfl,rfl⟩) ?_ ?_
   rotate_left
   ·simp only [Act.put,List.setIfInBounds_toArray,List.set_cons_zero,List.set_cons_succ,i64_w,i32_w]
    rfl
   refine pure_ (i:=25) (N:=some 68) (v:=undef) (a':=?_) #[T_,T_,T_,T_,T_,T_,T_,T_,T_,T_,T_,T_,T_,T_,T_,T_,T_,T_,T_,T_,T_,T_,T_,T_,T_,T_,F_,F_,F_] rfl rfl (any_of HT_.out (by kernel_rfl)) (fun _ _ _ h=>h) (Or.inr ⟨by rfl,rfl⟩) ?_ ?_
   rotate_left
   ·simp only [Act.put,List.setIfInBounds_toArray,List.set_cons_zero,List.set_cons_succ,i64_w,i32_w]
    rfl
   refine pure_ (i:=26) (N:=some 69) (v:=undef) (a':=?_) #[T_,T_,T_,T_,T_,T_,T_,T_,T_,T_,T_,T_,T_,T_,T_,T_,T_,T_,T_,T_,T_,T_,T_,T_,T_,T_,T_,F_,F_] rfl rfl (any_of HT_.out (by kernel_rfl)) (fun _ _ _ h=>h) (Or.inr ⟨by rfl,rfl⟩) ?_ ?_
   rotate_left
   ·simp only [Act.put,List.setIfInBounds_toArray,List.set_cons_zero,List.set_cons_succ,i64_w,i32_w]
    rfl
   refine pure_ (i:=27) (N:=some 70) (v:=?_) (a':=?_) #[T_,T_,T_,T_,T_,T_,T_,T_,T_,T_,T_,T_,T_,T_,T_,T_,T_,T_,T_,T_,T_,T_,T_,T_,T_,T_,T_,T_,F_] rfl rfl (any_of HT_.out (by kernel_rfl)) (fun _ _ _ h=>h) (Or.inl ⟨by rfl,?_⟩) ?_ ?_
   rotate_left
   ·intro w'
    go_simp
    with_reducible rfl
   rotate_left
   ·simp only [Act.put,List.setIfInBounds_toArray,List.set_cons_zero,List.set_cons_succ,i64_w,i32_w]
    rfl
   refine pure_ (i:=28) (N:=some 6) (v:=?_) (a':=?_) #[T_,T_,T_,T_,T_,T_,T_,T_,T_,T_,T_,T_,T_,T_,T_,T_,T_,T_,T_,T_,T_,T_,T_,T_,T_,T_,T_,T_,T_] rfl rfl (any_of HT_.out (by kernel_rfl)) (fun _ _ _ h=>h) (Or.inl ⟨by rfl,?_⟩) ?_ ?_
   rotate_left
   ·intro w'
    go_simp
    with_reducible rfl
   rotate_left
   ·simp only [Act.put,List.setIfInBounds_toArray,List.set_cons_zero,List.set_cons_succ,i64_w,i32_w]
    rfl
   refine done_ (done_of HT_.out (by kernel_rfl)) ?_
   try go_wp2
   go_ret
   exact ⟨by first | rfl | (simp [errW_none,errW_some] <;> rfl) | (simp [*,errW_none,errW_some] <;> rfl),by repeat (first | (with_reducible first | exact HB.out | apply below_alloc | apply pw_below_drewN | apply below_drew1 | refine below_set ?_ GE208.out) | exact HB.out)⟩
 ·replace c5:=Bool.eq_false_iff.mpr c5
  subst c5
  have H1:(some false)=some r:=by rw [if_neg (show ¬ (false=true) by decide)] at H; exact H
  clear H
  have H:=H1
  clear H1
  obtain rfl:=Option.some.inj H
  go_enter Tryd.func3,Tryd.ntmps3
  go_wp2_with (first | ((with_reducible refine gate_dst (N:=3) rfl ?_); refine box_event ?hg (N:=3) ?hd (cs:=#[.int .i64 a0_0,.int .u64 a0_1,.int .i64 a0_2,.int .u64 a0_3,.bool a0_4,.int .u64 a0_5,.bool a0_6,.int .u64 a0_7,.bool a0_8,.int .u64 a0_9,.bool a0_10,.int .u64 a0_11,.bool a0_12]) (t:=28) ?hr ?_; (case hd=>rfl); (case hg=>rfl); (case hr=>first | (go_simp; done) | (go_simp; rfl)); intro gb208 hg w61 hbox hb; have n0_:=Aside0.mk (below_step (by repeat (first | (with_reducible first | exact HB.out | apply below_alloc | apply pw_below_drewN | apply below_drew1) | exact HB.out)) hb); have n1_:=Aside0.mk (hbox); have n2_:=Aside0.mk ((by rw [hg]; exact (below_size (by repeat (first | (with_reducible first | exact HB.out | apply below_alloc | apply pw_below_drewN | apply below_drew1) | exact HB.out))):w.heap.size≤gb208)); have n3_:=Aside0.mk ((by rw [hg]; exact (below_size (by repeat (first | (with_reducible first | exact HB.out | apply below_alloc | apply pw_below_drewN | apply below_drew1) | exact HB.out))):w.heap.size≤gb208)); clear HB; have HB:=n0_; have BK208:=n1_; have GW208:=n2_; have GE208:=n3_; clear n0_ n1_ n2_ n3_; clear hb hbox hg) | ((with_reducible refine gate_callee (f:=9) rfl ?_); refine goesL_ (some 16) rfl rfl Tryd.func9 (by kernel_rfl) rfl #[] rfl (by (try simp only [List.map_toArray,List.map_cons,List.map_nil]); first | done | rfl | (simp only [List.length_drop,List.length_take]; rfl)) ?_; (with_reducible refine (complinelaw23_works.calls  false _ (hT.keep (by repeat (first | (with_reducible first | exact HB.out | apply below_alloc | apply pw_below_drewN | apply below_drew1 | refine below_set ?_ GE208.out) | exact HB.out))) A4.out).mono ?_); rintro e w62 ⟨rfl,hb⟩; refine ⟨_,rfl,?_⟩; have n0_:=Aside0.mk (blk_below (g:=gb208) (o:=.cells #[.int .i64 a0_0,.int .u64 a0_1,.int .i64 a0_2,.int .u64 a0_3,.bool a0_4,.int .u64 a0_5,.bool a0_6,.int .u64 a0_7,.bool a0_8,.int .u64 a0_9,.bool a0_10,.int .u64 a0_11,.bool a0_12] 28 (0,0)) (by (with_reducible repeat (first | refine blk_drewN ?_ _ | refine blk_drew ?_ | refine blk_alloc ?_ _)); exact BK208.out) hb); have n1_:=Aside0.mk (below_step (by repeat (first | (with_reducible first | exact HB.out | apply below_alloc | apply pw_below_drewN | apply below_drew1 | refine below_set ?_ GE208.out) | exact HB.out)) hb); clear BK208; clear HB; have BK208:=n0_; have HB:=n1_; clear n0_ n1_; (try clear hb); (try clear hb2); (try clear hk); (try clear hi)))
  go_ret
  exact ⟨by first | rfl | (simp [errW_none,errW_some] <;> rfl) | (simp [*,errW_none,errW_some] <;> rfl),by repeat (first | (with_reducible first | exact HB.out | apply below_alloc | apply pw_below_drewN | apply below_drew1 | refine below_set ?_ GE208.out) | exact HB.out)⟩
end Go.Proofs.YtepflnfnkfkldaaDoor.PRea
