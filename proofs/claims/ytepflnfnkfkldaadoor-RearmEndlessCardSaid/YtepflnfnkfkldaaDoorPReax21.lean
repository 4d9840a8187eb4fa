-- Written by a program of this session (gprint.py) over the kit's print.
import Derived.Test.YtepflnfnkfkldaaDoorPReax0
import Derived.Test.YtepflnfnkfkldaaDoorPReax2
import Derived.Test.YtepflnfnkfkldaaDoorPReax6
import Derived.Test.YtepflnfnkfkldaaDoorPReax7
import Derived.Test.YtepflnfnkfkldaaDoorPReax10
import Derived.Test.YtepflnfnkfkldaaDoorPReax11
namespace Go.Proofs.YtepflnfnkfkldaaDoor.PRea
open Go.RowKit Go.Proofs.YtepflnfnkfkldaaDoorW.PrintWords Go.Proofs.YtepflnfnkfkldaaDoorW.PrintLast Go.Proofs.YtepflnfnkfkldaaDoorW.PrintMore
attribute [local go_sem] max2_int min2_int max_two min_two max_three min_three max_four min_four
set_option linter.unusedVariables false
set_option linter.unusedSimpArgs false
attribute [local go_sem high] eqA28
mutual
def complinelaw23_RearmEndless.j0:Nat→Int→Int→Bool→Bool→Int→Int→Int→Int→Bool→Int→Bool→Int→Bool→Int→Bool→Int→Bool→Option (Bool)
 | 0,_,_,_,_,_,_,_,_,_,_,_,_,_,_,_,_,_=>none
 | k+1,x1,x2,x7,x37,x329000,x329001,x329002,x329003,x329004,x329005,x329006,x329007,x329008,x329009,x329010,x329011,x329012=>if x37=true then (some x7) else (complinelaw23_RearmEndless.l0 k x1 x2 x7 x1 0 x329000 x329001 x329002 x329003 x329004 x329005 x329006 x329007 x329008 x329009 x329010 x329011 x329012 1 x329001 0 0 false 0 false 0 false 0 false 0 false)
def complinelaw23_RearmEndless.l0:Nat→Int→Int→Bool→Int→Int→Int→Int→Int→Int→Bool→Int→Bool→Int→Bool→Int→Bool→Int→Bool→Int→Int→Int→Int→Bool→Int→Bool→Int→Bool→Int→Bool→Int→Bool→Option (Bool)
 | 0,_,_,_,_,_,_,_,_,_,_,_,_,_,_,_,_,_,_,_,_,_,_,_,_,_,_,_,_,_,_,_=>none
 | k+1,x1,x2,x7,x9,x10,x329000,x329001,x329002,x329003,x329004,x329005,x329006,x329007,x329008,x329009,x329010,x329011,x329012,x331000,x331001,x331002,x331003,x331004,x331005,x331006,x331007,x331008,x331009,x331010,x331011,x331012=>if x10 < x2 then ((rearm_Again.f x331000 x331001 x331002 x331003 x331004 x331005 x331006 x331007 x331008 x331009 x331010 x331011 x331012 x9 x9).bind fun bt331=>(if bt331.2.2.2.2.2.2.2.2.2.2.2.2.2.2.2=0 then (if (!(bt331.2.1 == x331000) || (!(bt331.2.2.1 == x331001) || (!(bt331.2.2.2.1 == x331002) || (((!(bt331.2.2.2.2.1 == x331003) || (!(bt331.2.2.2.2.2.1 == x331004))) || ((!(bt331.2.2.2.2.2.2.1 == x331005) || (!(bt331.2.2.2.2.2.2.2.1 == x331006))) || ((!(bt331.2.2.2.2.2.2.2.2.1 == x331007) || (!(bt331.2.2.2.2.2.2.2.2.2.1 == x331008))) || ((!(bt331.2.2.2.2.2.2.2.2.2.2.1 == x331009) || (!(bt331.2.2.2.2.2.2.2.2.2.2.2.1 == x331010))) || ((!(bt331.2.2.2.2.2.2.2.2.2.2.2.2.1 == x331011) || (!(bt331.2.2.2.2.2.2.2.2.2.2.2.2.2.1 == x331012))))))))))))=true then (some false) else (if bt331.2.2.2.2.2.2.2.2.2.2.2.2.2.2.1=0 then (if bt331.1=(IntKind.u64.wrap (x9+x329001)) then (complinelaw23_RearmEndless.l0 k x1 x2 x7 bt331.1 (wrap64 (x10+1)) x329000 x329001 x329002 x329003 x329004 x329005 x329006 x329007 x329008 x329009 x329010 x329011 x329012 x331000 x331001 x331002 x331003 x331004 x331005 x331006 x331007 x331008 x331009 x331010 x331011 x331012) else (some false)) else (some false))) else (some false))) else (if x7=true then (some (x9 == (IntKind.u64.wrap (x1+(IntKind.u64.wrap ((IntKind.u64.wrap (x2))*x329001)))))) else (some false))
end
def complinelaw23_RearmEndless.f (k:Nat)(a0_0:Int)(a0_1:Int)(a0_2:Int)(a0_3:Int)(a0_4:Bool)(a0_5:Int)(a0_6:Bool)(a0_7:Int)(a0_8:Bool)(a0_9:Int)(a0_10:Bool)(a0_11:Int)(a0_12:Bool)(a1:Int)(a2:Int):Option (Bool):=(complinelaw23_works.f).bind fun t329=>(if t329=true then (if a2 < 0 then (complinelaw23_RearmEndless.j0 k a1 a2 t329 true a0_0 a0_1 a0_2 a0_3 a0_4 a0_5 a0_6 a0_7 a0_8 a0_9 a0_10 a0_11 a0_12) else (if a2 > 40 then (complinelaw23_RearmEndless.j0 k a1 a2 t329 true a0_0 a0_1 a0_2 a0_3 a0_4 a0_5 a0_6 a0_7 a0_8 a0_9 a0_10 a0_11 a0_12) else (if a0_1=0 then (complinelaw23_RearmEndless.j0 k a1 a2 t329 true a0_0 a0_1 a0_2 a0_3 a0_4 a0_5 a0_6 a0_7 a0_8 a0_9 a0_10 a0_11 a0_12) else (if a0_1 > 1000000 then (complinelaw23_RearmEndless.j0 k a1 a2 t329 true a0_0 a0_1 a0_2 a0_3 a0_4 a0_5 a0_6 a0_7 a0_8 a0_9 a0_10 a0_11 a0_12) else (complinelaw23_RearmEndless.j0 k a1 a2 t329 (decide (a1 > 1000000)) a0_0 a0_1 a0_2 a0_3 a0_4 a0_5 a0_6 a0_7 a0_8 a0_9 a0_10 a0_11 a0_12))))) else (some false))
set_option maxHeartbeats 8000000 in
set_option maxRecDepth 100000 in
theorem complinelaw23_RearmEndless.calls (k:Nat)(a0_0:Int)(a0_1:Int)(a0_2:Int)(a0_3:Int)(a0_4:Bool)(a0_5:Int)(a0_6:Bool)(a0_7:Int)(a0_8:Bool)(a0_9:Int)(a0_10:Bool)(a0_11:Int)(a0_12:Bool)(a1:Int)(a2:Int)(r:Bool)(w:World)(hT:Tab w)(h:complinelaw23_RearmEndless.f k a0_0 a0_1 a0_2 a0_3 a0_4 a0_5 a0_6 a0_7 a0_8 a0_9 a0_10 a0_11 a0_12 a1 a2=some r) :
  Calls Tryd.prog 7 #[.agg #[.int .i64 a0_0,.int .u64 a0_1,.int .i64 a0_2,.int .u64 a0_3,.bool a0_4,.int .u64 a0_5,.bool a0_6,.int .u64 a0_7,.bool a0_8,.int .u64 a0_9,.bool a0_10,.int .u64 a0_11,.bool a0_12],.int .u64 a1,.int .i64 a2] w fun e w'=>e=.returned (.bool r)∧Below w.heap.size w w':=by
 have hu28:=Tryd.underlying28
 have HB:=Aside0.mk (Below.refl w.heap.size w)
 have H:((complinelaw23_works.f).bind fun t329=>(if t329=true then (if a2 < 0 then (complinelaw23_RearmEndless.j0 k a1 a2 t329 true a0_0 a0_1 a0_2 a0_3 a0_4 a0_5 a0_6 a0_7 a0_8 a0_9 a0_10 a0_11 a0_12) else (if a2 > 40 then (complinelaw23_RearmEndless.j0 k a1 a2 t329 true a0_0 a0_1 a0_2 a0_3 a0_4 a0_5 a0_6 a0_7 a0_8 a0_9 a0_10 a0_11 a0_12) else (if a0_1=0 then (complinelaw23_RearmEndless.j0 k a1 a2 t329 true a0_0 a0_1 a0_2 a0_3 a0_4 a0_5 a0_6 a0_7 a0_8 a0_9 a0_10 a0_11 a0_12) else (if a0_1 > 1000000 then (complinelaw23_RearmEndless.j0 k a1 a2 t329 true a0_0 a0_1 a0_2 a0_3 a0_4 a0_5 a0_6 a0_7 a0_8 a0_9 a0_10 a0_11 a0_12) else (complinelaw23_RearmEndless.j0 k a1 a2 t329 (decide (a1 > 1000000)) a0_0 a0_1 a0_2 a0_3 a0_4 a0_5 a0_6 a0_7 a0_8 a0_9 a0_10 a0_11 a0_12))))) else (some false)))=some r:=h
 clear h
 replace H:=Option.bind_eq_some_iff.mp H
 obtain ⟨t329,A40,H⟩ :=H
 replace H:(if t329=true then (if a2 < 0 then (complinelaw23_RearmEndless.j0 k a1 a2 t329 true a0_0 a0_1 a0_2 a0_3 a0_4 a0_5 a0_6 a0_7 a0_8 a0_9 a0_10 a0_11 a0_12) else (if a2 > 40 then (complinelaw23_RearmEndless.j0 k a1 a2 t329 true a0_0 a0_1 a0_2 a0_3 a0_4 a0_5 a0_6 a0_7 a0_8 a0_9 a0_10 a0_11 a0_12) else (if a0_1=0 then (complinelaw23_RearmEndless.j0 k a1 a2 t329 true a0_0 a0_1 a0_2 a0_3 a0_4 a0_5 a0_6 a0_7 a0_8 a0_9 a0_10 a0_11 a0_12) else (if a0_1 > 1000000 then (complinelaw23_RearmEndless.j0 k a1 a2 t329 true a0_0 a0_1 a0_2 a0_3 a0_4 a0_5 a0_6 a0_7 a0_8 a0_9 a0_10 a0_11 a0_12) else (complinelaw23_RearmEndless.j0 k a1 a2 t329 (decide (a1 > 1000000)) a0_0 a0_1 a0_2 a0_3 a0_4 a0_5 a0_6 a0_7 a0_8 a0_9 a0_10 a0_11 a0_12))))) else (some false))=some r:=H
 have A4:=Aside0.mk A40
 clear A40
 by_cases c5:t329=true
 ·subst c5
  have H1:(if a2 < 0 then (complinelaw23_RearmEndless.j0 k a1 a2 true true a0_0 a0_1 a0_2 a0_3 a0_4 a0_5 a0_6 a0_7 a0_8 a0_9 a0_10 a0_11 a0_12) else (if a2 > 40 then (complinelaw23_RearmEndless.j0 k a1 a2 true true a0_0 a0_1 a0_2 a0_3 a0_4 a0_5 a0_6 a0_7 a0_8 a0_9 a0_10 a0_11 a0_12) else (if a0_1=0 then (complinelaw23_RearmEndless.j0 k a1 a2 true true a0_0 a0_1 a0_2 a0_3 a0_4 a0_5 a0_6 a0_7 a0_8 a0_9 a0_10 a0_11 a0_12) else (if a0_1 > 1000000 then (complinelaw23_RearmEndless.j0 k a1 a2 true true a0_0 a0_1 a0_2 a0_3 a0_4 a0_5 a0_6 a0_7 a0_8 a0_9 a0_10 a0_11 a0_12) else (complinelaw23_RearmEndless.j0 k a1 a2 true (decide (a1 > 1000000)) a0_0 a0_1 a0_2 a0_3 a0_4 a0_5 a0_6 a0_7 a0_8 a0_9 a0_10 a0_11 a0_12)))))=some r:=by first | (rw [if_pos rfl] at H; exact H) | (rw [if_pos trivial] at H; exact H)
  clear H
  have H:=H1
  clear H1
  have HC6:=Aside0.mk H
  clear H
  go_enter Tryd.func7,Tryd.ntmps7
  go_upto_region 4 with (first | ((with_reducible refine gate_dst (N:=3) rfl ?_); refine box_event ?hg (N:=3) ?hd (cs:=#[.int .i64 a0_0,.int .u64 a0_1,.int .i64 a0_2,.int .u64 a0_3,.bool a0_4,.int .u64 a0_5,.bool a0_6,.int .u64 a0_7,.bool a0_8,.int .u64 a0_9,.bool a0_10,.int .u64 a0_11,.bool a0_12]) (t:=28) ?hr ?_; (case hd=>rfl); (case hg=>rfl); (case hr=>first | (go_simp; done) | (go_simp; rfl)); intro gb328 hg w7 hbox hb; have n0_:=Aside0.mk (below_step (by repeat (first | (with_reducible first | exact HB.out | apply below_alloc | apply pw_below_drewN | apply below_drew1) | exact HB.out)) hb); have n1_:=Aside0.mk (hbox); have n2_:=Aside0.mk ((by rw [hg]; exact (below_size (by repeat (first | (with_reducible first | exact HB.out | apply below_alloc | apply pw_below_drewN | apply below_drew1) | exact HB.out))):w.heap.size≤gb328)); have n3_:=Aside0.mk ((by rw [hg]; exact (below_size (by repeat (first | (with_reducible first | exact HB.out | apply below_alloc | apply pw_below_drewN | apply below_drew1) | exact HB.out))):w.heap.size≤gb328)); clear HB; have HB:=n0_; have BK328:=n1_; have GW328:=n2_; have GE328:=n3_; clear n0_ n1_ n2_ n3_; clear hb hbox hg) | ((with_reducible refine gate_callee (f:=9) rfl ?_); refine goesL_ (some 15) rfl rfl Tryd.func9 (by kernel_rfl) rfl #[] rfl (by (try simp only [List.map_toArray,List.map_cons,List.map_nil]); first | done | rfl | (simp only [List.length_drop,List.length_take]; rfl)) ?_; (with_reducible refine (complinelaw23_works.calls  true _ (hT.keep (by repeat (first | (with_reducible first | exact HB.out | apply below_alloc | apply pw_below_drewN | apply below_drew1 | refine below_set ?_ GE328.out | refine below_set ?_ GE330.out | refine below_set ?_ GE347.out) | exact HB.out))) A4.out).mono ?_); rintro e w8 ⟨rfl,hb⟩; refine ⟨_,rfl,?_⟩; have n0_:=Aside0.mk (blk_below (g:=gb328) (o:=.cells #[.int .i64 a0_0,.int .u64 a0_1,.int .i64 a0_2,.int .u64 a0_3,.bool a0_4,.int .u64 a0_5,.bool a0_6,.int .u64 a0_7,.bool a0_8,.int .u64 a0_9,.bool a0_10,.int .u64 a0_11,.bool a0_12] 28 (0,0)) (by (with_reducible repeat (first | refine blk_drewN ?_ _ | refine blk_drew ?_ | refine blk_alloc ?_ _)); exact BK328.out) hb); have n1_:=Aside0.mk (below_step (by repeat (first | (with_reducible first | exact HB.out | apply below_alloc | apply pw_below_drewN | apply below_drew1 | refine below_set ?_ GE328.out) | exact HB.out)) hb); clear BK328; clear HB; have BK328:=n0_; have HB:=n1_; clear n0_ n1_; (try clear hb); (try clear hb2); (try clear hk); (try clear hi)))
  (try simp only [Act.put,List.setIfInBounds_toArray,List.set_cons_zero,List.set_cons_succ])
  go_cut [37] (fun v37 wc=>∃ (kq:Nat) (x37_5:Bool),v37=.bool x37_5∧Aside0 (complinelaw23_RearmEndless.j0 kq a1 a2 true x37_5 a0_0 a0_1 a0_2 a0_3 a0_4 a0_5 a0_6 a0_7 a0_8 a0_9 a0_10 a0_11 a0_12=some r)∧Aside0 (kq≤k)∧Aside0 (wc.heap[gb328]?=some (.cells #[.int .i64 a0_0,.int .u64 a0_1,.int .i64 a0_2,.int .u64 a0_3,.bool a0_4,.int .u64 a0_5,.bool a0_6,.int .u64 a0_7,.bool a0_8,.int .u64 a0_9,.bool a0_10,.int .u64 a0_11,.bool a0_12] 28 (0,0)))∧Aside0 (Below w.heap.size w wc))
  case first=>
   have H:=HC6.out
   clear HC6
   by_cases c9:a2 < 0
   ·rw [if_pos c9] at H
    have c9b0:decide (a2 < 0)=true:=decide_eq_true c9
    clear c9
    (first | rw [c9b0] | (simp only [i64_w,i32_w]; rw [c9b0]) | skip)
    have H':=Aside0.mk H
    clear H
    go_wp2
    go_meet
    case rel=>exact ⟨_,(true),(by first | rfl | (simp; done) | (simp [*]; done)),H',⟨by first | omega | exact Nat.le_refl _⟩,⟨by (with_reducible repeat (first | refine blk_drewN ?_ _ | refine blk_drew ?_ | refine blk_alloc ?_ _)); exact BK328.out⟩,⟨by repeat (first | (with_reducible first | exact HB.out | apply below_alloc | apply pw_below_drewN | apply below_drew1 | refine below_set ?_ GE328.out) | exact HB.out)⟩⟩
   ·rw [if_neg c9] at H
    have c9b0:decide (a2 < 0)=false:=decide_eq_false c9
    clear c9
    (first | rw [c9b0] | (simp only [i64_w,i32_w]; rw [c9b0]) | skip)
    by_cases c10:a2 > 40
    ·rw [if_pos c10] at H
     have c10b0:decide (40 < a2)=true:=decide_eq_true c10
     clear c10
     have H':=Aside0.mk H
     clear H
     go_wp2
     go_meet
     case rel=>exact ⟨_,(true),(by first | rfl | (simp; done) | (simp [*]; done)),H',⟨by first | omega | exact Nat.le_refl _⟩,⟨by (with_reducible repeat (first | refine blk_drewN ?_ _ | refine blk_drew ?_ | refine blk_alloc ?_ _)); exact BK328.out⟩,⟨by repeat (first | (with_reducible first | exact HB.out | apply below_alloc | apply pw_below_drewN | apply below_drew1 | refine below_set ?_ GE328.out) | exact HB.out)⟩⟩
    ·rw [if_neg c10] at H
     have c10b0:decide (40 < a2)=false:=decide_eq_false c10
     clear c10
     by_cases c11:a0_1=0
     ·rw [if_pos c11] at H
      have c11b0:(a0_1 == 0)=true:=beq_iff_eq.mpr c11
      have c11b1:(a0_1 != 0)=false:=bne_eq_false_iff_eq.mpr c11
      clear c11
      have H':=Aside0.mk H
      clear H
      have hcz12_0:w8.cell? ⟨gb328,0,none⟩=some (.int .i64 a0_0):=(blk_cell BK328.out 0).trans rfl
      have hcz12_1:w8.cell? ⟨gb328,1,none⟩=some (.int .u64 a0_1):=(blk_cell BK328.out 1).trans rfl
      have hcz12_2:w8.cell? ⟨gb328,2,none⟩=some (.int .i64 a0_2):=(blk_cell BK328.out 2).trans rfl
      have hcz12_3:w8.cell? ⟨gb328,3,none⟩=some (.int .u64 a0_3):=(blk_cell BK328.out 3).trans rfl
      have hcz12_4:w8.cell? ⟨gb328,4,none⟩=some (.bool a0_4):=(blk_cell BK328.out 4).trans rfl
      have hcz12_5:w8.cell? ⟨gb328,5,none⟩=some (.int .u64 a0_5):=(blk_cell BK328.out 5).trans rfl
      have hcz12_6:w8.cell? ⟨gb328,6,none⟩=some (.bool a0_6):=(blk_cell BK328.out 6).trans rfl
      have hcz12_7:w8.cell? ⟨gb328,7,none⟩=some (.int .u64 a0_7):=(blk_cell BK328.out 7).trans rfl
      have hcz12_8:w8.cell? ⟨gb328,8,none⟩=some (.bool a0_8):=(blk_cell BK328.out 8).trans rfl
      have hcz12_9:w8.cell? ⟨gb328,9,none⟩=some (.int .u64 a0_9):=(blk_cell BK328.out 9).trans rfl
      have hcz12_10:w8.cell? ⟨gb328,10,none⟩=some (.bool a0_10):=(blk_cell BK328.out 10).trans rfl
      have hcz12_11:w8.cell? ⟨gb328,11,none⟩=some (.int .u64 a0_11):=(blk_cell BK328.out 11).trans rfl
      have hcz12_12:w8.cell? ⟨gb328,12,none⟩=some (.bool a0_12):=(blk_cell BK328.out 12).trans rfl
      have hfz12_0:=blk_frozen BK328.out 0
      have hfz12_1:=blk_frozen BK328.out 1
      have hfz12_2:=blk_frozen BK328.out 2
      have hfz12_3:=blk_frozen BK328.out 3
      have hfz12_4:=blk_frozen BK328.out 4
      have hfz12_5:=blk_frozen BK328.out 5
      have hfz12_6:=blk_frozen BK328.out 6
      have hfz12_7:=blk_frozen BK328.out 7
      have hfz12_8:=blk_frozen BK328.out 8
      have hfz12_9:=blk_frozen BK328.out 9
      have hfz12_10:=blk_frozen BK328.out 10
      have hfz12_11:=blk_frozen BK328.out 11
      have hfz12_12:=blk_frozen BK328.out 12
      go_wp2
      go_meet
      case rel=>exact ⟨_,(true),(by first | rfl | (simp; done) | (simp [*]; done)),H',⟨by first | omega | exact Nat.le_refl _⟩,⟨by (with_reducible repeat (first | refine blk_drewN ?_ _ | refine blk_drew ?_ | refine blk_alloc ?_ _)); exact BK328.out⟩,⟨by repeat (first | (with_reducible first | exact HB.out | apply below_alloc | apply pw_below_drewN | apply below_drew1 | refine below_set ?_ GE328.out) | exact HB.out)⟩⟩
     ·rw [if_neg c11] at H
      have c11b0:(a0_1 == 0)=false:=beq_eq_false_iff_ne.mpr c11
      have c11b1:(a0_1 != 0)=true:=bne_iff_ne.mpr c11
      by_cases c13:a0_1 > 1000000
      ·rw [if_pos c13] at H
       have c13b0:decide (1000000 < a0_1)=true:=decide_eq_true c13
       clear c13
       have H':=Aside0.mk H
       clear H
       have hcz14_0:w8.cell? ⟨gb328,0,none⟩=some (.int .i64 a0_0):=(blk_cell BK328.out 0).trans rfl
       have hcz14_1:w8.cell? ⟨gb328,1,none⟩=some (.int .u64 a0_1):=(blk_cell BK328.out 1).trans rfl
       have hcz14_2:w8.cell? ⟨gb328,2,none⟩=some (.int .i64 a0_2):=(blk_cell BK328.out 2).trans rfl
       have hcz14_3:w8.cell? ⟨gb328,3,none⟩=some (.int .u64 a0_3):=(blk_cell BK328.out 3).trans rfl
       have hcz14_4:w8.cell? ⟨gb328,4,none⟩=some (.bool a0_4):=(blk_cell BK328.out 4).trans rfl
       have hcz14_5:w8.cell? ⟨gb328,5,none⟩=some (.int .u64 a0_5):=(blk_cell BK328.out 5).trans rfl
       have hcz14_6:w8.cell? ⟨gb328,6,none⟩=some (.bool a0_6):=(blk_cell BK328.out 6).trans rfl
       have hcz14_7:w8.cell? ⟨gb328,7,none⟩=some (.int .u64 a0_7):=(blk_cell BK328.out 7).trans rfl
       have hcz14_8:w8.cell? ⟨gb328,8,none⟩=some (.bool a0_8):=(blk_cell BK328.out 8).trans rfl
       have hcz14_9:w8.cell? ⟨gb328,9,none⟩=some (.int .u64 a0_9):=(blk_cell BK328.out 9).trans rfl
       have hcz14_10:w8.cell? ⟨gb328,10,none⟩=some (.bool a0_10):=(blk_cell BK328.out 10).trans rfl
       have hcz14_11:w8.cell? ⟨gb328,11,none⟩=some (.int .u64 a0_11):=(blk_cell BK328.out 11).trans rfl
       have hcz14_12:w8.cell? ⟨gb328,12,none⟩=some (.bool a0_12):=(blk_cell BK328.out 12).trans rfl
       have hfz14_0:=blk_frozen BK328.out 0
       have hfz14_1:=blk_frozen BK328.out 1
       have hfz14_2:=blk_frozen BK328.out 2
       have hfz14_3:=blk_frozen BK328.out 3
       have hfz14_4:=blk_frozen BK328.out 4
       have hfz14_5:=blk_frozen BK328.out 5
       have hfz14_6:=blk_frozen BK328.out 6
       have hfz14_7:=blk_frozen BK328.out 7
       have hfz14_8:=blk_frozen BK328.out 8
       have hfz14_9:=blk_frozen BK328.out 9
       have hfz14_10:=blk_frozen BK328.out 10
       have hfz14_11:=blk_frozen BK328.out 11
       have hfz14_12:=blk_frozen BK328.out 12
       go_wp2
       go_meet
       case rel=>exact ⟨_,(true),(by first | rfl | (simp; done) | (simp [*]; done)),H',⟨by first | omega | exact Nat.le_refl _⟩,⟨by (with_reducible repeat (first | refine blk_drewN ?_ _ | refine blk_drew ?_ | refine blk_alloc ?_ _)); exact BK328.out⟩,⟨by repeat (first | (with_reducible first | exact HB.out | apply below_alloc | apply pw_below_drewN | apply below_drew1 | refine below_set ?_ GE328.out) | exact HB.out)⟩⟩
      ·rw [if_neg c13] at H
       have c13b0:decide (1000000 < a0_1)=false:=decide_eq_false c13
       clear c13
       have H':=Aside0.mk H
       clear H
       have hcz15_0:w8.cell? ⟨gb328,0,none⟩=some (.int .i64 a0_0):=(blk_cell BK328.out 0).trans rfl
       have hcz15_1:w8.cell? ⟨gb328,1,none⟩=some (.int .u64 a0_1):=(blk_cell BK328.out 1).trans rfl
       have hcz15_2:w8.cell? ⟨gb328,2,none⟩=some (.int .i64 a0_2):=(blk_cell BK328.out 2).trans rfl
       have hcz15_3:w8.cell? ⟨gb328,3,none⟩=some (.int .u64 a0_3):=(blk_cell BK328.out 3).trans rfl
       have hcz15_4:w8.cell? ⟨gb328,4,none⟩=some (.bool a0_4):=(blk_cell BK328.out 4).trans rfl
       have hcz15_5:w8.cell? ⟨gb328,5,none⟩=some (.int .u64 a0_5):=(blk_cell BK328.out 5).trans rfl
       have hcz15_6:w8.cell? ⟨gb328,6,none⟩=some (.bool a0_6):=(blk_cell BK328.out 6).trans rfl
       have hcz15_7:w8.cell? ⟨gb328,7,none⟩=some (.int .u64 a0_7):=(blk_cell BK328.out 7).trans rfl
       have hcz15_8:w8.cell? ⟨gb328,8,none⟩=some (.bool a0_8):=(blk_cell BK328.out 8).trans rfl
       have hcz15_9:w8.cell? ⟨gb328,9,none⟩=some (.int .u64 a0_9):=(blk_cell BK328.out 9).trans rfl
       have hcz15_10:w8.cell? ⟨gb328,10,none⟩=some (.bool a0_10):=(blk_cell BK328.out 10).trans rfl
       have hcz15_11:w8.cell? ⟨gb328,11,none⟩=some (.int .u64 a0_11):=(blk_cell BK328.out 11).trans rfl
       have hcz15_12:w8.cell? ⟨gb328,12,none⟩=some (.bool a0_12):=(blk_cell BK328.out 12).trans rfl
       have hfz15_0:=blk_frozen BK328.out 0
       have hfz15_1:=blk_frozen BK328.out 1
       have hfz15_2:=blk_frozen BK328.out 2
       have hfz15_3:=blk_frozen BK328.out 3
       have hfz15_4:=blk_frozen BK328.out 4
       have hfz15_5:=blk_frozen BK328.out 5
       have hfz15_6:=blk_frozen BK328.out 6
       have hfz15_7:=blk_frozen BK328.out 7
       have hfz15_8:=blk_frozen BK328.out 8
       have hfz15_9:=blk_frozen BK328.out 9
       have hfz15_10:=blk_frozen BK328.out 10
       have hfz15_11:=blk_frozen BK328.out 11
       have hfz15_12:=blk_frozen BK328.out 12
       go_wp2
       go_meet
       case rel=>exact ⟨_,(decide (a1 > 1000000)),(by first | rfl | (simp; done) | (simp [*]; done)),H',⟨by first | omega | exact Nat.le_refl _⟩,⟨by (with_reducible repeat (first | refine blk_drewN ?_ _ | refine blk_drew ?_ | refine blk_alloc ?_ _)); exact BK328.out⟩,⟨by repeat (first | (with_reducible first | exact HB.out | apply below_alloc | apply pw_below_drewN | apply below_drew1 | refine below_set ?_ GE328.out) | exact HB.out)⟩⟩
  case rest=>
   clear HC6
   try clear c1
   try clear p2
   try clear c5
   try clear c7
   try clear c9
   try clear c9b0
   try clear c10
   try clear c10b0
   try clear c11
   try clear c11b0
   try clear c11b1
   try clear c13
   try clear c13b0
   try clear hcz12_0
   try clear hcz12_1
   try clear hcz12_10
   try clear hcz12_11
   try clear hcz12_12
   try clear hcz12_2
   try clear hcz12_3
   try clear hcz12_4
   try clear hcz12_5
   try clear hcz12_6
   try clear hcz12_7
   try clear hcz12_8
   try clear hcz12_9
   try clear hcz14_0
   try clear hcz14_1
   try clear hcz14_10
   try clear hcz14_11
   try clear hcz14_12
   try clear hcz14_2
   try clear hcz14_3
   try clear hcz14_4
   try clear hcz14_5
   try clear hcz14_6
   try clear hcz14_7
   try clear hcz14_8
   try clear hcz14_9
   try clear hcz15_0
   try clear hcz15_1
   try clear hcz15_10
   try clear hcz15_11
   try clear hcz15_12
   try clear hcz15_2
   try clear hcz15_3
   try clear hcz15_4
   try clear hcz15_5
   try clear hcz15_6
   try clear hcz15_7
   try clear hcz15_8
   try clear hcz15_9
   try clear hfz12_0
   try clear hfz12_1
   try clear hfz12_10
   try clear hfz12_11
   try clear hfz12_12
   try clear hfz12_2
   try clear hfz12_3
   try clear hfz12_4
   try clear hfz12_5
   try clear hfz12_6
   try clear hfz12_7
   try clear hfz12_8
   try clear hfz12_9
   try clear hfz14_0
   try clear hfz14_1
   try clear hfz14_10
   try clear hfz14_11
   try clear hfz14_12
   try clear hfz14_2
   try clear hfz14_3
   try clear hfz14_4
   try clear hfz14_5
   try clear hfz14_6
   try clear hfz14_7
   try clear hfz14_8
   try clear hfz14_9
   try clear hfz15_0
   try clear hfz15_1
   try clear hfz15_10
   try clear hfz15_11
   try clear hfz15_12
   try clear hfz15_2
   try clear hfz15_3
   try clear hfz15_4
   try clear hfz15_5
   try clear hfz15_6
   try clear hfz15_7
   try clear hfz15_8
   try clear hfz15_9
   obtain ⟨kq,x37_5,rfl,HA,HJ5,BK328,HB⟩ :=hcut
   cases kq with
   | zero=>exact absurd HA.out (by simp [complinelaw23_RearmEndless.j0])
   | succ kj5=>
    have H:=HA.out
    clear HA
    simp only [complinelaw23_RearmEndless.j0] at H
    by_cases c16:x37_5=true
    ·subst c16
     have H1:(some true)=some r:=by first | (rw [if_pos rfl] at H; exact H) | (rw [if_pos trivial] at H; exact H)
     clear H
     have H:=H1
     clear H1
     obtain rfl:=Option.some.inj H
     go_wp2
     go_ret
     exact ⟨by first | rfl | (simp [errW_none,errW_some] <;> rfl) | (simp [*,errW_none,errW_some] <;> rfl),by repeat (first | (with_reducible first | exact HB.out | apply below_alloc | apply pw_below_drewN | apply below_drew1 | refine below_set ?_ GE328.out) | exact HB.out)⟩
    ·replace c16:=Bool.eq_false_iff.mpr c16
     subst c16
     have H1:(complinelaw23_RearmEndless.l0 kj5 a1 a2 true a1 0 a0_0 a0_1 a0_2 a0_3 a0_4 a0_5 a0_6 a0_7 a0_8 a0_9 a0_10 a0_11 a0_12 1 a0_1 0 0 false 0 false 0 false 0 false 0 false)=some r:=by rw [if_neg (show ¬ (false=true) by decide)] at H; exact H
     clear H
     have H:=H1
     clear H1
     have H':=Aside0.mk H
     clear H
     have hcz17_0:wc.cell? ⟨gb328,0,none⟩=some (.int .i64 a0_0):=(blk_cell BK328.out 0).trans rfl
     have hcz17_1:wc.cell? ⟨gb328,1,none⟩=some (.int .u64 a0_1):=(blk_cell BK328.out 1).trans rfl
     have hcz17_2:wc.cell? ⟨gb328,2,none⟩=some (.int .i64 a0_2):=(blk_cell BK328.out 2).trans rfl
     have hcz17_3:wc.cell? ⟨gb328,3,none⟩=some (.int .u64 a0_3):=(blk_cell BK328.out 3).trans rfl
     have hcz17_4:wc.cell? ⟨gb328,4,none⟩=some (.bool a0_4):=(blk_cell BK328.out 4).trans rfl
     have hcz17_5:wc.cell? ⟨gb328,5,none⟩=some (.int .u64 a0_5):=(blk_cell BK328.out 5).trans rfl
     have hcz17_6:wc.cell? ⟨gb328,6,none⟩=some (.bool a0_6):=(blk_cell BK328.out 6).trans rfl
     have hcz17_7:wc.cell? ⟨gb328,7,none⟩=some (.int .u64 a0_7):=(blk_cell BK328.out 7).trans rfl
     have hcz17_8:wc.cell? ⟨gb328,8,none⟩=some (.bool a0_8):=(blk_cell BK328.out 8).trans rfl
     have hcz17_9:wc.cell? ⟨gb328,9,none⟩=some (.int .u64 a0_9):=(blk_cell BK328.out 9).trans rfl
     have hcz17_10:wc.cell? ⟨gb328,10,none⟩=some (.bool a0_10):=(blk_cell BK328.out 10).trans rfl
     have hcz17_11:wc.cell? ⟨gb328,11,none⟩=some (.int .u64 a0_11):=(blk_cell BK328.out 11).trans rfl
     have hcz17_12:wc.cell? ⟨gb328,12,none⟩=some (.bool a0_12):=(blk_cell BK328.out 12).trans rfl
     have hfz17_0:=blk_frozen BK328.out 0
     have hfz17_1:=blk_frozen BK328.out 1
     have hfz17_2:=blk_frozen BK328.out 2
     have hfz17_3:=blk_frozen BK328.out 3
     have hfz17_4:=blk_frozen BK328.out 4
     have hfz17_5:=blk_frozen BK328.out 5
     have hfz17_6:=blk_frozen BK328.out 6
     have hfz17_7:=blk_frozen BK328.out 7
     have hfz17_8:=blk_frozen BK328.out 8
     have hfz17_9:=blk_frozen BK328.out 9
     have hfz17_10:=blk_frozen BK328.out 10
     have hfz17_11:=blk_frozen BK328.out 11
     have hfz17_12:=blk_frozen BK328.out 12
     go_wp2_with (first | ((with_reducible refine gate_dst (N:=8) rfl ?_); refine box_event ?hg (N:=8) ?hd (cs:=#[.int .i64 0,.int .u64 0,.int .i64 0,.int .u64 0,.bool false,.int .u64 0,.bool false,.int .u64 0,.bool false,.int .u64 0,.bool false,.int .u64 0,.bool false]) (t:=28) ?hr ?_; (case hd=>rfl); (case hg=>rfl); (case hr=>first | (go_simp; done) | (go_simp; rfl)); intro gb330 hg w18 hbox hb; have n0_:=Aside0.mk (blk_below (g:=gb328) (o:=.cells #[.int .i64 a0_0,.int .u64 a0_1,.int .i64 a0_2,.int .u64 a0_3,.bool a0_4,.int .u64 a0_5,.bool a0_6,.int .u64 a0_7,.bool a0_8,.int .u64 a0_9,.bool a0_10,.int .u64 a0_11,.bool a0_12] 28 (0,0)) (by (with_reducible repeat (first | refine blk_drewN ?_ _ | refine blk_drew ?_ | refine blk_alloc ?_ _)); exact BK328.out) hb); have n1_:=Aside0.mk (below_step (by repeat (first | (with_reducible first | exact HB.out | apply below_alloc | apply pw_below_drewN | apply below_drew1 | refine below_set ?_ GE328.out) | exact HB.out)) hb); have n2_:=Aside0.mk (hbox); have n3_:=Aside0.mk ((by rw [hg]; exact (below_size (by repeat (first | (with_reducible first | exact HB.out | apply below_alloc | apply pw_below_drewN | apply below_drew1 | refine below_set ?_ GE328.out) | exact HB.out))):w.heap.size≤gb330)); have n4_:=Aside0.mk ((by rw [hg]; exact (below_size (by repeat (first | (with_reducible first | exact HB.out | apply below_alloc | apply pw_below_drewN | apply below_drew1 | refine below_set ?_ GE328.out) | exact HB.out))):w.heap.size≤gb330)); have n5_:=Aside0.mk ((by rw [hg]; exact Nat.ne_of_lt (blk_lt (g:=gb328) (o:=.cells #[.int .i64 a0_0,.int .u64 a0_1,.int .i64 a0_2,.int .u64 a0_3,.bool a0_4,.int .u64 a0_5,.bool a0_6,.int .u64 a0_7,.bool a0_8,.int .u64 a0_9,.bool a0_10,.int .u64 a0_11,.bool a0_12] 28 (0,0)) (by (with_reducible repeat (first | refine blk_drewN ?_ _ | refine blk_drew ?_ | refine blk_alloc ?_ _)); exact BK328.out)):gb328≠gb330)); have n6_:=Aside0.mk ((by rw [hg]; exact Nat.ne_of_gt (blk_lt (g:=gb328) (o:=.cells #[.int .i64 a0_0,.int .u64 a0_1,.int .i64 a0_2,.int .u64 a0_3,.bool a0_4,.int .u64 a0_5,.bool a0_6,.int .u64 a0_7,.bool a0_8,.int .u64 a0_9,.bool a0_10,.int .u64 a0_11,.bool a0_12] 28 (0,0)) (by (with_reducible repeat (first | refine blk_drewN ?_ _ | refine blk_drew ?_ | refine blk_alloc ?_ _)); exact BK328.out)):gb330≠gb328)); clear BK328; clear HB; have BK328:=n0_; have HB:=n1_; have BK330:=n2_; have GW330:=n3_; have GE330:=n4_; have NB328_330:=n5_; have NB330_328:=n6_; clear n0_ n1_ n2_ n3_ n4_ n5_ n6_; clear hb hbox hg; have hnb19:=NB330_328.out; have hnc19:=NB328_330.out; have hcz20_0:w18.cell? ⟨gb330,0,none⟩=some (.int .i64 0):=(blk_cell BK330.out 0).trans rfl; have hcz20_1:w18.cell? ⟨gb330,1,none⟩=some (.int .u64 0):=(blk_cell BK330.out 1).trans rfl; have hcz20_2:w18.cell? ⟨gb330,2,none⟩=some (.int .i64 0):=(blk_cell BK330.out 2).trans rfl; have hcz20_3:w18.cell? ⟨gb330,3,none⟩=some (.int .u64 0):=(blk_cell BK330.out 3).trans rfl; have hcz20_4:w18.cell? ⟨gb330,4,none⟩=some (.bool false):=(blk_cell BK330.out 4).trans rfl; have hcz20_5:w18.cell? ⟨gb330,5,none⟩=some (.int .u64 0):=(blk_cell BK330.out 5).trans rfl; have hcz20_6:w18.cell? ⟨gb330,6,none⟩=some (.bool false):=(blk_cell BK330.out 6).trans rfl; have hcz20_7:w18.cell? ⟨gb330,7,none⟩=some (.int .u64 0):=(blk_cell BK330.out 7).trans rfl; have hcz20_8:w18.cell? ⟨gb330,8,none⟩=some (.bool false):=(blk_cell BK330.out 8).trans rfl; have hcz20_9:w18.cell? ⟨gb330,9,none⟩=some (.int .u64 0):=(blk_cell BK330.out 9).trans rfl; have hcz20_10:w18.cell? ⟨gb330,10,none⟩=some (.bool false):=(blk_cell BK330.out 10).trans rfl; have hcz20_11:w18.cell? ⟨gb330,11,none⟩=some (.int .u64 0):=(blk_cell BK330.out 11).trans rfl; have hcz20_12:w18.cell? ⟨gb330,12,none⟩=some (.bool false):=(blk_cell BK330.out 12).trans rfl; have hfz20_0:=blk_frozen BK330.out 0; have hfz20_1:=blk_frozen BK330.out 1; have hfz20_2:=blk_frozen BK330.out 2; have hfz20_3:=blk_frozen BK330.out 3; have hfz20_4:=blk_frozen BK330.out 4; have hfz20_5:=blk_frozen BK330.out 5; have hfz20_6:=blk_frozen BK330.out 6; have hfz20_7:=blk_frozen BK330.out 7; have hfz20_8:=blk_frozen BK330.out 8; have hfz20_9:=blk_frozen BK330.out 9; have hfz20_10:=blk_frozen BK330.out 10; have hfz20_11:=blk_frozen BK330.out 11; have hfz20_12:=blk_frozen BK330.out 12))
     go_loopg [9,10] kj5 (fun kq v9 v10 w'=>∃ (x9_2:Int) (x10_2:Int),v9=.int .u64 x9_2∧v10=.int .i64 x10_2∧Aside0 (complinelaw23_RearmEndless.l0 kq a1 a2 true x9_2 x10_2 a0_0 a0_1 a0_2 a0_3 a0_4 a0_5 a0_6 a0_7 a0_8 a0_9 a0_10 a0_11 a0_12 1 a0_1 0 0 false 0 false 0 false 0 false 0 false=some r)∧Aside0 (kq≤kj5)∧Aside0 (w'.heap[gb328]?=some (.cells #[.int .i64 a0_0,.int .u64 a0_1,.int .i64 a0_2,.int .u64 a0_3,.bool a0_4,.int .u64 a0_5,.bool a0_6,.int .u64 a0_7,.bool a0_8,.int .u64 a0_9,.bool a0_10,.int .u64 a0_11,.bool a0_12] 28 (0,0)))∧Aside0 (w'.heap[gb330]?=some (.cells #[.int .i64 1,.int .u64 a0_1,.int .i64 0,.int .u64 0,.bool false,.int .u64 0,.bool false,.int .u64 0,.bool false,.int .u64 0,.bool false,.int .u64 0,.bool false] 28 (0,0)))∧Aside0 (Below w.heap.size w w'))
     case atStart=>exact ⟨(a1),(0),(by first | rfl | (simp; done) | (simp [*]; done)),(by first | rfl | (simp; done) | (simp [*]; done)),H',⟨Nat.le_refl _⟩,⟨by (with_reducible repeat (first | refine blk_drewN ?_ _ | refine blk_drew ?_ | refine blk_alloc ?_ _)); refine blk_far ?_ NB328_330.out _; (with_reducible repeat (first | refine blk_drewN ?_ _ | refine blk_drew ?_ | refine blk_alloc ?_ _)); refine blk_far ?_ NB328_330.out _; (with_reducible repeat (first | refine blk_drewN ?_ _ | refine blk_drew ?_ | refine blk_alloc ?_ _)); refine blk_far ?_ NB328_330.out _; (with_reducible repeat (first | refine blk_drewN ?_ _ | refine blk_drew ?_ | refine blk_alloc ?_ _)); refine blk_far ?_ NB328_330.out _; (with_reducible repeat (first | refine blk_drewN ?_ _ | refine blk_drew ?_ | refine blk_alloc ?_ _)); refine blk_far ?_ NB328_330.out _; (with_reducible repeat (first | refine blk_drewN ?_ _ | refine blk_drew ?_ | refine blk_alloc ?_ _)); refine blk_far ?_ NB328_330.out _; (with_reducible repeat (first | refine blk_drewN ?_ _ | refine blk_drew ?_ | refine blk_alloc ?_ _)); refine blk_far ?_ NB328_330.out _; (with_reducible repeat (first | refine blk_drewN ?_ _ | refine blk_drew ?_ | refine blk_alloc ?_ _)); refine blk_far ?_ NB328_330.out _; (with_reducible repeat (first | refine blk_drewN ?_ _ | refine blk_drew ?_ | refine blk_alloc ?_ _)); refine blk_far ?_ NB328_330.out _; (with_reducible repeat (first | refine blk_drewN ?_ _ | refine blk_drew ?_ | refine blk_alloc ?_ _)); refine blk_far ?_ NB328_330.out _; (with_reducible repeat (first | refine blk_drewN ?_ _ | refine blk_drew ?_ | refine blk_alloc ?_ _)); refine blk_far ?_ NB328_330.out _; (with_reducible repeat (first | refine blk_drewN ?_ _ | refine blk_drew ?_ | refine blk_alloc ?_ _)); refine blk_far ?_ NB328_330.out _; (with_reducible repeat (first | refine blk_drewN ?_ _ | refine blk_drew ?_ | refine blk_alloc ?_ _)); refine blk_far ?_ NB328_330.out _; (with_reducible repeat (first | refine blk_drewN ?_ _ | refine blk_drew ?_ | refine blk_alloc ?_ _)); exact BK328.out⟩,⟨by (with_reducible repeat (first | refine blk_drewN ?_ _ | refine blk_drew ?_ | refine blk_alloc ?_ _)); refine blk_put (cs:=#[.int .i64 1,.int .u64 a0_1,.int .i64 0,.int .u64 0,.bool false,.int .u64 0,.bool false,.int .u64 0,.bool false,.int .u64 0,.bool false,.int .u64 0,.bool false]) ?_ 12 _ rfl; (with_reducible repeat (first | refine blk_drewN ?_ _ | refine blk_drew ?_ | refine blk_alloc ?_ _)); refine blk_put (cs:=#[.int .i64 1,.int .u64 a0_1,.int .i64 0,.int .u64 0,.bool false,.int .u64 0,.bool false,.int .u64 0,.bool false,.int .u64 0,.bool false,.int .u64 0,.bool false]) ?_ 11 _ rfl; (with_reducible repeat (first | refine blk_drewN ?_ _ | refine blk_drew ?_ | refine blk_alloc ?_ _)); refine blk_put (cs:=#[.int .i64 1,.int .u64 a0_1,.int .i64 0,.int .u64 0,.bool false,.int .u64 0,.bool false,.int .u64 0,.bool false,.int .u64 0,.bool false,.int .u64 0,.bool false]) ?_ 10 _ rfl; (with_reducible repeat (first | refine blk_drewN ?_ _ | refine blk_drew ?_ | refine blk_alloc ?_ _)); refine blk_put (cs:=#[.int .i64 1,.int .u64 a0_1,.int .i64 0,.int .u64 0,.bool false,.int .u64 0,.bool false,.int .u64 0,.bool false,.int .u64 0,.bool false,.int .u64 0,.bool false]) ?_ 9 _ rfl; (with_reducible repeat (first | refine blk_drewN ?_ _ | refine blk_drew ?_ | refine blk_alloc ?_ _)); refine blk_put (cs:=#[.int .i64 1,.int .u64 a0_1,.int .i64 0,.int .u64 0,.bool false,.int .u64 0,.bool false,.int .u64 0,.bool false,.int .u64 0,.bool false,.int .u64 0,.bool false]) ?_ 8 _ rfl; (with_reducible repeat (first | refine blk_drewN ?_ _ | refine blk_drew ?_ | refine blk_alloc ?_ _)); refine blk_put (cs:=#[.int .i64 1,.int .u64 a0_1,.int .i64 0,.int .u64 0,.bool false,.int .u64 0,.bool false,.int .u64 0,.bool false,.int .u64 0,.bool false,.int .u64 0,.bool false]) ?_ 7 _ rfl; (with_reducible repeat (first | refine blk_drewN ?_ _ | refine blk_drew ?_ | refine blk_alloc ?_ _)); refine blk_put (cs:=#[.int .i64 1,.int .u64 a0_1,.int .i64 0,.int .u64 0,.bool false,.int .u64 0,.bool false,.int .u64 0,.bool false,.int .u64 0,.bool false,.int .u64 0,.bool false]) ?_ 6 _ rfl; (with_reducible repeat (first | refine blk_drewN ?_ _ | refine blk_drew ?_ | refine blk_alloc ?_ _)); refine blk_put (cs:=#[.int .i64 1,.int .u64 a0_1,.int .i64 0,.int .u64 0,.bool false,.int .u64 0,.bool false,.int .u64 0,.bool false,.int .u64 0,.bool false,.int .u64 0,.bool false]) ?_ 5 _ rfl; (with_reducible repeat (first | refine blk_drewN ?_ _ | refine blk_drew ?_ | refine blk_alloc ?_ _)); refine blk_put (cs:=#[.int .i64 1,.int .u64 a0_1,.int .i64 0,.int .u64 0,.bool false,.int .u64 0,.bool false,.int .u64 0,.bool false,.int .u64 0,.bool false,.int .u64 0,.bool false]) ?_ 4 _ rfl; (with_reducible repeat (first | refine blk_drewN ?_ _ | refine blk_drew ?_ | refine blk_alloc ?_ _)); refine blk_put (cs:=#[.int .i64 1,.int .u64 a0_1,.int .i64 0,.int .u64 0,.bool false,.int .u64 0,.bool false,.int .u64 0,.bool false,.int .u64 0,.bool false,.int .u64 0,.bool false]) ?_ 3 _ rfl; (with_reducible repeat (first | refine blk_drewN ?_ _ | refine blk_drew ?_ | refine blk_alloc ?_ _)); refine blk_put (cs:=#[.int .i64 1,.int .u64 a0_1,.int .i64 0,.int .u64 0,.bool false,.int .u64 0,.bool false,.int .u64 0,.bool false,.int .u64 0,.bool false,.int .u64 0,.bool false]) ?_ 2 _ rfl; (with_reducible repeat (first | refine blk_drewN ?_ _ | refine blk_drew ?_ | refine blk_alloc ?_ _)); refine blk_put (cs:=#[.int .i64 1,.int .u64 0,.int .i64 0,.int .u64 0,.bool false,.int .u64 0,.bool false,.int .u64 0,.bool false,.int .u64 0,.bool false,.int .u64 0,.bool false]) ?_ 1 _ rfl; (with_reducible repeat (first | refine blk_drewN ?_ _ | refine blk_drew ?_ | refine blk_alloc ?_ _)); refine blk_put (cs:=#[.int .i64 0,.int .u64 0,.int .i64 0,.int .u64 0,.bool false,.int .u64 0,.bool false,.int .u64 0,.bool false,.int .u64 0,.bool false,.int .u64 0,.bool false]) ?_ 0 _ rfl; (with_reducible repeat (first | refine blk_drewN ?_ _ | refine blk_drew ?_ | refine blk_alloc ?_ _)); exact BK330.out⟩,⟨by repeat (first | (with_reducible first | exact HB.out | apply below_alloc | apply pw_below_drewN | apply below_drew1 | refine below_set ?_ GE328.out | refine below_set ?_ GE330.out) | exact HB.out)⟩⟩
     case round=>
      clear H'
      try clear c1
      try clear p2
      try clear c5
      try clear c7
      try clear c9
      try clear c9b0
      try clear c10
      try clear c10b0
      try clear c11
      try clear c11b0
      try clear c11b1
      try clear c13
      try clear c13b0
      try clear c16
      try clear c19
      try clear hcz12_0
      try clear hcz12_1
      try clear hcz12_10
      try clear hcz12_11
      try clear hcz12_12
      try clear hcz12_2
      try clear hcz12_3
      try clear hcz12_4
      try clear hcz12_5
      try clear hcz12_6
      try clear hcz12_7
      try clear hcz12_8
      try clear hcz12_9
      try clear hcz14_0
      try clear hcz14_1
      try clear hcz14_10
      try clear hcz14_11
      try clear hcz14_12
      try clear hcz14_2
      try clear hcz14_3
      try clear hcz14_4
      try clear hcz14_5
      try clear hcz14_6
      try clear hcz14_7
      try clear hcz14_8
      try clear hcz14_9
      try clear hcz15_0
      try clear hcz15_1
      try clear hcz15_10
      try clear hcz15_11
      try clear hcz15_12
      try clear hcz15_2
      try clear hcz15_3
      try clear hcz15_4
      try clear hcz15_5
      try clear hcz15_6
      try clear hcz15_7
      try clear hcz15_8
      try clear hcz15_9
      try clear hcz17_0
      try clear hcz17_1
      try clear hcz17_10
      try clear hcz17_11
      try clear hcz17_12
      try clear hcz17_2
      try clear hcz17_3
      try clear hcz17_4
      try clear hcz17_5
      try clear hcz17_6
      try clear hcz17_7
      try clear hcz17_8
      try clear hcz17_9
      try clear hcz20_0
      try clear hcz20_1
      try clear hcz20_10
      try clear hcz20_11
      try clear hcz20_12
      try clear hcz20_2
      try clear hcz20_3
      try clear hcz20_4
      try clear hcz20_5
      try clear hcz20_6
      try clear hcz20_7
      try clear hcz20_8
      try clear hcz20_9
      try clear hfz12_0
      try clear hfz12_1
      try clear hfz12_10
      try clear hfz12_11
      try clear hfz12_12
      try clear hfz12_2
      try clear hfz12_3
      try clear hfz12_4
      try clear hfz12_5
      try clear hfz12_6
      try clear hfz12_7
      try clear hfz12_8
      try clear hfz12_9
      try clear hfz14_0
      try clear hfz14_1
      try clear hfz14_10
      try clear hfz14_11
      try clear hfz14_12
      try clear hfz14_2
      try clear hfz14_3
      try clear hfz14_4
      try clear hfz14_5
      try clear hfz14_6
      try clear hfz14_7
      try clear hfz14_8
      try clear hfz14_9
      try clear hfz15_0
      try clear hfz15_1
      try clear hfz15_10
      try clear hfz15_11
      try clear hfz15_12
      try clear hfz15_2
      try clear hfz15_3
      try clear hfz15_4
      try clear hfz15_5
      try clear hfz15_6
      try clear hfz15_7
      try clear hfz15_8
      try clear hfz15_9
      try clear hfz17_0
      try clear hfz17_1
      try clear hfz17_10
      try clear hfz17_11
      try clear hfz17_12
      try clear hfz17_2
      try clear hfz17_3
      try clear hfz17_4
      try clear hfz17_5
      try clear hfz17_6
      try clear hfz17_7
      try clear hfz17_8
      try clear hfz17_9
      try clear hfz20_0
      try clear hfz20_1
      try clear hfz20_10
      try clear hfz20_11
      try clear hfz20_12
      try clear hfz20_2
      try clear hfz20_3
      try clear hfz20_4
      try clear hfz20_5
      try clear hfz20_6
      try clear hfz20_7
      try clear hfz20_8
      try clear hfz20_9
      try clear p2
      obtain ⟨x9_2,x10_2,rfl,rfl,HA,HK2,BK328,BK330,HB⟩ :=hrel
      cases gk with
      | zero=>exact absurd HA.out (by simp [complinelaw23_RearmEndless.l0])
      | succ k2=>
       have H:=HA.out
       clear HA
       simp only [complinelaw23_RearmEndless.l0] at H
       by_cases c21:x10_2 < a2
       ·rw [if_pos c21] at H
        have c21b0:decide (x10_2 < a2)=true:=decide_eq_true c21
        clear c21
        replace H:=Option.bind_eq_some_iff.mp H
        obtain ⟨⟨t331,t332,t333,t334,t335,t336,t337,t338,t339,t340,t341,t342,t343,t344,t345,t346⟩,A220,H⟩ :=H
        replace H:(if t346=0 then (if (!(t332 == 1) || (!(t333 == a0_1) || (!(t334 == 0) || (((!(t335 == 0) || (!(t336 == false))) || ((!(t337 == 0) || (!(t338 == false))) || ((!(t339 == 0) || (!(t340 == false))) || ((!(t341 == 0) || (!(t342 == false))) || ((!(t343 == 0) || (!(t344 == false))))))))))))=true then (some false) else (if t345=0 then (if t331=(IntKind.u64.wrap (x9_2+a0_1)) then (complinelaw23_RearmEndless.l0 k2 a1 a2 true t331 (wrap64 (x10_2+1)) a0_0 a0_1 a0_2 a0_3 a0_4 a0_5 a0_6 a0_7 a0_8 a0_9 a0_10 a0_11 a0_12 1 a0_1 0 0 false 0 false 0 false 0 false 0 false) else (some false)) else (some false))) else (some false))=some r:=H
        have A22:=Aside0.mk A220
        clear A220
        by_cases c23:t346=0
        ·rw [if_pos c23] at H
         have c23b0:(t346 == 0)=true:=beq_iff_eq.mpr c23
         have c23b1:(t346 != 0)=false:=bne_eq_false_iff_eq.mpr c23
         clear c23
         by_cases c24:(!(t332 == 1) || (!(t333 == a0_1) || (!(t334 == 0) || (((!(t335 == 0) || (!(t336 == false))) || ((!(t337 == 0) || (!(t338 == false))) || ((!(t339 == 0) || (!(t340 == false))) || ((!(t341 == 0) || (!(t342 == false))) || ((!(t343 == 0) || (!(t344 == false))))))))))))=true
         ·rw [if_pos c24] at H
          have c24b0:(!(t332 == 1) || (!(t333 == a0_1) || (!(t334 == 0) || (((!(t335 == 0) || (!(t336 == false))) || ((!(t337 == 0) || (!(t338 == false))) || ((!(t339 == 0) || (!(t340 == false))) || ((!(t341 == 0) || (!(t342 == false))) || ((!(t343 == 0) || (!(t344 == false))))))))))))=true:=c24
          (try (have c24n:=c24b0; simp only [beq_false,Bool.not_not] at c24n))
          clear c24
          obtain rfl:=Option.some.inj H
          have hnb25:=NB330_328.out
          have hnc25:=NB328_330.out
          have hcz26_0:wr.cell? ⟨gb330,0,none⟩=some (.int .i64 1):=(blk_cell BK330.out 0).trans rfl
          have hcz26_1:wr.cell? ⟨gb330,1,none⟩=some (.int .u64 a0_1):=(blk_cell BK330.out 1).trans rfl
          have hcz26_2:wr.cell? ⟨gb330,2,none⟩=some (.int .i64 0):=(blk_cell BK330.out 2).trans rfl
          have hcz26_3:wr.cell? ⟨gb330,3,none⟩=some (.int .u64 0):=(blk_cell BK330.out 3).trans rfl
          have hcz26_4:wr.cell? ⟨gb330,4,none⟩=some (.bool false):=(blk_cell BK330.out 4).trans rfl
          have hcz26_5:wr.cell? ⟨gb330,5,none⟩=some (.int .u64 0):=(blk_cell BK330.out 5).trans rfl
          have hcz26_6:wr.cell? ⟨gb330,6,none⟩=some (.bool false):=(blk_cell BK330.out 6).trans rfl
          have hcz26_7:wr.cell? ⟨gb330,7,none⟩=some (.int .u64 0):=(blk_cell BK330.out 7).trans rfl
          have hcz26_8:wr.cell? ⟨gb330,8,none⟩=some (.bool false):=(blk_cell BK330.out 8).trans rfl
          have hcz26_9:wr.cell? ⟨gb330,9,none⟩=some (.int .u64 0):=(blk_cell BK330.out 9).trans rfl
          have hcz26_10:wr.cell? ⟨gb330,10,none⟩=some (.bool false):=(blk_cell BK330.out 10).trans rfl
          have hcz26_11:wr.cell? ⟨gb330,11,none⟩=some (.int .u64 0):=(blk_cell BK330.out 11).trans rfl
          have hcz26_12:wr.cell? ⟨gb330,12,none⟩=some (.bool false):=(blk_cell BK330.out 12).trans rfl
          have hfz26_0:=blk_frozen BK330.out 0
          have hfz26_1:=blk_frozen BK330.out 1
          have hfz26_2:=blk_frozen BK330.out 2
          have hfz26_3:=blk_frozen BK330.out 3
          have hfz26_4:=blk_frozen BK330.out 4
          have hfz26_5:=blk_frozen BK330.out 5
          have hfz26_6:=blk_frozen BK330.out 6
          have hfz26_7:=blk_frozen BK330.out 7
          have hfz26_8:=blk_frozen BK330.out 8
          have hfz26_9:=blk_frozen BK330.out 9
          have hfz26_10:=blk_frozen BK330.out 10
          have hfz26_11:=blk_frozen BK330.out 11
          have hfz26_12:=blk_frozen BK330.out 12
          go_wp2_with (first | ((with_reducible refine gate_callee (f:=16) rfl ?_); refine goesL_ (some 52) rfl rfl Tryd.func16 (by kernel_rfl) rfl #[.agg #[.int .i64 1,.int .u64 a0_1,.int .i64 0,.int .u64 0,.bool false,.int .u64 0,.bool false,.int .u64 0,.bool false,.int .u64 0,.bool false,.int .u64 0,.bool false],.int .u64 x9_2,.int .u64 x9_2] rfl (by (try simp only [List.map_toArray,List.map_cons,List.map_nil]); first | done | rfl | (simp only [List.length_drop,List.length_take]; rfl)) ?_; (with_reducible refine (rearm_Again.calls 1 a0_1 0 0 false 0 false 0 false 0 false 0 false x9_2 x9_2 t331 t332 t333 t334 t335 t336 t337 t338 t339 t340 t341 t342 t343 t344 t345 t346 _ (hT.keep (by repeat (first | (with_reducible first | exact HB.out | apply below_alloc | apply pw_below_drewN | apply below_drew1 | refine below_set ?_ GE328.out | refine below_set ?_ GE330.out | refine below_set ?_ GE347.out) | exact HB.out))) A22.out).mono ?_); rintro e w27 ⟨rfl,hb⟩; refine ⟨_,rfl,?_⟩; have n0_:=Aside0.mk (blk_below (g:=gb328) (o:=.cells #[.int .i64 a0_0,.int .u64 a0_1,.int .i64 a0_2,.int .u64 a0_3,.bool a0_4,.int .u64 a0_5,.bool a0_6,.int .u64 a0_7,.bool a0_8,.int .u64 a0_9,.bool a0_10,.int .u64 a0_11,.bool a0_12] 28 (0,0)) (by (with_reducible repeat (first | refine blk_drewN ?_ _ | refine blk_drew ?_ | refine blk_alloc ?_ _)); exact BK328.out) hb); have n1_:=Aside0.mk (blk_below (g:=gb330) (o:=.cells #[.int .i64 1,.int .u64 a0_1,.int .i64 0,.int .u64 0,.bool false,.int .u64 0,.bool false,.int .u64 0,.bool false,.int .u64 0,.bool false,.int .u64 0,.bool false] 28 (0,0)) (by (with_reducible repeat (first | refine blk_drewN ?_ _ | refine blk_drew ?_ | refine blk_alloc ?_ _)); exact BK330.out) hb); have n2_:=Aside0.mk (below_step (by repeat (first | (with_reducible first | exact HB.out | apply below_alloc | apply pw_below_drewN | apply below_drew1 | refine below_set ?_ GE328.out | refine below_set ?_ GE330.out) | exact HB.out)) hb); clear BK328; clear BK330; clear HB; have BK328:=n0_; have BK330:=n1_; have HB:=n2_; clear n0_ n1_ n2_; (try clear hb); (try clear hb2); (try clear hk); (try clear hi)) | ((with_reducible refine gate_dst (N:=12) rfl ?_); refine box_event ?hg (N:=12) ?hd (cs:=#[.int .i64 0,.int .u64 0,.int .i64 0,.int .u64 0,.bool false,.int .u64 0,.bool false,.int .u64 0,.bool false,.int .u64 0,.bool false,.int .u64 0,.bool false]) (t:=28) ?hr ?_; (case hd=>rfl); (case hg=>rfl); (case hr=>first | (go_simp; done) | (go_simp; rfl)); intro gb347 hg w28 hbox hb; have n0_:=Aside0.mk (blk_below (g:=gb328) (o:=.cells #[.int .i64 a0_0,.int .u64 a0_1,.int .i64 a0_2,.int .u64 a0_3,.bool a0_4,.int .u64 a0_5,.bool a0_6,.int .u64 a0_7,.bool a0_8,.int .u64 a0_9,.bool a0_10,.int .u64 a0_11,.bool a0_12] 28 (0,0)) (by (with_reducible repeat (first | refine blk_drewN ?_ _ | refine blk_drew ?_ | refine blk_alloc ?_ _)); exact BK328.out) hb); have n1_:=Aside0.mk (blk_below (g:=gb330) (o:=.cells #[.int .i64 1,.int .u64 a0_1,.int .i64 0,.int .u64 0,.bool false,.int .u64 0,.bool false,.int .u64 0,.bool false,.int .u64 0,.bool false,.int .u64 0,.bool false] 28 (0,0)) (by (with_reducible repeat (first | refine blk_drewN ?_ _ | refine blk_drew ?_ | refine blk_alloc ?_ _)); exact BK330.out) hb); have n2_:=Aside0.mk (below_step (by repeat (first | (with_reducible first | exact HB.out | apply below_alloc | apply pw_below_drewN | apply below_drew1 | refine below_set ?_ GE328.out | refine below_set ?_ GE330.out) | exact HB.out)) hb); have n3_:=Aside0.mk (hbox); have n4_:=Aside0.mk ((by rw [hg]; exact (below_size (by repeat (first | (with_reducible first | exact HB.out | apply below_alloc | apply pw_below_drewN | apply below_drew1 | refine below_set ?_ GE328.out | refine below_set ?_ GE330.out) | exact HB.out))):w.heap.size≤gb347)); have n5_:=Aside0.mk ((by rw [hg]; exact (below_size (by repeat (first | (with_reducible first | exact HB.out | apply below_alloc | apply pw_below_drewN | apply below_drew1 | refine below_set ?_ GE328.out | refine below_set ?_ GE330.out) | exact HB.out))):w.heap.size≤gb347)); have n6_:=Aside0.mk ((by rw [hg]; exact Nat.ne_of_lt (blk_lt (g:=gb328) (o:=.cells #[.int .i64 a0_0,.int .u64 a0_1,.int .i64 a0_2,.int .u64 a0_3,.bool a0_4,.int .u64 a0_5,.bool a0_6,.int .u64 a0_7,.bool a0_8,.int .u64 a0_9,.bool a0_10,.int .u64 a0_11,.bool a0_12] 28 (0,0)) (by (with_reducible repeat (first | refine blk_drewN ?_ _ | refine blk_drew ?_ | refine blk_alloc ?_ _)); exact BK328.out)):gb328≠gb347)); have n7_:=Aside0.mk ((by rw [hg]; exact Nat.ne_of_gt (blk_lt (g:=gb328) (o:=.cells #[.int .i64 a0_0,.int .u64 a0_1,.int .i64 a0_2,.int .u64 a0_3,.bool a0_4,.int .u64 a0_5,.bool a0_6,.int .u64 a0_7,.bool a0_8,.int .u64 a0_9,.bool a0_10,.int .u64 a0_11,.bool a0_12] 28 (0,0)) (by (with_reducible repeat (first | refine blk_drewN ?_ _ | refine blk_drew ?_ | refine blk_alloc ?_ _)); exact BK328.out)):gb347≠gb328)); have n8_:=Aside0.mk ((by rw [hg]; exact Nat.ne_of_lt (blk_lt (g:=gb330) (o:=.cells #[.int .i64 1,.int .u64 a0_1,.int .i64 0,.int .u64 0,.bool false,.int .u64 0,.bool false,.int .u64 0,.bool false,.int .u64 0,.bool false,.int .u64 0,.bool false] 28 (0,0)) (by (with_reducible repeat (first | refine blk_drewN ?_ _ | refine blk_drew ?_ | refine blk_alloc ?_ _)); exact BK330.out)):gb330≠gb347)); have n9_:=Aside0.mk ((by rw [hg]; exact Nat.ne_of_gt (blk_lt (g:=gb330) (o:=.cells #[.int .i64 1,.int .u64 a0_1,.int .i64 0,.int .u64 0,.bool false,.int .u64 0,.bool false,.int .u64 0,.bool false,.int .u64 0,.bool false,.int .u64 0,.bool false] 28 (0,0)) (by (with_reducible repeat (first | refine blk_drewN ?_ _ | refine blk_drew ?_ | refine blk_alloc ?_ _)); exact BK330.out)):gb347≠gb330)); clear BK328; clear BK330; clear HB; have BK328:=n0_; have BK330:=n1_; have HB:=n2_; have BK347:=n3_; have GW347:=n4_; have GE347:=n5_; have NB328_347:=n6_; have NB347_328:=n7_; have NB330_347:=n8_; have NB347_330:=n9_; clear n0_ n1_ n2_ n3_ n4_ n5_ n6_ n7_ n8_ n9_; clear hb hbox hg; have hnb29:=NB347_328.out; have hnc29:=NB328_347.out; have hnb30:=NB347_330.out; have hnc30:=NB330_347.out; have hcz31_0:w28.cell? ⟨gb347,0,none⟩=some (.int .i64 0):=(blk_cell BK347.out 0).trans rfl; have hcz31_1:w28.cell? ⟨gb347,1,none⟩=some (.int .u64 0):=(blk_cell BK347.out 1).trans rfl; have hcz31_2:w28.cell? ⟨gb347,2,none⟩=some (.int .i64 0):=(blk_cell BK347.out 2).trans rfl; have hcz31_3:w28.cell? ⟨gb347,3,none⟩=some (.int .u64 0):=(blk_cell BK347.out 3).trans rfl; have hcz31_4:w28.cell? ⟨gb347,4,none⟩=some (.bool false):=(blk_cell BK347.out 4).trans rfl; have hcz31_5:w28.cell? ⟨gb347,5,none⟩=some (.int .u64 0):=(blk_cell BK347.out 5).trans rfl; have hcz31_6:w28.cell? ⟨gb347,6,none⟩=some (.bool false):=(blk_cell BK347.out 6).trans rfl; have hcz31_7:w28.cell? ⟨gb347,7,none⟩=some (.int .u64 0):=(blk_cell BK347.out 7).trans rfl; have hcz31_8:w28.cell? ⟨gb347,8,none⟩=some (.bool false):=(blk_cell BK347.out 8).trans rfl; have hcz31_9:w28.cell? ⟨gb347,9,none⟩=some (.int .u64 0):=(blk_cell BK347.out 9).trans rfl; have hcz31_10:w28.cell? ⟨gb347,10,none⟩=some (.bool false):=(blk_cell BK347.out 10).trans rfl; have hcz31_11:w28.cell? ⟨gb347,11,none⟩=some (.int .u64 0):=(blk_cell BK347.out 11).trans rfl; have hcz31_12:w28.cell? ⟨gb347,12,none⟩=some (.bool false):=(blk_cell BK347.out 12).trans rfl; have hfz31_0:=blk_frozen BK347.out 0; have hfz31_1:=blk_frozen BK347.out 1; have hfz31_2:=blk_frozen BK347.out 2; have hfz31_3:=blk_frozen BK347.out 3; have hfz31_4:=blk_frozen BK347.out 4; have hfz31_5:=blk_frozen BK347.out 5; have hfz31_6:=blk_frozen BK347.out 6; have hfz31_7:=blk_frozen BK347.out 7; have hfz31_8:=blk_frozen BK347.out 8; have hfz31_9:=blk_frozen BK347.out 9; have hfz31_10:=blk_frozen BK347.out 10; have hfz31_11:=blk_frozen BK347.out 11; have hfz31_12:=blk_frozen BK347.out 12; have hcz32_0:w28.cell? ⟨gb330,0,none⟩=some (.int .i64 1):=(blk_cell BK330.out 0).trans rfl; have hcz32_1:w28.cell? ⟨gb330,1,none⟩=some (.int .u64 a0_1):=(blk_cell BK330.out 1).trans rfl; have hcz32_2:w28.cell? ⟨gb330,2,none⟩=some (.int .i64 0):=(blk_cell BK330.out 2).trans rfl; have hcz32_3:w28.cell? ⟨gb330,3,none⟩=some (.int .u64 0):=(blk_cell BK330.out 3).trans rfl; have hcz32_4:w28.cell? ⟨gb330,4,none⟩=some (.bool false):=(blk_cell BK330.out 4).trans rfl; have hcz32_5:w28.cell? ⟨gb330,5,none⟩=some (.int .u64 0):=(blk_cell BK330.out 5).trans rfl; have hcz32_6:w28.cell? ⟨gb330,6,none⟩=some (.bool false):=(blk_cell BK330.out 6).trans rfl; have hcz32_7:w28.cell? ⟨gb330,7,none⟩=some (.int .u64 0):=(blk_cell BK330.out 7).trans rfl; have hcz32_8:w28.cell? ⟨gb330,8,none⟩=some (.bool false):=(blk_cell BK330.out 8).trans rfl; have hcz32_9:w28.cell? ⟨gb330,9,none⟩=some (.int .u64 0):=(blk_cell BK330.out 9).trans rfl; have hcz32_10:w28.cell? ⟨gb330,10,none⟩=some (.bool false):=(blk_cell BK330.out 10).trans rfl; have hcz32_11:w28.cell? ⟨gb330,11,none⟩=some (.int .u64 0):=(blk_cell BK330.out 11).trans rfl; have hcz32_12:w28.cell? ⟨gb330,12,none⟩=some (.bool false):=(blk_cell BK330.out 12).trans rfl; have hfz32_0:=blk_frozen BK330.out 0; have hfz32_1:=blk_frozen BK330.out 1; have hfz32_2:=blk_frozen BK330.out 2; have hfz32_3:=blk_frozen BK330.out 3; have hfz32_4:=blk_frozen BK330.out 4; have hfz32_5:=blk_frozen BK330.out 5; have hfz32_6:=blk_frozen BK330.out 6; have hfz32_7:=blk_frozen BK330.out 7; have hfz32_8:=blk_frozen BK330.out 8; have hfz32_9:=blk_frozen BK330.out 9; have hfz32_10:=blk_frozen BK330.out 10; have hfz32_11:=blk_frozen BK330.out 11; have hfz32_12:=blk_frozen BK330.out 12))
          go_ret
          exact ⟨by first | rfl | (simp [errW_none,errW_some] <;> rfl) | (simp [*,errW_none,errW_some] <;> rfl),by repeat (first | (with_reducible first | exact HB.out | apply below_alloc | apply pw_below_drewN | apply below_drew1 | refine below_set ?_ GE328.out | refine below_set ?_ GE330.out | refine below_set ?_ GE347.out) | exact HB.out)⟩
         ·rw [if_neg c24] at H
          have c24b0:(!(t332 == 1) || (!(t333 == a0_1) || (!(t334 == 0) || (((!(t335 == 0) || (!(t336 == false))) || ((!(t337 == 0) || (!(t338 == false))) || ((!(t339 == 0) || (!(t340 == false))) || ((!(t341 == 0) || (!(t342 == false))) || ((!(t343 == 0) || (!(t344 == false))))))))))))=false:=by simpa using c24
          (try (have c24n:=c24b0; simp only [beq_false,Bool.not_not] at c24n))
          clear c24
          by_cases c33:t345=0
          ·rw [if_pos c33] at H
           have c33b0:(t345 == 0)=true:=beq_iff_eq.mpr c33
           have c33b1:(t345 != 0)=false:=bne_eq_false_iff_eq.mpr c33
           clear c33
           by_cases c34:t331=(IntKind.u64.wrap (x9_2+a0_1))
           ·rw [if_pos c34] at H
            have c34b0:(t331 == (IntKind.u64.wrap (x9_2+a0_1)))=true:=beq_iff_eq.mpr c34
            have c34b1:(t331 != (IntKind.u64.wrap (x9_2+a0_1)))=false:=bne_eq_false_iff_eq.mpr c34
            clear c34
            have H':=Aside0.mk H
            clear H
            have hnb35:=NB330_328.out
            have hnc35:=NB328_330.out
            have hcz36_0:wr.cell? ⟨gb330,0,none⟩=some (.int .i64 1):=(blk_cell BK330.out 0).trans rfl
            have hcz36_1:wr.cell? ⟨gb330,1,none⟩=some (.int .u64 a0_1):=(blk_cell BK330.out 1).trans rfl
            have hcz36_2:wr.cell? ⟨gb330,2,none⟩=some (.int .i64 0):=(blk_cell BK330.out 2).trans rfl
            have hcz36_3:wr.cell? ⟨gb330,3,none⟩=some (.int .u64 0):=(blk_cell BK330.out 3).trans rfl
            have hcz36_4:wr.cell? ⟨gb330,4,none⟩=some (.bool false):=(blk_cell BK330.out 4).trans rfl
            have hcz36_5:wr.cell? ⟨gb330,5,none⟩=some (.int .u64 0):=(blk_cell BK330.out 5).trans rfl
            have hcz36_6:wr.cell? ⟨gb330,6,none⟩=some (.bool false):=(blk_cell BK330.out 6).trans rfl
            have hcz36_7:wr.cell? ⟨gb330,7,none⟩=some (.int .u64 0):=(blk_cell BK330.out 7).trans rfl
            have hcz36_8:wr.cell? ⟨gb330,8,none⟩=some (.bool false):=(blk_cell BK330.out 8).trans rfl
            have hcz36_9:wr.cell? ⟨gb330,9,none⟩=some (.int .u64 0):=(blk_cell BK330.out 9).trans rfl
            have hcz36_10:wr.cell? ⟨gb330,10,none⟩=some (.bool false):=(blk_cell BK330.out 10).trans rfl
            have hcz36_11:wr.cell? ⟨gb330,11,none⟩=some (.int .u64 0):=(blk_cell BK330.out 11).trans rfl
            have hcz36_12:wr.cell? ⟨gb330,12,none⟩=some (.bool false):=(blk_cell BK330.out 12).trans rfl
            have hfz36_0:=blk_frozen BK330.out 0
            have hfz36_1:=blk_frozen BK330.out 1
            have hfz36_2:=blk_frozen BK330.out 2
            have hfz36_3:=blk_frozen BK330.out 3
            have hfz36_4:=blk_frozen BK330.out 4
            have hfz36_5:=blk_frozen BK330.out 5
            have hfz36_6:=blk_frozen BK330.out 6
            have hfz36_7:=blk_frozen BK330.out 7
            have hfz36_8:=blk_frozen BK330.out 8
            have hfz36_9:=blk_frozen BK330.out 9
            have hfz36_10:=blk_frozen BK330.out 10
            have hfz36_11:=blk_frozen BK330.out 11
            have hfz36_12:=blk_frozen BK330.out 12
            go_wp2_with (first | ((with_reducible refine gate_callee (f:=16) rfl ?_); refine goesL_ (some 52) rfl rfl Tryd.func16 (by kernel_rfl) rfl #[.agg #[.int .i64 1,.int .u64 a0_1,.int .i64 0,.int .u64 0,.bool false,.int .u64 0,.bool false,.int .u64 0,.bool false,.int .u64 0,.bool false,.int .u64 0,.bool false],.int .u64 x9_2,.int .u64 x9_2] rfl (by (try simp only [List.map_toArray,List.map_cons,List.map_nil]); first | done | rfl | (simp only [List.length_drop,List.length_take]; rfl)) ?_; (with_reducible refine (rearm_Again.calls 1 a0_1 0 0 false 0 false 0 false 0 false 0 false x9_2 x9_2 t331 t332 t333 t334 t335 t336 t337 t338 t339 t340 t341 t342 t343 t344 t345 t346 _ (hT.keep (by repeat (first | (with_reducible first | exact HB.out | apply below_alloc | apply pw_below_drewN | apply below_drew1 | refine below_set ?_ GE328.out | refine below_set ?_ GE330.out | refine below_set ?_ GE347.out) | exact HB.out))) A22.out).mono ?_); rintro e w37 ⟨rfl,hb⟩; refine ⟨_,rfl,?_⟩; have n0_:=Aside0.mk (blk_below (g:=gb328) (o:=.cells #[.int .i64 a0_0,.int .u64 a0_1,.int .i64 a0_2,.int .u64 a0_3,.bool a0_4,.int .u64 a0_5,.bool a0_6,.int .u64 a0_7,.bool a0_8,.int .u64 a0_9,.bool a0_10,.int .u64 a0_11,.bool a0_12] 28 (0,0)) (by (with_reducible repeat (first | refine blk_drewN ?_ _ | refine blk_drew ?_ | refine blk_alloc ?_ _)); exact BK328.out) hb); have n1_:=Aside0.mk (blk_below (g:=gb330) (o:=.cells #[.int .i64 1,.int .u64 a0_1,.int .i64 0,.int .u64 0,.bool false,.int .u64 0,.bool false,.int .u64 0,.bool false,.int .u64 0,.bool false,.int .u64 0,.bool false] 28 (0,0)) (by (with_reducible repeat (first | refine blk_drewN ?_ _ | refine blk_drew ?_ | refine blk_alloc ?_ _)); exact BK330.out) hb); have n2_:=Aside0.mk (below_step (by repeat (first | (with_reducible first | exact HB.out | apply below_alloc | apply pw_below_drewN | apply below_drew1 | refine below_set ?_ GE328.out | refine below_set ?_ GE330.out) | exact HB.out)) hb); clear BK328; clear BK330; clear HB; have BK328:=n0_; have BK330:=n1_; have HB:=n2_; clear n0_ n1_ n2_; (try clear hb); (try clear hb2); (try clear hk); (try clear hi)) | ((with_reducible refine gate_dst (N:=12) rfl ?_); refine box_event ?hg (N:=12) ?hd (cs:=#[.int .i64 0,.int .u64 0,.int .i64 0,.int .u64 0,.bool false,.int .u64 0,.bool false,.int .u64 0,.bool false,.int .u64 0,.bool false,.int .u64 0,.bool false]) (t:=28) ?hr ?_; (case hd=>rfl); (case hg=>rfl); (case hr=>first | (go_simp; done) | (go_simp; rfl)); intro gb347 hg w38 hbox hb; have n0_:=Aside0.mk (blk_below (g:=gb328) (o:=.cells #[.int .i64 a0_0,.int .u64 a0_1,.int .i64 a0_2,.int .u64 a0_3,.bool a0_4,.int .u64 a0_5,.bool a0_6,.int .u64 a0_7,.bool a0_8,.int .u64 a0_9,.bool a0_10,.int .u64 a0_11,.bool a0_12] 28 (0,0)) (by (with_reducible repeat (first | refine blk_drewN ?_ _ | refine blk_drew ?_ | refine blk_alloc ?_ _)); exact BK328.out) hb); have n1_:=Aside0.mk (blk_below (g:=gb330) (o:=.cells #[.int .i64 1,.int .u64 a0_1,.int .i64 0,.int .u64 0,.bool false,.int .u64 0,.bool false,.int .u64 0,.bool false,.int .u64 0,.bool false,.int .u64 0,.bool false] 28 (0,0)) (by (with_reducible repeat (first | refine blk_drewN ?_ _ | refine blk_drew ?_ | refine blk_alloc ?_ _)); exact BK330.out) hb); have n2_:=Aside0.mk (below_step (by repeat (first | (with_reducible first | exact HB.out | apply below_alloc | apply pw_below_drewN | apply below_drew1 | refine below_set ?_ GE328.out | refine below_set ?_ GE330.out) | exact HB.out)) hb); have n3_:=Aside0.mk (hbox); have n4_:=Aside0.mk ((by rw [hg]; exact (below_size (by repeat (first | (with_reducible first | exact HB.out | apply below_alloc | apply pw_below_drewN | apply below_drew1 | refine below_set ?_ GE328.out | refine below_set ?_ GE330.out) | exact HB.out))):w.heap.size≤gb347)); have n5_:=Aside0.mk ((by rw [hg]; exact (below_size (by repeat (first | (with_reducible first | exact HB.out | apply below_alloc | apply pw_below_drewN | apply below_drew1 | refine below_set ?_ GE328.out | refine below_set ?_ GE330.out) | exact HB.out))):w.heap.size≤gb347)); have n6_:=Aside0.mk ((by rw [hg]; exact Nat.ne_of_lt (blk_lt (g:=gb328) (o:=.cells #[.int .i64 a0_0,.int .u64 a0_1,.int .i64 a0_2,.int .u64 a0_3,.bool a0_4,.int .u64 a0_5,.bool a0_6,.int .u64 a0_7,.bool a0_8,.int .u64 a0_9,.bool a0_10,.int .u64 a0_11,.bool a0_12] 28 (0,0)) (by (with_reducible repeat (first | refine blk_drewN ?_ _ | refine blk_drew ?_ | refine blk_alloc ?_ _)); exact BK328.out)):gb328≠gb347)); have n7_:=Aside0.mk ((by rw [hg]; exact Nat.ne_of_gt (blk_lt (g:=gb328) (o:=.cells #[.int .i64 a0_0,.int .u64 a0_1,.int .i64 a0_2,.int .u64 a0_3,.bool a0_4,.int .u64 a0_5,.bool a0_6,.int .u64 a0_7,.bool a0_8,.int .u64 a0_9,.bool a0_10,.int .u64 a0_11,.bool a0_12] 28 (0,0)) (by (with_reducible repeat (first | refine blk_drewN ?_ _ | refine blk_drew ?_ | refine blk_alloc ?_ _)); exact BK328.out)):gb347≠gb328)); have n8_:=Aside0.mk ((by rw [hg]; exact Nat.ne_of_lt (blk_lt (g:=gb330) (o:=.cells #[.int .i64 1,.int .u64 a0_1,.int .i64 0,.int .u64 0,.bool false,.int .u64 0,.bool false,.int .u64 0,.bool false,.int .u64 0,.bool false,.int .u64 0,.bool false] 28 (0,0)) (by (with_reducible repeat (first | refine blk_drewN ?_ _ | refine blk_drew ?_ | refine blk_alloc ?_ _)); exact BK330.out)):gb330≠gb347)); have n9_:=Aside0.mk ((by rw [hg]; exact Nat.ne_of_gt (blk_lt (g:=gb330) (o:=.cells #[.int .i64 1,.int .u64 a0_1,.int .i64 0,.int .u64 0,.bool false,.int .u64 0,.bool false,.int .u64 0,.bool false,.int .u64 0,.bool false,.int .u64 0,.bool false] 28 (0,0)) (by (with_reducible repeat (first | refine blk_drewN ?_ _ | refine blk_drew ?_ | refine blk_alloc ?_ _)); exact BK330.out)):gb347≠gb330)); clear BK328; clear BK330; clear HB; have BK328:=n0_; have BK330:=n1_; have HB:=n2_; have BK347:=n3_; have GW347:=n4_; have GE347:=n5_; have NB328_347:=n6_; have NB347_328:=n7_; have NB330_347:=n8_; have NB347_330:=n9_; clear n0_ n1_ n2_ n3_ n4_ n5_ n6_ n7_ n8_ n9_; clear hb hbox hg; have hnb39:=NB347_328.out; have hnc39:=NB328_347.out; have hnb40:=NB347_330.out; have hnc40:=NB330_347.out; have hcz41_0:w38.cell? ⟨gb347,0,none⟩=some (.int .i64 0):=(blk_cell BK347.out 0).trans rfl; have hcz41_1:w38.cell? ⟨gb347,1,none⟩=some (.int .u64 0):=(blk_cell BK347.out 1).trans rfl; have hcz41_2:w38.cell? ⟨gb347,2,none⟩=some (.int .i64 0):=(blk_cell BK347.out 2).trans rfl; have hcz41_3:w38.cell? ⟨gb347,3,none⟩=some (.int .u64 0):=(blk_cell BK347.out 3).trans rfl; have hcz41_4:w38.cell? ⟨gb347,4,none⟩=some (.bool false):=(blk_cell BK347.out 4).trans rfl; have hcz41_5:w38.cell? ⟨gb347,5,none⟩=some (.int .u64 0):=(blk_cell BK347.out 5).trans rfl; have hcz41_6:w38.cell? ⟨gb347,6,none⟩=some (.bool false):=(blk_cell BK347.out 6).trans rfl; have hcz41_7:w38.cell? ⟨gb347,7,none⟩=some (.int .u64 0):=(blk_cell BK347.out 7).trans rfl; have hcz41_8:w38.cell? ⟨gb347,8,none⟩=some (.bool false):=(blk_cell BK347.out 8).trans rfl; have hcz41_9:w38.cell? ⟨gb347,9,none⟩=some (.int .u64 0):=(blk_cell BK347.out 9).trans rfl; have hcz41_10:w38.cell? ⟨gb347,10,none⟩=some (.bool false):=(blk_cell BK347.out 10).trans rfl; have hcz41_11:w38.cell? ⟨gb347,11,none⟩=some (.int .u64 0):=(blk_cell BK347.out 11).trans rfl; have hcz41_12:w38.cell? ⟨gb347,12,none⟩=some (.bool false):=(blk_cell BK347.out 12).trans rfl; have hfz41_0:=blk_frozen BK347.out 0; have hfz41_1:=blk_frozen BK347.out 1; have hfz41_2:=blk_frozen BK347.out 2; have hfz41_3:=blk_frozen BK347.out 3; have hfz41_4:=blk_frozen BK347.out 4; have hfz41_5:=blk_frozen BK347.out 5; have hfz41_6:=blk_frozen BK347.out 6; have hfz41_7:=blk_frozen BK347.out 7; have hfz41_8:=blk_frozen BK347.out 8; have hfz41_9:=blk_frozen BK347.out 9; have hfz41_10:=blk_frozen BK347.out 10; have hfz41_11:=blk_frozen BK347.out 11; have hfz41_12:=blk_frozen BK347.out 12; have hcz42_0:w38.cell? ⟨gb330,0,none⟩=some (.int .i64 1):=(blk_cell BK330.out 0).trans rfl; have hcz42_1:w38.cell? ⟨gb330,1,none⟩=some (.int .u64 a0_1):=(blk_cell BK330.out 1).trans rfl; have hcz42_2:w38.cell? ⟨gb330,2,none⟩=some (.int .i64 0):=(blk_cell BK330.out 2).trans rfl; have hcz42_3:w38.cell? ⟨gb330,3,none⟩=some (.int .u64 0):=(blk_cell BK330.out 3).trans rfl; have hcz42_4:w38.cell? ⟨gb330,4,none⟩=some (.bool false):=(blk_cell BK330.out 4).trans rfl; have hcz42_5:w38.cell? ⟨gb330,5,none⟩=some (.int .u64 0):=(blk_cell BK330.out 5).trans rfl; have hcz42_6:w38.cell? ⟨gb330,6,none⟩=some (.bool false):=(blk_cell BK330.out 6).trans rfl; have hcz42_7:w38.cell? ⟨gb330,7,none⟩=some (.int .u64 0):=(blk_cell BK330.out 7).trans rfl; have hcz42_8:w38.cell? ⟨gb330,8,none⟩=some (.bool false):=(blk_cell BK330.out 8).trans rfl; have hcz42_9:w38.cell? ⟨gb330,9,none⟩=some (.int .u64 0):=(blk_cell BK330.out 9).trans rfl; have hcz42_10:w38.cell? ⟨gb330,10,none⟩=some (.bool false):=(blk_cell BK330.out 10).trans rfl; have hcz42_11:w38.cell? ⟨gb330,11,none⟩=some (.int .u64 0):=(blk_cell BK330.out 11).trans rfl; have hcz42_12:w38.cell? ⟨gb330,12,none⟩=some (.bool false):=(blk_cell BK330.out 12).trans rfl; have hfz42_0:=blk_frozen BK330.out 0; have hfz42_1:=blk_frozen BK330.out 1; have hfz42_2:=blk_frozen BK330.out 2; have hfz42_3:=blk_frozen BK330.out 3; have hfz42_4:=blk_frozen BK330.out 4; have hfz42_5:=blk_frozen BK330.out 5; have hfz42_6:=blk_frozen BK330.out 6; have hfz42_7:=blk_frozen BK330.out 7; have hfz42_8:=blk_frozen BK330.out 8; have hfz42_9:=blk_frozen BK330.out 9; have hfz42_10:=blk_frozen BK330.out 10; have hfz42_11:=blk_frozen BK330.out 11; have hfz42_12:=blk_frozen BK330.out 12; have hcz43_0:w38.cell? ⟨gb328,0,none⟩=some (.int .i64 a0_0):=(blk_cell BK328.out 0).trans rfl; have hcz43_1:w38.cell? ⟨gb328,1,none⟩=some (.int .u64 a0_1):=(blk_cell BK328.out 1).trans rfl; have hcz43_2:w38.cell? ⟨gb328,2,none⟩=some (.int .i64 a0_2):=(blk_cell BK328.out 2).trans rfl; have hcz43_3:w38.cell? ⟨gb328,3,none⟩=some (.int .u64 a0_3):=(blk_cell BK328.out 3).trans rfl; have hcz43_4:w38.cell? ⟨gb328,4,none⟩=some (.bool a0_4):=(blk_cell BK328.out 4).trans rfl; have hcz43_5:w38.cell? ⟨gb328,5,none⟩=some (.int .u64 a0_5):=(blk_cell BK328.out 5).trans rfl; have hcz43_6:w38.cell? ⟨gb328,6,none⟩=some (.bool a0_6):=(blk_cell BK328.out 6).trans rfl; have hcz43_7:w38.cell? ⟨gb328,7,none⟩=some (.int .u64 a0_7):=(blk_cell BK328.out 7).trans rfl; have hcz43_8:w38.cell? ⟨gb328,8,none⟩=some (.bool a0_8):=(blk_cell BK328.out 8).trans rfl; have hcz43_9:w38.cell? ⟨gb328,9,none⟩=some (.int .u64 a0_9):=(blk_cell BK328.out 9).trans rfl; have hcz43_10:w38.cell? ⟨gb328,10,none⟩=some (.bool a0_10):=(blk_cell BK328.out 10).trans rfl; have hcz43_11:w38.cell? ⟨gb328,11,none⟩=some (.int .u64 a0_11):=(blk_cell BK328.out 11).trans rfl; have hcz43_12:w38.cell? ⟨gb328,12,none⟩=some (.bool a0_12):=(blk_cell BK328.out 12).trans rfl; have hfz43_0:=blk_frozen BK328.out 0; have hfz43_1:=blk_frozen BK328.out 1; have hfz43_2:=blk_frozen BK328.out 2; have hfz43_3:=blk_frozen BK328.out 3; have hfz43_4:=blk_frozen BK328.out 4; have hfz43_5:=blk_frozen BK328.out 5; have hfz43_6:=blk_frozen BK328.out 6; have hfz43_7:=blk_frozen BK328.out 7; have hfz43_8:=blk_frozen BK328.out 8; have hfz43_9:=blk_frozen BK328.out 9; have hfz43_10:=blk_frozen BK328.out 10; have hfz43_11:=blk_frozen BK328.out 11; have hfz43_12:=blk_frozen BK328.out 12))
            go_roundg k2
            case measure=>have:=HJ5.out; have:=HK2.out; omega
            case rel=>exact ⟨(t331),(wrap64 (x10_2+1)),(by first | rfl | (simp; done) | (simp [*]; done)),(by first | rfl | (simp; done) | (simp [*]; done)),H',⟨by have:=HJ5.out; have:=HK2.out; omega⟩,⟨by (with_reducible repeat (first | refine blk_drewN ?_ _ | refine blk_drew ?_ | refine blk_alloc ?_ _)); refine blk_far ?_ NB328_347.out _; (with_reducible repeat (first | refine blk_drewN ?_ _ | refine blk_drew ?_ | refine blk_alloc ?_ _)); refine blk_far ?_ NB328_347.out _; (with_reducible repeat (first | refine blk_drewN ?_ _ | refine blk_drew ?_ | refine blk_alloc ?_ _)); refine blk_far ?_ NB328_347.out _; (with_reducible repeat (first | refine blk_drewN ?_ _ | refine blk_drew ?_ | refine blk_alloc ?_ _)); refine blk_far ?_ NB328_347.out _; (with_reducible repeat (first | refine blk_drewN ?_ _ | refine blk_drew ?_ | refine blk_alloc ?_ _)); refine blk_far ?_ NB328_347.out _; (with_reducible repeat (first | refine blk_drewN ?_ _ | refine blk_drew ?_ | refine blk_alloc ?_ _)); refine blk_far ?_ NB328_347.out _; (with_reducible repeat (first | refine blk_drewN ?_ _ | refine blk_drew ?_ | refine blk_alloc ?_ _)); refine blk_far ?_ NB328_347.out _; (with_reducible repeat (first | refine blk_drewN ?_ _ | refine blk_drew ?_ | refine blk_alloc ?_ _)); refine blk_far ?_ NB328_347.out _; (with_reducible repeat (first | refine blk_drewN ?_ _ | refine blk_drew ?_ | refine blk_alloc ?_ _)); refine blk_far ?_ NB328_347.out _; (with_reducible repeat (first | refine blk_drewN ?_ _ | refine blk_drew ?_ | refine blk_alloc ?_ _)); refine blk_far ?_ NB328_347.out _; (with_reducible repeat (first | refine blk_drewN ?_ _ | refine blk_drew ?_ | refine blk_alloc ?_ _)); refine blk_far ?_ NB328_347.out _; (with_reducible repeat (first | refine blk_drewN ?_ _ | refine blk_drew ?_ | refine blk_alloc ?_ _)); refine blk_far ?_ NB328_347.out _; (with_reducible repeat (first | refine blk_drewN ?_ _ | refine blk_drew ?_ | refine blk_alloc ?_ _)); refine blk_far ?_ NB328_347.out _; (with_reducible repeat (first | refine blk_drewN ?_ _ | refine blk_drew ?_ | refine blk_alloc ?_ _)); exact BK328.out⟩,⟨by (with_reducible repeat (first | refine blk_drewN ?_ _ | refine blk_drew ?_ | refine blk_alloc ?_ _)); refine blk_far ?_ NB330_347.out _; (with_reducible repeat (first | refine blk_drewN ?_ _ | refine blk_drew ?_ | refine blk_alloc ?_ _)); refine blk_far ?_ NB330_347.out _; (with_reducible repeat (first | refine blk_drewN ?_ _ | refine blk_drew ?_ | refine blk_alloc ?_ _)); refine blk_far ?_ NB330_347.out _; (with_reducible repeat (first | refine blk_drewN ?_ _ | refine blk_drew ?_ | refine blk_alloc ?_ _)); refine blk_far ?_ NB330_347.out _; (with_reducible repeat (first | refine blk_drewN ?_ _ | refine blk_drew ?_ | refine blk_alloc ?_ _)); refine blk_far ?_ NB330_347.out _; (with_reducible repeat (first | refine blk_drewN ?_ _ | refine blk_drew ?_ | refine blk_alloc ?_ _)); refine blk_far ?_ NB330_347.out _; (with_reducible repeat (first | refine blk_drewN ?_ _ | refine blk_drew ?_ | refine blk_alloc ?_ _)); refine blk_far ?_ NB330_347.out _; (with_reducible repeat (first | refine blk_drewN ?_ _ | refine blk_drew ?_ | refine blk_alloc ?_ _)); refine blk_far ?_ NB330_347.out _; (with_reducible repeat (first | refine blk_drewN ?_ _ | refine blk_drew ?_ | refine blk_alloc ?_ _)); refine blk_far ?_ NB330_347.out _; (with_reducible repeat (first | refine blk_drewN ?_ _ | refine blk_drew ?_ | refine blk_alloc ?_ _)); refine blk_far ?_ NB330_347.out _; (with_reducible repeat (first | refine blk_drewN ?_ _ | refine blk_drew ?_ | refine blk_alloc ?_ _)); refine blk_far ?_ NB330_347.out _; (with_reducible repeat (first | refine blk_drewN ?_ _ | refine blk_drew ?_ | refine blk_alloc ?_ _)); refine blk_far ?_ NB330_347.out _; (with_reducible repeat (first | refine blk_drewN ?_ _ | refine blk_drew ?_ | refine blk_alloc ?_ _)); refine blk_far ?_ NB330_347.out _; (with_reducible repeat (first | refine blk_drewN ?_ _ | refine blk_drew ?_ | refine blk_alloc ?_ _)); exact BK330.out⟩,⟨by repeat (first | (with_reducible first | exact HB.out | apply below_alloc | apply pw_below_drewN | apply below_drew1 | refine below_set ?_ GE328.out | refine below_set ?_ GE330.out | refine below_set ?_ GE347.out) | exact HB.out)⟩⟩
           ·rw [if_neg c34] at H
            have c34b0:(t331 == (IntKind.u64.wrap (x9_2+a0_1)))=false:=beq_eq_false_iff_ne.mpr c34
            have c34b1:(t331 != (IntKind.u64.wrap (x9_2+a0_1)))=true:=bne_iff_ne.mpr c34
            obtain rfl:=Option.some.inj H
            have hnb44:=NB330_328.out
            have hnc44:=NB328_330.out
            have hcz45_0:wr.cell? ⟨gb330,0,none⟩=some (.int .i64 1):=(blk_cell BK330.out 0).trans rfl
            have hcz45_1:wr.cell? ⟨gb330,1,none⟩=some (.int .u64 a0_1):=(blk_cell BK330.out 1).trans rfl
            have hcz45_2:wr.cell? ⟨gb330,2,none⟩=some (.int .i64 0):=(blk_cell BK330.out 2).trans rfl
            have hcz45_3:wr.cell? ⟨gb330,3,none⟩=some (.int .u64 0):=(blk_cell BK330.out 3).trans rfl
            have hcz45_4:wr.cell? ⟨gb330,4,none⟩=some (.bool false):=(blk_cell BK330.out 4).trans rfl
            have hcz45_5:wr.cell? ⟨gb330,5,none⟩=some (.int .u64 0):=(blk_cell BK330.out 5).trans rfl
            have hcz45_6:wr.cell? ⟨gb330,6,none⟩=some (.bool false):=(blk_cell BK330.out 6).trans rfl
            have hcz45_7:wr.cell? ⟨gb330,7,none⟩=some (.int .u64 0):=(blk_cell BK330.out 7).trans rfl
            have hcz45_8:wr.cell? ⟨gb330,8,none⟩=some (.bool false):=(blk_cell BK330.out 8).trans rfl
            have hcz45_9:wr.cell? ⟨gb330,9,none⟩=some (.int .u64 0):=(blk_cell BK330.out 9).trans rfl
            have hcz45_10:wr.cell? ⟨gb330,10,none⟩=some (.bool false):=(blk_cell BK330.out 10).trans rfl
            have hcz45_11:wr.cell? ⟨gb330,11,none⟩=some (.int .u64 0):=(blk_cell BK330.out 11).trans rfl
            have hcz45_12:wr.cell? ⟨gb330,12,none⟩=some (.bool false):=(blk_cell BK330.out 12).trans rfl
            have hfz45_0:=blk_frozen BK330.out 0
            have hfz45_1:=blk_frozen BK330.out 1
            have hfz45_2:=blk_frozen BK330.out 2
            have hfz45_3:=blk_frozen BK330.out 3
            have hfz45_4:=blk_frozen BK330.out 4
            have hfz45_5:=blk_frozen BK330.out 5
            have hfz45_6:=blk_frozen BK330.out 6
            have hfz45_7:=blk_frozen BK330.out 7
            have hfz45_8:=blk_frozen BK330.out 8
            have hfz45_9:=blk_frozen BK330.out 9
            have hfz45_10:=blk_frozen BK330.out 10
            have hfz45_11:=blk_frozen BK330.out 11
            have hfz45_12:=blk_frozen BK330.out 12
            go_wp2_with (first | ((with_reducible refine gate_callee (f:=16) rfl ?_); refine goesL_ (some 52) rfl rfl Tryd.func16 (by kernel_rfl) rfl #[.agg #[.int .i64 1,.int .u64 a0_1,.int .i64 0,.int .u64 0,.bool false,.int .u64 0,.bool false,.int .u64 0,.bool false,.int .u64 0,.bool false,.int .u64 0,.bool false],.int .u64 x9_2,.int .u64 x9_2] rfl (by (try simp only [List.map_toArray,List.map_cons,List.map_nil]); first | done | rfl | (simp only [List.length_drop,List.length_take]; rfl)) ?_; (with_reducible refine (rearm_Again.calls 1 a0_1 0 0 false 0 false 0 false 0 false 0 false x9_2 x9_2 t331 t332 t333 t334 t335 t336 t337 t338 t339 t340 t341 t342 t343 t344 t345 t346 _ (hT.keep (by repeat (first | (with_reducible first | exact HB.out | apply below_alloc | apply pw_below_drewN | apply below_drew1 | refine below_set ?_ GE328.out | refine below_set ?_ GE330.out | refine below_set ?_ GE347.out) | exact HB.out))) A22.out).mono ?_); rintro e w46 ⟨rfl,hb⟩; refine ⟨_,rfl,?_⟩; have n0_:=Aside0.mk (blk_below (g:=gb328) (o:=.cells #[.int .i64 a0_0,.int .u64 a0_1,.int .i64 a0_2,.int .u64 a0_3,.bool a0_4,.int .u64 a0_5,.bool a0_6,.int .u64 a0_7,.bool a0_8,.int .u64 a0_9,.bool a0_10,.int .u64 a0_11,.bool a0_12] 28 (0,0)) (by (with_reducible repeat (first | refine blk_drewN ?_ _ | refine blk_drew ?_ | refine blk_alloc ?_ _)); exact BK328.out) hb); have n1_:=Aside0.mk (blk_below (g:=gb330) (o:=.cells #[.int .i64 1,.int .u64 a0_1,.int .i64 0,.int .u64 0,.bool false,.int .u64 0,.bool false,.int .u64 0,.bool false,.int .u64 0,.bool false,.int .u64 0,.bool false] 28 (0,0)) (by (with_reducible repeat (first | refine blk_drewN ?_ _ | refine blk_drew ?_ | refine blk_alloc ?_ _)); exact BK330.out) hb); have n2_:=Aside0.mk (below_step (by repeat (first | (with_reducible first | exact HB.out | apply below_alloc | apply pw_below_drewN | apply below_drew1 | refine below_set ?_ GE328.out | refine below_set ?_ GE330.out) | exact HB.out)) hb); clear BK328; clear BK330; clear HB; have BK328:=n0_; have BK330:=n1_; have HB:=n2_; clear n0_ n1_ n2_; (try clear hb); (try clear hb2); (try clear hk); (try clear hi)) | ((with_reducible refine gate_dst (N:=12) rfl ?_); refine box_event ?hg (N:=12) ?hd (cs:=#[.int .i64 0,.int .u64 0,.int .i64 0,.int .u64 0,.bool false,.int .u64 0,.bool false,.int .u64 0,.bool false,.int .u64 0,.bool false,.int .u64 0,.bool false]) (t:=28) ?hr ?_; (case hd=>rfl); (case hg=>rfl); (case hr=>first | (go_simp; done) | (go_simp; rfl)); intro gb347 hg w47 hbox hb; have n0_:=Aside0.mk (blk_below (g:=gb328) (o:=.cells #[.int .i64 a0_0,.int .u64 a0_1,.int .i64 a0_2,.int .u64 a0_3,.bool a0_4,.int .u64 a0_5,.bool a0_6,.int .u64 a0_7,.bool a0_8,.int .u64 a0_9,.bool a0_10,.int .u64 a0_11,.bool a0_12] 28 (0,0)) (by (with_reducible repeat (first | refine blk_drewN ?_ _ | refine blk_drew ?_ | refine blk_alloc ?_ _)); exact BK328.out) hb); have n1_:=Aside0.mk (blk_below (g:=gb330) (o:=.cells #[.int .i64 1,.int .u64 a0_1,.int .i64 0,.int .u64 0,.bool false,.int .u64 0,.bool false,.int .u64 0,.bool false,.int .u64 0,.bool false,.int .u64 0,.bool false] 28 (0,0)) (by (with_reducible repeat (first | refine blk_drewN ?_ _ | refine blk_drew ?_ | refine blk_alloc ?_ _)); exact BK330.out) hb); have n2_:=Aside0.mk (below_step (by repeat (first | (with_reducible first | exact HB.out | apply below_alloc | apply pw_below_drewN | apply below_drew1 | refine below_set ?_ GE328.out | refine below_set ?_ GE330.out) | exact HB.out)) hb); have n3_:=Aside0.mk (hbox); have n4_:=Aside0.mk ((by rw [hg]; exact (below_size (by repeat (first | (with_reducible first | exact HB.out | apply below_alloc | apply pw_below_drewN | apply below_drew1 | refine below_set ?_ GE328.out | refine below_set ?_ GE330.out) | exact HB.out))):w.heap.size≤gb347)); have n5_:=Aside0.mk ((by rw [hg]; exact (below_size (by repeat (first | (with_reducible first | exact HB.out | apply below_alloc | apply pw_below_drewN | apply below_drew1 | refine below_set ?_ GE328.out | refine below_set ?_ GE330.out) | exact HB.out))):w.heap.size≤gb347)); have n6_:=Aside0.mk ((by rw [hg]; exact Nat.ne_of_lt (blk_lt (g:=gb328) (o:=.cells #[.int .i64 a0_0,.int .u64 a0_1,.int .i64 a0_2,.int .u64 a0_3,.bool a0_4,.int .u64 a0_5,.bool a0_6,.int .u64 a0_7,.bool a0_8,.int .u64 a0_9,.bool a0_10,.int .u64 a0_11,.bool a0_12] 28 (0,0)) (by (with_reducible repeat (first | refine blk_drewN ?_ _ | refine blk_drew ?_ | refine blk_alloc ?_ _)); exact BK328.out)):gb328≠gb347)); have n7_:=Aside0.mk ((by rw [hg]; exact Nat.ne_of_gt (blk_lt (g:=gb328) (o:=.cells #[.int .i64 a0_0,.int .u64 a0_1,.int .i64 a0_2,.int .u64 a0_3,.bool a0_4,.int .u64 a0_5,.bool a0_6,.int .u64 a0_7,.bool a0_8,.int .u64 a0_9,.bool a0_10,.int .u64 a0_11,.bool a0_12] 28 (0,0)) (by (with_reducible repeat (first | refine blk_drewN ?_ _ | refine blk_drew ?_ | refine blk_alloc ?_ _)); exact BK328.out)):gb347≠gb328)); have n8_:=Aside0.mk ((by rw [hg]; exact Nat.ne_of_lt (blk_lt (g:=gb330) (o:=.cells #[.int .i64 1,.int .u64 a0_1,.int .i64 0,.int .u64 0,.bool false,.int .u64 0,.bool false,.int .u64 0,.bool false,.int .u64 0,.bool false,.int .u64 0,.bool false] 28 (0,0)) (by (with_reducible repeat (first | refine blk_drewN ?_ _ | refine blk_drew ?_ | refine blk_alloc ?_ _)); exact BK330.out)):gb330≠gb347)); have n9_:=Aside0.mk ((by rw [hg]; exact Nat.ne_of_gt (blk_lt (g:=gb330) (o:=.cells #[.int .i64 1,.int .u64 a0_1,.int .i64 0,.int .u64 0,.bool false,.int .u64 0,.bool false,.int .u64 0,.bool false,.int .u64 0,.bool false,.int .u64 0,.bool false] 28 (0,0)) (by (with_reducible repeat (first | refine blk_drewN ?_ _ | refine blk_drew ?_ | refine blk_alloc ?_ _)); exact BK330.out)):gb347≠gb330)); clear BK328; clear BK330; clear HB; have BK328:=n0_; have BK330:=n1_; have HB:=n2_; have BK347:=n3_; have GW347:=n4_; have GE347:=n5_; have NB328_347:=n6_; have NB347_328:=n7_; have NB330_347:=n8_; have NB347_330:=n9_; clear n0_ n1_ n2_ n3_ n4_ n5_ n6_ n7_ n8_ n9_; clear hb hbox hg; have hnb48:=NB347_328.out; have hnc48:=NB328_347.out; have hnb49:=NB347_330.out; have hnc49:=NB330_347.out; have hcz50_0:w47.cell? ⟨gb347,0,none⟩=some (.int .i64 0):=(blk_cell BK347.out 0).trans rfl; have hcz50_1:w47.cell? ⟨gb347,1,none⟩=some (.int .u64 0):=(blk_cell BK347.out 1).trans rfl; have hcz50_2:w47.cell? ⟨gb347,2,none⟩=some (.int .i64 0):=(blk_cell BK347.out 2).trans rfl; have hcz50_3:w47.cell? ⟨gb347,3,none⟩=some (.int .u64 0):=(blk_cell BK347.out 3).trans rfl; have hcz50_4:w47.cell? ⟨gb347,4,none⟩=some (.bool false):=(blk_cell BK347.out 4).trans rfl; have hcz50_5:w47.cell? ⟨gb347,5,none⟩=some (.int .u64 0):=(blk_cell BK347.out 5).trans rfl; have hcz50_6:w47.cell? ⟨gb347,6,none⟩=some (.bool false):=(blk_cell BK347.out 6).trans rfl; have hcz50_7:w47.cell? ⟨gb347,7,none⟩=some (.int .u64 0):=(blk_cell BK347.out 7).trans rfl; have hcz50_8:w47.cell? ⟨gb347,8,none⟩=some (.bool false):=(blk_cell BK347.out 8).trans rfl; have hcz50_9:w47.cell? ⟨gb347,9,none⟩=some (.int .u64 0):=(blk_cell BK347.out 9).trans rfl; have hcz50_10:w47.cell? ⟨gb347,10,none⟩=some (.bool false):=(blk_cell BK347.out 10).trans rfl; have hcz50_11:w47.cell? ⟨gb347,11,none⟩=some (.int .u64 0):=(blk_cell BK347.out 11).trans rfl; have hcz50_12:w47.cell? ⟨gb347,12,none⟩=some (.bool false):=(blk_cell BK347.out 12).trans rfl; have hfz50_0:=blk_frozen BK347.out 0; have hfz50_1:=blk_frozen BK347.out 1; have hfz50_2:=blk_frozen BK347.out 2; have hfz50_3:=blk_frozen BK347.out 3; have hfz50_4:=blk_frozen BK347.out 4; have hfz50_5:=blk_frozen BK347.out 5; have hfz50_6:=blk_frozen BK347.out 6; have hfz50_7:=blk_frozen BK347.out 7; have hfz50_8:=blk_frozen BK347.out 8; have hfz50_9:=blk_frozen BK347.out 9; have hfz50_10:=blk_frozen BK347.out 10; have hfz50_11:=blk_frozen BK347.out 11; have hfz50_12:=blk_frozen BK347.out 12; have hcz51_0:w47.cell? ⟨gb330,0,none⟩=some (.int .i64 1):=(blk_cell BK330.out 0).trans rfl; have hcz51_1:w47.cell? ⟨gb330,1,none⟩=some (.int .u64 a0_1):=(blk_cell BK330.out 1).trans rfl; have hcz51_2:w47.cell? ⟨gb330,2,none⟩=some (.int .i64 0):=(blk_cell BK330.out 2).trans rfl; have hcz51_3:w47.cell? ⟨gb330,3,none⟩=some (.int .u64 0):=(blk_cell BK330.out 3).trans rfl; have hcz51_4:w47.cell? ⟨gb330,4,none⟩=some (.bool false):=(blk_cell BK330.out 4).trans rfl; have hcz51_5:w47.cell? ⟨gb330,5,none⟩=some (.int .u64 0):=(blk_cell BK330.out 5).trans rfl; have hcz51_6:w47.cell? ⟨gb330,6,none⟩=some (.bool false):=(blk_cell BK330.out 6).trans rfl; have hcz51_7:w47.cell? ⟨gb330,7,none⟩=some (.int .u64 0):=(blk_cell BK330.out 7).trans rfl; have hcz51_8:w47.cell? ⟨gb330,8,none⟩=some (.bool false):=(blk_cell BK330.out 8).trans rfl; have hcz51_9:w47.cell? ⟨gb330,9,none⟩=some (.int .u64 0):=(blk_cell BK330.out 9).trans rfl; have hcz51_10:w47.cell? ⟨gb330,10,none⟩=some (.bool false):=(blk_cell BK330.out 10).trans rfl; have hcz51_11:w47.cell? ⟨gb330,11,none⟩=some (.int .u64 0):=(blk_cell BK330.out 11).trans rfl; have hcz51_12:w47.cell? ⟨gb330,12,none⟩=some (.bool false):=(blk_cell BK330.out 12).trans rfl; have hfz51_0:=blk_frozen BK330.out 0; have hfz51_1:=blk_frozen BK330.out 1; have hfz51_2:=blk_frozen BK330.out 2; have hfz51_3:=blk_frozen BK330.out 3; have hfz51_4:=blk_frozen BK330.out 4; have hfz51_5:=blk_frozen BK330.out 5; have hfz51_6:=blk_frozen BK330.out 6; have hfz51_7:=blk_frozen BK330.out 7; have hfz51_8:=blk_frozen BK330.out 8; have hfz51_9:=blk_frozen BK330.out 9; have hfz51_10:=blk_frozen BK330.out 10; have hfz51_11:=blk_frozen BK330.out 11; have hfz51_12:=blk_frozen BK330.out 12; have hcz52_0:w47.cell? ⟨gb328,0,none⟩=some (.int .i64 a0_0):=(blk_cell BK328.out 0).trans rfl; have hcz52_1:w47.cell? ⟨gb328,1,none⟩=some (.int .u64 a0_1):=(blk_cell BK328.out 1).trans rfl; have hcz52_2:w47.cell? ⟨gb328,2,none⟩=some (.int .i64 a0_2):=(blk_cell BK328.out 2).trans rfl; have hcz52_3:w47.cell? ⟨gb328,3,none⟩=some (.int .u64 a0_3):=(blk_cell BK328.out 3).trans rfl; have hcz52_4:w47.cell? ⟨gb328,4,none⟩=some (.bool a0_4):=(blk_cell BK328.out 4).trans rfl; have hcz52_5:w47.cell? ⟨gb328,5,none⟩=some (.int .u64 a0_5):=(blk_cell BK328.out 5).trans rfl; have hcz52_6:w47.cell? ⟨gb328,6,none⟩=some (.bool a0_6):=(blk_cell BK328.out 6).trans rfl; have hcz52_7:w47.cell? ⟨gb328,7,none⟩=some (.int .u64 a0_7):=(blk_cell BK328.out 7).trans rfl; have hcz52_8:w47.cell? ⟨gb328,8,none⟩=some (.bool a0_8):=(blk_cell BK328.out 8).trans rfl; have hcz52_9:w47.cell? ⟨gb328,9,none⟩=some (.int .u64 a0_9):=(blk_cell BK328.out 9).trans rfl; have hcz52_10:w47.cell? ⟨gb328,10,none⟩=some (.bool a0_10):=(blk_cell BK328.out 10).trans rfl; have hcz52_11:w47.cell? ⟨gb328,11,none⟩=some (.int .u64 a0_11):=(blk_cell BK328.out 11).trans rfl; have hcz52_12:w47.cell? ⟨gb328,12,none⟩=some (.bool a0_12):=(blk_cell BK328.out 12).trans rfl; have hfz52_0:=blk_frozen BK328.out 0; have hfz52_1:=blk_frozen BK328.out 1; have hfz52_2:=blk_frozen BK328.out 2; have hfz52_3:=blk_frozen BK328.out 3; have hfz52_4:=blk_frozen BK328.out 4; have hfz52_5:=blk_frozen BK328.out 5; have hfz52_6:=blk_frozen BK328.out 6; have hfz52_7:=blk_frozen BK328.out 7; have hfz52_8:=blk_frozen BK328.out 8; have hfz52_9:=blk_frozen BK328.out 9; have hfz52_10:=blk_frozen BK328.out 10; have hfz52_11:=blk_frozen BK328.out 11; have hfz52_12:=blk_frozen BK328.out 12))
            go_ret
            exact ⟨by first | rfl | (simp [errW_none,errW_some] <;> rfl) | (simp [*,errW_none,errW_some] <;> rfl),by repeat (first | (with_reducible first | exact HB.out | apply below_alloc | apply pw_below_drewN | apply below_drew1 | refine below_set ?_ GE328.out | refine below_set ?_ GE330.out | refine below_set ?_ GE347.out) | exact HB.out)⟩
          ·rw [if_neg c33] at H
           have c33b0:(t345 == 0)=false:=beq_eq_false_iff_ne.mpr c33
           have c33b1:(t345 != 0)=true:=bne_iff_ne.mpr c33
           obtain rfl:=Option.some.inj H
           have hnb53:=NB330_328.out
           have hnc53:=NB328_330.out
           have hcz54_0:wr.cell? ⟨gb330,0,none⟩=some (.int .i64 1):=(blk_cell BK330.out 0).trans rfl
           have hcz54_1:wr.cell? ⟨gb330,1,none⟩=some (.int .u64 a0_1):=(blk_cell BK330.out 1).trans rfl
           have hcz54_2:wr.cell? ⟨gb330,2,none⟩=some (.int .i64 0):=(blk_cell BK330.out 2).trans rfl
           have hcz54_3:wr.cell? ⟨gb330,3,none⟩=some (.int .u64 0):=(blk_cell BK330.out 3).trans rfl
           have hcz54_4:wr.cell? ⟨gb330,4,none⟩=some (.bool false):=(blk_cell BK330.out 4).trans rfl
           have hcz54_5:wr.cell? ⟨gb330,5,none⟩=some (.int .u64 0):=(blk_cell BK330.out 5).trans rfl
           have hcz54_6:wr.cell? ⟨gb330,6,none⟩=some (.bool false):=(blk_cell BK330.out 6).trans rfl
           have hcz54_7:wr.cell? ⟨gb330,7,none⟩=some (.int .u64 0):=(blk_cell BK330.out 7).trans rfl
           have hcz54_8:wr.cell? ⟨gb330,8,none⟩=some (.bool false):=(blk_cell BK330.out 8).trans rfl
           have hcz54_9:wr.cell? ⟨gb330,9,none⟩=some (.int .u64 0):=(blk_cell BK330.out 9).trans rfl
           have hcz54_10:wr.cell? ⟨gb330,10,none⟩=some (.bool false):=(blk_cell BK330.out 10).trans rfl
           have hcz54_11:wr.cell? ⟨gb330,11,none⟩=some (.int .u64 0):=(blk_cell BK330.out 11).trans rfl
           have hcz54_12:wr.cell? ⟨gb330,12,none⟩=some (.bool false):=(blk_cell BK330.out 12).trans rfl
           have hfz54_0:=blk_frozen BK330.out 0
           have hfz54_1:=blk_frozen BK330.out 1
           have hfz54_2:=blk_frozen BK330.out 2
           have hfz54_3:=blk_frozen BK330.out 3
           have hfz54_4:=blk_frozen BK330.out 4
           have hfz54_5:=blk_frozen BK330.out 5
           have hfz54_6:=blk_frozen BK330.out 6
           have hfz54_7:=blk_frozen BK330.out 7
           have hfz54_8:=blk_frozen BK330.out 8
           have hfz54_9:=blk_frozen BK330.out 9
           have hfz54_10:=blk_frozen BK330.out 10
           have hfz54_11:=blk_frozen BK330.out 11
           have hfz54_12:=blk_frozen BK330.out 12
           go_wp2_with (first | ((with_reducible refine gate_callee (f:=16) rfl ?_); refine goesL_ (some 52) rfl rfl Tryd.func16 (by kernel_rfl) rfl #[.agg #[.int .i64 1,.int .u64 a0_1,.int .i64 0,.int .u64 0,.bool false,.int .u64 0,.bool false,.int .u64 0,.bool false,.int .u64 0,.bool false,.int .u64 0,.bool false],.int .u64 x9_2,.int .u64 x9_2] rfl (by (try simp only [List.map_toArray,List.map_cons,List.map_nil]); first | done | rfl | (simp only [List.length_drop,List.length_take]; rfl)) ?_; (with_reducible refine (rearm_Again.calls 1 a0_1 0 0 false 0 false 0 false 0 false 0 false x9_2 x9_2 t331 t332 t333 t334 t335 t336 t337 t338 t339 t340 t341 t342 t343 t344 t345 t346 _ (hT.keep (by repeat (first | (with_reducible first | exact HB.out | apply below_alloc | apply pw_below_drewN | apply below_drew1 | refine below_set ?_ GE328.out | refine below_set ?_ GE330.out | refine below_set ?_ GE347.out) | exact HB.out))) A22.out).mono ?_); rintro e w55 ⟨rfl,hb⟩; refine ⟨_,rfl,?_⟩; have n0_:=Aside0.mk (blk_below (g:=gb328) (o:=.cells #[.int .i64 a0_0,.int .u64 a0_1,.int .i64 a0_2,.int .u64 a0_3,.bool a0_4,.int .u64 a0_5,.bool a0_6,.int .u64 a0_7,.bool a0_8,.int .u64 a0_9,.bool a0_10,.int .u64 a0_11,.bool a0_12] 28 (0,0)) (by (with_reducible repeat (first | refine blk_drewN ?_ _ | refine blk_drew ?_ | refine blk_alloc ?_ _)); exact BK328.out) hb); have n1_:=Aside0.mk (blk_below (g:=gb330) (o:=.cells #[.int .i64 1,.int .u64 a0_1,.int .i64 0,.int .u64 0,.bool false,.int .u64 0,.bool false,.int .u64 0,.bool false,.int .u64 0,.bool false,.int .u64 0,.bool false] 28 (0,0)) (by (with_reducible repeat (first | refine blk_drewN ?_ _ | refine blk_drew ?_ | refine blk_alloc ?_ _)); exact BK330.out) hb); have n2_:=Aside0.mk (below_step (by repeat (first | (with_reducible first | exact HB.out | apply below_alloc | apply pw_below_drewN | apply below_drew1 | refine below_set ?_ GE328.out | refine below_set ?_ GE330.out) | exact HB.out)) hb); clear BK328; clear BK330; clear HB; have BK328:=n0_; have BK330:=n1_; have HB:=n2_; clear n0_ n1_ n2_; (try clear hb); (try clear hb2); (try clear hk); (try clear hi)) | ((with_reducible refine gate_dst (N:=12) rfl ?_); refine box_event ?hg (N:=12) ?hd (cs:=#[.int .i64 0,.int .u64 0,.int .i64 0,.int .u64 0,.bool false,.int .u64 0,.bool false,.int .u64 0,.bool false,.int .u64 0,.bool false,.int .u64 0,.bool false]) (t:=28) ?hr ?_; (case hd=>rfl); (case hg=>rfl); (case hr=>first | (go_simp; done) | (go_simp; rfl)); intro gb347 hg w56 hbox hb; have n0_:=Aside0.mk (blk_below (g:=gb328) (o:=.cells #[.int .i64 a0_0,.int .u64 a0_1,.int .i64 a0_2,.int .u64 a0_3,.bool a0_4,.int .u64 a0_5,.bool a0_6,.int .u64 a0_7,.bool a0_8,.int .u64 a0_9,.bool a0_10,.int .u64 a0_11,.bool a0_12] 28 (0,0)) (by (with_reducible repeat (first | refine blk_drewN ?_ _ | refine blk_drew ?_ | refine blk_alloc ?_ _)); exact BK328.out) hb); have n1_:=Aside0.mk (blk_below (g:=gb330) (o:=.cells #[.int .i64 1,.int .u64 a0_1,.int .i64 0,.int .u64 0,.bool false,.int .u64 0,.bool false,.int .u64 0,.bool false,.int .u64 0,.bool false,.int .u64 0,.bool false] 28 (0,0)) (by (with_reducible repeat (first | refine blk_drewN ?_ _ | refine blk_drew ?_ | refine blk_alloc ?_ _)); exact BK330.out) hb); have n2_:=Aside0.mk (below_step (by repeat (first | (with_reducible first | exact HB.out | apply below_alloc | apply pw_below_drewN | apply below_drew1 | refine below_set ?_ GE328.out | refine below_set ?_ GE330.out) | exact HB.out)) hb); have n3_:=Aside0.mk (hbox); have n4_:=Aside0.mk ((by rw [hg]; exact (below_size (by repeat (first | (with_reducible first | exact HB.out | apply below_alloc | apply pw_below_drewN | apply below_drew1 | refine below_set ?_ GE328.out | refine below_set ?_ GE330.out) | exact HB.out))):w.heap.size≤gb347)); have n5_:=Aside0.mk ((by rw [hg]; exact (below_size (by repeat (first | (with_reducible first | exact HB.out | apply below_alloc | apply pw_below_drewN | apply below_drew1 | refine below_set ?_ GE328.out | refine below_set ?_ GE330.out) | exact HB.out))):w.heap.size≤gb347)); have n6_:=Aside0.mk ((by rw [hg]; exact Nat.ne_of_lt (blk_lt (g:=gb328) (o:=.cells #[.int .i64 a0_0,.int .u64 a0_1,.int .i64 a0_2,.int .u64 a0_3,.bool a0_4,.int .u64 a0_5,.bool a0_6,.int .u64 a0_7,.bool a0_8,.int .u64 a0_9,.bool a0_10,.int .u64 a0_11,.bool a0_12] 28 (0,0)) (by (with_reducible repeat (first | refine blk_drewN ?_ _ | refine blk_drew ?_ | refine blk_alloc ?_ _)); exact BK328.out)):gb328≠gb347)); have n7_:=Aside0.mk ((by rw [hg]; exact Nat.ne_of_gt (blk_lt (g:=gb328) (o:=.cells #[.int .i64 a0_0,.int .u64 a0_1,.int .i64 a0_2,.int .u64 a0_3,.bool a0_4,.int .u64 a0_5,.bool a0_6,.int .u64 a0_7,.bool a0_8,.int .u64 a0_9,.bool a0_10,.int .u64 a0_11,.bool a0_12] 28 (0,0)) (by (with_reducible repeat (first | refine blk_drewN ?_ _ | refine blk_drew ?_ | refine blk_alloc ?_ _)); exact BK328.out)):gb347≠gb328)); have n8_:=Aside0.mk ((by rw [hg]; exact Nat.ne_of_lt (blk_lt (g:=gb330) (o:=.cells #[.int .i64 1,.int .u64 a0_1,.int .i64 0,.int .u64 0,.bool false,.int .u64 0,.bool false,.int .u64 0,.bool false,.int .u64 0,.bool false,.int .u64 0,.bool false] 28 (0,0)) (by (with_reducible repeat (first | refine blk_drewN ?_ _ | refine blk_drew ?_ | refine blk_alloc ?_ _)); exact BK330.out)):gb330≠gb347)); have n9_:=Aside0.mk ((by rw [hg]; exact Nat.ne_of_gt (blk_lt (g:=gb330) (o:=.cells #[.int .i64 1,.int .u64 a0_1,.int .i64 0,.int .u64 0,.bool false,.int .u64 0,.bool false,.int .u64 0,.bool false,.int .u64 0,.bool false,.int .u64 0,.bool false] 28 (0,0)) (by (with_reducible repeat (first | refine blk_drewN ?_ _ | refine blk_drew ?_ | refine blk_alloc ?_ _)); exact BK330.out)):gb347≠gb330)); clear BK328; clear BK330; clear HB; have BK328:=n0_; have BK330:=n1_; have HB:=n2_; have BK347:=n3_; have GW347:=n4_; have GE347:=n5_; have NB328_347:=n6_; have NB347_328:=n7_; have NB330_347:=n8_; have NB347_330:=n9_; clear n0_ n1_ n2_ n3_ n4_ n5_ n6_ n7_ n8_ n9_; clear hb hbox hg; have hnb57:=NB347_328.out; have hnc57:=NB328_347.out; have hnb58:=NB347_330.out; have hnc58:=NB330_347.out; have hcz59_0:w56.cell? ⟨gb347,0,none⟩=some (.int .i64 0):=(blk_cell BK347.out 0).trans rfl; have hcz59_1:w56.cell? ⟨gb347,1,none⟩=some (.int .u64 0):=(blk_cell BK347.out 1).trans rfl; have hcz59_2:w56.cell? ⟨gb347,2,none⟩=some (.int .i64 0):=(blk_cell BK347.out 2).trans rfl; have hcz59_3:w56.cell? ⟨gb347,3,none⟩=some (.int .u64 0):=(blk_cell BK347.out 3).trans rfl; have hcz59_4:w56.cell? ⟨gb347,4,none⟩=some (.bool false):=(blk_cell BK347.out 4).trans rfl; have hcz59_5:w56.cell? ⟨gb347,5,none⟩=some (.int .u64 0):=(blk_cell BK347.out 5).trans rfl; have hcz59_6:w56.cell? ⟨gb347,6,none⟩=some (.bool false):=(blk_cell BK347.out 6).trans rfl; have hcz59_7:w56.cell? ⟨gb347,7,none⟩=some (.int .u64 0):=(blk_cell BK347.out 7).trans rfl; have hcz59_8:w56.cell? ⟨gb347,8,none⟩=some (.bool false):=(blk_cell BK347.out 8).trans rfl; have hcz59_9:w56.cell? ⟨gb347,9,none⟩=some (.int .u64 0):=(blk_cell BK347.out 9).trans rfl; have hcz59_10:w56.cell? ⟨gb347,10,none⟩=some (.bool false):=(blk_cell BK347.out 10).trans rfl; have hcz59_11:w56.cell? ⟨gb347,11,none⟩=some (.int .u64 0):=(blk_cell BK347.out 11).trans rfl; have hcz59_12:w56.cell? ⟨gb347,12,none⟩=some (.bool false):=(blk_cell BK347.out 12).trans rfl; have hfz59_0:=blk_frozen BK347.out 0; have hfz59_1:=blk_frozen BK347.out 1; have hfz59_2:=blk_frozen BK347.out 2; have hfz59_3:=blk_frozen BK347.out 3; have hfz59_4:=blk_frozen BK347.out 4; have hfz59_5:=blk_frozen BK347.out 5; have hfz59_6:=blk_frozen BK347.out 6; have hfz59_7:=blk_frozen BK347.out 7; have hfz59_8:=blk_frozen BK347.out 8; have hfz59_9:=blk_frozen BK347.out 9; have hfz59_10:=blk_frozen BK347.out 10; have hfz59_11:=blk_frozen BK347.out 11; have hfz59_12:=blk_frozen BK347.out 12; have hcz60_0:w56.cell? ⟨gb330,0,none⟩=some (.int .i64 1):=(blk_cell BK330.out 0).trans rfl; have hcz60_1:w56.cell? ⟨gb330,1,none⟩=some (.int .u64 a0_1):=(blk_cell BK330.out 1).trans rfl; have hcz60_2:w56.cell? ⟨gb330,2,none⟩=some (.int .i64 0):=(blk_cell BK330.out 2).trans rfl; have hcz60_3:w56.cell? ⟨gb330,3,none⟩=some (.int .u64 0):=(blk_cell BK330.out 3).trans rfl; have hcz60_4:w56.cell? ⟨gb330,4,none⟩=some (.bool false):=(blk_cell BK330.out 4).trans rfl; have hcz60_5:w56.cell? ⟨gb330,5,none⟩=some (.int .u64 0):=(blk_cell BK330.out 5).trans rfl; have hcz60_6:w56.cell? ⟨gb330,6,none⟩=some (.bool false):=(blk_cell BK330.out 6).trans rfl; have hcz60_7:w56.cell? ⟨gb330,7,none⟩=some (.int .u64 0):=(blk_cell BK330.out 7).trans rfl; have hcz60_8:w56.cell? ⟨gb330,8,none⟩=some (.bool false):=(blk_cell BK330.out 8).trans rfl; have hcz60_9:w56.cell? ⟨gb330,9,none⟩=some (.int .u64 0):=(blk_cell BK330.out 9).trans rfl; have hcz60_10:w56.cell? ⟨gb330,10,none⟩=some (.bool false):=(blk_cell BK330.out 10).trans rfl; have hcz60_11:w56.cell? ⟨gb330,11,none⟩=some (.int .u64 0):=(blk_cell BK330.out 11).trans rfl; have hcz60_12:w56.cell? ⟨gb330,12,none⟩=some (.bool false):=(blk_cell BK330.out 12).trans rfl; have hfz60_0:=blk_frozen BK330.out 0; have hfz60_1:=blk_frozen BK330.out 1; have hfz60_2:=blk_frozen BK330.out 2; have hfz60_3:=blk_frozen BK330.out 3; have hfz60_4:=blk_frozen BK330.out 4; have hfz60_5:=blk_frozen BK330.out 5; have hfz60_6:=blk_frozen BK330.out 6; have hfz60_7:=blk_frozen BK330.out 7; have hfz60_8:=blk_frozen BK330.out 8; have hfz60_9:=blk_frozen BK330.out 9; have hfz60_10:=blk_frozen BK330.out 10; have hfz60_11:=blk_frozen BK330.out 11; have hfz60_12:=blk_frozen BK330.out 12))
           go_ret
           exact ⟨by first | rfl | (simp [errW_none,errW_some] <;> rfl) | (simp [*,errW_none,errW_some] <;> rfl),by repeat (first | (with_reducible first | exact HB.out | apply below_alloc | apply pw_below_drewN | apply below_drew1 | refine below_set ?_ GE328.out | refine below_set ?_ GE330.out | refine below_set ?_ GE347.out) | exact HB.out)⟩
        ·rw [if_neg c23] at H
         have c23b0:(t346 == 0)=false:=beq_eq_false_iff_ne.mpr c23
         have c23b1:(t346 != 0)=true:=bne_iff_ne.mpr c23
         obtain rfl:=Option.some.inj H
         have hnb61:=NB330_328.out
         have hnc61:=NB328_330.out
         have hcz62_0:wr.cell? ⟨gb330,0,none⟩=some (.int .i64 1):=(blk_cell BK330.out 0).trans rfl
         have hcz62_1:wr.cell? ⟨gb330,1,none⟩=some (.int .u64 a0_1):=(blk_cell BK330.out 1).trans rfl
         have hcz62_2:wr.cell? ⟨gb330,2,none⟩=some (.int .i64 0):=(blk_cell BK330.out 2).trans rfl
         have hcz62_3:wr.cell? ⟨gb330,3,none⟩=some (.int .u64 0):=(blk_cell BK330.out 3).trans rfl
         have hcz62_4:wr.cell? ⟨gb330,4,none⟩=some (.bool false):=(blk_cell BK330.out 4).trans rfl
         have hcz62_5:wr.cell? ⟨gb330,5,none⟩=some (.int .u64 0):=(blk_cell BK330.out 5).trans rfl
         have hcz62_6:wr.cell? ⟨gb330,6,none⟩=some (.bool false):=(blk_cell BK330.out 6).trans rfl
         have hcz62_7:wr.cell? ⟨gb330,7,none⟩=some (.int .u64 0):=(blk_cell BK330.out 7).trans rfl
         have hcz62_8:wr.cell? ⟨gb330,8,none⟩=some (.bool false):=(blk_cell BK330.out 8).trans rfl
         have hcz62_9:wr.cell? ⟨gb330,9,none⟩=some (.int .u64 0):=(blk_cell BK330.out 9).trans rfl
         have hcz62_10:wr.cell? ⟨gb330,10,none⟩=some (.bool false):=(blk_cell BK330.out 10).trans rfl
         have hcz62_11:wr.cell? ⟨gb330,11,none⟩=some (.int .u64 0):=(blk_cell BK330.out 11).trans rfl
         have hcz62_12:wr.cell? ⟨gb330,12,none⟩=some (.bool false):=(blk_cell BK330.out 12).trans rfl
         have hfz62_0:=blk_frozen BK330.out 0
         have hfz62_1:=blk_frozen BK330.out 1
         have hfz62_2:=blk_frozen BK330.out 2
         have hfz62_3:=blk_frozen BK330.out 3
         have hfz62_4:=blk_frozen BK330.out 4
         have hfz62_5:=blk_frozen BK330.out 5
         have hfz62_6:=blk_frozen BK330.out 6
         have hfz62_7:=blk_frozen BK330.out 7
         have hfz62_8:=blk_frozen BK330.out 8
         have hfz62_9:=blk_frozen BK330.out 9
         have hfz62_10:=blk_frozen BK330.out 10
         have hfz62_11:=blk_frozen BK330.out 11
         have hfz62_12:=blk_frozen BK330.out 12
         go_wp2_with (first | ((with_reducible refine gate_callee (f:=16) rfl ?_); refine goesL_ (some 52) rfl rfl Tryd.func16 (by kernel_rfl) rfl #[.agg #[.int .i64 1,.int .u64 a0_1,.int .i64 0,.int .u64 0,.bool false,.int .u64 0,.bool false,.int .u64 0,.bool false,.int .u64 0,.bool false,.int .u64 0,.bool false],.int .u64 x9_2,.int .u64 x9_2] rfl (by (try simp only [List.map_toArray,List.map_cons,List.map_nil]); first | done | rfl | (simp only [List.length_drop,List.length_take]; rfl)) ?_; (with_reducible refine (rearm_Again.calls 1 a0_1 0 0 false 0 false 0 false 0 false 0 false x9_2 x9_2 t331 t332 t333 t334 t335 t336 t337 t338 t339 t340 t341 t342 t343 t344 t345 t346 _ (hT.keep (by repeat (first | (with_reducible first | exact HB.out | apply below_alloc | apply pw_below_drewN | apply below_drew1 | refine below_set ?_ GE328.out | refine below_set ?_ GE330.out | refine below_set ?_ GE347.out) | exact HB.out))) A22.out).mono ?_); rintro e w63 ⟨rfl,hb⟩; refine ⟨_,rfl,?_⟩; have n0_:=Aside0.mk (blk_below (g:=gb328) (o:=.cells #[.int .i64 a0_0,.int .u64 a0_1,.int .i64 a0_2,.int .u64 a0_3,.bool a0_4,.int .u64 a0_5,.bool a0_6,.int .u64 a0_7,.bool a0_8,.int .u64 a0_9,.bool a0_10,.int .u64 a0_11,.bool a0_12] 28 (0,0)) (by (with_reducible repeat (first | refine blk_drewN ?_ _ | refine blk_drew ?_ | refine blk_alloc ?_ _)); exact BK328.out) hb); have n1_:=Aside0.mk (blk_below (g:=gb330) (o:=.cells #[.int .i64 1,.int .u64 a0_1,.int .i64 0,.int .u64 0,.bool false,.int .u64 0,.bool false,.int .u64 0,.bool false,.int .u64 0,.bool false,.int .u64 0,.bool false] 28 (0,0)) (by (with_reducible repeat (first | refine blk_drewN ?_ _ | refine blk_drew ?_ | refine blk_alloc ?_ _)); exact BK330.out) hb); have n2_:=Aside0.mk (below_step (by repeat (first | (with_reducible first | exact HB.out | apply below_alloc | apply pw_below_drewN | apply below_drew1 | refine below_set ?_ GE328.out | refine below_set ?_ GE330.out) | exact HB.out)) hb); clear BK328; clear BK330; clear HB; have BK328:=n0_; have BK330:=n1_; have HB:=n2_; clear n0_ n1_ n2_; (try clear hb); (try clear hb2); (try clear hk); (try clear hi)) | ((with_reducible refine gate_dst (N:=12) rfl ?_); refine box_event ?hg (N:=12) ?hd (cs:=#[.int .i64 0,.int .u64 0,.int .i64 0,.int .u64 0,.bool false,.int .u64 0,.bool false,.int .u64 0,.bool false,.int .u64 0,.bool false,.int .u64 0,.bool false]) (t:=28) ?hr ?_; (case hd=>rfl); (case hg=>rfl); (case hr=>first | (go_simp; done) | (go_simp; rfl)); intro gb347 hg w64 hbox hb; have n0_:=Aside0.mk (blk_below (g:=gb328) (o:=.cells #[.int .i64 a0_0,.int .u64 a0_1,.int .i64 a0_2,.int .u64 a0_3,.bool a0_4,.int .u64 a0_5,.bool a0_6,.int .u64 a0_7,.bool a0_8,.int .u64 a0_9,.bool a0_10,.int .u64 a0_11,.bool a0_12] 28 (0,0)) (by (with_reducible repeat (first | refine blk_drewN ?_ _ | refine blk_drew ?_ | refine blk_alloc ?_ _)); exact BK328.out) hb); have n1_:=Aside0.mk (blk_below (g:=gb330) (o:=.cells #[.int .i64 1,.int .u64 a0_1,.int .i64 0,.int .u64 0,.bool false,.int .u64 0,.bool false,.int .u64 0,.bool false,.int .u64 0,.bool false,.int .u64 0,.bool false] 28 (0,0)) (by (with_reducible repeat (first | refine blk_drewN ?_ _ | refine blk_drew ?_ | refine blk_alloc ?_ _)); exact BK330.out) hb); have n2_:=Aside0.mk (below_step (by repeat (first | (with_reducible first | exact HB.out | apply below_alloc | apply pw_below_drewN | apply below_drew1 | refine below_set ?_ GE328.out | refine below_set ?_ GE330.out) | exact HB.out)) hb); have n3_:=Aside0.mk (hbox); have n4_:=Aside0.mk ((by rw [hg]; exact (below_size (by repeat (first | (with_reducible first | exact HB.out | apply below_alloc | apply pw_below_drewN | apply below_drew1 | refine below_set ?_ GE328.out | refine below_set ?_ GE330.out) | exact HB.out))):w.heap.size≤gb347)); have n5_:=Aside0.mk ((by rw [hg]; exact (below_size (by repeat (first | (with_reducible first | exact HB.out | apply below_alloc | apply pw_below_drewN | apply below_drew1 | refine below_set ?_ GE328.out | refine below_set ?_ GE330.out) | exact HB.out))):w.heap.size≤gb347)); have n6_:=Aside0.mk ((by rw [hg]; exact Nat.ne_of_lt (blk_lt (g:=gb328) (o:=.cells #[.int .i64 a0_0,.int .u64 a0_1,.int .i64 a0_2,.int .u64 a0_3,.bool a0_4,.int .u64 a0_5,.bool a0_6,.int .u64 a0_7,.bool a0_8,.int .u64 a0_9,.bool a0_10,.int .u64 a0_11,.bool a0_12] 28 (0,0)) (by (with_reducible repeat (first | refine blk_drewN ?_ _ | refine blk_drew ?_ | refine blk_alloc ?_ _)); exact BK328.out)):gb328≠gb347)); have n7_:=Aside0.mk ((by rw [hg]; exact Nat.ne_of_gt (blk_lt (g:=gb328) (o:=.cells #[.int .i64 a0_0,.int .u64 a0_1,.int .i64 a0_2,.int .u64 a0_3,.bool a0_4,.int .u64 a0_5,.bool a0_6,.int .u64 a0_7,.bool a0_8,.int .u64 a0_9,.bool a0_10,.int .u64 a0_11,.bool a0_12] 28 (0,0)) (by (with_reducible repeat (first | refine blk_drewN ?_ _ | refine blk_drew ?_ | refine blk_alloc ?_ _)); exact BK328.out)):gb347≠gb328)); have n8_:=Aside0.mk ((by rw [hg]; exact Nat.ne_of_lt (blk_lt (g:=gb330) (o:=.cells #[.int .i64 1,.int .u64 a0_1,.int .i64 0,.int .u64 0,.bool false,.int .u64 0,.bool false,.int .u64 0,.bool false,.int .u64 0,.bool false,.int .u64 0,.bool false] 28 (0,0)) (by (with_reducible repeat (first | refine blk_drewN ?_ _ | refine blk_drew ?_ | refine blk_alloc ?_ _)); exact BK330.out)):gb330≠gb347)); have n9_:=Aside0.mk ((by rw [hg]; exact Nat.ne_of_gt (blk_lt (g:=gb330) (o:=.cells #[.int .i64 1,.int .u64 a0_1,.int .i64 0,.int .u64 0,.bool false,.int .u64 0,.bool false,.int .u64 0,.bool false,.int .u64 0,.bool false,.int .u64 0,.bool false] 28 (0,0)) (by (with_reducible repeat (first | refine blk_drewN ?_ _ | refine blk_drew ?_ | refine blk_alloc ?_ _)); exact BK330.out)):gb347≠gb330)); clear BK328; clear BK330; clear HB; have BK328:=n0_; have BK330:=n1_; have HB:=n2_; have BK347:=n3_; have GW347:=n4_; have GE347:=n5_; have NB328_347:=n6_; have NB347_328:=n7_; have NB330_347:=n8_; have NB347_330:=n9_; clear n0_ n1_ n2_ n3_ n4_ n5_ n6_ n7_ n8_ n9_; clear hb hbox hg; have hnb65:=NB347_328.out; have hnc65:=NB328_347.out; have hnb66:=NB347_330.out; have hnc66:=NB330_347.out; have hcz67_0:w64.cell? ⟨gb347,0,none⟩=some (.int .i64 0):=(blk_cell BK347.out 0).trans rfl; have hcz67_1:w64.cell? ⟨gb347,1,none⟩=some (.int .u64 0):=(blk_cell BK347.out 1).trans rfl; have hcz67_2:w64.cell? ⟨gb347,2,none⟩=some (.int .i64 0):=(blk_cell BK347.out 2).trans rfl; have hcz67_3:w64.cell? ⟨gb347,3,none⟩=some (.int .u64 0):=(blk_cell BK347.out 3).trans rfl; have hcz67_4:w64.cell? ⟨gb347,4,none⟩=some (.bool false):=(blk_cell BK347.out 4).trans rfl; have hcz67_5:w64.cell? ⟨gb347,5,none⟩=some (.int .u64 0):=(blk_cell BK347.out 5).trans rfl; have hcz67_6:w64.cell? ⟨gb347,6,none⟩=some (.bool false):=(blk_cell BK347.out 6).trans rfl; have hcz67_7:w64.cell? ⟨gb347,7,none⟩=some (.int .u64 0):=(blk_cell BK347.out 7).trans rfl; have hcz67_8:w64.cell? ⟨gb347,8,none⟩=some (.bool false):=(blk_cell BK347.out 8).trans rfl; have hcz67_9:w64.cell? ⟨gb347,9,none⟩=some (.int .u64 0):=(blk_cell BK347.out 9).trans rfl; have hcz67_10:w64.cell? ⟨gb347,10,none⟩=some (.bool false):=(blk_cell BK347.out 10).trans rfl; have hcz67_11:w64.cell? ⟨gb347,11,none⟩=some (.int .u64 0):=(blk_cell BK347.out 11).trans rfl; have hcz67_12:w64.cell? ⟨gb347,12,none⟩=some (.bool false):=(blk_cell BK347.out 12).trans rfl; have hfz67_0:=blk_frozen BK347.out 0; have hfz67_1:=blk_frozen BK347.out 1; have hfz67_2:=blk_frozen BK347.out 2; have hfz67_3:=blk_frozen BK347.out 3; have hfz67_4:=blk_frozen BK347.out 4; have hfz67_5:=blk_frozen BK347.out 5; have hfz67_6:=blk_frozen BK347.out 6; have hfz67_7:=blk_frozen BK347.out 7; have hfz67_8:=blk_frozen BK347.out 8; have hfz67_9:=blk_frozen BK347.out 9; have hfz67_10:=blk_frozen BK347.out 10; have hfz67_11:=blk_frozen BK347.out 11; have hfz67_12:=blk_frozen BK347.out 12))
         go_ret
         exact ⟨by first | rfl | (simp [errW_none,errW_some] <;> rfl) | (simp [*,errW_none,errW_some] <;> rfl),by repeat (first | (with_reducible first | exact HB.out | apply below_alloc | apply pw_below_drewN | apply below_drew1 | refine below_set ?_ GE328.out | refine below_set ?_ GE330.out | refine below_set ?_ GE347.out) | exact HB.out)⟩
       ·rw [if_neg c21] at H
        have c21b0:decide (x10_2 < a2)=false:=decide_eq_false c21
        clear c21
        by_cases c68:true=true
        ·clear c68
         have H1:(some (x9_2 == (IntKind.u64.wrap (a1+(IntKind.u64.wrap ((IntKind.u64.wrap (a2))*a0_1))))))=some r:=by first | (rw [if_pos rfl] at H; exact H) | (rw [if_pos trivial] at H; exact H)
         clear H
         have H:=H1
         clear H1
         obtain rfl:=Option.some.inj H
         have hnb69:=NB328_330.out
         have hnc69:=NB330_328.out
         have hcz70_0:wr.cell? ⟨gb328,0,none⟩=some (.int .i64 a0_0):=(blk_cell BK328.out 0).trans rfl
         have hcz70_1:wr.cell? ⟨gb328,1,none⟩=some (.int .u64 a0_1):=(blk_cell BK328.out 1).trans rfl
         have hcz70_2:wr.cell? ⟨gb328,2,none⟩=some (.int .i64 a0_2):=(blk_cell BK328.out 2).trans rfl
         have hcz70_3:wr.cell? ⟨gb328,3,none⟩=some (.int .u64 a0_3):=(blk_cell BK328.out 3).trans rfl
         have hcz70_4:wr.cell? ⟨gb328,4,none⟩=some (.bool a0_4):=(blk_cell BK328.out 4).trans rfl
         have hcz70_5:wr.cell? ⟨gb328,5,none⟩=some (.int .u64 a0_5):=(blk_cell BK328.out 5).trans rfl
         have hcz70_6:wr.cell? ⟨gb328,6,none⟩=some (.bool a0_6):=(blk_cell BK328.out 6).trans rfl
         have hcz70_7:wr.cell? ⟨gb328,7,none⟩=some (.int .u64 a0_7):=(blk_cell BK328.out 7).trans rfl
         have hcz70_8:wr.cell? ⟨gb328,8,none⟩=some (.bool a0_8):=(blk_cell BK328.out 8).trans rfl
         have hcz70_9:wr.cell? ⟨gb328,9,none⟩=some (.int .u64 a0_9):=(blk_cell BK328.out 9).trans rfl
         have hcz70_10:wr.cell? ⟨gb328,10,none⟩=some (.bool a0_10):=(blk_cell BK328.out 10).trans rfl
         have hcz70_11:wr.cell? ⟨gb328,11,none⟩=some (.int .u64 a0_11):=(blk_cell BK328.out 11).trans rfl
         have hcz70_12:wr.cell? ⟨gb328,12,none⟩=some (.bool a0_12):=(blk_cell BK328.out 12).trans rfl
         have hfz70_0:=blk_frozen BK328.out 0
         have hfz70_1:=blk_frozen BK328.out 1
         have hfz70_2:=blk_frozen BK328.out 2
         have hfz70_3:=blk_frozen BK328.out 3
         have hfz70_4:=blk_frozen BK328.out 4
         have hfz70_5:=blk_frozen BK328.out 5
         have hfz70_6:=blk_frozen BK328.out 6
         have hfz70_7:=blk_frozen BK328.out 7
         have hfz70_8:=blk_frozen BK328.out 8
         have hfz70_9:=blk_frozen BK328.out 9
         have hfz70_10:=blk_frozen BK328.out 10
         have hfz70_11:=blk_frozen BK328.out 11
         have hfz70_12:=blk_frozen BK328.out 12
         go_wp2
         go_ret
         exact ⟨by first | rfl | (simp [errW_none,errW_some] <;> rfl) | (simp [*,errW_none,errW_some] <;> rfl),by repeat (first | (with_reducible first | exact HB.out | apply below_alloc | apply pw_below_drewN | apply below_drew1 | refine below_set ?_ GE328.out | refine below_set ?_ GE330.out) | exact HB.out)⟩
        ·exact absurd rfl c68
 ·replace c5:=Bool.eq_false_iff.mpr c5
  subst c5
  have H1:(some false)=some r:=by rw [if_neg (show ¬ (false=true) by decide)] at H; exact H
  clear H
  have H:=H1
  clear H1
  obtain rfl:=Option.some.inj H
  go_enter Tryd.func7,Tryd.ntmps7
  go_wp2_with (first | ((with_reducible refine gate_dst (N:=3) rfl ?_); refine box_event ?hg (N:=3) ?hd (cs:=#[.int .i64 a0_0,.int .u64 a0_1,.int .i64 a0_2,.int .u64 a0_3,.bool a0_4,.int .u64 a0_5,.bool a0_6,.int .u64 a0_7,.bool a0_8,.int .u64 a0_9,.bool a0_10,.int .u64 a0_11,.bool a0_12]) (t:=28) ?hr ?_; (case hd=>rfl); (case hg=>rfl); (case hr=>first | (go_simp; done) | (go_simp; rfl)); intro gb328 hg w71 hbox hb; have n0_:=Aside0.mk (below_step (by repeat (first | (with_reducible first | exact HB.out | apply below_alloc | apply pw_below_drewN | apply below_drew1) | exact HB.out)) hb); have n1_:=Aside0.mk (hbox); have n2_:=Aside0.mk ((by rw [hg]; exact (below_size (by repeat (first | (with_reducible first | exact HB.out | apply below_alloc | apply pw_below_drewN | apply below_drew1) | exact HB.out))):w.heap.size≤gb328)); have n3_:=Aside0.mk ((by rw [hg]; exact (below_size (by repeat (first | (with_reducible first | exact HB.out | apply below_alloc | apply pw_below_drewN | apply below_drew1) | exact HB.out))):w.heap.size≤gb328)); clear HB; have HB:=n0_; have BK328:=n1_; have GW328:=n2_; have GE328:=n3_; clear n0_ n1_ n2_ n3_; clear hb hbox hg) | ((with_reducible refine gate_callee (f:=9) rfl ?_); refine goesL_ (some 15) rfl rfl Tryd.func9 (by kernel_rfl) rfl #[] rfl (by (try simp only [List.map_toArray,List.map_cons,List.map_nil]); first | done | rfl | (simp only [List.length_drop,List.length_take]; rfl)) ?_; (with_reducible refine (complinelaw23_works.calls  false _ (hT.keep (by repeat (first | (with_reducible first | exact HB.out | apply below_alloc | apply pw_below_drewN | apply below_drew1 | refine below_set ?_ GE328.out | refine below_set ?_ GE330.out | refine below_set ?_ GE347.out) | exact HB.out))) A4.out).mono ?_); rintro e w72 ⟨rfl,hb⟩; refine ⟨_,rfl,?_⟩; have n0_:=Aside0.mk (blk_below (g:=gb328) (o:=.cells #[.int .i64 a0_0,.int .u64 a0_1,.int .i64 a0_2,.int .u64 a0_3,.bool a0_4,.int .u64 a0_5,.bool a0_6,.int .u64 a0_7,.bool a0_8,.int .u64 a0_9,.bool a0_10,.int .u64 a0_11,.bool a0_12] 28 (0,0)) (by (with_reducible repeat (first | refine blk_drewN ?_ _ | refine blk_drew ?_ | refine blk_alloc ?_ _)); exact BK328.out) hb); have n1_:=Aside0.mk (below_step (by repeat (first | (with_reducible first | exact HB.out | apply below_alloc | apply pw_below_drewN | apply below_drew1 | refine below_set ?_ GE328.out) | exact HB.out)) hb); clear BK328; clear HB; have BK328:=n0_; have HB:=n1_; clear n0_ n1_; (try clear hb); (try clear hb2); (try clear hk); (try clear hi)))
  go_ret
  exact ⟨by first | rfl | (simp [errW_none,errW_some] <;> rfl) | (simp [*,errW_none,errW_some] <;> rfl),by repeat (first | (with_reducible first | exact HB.out | apply below_alloc | apply pw_below_drewN | apply below_drew1 | refine below_set ?_ GE328.out) | exact HB.out)⟩
end Go.Proofs.YtepflnfnkfkldaaDoor.PRea
