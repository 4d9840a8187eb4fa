-- Written by a program of this session (gprint.py) over the kit's print.
import Derived.Test.YtepflnfnkfkldaaDoorPReax0
import Derived.Test.YtepflnfnkfkldaaDoorPReax10
import Derived.Test.YtepflnfnkfkldaaDoorPReax11
namespace Go.Proofs.YtepflnfnkfkldaaDoor.PRea
open Go.RowKit Go.Proofs.YtepflnfnkfkldaaDoorW.PrintWords Go.Proofs.YtepflnfnkfkldaaDoorW.PrintLast Go.Proofs.YtepflnfnkfkldaaDoorW.PrintMore
attribute [local go_sem] max2_int min2_int max_two min_two max_three min_three max_four min_four
set_option linter.unusedVariables false
set_option linter.unusedSimpArgs false
mutual
def complinelaw23_RearmLeft.j0:Nat→Int→Int→List Int→Bool→Bool→Int→Int→Int→Int→Bool→Int→Bool→Int→Bool→Int→Bool→Int→Bool→Option (Bool)
 | 0,_,_,_,_,_,_,_,_,_,_,_,_,_,_,_,_,_,_=>none
 | k+1,x1,x2,x3,x9,x54,x288000,x288001,x288002,x288003,x288004,x288005,x288006,x288007,x288008,x288009,x288010,x288011,x288012=>if x54=true then (some x9) else (complinelaw23_RearmLeft.l0 k x2 x3 x9 x1 1 x288000 x288001 x288002 x288003 x288004 x288005 x288006 x288007 x288008 x288009 x288010 x288011 x288012 1 x288001 x2 0 false 0 false 0 false 0 false 0 false)
def complinelaw23_RearmLeft.l0:Nat→Int→List Int→Bool→Int→Int→Int→Int→Int→Int→Bool→Int→Bool→Int→Bool→Int→Bool→Int→Bool→Int→Int→Int→Int→Bool→Int→Bool→Int→Bool→Int→Bool→Int→Bool→Option (Bool)
 | 0,_,_,_,_,_,_,_,_,_,_,_,_,_,_,_,_,_,_,_,_,_,_,_,_,_,_,_,_,_,_,_=>none
 | k+1,x2,x3,x9,x11,x12,x288000,x288001,x288002,x288003,x288004,x288005,x288006,x288007,x288008,x288009,x288010,x288011,x288012,x290000,x290001,x290002,x290003,x290004,x290005,x290006,x290007,x290008,x290009,x290010,x290011,x290012=>if x12 < x2 then (if 0≤x12 then (if x12 < (x3.length:Int) then (if (rd x3 x12) > 1000000 then (some x9) else ((rearm_Again.f x290000 x290001 x290002 x290003 x290004 x290005 x290006 x290007 x290008 x290009 x290010 x290011 x290012 x11 (IntKind.u64.wrap (x11+(rd x3 x12)))).bind fun bt309=>(if bt309.2.2.2.2.2.2.2.2.2.2.2.2.2.2.2=0 then (if bt309.2.2.2.1=(wrap64 (x2 - x12)) then (if bt309.1≤(IntKind.u64.wrap (x11+(rd x3 x12))) then (some false) else (if bt309.1 > (IntKind.u64.wrap ((IntKind.u64.wrap (x11+(rd x3 x12)))+x288001)) then (some false) else (complinelaw23_RearmLeft.l0 k x2 x3 x9 bt309.1 (wrap64 (x12+1)) x288000 x288001 x288002 x288003 x288004 x288005 x288006 x288007 x288008 x288009 x288010 x288011 x288012 bt309.2.1 bt309.2.2.1 bt309.2.2.2.1 bt309.2.2.2.2.1 bt309.2.2.2.2.2.1 bt309.2.2.2.2.2.2.1 bt309.2.2.2.2.2.2.2.1 bt309.2.2.2.2.2.2.2.2.1 bt309.2.2.2.2.2.2.2.2.2.1 bt309.2.2.2.2.2.2.2.2.2.2.1 bt309.2.2.2.2.2.2.2.2.2.2.2.1 bt309.2.2.2.2.2.2.2.2.2.2.2.2.1 bt309.2.2.2.2.2.2.2.2.2.2.2.2.2.1))) else (some false)) else (some false)))) else (none)) else (none)) else ((rearm_Again.f x290000 x290001 x290002 x290003 x290004 x290005 x290006 x290007 x290008 x290009 x290010 x290011 x290012 x11 x11).bind fun bt290=>(if x9=true then (some (bt290.2.2.2.2.2.2.2.2.2.2.2.2.2.2.2 == 5)) else (some false)))
end
def complinelaw23_RearmLeft.f (k:Nat)(a0_0:Int)(a0_1:Int)(a0_2:Int)(a0_3:Int)(a0_4:Bool)(a0_5:Int)(a0_6:Bool)(a0_7:Int)(a0_8:Bool)(a0_9:Int)(a0_10:Bool)(a0_11:Int)(a0_12:Bool)(a1:Int)(a2:Int)(l3:List Int):Option (Bool):=(complinelaw23_works.f).bind fun t288=>(if t288=true then (if a2 < 1 then (complinelaw23_RearmLeft.j0 k a1 a2 l3 t288 true a0_0 a0_1 a0_2 a0_3 a0_4 a0_5 a0_6 a0_7 a0_8 a0_9 a0_10 a0_11 a0_12) else (if a2 > 40 then (complinelaw23_RearmLeft.j0 k a1 a2 l3 t288 true a0_0 a0_1 a0_2 a0_3 a0_4 a0_5 a0_6 a0_7 a0_8 a0_9 a0_10 a0_11 a0_12) else (if (l3.length:Int) < a2 then (complinelaw23_RearmLeft.j0 k a1 a2 l3 t288 true a0_0 a0_1 a0_2 a0_3 a0_4 a0_5 a0_6 a0_7 a0_8 a0_9 a0_10 a0_11 a0_12) else (if a0_0=1 then (if a0_1=0 then (complinelaw23_RearmLeft.j0 k a1 a2 l3 t288 true a0_0 a0_1 a0_2 a0_3 a0_4 a0_5 a0_6 a0_7 a0_8 a0_9 a0_10 a0_11 a0_12) else (if a0_1 > 1000000 then (complinelaw23_RearmLeft.j0 k a1 a2 l3 t288 true a0_0 a0_1 a0_2 a0_3 a0_4 a0_5 a0_6 a0_7 a0_8 a0_9 a0_10 a0_11 a0_12) else (complinelaw23_RearmLeft.j0 k a1 a2 l3 t288 (decide (a1 > 1000000)) a0_0 a0_1 a0_2 a0_3 a0_4 a0_5 a0_6 a0_7 a0_8 a0_9 a0_10 a0_11 a0_12))) else (complinelaw23_RearmLeft.j0 k a1 a2 l3 t288 true a0_0 a0_1 a0_2 a0_3 a0_4 a0_5 a0_6 a0_7 a0_8 a0_9 a0_10 a0_11 a0_12))))) else (some false))
def complinelaw23_RearmLeft.T13:Bool × List (List Nat × List Nat):=(true,[([],[]),([],[]),([],[]),([],[]),([],[]),([3,4],[3,4]),([5],[5]),([2,6],[2,6]),([0,1,7],[0,1,7]),([8],[8]),([9],[9]),([9],[9]),([9],[9]),([9],[9]),([],[]),([10,8,0,1,2,3,4,5,6,7,8,9,10,14],[10]),([14,11,15,0,1,2,3,4,5,6,7,8,9,10,11,14,15],[11,14]),([12,16,0,1,2,3,4,5,6,7,8,9,10,11,12,14,15,16],[12]),([13,17,0,1,2,3,4,5,6,7,8,9,10,11,12,13,14,15,16,17],[13])])
def complinelaw23_RearmLeft.B13:List Nat:=[0,0,0,0,0,24,56,124,255,511,1023,1023,1023,1023,0,18431,53247,122879,262143]
theorem complinelaw23_RearmLeft.tab13:rtab .any (opsOf Tryd.f6 13)=complinelaw23_RearmLeft.T13:=by kernel_rfl
theorem complinelaw23_RearmLeft.bits13:waitsOk complinelaw23_RearmLeft.T13.2 complinelaw23_RearmLeft.B13=true:=by kernel_rfl
def complinelaw23_RearmLeft.T14:Bool × List (List Nat × List Nat):=(true,[([],[]),([0],[0]),([1],[1]),([2],[2]),([3,2],[2,3]),([2],[2]),([2],[2]),([5,6,2],[2,5,6]),([4,7,2],[2,4,7]),([2,8],[2,8]),([9,2],[9]),([10],[10]),([10],[10]),([10],[10]),([10],[10]),([13,14,10],[10,13,14]),([15,10],[10,15]),([12,16,10],[10,12,16]),([11,17,10],[10,11,17]),([10,18],[10,18]),([19,10],[19]),([20],[20]),([20],[20]),([20],[20]),([20],[20]),([23,24,20],[20,23,24]),([25,20],[20,25]),([22,26,20],[20,22,26]),([20],[20]),([28,20],[20,28]),([27,29,20],[20,27,29]),([21,30,20],[20,21,30]),([20,31],[20,31])])
def complinelaw23_RearmLeft.B14:List Nat:=[0,1,3,7,15,7,7,103,255,511,1023,2047,2047,2047,2047,26623,59391,129023,262143,524287,1048575,2097151,2097151,2097151,2097151,27262975,60817407,132120575,2097151,270532607,1071644671,2147483647,4294967295]
theorem complinelaw23_RearmLeft.tab14:rtab .any (opsOf Tryd.f6 14)=complinelaw23_RearmLeft.T14:=by kernel_rfl
theorem complinelaw23_RearmLeft.bits14:waitsOk complinelaw23_RearmLeft.T14.2 complinelaw23_RearmLeft.B14=true:=by kernel_rfl
set_option maxHeartbeats 8000000 in
set_option maxRecDepth 100000 in
theorem complinelaw23_RearmLeft.calls (k:Nat)(a0_0:Int)(a0_1:Int)(a0_2:Int)(a0_3:Int)(a0_4:Bool)(a0_5:Int)(a0_6:Bool)(a0_7:Int)(a0_8:Bool)(a0_9:Int)(a0_10:Bool)(a0_11:Int)(a0_12:Bool)(a1:Int)(a2:Int)(A3:Option Addr)(c3:Nat)(l3:List Int)(w:World)(hT:Tab w)(hr3:Kd.C (Kd.int .u64) w A3 l3.length l3)(hc3:l3.length≤c3)(h:complinelaw23_RearmLeft.f k a0_0 a0_1 a0_2 a0_3 a0_4 a0_5 a0_6 a0_7 a0_8 a0_9 a0_10 a0_11 a0_12 a1 a2 l3=some true) :
  Calls Tryd.prog 6 #[.agg #[.int .i64 a0_0,.int .u64 a0_1,.int .i64 a0_2,.int .u64 a0_3,.bool a0_4,.int .u64 a0_5,.bool a0_6,.int .u64 a0_7,.bool a0_8,.int .u64 a0_9,.bool a0_10,.int .u64 a0_11,.bool a0_12],.int .u64 a1,.int .i64 a2,.slice A3 l3.length c3] w fun e w'=>e=.returned (.bool true)∧Below w.heap.size w w':=by
 have hu28:=Tryd.underlying28
 have HR3:=Aside0.mk hr3
 have HC3:=Aside0.mk hc3
 clear hr3 hc3
 have HB:=Aside0.mk (Below.refl w.heap.size w)
 have H:((complinelaw23_works.f).bind fun t288=>(if t288=true then (if a2 < 1 then (complinelaw23_RearmLeft.j0 k a1 a2 l3 t288 true a0_0 a0_1 a0_2 a0_3 a0_4 a0_5 a0_6 a0_7 a0_8 a0_9 a0_10 a0_11 a0_12) else (if a2 > 40 then (complinelaw23_RearmLeft.j0 k a1 a2 l3 t288 true a0_0 a0_1 a0_2 a0_3 a0_4 a0_5 a0_6 a0_7 a0_8 a0_9 a0_10 a0_11 a0_12) else (if (l3.length:Int) < a2 then (complinelaw23_RearmLeft.j0 k a1 a2 l3 t288 true a0_0 a0_1 a0_2 a0_3 a0_4 a0_5 a0_6 a0_7 a0_8 a0_9 a0_10 a0_11 a0_12) else (if a0_0=1 then (if a0_1=0 then (complinelaw23_RearmLeft.j0 k a1 a2 l3 t288 true a0_0 a0_1 a0_2 a0_3 a0_4 a0_5 a0_6 a0_7 a0_8 a0_9 a0_10 a0_11 a0_12) else (if a0_1 > 1000000 then (complinelaw23_RearmLeft.j0 k a1 a2 l3 t288 true a0_0 a0_1 a0_2 a0_3 a0_4 a0_5 a0_6 a0_7 a0_8 a0_9 a0_10 a0_11 a0_12) else (complinelaw23_RearmLeft.j0 k a1 a2 l3 t288 (decide (a1 > 1000000)) a0_0 a0_1 a0_2 a0_3 a0_4 a0_5 a0_6 a0_7 a0_8 a0_9 a0_10 a0_11 a0_12))) else (complinelaw23_RearmLeft.j0 k a1 a2 l3 t288 true a0_0 a0_1 a0_2 a0_3 a0_4 a0_5 a0_6 a0_7 a0_8 a0_9 a0_10 a0_11 a0_12))))) else (some false)))=some true:=h
 clear h
 replace H:=Option.bind_eq_some_iff.mp H
 obtain ⟨t288,A50,H⟩ :=H
 replace H:(if t288=true then (if a2 < 1 then (complinelaw23_RearmLeft.j0 k a1 a2 l3 t288 true a0_0 a0_1 a0_2 a0_3 a0_4 a0_5 a0_6 a0_7 a0_8 a0_9 a0_10 a0_11 a0_12) else (if a2 > 40 then (complinelaw23_RearmLeft.j0 k a1 a2 l3 t288 true a0_0 a0_1 a0_2 a0_3 a0_4 a0_5 a0_6 a0_7 a0_8 a0_9 a0_10 a0_11 a0_12) else (if (l3.length:Int) < a2 then (complinelaw23_RearmLeft.j0 k a1 a2 l3 t288 true a0_0 a0_1 a0_2 a0_3 a0_4 a0_5 a0_6 a0_7 a0_8 a0_9 a0_10 a0_11 a0_12) else (if a0_0=1 then (if a0_1=0 then (complinelaw23_RearmLeft.j0 k a1 a2 l3 t288 true a0_0 a0_1 a0_2 a0_3 a0_4 a0_5 a0_6 a0_7 a0_8 a0_9 a0_10 a0_11 a0_12) else (if a0_1 > 1000000 then (complinelaw23_RearmLeft.j0 k a1 a2 l3 t288 true a0_0 a0_1 a0_2 a0_3 a0_4 a0_5 a0_6 a0_7 a0_8 a0_9 a0_10 a0_11 a0_12) else (complinelaw23_RearmLeft.j0 k a1 a2 l3 t288 (decide (a1 > 1000000)) a0_0 a0_1 a0_2 a0_3 a0_4 a0_5 a0_6 a0_7 a0_8 a0_9 a0_10 a0_11 a0_12))) else (complinelaw23_RearmLeft.j0 k a1 a2 l3 t288 true a0_0 a0_1 a0_2 a0_3 a0_4 a0_5 a0_6 a0_7 a0_8 a0_9 a0_10 a0_11 a0_12))))) else (some false))=some true:=H
 have A5:=Aside0.mk A50
 clear A50
 by_cases c6:t288=true
 ·subst c6
  have H1:(if a2 < 1 then (complinelaw23_RearmLeft.j0 k a1 a2 l3 true true a0_0 a0_1 a0_2 a0_3 a0_4 a0_5 a0_6 a0_7 a0_8 a0_9 a0_10 a0_11 a0_12) else (if a2 > 40 then (complinelaw23_RearmLeft.j0 k a1 a2 l3 true true a0_0 a0_1 a0_2 a0_3 a0_4 a0_5 a0_6 a0_7 a0_8 a0_9 a0_10 a0_11 a0_12) else (if (l3.length:Int) < a2 then (complinelaw23_RearmLeft.j0 k a1 a2 l3 true true a0_0 a0_1 a0_2 a0_3 a0_4 a0_5 a0_6 a0_7 a0_8 a0_9 a0_10 a0_11 a0_12) else (if a0_0=1 then (if a0_1=0 then (complinelaw23_RearmLeft.j0 k a1 a2 l3 true true a0_0 a0_1 a0_2 a0_3 a0_4 a0_5 a0_6 a0_7 a0_8 a0_9 a0_10 a0_11 a0_12) else (if a0_1 > 1000000 then (complinelaw23_RearmLeft.j0 k a1 a2 l3 true true a0_0 a0_1 a0_2 a0_3 a0_4 a0_5 a0_6 a0_7 a0_8 a0_9 a0_10 a0_11 a0_12) else (complinelaw23_RearmLeft.j0 k a1 a2 l3 true (decide (a1 > 1000000)) a0_0 a0_1 a0_2 a0_3 a0_4 a0_5 a0_6 a0_7 a0_8 a0_9 a0_10 a0_11 a0_12))) else (complinelaw23_RearmLeft.j0 k a1 a2 l3 true true a0_0 a0_1 a0_2 a0_3 a0_4 a0_5 a0_6 a0_7 a0_8 a0_9 a0_10 a0_11 a0_12)))))=some true:=by first | (rw [if_pos rfl] at H; exact H) | (rw [if_pos trivial] at H; exact H)
  clear H
  have H:=H1
  clear H1
  have HC7:=Aside0.mk H
  clear H
  go_enter Tryd.func6,Tryd.ntmps6
  go_upto_region 4 with (first | ((with_reducible refine gate_dst (N:=4) rfl ?_); (try (refine gate_guard (by rfl) ?_; dsimp only)); refine box_event ?hg (N:=4) ?hd (cs:=#[.int .i64 a0_0,.int .u64 a0_1,.int .i64 a0_2,.int .u64 a0_3,.bool a0_4,.int .u64 a0_5,.bool a0_6,.int .u64 a0_7,.bool a0_8,.int .u64 a0_9,.bool a0_10,.int .u64 a0_11,.bool a0_12]) (t:=28) ?hr ?_; (case hd=>rfl); (case hg=>rfl); (case hr=>first | (go_simp; done) | (go_simp; rfl)); intro gb287 hg w8 hbox hb; have n0_:=Aside0.mk (below_step (by repeat (first | (with_reducible first | exact HB.out | apply below_alloc | apply pw_below_drewN | apply below_drew1) | exact HB.out)) hb); have n1_:=Aside0.mk (hbox); have n2_:=Aside0.mk ((by rw [hg]; exact (below_size (by repeat (first | (with_reducible first | exact HB.out | apply below_alloc | apply pw_below_drewN | apply below_drew1) | exact HB.out))):w.heap.size≤gb287)); have n3_:=Aside0.mk ((by rw [hg]; exact (below_size (by repeat (first | (with_reducible first | exact HB.out | apply below_alloc | apply pw_below_drewN | apply below_drew1) | exact HB.out))):w.heap.size≤gb287)); clear HB; have HB:=n0_; have BK287:=n1_; have GW287:=n2_; have GE287:=n3_; clear n0_ n1_ n2_ n3_; clear hb hbox hg) | ((with_reducible refine gate_callee (f:=9) rfl ?_); refine goesL_ (some 21) rfl rfl Tryd.func9 (by kernel_rfl) rfl #[] rfl (by (try simp only [List.map_toArray,List.map_cons,List.map_nil]); first | done | rfl | (simp only [List.length_drop,List.length_take]; rfl)) ?_; (with_reducible refine (complinelaw23_works.calls  true _ (hT.keep (by repeat (first | (with_reducible first | exact HB.out | apply below_alloc | apply pw_below_drewN | apply below_drew1 | refine below_set ?_ GE287.out | refine below_set ?_ GE289.out | refine below_set ?_ GE306.out | refine below_set ?_ GE325.out) | exact HB.out))) A5.out).mono ?_); rintro e w9 ⟨rfl,hb⟩; refine ⟨_,rfl,?_⟩; have n0_:=Aside0.mk (blk_below (g:=gb287) (o:=.cells #[.int .i64 a0_0,.int .u64 a0_1,.int .i64 a0_2,.int .u64 a0_3,.bool a0_4,.int .u64 a0_5,.bool a0_6,.int .u64 a0_7,.bool a0_8,.int .u64 a0_9,.bool a0_10,.int .u64 a0_11,.bool a0_12] 28 (0,0)) (by (with_reducible repeat (first | refine blk_drewN ?_ _ | refine blk_drew ?_ | refine blk_alloc ?_ _)); exact BK287.out) hb); have n1_:=Aside0.mk (below_step (by repeat (first | (with_reducible first | exact HB.out | apply below_alloc | apply pw_below_drewN | apply below_drew1 | refine below_set ?_ GE287.out) | exact HB.out)) hb); clear BK287; clear HB; have BK287:=n0_; have HB:=n1_; clear n0_ n1_; (try clear hb); (try clear hb2); (try clear hk); (try clear hi)))
  (try simp only [Act.put,List.setIfInBounds_toArray,List.set_cons_zero,List.set_cons_succ])
  go_cut [54] (fun v54 wc=>∃ (kq:Nat) (x54_6:Bool),v54=.bool x54_6∧Aside0 (complinelaw23_RearmLeft.j0 kq a1 a2 l3 true x54_6 a0_0 a0_1 a0_2 a0_3 a0_4 a0_5 a0_6 a0_7 a0_8 a0_9 a0_10 a0_11 a0_12=some true)∧Aside0 (kq≤k)∧Aside0 (wc.heap[gb287]?=some (.cells #[.int .i64 a0_0,.int .u64 a0_1,.int .i64 a0_2,.int .u64 a0_3,.bool a0_4,.int .u64 a0_5,.bool a0_6,.int .u64 a0_7,.bool a0_8,.int .u64 a0_9,.bool a0_10,.int .u64 a0_11,.bool a0_12] 28 (0,0)))∧Aside0 (Below w.heap.size w wc))
  case first=>
   have H:=HC7.out
   clear HC7
   by_cases c10:a2 < 1
   ·rw [if_pos c10] at H
    have c10b0:decide (a2 < 1)=true:=decide_eq_true c10
    clear c10
    (first | rw [c10b0] | (simp only [i64_w,i32_w]; rw [c10b0]) | skip)
    have H':=Aside0.mk H
    clear H
    go_wp2
    go_meet
    case rel=>exact ⟨_,(true),(by first | rfl | (simp; done) | (simp [*]; done)),H',⟨by first | omega | exact Nat.le_refl _⟩,⟨by (with_reducible repeat (first | refine blk_drewN ?_ _ | refine blk_drew ?_ | refine blk_alloc ?_ _)); exact BK287.out⟩,⟨by repeat (first | (with_reducible first | exact HB.out | apply below_alloc | apply pw_below_drewN | apply below_drew1 | refine below_set ?_ GE287.out) | exact HB.out)⟩⟩
   ·rw [if_neg c10] at H
    have c10b0:decide (a2 < 1)=false:=decide_eq_false c10
    clear c10
    (first | rw [c10b0] | (simp only [i64_w,i32_w]; rw [c10b0]) | skip)
    by_cases c11:a2 > 40
    ·rw [if_pos c11] at H
     have c11b0:decide (40 < a2)=true:=decide_eq_true c11
     clear c11
     have H':=Aside0.mk H
     clear H
     go_wp2
     go_meet
     case rel=>exact ⟨_,(true),(by first | rfl | (simp; done) | (simp [*]; done)),H',⟨by first | omega | exact Nat.le_refl _⟩,⟨by (with_reducible repeat (first | refine blk_drewN ?_ _ | refine blk_drew ?_ | refine blk_alloc ?_ _)); exact BK287.out⟩,⟨by repeat (first | (with_reducible first | exact HB.out | apply below_alloc | apply pw_below_drewN | apply below_drew1 | refine below_set ?_ GE287.out) | exact HB.out)⟩⟩
    ·rw [if_neg c11] at H
     have c11b0:decide (40 < a2)=false:=decide_eq_false c11
     clear c11
     by_cases c12:(l3.length:Int) < a2
     ·rw [if_pos c12] at H
      have c12b0:decide ((l3.length:Int) < a2)=true:=decide_eq_true c12
      clear c12
      have H':=Aside0.mk H
      clear H
      go_wp2
      go_meet
      case rel=>exact ⟨_,(true),(by first | rfl | (simp; done) | (simp [*]; done)),H',⟨by first | omega | exact Nat.le_refl _⟩,⟨by (with_reducible repeat (first | refine blk_drewN ?_ _ | refine blk_drew ?_ | refine blk_alloc ?_ _)); exact BK287.out⟩,⟨by repeat (first | (with_reducible first | exact HB.out | apply below_alloc | apply pw_below_drewN | apply below_drew1 | refine below_set ?_ GE287.out) | exact HB.out)⟩⟩
     ·rw [if_neg c12] at H
      have c12b0:decide ((l3.length:Int) < a2)=false:=decide_eq_false c12
      clear c12
      by_cases c13:a0_0=1
      ·rw [if_pos c13] at H
       have c13b0:(a0_0 == 1)=true:=beq_iff_eq.mpr c13
       have c13b1:(a0_0 != 1)=false:=bne_eq_false_iff_eq.mpr c13
       clear c13
       by_cases c14:a0_1=0
       ·rw [if_pos c14] at H
        have c14b0:(a0_1 == 0)=true:=beq_iff_eq.mpr c14
        have c14b1:(a0_1 != 0)=false:=bne_eq_false_iff_eq.mpr c14
        clear c14
        have H':=Aside0.mk H
        clear H
        have hcz15_0:w9.cell? ⟨gb287,0,none⟩=some (.int .i64 a0_0):=(blk_cell BK287.out 0).trans rfl
        have hcz15_1:w9.cell? ⟨gb287,1,none⟩=some (.int .u64 a0_1):=(blk_cell BK287.out 1).trans rfl
        have hcz15_2:w9.cell? ⟨gb287,2,none⟩=some (.int .i64 a0_2):=(blk_cell BK287.out 2).trans rfl
        have hcz15_3:w9.cell? ⟨gb287,3,none⟩=some (.int .u64 a0_3):=(blk_cell BK287.out 3).trans rfl
        have hcz15_4:w9.cell? ⟨gb287,4,none⟩=some (.bool a0_4):=(blk_cell BK287.out 4).trans rfl
        have hcz15_5:w9.cell? ⟨gb287,5,none⟩=some (.int .u64 a0_5):=(blk_cell BK287.out 5).trans rfl
        have hcz15_6:w9.cell? ⟨gb287,6,none⟩=some (.bool a0_6):=(blk_cell BK287.out 6).trans rfl
        have hcz15_7:w9.cell? ⟨gb287,7,none⟩=some (.int .u64 a0_7):=(blk_cell BK287.out 7).trans rfl
        have hcz15_8:w9.cell? ⟨gb287,8,none⟩=some (.bool a0_8):=(blk_cell BK287.out 8).trans rfl
        have hcz15_9:w9.cell? ⟨gb287,9,none⟩=some (.int .u64 a0_9):=(blk_cell BK287.out 9).trans rfl
        have hcz15_10:w9.cell? ⟨gb287,10,none⟩=some (.bool a0_10):=(blk_cell BK287.out 10).trans rfl
        have hcz15_11:w9.cell? ⟨gb287,11,none⟩=some (.int .u64 a0_11):=(blk_cell BK287.out 11).trans rfl
        have hcz15_12:w9.cell? ⟨gb287,12,none⟩=some (.bool a0_12):=(blk_cell BK287.out 12).trans rfl
        have hfz15_0:=blk_frozen BK287.out 0
        have hfz15_1:=blk_frozen BK287.out 1
        have hfz15_2:=blk_frozen BK287.out 2
        have hfz15_3:=blk_frozen BK287.out 3
        have hfz15_4:=blk_frozen BK287.out 4
        have hfz15_5:=blk_frozen BK287.out 5
        have hfz15_6:=blk_frozen BK287.out 6
        have hfz15_7:=blk_frozen BK287.out 7
        have hfz15_8:=blk_frozen BK287.out 8
        have hfz15_9:=blk_frozen BK287.out 9
        have hfz15_10:=blk_frozen BK287.out 10
        have hfz15_11:=blk_frozen BK287.out 11
        have hfz15_12:=blk_frozen BK287.out 12
        go_wp2
        go_meet
        case rel=>exact ⟨_,(true),(by first | rfl | (simp; done) | (simp [*]; done)),H',⟨by first | omega | exact Nat.le_refl _⟩,⟨by (with_reducible repeat (first | refine blk_drewN ?_ _ | refine blk_drew ?_ | refine blk_alloc ?_ _)); exact BK287.out⟩,⟨by repeat (first | (with_reducible first | exact HB.out | apply below_alloc | apply pw_below_drewN | apply below_drew1 | refine below_set ?_ GE287.out) | exact HB.out)⟩⟩
       ·rw [if_neg c14] at H
        have c14b0:(a0_1 == 0)=false:=beq_eq_false_iff_ne.mpr c14
        have c14b1:(a0_1 != 0)=true:=bne_iff_ne.mpr c14
        by_cases c16:a0_1 > 1000000
        ·rw [if_pos c16] at H
         have c16b0:decide (1000000 < a0_1)=true:=decide_eq_true c16
         clear c16
         have H':=Aside0.mk H
         clear H
         have hcz17_0:w9.cell? ⟨gb287,0,none⟩=some (.int .i64 a0_0):=(blk_cell BK287.out 0).trans rfl
         have hcz17_1:w9.cell? ⟨gb287,1,none⟩=some (.int .u64 a0_1):=(blk_cell BK287.out 1).trans rfl
         have hcz17_2:w9.cell? ⟨gb287,2,none⟩=some (.int .i64 a0_2):=(blk_cell BK287.out 2).trans rfl
         have hcz17_3:w9.cell? ⟨gb287,3,none⟩=some (.int .u64 a0_3):=(blk_cell BK287.out 3).trans rfl
         have hcz17_4:w9.cell? ⟨gb287,4,none⟩=some (.bool a0_4):=(blk_cell BK287.out 4).trans rfl
         have hcz17_5:w9.cell? ⟨gb287,5,none⟩=some (.int .u64 a0_5):=(blk_cell BK287.out 5).trans rfl
         have hcz17_6:w9.cell? ⟨gb287,6,none⟩=some (.bool a0_6):=(blk_cell BK287.out 6).trans rfl
         have hcz17_7:w9.cell? ⟨gb287,7,none⟩=some (.int .u64 a0_7):=(blk_cell BK287.out 7).trans rfl
         have hcz17_8:w9.cell? ⟨gb287,8,none⟩=some (.bool a0_8):=(blk_cell BK287.out 8).trans rfl
         have hcz17_9:w9.cell? ⟨gb287,9,none⟩=some (.int .u64 a0_9):=(blk_cell BK287.out 9).trans rfl
         have hcz17_10:w9.cell? ⟨gb287,10,none⟩=some (.bool a0_10):=(blk_cell BK287.out 10).trans rfl
         have hcz17_11:w9.cell? ⟨gb287,11,none⟩=some (.int .u64 a0_11):=(blk_cell BK287.out 11).trans rfl
         have hcz17_12:w9.cell? ⟨gb287,12,none⟩=some (.bool a0_12):=(blk_cell BK287.out 12).trans rfl
         have hfz17_0:=blk_frozen BK287.out 0
         have hfz17_1:=blk_frozen BK287.out 1
         have hfz17_2:=blk_frozen BK287.out 2
         have hfz17_3:=blk_frozen BK287.out 3
         have hfz17_4:=blk_frozen BK287.out 4
         have hfz17_5:=blk_frozen BK287.out 5
         have hfz17_6:=blk_frozen BK287.out 6
         have hfz17_7:=blk_frozen BK287.out 7
         have hfz17_8:=blk_frozen BK287.out 8
         have hfz17_9:=blk_frozen BK287.out 9
         have hfz17_10:=blk_frozen BK287.out 10
         have hfz17_11:=blk_frozen BK287.out 11
         have hfz17_12:=blk_frozen BK287.out 12
         go_wp2
         go_meet
         case rel=>exact ⟨_,(true),(by first | rfl | (simp; done) | (simp [*]; done)),H',⟨by first | omega | exact Nat.le_refl _⟩,⟨by (with_reducible repeat (first | refine blk_drewN ?_ _ | refine blk_drew ?_ | refine blk_alloc ?_ _)); exact BK287.out⟩,⟨by repeat (first | (with_reducible first | exact HB.out | apply below_alloc | apply pw_below_drewN | apply below_drew1 | refine below_set ?_ GE287.out) | exact HB.out)⟩⟩
        ·rw [if_neg c16] at H
         have c16b0:decide (1000000 < a0_1)=false:=decide_eq_false c16
         clear c16
         have H':=Aside0.mk H
         clear H
         have hcz18_0:w9.cell? ⟨gb287,0,none⟩=some (.int .i64 a0_0):=(blk_cell BK287.out 0).trans rfl
         have hcz18_1:w9.cell? ⟨gb287,1,none⟩=some (.int .u64 a0_1):=(blk_cell BK287.out 1).trans rfl
         have hcz18_2:w9.cell? ⟨gb287,2,none⟩=some (.int .i64 a0_2):=(blk_cell BK287.out 2).trans rfl
         have hcz18_3:w9.cell? ⟨gb287,3,none⟩=some (.int .u64 a0_3):=(blk_cell BK287.out 3).trans rfl
         have hcz18_4:w9.cell? ⟨gb287,4,none⟩=some (.bool a0_4):=(blk_cell BK287.out 4).trans rfl
         have hcz18_5:w9.cell? ⟨gb287,5,none⟩=some (.int .u64 a0_5):=(blk_cell BK287.out 5).trans rfl
         have hcz18_6:w9.cell? ⟨gb287,6,none⟩=some (.bool a0_6):=(blk_cell BK287.out 6).trans rfl
         have hcz18_7:w9.cell? ⟨gb287,7,none⟩=some (.int .u64 a0_7):=(blk_cell BK287.out 7).trans rfl
         have hcz18_8:w9.cell? ⟨gb287,8,none⟩=some (.bool a0_8):=(blk_cell BK287.out 8).trans rfl
         have hcz18_9:w9.cell? ⟨gb287,9,none⟩=some (.int .u64 a0_9):=(blk_cell BK287.out 9).trans rfl
         have hcz18_10:w9.cell? ⟨gb287,10,none⟩=some (.bool a0_10):=(blk_cell BK287.out 10).trans rfl
         have hcz18_11:w9.cell? ⟨gb287,11,none⟩=some (.int .u64 a0_11):=(blk_cell BK287.out 11).trans rfl
         have hcz18_12:w9.cell? ⟨gb287,12,none⟩=some (.bool a0_12):=(blk_cell BK287.out 12).trans rfl
         have hfz18_0:=blk_frozen BK287.out 0
         have hfz18_1:=blk_frozen BK287.out 1
         have hfz18_2:=blk_frozen BK287.out 2
         have hfz18_3:=blk_frozen BK287.out 3
         have hfz18_4:=blk_frozen BK287.out 4
         have hfz18_5:=blk_frozen BK287.out 5
         have hfz18_6:=blk_frozen BK287.out 6
         have hfz18_7:=blk_frozen BK287.out 7
         have hfz18_8:=blk_frozen BK287.out 8
         have hfz18_9:=blk_frozen BK287.out 9
         have hfz18_10:=blk_frozen BK287.out 10
         have hfz18_11:=blk_frozen BK287.out 11
         have hfz18_12:=blk_frozen BK287.out 12
         go_wp2
         go_meet
         case rel=>exact ⟨_,(decide (a1 > 1000000)),(by first | rfl | (simp; done) | (simp [*]; done)),H',⟨by first | omega | exact Nat.le_refl _⟩,⟨by (with_reducible repeat (first | refine blk_drewN ?_ _ | refine blk_drew ?_ | refine blk_alloc ?_ _)); exact BK287.out⟩,⟨by repeat (first | (with_reducible first | exact HB.out | apply below_alloc | apply pw_below_drewN | apply below_drew1 | refine below_set ?_ GE287.out) | exact HB.out)⟩⟩
      ·rw [if_neg c13] at H
       have c13b0:(a0_0 == 1)=false:=beq_eq_false_iff_ne.mpr c13
       have c13b1:(a0_0 != 1)=true:=bne_iff_ne.mpr c13
       have H':=Aside0.mk H
       clear H
       have hcz19_0:w9.cell? ⟨gb287,0,none⟩=some (.int .i64 a0_0):=(blk_cell BK287.out 0).trans rfl
       have hcz19_1:w9.cell? ⟨gb287,1,none⟩=some (.int .u64 a0_1):=(blk_cell BK287.out 1).trans rfl
       have hcz19_2:w9.cell? ⟨gb287,2,none⟩=some (.int .i64 a0_2):=(blk_cell BK287.out 2).trans rfl
       have hcz19_3:w9.cell? ⟨gb287,3,none⟩=some (.int .u64 a0_3):=(blk_cell BK287.out 3).trans rfl
       have hcz19_4:w9.cell? ⟨gb287,4,none⟩=some (.bool a0_4):=(blk_cell BK287.out 4).trans rfl
       have hcz19_5:w9.cell? ⟨gb287,5,none⟩=some (.int .u64 a0_5):=(blk_cell BK287.out 5).trans rfl
       have hcz19_6:w9.cell? ⟨gb287,6,none⟩=some (.bool a0_6):=(blk_cell BK287.out 6).trans rfl
       have hcz19_7:w9.cell? ⟨gb287,7,none⟩=some (.int .u64 a0_7):=(blk_cell BK287.out 7).trans rfl
       have hcz19_8:w9.cell? ⟨gb287,8,none⟩=some (.bool a0_8):=(blk_cell BK287.out 8).trans rfl
       have hcz19_9:w9.cell? ⟨gb287,9,none⟩=some (.int .u64 a0_9):=(blk_cell BK287.out 9).trans rfl
       have hcz19_10:w9.cell? ⟨gb287,10,none⟩=some (.bool a0_10):=(blk_cell BK287.out 10).trans rfl
       have hcz19_11:w9.cell? ⟨gb287,11,none⟩=some (.int .u64 a0_11):=(blk_cell BK287.out 11).trans rfl
       have hcz19_12:w9.cell? ⟨gb287,12,none⟩=some (.bool a0_12):=(blk_cell BK287.out 12).trans rfl
       have hfz19_0:=blk_frozen BK287.out 0
       have hfz19_1:=blk_frozen BK287.out 1
       have hfz19_2:=blk_frozen BK287.out 2
       have hfz19_3:=blk_frozen BK287.out 3
       have hfz19_4:=blk_frozen BK287.out 4
       have hfz19_5:=blk_frozen BK287.out 5
       have hfz19_6:=blk_frozen BK287.out 6
       have hfz19_7:=blk_frozen BK287.out 7
       have hfz19_8:=blk_frozen BK287.out 8
       have hfz19_9:=blk_frozen BK287.out 9
       have hfz19_10:=blk_frozen BK287.out 10
       have hfz19_11:=blk_frozen BK287.out 11
       have hfz19_12:=blk_frozen BK287.out 12
       go_wp2
       go_meet
       case rel=>exact ⟨_,(true),(by first | rfl | (simp; done) | (simp [*]; done)),H',⟨by first | omega | exact Nat.le_refl _⟩,⟨by (with_reducible repeat (first | refine blk_drewN ?_ _ | refine blk_drew ?_ | refine blk_alloc ?_ _)); exact BK287.out⟩,⟨by repeat (first | (with_reducible first | exact HB.out | apply below_alloc | apply pw_below_drewN | apply below_drew1 | refine below_set ?_ GE287.out) | exact HB.out)⟩⟩
  case rest=>
   clear HC7
   try clear c1
   try clear p2
   try clear c3
   try clear c6
   try clear c9
   try clear c10
   try clear c10b0
   try clear c11
   try clear c11b0
   try clear c12
   try clear c12b0
   try clear c13
   try clear c13b0
   try clear c13b1
   try clear c14
   try clear c14b0
   try clear c14b1
   try clear c16
   try clear c16b0
   try clear hcz15_0
   try clear hcz15_1
   try clear hcz15_10
   try clear hcz15_11
   try clear hcz15_12
   try clear hcz15_2
   try clear hcz15_3
   try clear hcz15_4
   try clear hcz15_5
   try clear hcz15_6
   try clear hcz15_7
   try clear hcz15_8
   try clear hcz15_9
   try clear hcz17_0
   try clear hcz17_1
   try clear hcz17_10
   try clear hcz17_11
   try clear hcz17_12
   try clear hcz17_2
   try clear hcz17_3
   try clear hcz17_4
   try clear hcz17_5
   try clear hcz17_6
   try clear hcz17_7
   try clear hcz17_8
   try clear hcz17_9
   try clear hcz18_0
   try clear hcz18_1
   try clear hcz18_10
   try clear hcz18_11
   try clear hcz18_12
   try clear hcz18_2
   try clear hcz18_3
   try clear hcz18_4
   try clear hcz18_5
   try clear hcz18_6
   try clear hcz18_7
   try clear hcz18_8
   try clear hcz18_9
   try clear hcz19_0
   try clear hcz19_1
   try clear hcz19_10
   try clear hcz19_11
   try clear hcz19_12
   try clear hcz19_2
   try clear hcz19_3
   try clear hcz19_4
   try clear hcz19_5
   try clear hcz19_6
   try clear hcz19_7
   try clear hcz19_8
   try clear hcz19_9
   try clear hfz15_0
   try clear hfz15_1
   try clear hfz15_10
   try clear hfz15_11
   try clear hfz15_12
   try clear hfz15_2
   try clear hfz15_3
   try clear hfz15_4
   try clear hfz15_5
   try clear hfz15_6
   try clear hfz15_7
   try clear hfz15_8
   try clear hfz15_9
   try clear hfz17_0
   try clear hfz17_1
   try clear hfz17_10
   try clear hfz17_11
   try clear hfz17_12
   try clear hfz17_2
   try clear hfz17_3
   try clear hfz17_4
   try clear hfz17_5
   try clear hfz17_6
   try clear hfz17_7
   try clear hfz17_8
   try clear hfz17_9
   try clear hfz18_0
   try clear hfz18_1
   try clear hfz18_10
   try clear hfz18_11
   try clear hfz18_12
   try clear hfz18_2
   try clear hfz18_3
   try clear hfz18_4
   try clear hfz18_5
   try clear hfz18_6
   try clear hfz18_7
   try clear hfz18_8
   try clear hfz18_9
   try clear hfz19_0
   try clear hfz19_1
   try clear hfz19_10
   try clear hfz19_11
   try clear hfz19_12
   try clear hfz19_2
   try clear hfz19_3
   try clear hfz19_4
   try clear hfz19_5
   try clear hfz19_6
   try clear hfz19_7
   try clear hfz19_8
   try clear hfz19_9
   obtain ⟨kq,x54_6,rfl,HA,HJ6,BK287,HB⟩ :=hcut
   cases kq with
   | zero=>exact absurd HA.out (by simp [complinelaw23_RearmLeft.j0])
   | succ kj6=>
    have H:=HA.out
    clear HA
    simp only [complinelaw23_RearmLeft.j0] at H
    by_cases c20:x54_6=true
    ·subst c20
     have H1:(some true)=some true:=rfl
     clear H
     have H:=H1
     clear H1
     clear H
     go_wp2
     go_ret
     exact ⟨by first | rfl | (simp [errW_none,errW_some] <;> rfl) | (simp [*,errW_none,errW_some] <;> rfl),by repeat (first | (with_reducible first | exact HB.out | apply below_alloc | apply pw_below_drewN | apply below_drew1 | refine below_set ?_ GE287.out) | exact HB.out)⟩
    ·replace c20:=Bool.eq_false_iff.mpr c20
     subst c20
     have H1:(complinelaw23_RearmLeft.l0 kj6 a2 l3 true a1 1 a0_0 a0_1 a0_2 a0_3 a0_4 a0_5 a0_6 a0_7 a0_8 a0_9 a0_10 a0_11 a0_12 1 a0_1 a2 0 false 0 false 0 false 0 false 0 false)=some true:=by rw [if_neg (show ¬ (false=true) by decide)] at H; exact H
     clear H
     have H:=H1
     clear H1
     have H':=Aside0.mk H
     clear H
     have hcz21_0:wc.cell? ⟨gb287,0,none⟩=some (.int .i64 a0_0):=(blk_cell BK287.out 0).trans rfl
     have hcz21_1:wc.cell? ⟨gb287,1,none⟩=some (.int .u64 a0_1):=(blk_cell BK287.out 1).trans rfl
     have hcz21_2:wc.cell? ⟨gb287,2,none⟩=some (.int .i64 a0_2):=(blk_cell BK287.out 2).trans rfl
     have hcz21_3:wc.cell? ⟨gb287,3,none⟩=some (.int .u64 a0_3):=(blk_cell BK287.out 3).trans rfl
     have hcz21_4:wc.cell? ⟨gb287,4,none⟩=some (.bool a0_4):=(blk_cell BK287.out 4).trans rfl
     have hcz21_5:wc.cell? ⟨gb287,5,none⟩=some (.int .u64 a0_5):=(blk_cell BK287.out 5).trans rfl
     have hcz21_6:wc.cell? ⟨gb287,6,none⟩=some (.bool a0_6):=(blk_cell BK287.out 6).trans rfl
     have hcz21_7:wc.cell? ⟨gb287,7,none⟩=some (.int .u64 a0_7):=(blk_cell BK287.out 7).trans rfl
     have hcz21_8:wc.cell? ⟨gb287,8,none⟩=some (.bool a0_8):=(blk_cell BK287.out 8).trans rfl
     have hcz21_9:wc.cell? ⟨gb287,9,none⟩=some (.int .u64 a0_9):=(blk_cell BK287.out 9).trans rfl
     have hcz21_10:wc.cell? ⟨gb287,10,none⟩=some (.bool a0_10):=(blk_cell BK287.out 10).trans rfl
     have hcz21_11:wc.cell? ⟨gb287,11,none⟩=some (.int .u64 a0_11):=(blk_cell BK287.out 11).trans rfl
     have hcz21_12:wc.cell? ⟨gb287,12,none⟩=some (.bool a0_12):=(blk_cell BK287.out 12).trans rfl
     have hfz21_0:=blk_frozen BK287.out 0
     have hfz21_1:=blk_frozen BK287.out 1
     have hfz21_2:=blk_frozen BK287.out 2
     have hfz21_3:=blk_frozen BK287.out 3
     have hfz21_4:=blk_frozen BK287.out 4
     have hfz21_5:=blk_frozen BK287.out 5
     have hfz21_6:=blk_frozen BK287.out 6
     have hfz21_7:=blk_frozen BK287.out 7
     have hfz21_8:=blk_frozen BK287.out 8
     have hfz21_9:=blk_frozen BK287.out 9
     have hfz21_10:=blk_frozen BK287.out 10
     have hfz21_11:=blk_frozen BK287.out 11
     have hfz21_12:=blk_frozen BK287.out 12
     go_wp2_with (first | ((with_reducible refine gate_dst (N:=10) rfl ?_); (try (refine gate_guard (by rfl) ?_; dsimp only)); refine box_event ?hg (N:=10) ?hd (cs:=#[.int .i64 0,.int .u64 0,.int .i64 0,.int .u64 0,.bool false,.int .u64 0,.bool false,.int .u64 0,.bool false,.int .u64 0,.bool false,.int .u64 0,.bool false]) (t:=28) ?hr ?_; (case hd=>rfl); (case hg=>rfl); (case hr=>first | (go_simp; done) | (go_simp; rfl)); intro gb289 hg w22 hbox hb; have n0_:=Aside0.mk (blk_below (g:=gb287) (o:=.cells #[.int .i64 a0_0,.int .u64 a0_1,.int .i64 a0_2,.int .u64 a0_3,.bool a0_4,.int .u64 a0_5,.bool a0_6,.int .u64 a0_7,.bool a0_8,.int .u64 a0_9,.bool a0_10,.int .u64 a0_11,.bool a0_12] 28 (0,0)) (by (with_reducible repeat (first | refine blk_drewN ?_ _ | refine blk_drew ?_ | refine blk_alloc ?_ _)); exact BK287.out) hb); have n1_:=Aside0.mk (below_step (by repeat (first | (with_reducible first | exact HB.out | apply below_alloc | apply pw_below_drewN | apply below_drew1 | refine below_set ?_ GE287.out) | exact HB.out)) hb); have n2_:=Aside0.mk (hbox); have n3_:=Aside0.mk ((by rw [hg]; exact (below_size (by repeat (first | (with_reducible first | exact HB.out | apply below_alloc | apply pw_below_drewN | apply below_drew1 | refine below_set ?_ GE287.out) | exact HB.out))):w.heap.size≤gb289)); have n4_:=Aside0.mk ((by rw [hg]; exact (below_size (by repeat (first | (with_reducible first | exact HB.out | apply below_alloc | apply pw_below_drewN | apply below_drew1 | refine below_set ?_ GE287.out) | exact HB.out))):w.heap.size≤gb289)); have n5_:=Aside0.mk ((by rw [hg]; exact Nat.ne_of_lt (blk_lt (g:=gb287) (o:=.cells #[.int .i64 a0_0,.int .u64 a0_1,.int .i64 a0_2,.int .u64 a0_3,.bool a0_4,.int .u64 a0_5,.bool a0_6,.int .u64 a0_7,.bool a0_8,.int .u64 a0_9,.bool a0_10,.int .u64 a0_11,.bool a0_12] 28 (0,0)) (by (with_reducible repeat (first | refine blk_drewN ?_ _ | refine blk_drew ?_ | refine blk_alloc ?_ _)); exact BK287.out)):gb287≠gb289)); have n6_:=Aside0.mk ((by rw [hg]; exact Nat.ne_of_gt (blk_lt (g:=gb287) (o:=.cells #[.int .i64 a0_0,.int .u64 a0_1,.int .i64 a0_2,.int .u64 a0_3,.bool a0_4,.int .u64 a0_5,.bool a0_6,.int .u64 a0_7,.bool a0_8,.int .u64 a0_9,.bool a0_10,.int .u64 a0_11,.bool a0_12] 28 (0,0)) (by (with_reducible repeat (first | refine blk_drewN ?_ _ | refine blk_drew ?_ | refine blk_alloc ?_ _)); exact BK287.out)):gb289≠gb287)); clear BK287; clear HB; have BK287:=n0_; have HB:=n1_; have BK289:=n2_; have GW289:=n3_; have GE289:=n4_; have NB287_289:=n5_; have NB289_287:=n6_; clear n0_ n1_ n2_ n3_ n4_ n5_ n6_; clear hb hbox hg; have hnb23:=NB289_287.out; have hnc23:=NB287_289.out; have hcz24_0:w22.cell? ⟨gb289,0,none⟩=some (.int .i64 0):=(blk_cell BK289.out 0).trans rfl; have hcz24_1:w22.cell? ⟨gb289,1,none⟩=some (.int .u64 0):=(blk_cell BK289.out 1).trans rfl; have hcz24_2:w22.cell? ⟨gb289,2,none⟩=some (.int .i64 0):=(blk_cell BK289.out 2).trans rfl; have hcz24_3:w22.cell? ⟨gb289,3,none⟩=some (.int .u64 0):=(blk_cell BK289.out 3).trans rfl; have hcz24_4:w22.cell? ⟨gb289,4,none⟩=some (.bool false):=(blk_cell BK289.out 4).trans rfl; have hcz24_5:w22.cell? ⟨gb289,5,none⟩=some (.int .u64 0):=(blk_cell BK289.out 5).trans rfl; have hcz24_6:w22.cell? ⟨gb289,6,none⟩=some (.bool false):=(blk_cell BK289.out 6).trans rfl; have hcz24_7:w22.cell? ⟨gb289,7,none⟩=some (.int .u64 0):=(blk_cell BK289.out 7).trans rfl; have hcz24_8:w22.cell? ⟨gb289,8,none⟩=some (.bool false):=(blk_cell BK289.out 8).trans rfl; have hcz24_9:w22.cell? ⟨gb289,9,none⟩=some (.int .u64 0):=(blk_cell BK289.out 9).trans rfl; have hcz24_10:w22.cell? ⟨gb289,10,none⟩=some (.bool false):=(blk_cell BK289.out 10).trans rfl; have hcz24_11:w22.cell? ⟨gb289,11,none⟩=some (.int .u64 0):=(blk_cell BK289.out 11).trans rfl; have hcz24_12:w22.cell? ⟨gb289,12,none⟩=some (.bool false):=(blk_cell BK289.out 12).trans rfl; have hfz24_0:=blk_frozen BK289.out 0; have hfz24_1:=blk_frozen BK289.out 1; have hfz24_2:=blk_frozen BK289.out 2; have hfz24_3:=blk_frozen BK289.out 3; have hfz24_4:=blk_frozen BK289.out 4; have hfz24_5:=blk_frozen BK289.out 5; have hfz24_6:=blk_frozen BK289.out 6; have hfz24_7:=blk_frozen BK289.out 7; have hfz24_8:=blk_frozen BK289.out 8; have hfz24_9:=blk_frozen BK289.out 9; have hfz24_10:=blk_frozen BK289.out 10; have hfz24_11:=blk_frozen BK289.out 11; have hfz24_12:=blk_frozen BK289.out 12))
     go_loopg [11,12] kj6 (fun kq v11 v12 w'=>∃ (x11_2:Int) (x12_2:Int) (x290000_2:Int) (x290001_2:Int) (x290002_2:Int) (x290003_2:Int) (x290004_2:Bool) (x290005_2:Int) (x290006_2:Bool) (x290007_2:Int) (x290008_2:Bool) (x290009_2:Int) (x290010_2:Bool) (x290011_2:Int) (x290012_2:Bool),v11=.int .u64 x11_2∧v12=.int .i64 x12_2∧Aside0 (complinelaw23_RearmLeft.l0 kq a2 l3 true x11_2 x12_2 a0_0 a0_1 a0_2 a0_3 a0_4 a0_5 a0_6 a0_7 a0_8 a0_9 a0_10 a0_11 a0_12 x290000_2 x290001_2 x290002_2 x290003_2 x290004_2 x290005_2 x290006_2 x290007_2 x290008_2 x290009_2 x290010_2 x290011_2 x290012_2=some true)∧Aside0 (kq≤kj6)∧Aside0 (w'.heap[gb287]?=some (.cells #[.int .i64 a0_0,.int .u64 a0_1,.int .i64 a0_2,.int .u64 a0_3,.bool a0_4,.int .u64 a0_5,.bool a0_6,.int .u64 a0_7,.bool a0_8,.int .u64 a0_9,.bool a0_10,.int .u64 a0_11,.bool a0_12] 28 (0,0)))∧Aside0 (w'.heap[gb289]?=some (.cells #[.int .i64 x290000_2,.int .u64 x290001_2,.int .i64 x290002_2,.int .u64 x290003_2,.bool x290004_2,.int .u64 x290005_2,.bool x290006_2,.int .u64 x290007_2,.bool x290008_2,.int .u64 x290009_2,.bool x290010_2,.int .u64 x290011_2,.bool x290012_2] 28 (0,0)))∧Aside0 (Below w.heap.size w w'))
     case atStart=>exact ⟨(a1),(1),(1),(a0_1),(a2),(0),(false),(0),(false),(0),(false),(0),(false),(0),(false),(by first | rfl | (simp; done) | (simp [*]; done)),(by first | rfl | (simp; done) | (simp [*]; done)),H',⟨Nat.le_refl _⟩,⟨by (with_reducible repeat (first | refine blk_drewN ?_ _ | refine blk_drew ?_ | refine blk_alloc ?_ _)); refine blk_far ?_ NB287_289.out _; (with_reducible repeat (first | refine blk_drewN ?_ _ | refine blk_drew ?_ | refine blk_alloc ?_ _)); refine blk_far ?_ NB287_289.out _; (with_reducible repeat (first | refine blk_drewN ?_ _ | refine blk_drew ?_ | refine blk_alloc ?_ _)); refine blk_far ?_ NB287_289.out _; (with_reducible repeat (first | refine blk_drewN ?_ _ | refine blk_drew ?_ | refine blk_alloc ?_ _)); refine blk_far ?_ NB287_289.out _; (with_reducible repeat (first | refine blk_drewN ?_ _ | refine blk_drew ?_ | refine blk_alloc ?_ _)); refine blk_far ?_ NB287_289.out _; (with_reducible repeat (first | refine blk_drewN ?_ _ | refine blk_drew ?_ | refine blk_alloc ?_ _)); refine blk_far ?_ NB287_289.out _; (with_reducible repeat (first | refine blk_drewN ?_ _ | refine blk_drew ?_ | refine blk_alloc ?_ _)); refine blk_far ?_ NB287_289.out _; (with_reducible repeat (first | refine blk_drewN ?_ _ | refine blk_drew ?_ | refine blk_alloc ?_ _)); refine blk_far ?_ NB287_289.out _; (with_reducible repeat (first | refine blk_drewN ?_ _ | refine blk_drew ?_ | refine blk_alloc ?_ _)); refine blk_far ?_ NB287_289.out _; (with_reducible repeat (first | refine blk_drewN ?_ _ | refine blk_drew ?_ | refine blk_alloc ?_ _)); refine blk_far ?_ NB287_289.out _; (with_reducible repeat (first | refine blk_drewN ?_ _ | refine blk_drew ?_ | refine blk_alloc ?_ _)); refine blk_far ?_ NB287_289.out _; (with_reducible repeat (first | refine blk_drewN ?_ _ | refine blk_drew ?_ | refine blk_alloc ?_ _)); refine blk_far ?_ NB287_289.out _; (with_reducible repeat (first | refine blk_drewN ?_ _ | refine blk_drew ?_ | refine blk_alloc ?_ _)); refine blk_far ?_ NB287_289.out _; (with_reducible repeat (first | refine blk_drewN ?_ _ | refine blk_drew ?_ | refine blk_alloc ?_ _)); exact BK287.out⟩,⟨by (with_reducible repeat (first | refine blk_drewN ?_ _ | refine blk_drew ?_ | refine blk_alloc ?_ _)); refine blk_put (cs:=#[.int .i64 1,.int .u64 a0_1,.int .i64 a2,.int .u64 0,.bool false,.int .u64 0,.bool false,.int .u64 0,.bool false,.int .u64 0,.bool false,.int .u64 0,.bool false]) ?_ 12 _ rfl; (with_reducible repeat (first | refine blk_drewN ?_ _ | refine blk_drew ?_ | refine blk_alloc ?_ _)); refine blk_put (cs:=#[.int .i64 1,.int .u64 a0_1,.int .i64 a2,.int .u64 0,.bool false,.int .u64 0,.bool false,.int .u64 0,.bool false,.int .u64 0,.bool false,.int .u64 0,.bool false]) ?_ 11 _ rfl; (with_reducible repeat (first | refine blk_drewN ?_ _ | refine blk_drew ?_ | refine blk_alloc ?_ _)); refine blk_put (cs:=#[.int .i64 1,.int .u64 a0_1,.int .i64 a2,.int .u64 0,.bool false,.int .u64 0,.bool false,.int .u64 0,.bool false,.int .u64 0,.bool false,.int .u64 0,.bool false]) ?_ 10 _ rfl; (with_reducible repeat (first | refine blk_drewN ?_ _ | refine blk_drew ?_ | refine blk_alloc ?_ _)); refine blk_put (cs:=#[.int .i64 1,.int .u64 a0_1,.int .i64 a2,.int .u64 0,.bool false,.int .u64 0,.bool false,.int .u64 0,.bool false,.int .u64 0,.bool false,.int .u64 0,.bool false]) ?_ 9 _ rfl; (with_reducible repeat (first | refine blk_drewN ?_ _ | refine blk_drew ?_ | refine blk_alloc ?_ _)); refine blk_put (cs:=#[.int .i64 1,.int .u64 a0_1,.int .i64 a2,.int .u64 0,.bool false,.int .u64 0,.bool false,.int .u64 0,.bool false,.int .u64 0,.bool false,.int .u64 0,.bool false]) ?_ 8 _ rfl; (with_reducible repeat (first | refine blk_drewN ?_ _ | refine blk_drew ?_ | refine blk_alloc ?_ _)); refine blk_put (cs:=#[.int .i64 1,.int .u64 a0_1,.int .i64 a2,.int .u64 0,.bool false,.int .u64 0,.bool false,.int .u64 0,.bool false,.int .u64 0,.bool false,.int .u64 0,.bool false]) ?_ 7 _ rfl; (with_reducible repeat (first | refine blk_drewN ?_ _ | refine blk_drew ?_ | refine blk_alloc ?_ _)); refine blk_put (cs:=#[.int .i64 1,.int .u64 a0_1,.int .i64 a2,.int .u64 0,.bool false,.int .u64 0,.bool false,.int .u64 0,.bool false,.int .u64 0,.bool false,.int .u64 0,.bool false]) ?_ 6 _ rfl; (with_reducible repeat (first | refine blk_drewN ?_ _ | refine blk_drew ?_ | refine blk_alloc ?_ _)); refine blk_put (cs:=#[.int .i64 1,.int .u64 a0_1,.int .i64 a2,.int .u64 0,.bool false,.int .u64 0,.bool false,.int .u64 0,.bool false,.int .u64 0,.bool false,.int .u64 0,.bool false]) ?_ 5 _ rfl; (with_reducible repeat (first | refine blk_drewN ?_ _ | refine blk_drew ?_ | refine blk_alloc ?_ _)); refine blk_put (cs:=#[.int .i64 1,.int .u64 a0_1,.int .i64 a2,.int .u64 0,.bool false,.int .u64 0,.bool false,.int .u64 0,.bool false,.int .u64 0,.bool false,.int .u64 0,.bool false]) ?_ 4 _ rfl; (with_reducible repeat (first | refine blk_drewN ?_ _ | refine blk_drew ?_ | refine blk_alloc ?_ _)); refine blk_put (cs:=#[.int .i64 1,.int .u64 a0_1,.int .i64 a2,.int .u64 0,.bool false,.int .u64 0,.bool false,.int .u64 0,.bool false,.int .u64 0,.bool false,.int .u64 0,.bool false]) ?_ 3 _ rfl; (with_reducible repeat (first | refine blk_drewN ?_ _ | refine blk_drew ?_ | refine blk_alloc ?_ _)); refine blk_put (cs:=#[.int .i64 1,.int .u64 a0_1,.int .i64 0,.int .u64 0,.bool false,.int .u64 0,.bool false,.int .u64 0,.bool false,.int .u64 0,.bool false,.int .u64 0,.bool false]) ?_ 2 _ rfl; (with_reducible repeat (first | refine blk_drewN ?_ _ | refine blk_drew ?_ | refine blk_alloc ?_ _)); refine blk_put (cs:=#[.int .i64 1,.int .u64 0,.int .i64 0,.int .u64 0,.bool false,.int .u64 0,.bool false,.int .u64 0,.bool false,.int .u64 0,.bool false,.int .u64 0,.bool false]) ?_ 1 _ rfl; (with_reducible repeat (first | refine blk_drewN ?_ _ | refine blk_drew ?_ | refine blk_alloc ?_ _)); refine blk_put (cs:=#[.int .i64 0,.int .u64 0,.int .i64 0,.int .u64 0,.bool false,.int .u64 0,.bool false,.int .u64 0,.bool false,.int .u64 0,.bool false,.int .u64 0,.bool false]) ?_ 0 _ rfl; (with_reducible repeat (first | refine blk_drewN ?_ _ | refine blk_drew ?_ | refine blk_alloc ?_ _)); exact BK289.out⟩,⟨by repeat (first | (with_reducible first | exact HB.out | apply below_alloc | apply pw_below_drewN | apply below_drew1 | refine below_set ?_ GE287.out | refine below_set ?_ GE289.out) | exact HB.out)⟩⟩
     case round=>
      clear H'
      try clear c1
      try clear c2
      try clear p2
      try clear c3
      try clear c6
      try clear c9
      try clear c10
      try clear c10b0
      try clear c11
      try clear c11b0
      try clear c12
      try clear c12b0
      try clear c13
      try clear c13b0
      try clear c13b1
      try clear c14
      try clear c14b0
      try clear c14b1
      try clear c16
      try clear c16b0
      try clear c20
      try clear c23
      try clear hcz15_0
      try clear hcz15_1
      try clear hcz15_10
      try clear hcz15_11
      try clear hcz15_12
      try clear hcz15_2
      try clear hcz15_3
      try clear hcz15_4
      try clear hcz15_5
      try clear hcz15_6
      try clear hcz15_7
      try clear hcz15_8
      try clear hcz15_9
      try clear hcz17_0
      try clear hcz17_1
      try clear hcz17_10
      try clear hcz17_11
      try clear hcz17_12
      try clear hcz17_2
      try clear hcz17_3
      try clear hcz17_4
      try clear hcz17_5
      try clear hcz17_6
      try clear hcz17_7
      try clear hcz17_8
      try clear hcz17_9
      try clear hcz18_0
      try clear hcz18_1
      try clear hcz18_10
      try clear hcz18_11
      try clear hcz18_12
      try clear hcz18_2
      try clear hcz18_3
      try clear hcz18_4
      try clear hcz18_5
      try clear hcz18_6
      try clear hcz18_7
      try clear hcz18_8
      try clear hcz18_9
      try clear hcz19_0
      try clear hcz19_1
      try clear hcz19_10
      try clear hcz19_11
      try clear hcz19_12
      try clear hcz19_2
      try clear hcz19_3
      try clear hcz19_4
      try clear hcz19_5
      try clear hcz19_6
      try clear hcz19_7
      try clear hcz19_8
      try clear hcz19_9
      try clear hcz21_0
      try clear hcz21_1
      try clear hcz21_10
      try clear hcz21_11
      try clear hcz21_12
      try clear hcz21_2
      try clear hcz21_3
      try clear hcz21_4
      try clear hcz21_5
      try clear hcz21_6
      try clear hcz21_7
      try clear hcz21_8
      try clear hcz21_9
      try clear hcz24_0
      try clear hcz24_1
      try clear hcz24_10
      try clear hcz24_11
      try clear hcz24_12
      try clear hcz24_2
      try clear hcz24_3
      try clear hcz24_4
      try clear hcz24_5
      try clear hcz24_6
      try clear hcz24_7
      try clear hcz24_8
      try clear hcz24_9
      try clear hfz15_0
      try clear hfz15_1
      try clear hfz15_10
      try clear hfz15_11
      try clear hfz15_12
      try clear hfz15_2
      try clear hfz15_3
      try clear hfz15_4
      try clear hfz15_5
      try clear hfz15_6
      try clear hfz15_7
      try clear hfz15_8
      try clear hfz15_9
      try clear hfz17_0
      try clear hfz17_1
      try clear hfz17_10
      try clear hfz17_11
      try clear hfz17_12
      try clear hfz17_2
      try clear hfz17_3
      try clear hfz17_4
      try clear hfz17_5
      try clear hfz17_6
      try clear hfz17_7
      try clear hfz17_8
      try clear hfz17_9
      try clear hfz18_0
      try clear hfz18_1
      try clear hfz18_10
      try clear hfz18_11
      try clear hfz18_12
      try clear hfz18_2
      try clear hfz18_3
      try clear hfz18_4
      try clear hfz18_5
      try clear hfz18_6
      try clear hfz18_7
      try clear hfz18_8
      try clear hfz18_9
      try clear hfz19_0
      try clear hfz19_1
      try clear hfz19_10
      try clear hfz19_11
      try clear hfz19_12
      try clear hfz19_2
      try clear hfz19_3
      try clear hfz19_4
      try clear hfz19_5
      try clear hfz19_6
      try clear hfz19_7
      try clear hfz19_8
      try clear hfz19_9
      try clear hfz21_0
      try clear hfz21_1
      try clear hfz21_10
      try clear hfz21_11
      try clear hfz21_12
      try clear hfz21_2
      try clear hfz21_3
      try clear hfz21_4
      try clear hfz21_5
      try clear hfz21_6
      try clear hfz21_7
      try clear hfz21_8
      try clear hfz21_9
      try clear hfz24_0
      try clear hfz24_1
      try clear hfz24_10
      try clear hfz24_11
      try clear hfz24_12
      try clear hfz24_2
      try clear hfz24_3
      try clear hfz24_4
      try clear hfz24_5
      try clear hfz24_6
      try clear hfz24_7
      try clear hfz24_8
      try clear hfz24_9
      try clear p2
      obtain ⟨x11_2,x12_2,x290000_2,x290001_2,x290002_2,x290003_2,x290004_2,x290005_2,x290006_2,x290007_2,x290008_2,x290009_2,x290010_2,x290011_2,x290012_2,rfl,rfl,HA,HK2,BK287,BK289,HB⟩ :=hrel
      cases gk with
      | zero=>exact absurd HA.out (by simp [complinelaw23_RearmLeft.l0])
      | succ k2=>
       have H:=HA.out
       clear HA
       simp only [complinelaw23_RearmLeft.l0] at H
       by_cases c25:x12_2 < a2
       ·rw [if_pos c25] at H
        have c25b0:decide (x12_2 < a2)=true:=decide_eq_true c25
        clear c25
        by_cases c26:0≤x12_2
        ·rw [if_pos c26] at H
         have c26b0:decide (0≤x12_2)=true:=decide_eq_true c26
         clear c26
         by_cases c27:x12_2 < (l3.length:Int)
         ·rw [if_pos c27] at H
          have c27b0:decide (x12_2 < (l3.length:Int))=true:=decide_eq_true c27
          clear c27
          by_cases c28:(rd l3 x12_2) > 1000000
          ·rw [if_pos c28] at H
           have c28b0:decide (1000000 < (rd l3 x12_2))=true:=decide_eq_true c28
           clear c28
           replace H:=Option.some.inj H
           have p307:0≤(x12_2:Int):=of_decide_eq_true (by first | (with_reducible assumption) | assumption)
           have q307:x12_2 < (l3.length:Int):=of_decide_eq_true (by first | (with_reducible assumption) | assumption)
           obtain ⟨ad307,e307,hx307_0⟩ :=Kd.at_int HR3.out x12_2 p307 q307
           cases e307
           replace hx307_0:=(HB.out.cell (World.block_lt_of_cell? w _ hx307_0)).trans hx307_0
           replace p307:=eq_true p307
           replace q307:=eq_true q307
           go_wp2
           go_ret
           exact ⟨by first | rfl | (simp [errW_none,errW_some] <;> rfl) | (simp [*,errW_none,errW_some] <;> rfl),by repeat (first | (with_reducible first | exact HB.out | apply below_alloc | apply pw_below_drewN | apply below_drew1 | refine below_set ?_ GE287.out | refine below_set ?_ GE289.out) | exact HB.out)⟩
          ·rw [if_neg c28] at H
           have c28b0:decide (1000000 < (rd l3 x12_2))=false:=decide_eq_false c28
           clear c28
           replace H:=Option.bind_eq_some_iff.mp H
           obtain ⟨⟨t309,t310,t311,t312,t313,t314,t315,t316,t317,t318,t319,t320,t321,t322,t323,t324⟩,A290,H⟩ :=H
           replace H:(if t324=0 then (if t312=(wrap64 (a2 - x12_2)) then (if t309≤(IntKind.u64.wrap (x11_2+(rd l3 x12_2))) then (some false) else (if t309 > (IntKind.u64.wrap ((IntKind.u64.wrap (x11_2+(rd l3 x12_2)))+a0_1)) then (some false) else (complinelaw23_RearmLeft.l0 k2 a2 l3 true t309 (wrap64 (x12_2+1)) a0_0 a0_1 a0_2 a0_3 a0_4 a0_5 a0_6 a0_7 a0_8 a0_9 a0_10 a0_11 a0_12 t310 t311 t312 t313 t314 t315 t316 t317 t318 t319 t320 t321 t322))) else (some false)) else (some false))=some true:=H
           have A29:=Aside0.mk A290
           clear A290
           by_cases c30:t324=0
           ·rw [if_pos c30] at H
            have c30b0:(t324 == 0)=true:=beq_iff_eq.mpr c30
            have c30b1:(t324 != 0)=false:=bne_eq_false_iff_eq.mpr c30
            clear c30
            by_cases c31:t312=(wrap64 (a2 - x12_2))
            ·rw [if_pos c31] at H
             have c31b0:(t312 == (wrap64 (a2 - x12_2)))=true:=beq_iff_eq.mpr c31
             have c31b1:(t312 != (wrap64 (a2 - x12_2)))=false:=bne_eq_false_iff_eq.mpr c31
             clear c31
             by_cases c32:t309≤(IntKind.u64.wrap (x11_2+(rd l3 x12_2)))
             ·rw [if_pos c32] at H
              have c32b0:decide (t309≤(IntKind.u64.wrap (x11_2+(rd l3 x12_2))))=true:=decide_eq_true c32
              clear c32
              exact absurd (Option.some.inj H) (by decide)
             ·rw [if_neg c32] at H
              have c32b0:decide (t309≤(IntKind.u64.wrap (x11_2+(rd l3 x12_2))))=false:=decide_eq_false c32
              clear c32
              by_cases c52:t309 > (IntKind.u64.wrap ((IntKind.u64.wrap (x11_2+(rd l3 x12_2)))+a0_1))
              ·rw [if_pos c52] at H
               have c52b0:decide ((IntKind.u64.wrap ((IntKind.u64.wrap (x11_2+(rd l3 x12_2)))+a0_1)) < t309)=true:=decide_eq_true c52
               clear c52
               exact absurd (Option.some.inj H) (by decide)
              ·rw [if_neg c52] at H
               have c52b0:decide ((IntKind.u64.wrap ((IntKind.u64.wrap (x11_2+(rd l3 x12_2)))+a0_1)) < t309)=false:=decide_eq_false c52
               clear c52
               have H':=Aside0.mk H
               clear H
               have p307:0≤(x12_2:Int):=of_decide_eq_true (by first | (with_reducible assumption) | assumption)
               have q307:x12_2 < (l3.length:Int):=of_decide_eq_true (by first | (with_reducible assumption) | assumption)
               obtain ⟨ad307,e307,hx307_0⟩ :=Kd.at_int HR3.out x12_2 p307 q307
               cases e307
               replace hx307_0:=(HB.out.cell (World.block_lt_of_cell? w _ hx307_0)).trans hx307_0
               replace p307:=eq_true p307
               replace q307:=eq_true q307
               try go_wp2
               have n0_:=Aside0.mk (blk_drew BK287.out)
               have n1_:=Aside0.mk (blk_drew BK289.out)
               have n2_:=Aside0.mk (below_drew1 HB.out)
               clear BK287
               clear BK289
               clear HB
               have BK287:=n0_
               have BK289:=n1_
               have HB:=n2_
               clear n0_ n1_ n2_
               have p308:0≤(x12_2:Int):=of_decide_eq_true (by first | (with_reducible assumption) | assumption)
               have q308:x12_2 < (l3.length:Int):=of_decide_eq_true (by first | (with_reducible assumption) | assumption)
               obtain ⟨ad308,e308,hx308_0⟩ :=Kd.at_int HR3.out x12_2 p308 q308
               have hw308_0:=hx308_0
               obtain rfl:ad307=ad308:=(by injection e308)
               replace hx308_0:=(HB.out.cell (World.block_lt_of_cell? w _ hx308_0)).trans hx308_0
               replace p308:=eq_true p308
               replace q308:=eq_true q308
               refine start_ (n:=19) (S:=fun w'=>w'.cell? ⟨gb289,0,none⟩=some (.int .i64 x290000_2)∧w'.cell? ⟨gb289,1,none⟩=some (.int .u64 x290001_2)∧w'.cell? ⟨gb289,2,none⟩=some (.int .i64 x290002_2)∧w'.cell? ⟨gb289,3,none⟩=some (.int .u64 x290003_2)∧w'.cell? ⟨gb289,4,none⟩=some (.bool x290004_2)∧w'.cell? ⟨gb289,5,none⟩=some (.int .u64 x290005_2)∧w'.cell? ⟨gb289,6,none⟩=some (.bool x290006_2)∧w'.cell? ⟨gb289,7,none⟩=some (.int .u64 x290007_2)∧w'.cell? ⟨gb289,8,none⟩=some (.bool x290008_2)∧w'.cell? ⟨gb289,9,none⟩=some (.int .u64 x290009_2)∧w'.cell? ⟨gb289,10,none⟩=some (.bool x290010_2)∧w'.cell? ⟨gb289,11,none⟩=some (.int .u64 x290011_2)∧w'.cell? ⟨gb289,12,none⟩=some (.bool x290012_2)∧w'.cell? (ad307.add (x12_2).toNat)=some (.int .u64 (rd l3 x12_2))) (ds:=[]) #[F_,F_,F_,F_,F_,F_,F_,F_,F_,F_,F_,F_,F_,F_,F_,F_,F_,F_,F_] (by kernel_rfl) rfl rfl ⟨(blk_cell BK289.out 0).trans rfl,(blk_cell BK289.out 1).trans rfl,(blk_cell BK289.out 2).trans rfl,(blk_cell BK289.out 3).trans rfl,(blk_cell BK289.out 4).trans rfl,(blk_cell BK289.out 5).trans rfl,(blk_cell BK289.out 6).trans rfl,(blk_cell BK289.out 7).trans rfl,(blk_cell BK289.out 8).trans rfl,(blk_cell BK289.out 9).trans rfl,(blk_cell BK289.out 10).trans rfl,(blk_cell BK289.out 11).trans rfl,(blk_cell BK289.out 12).trans rfl,((HB.out.cell (World.block_lt_of_cell? w _ hw308_0)).trans hw308_0)⟩ (fun hHeld=>?_); refine with_tabW complinelaw23_RearmLeft.tab13 complinelaw23_RearmLeft.bits13 (fun HT_ HW_=>?_)
               generalize wr.drew=w72 at BK287 BK289 HB hx308_0 hHeld ⊢
               refine pure_ (i:=1) (N:=some 74) (v:=?_) (a':=?_) #[F_,T_,F_,F_,F_,F_,F_,F_,F_,F_,F_,F_,F_,F_,F_,F_,F_,F_,F_] rfl rfl (any_of HT_.out (by kernel_rfl)) (fun _ _ _ h=>h) (Or.inl ⟨by rfl,?_⟩) ?_ ?_
               rotate_left
               ·intro w'
                go_simp
                with_reducible rfl
               rotate_left
               ·simp only [Act.put,List.setIfInBounds_toArray,List.set_cons_zero,List.set_cons_succ,i64_w,i32_w]
                rfl
               refine pure_ (i:=2) (N:=some 75) (v:=?_) (a':=?_) #[F_,T_,T_,F_,F_,F_,F_,F_,F_,F_,F_,F_,F_,F_,F_,F_,F_,F_,F_] rfl rfl (any_of HT_.out (by kernel_rfl)) (fun _ _ _ h=>h) (Or.inl ⟨by rfl,?_⟩) ?_ ?_
               rotate_left
               ·intro w'
                go_simp
                with_reducible rfl
               rotate_left
               ·simp only [Act.put,List.setIfInBounds_toArray,List.set_cons_zero,List.set_cons_succ,i64_w,i32_w]
                rfl
               refine pure_ (i:=3) (N:=some 76) (v:=?_) (a':=?_) #[F_,T_,T_,T_,F_,F_,F_,F_,F_,F_,F_,F_,F_,F_,F_,F_,F_,F_,F_] rfl rfl (any_of HT_.out (by kernel_rfl)) (fun _ _ _ h=>h) (Or.inl ⟨by rfl,?_⟩) ?_ ?_
               rotate_left
               ·intro w'
                go_simp
                with_reducible rfl
               rotate_left
               ·simp only [Act.put,List.setIfInBounds_toArray,List.set_cons_zero,List.set_cons_succ,i64_w,i32_w]
                rfl
               refine pure_ (i:=4) (N:=some 77) (v:=?_) (a':=?_) #[F_,T_,T_,T_,T_,F_,F_,F_,F_,F_,F_,F_,F_,F_,F_,F_,F_,F_,F_] rfl rfl (any_of HT_.out (by kernel_rfl)) (fun _ _ _ h=>h) (Or.inl ⟨by rfl,?_⟩) ?_ ?_
               rotate_left
               ·intro w'
                go_simp
                with_reducible rfl
               rotate_left
               ·simp only [Act.put,List.setIfInBounds_toArray,List.set_cons_zero,List.set_cons_succ,i64_w,i32_w]
                rfl
               refine pure_ (i:=5) (N:=some 78) (v:=?_) (a':=?_) #[F_,T_,T_,T_,T_,T_,F_,F_,F_,F_,F_,F_,F_,F_,F_,F_,F_,F_,F_] rfl rfl (any_of HT_.out (by kernel_rfl)) (fun _ _ _ h=>h) (Or.inl ⟨by rfl,?_⟩) ?_ ?_
               rotate_left
               ·intro w'
                go_simp
                with_reducible rfl
               rotate_left
               ·simp only [Act.put,List.setIfInBounds_toArray,List.set_cons_zero,List.set_cons_succ,i64_w,i32_w]
                rfl
               refine take_ (i:=0) (N:=some 73) (v:=?_) (a':=?_) #[T_,T_,T_,T_,T_,T_,F_,F_,F_,F_,F_,F_,F_,F_,F_,F_,F_,F_,F_] rfl rfl (take_ofW HT_.out HW_.out (by kernel_rfl)) (fun _ _ _ h=>h) (Or.inl ⟨by rfl,?_⟩) hHeld ?_ ?_
               rotate_left
               ·rintro w' ⟨s0,s1,s2,s3,s4,s5,s6,s7,s8,s9,s10,s11,s12,s13⟩
                go_simp
                with_reducible rfl
               rotate_left
               ·simp only [Act.put,List.setIfInBounds_toArray,List.set_cons_zero,List.set_cons_succ,i64_w,i32_w]
                rfl
               refine take_ (i:=6) (N:=some 79) (v:=?_) (a':=?_) #[T_,T_,T_,T_,T_,T_,T_,F_,F_,F_,F_,F_,F_,F_,F_,F_,F_,F_,F_] rfl rfl (take_ofW HT_.out HW_.out (by kernel_rfl)) (fun _ _ _ h=>h) (Or.inl ⟨by rfl,?_⟩) hHeld ?_ ?_
               rotate_left
               ·rintro w' ⟨s0,s1,s2,s3,s4,s5,s6,s7,s8,s9,s10,s11,s12,s13⟩
                go_simp
                with_reducible rfl
               rotate_left
               ·simp only [Act.put,List.setIfInBounds_toArray,List.set_cons_zero,List.set_cons_succ,i64_w,i32_w]
                rfl
               refine pure_ (i:=7) (N:=some 80) (v:=?_) (a':=?_) #[T_,T_,T_,T_,T_,T_,T_,T_,F_,F_,F_,F_,F_,F_,F_,F_,F_,F_,F_] rfl rfl (any_of HT_.out (by kernel_rfl)) (fun _ _ _ h=>h) (Or.inl ⟨by rfl,?_⟩) ?_ ?_
               rotate_left
               ·intro w'
                go_simp
                with_reducible rfl
               rotate_left
               ·simp only [Act.put,List.setIfInBounds_toArray,List.set_cons_zero,List.set_cons_succ,i64_w,i32_w]
                rfl
               refine join_ (σ:=Nat) 4 #[T_,T_,T_,T_,T_,T_,T_,T_,T_,T_,T_,T_,T_,T_,T_,F_,F_,F_,F_] (fun s_=>[(81,.tuple #[.int .u64 t309,.agg #[.int .i64 t310,.int .u64 t311,.int .i64 t312,.int .u64 t313,.bool t314,.int .u64 t315,.bool t316,.int .u64 t317,.bool t318,.int .u64 t319,.bool t320,.int .u64 t321,.bool t322],.int .u64 t323,.int .i64 t324]),(14,.pointer (some ⟨s_,0,none⟩)),(72,.tuple #[.int .u64 t309,.agg #[.int .i64 t310,.int .u64 t311,.int .i64 t312,.int .u64 t313,.bool t314,.int .u64 t315,.bool t316,.int .u64 t317,.bool t318,.int .u64 t319,.bool t320,.int .u64 t321,.bool t322],.int .u64 t323,.int .i64 t324]),(82,.int .u64 t309),(83,.agg #[.int .i64 t310,.int .u64 t311,.int .i64 t312,.int .u64 t313,.bool t314,.int .u64 t315,.bool t316,.int .u64 t317,.bool t318,.int .u64 t319,.bool t320,.int .u64 t321,.bool t322]),(84,.int .u64 t323),(85,.int .i64 t324)]) (fun s_ w'=>(w'.cell? ⟨gb289,0,none⟩=some (.int .i64 x290000_2)∧w'.cell? ⟨gb289,1,none⟩=some (.int .u64 x290001_2)∧w'.cell? ⟨gb289,2,none⟩=some (.int .i64 x290002_2)∧w'.cell? ⟨gb289,3,none⟩=some (.int .u64 x290003_2)∧w'.cell? ⟨gb289,4,none⟩=some (.bool x290004_2)∧w'.cell? ⟨gb289,5,none⟩=some (.int .u64 x290005_2)∧w'.cell? ⟨gb289,6,none⟩=some (.bool x290006_2)∧w'.cell? ⟨gb289,7,none⟩=some (.int .u64 x290007_2)∧w'.cell? ⟨gb289,8,none⟩=some (.bool x290008_2)∧w'.cell? ⟨gb289,9,none⟩=some (.int .u64 x290009_2)∧w'.cell? ⟨gb289,10,none⟩=some (.bool x290010_2)∧w'.cell? ⟨gb289,11,none⟩=some (.int .u64 x290011_2)∧w'.cell? ⟨gb289,12,none⟩=some (.bool x290012_2)∧w'.cell? (ad307.add (x12_2).toNat)=some (.int .u64 (rd l3 x12_2)))∧(w'.heap[gb287]?=some (.cells #[.int .i64 a0_0,.int .u64 a0_1,.int .i64 a0_2,.int .u64 a0_3,.bool a0_4,.int .u64 a0_5,.bool a0_6,.int .u64 a0_7,.bool a0_8,.int .u64 a0_9,.bool a0_10,.int .u64 a0_11,.bool a0_12] 28 (0,0)))∧(w'.heap[gb289]?=some (.cells #[.int .i64 x290000_2,.int .u64 x290001_2,.int .i64 x290002_2,.int .u64 x290003_2,.bool x290004_2,.int .u64 x290005_2,.bool x290006_2,.int .u64 x290007_2,.bool x290008_2,.int .u64 x290009_2,.bool x290010_2,.int .u64 x290011_2,.bool x290012_2] 28 (0,0)))∧(w'.heap[s_]?=some (.cells #[.int .i64 0,.int .u64 0,.int .i64 0,.int .u64 0,.bool false,.int .u64 0,.bool false,.int .u64 0,.bool false,.int .u64 0,.bool false,.int .u64 0,.bool false] 28 (0,0)))∧(w.heap.size≤s_)∧(w.heap.size≤s_)∧(gb287≠s_)∧(s_≠gb287)∧(gb289≠s_)∧(s_≠gb289)∧(Below w.heap.size w w')) ?_ ?_
               rotate_left
               ·intro hCont
                refine two_ (i:=8) (j:=14) (Ni:=some 81) (Nj:=some 14) #[T_,T_,T_,T_,T_,T_,T_,T_,T_,F_,F_,F_,F_,F_,F_,F_,F_,F_,F_] #[T_,T_,T_,T_,T_,T_,T_,T_,F_,F_,F_,F_,F_,F_,T_,F_,F_,F_,F_] rfl rfl rfl rfl (two_of HT_.out (by kernel_rfl)) (by decide) (by decide) (fun K hK=>?_) (fun K hK=>?_)
                ·skip
                 refine goes_ Tryd.func16 (by kernel_rfl) rfl #[.agg #[.int .i64 x290000_2,.int .u64 x290001_2,.int .i64 x290002_2,.int .u64 x290003_2,.bool x290004_2,.int .u64 x290005_2,.bool x290006_2,.int .u64 x290007_2,.bool x290008_2,.int .u64 x290009_2,.bool x290010_2,.int .u64 x290011_2,.bool x290012_2],.int .u64 x11_2,.int .u64 (IntKind.u64.wrap (x11_2+(rd l3 x12_2)))] (by rfl) rfl rfl (by (try simp only [List.map_toArray,List.map_cons,List.map_nil]); first | done | rfl | (simp only [List.length_drop,List.length_take]; rfl)) ?_
                 with_reducible refine (rearm_Again.calls x290000_2 x290001_2 x290002_2 x290003_2 x290004_2 x290005_2 x290006_2 x290007_2 x290008_2 x290009_2 x290010_2 x290011_2 x290012_2 x11_2 (IntKind.u64.wrap (x11_2+(rd l3 x12_2))) t309 t310 t311 t312 t313 t314 t315 t316 t317 t318 t319 t320 t321 t322 t323 t324 _ (hT.keep (by repeat (first | (with_reducible first | exact HB.out | apply below_alloc | apply pw_below_drewN | apply below_drew1 | refine below_set ?_ GE287.out | refine below_set ?_ GE289.out | refine below_set ?_ GE306.out | refine below_set ?_ GE325.out) | exact HB.out))) A29.out).mono ?_
                 rintro e w73 ⟨rfl,hb⟩
                 refine ⟨_,rfl,?_⟩
                 have n0_:=Aside0.mk (blk_below (g:=gb287) (o:=.cells #[.int .i64 a0_0,.int .u64 a0_1,.int .i64 a0_2,.int .u64 a0_3,.bool a0_4,.int .u64 a0_5,.bool a0_6,.int .u64 a0_7,.bool a0_8,.int .u64 a0_9,.bool a0_10,.int .u64 a0_11,.bool a0_12] 28 (0,0)) (by (with_reducible repeat (first | refine blk_drewN ?_ _ | refine blk_drew ?_ | refine blk_alloc ?_ _)); exact BK287.out) hb)
                 have n1_:=Aside0.mk (blk_below (g:=gb289) (o:=.cells #[.int .i64 x290000_2,.int .u64 x290001_2,.int .i64 x290002_2,.int .u64 x290003_2,.bool x290004_2,.int .u64 x290005_2,.bool x290006_2,.int .u64 x290007_2,.bool x290008_2,.int .u64 x290009_2,.bool x290010_2,.int .u64 x290011_2,.bool x290012_2] 28 (0,0)) (by (with_reducible repeat (first | refine blk_drewN ?_ _ | refine blk_drew ?_ | refine blk_alloc ?_ _)); exact BK289.out) hb)
                 have n2_:=Aside0.mk (below_step (by repeat (first | (with_reducible first | exact HB.out | apply below_alloc | apply pw_below_drewN | apply below_drew1 | refine below_set ?_ GE287.out | refine below_set ?_ GE289.out) | exact HB.out)) hb)
                 clear BK287
                 clear BK289
                 clear HB
                 have BK287:=n0_
                 have BK289:=n1_
                 have HB:=n2_
                 clear n0_ n1_ n2_
                 (try clear hb)
                 (try clear hb2)
                 (try clear hk)
                 (try clear hi)
                 refine hK.out _ _ ⟨(blk_cell BK289.out 0).trans rfl,(blk_cell BK289.out 1).trans rfl,(blk_cell BK289.out 2).trans rfl,(blk_cell BK289.out 3).trans rfl,(blk_cell BK289.out 4).trans rfl,(blk_cell BK289.out 5).trans rfl,(blk_cell BK289.out 6).trans rfl,(blk_cell BK289.out 7).trans rfl,(blk_cell BK289.out 8).trans rfl,(blk_cell BK289.out 9).trans rfl,(blk_cell BK289.out 10).trans rfl,(blk_cell BK289.out 11).trans rfl,(blk_cell BK289.out 12).trans rfl,((HB.out.cell (World.block_lt_of_cell? w _ hw308_0)).trans hw308_0)⟩ (fun hHeld=>?_)
                 clear hK K
                 refine norm_ (a':=?_) ?_ ?_
                 rotate_left
                 ·show Act.put _ (some 81) _=_
                  simp only [Act.put,List.setIfInBounds_toArray,List.set_cons_zero,List.set_cons_succ,i64_w,i32_w]
                  rfl
                 refine pure_ (i:=9) (N:=some 72) (v:=?_) (a':=?_) #[T_,T_,T_,T_,T_,T_,T_,T_,T_,T_,F_,F_,F_,F_,F_,F_,F_,F_,F_] rfl rfl (any_of HT_.out (by kernel_rfl)) (fun _ _ _ h=>h) (Or.inl ⟨by rfl,?_⟩) ?_ ?_
                 rotate_left
                 ·intro w'
                  go_simp
                  with_reducible rfl
                 rotate_left
                 ·simp only [Act.put,List.setIfInBounds_toArray,List.set_cons_zero,List.set_cons_succ,i64_w,i32_w]
                  rfl
                 refine pure_ (i:=10) (N:=some 82) (v:=?_) (a':=?_) #[T_,T_,T_,T_,T_,T_,T_,T_,T_,T_,T_,F_,F_,F_,F_,F_,F_,F_,F_] rfl rfl (any_of HT_.out (by kernel_rfl)) (fun _ _ _ h=>h) (Or.inl ⟨by rfl,?_⟩) ?_ ?_
                 rotate_left
                 ·intro w'
                  go_simp
                  with_reducible rfl
                 rotate_left
                 ·simp only [Act.put,List.setIfInBounds_toArray,List.set_cons_zero,List.set_cons_succ,i64_w,i32_w]
                  rfl
                 refine pure_ (i:=11) (N:=some 83) (v:=?_) (a':=?_) #[T_,T_,T_,T_,T_,T_,T_,T_,T_,T_,T_,T_,F_,F_,F_,F_,F_,F_,F_] rfl rfl (any_of HT_.out (by kernel_rfl)) (fun _ _ _ h=>h) (Or.inl ⟨by rfl,?_⟩) ?_ ?_
                 rotate_left
                 ·intro w'
                  go_simp
                  with_reducible rfl
                 rotate_left
                 ·simp only [Act.put,List.setIfInBounds_toArray,List.set_cons_zero,List.set_cons_succ,i64_w,i32_w]
                  rfl
                 refine pure_ (i:=12) (N:=some 84) (v:=?_) (a':=?_) #[T_,T_,T_,T_,T_,T_,T_,T_,T_,T_,T_,T_,T_,F_,F_,F_,F_,F_,F_] rfl rfl (any_of HT_.out (by kernel_rfl)) (fun _ _ _ h=>h) (Or.inl ⟨by rfl,?_⟩) ?_ ?_
                 rotate_left
                 ·intro w'
                  go_simp
                  with_reducible rfl
                 rotate_left
                 ·simp only [Act.put,List.setIfInBounds_toArray,List.set_cons_zero,List.set_cons_succ,i64_w,i32_w]
                  rfl
                 refine pure_ (i:=13) (N:=some 85) (v:=?_) (a':=?_) #[T_,T_,T_,T_,T_,T_,T_,T_,T_,T_,T_,T_,T_,T_,F_,F_,F_,F_,F_] rfl rfl (any_of HT_.out (by kernel_rfl)) (fun _ _ _ h=>h) (Or.inl ⟨by rfl,?_⟩) ?_ ?_
                 rotate_left
                 ·intro w'
                  go_simp
                  with_reducible rfl
                 rotate_left
                 ·simp only [Act.put,List.setIfInBounds_toArray,List.set_cons_zero,List.set_cons_succ,i64_w,i32_w]
                  rfl
                 refine one_ (i:=14) (N:=some 14) #[T_,T_,T_,T_,T_,T_,T_,T_,T_,T_,T_,T_,T_,T_,T_,F_,F_,F_,F_] rfl rfl (one_of HT_.out (by kernel_rfl)) (by decide) (fun K hK=>?_)
                 refine box_step ?hg (N:=14) ?hd (cs:=#[.int .i64 0,.int .u64 0,.int .i64 0,.int .u64 0,.bool false,.int .u64 0,.bool false,.int .u64 0,.bool false,.int .u64 0,.bool false,.int .u64 0,.bool false]) (t:=28) ?hr ?_; (case hd=>rfl); (case hg=>rfl); (case hr=>first | (go_simp; done) | (go_simp; rfl))
                 intro gb325 hg w74 hbox hb
                 have n0_:=Aside0.mk (blk_below (g:=gb287) (o:=.cells #[.int .i64 a0_0,.int .u64 a0_1,.int .i64 a0_2,.int .u64 a0_3,.bool a0_4,.int .u64 a0_5,.bool a0_6,.int .u64 a0_7,.bool a0_8,.int .u64 a0_9,.bool a0_10,.int .u64 a0_11,.bool a0_12] 28 (0,0)) (by (with_reducible repeat (first | refine blk_drewN ?_ _ | refine blk_drew ?_ | refine blk_alloc ?_ _)); exact BK287.out) hb)
                 have n1_:=Aside0.mk (blk_below (g:=gb289) (o:=.cells #[.int .i64 x290000_2,.int .u64 x290001_2,.int .i64 x290002_2,.int .u64 x290003_2,.bool x290004_2,.int .u64 x290005_2,.bool x290006_2,.int .u64 x290007_2,.bool x290008_2,.int .u64 x290009_2,.bool x290010_2,.int .u64 x290011_2,.bool x290012_2] 28 (0,0)) (by (with_reducible repeat (first | refine blk_drewN ?_ _ | refine blk_drew ?_ | refine blk_alloc ?_ _)); exact BK289.out) hb)
                 have n2_:=Aside0.mk (below_step (by repeat (first | (with_reducible first | exact HB.out | apply below_alloc | apply pw_below_drewN | apply below_drew1 | refine below_set ?_ GE287.out | refine below_set ?_ GE289.out) | exact HB.out)) hb)
                 have n3_:=Aside0.mk (hbox)
                 have n4_:=Aside0.mk ((by rw [hg]; exact (below_size (by repeat (first | (with_reducible first | exact HB.out | apply below_alloc | apply pw_below_drewN | apply below_drew1 | refine below_set ?_ GE287.out | refine below_set ?_ GE289.out) | exact HB.out))):w.heap.size≤gb325))
                 have n5_:=Aside0.mk ((by rw [hg]; exact (below_size (by repeat (first | (with_reducible first | exact HB.out | apply below_alloc | apply pw_below_drewN | apply below_drew1 | refine below_set ?_ GE287.out | refine below_set ?_ GE289.out) | exact HB.out))):w.heap.size≤gb325))
                 have n6_:=Aside0.mk ((by rw [hg]; exact Nat.ne_of_lt (blk_lt (g:=gb287) (o:=.cells #[.int .i64 a0_0,.int .u64 a0_1,.int .i64 a0_2,.int .u64 a0_3,.bool a0_4,.int .u64 a0_5,.bool a0_6,.int .u64 a0_7,.bool a0_8,.int .u64 a0_9,.bool a0_10,.int .u64 a0_11,.bool a0_12] 28 (0,0)) (by (with_reducible repeat (first | refine blk_drewN ?_ _ | refine blk_drew ?_ | refine blk_alloc ?_ _)); exact BK287.out)):gb287≠gb325))
                 have n7_:=Aside0.mk ((by rw [hg]; exact Nat.ne_of_gt (blk_lt (g:=gb287) (o:=.cells #[.int .i64 a0_0,.int .u64 a0_1,.int .i64 a0_2,.int .u64 a0_3,.bool a0_4,.int .u64 a0_5,.bool a0_6,.int .u64 a0_7,.bool a0_8,.int .u64 a0_9,.bool a0_10,.int .u64 a0_11,.bool a0_12] 28 (0,0)) (by (with_reducible repeat (first | refine blk_drewN ?_ _ | refine blk_drew ?_ | refine blk_alloc ?_ _)); exact BK287.out)):gb325≠gb287))
                 have n8_:=Aside0.mk ((by rw [hg]; exact Nat.ne_of_lt (blk_lt (g:=gb289) (o:=.cells #[.int .i64 x290000_2,.int .u64 x290001_2,.int .i64 x290002_2,.int .u64 x290003_2,.bool x290004_2,.int .u64 x290005_2,.bool x290006_2,.int .u64 x290007_2,.bool x290008_2,.int .u64 x290009_2,.bool x290010_2,.int .u64 x290011_2,.bool x290012_2] 28 (0,0)) (by (with_reducible repeat (first | refine blk_drewN ?_ _ | refine blk_drew ?_ | refine blk_alloc ?_ _)); exact BK289.out)):gb289≠gb325))
                 have n9_:=Aside0.mk ((by rw [hg]; exact Nat.ne_of_gt (blk_lt (g:=gb289) (o:=.cells #[.int .i64 x290000_2,.int .u64 x290001_2,.int .i64 x290002_2,.int .u64 x290003_2,.bool x290004_2,.int .u64 x290005_2,.bool x290006_2,.int .u64 x290007_2,.bool x290008_2,.int .u64 x290009_2,.bool x290010_2,.int .u64 x290011_2,.bool x290012_2] 28 (0,0)) (by (with_reducible repeat (first | refine blk_drewN ?_ _ | refine blk_drew ?_ | refine blk_alloc ?_ _)); exact BK289.out)):gb325≠gb289))
                 clear BK287
                 clear BK289
                 clear HB
                 have BK287:=n0_
                 have BK289:=n1_
                 have HB:=n2_
                 have BK325:=n3_
                 have GW325:=n4_
                 have GE325:=n5_
                 have NB287_325:=n6_
                 have NB325_287:=n7_
                 have NB289_325:=n8_
                 have NB325_289:=n9_
                 clear n0_ n1_ n2_ n3_ n4_ n5_ n6_ n7_ n8_ n9_
                 clear hb hbox hg
                 refine hK.out _ _ ⟨(blk_cell BK289.out 0).trans rfl,(blk_cell BK289.out 1).trans rfl,(blk_cell BK289.out 2).trans rfl,(blk_cell BK289.out 3).trans rfl,(blk_cell BK289.out 4).trans rfl,(blk_cell BK289.out 5).trans rfl,(blk_cell BK289.out 6).trans rfl,(blk_cell BK289.out 7).trans rfl,(blk_cell BK289.out 8).trans rfl,(blk_cell BK289.out 9).trans rfl,(blk_cell BK289.out 10).trans rfl,(blk_cell BK289.out 11).trans rfl,(blk_cell BK289.out 12).trans rfl,((HB.out.cell (World.block_lt_of_cell? w _ hw308_0)).trans hw308_0)⟩ (fun hHeld=>?_)
                 clear hK K
                 refine norm_ (a':=?_) ?_ ?_
                 rotate_left
                 ·show Act.put _ (some 14) _=_
                  simp only [Act.put,List.setIfInBounds_toArray,List.set_cons_zero,List.set_cons_succ,i64_w,i32_w]
                  rfl
                 exact norm_ (by simp only [putAll,Act.put,List.setIfInBounds_toArray,List.set_cons_zero,List.set_cons_succ]) (hCont (gb325) _ ⟨hHeld,(by (with_reducible repeat (first | refine blk_drewN ?_ _ | refine blk_drew ?_ | refine blk_alloc ?_ _)); exact BK287.out),(by (with_reducible repeat (first | refine blk_drewN ?_ _ | refine blk_drew ?_ | refine blk_alloc ?_ _)); exact BK289.out),(by (with_reducible repeat (first | refine blk_drewN ?_ _ | refine blk_drew ?_ | refine blk_alloc ?_ _)); exact BK325.out),GW325.out,GE325.out,NB287_325.out,NB325_287.out,NB289_325.out,NB325_289.out,(by repeat (first | (with_reducible first | exact HB.out | apply below_alloc | apply pw_below_drewN | apply below_drew1 | refine below_set ?_ GE287.out | refine below_set ?_ GE289.out | refine below_set ?_ GE325.out) | exact HB.out))⟩)
                ·skip
                 refine box_step ?hg (N:=14) ?hd (cs:=#[.int .i64 0,.int .u64 0,.int .i64 0,.int .u64 0,.bool false,.int .u64 0,.bool false,.int .u64 0,.bool false,.int .u64 0,.bool false,.int .u64 0,.bool false]) (t:=28) ?hr ?_; (case hd=>rfl); (case hg=>rfl); (case hr=>first | (go_simp; done) | (go_simp; rfl))
                 intro gb325 hg w73 hbox hb
                 have n0_:=Aside0.mk (blk_below (g:=gb287) (o:=.cells #[.int .i64 a0_0,.int .u64 a0_1,.int .i64 a0_2,.int .u64 a0_3,.bool a0_4,.int .u64 a0_5,.bool a0_6,.int .u64 a0_7,.bool a0_8,.int .u64 a0_9,.bool a0_10,.int .u64 a0_11,.bool a0_12] 28 (0,0)) (by (with_reducible repeat (first | refine blk_drewN ?_ _ | refine blk_drew ?_ | refine blk_alloc ?_ _)); exact BK287.out) hb)
                 have n1_:=Aside0.mk (blk_below (g:=gb289) (o:=.cells #[.int .i64 x290000_2,.int .u64 x290001_2,.int .i64 x290002_2,.int .u64 x290003_2,.bool x290004_2,.int .u64 x290005_2,.bool x290006_2,.int .u64 x290007_2,.bool x290008_2,.int .u64 x290009_2,.bool x290010_2,.int .u64 x290011_2,.bool x290012_2] 28 (0,0)) (by (with_reducible repeat (first | refine blk_drewN ?_ _ | refine blk_drew ?_ | refine blk_alloc ?_ _)); exact BK289.out) hb)
                 have n2_:=Aside0.mk (below_step (by repeat (first | (with_reducible first | exact HB.out | apply below_alloc | apply pw_below_drewN | apply below_drew1 | refine below_set ?_ GE287.out | refine below_set ?_ GE289.out) | exact HB.out)) hb)
                 have n3_:=Aside0.mk (hbox)
                 have n4_:=Aside0.mk ((by rw [hg]; exact (below_size (by repeat (first | (with_reducible first | exact HB.out | apply below_alloc | apply pw_below_drewN | apply below_drew1 | refine below_set ?_ GE287.out | refine below_set ?_ GE289.out) | exact HB.out))):w.heap.size≤gb325))
                 have n5_:=Aside0.mk ((by rw [hg]; exact (below_size (by repeat (first | (with_reducible first | exact HB.out | apply below_alloc | apply pw_below_drewN | apply below_drew1 | refine below_set ?_ GE287.out | refine below_set ?_ GE289.out) | exact HB.out))):w.heap.size≤gb325))
                 have n6_:=Aside0.mk ((by rw [hg]; exact Nat.ne_of_lt (blk_lt (g:=gb287) (o:=.cells #[.int .i64 a0_0,.int .u64 a0_1,.int .i64 a0_2,.int .u64 a0_3,.bool a0_4,.int .u64 a0_5,.bool a0_6,.int .u64 a0_7,.bool a0_8,.int .u64 a0_9,.bool a0_10,.int .u64 a0_11,.bool a0_12] 28 (0,0)) (by (with_reducible repeat (first | refine blk_drewN ?_ _ | refine blk_drew ?_ | refine blk_alloc ?_ _)); exact BK287.out)):gb287≠gb325))
                 have n7_:=Aside0.mk ((by rw [hg]; exact Nat.ne_of_gt (blk_lt (g:=gb287) (o:=.cells #[.int .i64 a0_0,.int .u64 a0_1,.int .i64 a0_2,.int .u64 a0_3,.bool a0_4,.int .u64 a0_5,.bool a0_6,.int .u64 a0_7,.bool a0_8,.int .u64 a0_9,.bool a0_10,.int .u64 a0_11,.bool a0_12] 28 (0,0)) (by (with_reducible repeat (first | refine blk_drewN ?_ _ | refine blk_drew ?_ | refine blk_alloc ?_ _)); exact BK287.out)):gb325≠gb287))
                 have n8_:=Aside0.mk ((by rw [hg]; exact Nat.ne_of_lt (blk_lt (g:=gb289) (o:=.cells #[.int .i64 x290000_2,.int .u64 x290001_2,.int .i64 x290002_2,.int .u64 x290003_2,.bool x290004_2,.int .u64 x290005_2,.bool x290006_2,.int .u64 x290007_2,.bool x290008_2,.int .u64 x290009_2,.bool x290010_2,.int .u64 x290011_2,.bool x290012_2] 28 (0,0)) (by (with_reducible repeat (first | refine blk_drewN ?_ _ | refine blk_drew ?_ | refine blk_alloc ?_ _)); exact BK289.out)):gb289≠gb325))
                 have n9_:=Aside0.mk ((by rw [hg]; exact Nat.ne_of_gt (blk_lt (g:=gb289) (o:=.cells #[.int .i64 x290000_2,.int .u64 x290001_2,.int .i64 x290002_2,.int .u64 x290003_2,.bool x290004_2,.int .u64 x290005_2,.bool x290006_2,.int .u64 x290007_2,.bool x290008_2,.int .u64 x290009_2,.bool x290010_2,.int .u64 x290011_2,.bool x290012_2] 28 (0,0)) (by (with_reducible repeat (first | refine blk_drewN ?_ _ | refine blk_drew ?_ | refine blk_alloc ?_ _)); exact BK289.out)):gb325≠gb289))
                 clear BK287
                 clear BK289
                 clear HB
                 have BK287:=n0_
                 have BK289:=n1_
                 have HB:=n2_
                 have BK325:=n3_
                 have GW325:=n4_
                 have GE325:=n5_
                 have NB287_325:=n6_
                 have NB325_287:=n7_
                 have NB289_325:=n8_
                 have NB325_289:=n9_
                 clear n0_ n1_ n2_ n3_ n4_ n5_ n6_ n7_ n8_ n9_
                 clear hb hbox hg
                 refine hK.out _ _ ⟨(blk_cell BK289.out 0).trans rfl,(blk_cell BK289.out 1).trans rfl,(blk_cell BK289.out 2).trans rfl,(blk_cell BK289.out 3).trans rfl,(blk_cell BK289.out 4).trans rfl,(blk_cell BK289.out 5).trans rfl,(blk_cell BK289.out 6).trans rfl,(blk_cell BK289.out 7).trans rfl,(blk_cell BK289.out 8).trans rfl,(blk_cell BK289.out 9).trans rfl,(blk_cell BK289.out 10).trans rfl,(blk_cell BK289.out 11).trans rfl,(blk_cell BK289.out 12).trans rfl,((HB.out.cell (World.block_lt_of_cell? w _ hw308_0)).trans hw308_0)⟩ (fun hHeld=>?_)
                 clear hK K
                 refine norm_ (a':=?_) ?_ ?_
                 rotate_left
                 ·show Act.put _ (some 14) _=_
                  simp only [Act.put,List.setIfInBounds_toArray,List.set_cons_zero,List.set_cons_succ,i64_w,i32_w]
                  rfl
                 refine one_ (i:=8) (N:=some 81) #[T_,T_,T_,T_,T_,T_,T_,T_,T_,F_,F_,F_,F_,F_,T_,F_,F_,F_,F_] rfl rfl (one_of HT_.out (by kernel_rfl)) (by decide) (fun K hK=>?_)
                 refine goes_ Tryd.func16 (by kernel_rfl) rfl #[.agg #[.int .i64 x290000_2,.int .u64 x290001_2,.int .i64 x290002_2,.int .u64 x290003_2,.bool x290004_2,.int .u64 x290005_2,.bool x290006_2,.int .u64 x290007_2,.bool x290008_2,.int .u64 x290009_2,.bool x290010_2,.int .u64 x290011_2,.bool x290012_2],.int .u64 x11_2,.int .u64 (IntKind.u64.wrap (x11_2+(rd l3 x12_2)))] (by rfl) rfl rfl (by (try simp only [List.map_toArray,List.map_cons,List.map_nil]); first | done | rfl | (simp only [List.length_drop,List.length_take]; rfl)) ?_
                 with_reducible refine (rearm_Again.calls x290000_2 x290001_2 x290002_2 x290003_2 x290004_2 x290005_2 x290006_2 x290007_2 x290008_2 x290009_2 x290010_2 x290011_2 x290012_2 x11_2 (IntKind.u64.wrap (x11_2+(rd l3 x12_2))) t309 t310 t311 t312 t313 t314 t315 t316 t317 t318 t319 t320 t321 t322 t323 t324 _ (hT.keep (by repeat (first | (with_reducible first | exact HB.out | apply below_alloc | apply pw_below_drewN | apply below_drew1 | refine below_set ?_ GE287.out | refine below_set ?_ GE289.out | refine below_set ?_ GE306.out | refine below_set ?_ GE325.out) | exact HB.out))) A29.out).mono ?_
                 rintro e w74 ⟨rfl,hb⟩
                 refine ⟨_,rfl,?_⟩
                 have n0_:=Aside0.mk (blk_below (g:=gb287) (o:=.cells #[.int .i64 a0_0,.int .u64 a0_1,.int .i64 a0_2,.int .u64 a0_3,.bool a0_4,.int .u64 a0_5,.bool a0_6,.int .u64 a0_7,.bool a0_8,.int .u64 a0_9,.bool a0_10,.int .u64 a0_11,.bool a0_12] 28 (0,0)) (by (with_reducible repeat (first | refine blk_drewN ?_ _ | refine blk_drew ?_ | refine blk_alloc ?_ _)); exact BK287.out) hb)
                 have n1_:=Aside0.mk (blk_below (g:=gb289) (o:=.cells #[.int .i64 x290000_2,.int .u64 x290001_2,.int .i64 x290002_2,.int .u64 x290003_2,.bool x290004_2,.int .u64 x290005_2,.bool x290006_2,.int .u64 x290007_2,.bool x290008_2,.int .u64 x290009_2,.bool x290010_2,.int .u64 x290011_2,.bool x290012_2] 28 (0,0)) (by (with_reducible repeat (first | refine blk_drewN ?_ _ | refine blk_drew ?_ | refine blk_alloc ?_ _)); exact BK289.out) hb)
                 have n2_:=Aside0.mk (blk_below (g:=gb325) (o:=.cells #[.int .i64 0,.int .u64 0,.int .i64 0,.int .u64 0,.bool false,.int .u64 0,.bool false,.int .u64 0,.bool false,.int .u64 0,.bool false,.int .u64 0,.bool false] 28 (0,0)) (by (with_reducible repeat (first | refine blk_drewN ?_ _ | refine blk_drew ?_ | refine blk_alloc ?_ _)); exact BK325.out) hb)
                 have n3_:=Aside0.mk (below_step (by repeat (first | (with_reducible first | exact HB.out | apply below_alloc | apply pw_below_drewN | apply below_drew1 | refine below_set ?_ GE287.out | refine below_set ?_ GE289.out | refine below_set ?_ GE325.out) | exact HB.out)) hb)
                 clear BK287
                 clear BK289
                 clear BK325
                 clear HB
                 have BK287:=n0_
                 have BK289:=n1_
                 have BK325:=n2_
                 have HB:=n3_
                 clear n0_ n1_ n2_ n3_
                 (try clear hb)
                 (try clear hb2)
                 (try clear hk)
                 (try clear hi)
                 refine hK.out _ _ ⟨(blk_cell BK289.out 0).trans rfl,(blk_cell BK289.out 1).trans rfl,(blk_cell BK289.out 2).trans rfl,(blk_cell BK289.out 3).trans rfl,(blk_cell BK289.out 4).trans rfl,(blk_cell BK289.out 5).trans rfl,(blk_cell BK289.out 6).trans rfl,(blk_cell BK289.out 7).trans rfl,(blk_cell BK289.out 8).trans rfl,(blk_cell BK289.out 9).trans rfl,(blk_cell BK289.out 10).trans rfl,(blk_cell BK289.out 11).trans rfl,(blk_cell BK289.out 12).trans rfl,((HB.out.cell (World.block_lt_of_cell? w _ hw308_0)).trans hw308_0)⟩ (fun hHeld=>?_)
                 clear hK K
                 refine norm_ (a':=?_) ?_ ?_
                 rotate_left
                 ·show Act.put _ (some 81) _=_
                  simp only [Act.put,List.setIfInBounds_toArray,List.set_cons_zero,List.set_cons_succ,i64_w,i32_w]
                  rfl
                 refine pure_ (i:=9) (N:=some 72) (v:=?_) (a':=?_) #[T_,T_,T_,T_,T_,T_,T_,T_,T_,T_,F_,F_,F_,F_,T_,F_,F_,F_,F_] rfl rfl (any_of HT_.out (by kernel_rfl)) (fun _ _ _ h=>h) (Or.inl ⟨by rfl,?_⟩) ?_ ?_
                 rotate_left
                 ·intro w'
                  go_simp
                  with_reducible rfl
                 rotate_left
                 ·simp only [Act.put,List.setIfInBounds_toArray,List.set_cons_zero,List.set_cons_succ,i64_w,i32_w]
                  rfl
                 refine pure_ (i:=10) (N:=some 82) (v:=?_) (a':=?_) #[T_,T_,T_,T_,T_,T_,T_,T_,T_,T_,T_,F_,F_,F_,T_,F_,F_,F_,F_] rfl rfl (any_of HT_.out (by kernel_rfl)) (fun _ _ _ h=>h) (Or.inl ⟨by rfl,?_⟩) ?_ ?_
                 rotate_left
                 ·intro w'
                  go_simp
                  with_reducible rfl
                 rotate_left
                 ·simp only [Act.put,List.setIfInBounds_toArray,List.set_cons_zero,List.set_cons_succ,i64_w,i32_w]
                  rfl
                 refine pure_ (i:=11) (N:=some 83) (v:=?_) (a':=?_) #[T_,T_,T_,T_,T_,T_,T_,T_,T_,T_,T_,T_,F_,F_,T_,F_,F_,F_,F_] rfl rfl (any_of HT_.out (by kernel_rfl)) (fun _ _ _ h=>h) (Or.inl ⟨by rfl,?_⟩) ?_ ?_
                 rotate_left
                 ·intro w'
                  go_simp
                  with_reducible rfl
                 rotate_left
                 ·simp only [Act.put,List.setIfInBounds_toArray,List.set_cons_zero,List.set_cons_succ,i64_w,i32_w]
                  rfl
                 refine pure_ (i:=12) (N:=some 84) (v:=?_) (a':=?_) #[T_,T_,T_,T_,T_,T_,T_,T_,T_,T_,T_,T_,T_,F_,T_,F_,F_,F_,F_] rfl rfl (any_of HT_.out (by kernel_rfl)) (fun _ _ _ h=>h) (Or.inl ⟨by rfl,?_⟩) ?_ ?_
                 rotate_left
                 ·intro w'
                  go_simp
                  with_reducible rfl
                 rotate_left
                 ·simp only [Act.put,List.setIfInBounds_toArray,List.set_cons_zero,List.set_cons_succ,i64_w,i32_w]
                  rfl
                 refine pure_ (i:=13) (N:=some 85) (v:=?_) (a':=?_) #[T_,T_,T_,T_,T_,T_,T_,T_,T_,T_,T_,T_,T_,T_,T_,F_,F_,F_,F_] rfl rfl (any_of HT_.out (by kernel_rfl)) (fun _ _ _ h=>h) (Or.inl ⟨by rfl,?_⟩) ?_ ?_
                 rotate_left
                 ·intro w'
                  go_simp
                  with_reducible rfl
                 rotate_left
                 ·simp only [Act.put,List.setIfInBounds_toArray,List.set_cons_zero,List.set_cons_succ,i64_w,i32_w]
                  rfl
                 exact norm_ (by simp only [putAll,Act.put,List.setIfInBounds_toArray,List.set_cons_zero,List.set_cons_succ]) (hCont (gb325) _ ⟨hHeld,(by (with_reducible repeat (first | refine blk_drewN ?_ _ | refine blk_drew ?_ | refine blk_alloc ?_ _)); exact BK287.out),(by (with_reducible repeat (first | refine blk_drewN ?_ _ | refine blk_drew ?_ | refine blk_alloc ?_ _)); exact BK289.out),(by (with_reducible repeat (first | refine blk_drewN ?_ _ | refine blk_drew ?_ | refine blk_alloc ?_ _)); exact BK325.out),GW325.out,GE325.out,NB287_325.out,NB325_287.out,NB289_325.out,NB325_289.out,(by repeat (first | (with_reducible first | exact HB.out | apply below_alloc | apply pw_below_drewN | apply below_drew1 | refine below_set ?_ GE287.out | refine below_set ?_ GE289.out | refine below_set ?_ GE325.out) | exact HB.out))⟩)
               rintro gb325 w75 ⟨hS_,h0_,h1_,h2_,h3_,h4_,h5_,h6_,h7_,h8_,h9_⟩
               have n0_:Aside0 (w75.heap[gb287]?=some (.cells #[.int .i64 a0_0,.int .u64 a0_1,.int .i64 a0_2,.int .u64 a0_3,.bool a0_4,.int .u64 a0_5,.bool a0_6,.int .u64 a0_7,.bool a0_8,.int .u64 a0_9,.bool a0_10,.int .u64 a0_11,.bool a0_12] 28 (0,0))):=⟨h0_⟩
               have n1_:Aside0 (w75.heap[gb289]?=some (.cells #[.int .i64 x290000_2,.int .u64 x290001_2,.int .i64 x290002_2,.int .u64 x290003_2,.bool x290004_2,.int .u64 x290005_2,.bool x290006_2,.int .u64 x290007_2,.bool x290008_2,.int .u64 x290009_2,.bool x290010_2,.int .u64 x290011_2,.bool x290012_2] 28 (0,0))):=⟨h1_⟩
               have n2_:Aside0 (w75.heap[gb325]?=some (.cells #[.int .i64 0,.int .u64 0,.int .i64 0,.int .u64 0,.bool false,.int .u64 0,.bool false,.int .u64 0,.bool false,.int .u64 0,.bool false,.int .u64 0,.bool false] 28 (0,0))):=⟨h2_⟩
               have n3_:Aside0 (w.heap.size≤gb325):=⟨h3_⟩
               have n4_:Aside0 (w.heap.size≤gb325):=⟨h4_⟩
               have n5_:Aside0 (gb287≠gb325):=⟨h5_⟩
               have n6_:Aside0 (gb325≠gb287):=⟨h6_⟩
               have n7_:Aside0 (gb289≠gb325):=⟨h7_⟩
               have n8_:Aside0 (gb325≠gb289):=⟨h8_⟩
               have n9_:Aside0 (Below w.heap.size w w75):=⟨h9_⟩
               clear BK287
               clear BK289
               clear HB
               clear h0_ h1_ h2_ h3_ h4_ h5_ h6_ h7_ h8_ h9_
               have BK287:=n0_
               have BK289:=n1_
               have BK325:=n2_
               have GW325:=n3_
               have GE325:=n4_
               have NB287_325:=n5_
               have NB325_287:=n6_
               have NB289_325:=n7_
               have NB325_289:=n8_
               have HB:=n9_
               clear n0_ n1_ n2_ n3_ n4_ n5_ n6_ n7_ n8_ n9_
               have hHeld:w75.cell? ⟨gb289,0,none⟩=some (.int .i64 x290000_2)∧w75.cell? ⟨gb289,1,none⟩=some (.int .u64 x290001_2)∧w75.cell? ⟨gb289,2,none⟩=some (.int .i64 x290002_2)∧w75.cell? ⟨gb289,3,none⟩=some (.int .u64 x290003_2)∧w75.cell? ⟨gb289,4,none⟩=some (.bool x290004_2)∧w75.cell? ⟨gb289,5,none⟩=some (.int .u64 x290005_2)∧w75.cell? ⟨gb289,6,none⟩=some (.bool x290006_2)∧w75.cell? ⟨gb289,7,none⟩=some (.int .u64 x290007_2)∧w75.cell? ⟨gb289,8,none⟩=some (.bool x290008_2)∧w75.cell? ⟨gb289,9,none⟩=some (.int .u64 x290009_2)∧w75.cell? ⟨gb289,10,none⟩=some (.bool x290010_2)∧w75.cell? ⟨gb289,11,none⟩=some (.int .u64 x290011_2)∧w75.cell? ⟨gb289,12,none⟩=some (.bool x290012_2)∧w75.cell? (ad307.add (x12_2).toNat)=some (.int .u64 (rd l3 x12_2)):=hS_
               refine norm_ (a':=?_) ?_ ?_
               rotate_left
               ·simp only [putAll,Act.put,List.setIfInBounds_toArray,List.set_cons_zero,List.set_cons_succ]
                rfl
               refine pure_ (i:=15) (N:=some 13) (v:=?_) (a':=?_) #[T_,T_,T_,T_,T_,T_,T_,T_,T_,T_,T_,T_,T_,T_,T_,T_,F_,F_,F_] rfl rfl (any_of HT_.out (by kernel_rfl)) (fun _ _ _ h=>h) (Or.inl ⟨by rfl,?_⟩) ?_ ?_
               rotate_left
               ·intro w'
                go_simp
                with_reducible rfl
               rotate_left
               ·simp only [Act.put,List.setIfInBounds_toArray,List.set_cons_zero,List.set_cons_succ,i64_w,i32_w]
                rfl
               refine one_ (i:=16) (N:=none) #[T_,T_,T_,T_,T_,T_,T_,T_,T_,T_,T_,T_,T_,T_,T_,T_,T_,F_,F_] rfl rfl (one_of HT_.out (by kernel_rfl)) (by decide) (fun K hK=>?_)
               have hs76:w75.cell? ⟨gb325,0,none⟩=some (.int .i64 0):=(blk_cell BK325.out 0).trans rfl
               have hfs76:=blk_frozen BK325.out 0
               have hns76_0:=NB287_325.out
               have hns76_1:=NB289_325.out
               have hms76_0:=NB325_287.out
               have hms76_1:=NB325_289.out
               have hs77:w75.cell? ⟨gb325,1,none⟩=some (.int .u64 0):=(blk_cell BK325.out 1).trans rfl
               have hfs77:=blk_frozen BK325.out 1
               have hns77_0:=NB287_325.out
               have hns77_1:=NB289_325.out
               have hms77_0:=NB325_287.out
               have hms77_1:=NB325_289.out
               have hs78:w75.cell? ⟨gb325,2,none⟩=some (.int .i64 0):=(blk_cell BK325.out 2).trans rfl
               have hfs78:=blk_frozen BK325.out 2
               have hns78_0:=NB287_325.out
               have hns78_1:=NB289_325.out
               have hms78_0:=NB325_287.out
               have hms78_1:=NB325_289.out
               have hs79:w75.cell? ⟨gb325,3,none⟩=some (.int .u64 0):=(blk_cell BK325.out 3).trans rfl
               have hfs79:=blk_frozen BK325.out 3
               have hns79_0:=NB287_325.out
               have hns79_1:=NB289_325.out
               have hms79_0:=NB325_287.out
               have hms79_1:=NB325_289.out
               have hs80:w75.cell? ⟨gb325,4,none⟩=some (.bool false):=(blk_cell BK325.out 4).trans rfl
               have hfs80:=blk_frozen BK325.out 4
               have hns80_0:=NB287_325.out
               have hns80_1:=NB289_325.out
               have hms80_0:=NB325_287.out
               have hms80_1:=NB325_289.out
               have hs81:w75.cell? ⟨gb325,5,none⟩=some (.int .u64 0):=(blk_cell BK325.out 5).trans rfl
               have hfs81:=blk_frozen BK325.out 5
               have hns81_0:=NB287_325.out
               have hns81_1:=NB289_325.out
               have hms81_0:=NB325_287.out
               have hms81_1:=NB325_289.out
               have hs82:w75.cell? ⟨gb325,6,none⟩=some (.bool false):=(blk_cell BK325.out 6).trans rfl
               have hfs82:=blk_frozen BK325.out 6
               have hns82_0:=NB287_325.out
               have hns82_1:=NB289_325.out
               have hms82_0:=NB325_287.out
               have hms82_1:=NB325_289.out
               have hs83:w75.cell? ⟨gb325,7,none⟩=some (.int .u64 0):=(blk_cell BK325.out 7).trans rfl
               have hfs83:=blk_frozen BK325.out 7
               have hns83_0:=NB287_325.out
               have hns83_1:=NB289_325.out
               have hms83_0:=NB325_287.out
               have hms83_1:=NB325_289.out
               have hs84:w75.cell? ⟨gb325,8,none⟩=some (.bool false):=(blk_cell BK325.out 8).trans rfl
               have hfs84:=blk_frozen BK325.out 8
               have hns84_0:=NB287_325.out
               have hns84_1:=NB289_325.out
               have hms84_0:=NB325_287.out
               have hms84_1:=NB325_289.out
               have hs85:w75.cell? ⟨gb325,9,none⟩=some (.int .u64 0):=(blk_cell BK325.out 9).trans rfl
               have hfs85:=blk_frozen BK325.out 9
               have hns85_0:=NB287_325.out
               have hns85_1:=NB289_325.out
               have hms85_0:=NB325_287.out
               have hms85_1:=NB325_289.out
               have hs86:w75.cell? ⟨gb325,10,none⟩=some (.bool false):=(blk_cell BK325.out 10).trans rfl
               have hfs86:=blk_frozen BK325.out 10
               have hns86_0:=NB287_325.out
               have hns86_1:=NB289_325.out
               have hms86_0:=NB325_287.out
               have hms86_1:=NB325_289.out
               have hs87:w75.cell? ⟨gb325,11,none⟩=some (.int .u64 0):=(blk_cell BK325.out 11).trans rfl
               have hfs87:=blk_frozen BK325.out 11
               have hns87_0:=NB287_325.out
               have hns87_1:=NB289_325.out
               have hms87_0:=NB325_287.out
               have hms87_1:=NB325_289.out
               have hs88:w75.cell? ⟨gb325,12,none⟩=some (.bool false):=(blk_cell BK325.out 12).trans rfl
               have hfs88:=blk_frozen BK325.out 12
               have hns88_0:=NB287_325.out
               have hns88_1:=NB289_325.out
               have hms88_0:=NB325_287.out
               have hms88_1:=NB325_289.out
               refine skip_ (w1:=?_) (by rfl) rfl ?_ ?_
               rotate_left
               ·go_simp
                rfl
               refine hK.out _ _ ⟨((cell_far (p:=⟨gb325,_,none⟩) NB289_325.out _).trans (((cell_far (p:=⟨gb325,_,none⟩) NB289_325.out _).trans (((cell_far (p:=⟨gb325,_,none⟩) NB289_325.out _).trans (((cell_far (p:=⟨gb325,_,none⟩) NB289_325.out _).trans (((cell_far (p:=⟨gb325,_,none⟩) NB289_325.out _).trans (((cell_far (p:=⟨gb325,_,none⟩) NB289_325.out _).trans (((cell_far (p:=⟨gb325,_,none⟩) NB289_325.out _).trans (((cell_far (p:=⟨gb325,_,none⟩) NB289_325.out _).trans (((cell_far (p:=⟨gb325,_,none⟩) NB289_325.out _).trans (((cell_far (p:=⟨gb325,_,none⟩) NB289_325.out _).trans (((cell_far (p:=⟨gb325,_,none⟩) NB289_325.out _).trans (((cell_far (p:=⟨gb325,_,none⟩) NB289_325.out _).trans (((cell_far (p:=⟨gb325,_,none⟩) NB289_325.out _).trans (hHeld.1)))))))))))))))))))))))))),((cell_far (p:=⟨gb325,_,none⟩) NB289_325.out _).trans (((cell_far (p:=⟨gb325,_,none⟩) NB289_325.out _).trans (((cell_far (p:=⟨gb325,_,none⟩) NB289_325.out _).trans (((cell_far (p:=⟨gb325,_,none⟩) NB289_325.out _).trans (((cell_far (p:=⟨gb325,_,none⟩) NB289_325.out _).trans (((cell_far (p:=⟨gb325,_,none⟩) NB289_325.out _).trans (((cell_far (p:=⟨gb325,_,none⟩) NB289_325.out _).trans (((cell_far (p:=⟨gb325,_,none⟩) NB289_325.out _).trans (((cell_far (p:=⟨gb325,_,none⟩) NB289_325.out _).trans (((cell_far (p:=⟨gb325,_,none⟩) NB289_325.out _).trans (((cell_far (p:=⟨gb325,_,none⟩) NB289_325.out _).trans (((cell_far (p:=⟨gb325,_,none⟩) NB289_325.out _).trans (((cell_far (p:=⟨gb325,_,none⟩) NB289_325.out _).trans (hHeld.2.1)))))))))))))))))))))))))),((cell_far (p:=⟨gb325,_,none⟩) NB289_325.out _).trans (((cell_far (p:=⟨gb325,_,none⟩) NB289_325.out _).trans (((cell_far (p:=⟨gb325,_,none⟩) NB289_325.out _).trans (((cell_far (p:=⟨gb325,_,none⟩) NB289_325.out _).trans (((cell_far (p:=⟨gb325,_,none⟩) NB289_325.out _).trans (((cell_far (p:=⟨gb325,_,none⟩) NB289_325.out _).trans (((cell_far (p:=⟨gb325,_,none⟩) NB289_325.out _).trans (((cell_far (p:=⟨gb325,_,none⟩) NB289_325.out _).trans (((cell_far (p:=⟨gb325,_,none⟩) NB289_325.out _).trans (((cell_far (p:=⟨gb325,_,none⟩) NB289_325.out _).trans (((cell_far (p:=⟨gb325,_,none⟩) NB289_325.out _).trans (((cell_far (p:=⟨gb325,_,none⟩) NB289_325.out _).trans (((cell_far (p:=⟨gb325,_,none⟩) NB289_325.out _).trans (hHeld.2.2.1)))))))))))))))))))))))))),((cell_far (p:=⟨gb325,_,none⟩) NB289_325.out _).trans (((cell_far (p:=⟨gb325,_,none⟩) NB289_325.out _).trans (((cell_far (p:=⟨gb325,_,none⟩) NB289_325.out _).trans (((cell_far (p:=⟨gb325,_,none⟩) NB289_325.out _).trans (((cell_far (p:=⟨gb325,_,none⟩) NB289_325.out _).trans (((cell_far (p:=⟨gb325,_,none⟩) NB289_325.out _).trans (((cell_far (p:=⟨gb325,_,none⟩) NB289_325.out _).trans (((cell_far (p:=⟨gb325,_,none⟩) NB289_325.out _).trans (((cell_far (p:=⟨gb325,_,none⟩) NB289_325.out _).trans (((cell_far (p:=⟨gb325,_,none⟩) NB289_325.out _).trans (((cell_far (p:=⟨gb325,_,none⟩) NB289_325.out _).trans (((cell_far (p:=⟨gb325,_,none⟩) NB289_325.out _).trans (((cell_far (p:=⟨gb325,_,none⟩) NB289_325.out _).trans (hHeld.2.2.2.1)))))))))))))))))))))))))),((cell_far (p:=⟨gb325,_,none⟩) NB289_325.out _).trans (((cell_far (p:=⟨gb325,_,none⟩) NB289_325.out _).trans (((cell_far (p:=⟨gb325,_,none⟩) NB289_325.out _).trans (((cell_far (p:=⟨gb325,_,none⟩) NB289_325.out _).trans (((cell_far (p:=⟨gb325,_,none⟩) NB289_325.out _).trans (((cell_far (p:=⟨gb325,_,none⟩) NB289_325.out _).trans (((cell_far (p:=⟨gb325,_,none⟩) NB289_325.out _).trans (((cell_far (p:=⟨gb325,_,none⟩) NB289_325.out _).trans (((cell_far (p:=⟨gb325,_,none⟩) NB289_325.out _).trans (((cell_far (p:=⟨gb325,_,none⟩) NB289_325.out _).trans (((cell_far (p:=⟨gb325,_,none⟩) NB289_325.out _).trans (((cell_far (p:=⟨gb325,_,none⟩) NB289_325.out _).trans (((cell_far (p:=⟨gb325,_,none⟩) NB289_325.out _).trans (hHeld.2.2.2.2.1)))))))))))))))))))))))))),((cell_far (p:=⟨gb325,_,none⟩) NB289_325.out _).trans (((cell_far (p:=⟨gb325,_,none⟩) NB289_325.out _).trans (((cell_far (p:=⟨gb325,_,none⟩) NB289_325.out _).trans (((cell_far (p:=⟨gb325,_,none⟩) NB289_325.out _).trans (((cell_far (p:=⟨gb325,_,none⟩) NB289_325.out _).trans (((cell_far (p:=⟨gb325,_,none⟩) NB289_325.out _).trans (((cell_far (p:=⟨gb325,_,none⟩) NB289_325.out _).trans (((cell_far (p:=⟨gb325,_,none⟩) NB289_325.out _).trans (((cell_far (p:=⟨gb325,_,none⟩) NB289_325.out _).trans (((cell_far (p:=⟨gb325,_,none⟩) NB289_325.out _).trans (((cell_far (p:=⟨gb325,_,none⟩) NB289_325.out _).trans (((cell_far (p:=⟨gb325,_,none⟩) NB289_325.out _).trans (((cell_far (p:=⟨gb325,_,none⟩) NB289_325.out _).trans (hHeld.2.2.2.2.2.1)))))))))))))))))))))))))),((cell_far (p:=⟨gb325,_,none⟩) NB289_325.out _).trans (((cell_far (p:=⟨gb325,_,none⟩) NB289_325.out _).trans (((cell_far (p:=⟨gb325,_,none⟩) NB289_325.out _).trans (((cell_far (p:=⟨gb325,_,none⟩) NB289_325.out _).trans (((cell_far (p:=⟨gb325,_,none⟩) NB289_325.out _).trans (((cell_far (p:=⟨gb325,_,none⟩) NB289_325.out _).trans (((cell_far (p:=⟨gb325,_,none⟩) NB289_325.out _).trans (((cell_far (p:=⟨gb325,_,none⟩) NB289_325.out _).trans (((cell_far (p:=⟨gb325,_,none⟩) NB289_325.out _).trans (((cell_far (p:=⟨gb325,_,none⟩) NB289_325.out _).trans (((cell_far (p:=⟨gb325,_,none⟩) NB289_325.out _).trans (((cell_far (p:=⟨gb325,_,none⟩) NB289_325.out _).trans (((cell_far (p:=⟨gb325,_,none⟩) NB289_325.out _).trans (hHeld.2.2.2.2.2.2.1)))))))))))))))))))))))))),((cell_far (p:=⟨gb325,_,none⟩) NB289_325.out _).trans (((cell_far (p:=⟨gb325,_,none⟩) NB289_325.out _).trans (((cell_far (p:=⟨gb325,_,none⟩) NB289_325.out _).trans (((cell_far (p:=⟨gb325,_,none⟩) NB289_325.out _).trans (((cell_far (p:=⟨gb325,_,none⟩) NB289_325.out _).trans (((cell_far (p:=⟨gb325,_,none⟩) NB289_325.out _).trans (((cell_far (p:=⟨gb325,_,none⟩) NB289_325.out _).trans (((cell_far (p:=⟨gb325,_,none⟩) NB289_325.out _).trans (((cell_far (p:=⟨gb325,_,none⟩) NB289_325.out _).trans (((cell_far (p:=⟨gb325,_,none⟩) NB289_325.out _).trans (((cell_far (p:=⟨gb325,_,none⟩) NB289_325.out _).trans (((cell_far (p:=⟨gb325,_,none⟩) NB289_325.out _).trans (((cell_far (p:=⟨gb325,_,none⟩) NB289_325.out _).trans (hHeld.2.2.2.2.2.2.2.1)))))))))))))))))))))))))),((cell_far (p:=⟨gb325,_,none⟩) NB289_325.out _).trans (((cell_far (p:=⟨gb325,_,none⟩) NB289_325.out _).trans (((cell_far (p:=⟨gb325,_,none⟩) NB289_325.out _).trans (((cell_far (p:=⟨gb325,_,none⟩) NB289_325.out _).trans (((cell_far (p:=⟨gb325,_,none⟩) NB289_325.out _).trans (((cell_far (p:=⟨gb325,_,none⟩) NB289_325.out _).trans (((cell_far (p:=⟨gb325,_,none⟩) NB289_325.out _).trans (((cell_far (p:=⟨gb325,_,none⟩) NB289_325.out _).trans (((cell_far (p:=⟨gb325,_,none⟩) NB289_325.out _).trans (((cell_far (p:=⟨gb325,_,none⟩) NB289_325.out _).trans (((cell_far (p:=⟨gb325,_,none⟩) NB289_325.out _).trans (((cell_far (p:=⟨gb325,_,none⟩) NB289_325.out _).trans (((cell_far (p:=⟨gb325,_,none⟩) NB289_325.out _).trans (hHeld.2.2.2.2.2.2.2.2.1)))))))))))))))))))))))))),((cell_far (p:=⟨gb325,_,none⟩) NB289_325.out _).trans (((cell_far (p:=⟨gb325,_,none⟩) NB289_325.out _).trans (((cell_far (p:=⟨gb325,_,none⟩) NB289_325.out _).trans (((cell_far (p:=⟨gb325,_,none⟩) NB289_325.out _).trans (((cell_far (p:=⟨gb325,_,none⟩) NB289_325.out _).trans (((cell_far (p:=⟨gb325,_,none⟩) NB289_325.out _).trans (((cell_far (p:=⟨gb325,_,none⟩) NB289_325.out _).trans (((cell_far (p:=⟨gb325,_,none⟩) NB289_325.out _).trans (((cell_far (p:=⟨gb325,_,none⟩) NB289_325.out _).trans (((cell_far (p:=⟨gb325,_,none⟩) NB289_325.out _).trans (((cell_far (p:=⟨gb325,_,none⟩) NB289_325.out _).trans (((cell_far (p:=⟨gb325,_,none⟩) NB289_325.out _).trans (((cell_far (p:=⟨gb325,_,none⟩) NB289_325.out _).trans (hHeld.2.2.2.2.2.2.2.2.2.1)))))))))))))))))))))))))),((cell_far (p:=⟨gb325,_,none⟩) NB289_325.out _).trans (((cell_far (p:=⟨gb325,_,none⟩) NB289_325.out _).trans (((cell_far (p:=⟨gb325,_,none⟩) NB289_325.out _).trans (((cell_far (p:=⟨gb325,_,none⟩) NB289_325.out _).trans (((cell_far (p:=⟨gb325,_,none⟩) NB289_325.out _).trans (((cell_far (p:=⟨gb325,_,none⟩) NB289_325.out _).trans (((cell_far (p:=⟨gb325,_,none⟩) NB289_325.out _).trans (((cell_far (p:=⟨gb325,_,none⟩) NB289_325.out _).trans (((cell_far (p:=⟨gb325,_,none⟩) NB289_325.out _).trans (((cell_far (p:=⟨gb325,_,none⟩) NB289_325.out _).trans (((cell_far (p:=⟨gb325,_,none⟩) NB289_325.out _).trans (((cell_far (p:=⟨gb325,_,none⟩) NB289_325.out _).trans (((cell_far (p:=⟨gb325,_,none⟩) NB289_325.out _).trans (hHeld.2.2.2.2.2.2.2.2.2.2.1)))))))))))))))))))))))))),((cell_far (p:=⟨gb325,_,none⟩) NB289_325.out _).trans (((cell_far (p:=⟨gb325,_,none⟩) NB289_325.out _).trans (((cell_far (p:=⟨gb325,_,none⟩) NB289_325.out _).trans (((cell_far (p:=⟨gb325,_,none⟩) NB289_325.out _).trans (((cell_far (p:=⟨gb325,_,none⟩) NB289_325.out _).trans (((cell_far (p:=⟨gb325,_,none⟩) NB289_325.out _).trans (((cell_far (p:=⟨gb325,_,none⟩) NB289_325.out _).trans (((cell_far (p:=⟨gb325,_,none⟩) NB289_325.out _).trans (((cell_far (p:=⟨gb325,_,none⟩) NB289_325.out _).trans (((cell_far (p:=⟨gb325,_,none⟩) NB289_325.out _).trans (((cell_far (p:=⟨gb325,_,none⟩) NB289_325.out _).trans (((cell_far (p:=⟨gb325,_,none⟩) NB289_325.out _).trans (((cell_far (p:=⟨gb325,_,none⟩) NB289_325.out _).trans (hHeld.2.2.2.2.2.2.2.2.2.2.2.1)))))))))))))))))))))))))),((cell_far (p:=⟨gb325,_,none⟩) NB289_325.out _).trans (((cell_far (p:=⟨gb325,_,none⟩) NB289_325.out _).trans (((cell_far (p:=⟨gb325,_,none⟩) NB289_325.out _).trans (((cell_far (p:=⟨gb325,_,none⟩) NB289_325.out _).trans (((cell_far (p:=⟨gb325,_,none⟩) NB289_325.out _).trans (((cell_far (p:=⟨gb325,_,none⟩) NB289_325.out _).trans (((cell_far (p:=⟨gb325,_,none⟩) NB289_325.out _).trans (((cell_far (p:=⟨gb325,_,none⟩) NB289_325.out _).trans (((cell_far (p:=⟨gb325,_,none⟩) NB289_325.out _).trans (((cell_far (p:=⟨gb325,_,none⟩) NB289_325.out _).trans (((cell_far (p:=⟨gb325,_,none⟩) NB289_325.out _).trans (((cell_far (p:=⟨gb325,_,none⟩) NB289_325.out _).trans (((cell_far (p:=⟨gb325,_,none⟩) NB289_325.out _).trans (hHeld.2.2.2.2.2.2.2.2.2.2.2.2.1)))))))))))))))))))))))))),((cell_far (p:=⟨gb325,_,none⟩) (by first | exact Nat.ne_of_lt (Nat.lt_of_lt_of_le (by have:=World.block_lt_of_cell? _ _ hw308_0; first | rwa [add_block] at this | exact this) GW325.out) | (rw [add_block]; exact Nat.ne_of_lt (Nat.lt_of_lt_of_le (by have:=World.block_lt_of_cell? _ _ hw308_0; first | rwa [add_block] at this | exact this) GW325.out)) | (show (Addr.add _ _).block≠_; rw [add_block]; exact Nat.ne_of_lt (Nat.lt_of_lt_of_le (by have:=World.block_lt_of_cell? _ _ hw308_0; first | rwa [add_block] at this | exact this) GW325.out)) | (dsimp only; exact Nat.ne_of_lt (Nat.lt_of_lt_of_le (by have:=World.block_lt_of_cell? _ _ hw308_0; first | rwa [add_block] at this | exact this) GW325.out))) _).trans (((cell_far (p:=⟨gb325,_,none⟩) (by first | exact Nat.ne_of_lt (Nat.lt_of_lt_of_le (by have:=World.block_lt_of_cell? _ _ hw308_0; first | rwa [add_block] at this | exact this) GW325.out) | (rw [add_block]; exact Nat.ne_of_lt (Nat.lt_of_lt_of_le (by have:=World.block_lt_of_cell? _ _ hw308_0; first | rwa [add_block] at this | exact this) GW325.out)) | (show (Addr.add _ _).block≠_; rw [add_block]; exact Nat.ne_of_lt (Nat.lt_of_lt_of_le (by have:=World.block_lt_of_cell? _ _ hw308_0; first | rwa [add_block] at this | exact this) GW325.out)) | (dsimp only; exact Nat.ne_of_lt (Nat.lt_of_lt_of_le (by have:=World.block_lt_of_cell? _ _ hw308_0; first | rwa [add_block] at this | exact this) GW325.out))) _).trans (((cell_far (p:=⟨gb325,_,none⟩) (by first | exact Nat.ne_of_lt (Nat.lt_of_lt_of_le (by have:=World.block_lt_of_cell? _ _ hw308_0; first | rwa [add_block] at this | exact this) GW325.out) | (rw [add_block]; exact Nat.ne_of_lt (Nat.lt_of_lt_of_le (by have:=World.block_lt_of_cell? _ _ hw308_0; first | rwa [add_block] at this | exact this) GW325.out)) | (show (Addr.add _ _).block≠_; rw [add_block]; exact Nat.ne_of_lt (Nat.lt_of_lt_of_le (by have:=World.block_lt_of_cell? _ _ hw308_0; first | rwa [add_block] at this | exact this) GW325.out)) | (dsimp only; exact Nat.ne_of_lt (Nat.lt_of_lt_of_le (by have:=World.block_lt_of_cell? _ _ hw308_0; first | rwa [add_block] at this | exact this) GW325.out))) _).trans (((cell_far (p:=⟨gb325,_,none⟩) (by first | exact Nat.ne_of_lt (Nat.lt_of_lt_of_le (by have:=World.block_lt_of_cell? _ _ hw308_0; first | rwa [add_block] at this | exact this) GW325.out) | (rw [add_block]; exact Nat.ne_of_lt (Nat.lt_of_lt_of_le (by have:=World.block_lt_of_cell? _ _ hw308_0; first | rwa [add_block] at this | exact this) GW325.out)) | (show (Addr.add _ _).block≠_; rw [add_block]; exact Nat.ne_of_lt (Nat.lt_of_lt_of_le (by have:=World.block_lt_of_cell? _ _ hw308_0; first | rwa [add_block] at this | exact this) GW325.out)) | (dsimp only; exact Nat.ne_of_lt (Nat.lt_of_lt_of_le (by have:=World.block_lt_of_cell? _ _ hw308_0; first | rwa [add_block] at this | exact this) GW325.out))) _).trans (((cell_far (p:=⟨gb325,_,none⟩) (by first | exact Nat.ne_of_lt (Nat.lt_of_lt_of_le (by have:=World.block_lt_of_cell? _ _ hw308_0; first | rwa [add_block] at this | exact this) GW325.out) | (rw [add_block]; exact Nat.ne_of_lt (Nat.lt_of_lt_of_le (by have:=World.block_lt_of_cell? _ _ hw308_0; first | rwa [add_block] at this | exact this) GW325.out)) | (show (Addr.add _ _).block≠_; rw [add_block]; exact Nat.ne_of_lt (Nat.lt_of_lt_of_le (by have:=World.block_lt_of_cell? _ _ hw308_0; first | rwa [add_block] at this | exact this) GW325.out)) | (dsimp only; exact Nat.ne_of_lt (Nat.lt_of_lt_of_le (by have:=World.block_lt_of_cell? _ _ hw308_0; first | rwa [add_block] at this | exact this) GW325.out))) _).trans (((cell_far (p:=⟨gb325,_,none⟩) (by first | exact Nat.ne_of_lt (Nat.lt_of_lt_of_le (by have:=World.block_lt_of_cell? _ _ hw308_0; first | rwa [add_block] at this | exact this) GW325.out) | (rw [add_block]; exact Nat.ne_of_lt (Nat.lt_of_lt_of_le (by have:=World.block_lt_of_cell? _ _ hw308_0; first | rwa [add_block] at this | exact this) GW325.out)) | (show (Addr.add _ _).block≠_; rw [add_block]; exact Nat.ne_of_lt (Nat.lt_of_lt_of_le (by have:=World.block_lt_of_cell? _ _ hw308_0; first | rwa [add_block] at this | exact this) GW325.out)) | (dsimp only; exact Nat.ne_of_lt (Nat.lt_of_lt_of_le (by have:=World.block_lt_of_cell? _ _ hw308_0; first | rwa [add_block] at this | exact this) GW325.out))) _).trans (((cell_far (p:=⟨gb325,_,none⟩) (by first | exact Nat.ne_of_lt (Nat.lt_of_lt_of_le (by have:=World.block_lt_of_cell? _ _ hw308_0; first | rwa [add_block] at this | exact this) GW325.out) | (rw [add_block]; exact Nat.ne_of_lt (Nat.lt_of_lt_of_le (by have:=World.block_lt_of_cell? _ _ hw308_0; first | rwa [add_block] at this | exact this) GW325.out)) | (show (Addr.add _ _).block≠_; rw [add_block]; exact Nat.ne_of_lt (Nat.lt_of_lt_of_le (by have:=World.block_lt_of_cell? _ _ hw308_0; first | rwa [add_block] at this | exact this) GW325.out)) | (dsimp only; exact Nat.ne_of_lt (Nat.lt_of_lt_of_le (by have:=World.block_lt_of_cell? _ _ hw308_0; first | rwa [add_block] at this | exact this) GW325.out))) _).trans (((cell_far (p:=⟨gb325,_,none⟩) (by first | exact Nat.ne_of_lt (Nat.lt_of_lt_of_le (by have:=World.block_lt_of_cell? _ _ hw308_0; first | rwa [add_block] at this | exact this) GW325.out) | (rw [add_block]; exact Nat.ne_of_lt (Nat.lt_of_lt_of_le (by have:=World.block_lt_of_cell? _ _ hw308_0; first | rwa [add_block] at this | exact this) GW325.out)) | (show (Addr.add _ _).block≠_; rw [add_block]; exact Nat.ne_of_lt (Nat.lt_of_lt_of_le (by have:=World.block_lt_of_cell? _ _ hw308_0; first | rwa [add_block] at this | exact this) GW325.out)) | (dsimp only; exact Nat.ne_of_lt (Nat.lt_of_lt_of_le (by have:=World.block_lt_of_cell? _ _ hw308_0; first | rwa [add_block] at this | exact this) GW325.out))) _).trans (((cell_far (p:=⟨gb325,_,none⟩) (by first | exact Nat.ne_of_lt (Nat.lt_of_lt_of_le (by have:=World.block_lt_of_cell? _ _ hw308_0; first | rwa [add_block] at this | exact this) GW325.out) | (rw [add_block]; exact Nat.ne_of_lt (Nat.lt_of_lt_of_le (by have:=World.block_lt_of_cell? _ _ hw308_0; first | rwa [add_block] at this | exact this) GW325.out)) | (show (Addr.add _ _).block≠_; rw [add_block]; exact Nat.ne_of_lt (Nat.lt_of_lt_of_le (by have:=World.block_lt_of_cell? _ _ hw308_0; first | rwa [add_block] at this | exact this) GW325.out)) | (dsimp only; exact Nat.ne_of_lt (Nat.lt_of_lt_of_le (by have:=World.block_lt_of_cell? _ _ hw308_0; first | rwa [add_block] at this | exact this) GW325.out))) _).trans (((cell_far (p:=⟨gb325,_,none⟩) (by first | exact Nat.ne_of_lt (Nat.lt_of_lt_of_le (by have:=World.block_lt_of_cell? _ _ hw308_0; first | rwa [add_block] at this | exact this) GW325.out) | (rw [add_block]; exact Nat.ne_of_lt (Nat.lt_of_lt_of_le (by have:=World.block_lt_of_cell? _ _ hw308_0; first | rwa [add_block] at this | exact this) GW325.out)) | (show (Addr.add _ _).block≠_; rw [add_block]; exact Nat.ne_of_lt (Nat.lt_of_lt_of_le (by have:=World.block_lt_of_cell? _ _ hw308_0; first | rwa [add_block] at this | exact this) GW325.out)) | (dsimp only; exact Nat.ne_of_lt (Nat.lt_of_lt_of_le (by have:=World.block_lt_of_cell? _ _ hw308_0; first | rwa [add_block] at this | exact this) GW325.out))) _).trans (((cell_far (p:=⟨gb325,_,none⟩) (by first | exact Nat.ne_of_lt (Nat.lt_of_lt_of_le (by have:=World.block_lt_of_cell? _ _ hw308_0; first | rwa [add_block] at this | exact this) GW325.out) | (rw [add_block]; exact Nat.ne_of_lt (Nat.lt_of_lt_of_le (by have:=World.block_lt_of_cell? _ _ hw308_0; first | rwa [add_block] at this | exact this) GW325.out)) | (show (Addr.add _ _).block≠_; rw [add_block]; exact Nat.ne_of_lt (Nat.lt_of_lt_of_le (by have:=World.block_lt_of_cell? _ _ hw308_0; first | rwa [add_block] at this | exact this) GW325.out)) | (dsimp only; exact Nat.ne_of_lt (Nat.lt_of_lt_of_le (by have:=World.block_lt_of_cell? _ _ hw308_0; first | rwa [add_block] at this | exact this) GW325.out))) _).trans (((cell_far (p:=⟨gb325,_,none⟩) (by first | exact Nat.ne_of_lt (Nat.lt_of_lt_of_le (by have:=World.block_lt_of_cell? _ _ hw308_0; first | rwa [add_block] at this | exact this) GW325.out) | (rw [add_block]; exact Nat.ne_of_lt (Nat.lt_of_lt_of_le (by have:=World.block_lt_of_cell? _ _ hw308_0; first | rwa [add_block] at this | exact this) GW325.out)) | (show (Addr.add _ _).block≠_; rw [add_block]; exact Nat.ne_of_lt (Nat.lt_of_lt_of_le (by have:=World.block_lt_of_cell? _ _ hw308_0; first | rwa [add_block] at this | exact this) GW325.out)) | (dsimp only; exact Nat.ne_of_lt (Nat.lt_of_lt_of_le (by have:=World.block_lt_of_cell? _ _ hw308_0; first | rwa [add_block] at this | exact this) GW325.out))) _).trans (((cell_far (p:=⟨gb325,_,none⟩) (by first | exact Nat.ne_of_lt (Nat.lt_of_lt_of_le (by have:=World.block_lt_of_cell? _ _ hw308_0; first | rwa [add_block] at this | exact this) GW325.out) | (rw [add_block]; exact Nat.ne_of_lt (Nat.lt_of_lt_of_le (by have:=World.block_lt_of_cell? _ _ hw308_0; first | rwa [add_block] at this | exact this) GW325.out)) | (show (Addr.add _ _).block≠_; rw [add_block]; exact Nat.ne_of_lt (Nat.lt_of_lt_of_le (by have:=World.block_lt_of_cell? _ _ hw308_0; first | rwa [add_block] at this | exact this) GW325.out)) | (dsimp only; exact Nat.ne_of_lt (Nat.lt_of_lt_of_le (by have:=World.block_lt_of_cell? _ _ hw308_0; first | rwa [add_block] at this | exact this) GW325.out))) _).trans (hHeld.2.2.2.2.2.2.2.2.2.2.2.2.2))))))))))))))))))))))))))⟩ (fun hHeld=>?_)
               clear hK K
               refine pure_ (i:=17) (N:=some 15) (v:=?_) (a':=?_) #[T_,T_,T_,T_,T_,T_,T_,T_,T_,T_,T_,T_,T_,T_,T_,T_,T_,T_,F_] rfl rfl (any_of HT_.out (by kernel_rfl)) (fun _ _ _ h=>h) (Or.inl ⟨by rfl,?_⟩) ?_ ?_
               rotate_left
               ·intro w'
                go_simp
                with_reducible rfl
               rotate_left
               ·simp only [Act.put,List.setIfInBounds_toArray,List.set_cons_zero,List.set_cons_succ,i64_w,i32_w]
                rfl
               refine pure_ (i:=18) (N:=some 16) (v:=?_) (a':=?_) #[T_,T_,T_,T_,T_,T_,T_,T_,T_,T_,T_,T_,T_,T_,T_,T_,T_,T_,T_] rfl rfl (any_of HT_.out (by kernel_rfl)) (fun _ _ _ h=>h) (Or.inl ⟨by rfl,?_⟩) ?_ ?_
               rotate_left
               ·intro w'
                go_simp
                with_reducible rfl
               rotate_left
               ·simp only [Act.put,List.setIfInBounds_toArray,List.set_cons_zero,List.set_cons_succ,i64_w,i32_w]
                rfl
               refine done_ (done_of HT_.out (by kernel_rfl)) ?_
               try go_wp2
               have n0_:Aside0 ((((((((((((((w75.setCell ⟨gb325,0,none⟩ (.int .i64 t310)).setCell ⟨gb325,1,none⟩ (.int .u64 t311)).setCell ⟨gb325,2,none⟩ (.int .i64 t312)).setCell ⟨gb325,3,none⟩ (.int .u64 t313)).setCell ⟨gb325,4,none⟩ (.bool t314)).setCell ⟨gb325,5,none⟩ (.int .u64 t315)).setCell ⟨gb325,6,none⟩ (.bool t316)).setCell ⟨gb325,7,none⟩ (.int .u64 t317)).setCell ⟨gb325,8,none⟩ (.bool t318)).setCell ⟨gb325,9,none⟩ (.int .u64 t319)).setCell ⟨gb325,10,none⟩ (.bool t320)).setCell ⟨gb325,11,none⟩ (.int .u64 t321)).setCell ⟨gb325,12,none⟩ (.bool t322)).heap[gb287]?=some (.cells #[.int .i64 a0_0,.int .u64 a0_1,.int .i64 a0_2,.int .u64 a0_3,.bool a0_4,.int .u64 a0_5,.bool a0_6,.int .u64 a0_7,.bool a0_8,.int .u64 a0_9,.bool a0_10,.int .u64 a0_11,.bool a0_12] 28 (0,0))):=⟨by (with_reducible repeat (first | refine blk_drewN ?_ _ | refine blk_drew ?_ | refine blk_alloc ?_ _)); refine blk_far ?_ NB287_325.out _; (with_reducible repeat (first | refine blk_drewN ?_ _ | refine blk_drew ?_ | refine blk_alloc ?_ _)); refine blk_far ?_ NB287_325.out _; (with_reducible repeat (first | refine blk_drewN ?_ _ | refine blk_drew ?_ | refine blk_alloc ?_ _)); refine blk_far ?_ NB287_325.out _; (with_reducible repeat (first | refine blk_drewN ?_ _ | refine blk_drew ?_ | refine blk_alloc ?_ _)); refine blk_far ?_ NB287_325.out _; (with_reducible repeat (first | refine blk_drewN ?_ _ | refine blk_drew ?_ | refine blk_alloc ?_ _)); refine blk_far ?_ NB287_325.out _; (with_reducible repeat (first | refine blk_drewN ?_ _ | refine blk_drew ?_ | refine blk_alloc ?_ _)); refine blk_far ?_ NB287_325.out _; (with_reducible repeat (first | refine blk_drewN ?_ _ | refine blk_drew ?_ | refine blk_alloc ?_ _)); refine blk_far ?_ NB287_325.out _; (with_reducible repeat (first | refine blk_drewN ?_ _ | refine blk_drew ?_ | refine blk_alloc ?_ _)); refine blk_far ?_ NB287_325.out _; (with_reducible repeat (first | refine blk_drewN ?_ _ | refine blk_drew ?_ | refine blk_alloc ?_ _)); refine blk_far ?_ NB287_325.out _; (with_reducible repeat (first | refine blk_drewN ?_ _ | refine blk_drew ?_ | refine blk_alloc ?_ _)); refine blk_far ?_ NB287_325.out _; (with_reducible repeat (first | refine blk_drewN ?_ _ | refine blk_drew ?_ | refine blk_alloc ?_ _)); refine blk_far ?_ NB287_325.out _; (with_reducible repeat (first | refine blk_drewN ?_ _ | refine blk_drew ?_ | refine blk_alloc ?_ _)); refine blk_far ?_ NB287_325.out _; (with_reducible repeat (first | refine blk_drewN ?_ _ | refine blk_drew ?_ | refine blk_alloc ?_ _)); refine blk_far ?_ NB287_325.out _; (with_reducible repeat (first | refine blk_drewN ?_ _ | refine blk_drew ?_ | refine blk_alloc ?_ _)); exact BK287.out⟩
               have n1_:Aside0 ((((((((((((((w75.setCell ⟨gb325,0,none⟩ (.int .i64 t310)).setCell ⟨gb325,1,none⟩ (.int .u64 t311)).setCell ⟨gb325,2,none⟩ (.int .i64 t312)).setCell ⟨gb325,3,none⟩ (.int .u64 t313)).setCell ⟨gb325,4,none⟩ (.bool t314)).setCell ⟨gb325,5,none⟩ (.int .u64 t315)).setCell ⟨gb325,6,none⟩ (.bool t316)).setCell ⟨gb325,7,none⟩ (.int .u64 t317)).setCell ⟨gb325,8,none⟩ (.bool t318)).setCell ⟨gb325,9,none⟩ (.int .u64 t319)).setCell ⟨gb325,10,none⟩ (.bool t320)).setCell ⟨gb325,11,none⟩ (.int .u64 t321)).setCell ⟨gb325,12,none⟩ (.bool t322)).heap[gb289]?=some (.cells #[.int .i64 x290000_2,.int .u64 x290001_2,.int .i64 x290002_2,.int .u64 x290003_2,.bool x290004_2,.int .u64 x290005_2,.bool x290006_2,.int .u64 x290007_2,.bool x290008_2,.int .u64 x290009_2,.bool x290010_2,.int .u64 x290011_2,.bool x290012_2] 28 (0,0))):=⟨by (with_reducible repeat (first | refine blk_drewN ?_ _ | refine blk_drew ?_ | refine blk_alloc ?_ _)); refine blk_far ?_ NB289_325.out _; (with_reducible repeat (first | refine blk_drewN ?_ _ | refine blk_drew ?_ | refine blk_alloc ?_ _)); refine blk_far ?_ NB289_325.out _; (with_reducible repeat (first | refine blk_drewN ?_ _ | refine blk_drew ?_ | refine blk_alloc ?_ _)); refine blk_far ?_ NB289_325.out _; (with_reducible repeat (first | refine blk_drewN ?_ _ | refine blk_drew ?_ | refine blk_alloc ?_ _)); refine blk_far ?_ NB289_325.out _; (with_reducible repeat (first | refine blk_drewN ?_ _ | refine blk_drew ?_ | refine blk_alloc ?_ _)); refine blk_far ?_ NB289_325.out _; (with_reducible repeat (first | refine blk_drewN ?_ _ | refine blk_drew ?_ | refine blk_alloc ?_ _)); refine blk_far ?_ NB289_325.out _; (with_reducible repeat (first | refine blk_drewN ?_ _ | refine blk_drew ?_ | refine blk_alloc ?_ _)); refine blk_far ?_ NB289_325.out _; (with_reducible repeat (first | refine blk_drewN ?_ _ | refine blk_drew ?_ | refine blk_alloc ?_ _)); refine blk_far ?_ NB289_325.out _; (with_reducible repeat (first | refine blk_drewN ?_ _ | refine blk_drew ?_ | refine blk_alloc ?_ _)); refine blk_far ?_ NB289_325.out _; (with_reducible repeat (first | refine blk_drewN ?_ _ | refine blk_drew ?_ | refine blk_alloc ?_ _)); refine blk_far ?_ NB289_325.out _; (with_reducible repeat (first | refine blk_drewN ?_ _ | refine blk_drew ?_ | refine blk_alloc ?_ _)); refine blk_far ?_ NB289_325.out _; (with_reducible repeat (first | refine blk_drewN ?_ _ | refine blk_drew ?_ | refine blk_alloc ?_ _)); refine blk_far ?_ NB289_325.out _; (with_reducible repeat (first | refine blk_drewN ?_ _ | refine blk_drew ?_ | refine blk_alloc ?_ _)); refine blk_far ?_ NB289_325.out _; (with_reducible repeat (first | refine blk_drewN ?_ _ | refine blk_drew ?_ | refine blk_alloc ?_ _)); exact BK289.out⟩
               have n2_:Aside0 ((((((((((((((w75.setCell ⟨gb325,0,none⟩ (.int .i64 t310)).setCell ⟨gb325,1,none⟩ (.int .u64 t311)).setCell ⟨gb325,2,none⟩ (.int .i64 t312)).setCell ⟨gb325,3,none⟩ (.int .u64 t313)).setCell ⟨gb325,4,none⟩ (.bool t314)).setCell ⟨gb325,5,none⟩ (.int .u64 t315)).setCell ⟨gb325,6,none⟩ (.bool t316)).setCell ⟨gb325,7,none⟩ (.int .u64 t317)).setCell ⟨gb325,8,none⟩ (.bool t318)).setCell ⟨gb325,9,none⟩ (.int .u64 t319)).setCell ⟨gb325,10,none⟩ (.bool t320)).setCell ⟨gb325,11,none⟩ (.int .u64 t321)).setCell ⟨gb325,12,none⟩ (.bool t322)).heap[gb325]?=some (.cells #[.int .i64 t310,.int .u64 t311,.int .i64 t312,.int .u64 t313,.bool t314,.int .u64 t315,.bool t316,.int .u64 t317,.bool t318,.int .u64 t319,.bool t320,.int .u64 t321,.bool t322] 28 (0,0))):=⟨by (with_reducible repeat (first | refine blk_drewN ?_ _ | refine blk_drew ?_ | refine blk_alloc ?_ _)); refine blk_put (cs:=#[.int .i64 t310,.int .u64 t311,.int .i64 t312,.int .u64 t313,.bool t314,.int .u64 t315,.bool t316,.int .u64 t317,.bool t318,.int .u64 t319,.bool t320,.int .u64 t321,.bool false]) ?_ 12 _ rfl; (with_reducible repeat (first | refine blk_drewN ?_ _ | refine blk_drew ?_ | refine blk_alloc ?_ _)); refine blk_put (cs:=#[.int .i64 t310,.int .u64 t311,.int .i64 t312,.int .u64 t313,.bool t314,.int .u64 t315,.bool t316,.int .u64 t317,.bool t318,.int .u64 t319,.bool t320,.int .u64 0,.bool false]) ?_ 11 _ rfl; (with_reducible repeat (first | refine blk_drewN ?_ _ | refine blk_drew ?_ | refine blk_alloc ?_ _)); refine blk_put (cs:=#[.int .i64 t310,.int .u64 t311,.int .i64 t312,.int .u64 t313,.bool t314,.int .u64 t315,.bool t316,.int .u64 t317,.bool t318,.int .u64 t319,.bool false,.int .u64 0,.bool false]) ?_ 10 _ rfl; (with_reducible repeat (first | refine blk_drewN ?_ _ | refine blk_drew ?_ | refine blk_alloc ?_ _)); refine blk_put (cs:=#[.int .i64 t310,.int .u64 t311,.int .i64 t312,.int .u64 t313,.bool t314,.int .u64 t315,.bool t316,.int .u64 t317,.bool t318,.int .u64 0,.bool false,.int .u64 0,.bool false]) ?_ 9 _ rfl; (with_reducible repeat (first | refine blk_drewN ?_ _ | refine blk_drew ?_ | refine blk_alloc ?_ _)); refine blk_put (cs:=#[.int .i64 t310,.int .u64 t311,.int .i64 t312,.int .u64 t313,.bool t314,.int .u64 t315,.bool t316,.int .u64 t317,.bool false,.int .u64 0,.bool false,.int .u64 0,.bool false]) ?_ 8 _ rfl; (with_reducible repeat (first | refine blk_drewN ?_ _ | refine blk_drew ?_ | refine blk_alloc ?_ _)); refine blk_put (cs:=#[.int .i64 t310,.int .u64 t311,.int .i64 t312,.int .u64 t313,.bool t314,.int .u64 t315,.bool t316,.int .u64 0,.bool false,.int .u64 0,.bool false,.int .u64 0,.bool false]) ?_ 7 _ rfl; (with_reducible repeat (first | refine blk_drewN ?_ _ | refine blk_drew ?_ | refine blk_alloc ?_ _)); refine blk_put (cs:=#[.int .i64 t310,.int .u64 t311,.int .i64 t312,.int .u64 t313,.bool t314,.int .u64 t315,.bool false,.int .u64 0,.bool false,.int .u64 0,.bool false,.int .u64 0,.bool false]) ?_ 6 _ rfl; (with_reducible repeat (first | refine blk_drewN ?_ _ | refine blk_drew ?_ | refine blk_alloc ?_ _)); refine blk_put (cs:=#[.int .i64 t310,.int .u64 t311,.int .i64 t312,.int .u64 t313,.bool t314,.int .u64 0,.bool false,.int .u64 0,.bool false,.int .u64 0,.bool false,.int .u64 0,.bool false]) ?_ 5 _ rfl; (with_reducible repeat (first | refine blk_drewN ?_ _ | refine blk_drew ?_ | refine blk_alloc ?_ _)); refine blk_put (cs:=#[.int .i64 t310,.int .u64 t311,.int .i64 t312,.int .u64 t313,.bool false,.int .u64 0,.bool false,.int .u64 0,.bool false,.int .u64 0,.bool false,.int .u64 0,.bool false]) ?_ 4 _ rfl; (with_reducible repeat (first | refine blk_drewN ?_ _ | refine blk_drew ?_ | refine blk_alloc ?_ _)); refine blk_put (cs:=#[.int .i64 t310,.int .u64 t311,.int .i64 t312,.int .u64 0,.bool false,.int .u64 0,.bool false,.int .u64 0,.bool false,.int .u64 0,.bool false,.int .u64 0,.bool false]) ?_ 3 _ rfl; (with_reducible repeat (first | refine blk_drewN ?_ _ | refine blk_drew ?_ | refine blk_alloc ?_ _)); refine blk_put (cs:=#[.int .i64 t310,.int .u64 t311,.int .i64 0,.int .u64 0,.bool false,.int .u64 0,.bool false,.int .u64 0,.bool false,.int .u64 0,.bool false,.int .u64 0,.bool false]) ?_ 2 _ rfl; (with_reducible repeat (first | refine blk_drewN ?_ _ | refine blk_drew ?_ | refine blk_alloc ?_ _)); refine blk_put (cs:=#[.int .i64 t310,.int .u64 0,.int .i64 0,.int .u64 0,.bool false,.int .u64 0,.bool false,.int .u64 0,.bool false,.int .u64 0,.bool false,.int .u64 0,.bool false]) ?_ 1 _ rfl; (with_reducible repeat (first | refine blk_drewN ?_ _ | refine blk_drew ?_ | refine blk_alloc ?_ _)); refine blk_put (cs:=#[.int .i64 0,.int .u64 0,.int .i64 0,.int .u64 0,.bool false,.int .u64 0,.bool false,.int .u64 0,.bool false,.int .u64 0,.bool false,.int .u64 0,.bool false]) ?_ 0 _ rfl; (with_reducible repeat (first | refine blk_drewN ?_ _ | refine blk_drew ?_ | refine blk_alloc ?_ _)); exact BK325.out⟩
               have n3_:Aside0 (Below w.heap.size w (((((((((((((w75.setCell ⟨gb325,0,none⟩ (.int .i64 t310)).setCell ⟨gb325,1,none⟩ (.int .u64 t311)).setCell ⟨gb325,2,none⟩ (.int .i64 t312)).setCell ⟨gb325,3,none⟩ (.int .u64 t313)).setCell ⟨gb325,4,none⟩ (.bool t314)).setCell ⟨gb325,5,none⟩ (.int .u64 t315)).setCell ⟨gb325,6,none⟩ (.bool t316)).setCell ⟨gb325,7,none⟩ (.int .u64 t317)).setCell ⟨gb325,8,none⟩ (.bool t318)).setCell ⟨gb325,9,none⟩ (.int .u64 t319)).setCell ⟨gb325,10,none⟩ (.bool t320)).setCell ⟨gb325,11,none⟩ (.int .u64 t321)).setCell ⟨gb325,12,none⟩ (.bool t322))):=⟨by repeat (first | (with_reducible first | exact HB.out | apply below_alloc | apply pw_below_drewN | apply below_drew1 | refine below_set ?_ GE287.out | refine below_set ?_ GE289.out | refine below_set ?_ GE325.out) | exact HB.out)⟩
               (try clear BK287)
               (try clear BK289)
               (try clear BK325)
               (try clear HB)
               generalize (((((((((((((w75.setCell ⟨gb325,0,none⟩ (.int .i64 t310)).setCell ⟨gb325,1,none⟩ (.int .u64 t311)).setCell ⟨gb325,2,none⟩ (.int .i64 t312)).setCell ⟨gb325,3,none⟩ (.int .u64 t313)).setCell ⟨gb325,4,none⟩ (.bool t314)).setCell ⟨gb325,5,none⟩ (.int .u64 t315)).setCell ⟨gb325,6,none⟩ (.bool t316)).setCell ⟨gb325,7,none⟩ (.int .u64 t317)).setCell ⟨gb325,8,none⟩ (.bool t318)).setCell ⟨gb325,9,none⟩ (.int .u64 t319)).setCell ⟨gb325,10,none⟩ (.bool t320)).setCell ⟨gb325,11,none⟩ (.int .u64 t321)).setCell ⟨gb325,12,none⟩ (.bool t322))=w89 at n0_ n1_ n2_ n3_ ⊢
               have BK287:=n0_
               have BK289:=n1_
               have BK325:=n2_
               have HB:=n3_
               clear n0_ n1_ n2_ n3_
               have n0_:=Aside0.mk (blk_drew BK287.out)
               have n1_:=Aside0.mk (blk_drew BK289.out)
               have n2_:=Aside0.mk (blk_drew BK325.out)
               have n3_:=Aside0.mk (below_drew1 HB.out)
               clear BK287
               clear BK289
               clear BK325
               clear HB
               have BK287:=n0_
               have BK289:=n1_
               have BK325:=n2_
               have HB:=n3_
               clear n0_ n1_ n2_ n3_
               have p326:0≤(x12_2:Int):=of_decide_eq_true (by first | (with_reducible assumption) | assumption)
               have q326:x12_2 < (l3.length:Int):=of_decide_eq_true (by first | (with_reducible assumption) | assumption)
               obtain ⟨ad326,e326,hx326_0⟩ :=Kd.at_int HR3.out x12_2 p326 q326
               have hw326_0:=hx326_0
               obtain rfl:ad307=ad326:=(by injection e326)
               replace hx326_0:=(HB.out.cell (World.block_lt_of_cell? w _ hx326_0)).trans hx326_0
               replace p326:=eq_true p326
               replace q326:=eq_true q326
               have p327:0≤(x12_2:Int):=of_decide_eq_true (by first | (with_reducible assumption) | assumption)
               have q327:x12_2 < (l3.length:Int):=of_decide_eq_true (by first | (with_reducible assumption) | assumption)
               obtain ⟨ad327,e327,hx327_0⟩ :=Kd.at_int HR3.out x12_2 p327 q327
               have hw327_0:=hx327_0
               obtain rfl:ad307=ad327:=(by injection e327)
               replace hx327_0:=(HB.out.cell (World.block_lt_of_cell? w _ hx327_0)).trans hx327_0
               replace p327:=eq_true p327
               replace q327:=eq_true q327
               refine start_ (n:=33) (S:=fun w'=>w'.cell? ⟨gb325,0,none⟩=some (.int .i64 t310)∧w'.cell? ⟨gb325,1,none⟩=some (.int .u64 t311)∧w'.cell? ⟨gb325,2,none⟩=some (.int .i64 t312)∧w'.cell? ⟨gb325,3,none⟩=some (.int .u64 t313)∧w'.cell? ⟨gb325,4,none⟩=some (.bool t314)∧w'.cell? ⟨gb325,5,none⟩=some (.int .u64 t315)∧w'.cell? ⟨gb325,6,none⟩=some (.bool t316)∧w'.cell? ⟨gb325,7,none⟩=some (.int .u64 t317)∧w'.cell? ⟨gb325,8,none⟩=some (.bool t318)∧w'.cell? ⟨gb325,9,none⟩=some (.int .u64 t319)∧w'.cell? ⟨gb325,10,none⟩=some (.bool t320)∧w'.cell? ⟨gb325,11,none⟩=some (.int .u64 t321)∧w'.cell? ⟨gb325,12,none⟩=some (.bool t322)∧w'.cell? ⟨gb287,0,none⟩=some (.int .i64 a0_0)∧w'.cell? ⟨gb287,1,none⟩=some (.int .u64 a0_1)∧w'.cell? ⟨gb287,2,none⟩=some (.int .i64 a0_2)∧w'.cell? ⟨gb287,3,none⟩=some (.int .u64 a0_3)∧w'.cell? ⟨gb287,4,none⟩=some (.bool a0_4)∧w'.cell? ⟨gb287,5,none⟩=some (.int .u64 a0_5)∧w'.cell? ⟨gb287,6,none⟩=some (.bool a0_6)∧w'.cell? ⟨gb287,7,none⟩=some (.int .u64 a0_7)∧w'.cell? ⟨gb287,8,none⟩=some (.bool a0_8)∧w'.cell? ⟨gb287,9,none⟩=some (.int .u64 a0_9)∧w'.cell? ⟨gb287,10,none⟩=some (.bool a0_10)∧w'.cell? ⟨gb287,11,none⟩=some (.int .u64 a0_11)∧w'.cell? ⟨gb287,12,none⟩=some (.bool a0_12)∧w'.cell? (ad307.add (x12_2).toNat)=some (.int .u64 (rd l3 x12_2))∧w'.cell? (ad307.add (x12_2).toNat)=some (.int .u64 (rd l3 x12_2))) (ds:=[]) #[F_,F_,F_,F_,F_,F_,F_,F_,F_,F_,F_,F_,F_,F_,F_,F_,F_,F_,F_,F_,F_,F_,F_,F_,F_,F_,F_,F_,F_,F_,F_,F_,F_] (by kernel_rfl) rfl rfl ⟨(blk_cell BK325.out 0).trans rfl,(blk_cell BK325.out 1).trans rfl,(blk_cell BK325.out 2).trans rfl,(blk_cell BK325.out 3).trans rfl,(blk_cell BK325.out 4).trans rfl,(blk_cell BK325.out 5).trans rfl,(blk_cell BK325.out 6).trans rfl,(blk_cell BK325.out 7).trans rfl,(blk_cell BK325.out 8).trans rfl,(blk_cell BK325.out 9).trans rfl,(blk_cell BK325.out 10).trans rfl,(blk_cell BK325.out 11).trans rfl,(blk_cell BK325.out 12).trans rfl,(blk_cell BK287.out 0).trans rfl,(blk_cell BK287.out 1).trans rfl,(blk_cell BK287.out 2).trans rfl,(blk_cell BK287.out 3).trans rfl,(blk_cell BK287.out 4).trans rfl,(blk_cell BK287.out 5).trans rfl,(blk_cell BK287.out 6).trans rfl,(blk_cell BK287.out 7).trans rfl,(blk_cell BK287.out 8).trans rfl,(blk_cell BK287.out 9).trans rfl,(blk_cell BK287.out 10).trans rfl,(blk_cell BK287.out 11).trans rfl,(blk_cell BK287.out 12).trans rfl,((HB.out.cell (World.block_lt_of_cell? w _ hw326_0)).trans hw326_0),((HB.out.cell (World.block_lt_of_cell? w _ hw327_0)).trans hw327_0)⟩ (fun hHeld=>?_); refine with_tabW complinelaw23_RearmLeft.tab14 complinelaw23_RearmLeft.bits14 (fun HT_ HW_=>?_)
               generalize w89.drew=w90 at BK287 BK289 BK325 HB hx326_0 hx327_0 hHeld ⊢
               refine pure_ (i:=0) (N:=some 86) (v:=?_) (a':=?_) #[T_,F_,F_,F_,F_,F_,F_,F_,F_,F_,F_,F_,F_,F_,F_,F_,F_,F_,F_,F_,F_,F_,F_,F_,F_,F_,F_,F_,F_,F_,F_,F_,F_] rfl rfl (any_of HT_.out (by kernel_rfl)) (fun _ _ _ h=>h) (Or.inl ⟨by rfl,?_⟩) ?_ ?_
               rotate_left
               ·intro w'
                go_simp
                with_reducible rfl
               rotate_left
               ·simp only [Act.put,List.setIfInBounds_toArray,List.set_cons_zero,List.set_cons_succ,i64_w,i32_w]
                rfl
               refine pure_ (i:=1) (N:=some 87) (v:=?_) (a':=?_) #[T_,T_,F_,F_,F_,F_,F_,F_,F_,F_,F_,F_,F_,F_,F_,F_,F_,F_,F_,F_,F_,F_,F_,F_,F_,F_,F_,F_,F_,F_,F_,F_,F_] rfl rfl (any_of HT_.out (by kernel_rfl)) (fun _ _ _ h=>h) (Or.inl ⟨by rfl,?_⟩) ?_ ?_
               rotate_left
               ·intro w'
                go_simp
                with_reducible rfl
               rotate_left
               ·simp only [Act.put,List.setIfInBounds_toArray,List.set_cons_zero,List.set_cons_succ,i64_w,i32_w]
                rfl
               refine pure_ (i:=2) (N:=some 88) (v:=?_) (a':=?_) #[T_,T_,T_,F_,F_,F_,F_,F_,F_,F_,F_,F_,F_,F_,F_,F_,F_,F_,F_,F_,F_,F_,F_,F_,F_,F_,F_,F_,F_,F_,F_,F_,F_] rfl rfl (any_of HT_.out (by kernel_rfl)) (fun _ _ _ h=>h) (Or.inl ⟨by rfl,?_⟩) ?_ ?_
               rotate_left
               ·intro w'
                go_simp
                with_reducible rfl
               rotate_left
               ·simp only [Act.put,List.setIfInBounds_toArray,List.set_cons_zero,List.set_cons_succ,i64_w,i32_w]
                rfl
               refine pure_ (i:=3) (N:=some 89) (v:=?_) (a':=?_) #[T_,T_,T_,T_,F_,F_,F_,F_,F_,F_,F_,F_,F_,F_,F_,F_,F_,F_,F_,F_,F_,F_,F_,F_,F_,F_,F_,F_,F_,F_,F_,F_,F_] rfl rfl (any_of HT_.out (by kernel_rfl)) (fun _ _ _ h=>h) (Or.inl ⟨by rfl,?_⟩) ?_ ?_
               rotate_left
               ·intro w'
                go_simp
                with_reducible rfl
               rotate_left
               ·simp only [Act.put,List.setIfInBounds_toArray,List.set_cons_zero,List.set_cons_succ,i64_w,i32_w]
                rfl
               refine pure_ (i:=5) (N:=some 91) (v:=?_) (a':=?_) #[T_,T_,T_,T_,F_,T_,F_,F_,F_,F_,F_,F_,F_,F_,F_,F_,F_,F_,F_,F_,F_,F_,F_,F_,F_,F_,F_,F_,F_,F_,F_,F_,F_] rfl rfl (any_of HT_.out (by kernel_rfl)) (fun _ _ _ h=>h) (Or.inl ⟨by rfl,?_⟩) ?_ ?_
               rotate_left
               ·intro w'
                go_simp
                with_reducible rfl
               rotate_left
               ·simp only [Act.put,List.setIfInBounds_toArray,List.set_cons_zero,List.set_cons_succ,i64_w,i32_w]
                rfl
               refine pure_ (i:=6) (N:=some 92) (v:=?_) (a':=?_) #[T_,T_,T_,T_,F_,T_,T_,F_,F_,F_,F_,F_,F_,F_,F_,F_,F_,F_,F_,F_,F_,F_,F_,F_,F_,F_,F_,F_,F_,F_,F_,F_,F_] rfl rfl (any_of HT_.out (by kernel_rfl)) (fun _ _ _ h=>h) (Or.inl ⟨by rfl,?_⟩) ?_ ?_
               rotate_left
               ·intro w'
                go_simp
                with_reducible rfl
               rotate_left
               ·simp only [Act.put,List.setIfInBounds_toArray,List.set_cons_zero,List.set_cons_succ,i64_w,i32_w]
                rfl
               refine pure_ (i:=7) (N:=some 93) (v:=?_) (a':=?_) #[T_,T_,T_,T_,F_,T_,T_,T_,F_,F_,F_,F_,F_,F_,F_,F_,F_,F_,F_,F_,F_,F_,F_,F_,F_,F_,F_,F_,F_,F_,F_,F_,F_] rfl rfl (any_of HT_.out (by kernel_rfl)) (fun _ _ _ h=>h) (Or.inl ⟨by rfl,?_⟩) ?_ ?_
               rotate_left
               ·intro w'
                go_simp
                with_reducible rfl
               rotate_left
               ·simp only [Act.put,List.setIfInBounds_toArray,List.set_cons_zero,List.set_cons_succ,i64_w,i32_w]
                rfl
               refine take_ (i:=4) (N:=some 90) (v:=?_) (a':=?_) #[T_,T_,T_,T_,T_,T_,T_,T_,F_,F_,F_,F_,F_,F_,F_,F_,F_,F_,F_,F_,F_,F_,F_,F_,F_,F_,F_,F_,F_,F_,F_,F_,F_] rfl rfl (take_ofW HT_.out HW_.out (by kernel_rfl)) (fun _ _ _ h=>h) (Or.inl ⟨by rfl,?_⟩) hHeld ?_ ?_
               rotate_left
               ·rintro w' ⟨s0,s1,s2,s3,s4,s5,s6,s7,s8,s9,s10,s11,s12,s13,s14,s15,s16,s17,s18,s19,s20,s21,s22,s23,s24,s25,s26,s27⟩
                go_simp
                with_reducible rfl
               rotate_left
               ·simp only [Act.put,List.setIfInBounds_toArray,List.set_cons_zero,List.set_cons_succ,i64_w,i32_w]
                rfl
               refine pure_ (i:=8) (N:=some 94) (v:=?_) (a':=?_) #[T_,T_,T_,T_,T_,T_,T_,T_,T_,F_,F_,F_,F_,F_,F_,F_,F_,F_,F_,F_,F_,F_,F_,F_,F_,F_,F_,F_,F_,F_,F_,F_,F_] rfl rfl (any_of HT_.out (by kernel_rfl)) (fun _ _ _ h=>h) (Or.inl ⟨by rfl,?_⟩) ?_ ?_
               rotate_left
               ·intro w'
                go_simp
                with_reducible rfl
               rotate_left
               ·simp only [Act.put,List.setIfInBounds_toArray,List.set_cons_zero,List.set_cons_succ,i64_w,i32_w]
                rfl
               refine pure_ (i:=9) (N:=some 95) (v:=?_) (a':=?_) #[T_,T_,T_,T_,T_,T_,T_,T_,T_,T_,F_,F_,F_,F_,F_,F_,F_,F_,F_,F_,F_,F_,F_,F_,F_,F_,F_,F_,F_,F_,F_,F_,F_] rfl rfl (any_of HT_.out (by kernel_rfl)) (fun _ _ _ h=>h) (Or.inl ⟨by rfl,?_⟩) ?_ ?_
               rotate_left
               ·intro w'
                go_simp
                with_reducible rfl
               rotate_left
               ·simp only [Act.put,List.setIfInBounds_toArray,List.set_cons_zero,List.set_cons_succ,i64_w,i32_w]
                rfl
               refine pure_ (i:=10) (N:=some 96) (v:=?_) (a':=?_) #[T_,T_,T_,T_,T_,T_,T_,T_,T_,T_,T_,F_,F_,F_,F_,F_,F_,F_,F_,F_,F_,F_,F_,F_,F_,F_,F_,F_,F_,F_,F_,F_,F_] rfl rfl (any_of HT_.out (by kernel_rfl)) (fun _ _ _ h=>h) (Or.inl ⟨by rfl,?_⟩) ?_ ?_
               rotate_left
               ·intro w'
                go_simp
                with_reducible rfl
               rotate_left
               ·simp only [Act.put,List.setIfInBounds_toArray,List.set_cons_zero,List.set_cons_succ,i64_w,i32_w]
                rfl
               refine pure_ (i:=11) (N:=some 97) (v:=?_) (a':=?_) #[T_,T_,T_,T_,T_,T_,T_,T_,T_,T_,T_,T_,F_,F_,F_,F_,F_,F_,F_,F_,F_,F_,F_,F_,F_,F_,F_,F_,F_,F_,F_,F_,F_] rfl rfl (any_of HT_.out (by kernel_rfl)) (fun _ _ _ h=>h) (Or.inl ⟨by rfl,?_⟩) ?_ ?_
               rotate_left
               ·intro w'
                go_simp
                with_reducible rfl
               rotate_left
               ·simp only [Act.put,List.setIfInBounds_toArray,List.set_cons_zero,List.set_cons_succ,i64_w,i32_w]
                rfl
               refine pure_ (i:=12) (N:=some 98) (v:=?_) (a':=?_) #[T_,T_,T_,T_,T_,T_,T_,T_,T_,T_,T_,T_,T_,F_,F_,F_,F_,F_,F_,F_,F_,F_,F_,F_,F_,F_,F_,F_,F_,F_,F_,F_,F_] rfl rfl (any_of HT_.out (by kernel_rfl)) (fun _ _ _ h=>h) (Or.inl ⟨by rfl,?_⟩) ?_ ?_
               rotate_left
               ·intro w'
                go_simp
                with_reducible rfl
               rotate_left
               ·simp only [Act.put,List.setIfInBounds_toArray,List.set_cons_zero,List.set_cons_succ,i64_w,i32_w]
                rfl
               refine pure_ (i:=13) (N:=some 99) (v:=?_) (a':=?_) #[T_,T_,T_,T_,T_,T_,T_,T_,T_,T_,T_,T_,T_,T_,F_,F_,F_,F_,F_,F_,F_,F_,F_,F_,F_,F_,F_,F_,F_,F_,F_,F_,F_] rfl rfl (any_of HT_.out (by kernel_rfl)) (fun _ _ _ h=>h) (Or.inl ⟨by rfl,?_⟩) ?_ ?_
               rotate_left
               ·intro w'
                go_simp
                with_reducible rfl
               rotate_left
               ·simp only [Act.put,List.setIfInBounds_toArray,List.set_cons_zero,List.set_cons_succ,i64_w,i32_w]
                rfl
               refine pure_ (i:=14) (N:=some 100) (v:=?_) (a':=?_) #[T_,T_,T_,T_,T_,T_,T_,T_,T_,T_,T_,T_,T_,T_,T_,F_,F_,F_,F_,F_,F_,F_,F_,F_,F_,F_,F_,F_,F_,F_,F_,F_,F_] rfl rfl (any_of HT_.out (by kernel_rfl)) (fun _ _ _ h=>h) (Or.inl ⟨by rfl,?_⟩) ?_ ?_
               rotate_left
               ·intro w'
                go_simp
                with_reducible rfl
               rotate_left
               ·simp only [Act.put,List.setIfInBounds_toArray,List.set_cons_zero,List.set_cons_succ,i64_w,i32_w]
                rfl
               refine pure_ (i:=15) (N:=some 101) (v:=?_) (a':=?_) #[T_,T_,T_,T_,T_,T_,T_,T_,T_,T_,T_,T_,T_,T_,T_,T_,F_,F_,F_,F_,F_,F_,F_,F_,F_,F_,F_,F_,F_,F_,F_,F_,F_] rfl rfl (any_of HT_.out (by kernel_rfl)) (fun _ _ _ h=>h) (Or.inl ⟨by rfl,?_⟩) ?_ ?_
               rotate_left
               ·intro w'
                go_simp
                with_reducible rfl
               rotate_left
               ·simp only [Act.put,List.setIfInBounds_toArray,List.set_cons_zero,List.set_cons_succ,i64_w,i32_w]
                rfl
               refine take_ (i:=16) (N:=some 102) (v:=?_) (a':=?_) #[T_,T_,T_,T_,T_,T_,T_,T_,T_,T_,T_,T_,T_,T_,T_,T_,T_,F_,F_,F_,F_,F_,F_,F_,F_,F_,F_,F_,F_,F_,F_,F_,F_] rfl rfl (take_ofW HT_.out HW_.out (by kernel_rfl)) (fun _ _ _ h=>h) (Or.inl ⟨by rfl,?_⟩) hHeld ?_ ?_
               rotate_left
               ·rintro w' ⟨s0,s1,s2,s3,s4,s5,s6,s7,s8,s9,s10,s11,s12,s13,s14,s15,s16,s17,s18,s19,s20,s21,s22,s23,s24,s25,s26,s27⟩
                go_simp
                with_reducible rfl
               rotate_left
               ·simp only [Act.put,List.setIfInBounds_toArray,List.set_cons_zero,List.set_cons_succ,i64_w,i32_w]
                rfl
               refine pure_ (i:=17) (N:=some 103) (v:=?_) (a':=?_) #[T_,T_,T_,T_,T_,T_,T_,T_,T_,T_,T_,T_,T_,T_,T_,T_,T_,T_,F_,F_,F_,F_,F_,F_,F_,F_,F_,F_,F_,F_,F_,F_,F_] rfl rfl (any_of HT_.out (by kernel_rfl)) (fun _ _ _ h=>h) (Or.inl ⟨by rfl,?_⟩) ?_ ?_
               rotate_left
               ·intro w'
                go_simp
                with_reducible rfl
               rotate_left
               ·simp only [Act.put,List.setIfInBounds_toArray,List.set_cons_zero,List.set_cons_succ,i64_w,i32_w]
                rfl
               refine pure_ (i:=18) (N:=some 104) (v:=?_) (a':=?_) #[T_,T_,T_,T_,T_,T_,T_,T_,T_,T_,T_,T_,T_,T_,T_,T_,T_,T_,T_,F_,F_,F_,F_,F_,F_,F_,F_,F_,F_,F_,F_,F_,F_] rfl rfl (any_of HT_.out (by kernel_rfl)) (fun _ _ _ h=>h) (Or.inl ⟨by rfl,?_⟩) ?_ ?_
               rotate_left
               ·intro w'
                go_simp
                with_reducible rfl
               rotate_left
               ·simp only [Act.put,List.setIfInBounds_toArray,List.set_cons_zero,List.set_cons_succ,i64_w,i32_w]
                rfl
               refine pure_ (i:=19) (N:=some 105) (v:=?_) (a':=?_) #[T_,T_,T_,T_,T_,T_,T_,T_,T_,T_,T_,T_,T_,T_,T_,T_,T_,T_,T_,T_,F_,F_,F_,F_,F_,F_,F_,F_,F_,F_,F_,F_,F_] rfl rfl (any_of HT_.out (by kernel_rfl)) (fun _ _ _ h=>h) (Or.inl ⟨by rfl,?_⟩) ?_ ?_
               rotate_left
               ·intro w'
                go_simp
                with_reducible rfl
               rotate_left
               ·simp only [Act.put,List.setIfInBounds_toArray,List.set_cons_zero,List.set_cons_succ,i64_w,i32_w]
                rfl
               refine pure_ (i:=20) (N:=some 106) (v:=?_) (a':=?_) #[T_,T_,T_,T_,T_,T_,T_,T_,T_,T_,T_,T_,T_,T_,T_,T_,T_,T_,T_,T_,T_,F_,F_,F_,F_,F_,F_,F_,F_,F_,F_,F_,F_] rfl rfl (any_of HT_.out (by kernel_rfl)) (fun _ _ _ h=>h) (Or.inl ⟨by rfl,?_⟩) ?_ ?_
               rotate_left
               ·intro w'
                go_simp
                with_reducible rfl
               rotate_left
               ·simp only [Act.put,List.setIfInBounds_toArray,List.set_cons_zero,List.set_cons_succ,i64_w,i32_w]
                rfl
               refine pure_ (i:=21) (N:=some 107) (v:=?_) (a':=?_) #[T_,T_,T_,T_,T_,T_,T_,T_,T_,T_,T_,T_,T_,T_,T_,T_,T_,T_,T_,T_,T_,T_,F_,F_,F_,F_,F_,F_,F_,F_,F_,F_,F_] rfl rfl (any_of HT_.out (by kernel_rfl)) (fun _ _ _ h=>h) (Or.inl ⟨by rfl,?_⟩) ?_ ?_
               rotate_left
               ·intro w'
                go_simp
                with_reducible rfl
               rotate_left
               ·simp only [Act.put,List.setIfInBounds_toArray,List.set_cons_zero,List.set_cons_succ,i64_w,i32_w]
                rfl
               refine pure_ (i:=22) (N:=some 108) (v:=?_) (a':=?_) #[T_,T_,T_,T_,T_,T_,T_,T_,T_,T_,T_,T_,T_,T_,T_,T_,T_,T_,T_,T_,T_,T_,T_,F_,F_,F_,F_,F_,F_,F_,F_,F_,F_] rfl rfl (any_of HT_.out (by kernel_rfl)) (fun _ _ _ h=>h) (Or.inl ⟨by rfl,?_⟩) ?_ ?_
               rotate_left
               ·intro w'
                go_simp
                with_reducible rfl
               rotate_left
               ·simp only [Act.put,List.setIfInBounds_toArray,List.set_cons_zero,List.set_cons_succ,i64_w,i32_w]
                rfl
               refine pure_ (i:=23) (N:=some 109) (v:=?_) (a':=?_) #[T_,T_,T_,T_,T_,T_,T_,T_,T_,T_,T_,T_,T_,T_,T_,T_,T_,T_,T_,T_,T_,T_,T_,T_,F_,F_,F_,F_,F_,F_,F_,F_,F_] rfl rfl (any_of HT_.out (by kernel_rfl)) (fun _ _ _ h=>h) (Or.inl ⟨by rfl,?_⟩) ?_ ?_
               rotate_left
               ·intro w'
                go_simp
                with_reducible rfl
               rotate_left
               ·simp only [Act.put,List.setIfInBounds_toArray,List.set_cons_zero,List.set_cons_succ,i64_w,i32_w]
                rfl
               refine pure_ (i:=24) (N:=some 110) (v:=?_) (a':=?_) #[T_,T_,T_,T_,T_,T_,T_,T_,T_,T_,T_,T_,T_,T_,T_,T_,T_,T_,T_,T_,T_,T_,T_,T_,T_,F_,F_,F_,F_,F_,F_,F_,F_] rfl rfl (any_of HT_.out (by kernel_rfl)) (fun _ _ _ h=>h) (Or.inl ⟨by rfl,?_⟩) ?_ ?_
               rotate_left
               ·intro w'
                go_simp
                with_reducible rfl
               rotate_left
               ·simp only [Act.put,List.setIfInBounds_toArray,List.set_cons_zero,List.set_cons_succ,i64_w,i32_w]
                rfl
               refine pure_ (i:=25) (N:=some 111) (v:=?_) (a':=?_) #[T_,T_,T_,T_,T_,T_,T_,T_,T_,T_,T_,T_,T_,T_,T_,T_,T_,T_,T_,T_,T_,T_,T_,T_,T_,T_,F_,F_,F_,F_,F_,F_,F_] rfl rfl (any_of HT_.out (by kernel_rfl)) (fun _ _ _ h=>h) (Or.inl ⟨by rfl,?_⟩) ?_ ?_
               rotate_left
               ·intro w'
                go_simp
                with_reducible rfl
               rotate_left
               ·simp only [Act.put,List.setIfInBounds_toArray,List.set_cons_zero,List.set_cons_succ,i64_w,i32_w]
                rfl
               refine pure_ (i:=28) (N:=some 114) (v:=?_) (a':=?_) #[T_,T_,T_,T_,T_,T_,T_,T_,T_,T_,T_,T_,T_,T_,T_,T_,T_,T_,T_,T_,T_,T_,T_,T_,T_,T_,F_,F_,T_,F_,F_,F_,F_] rfl rfl (any_of HT_.out (by kernel_rfl)) (fun _ _ _ h=>h) (Or.inl ⟨by rfl,?_⟩) ?_ ?_
               rotate_left
               ·intro w'
                go_simp
                with_reducible rfl
               rotate_left
               ·simp only [Act.put,List.setIfInBounds_toArray,List.set_cons_zero,List.set_cons_succ,i64_w,i32_w]
                rfl
               refine take_ (i:=26) (N:=some 112) (v:=?_) (a':=?_) #[T_,T_,T_,T_,T_,T_,T_,T_,T_,T_,T_,T_,T_,T_,T_,T_,T_,T_,T_,T_,T_,T_,T_,T_,T_,T_,T_,F_,T_,F_,F_,F_,F_] rfl rfl (take_ofW HT_.out HW_.out (by kernel_rfl)) (fun _ _ _ h=>h) (Or.inl ⟨by rfl,?_⟩) hHeld ?_ ?_
               rotate_left
               ·rintro w' ⟨s0,s1,s2,s3,s4,s5,s6,s7,s8,s9,s10,s11,s12,s13,s14,s15,s16,s17,s18,s19,s20,s21,s22,s23,s24,s25,s26,s27⟩
                go_simp
                with_reducible rfl
               rotate_left
               ·simp only [Act.put,List.setIfInBounds_toArray,List.set_cons_zero,List.set_cons_succ,i64_w,i32_w]
                rfl
               refine pure_ (i:=27) (N:=some 113) (v:=?_) (a':=?_) #[T_,T_,T_,T_,T_,T_,T_,T_,T_,T_,T_,T_,T_,T_,T_,T_,T_,T_,T_,T_,T_,T_,T_,T_,T_,T_,T_,T_,T_,F_,F_,F_,F_] rfl rfl (any_of HT_.out (by kernel_rfl)) (fun _ _ _ h=>h) (Or.inl ⟨by rfl,?_⟩) ?_ ?_
               rotate_left
               ·intro w'
                go_simp
                with_reducible rfl
               rotate_left
               ·simp only [Act.put,List.setIfInBounds_toArray,List.set_cons_zero,List.set_cons_succ,i64_w,i32_w]
                rfl
               refine take_ (i:=29) (N:=some 115) (v:=?_) (a':=?_) #[T_,T_,T_,T_,T_,T_,T_,T_,T_,T_,T_,T_,T_,T_,T_,T_,T_,T_,T_,T_,T_,T_,T_,T_,T_,T_,T_,T_,T_,T_,F_,F_,F_] rfl rfl (take_ofW HT_.out HW_.out (by kernel_rfl)) (fun _ _ _ h=>h) (Or.inl ⟨by rfl,?_⟩) hHeld ?_ ?_
               rotate_left
               ·rintro w' ⟨s0,s1,s2,s3,s4,s5,s6,s7,s8,s9,s10,s11,s12,s13,s14,s15,s16,s17,s18,s19,s20,s21,s22,s23,s24,s25,s26,s27⟩
                go_simp
                with_reducible rfl
               rotate_left
               ·simp only [Act.put,List.setIfInBounds_toArray,List.set_cons_zero,List.set_cons_succ,i64_w,i32_w]
                rfl
               refine pure_ (i:=30) (N:=some 116) (v:=?_) (a':=?_) #[T_,T_,T_,T_,T_,T_,T_,T_,T_,T_,T_,T_,T_,T_,T_,T_,T_,T_,T_,T_,T_,T_,T_,T_,T_,T_,T_,T_,T_,T_,T_,F_,F_] rfl rfl (any_of HT_.out (by kernel_rfl)) (fun _ _ _ h=>h) (Or.inl ⟨by rfl,?_⟩) ?_ ?_
               rotate_left
               ·intro w'
                go_simp
                with_reducible rfl
               rotate_left
               ·simp only [Act.put,List.setIfInBounds_toArray,List.set_cons_zero,List.set_cons_succ,i64_w,i32_w]
                rfl
               refine pure_ (i:=31) (N:=some 117) (v:=?_) (a':=?_) #[T_,T_,T_,T_,T_,T_,T_,T_,T_,T_,T_,T_,T_,T_,T_,T_,T_,T_,T_,T_,T_,T_,T_,T_,T_,T_,T_,T_,T_,T_,T_,T_,F_] rfl rfl (any_of HT_.out (by kernel_rfl)) (fun _ _ _ h=>h) (Or.inl ⟨by rfl,?_⟩) ?_ ?_
               rotate_left
               ·intro w'
                go_simp
                with_reducible rfl
               rotate_left
               ·simp only [Act.put,List.setIfInBounds_toArray,List.set_cons_zero,List.set_cons_succ,i64_w,i32_w]
                rfl
               refine pure_ (i:=32) (N:=some 118) (v:=?_) (a':=?_) #[T_,T_,T_,T_,T_,T_,T_,T_,T_,T_,T_,T_,T_,T_,T_,T_,T_,T_,T_,T_,T_,T_,T_,T_,T_,T_,T_,T_,T_,T_,T_,T_,T_] rfl rfl (any_of HT_.out (by kernel_rfl)) (fun _ _ _ h=>h) (Or.inl ⟨by rfl,?_⟩) ?_ ?_
               rotate_left
               ·intro w'
                go_simp
                with_reducible rfl
               rotate_left
               ·simp only [Act.put,List.setIfInBounds_toArray,List.set_cons_zero,List.set_cons_succ,i64_w,i32_w]
                rfl
               refine done_ (done_of HT_.out (by kernel_rfl)) ?_
               have hnb91:=NB325_287.out
               have hnc91:=NB287_325.out
               have hnb92:=NB325_289.out
               have hnc92:=NB289_325.out
               have hcz93_0:w90.cell? ⟨gb325,0,none⟩=some (.int .i64 t310):=(blk_cell BK325.out 0).trans rfl
               have hcz93_1:w90.cell? ⟨gb325,1,none⟩=some (.int .u64 t311):=(blk_cell BK325.out 1).trans rfl
               have hcz93_2:w90.cell? ⟨gb325,2,none⟩=some (.int .i64 t312):=(blk_cell BK325.out 2).trans rfl
               have hcz93_3:w90.cell? ⟨gb325,3,none⟩=some (.int .u64 t313):=(blk_cell BK325.out 3).trans rfl
               have hcz93_4:w90.cell? ⟨gb325,4,none⟩=some (.bool t314):=(blk_cell BK325.out 4).trans rfl
               have hcz93_5:w90.cell? ⟨gb325,5,none⟩=some (.int .u64 t315):=(blk_cell BK325.out 5).trans rfl
               have hcz93_6:w90.cell? ⟨gb325,6,none⟩=some (.bool t316):=(blk_cell BK325.out 6).trans rfl
               have hcz93_7:w90.cell? ⟨gb325,7,none⟩=some (.int .u64 t317):=(blk_cell BK325.out 7).trans rfl
               have hcz93_8:w90.cell? ⟨gb325,8,none⟩=some (.bool t318):=(blk_cell BK325.out 8).trans rfl
               have hcz93_9:w90.cell? ⟨gb325,9,none⟩=some (.int .u64 t319):=(blk_cell BK325.out 9).trans rfl
               have hcz93_10:w90.cell? ⟨gb325,10,none⟩=some (.bool t320):=(blk_cell BK325.out 10).trans rfl
               have hcz93_11:w90.cell? ⟨gb325,11,none⟩=some (.int .u64 t321):=(blk_cell BK325.out 11).trans rfl
               have hcz93_12:w90.cell? ⟨gb325,12,none⟩=some (.bool t322):=(blk_cell BK325.out 12).trans rfl
               have hfz93_0:=blk_frozen BK325.out 0
               have hfz93_1:=blk_frozen BK325.out 1
               have hfz93_2:=blk_frozen BK325.out 2
               have hfz93_3:=blk_frozen BK325.out 3
               have hfz93_4:=blk_frozen BK325.out 4
               have hfz93_5:=blk_frozen BK325.out 5
               have hfz93_6:=blk_frozen BK325.out 6
               have hfz93_7:=blk_frozen BK325.out 7
               have hfz93_8:=blk_frozen BK325.out 8
               have hfz93_9:=blk_frozen BK325.out 9
               have hfz93_10:=blk_frozen BK325.out 10
               have hfz93_11:=blk_frozen BK325.out 11
               have hfz93_12:=blk_frozen BK325.out 12
               have hnb94:=NB289_287.out
               have hnc94:=NB287_289.out
               have hcz95_0:w90.cell? ⟨gb289,0,none⟩=some (.int .i64 x290000_2):=(blk_cell BK289.out 0).trans rfl
               have hcz95_1:w90.cell? ⟨gb289,1,none⟩=some (.int .u64 x290001_2):=(blk_cell BK289.out 1).trans rfl
               have hcz95_2:w90.cell? ⟨gb289,2,none⟩=some (.int .i64 x290002_2):=(blk_cell BK289.out 2).trans rfl
               have hcz95_3:w90.cell? ⟨gb289,3,none⟩=some (.int .u64 x290003_2):=(blk_cell BK289.out 3).trans rfl
               have hcz95_4:w90.cell? ⟨gb289,4,none⟩=some (.bool x290004_2):=(blk_cell BK289.out 4).trans rfl
               have hcz95_5:w90.cell? ⟨gb289,5,none⟩=some (.int .u64 x290005_2):=(blk_cell BK289.out 5).trans rfl
               have hcz95_6:w90.cell? ⟨gb289,6,none⟩=some (.bool x290006_2):=(blk_cell BK289.out 6).trans rfl
               have hcz95_7:w90.cell? ⟨gb289,7,none⟩=some (.int .u64 x290007_2):=(blk_cell BK289.out 7).trans rfl
               have hcz95_8:w90.cell? ⟨gb289,8,none⟩=some (.bool x290008_2):=(blk_cell BK289.out 8).trans rfl
               have hcz95_9:w90.cell? ⟨gb289,9,none⟩=some (.int .u64 x290009_2):=(blk_cell BK289.out 9).trans rfl
               have hcz95_10:w90.cell? ⟨gb289,10,none⟩=some (.bool x290010_2):=(blk_cell BK289.out 10).trans rfl
               have hcz95_11:w90.cell? ⟨gb289,11,none⟩=some (.int .u64 x290011_2):=(blk_cell BK289.out 11).trans rfl
               have hcz95_12:w90.cell? ⟨gb289,12,none⟩=some (.bool x290012_2):=(blk_cell BK289.out 12).trans rfl
               have hfz95_0:=blk_frozen BK289.out 0
               have hfz95_1:=blk_frozen BK289.out 1
               have hfz95_2:=blk_frozen BK289.out 2
               have hfz95_3:=blk_frozen BK289.out 3
               have hfz95_4:=blk_frozen BK289.out 4
               have hfz95_5:=blk_frozen BK289.out 5
               have hfz95_6:=blk_frozen BK289.out 6
               have hfz95_7:=blk_frozen BK289.out 7
               have hfz95_8:=blk_frozen BK289.out 8
               have hfz95_9:=blk_frozen BK289.out 9
               have hfz95_10:=blk_frozen BK289.out 10
               have hfz95_11:=blk_frozen BK289.out 11
               have hfz95_12:=blk_frozen BK289.out 12
               try go_wp2
               go_roundg k2
               case measure=>have:=HJ6.out; have:=HK2.out; omega
               case rel=>exact ⟨(t309),(wrap64 (x12_2+1)),(t310),(t311),(t312),(t313),(t314),(t315),(t316),(t317),(t318),(t319),(t320),(t321),(t322),(by first | rfl | (simp; done) | (simp [*]; done)),(by first | rfl | (simp; done) | (simp [*]; done)),H',⟨by have:=HJ6.out; have:=HK2.out; omega⟩,⟨by (with_reducible repeat (first | refine blk_drewN ?_ _ | refine blk_drew ?_ | refine blk_alloc ?_ _)); refine blk_far ?_ NB287_289.out _; (with_reducible repeat (first | refine blk_drewN ?_ _ | refine blk_drew ?_ | refine blk_alloc ?_ _)); refine blk_far ?_ NB287_289.out _; (with_reducible repeat (first | refine blk_drewN ?_ _ | refine blk_drew ?_ | refine blk_alloc ?_ _)); refine blk_far ?_ NB287_289.out _; (with_reducible repeat (first | refine blk_drewN ?_ _ | refine blk_drew ?_ | refine blk_alloc ?_ _)); refine blk_far ?_ NB287_289.out _; (with_reducible repeat (first | refine blk_drewN ?_ _ | refine blk_drew ?_ | refine blk_alloc ?_ _)); refine blk_far ?_ NB287_289.out _; (with_reducible repeat (first | refine blk_drewN ?_ _ | refine blk_drew ?_ | refine blk_alloc ?_ _)); refine blk_far ?_ NB287_289.out _; (with_reducible repeat (first | refine blk_drewN ?_ _ | refine blk_drew ?_ | refine blk_alloc ?_ _)); refine blk_far ?_ NB287_289.out _; (with_reducible repeat (first | refine blk_drewN ?_ _ | refine blk_drew ?_ | refine blk_alloc ?_ _)); refine blk_far ?_ NB287_289.out _; (with_reducible repeat (first | refine blk_drewN ?_ _ | refine blk_drew ?_ | refine blk_alloc ?_ _)); refine blk_far ?_ NB287_289.out _; (with_reducible repeat (first | refine blk_drewN ?_ _ | refine blk_drew ?_ | refine blk_alloc ?_ _)); refine blk_far ?_ NB287_289.out _; (with_reducible repeat (first | refine blk_drewN ?_ _ | refine blk_drew ?_ | refine blk_alloc ?_ _)); refine blk_far ?_ NB287_289.out _; (with_reducible repeat (first | refine blk_drewN ?_ _ | refine blk_drew ?_ | refine blk_alloc ?_ _)); refine blk_far ?_ NB287_289.out _; (with_reducible repeat (first | refine blk_drewN ?_ _ | refine blk_drew ?_ | refine blk_alloc ?_ _)); refine blk_far ?_ NB287_289.out _; (with_reducible repeat (first | refine blk_drewN ?_ _ | refine blk_drew ?_ | refine blk_alloc ?_ _)); exact BK287.out⟩,⟨by (with_reducible repeat (first | refine blk_drewN ?_ _ | refine blk_drew ?_ | refine blk_alloc ?_ _)); refine blk_put (cs:=#[.int .i64 t310,.int .u64 t311,.int .i64 t312,.int .u64 t313,.bool t314,.int .u64 t315,.bool t316,.int .u64 t317,.bool t318,.int .u64 t319,.bool t320,.int .u64 t321,.bool x290012_2]) ?_ 12 _ rfl; (with_reducible repeat (first | refine blk_drewN ?_ _ | refine blk_drew ?_ | refine blk_alloc ?_ _)); refine blk_put (cs:=#[.int .i64 t310,.int .u64 t311,.int .i64 t312,.int .u64 t313,.bool t314,.int .u64 t315,.bool t316,.int .u64 t317,.bool t318,.int .u64 t319,.bool t320,.int .u64 x290011_2,.bool x290012_2]) ?_ 11 _ rfl; (with_reducible repeat (first | refine blk_drewN ?_ _ | refine blk_drew ?_ | refine blk_alloc ?_ _)); refine blk_put (cs:=#[.int .i64 t310,.int .u64 t311,.int .i64 t312,.int .u64 t313,.bool t314,.int .u64 t315,.bool t316,.int .u64 t317,.bool t318,.int .u64 t319,.bool x290010_2,.int .u64 x290011_2,.bool x290012_2]) ?_ 10 _ rfl; (with_reducible repeat (first | refine blk_drewN ?_ _ | refine blk_drew ?_ | refine blk_alloc ?_ _)); refine blk_put (cs:=#[.int .i64 t310,.int .u64 t311,.int .i64 t312,.int .u64 t313,.bool t314,.int .u64 t315,.bool t316,.int .u64 t317,.bool t318,.int .u64 x290009_2,.bool x290010_2,.int .u64 x290011_2,.bool x290012_2]) ?_ 9 _ rfl; (with_reducible repeat (first | refine blk_drewN ?_ _ | refine blk_drew ?_ | refine blk_alloc ?_ _)); refine blk_put (cs:=#[.int .i64 t310,.int .u64 t311,.int .i64 t312,.int .u64 t313,.bool t314,.int .u64 t315,.bool t316,.int .u64 t317,.bool x290008_2,.int .u64 x290009_2,.bool x290010_2,.int .u64 x290011_2,.bool x290012_2]) ?_ 8 _ rfl; (with_reducible repeat (first | refine blk_drewN ?_ _ | refine blk_drew ?_ | refine blk_alloc ?_ _)); refine blk_put (cs:=#[.int .i64 t310,.int .u64 t311,.int .i64 t312,.int .u64 t313,.bool t314,.int .u64 t315,.bool t316,.int .u64 x290007_2,.bool x290008_2,.int .u64 x290009_2,.bool x290010_2,.int .u64 x290011_2,.bool x290012_2]) ?_ 7 _ rfl; (with_reducible repeat (first | refine blk_drewN ?_ _ | refine blk_drew ?_ | refine blk_alloc ?_ _)); refine blk_put (cs:=#[.int .i64 t310,.int .u64 t311,.int .i64 t312,.int .u64 t313,.bool t314,.int .u64 t315,.bool x290006_2,.int .u64 x290007_2,.bool x290008_2,.int .u64 x290009_2,.bool x290010_2,.int .u64 x290011_2,.bool x290012_2]) ?_ 6 _ rfl; (with_reducible repeat (first | refine blk_drewN ?_ _ | refine blk_drew ?_ | refine blk_alloc ?_ _)); refine blk_put (cs:=#[.int .i64 t310,.int .u64 t311,.int .i64 t312,.int .u64 t313,.bool t314,.int .u64 x290005_2,.bool x290006_2,.int .u64 x290007_2,.bool x290008_2,.int .u64 x290009_2,.bool x290010_2,.int .u64 x290011_2,.bool x290012_2]) ?_ 5 _ rfl; (with_reducible repeat (first | refine blk_drewN ?_ _ | refine blk_drew ?_ | refine blk_alloc ?_ _)); refine blk_put (cs:=#[.int .i64 t310,.int .u64 t311,.int .i64 t312,.int .u64 t313,.bool x290004_2,.int .u64 x290005_2,.bool x290006_2,.int .u64 x290007_2,.bool x290008_2,.int .u64 x290009_2,.bool x290010_2,.int .u64 x290011_2,.bool x290012_2]) ?_ 4 _ rfl; (with_reducible repeat (first | refine blk_drewN ?_ _ | refine blk_drew ?_ | refine blk_alloc ?_ _)); refine blk_put (cs:=#[.int .i64 t310,.int .u64 t311,.int .i64 t312,.int .u64 x290003_2,.bool x290004_2,.int .u64 x290005_2,.bool x290006_2,.int .u64 x290007_2,.bool x290008_2,.int .u64 x290009_2,.bool x290010_2,.int .u64 x290011_2,.bool x290012_2]) ?_ 3 _ rfl; (with_reducible repeat (first | refine blk_drewN ?_ _ | refine blk_drew ?_ | refine blk_alloc ?_ _)); refine blk_put (cs:=#[.int .i64 t310,.int .u64 t311,.int .i64 x290002_2,.int .u64 x290003_2,.bool x290004_2,.int .u64 x290005_2,.bool x290006_2,.int .u64 x290007_2,.bool x290008_2,.int .u64 x290009_2,.bool x290010_2,.int .u64 x290011_2,.bool x290012_2]) ?_ 2 _ rfl; (with_reducible repeat (first | refine blk_drewN ?_ _ | refine blk_drew ?_ | refine blk_alloc ?_ _)); refine blk_put (cs:=#[.int .i64 t310,.int .u64 x290001_2,.int .i64 x290002_2,.int .u64 x290003_2,.bool x290004_2,.int .u64 x290005_2,.bool x290006_2,.int .u64 x290007_2,.bool x290008_2,.int .u64 x290009_2,.bool x290010_2,.int .u64 x290011_2,.bool x290012_2]) ?_ 1 _ rfl; (with_reducible repeat (first | refine blk_drewN ?_ _ | refine blk_drew ?_ | refine blk_alloc ?_ _)); refine blk_put (cs:=#[.int .i64 x290000_2,.int .u64 x290001_2,.int .i64 x290002_2,.int .u64 x290003_2,.bool x290004_2,.int .u64 x290005_2,.bool x290006_2,.int .u64 x290007_2,.bool x290008_2,.int .u64 x290009_2,.bool x290010_2,.int .u64 x290011_2,.bool x290012_2]) ?_ 0 _ rfl; (with_reducible repeat (first | refine blk_drewN ?_ _ | refine blk_drew ?_ | refine blk_alloc ?_ _)); exact BK289.out⟩,⟨by repeat (first | (with_reducible first | exact HB.out | apply below_alloc | apply pw_below_drewN | apply below_drew1 | refine below_set ?_ GE287.out | refine below_set ?_ GE289.out | refine below_set ?_ GE325.out) | exact HB.out)⟩⟩
            ·rw [if_neg c31] at H
             have c31b0:(t312 == (wrap64 (a2 - x12_2)))=false:=beq_eq_false_iff_ne.mpr c31
             have c31b1:(t312 != (wrap64 (a2 - x12_2)))=true:=bne_iff_ne.mpr c31
             exact absurd (Option.some.inj H) (by decide)
           ·rw [if_neg c30] at H
            have c30b0:(t324 == 0)=false:=beq_eq_false_iff_ne.mpr c30
            have c30b1:(t324 != 0)=true:=bne_iff_ne.mpr c30
            exact absurd (Option.some.inj H) (by decide)
         ·rw [if_neg c27] at H
          exact absurd H (by simp)
        ·rw [if_neg c26] at H
         exact absurd H (by simp)
       ·rw [if_neg c25] at H
        have c25b0:decide (x12_2 < a2)=false:=decide_eq_false c25
        clear c25
        replace H:=Option.bind_eq_some_iff.mp H
        obtain ⟨⟨t290,t291,t292,t293,t294,t295,t296,t297,t298,t299,t300,t301,t302,t303,t304,t305⟩,A1340,H⟩ :=H
        replace H:(if true=true then (some (t305 == 5)) else (some false))=some true:=H
        have A134:=Aside0.mk A1340
        clear A1340
        by_cases c135:true=true
        ·clear c135
         have H1:(some (t305 == 5))=some true:=by first | (rw [if_pos rfl] at H; exact H) | (rw [if_pos trivial] at H; exact H)
         clear H
         have H:=H1
         clear H1
         replace H:=Option.some.inj H
         have hnb136:=NB289_287.out
         have hnc136:=NB287_289.out
         have hcz137_0:wr.cell? ⟨gb289,0,none⟩=some (.int .i64 x290000_2):=(blk_cell BK289.out 0).trans rfl
         have hcz137_1:wr.cell? ⟨gb289,1,none⟩=some (.int .u64 x290001_2):=(blk_cell BK289.out 1).trans rfl
         have hcz137_2:wr.cell? ⟨gb289,2,none⟩=some (.int .i64 x290002_2):=(blk_cell BK289.out 2).trans rfl
         have hcz137_3:wr.cell? ⟨gb289,3,none⟩=some (.int .u64 x290003_2):=(blk_cell BK289.out 3).trans rfl
         have hcz137_4:wr.cell? ⟨gb289,4,none⟩=some (.bool x290004_2):=(blk_cell BK289.out 4).trans rfl
         have hcz137_5:wr.cell? ⟨gb289,5,none⟩=some (.int .u64 x290005_2):=(blk_cell BK289.out 5).trans rfl
         have hcz137_6:wr.cell? ⟨gb289,6,none⟩=some (.bool x290006_2):=(blk_cell BK289.out 6).trans rfl
         have hcz137_7:wr.cell? ⟨gb289,7,none⟩=some (.int .u64 x290007_2):=(blk_cell BK289.out 7).trans rfl
         have hcz137_8:wr.cell? ⟨gb289,8,none⟩=some (.bool x290008_2):=(blk_cell BK289.out 8).trans rfl
         have hcz137_9:wr.cell? ⟨gb289,9,none⟩=some (.int .u64 x290009_2):=(blk_cell BK289.out 9).trans rfl
         have hcz137_10:wr.cell? ⟨gb289,10,none⟩=some (.bool x290010_2):=(blk_cell BK289.out 10).trans rfl
         have hcz137_11:wr.cell? ⟨gb289,11,none⟩=some (.int .u64 x290011_2):=(blk_cell BK289.out 11).trans rfl
         have hcz137_12:wr.cell? ⟨gb289,12,none⟩=some (.bool x290012_2):=(blk_cell BK289.out 12).trans rfl
         have hfz137_0:=blk_frozen BK289.out 0
         have hfz137_1:=blk_frozen BK289.out 1
         have hfz137_2:=blk_frozen BK289.out 2
         have hfz137_3:=blk_frozen BK289.out 3
         have hfz137_4:=blk_frozen BK289.out 4
         have hfz137_5:=blk_frozen BK289.out 5
         have hfz137_6:=blk_frozen BK289.out 6
         have hfz137_7:=blk_frozen BK289.out 7
         have hfz137_8:=blk_frozen BK289.out 8
         have hfz137_9:=blk_frozen BK289.out 9
         have hfz137_10:=blk_frozen BK289.out 10
         have hfz137_11:=blk_frozen BK289.out 11
         have hfz137_12:=blk_frozen BK289.out 12
         go_wp2_with (first | ((with_reducible refine gate_callee (f:=16) rfl ?_); refine goesL_ (some 125) rfl rfl Tryd.func16 (by kernel_rfl) rfl #[.agg #[.int .i64 x290000_2,.int .u64 x290001_2,.int .i64 x290002_2,.int .u64 x290003_2,.bool x290004_2,.int .u64 x290005_2,.bool x290006_2,.int .u64 x290007_2,.bool x290008_2,.int .u64 x290009_2,.bool x290010_2,.int .u64 x290011_2,.bool x290012_2],.int .u64 x11_2,.int .u64 x11_2] rfl (by (try simp only [List.map_toArray,List.map_cons,List.map_nil]); first | done | rfl | (simp only [List.length_drop,List.length_take]; rfl)) ?_; (with_reducible refine (rearm_Again.calls x290000_2 x290001_2 x290002_2 x290003_2 x290004_2 x290005_2 x290006_2 x290007_2 x290008_2 x290009_2 x290010_2 x290011_2 x290012_2 x11_2 x11_2 t290 t291 t292 t293 t294 t295 t296 t297 t298 t299 t300 t301 t302 t303 t304 t305 _ (hT.keep (by repeat (first | (with_reducible first | exact HB.out | apply below_alloc | apply pw_below_drewN | apply below_drew1 | refine below_set ?_ GE287.out | refine below_set ?_ GE289.out | refine below_set ?_ GE306.out | refine below_set ?_ GE325.out) | exact HB.out))) A134.out).mono ?_); rintro e w138 ⟨rfl,hb⟩; refine ⟨_,rfl,?_⟩; have n0_:=Aside0.mk (blk_below (g:=gb287) (o:=.cells #[.int .i64 a0_0,.int .u64 a0_1,.int .i64 a0_2,.int .u64 a0_3,.bool a0_4,.int .u64 a0_5,.bool a0_6,.int .u64 a0_7,.bool a0_8,.int .u64 a0_9,.bool a0_10,.int .u64 a0_11,.bool a0_12] 28 (0,0)) (by (with_reducible repeat (first | refine blk_drewN ?_ _ | refine blk_drew ?_ | refine blk_alloc ?_ _)); exact BK287.out) hb); have n1_:=Aside0.mk (blk_below (g:=gb289) (o:=.cells #[.int .i64 x290000_2,.int .u64 x290001_2,.int .i64 x290002_2,.int .u64 x290003_2,.bool x290004_2,.int .u64 x290005_2,.bool x290006_2,.int .u64 x290007_2,.bool x290008_2,.int .u64 x290009_2,.bool x290010_2,.int .u64 x290011_2,.bool x290012_2] 28 (0,0)) (by (with_reducible repeat (first | refine blk_drewN ?_ _ | refine blk_drew ?_ | refine blk_alloc ?_ _)); exact BK289.out) hb); have n2_:=Aside0.mk (below_step (by repeat (first | (with_reducible first | exact HB.out | apply below_alloc | apply pw_below_drewN | apply below_drew1 | refine below_set ?_ GE287.out | refine below_set ?_ GE289.out) | exact HB.out)) hb); clear BK287; clear BK289; clear HB; have BK287:=n0_; have BK289:=n1_; have HB:=n2_; clear n0_ n1_ n2_; (try clear hb); (try clear hb2); (try clear hk); (try clear hi)) | ((with_reducible refine gate_dst (N:=18) rfl ?_); (try (refine gate_guard (by rfl) ?_; dsimp only)); refine box_event ?hg (N:=18) ?hd (cs:=#[.int .i64 0,.int .u64 0,.int .i64 0,.int .u64 0,.bool false,.int .u64 0,.bool false,.int .u64 0,.bool false,.int .u64 0,.bool false,.int .u64 0,.bool false]) (t:=28) ?hr ?_; (case hd=>rfl); (case hg=>rfl); (case hr=>first | (go_simp; done) | (go_simp; rfl)); intro gb306 hg w139 hbox hb; have n0_:=Aside0.mk (blk_below (g:=gb287) (o:=.cells #[.int .i64 a0_0,.int .u64 a0_1,.int .i64 a0_2,.int .u64 a0_3,.bool a0_4,.int .u64 a0_5,.bool a0_6,.int .u64 a0_7,.bool a0_8,.int .u64 a0_9,.bool a0_10,.int .u64 a0_11,.bool a0_12] 28 (0,0)) (by (with_reducible repeat (first | refine blk_drewN ?_ _ | refine blk_drew ?_ | refine blk_alloc ?_ _)); exact BK287.out) hb); have n1_:=Aside0.mk (blk_below (g:=gb289) (o:=.cells #[.int .i64 x290000_2,.int .u64 x290001_2,.int .i64 x290002_2,.int .u64 x290003_2,.bool x290004_2,.int .u64 x290005_2,.bool x290006_2,.int .u64 x290007_2,.bool x290008_2,.int .u64 x290009_2,.bool x290010_2,.int .u64 x290011_2,.bool x290012_2] 28 (0,0)) (by (with_reducible repeat (first | refine blk_drewN ?_ _ | refine blk_drew ?_ | refine blk_alloc ?_ _)); exact BK289.out) hb); have n2_:=Aside0.mk (below_step (by repeat (first | (with_reducible first | exact HB.out | apply below_alloc | apply pw_below_drewN | apply below_drew1 | refine below_set ?_ GE287.out | refine below_set ?_ GE289.out) | exact HB.out)) hb); have n3_:=Aside0.mk (hbox); have n4_:=Aside0.mk ((by rw [hg]; exact (below_size (by repeat (first | (with_reducible first | exact HB.out | apply below_alloc | apply pw_below_drewN | apply below_drew1 | refine below_set ?_ GE287.out | refine below_set ?_ GE289.out) | exact HB.out))):w.heap.size≤gb306)); have n5_:=Aside0.mk ((by rw [hg]; exact (below_size (by repeat (first | (with_reducible first | exact HB.out | apply below_alloc | apply pw_below_drewN | apply below_drew1 | refine below_set ?_ GE287.out | refine below_set ?_ GE289.out) | exact HB.out))):w.heap.size≤gb306)); have n6_:=Aside0.mk ((by rw [hg]; exact Nat.ne_of_lt (blk_lt (g:=gb287) (o:=.cells #[.int .i64 a0_0,.int .u64 a0_1,.int .i64 a0_2,.int .u64 a0_3,.bool a0_4,.int .u64 a0_5,.bool a0_6,.int .u64 a0_7,.bool a0_8,.int .u64 a0_9,.bool a0_10,.int .u64 a0_11,.bool a0_12] 28 (0,0)) (by (with_reducible repeat (first | refine blk_drewN ?_ _ | refine blk_drew ?_ | refine blk_alloc ?_ _)); exact BK287.out)):gb287≠gb306)); have n7_:=Aside0.mk ((by rw [hg]; exact Nat.ne_of_gt (blk_lt (g:=gb287) (o:=.cells #[.int .i64 a0_0,.int .u64 a0_1,.int .i64 a0_2,.int .u64 a0_3,.bool a0_4,.int .u64 a0_5,.bool a0_6,.int .u64 a0_7,.bool a0_8,.int .u64 a0_9,.bool a0_10,.int .u64 a0_11,.bool a0_12] 28 (0,0)) (by (with_reducible repeat (first | refine blk_drewN ?_ _ | refine blk_drew ?_ | refine blk_alloc ?_ _)); exact BK287.out)):gb306≠gb287)); have n8_:=Aside0.mk ((by rw [hg]; exact Nat.ne_of_lt (blk_lt (g:=gb289) (o:=.cells #[.int .i64 x290000_2,.int .u64 x290001_2,.int .i64 x290002_2,.int .u64 x290003_2,.bool x290004_2,.int .u64 x290005_2,.bool x290006_2,.int .u64 x290007_2,.bool x290008_2,.int .u64 x290009_2,.bool x290010_2,.int .u64 x290011_2,.bool x290012_2] 28 (0,0)) (by (with_reducible repeat (first | refine blk_drewN ?_ _ | refine blk_drew ?_ | refine blk_alloc ?_ _)); exact BK289.out)):gb289≠gb306)); have n9_:=Aside0.mk ((by rw [hg]; exact Nat.ne_of_gt (blk_lt (g:=gb289) (o:=.cells #[.int .i64 x290000_2,.int .u64 x290001_2,.int .i64 x290002_2,.int .u64 x290003_2,.bool x290004_2,.int .u64 x290005_2,.bool x290006_2,.int .u64 x290007_2,.bool x290008_2,.int .u64 x290009_2,.bool x290010_2,.int .u64 x290011_2,.bool x290012_2] 28 (0,0)) (by (with_reducible repeat (first | refine blk_drewN ?_ _ | refine blk_drew ?_ | refine blk_alloc ?_ _)); exact BK289.out)):gb306≠gb289)); clear BK287; clear BK289; clear HB; have BK287:=n0_; have BK289:=n1_; have HB:=n2_; have BK306:=n3_; have GW306:=n4_; have GE306:=n5_; have NB287_306:=n6_; have NB306_287:=n7_; have NB289_306:=n8_; have NB306_289:=n9_; clear n0_ n1_ n2_ n3_ n4_ n5_ n6_ n7_ n8_ n9_; clear hb hbox hg; have hnb140:=NB306_287.out; have hnc140:=NB287_306.out; have hnb141:=NB306_289.out; have hnc141:=NB289_306.out; have hcz142_0:w139.cell? ⟨gb306,0,none⟩=some (.int .i64 0):=(blk_cell BK306.out 0).trans rfl; have hcz142_1:w139.cell? ⟨gb306,1,none⟩=some (.int .u64 0):=(blk_cell BK306.out 1).trans rfl; have hcz142_2:w139.cell? ⟨gb306,2,none⟩=some (.int .i64 0):=(blk_cell BK306.out 2).trans rfl; have hcz142_3:w139.cell? ⟨gb306,3,none⟩=some (.int .u64 0):=(blk_cell BK306.out 3).trans rfl; have hcz142_4:w139.cell? ⟨gb306,4,none⟩=some (.bool false):=(blk_cell BK306.out 4).trans rfl; have hcz142_5:w139.cell? ⟨gb306,5,none⟩=some (.int .u64 0):=(blk_cell BK306.out 5).trans rfl; have hcz142_6:w139.cell? ⟨gb306,6,none⟩=some (.bool false):=(blk_cell BK306.out 6).trans rfl; have hcz142_7:w139.cell? ⟨gb306,7,none⟩=some (.int .u64 0):=(blk_cell BK306.out 7).trans rfl; have hcz142_8:w139.cell? ⟨gb306,8,none⟩=some (.bool false):=(blk_cell BK306.out 8).trans rfl; have hcz142_9:w139.cell? ⟨gb306,9,none⟩=some (.int .u64 0):=(blk_cell BK306.out 9).trans rfl; have hcz142_10:w139.cell? ⟨gb306,10,none⟩=some (.bool false):=(blk_cell BK306.out 10).trans rfl; have hcz142_11:w139.cell? ⟨gb306,11,none⟩=some (.int .u64 0):=(blk_cell BK306.out 11).trans rfl; have hcz142_12:w139.cell? ⟨gb306,12,none⟩=some (.bool false):=(blk_cell BK306.out 12).trans rfl; have hfz142_0:=blk_frozen BK306.out 0; have hfz142_1:=blk_frozen BK306.out 1; have hfz142_2:=blk_frozen BK306.out 2; have hfz142_3:=blk_frozen BK306.out 3; have hfz142_4:=blk_frozen BK306.out 4; have hfz142_5:=blk_frozen BK306.out 5; have hfz142_6:=blk_frozen BK306.out 6; have hfz142_7:=blk_frozen BK306.out 7; have hfz142_8:=blk_frozen BK306.out 8; have hfz142_9:=blk_frozen BK306.out 9; have hfz142_10:=blk_frozen BK306.out 10; have hfz142_11:=blk_frozen BK306.out 11; have hfz142_12:=blk_frozen BK306.out 12))
         go_ret
         exact ⟨by first | rfl | (simp [errW_none,errW_some] <;> rfl) | (simp [*,errW_none,errW_some] <;> rfl),by repeat (first | (with_reducible first | exact HB.out | apply below_alloc | apply pw_below_drewN | apply below_drew1 | refine below_set ?_ GE287.out | refine below_set ?_ GE289.out | refine below_set ?_ GE306.out) | exact HB.out)⟩
        ·exact absurd rfl c135
 ·replace c6:=Bool.eq_false_iff.mpr c6
  subst c6
  have H1:(some false)=some true:=by rw [if_neg (show ¬ (false=true) by decide)] at H; exact H
  clear H
  have H:=H1
  clear H1
  exact absurd (Option.some.inj H) (by decide)
end Go.Proofs.YtepflnfnkfkldaaDoor.PRea
