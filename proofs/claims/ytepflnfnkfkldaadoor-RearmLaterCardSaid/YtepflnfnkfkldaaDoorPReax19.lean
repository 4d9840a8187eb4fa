-- Written by a program of this session (gprint.py) over the kit's print.
import Derived.Test.YtepflnfnkfkldaaDoorPReax0
import Derived.Test.YtepflnfnkfkldaaDoorPReax2
import Derived.Test.YtepflnfnkfkldaaDoorPReax4
import Derived.Test.YtepflnfnkfkldaaDoorPReax10
import Derived.Test.YtepflnfnkfkldaaDoorPReax11
import Derived.Test.YtepflnfnkfkldaaDoorPReax18
namespace Go.Proofs.YtepflnfnkfkldaaDoor.PRea
open Go.RowKit Go.Proofs.YtepflnfnkfkldaaDoorW.PrintWords Go.Proofs.YtepflnfnkfkldaaDoorW.PrintLast Go.Proofs.YtepflnfnkfkldaaDoorW.PrintMore
attribute [local go_sem] max2_int min2_int max_two min_two max_three min_three max_four min_four
set_option linter.unusedVariables false
set_option linter.unusedSimpArgs false
attribute [local go_sem high] eqA28
def complinelaw23_RearmLater.j0:Nat→Int→Int→Bool→Int→Int→Bool→Int→Int→Int→Int→Bool→Int→Bool→Int→Bool→Int→Bool→Int→Bool→Option (Bool)
 | 0,_,_,_,_,_,_,_,_,_,_,_,_,_,_,_,_,_,_,_=>none
 | k+1,x1,x2,x7,x8,x10,x56,x268000,x268001,x268002,x268003,x268004,x268005,x268006,x268007,x268008,x268009,x268010,x268011,x268012=>if x56=true then (some false) else (if x8=18446744073709551615 then (if x7=true then (some (x268000 == 1)) else (some false)) else (if x7=true then (if x8 > x2 then (if x268000=1 then (if x8 > x1 then (if x268001=0 then (none) else (if (Int.tmod (IntKind.u64.wrap (x8 - x1)) x268001)=0 then (some ((IntKind.u64.wrap (Int.tdiv (IntKind.u64.wrap (x8 - x1)) x268001)) == (IntKind.u64.wrap (x10+1)))) else (some false))) else (some false)) else (some true)) else (some false)) else (some false)))
def complinelaw23_RearmLater.f (k:Nat)(a0_0:Int)(a0_1:Int)(a0_2:Int)(a0_3:Int)(a0_4:Bool)(a0_5:Int)(a0_6:Bool)(a0_7:Int)(a0_8:Bool)(a0_9:Int)(a0_10:Bool)(a0_11:Int)(a0_12:Bool)(a1:Int)(a2:Int):Option (Bool):=(complinelaw23_works.f).bind fun t268=>(if t268=true then ((rearm_Again.f a0_0 a0_1 a0_2 a0_3 a0_4 a0_5 a0_6 a0_7 a0_8 a0_9 a0_10 a0_11 a0_12 a1 a2).bind fun bt269=>(if bt269.2.2.2.2.2.2.2.2.2.2.2.2.2.2.2=0 then ((rearm_Check.f k bt269.2.1 bt269.2.2.1 bt269.2.2.2.1 bt269.2.2.2.2.1 bt269.2.2.2.2.2.1 bt269.2.2.2.2.2.2.1 bt269.2.2.2.2.2.2.2.1 bt269.2.2.2.2.2.2.2.2.1 bt269.2.2.2.2.2.2.2.2.2.1 bt269.2.2.2.2.2.2.2.2.2.2.1 bt269.2.2.2.2.2.2.2.2.2.2.2.1 bt269.2.2.2.2.2.2.2.2.2.2.2.2.1 bt269.2.2.2.2.2.2.2.2.2.2.2.2.2.1).bind fun t286=>(if t286=0 then (if bt269.2.1=a0_0 then (complinelaw23_RearmLater.j0 k a1 a2 t268 bt269.1 bt269.2.2.2.2.2.2.2.2.2.2.2.2.2.2.1 (bt269.2.2.1 != a0_1) a0_0 a0_1 a0_2 a0_3 a0_4 a0_5 a0_6 a0_7 a0_8 a0_9 a0_10 a0_11 a0_12) else (complinelaw23_RearmLater.j0 k a1 a2 t268 bt269.1 bt269.2.2.2.2.2.2.2.2.2.2.2.2.2.2.1 true a0_0 a0_1 a0_2 a0_3 a0_4 a0_5 a0_6 a0_7 a0_8 a0_9 a0_10 a0_11 a0_12)) else (complinelaw23_RearmLater.j0 k a1 a2 t268 bt269.1 bt269.2.2.2.2.2.2.2.2.2.2.2.2.2.2.1 true a0_0 a0_1 a0_2 a0_3 a0_4 a0_5 a0_6 a0_7 a0_8 a0_9 a0_10 a0_11 a0_12))) else (if bt269.1=0 then (if (bt269.2.1 == 0 && (bt269.2.2.1 == 0 && (bt269.2.2.2.1 == 0 && (((bt269.2.2.2.2.1 == 0 && (!bt269.2.2.2.2.2.1)) && ((bt269.2.2.2.2.2.2.1 == 0 && (!bt269.2.2.2.2.2.2.2.1)) && ((bt269.2.2.2.2.2.2.2.2.1 == 0 && (!bt269.2.2.2.2.2.2.2.2.2.1)) && ((bt269.2.2.2.2.2.2.2.2.2.2.1 == 0 && (!bt269.2.2.2.2.2.2.2.2.2.2.2.1)) && ((bt269.2.2.2.2.2.2.2.2.2.2.2.2.1 == 0 && (!bt269.2.2.2.2.2.2.2.2.2.2.2.2.2.1)))))))))))=true then (some (bt269.2.2.2.2.2.2.2.2.2.2.2.2.2.2.1 == 0)) else (some false)) else (some false)))) else (some false))
set_option maxHeartbeats 8000000 in
set_option maxRecDepth 100000 in
theorem complinelaw23_RearmLater.calls (k:Nat)(a0_0:Int)(a0_1:Int)(a0_2:Int)(a0_3:Int)(a0_4:Bool)(a0_5:Int)(a0_6:Bool)(a0_7:Int)(a0_8:Bool)(a0_9:Int)(a0_10:Bool)(a0_11:Int)(a0_12:Bool)(a1:Int)(a2:Int)(r:Bool)(w:World)(hT:Tab w)(h:complinelaw23_RearmLater.f k a0_0 a0_1 a0_2 a0_3 a0_4 a0_5 a0_6 a0_7 a0_8 a0_9 a0_10 a0_11 a0_12 a1 a2=some r) :
  Calls Tryd.prog 5 #[.agg #[.int .i64 a0_0,.int .u64 a0_1,.int .i64 a0_2,.int .u64 a0_3,.bool a0_4,.int .u64 a0_5,.bool a0_6,.int .u64 a0_7,.bool a0_8,.int .u64 a0_9,.bool a0_10,.int .u64 a0_11,.bool a0_12],.int .u64 a1,.int .u64 a2] w fun e w'=>e=.returned (.bool r)∧Below w.heap.size w w':=by
 have hu28:=Tryd.underlying28
 have HB:=Aside0.mk (Below.refl w.heap.size w)
 have H:((complinelaw23_works.f).bind fun t268=>(if t268=true then ((rearm_Again.f a0_0 a0_1 a0_2 a0_3 a0_4 a0_5 a0_6 a0_7 a0_8 a0_9 a0_10 a0_11 a0_12 a1 a2).bind fun bt269=>(if bt269.2.2.2.2.2.2.2.2.2.2.2.2.2.2.2=0 then ((rearm_Check.f k bt269.2.1 bt269.2.2.1 bt269.2.2.2.1 bt269.2.2.2.2.1 bt269.2.2.2.2.2.1 bt269.2.2.2.2.2.2.1 bt269.2.2.2.2.2.2.2.1 bt269.2.2.2.2.2.2.2.2.1 bt269.2.2.2.2.2.2.2.2.2.1 bt269.2.2.2.2.2.2.2.2.2.2.1 bt269.2.2.2.2.2.2.2.2.2.2.2.1 bt269.2.2.2.2.2.2.2.2.2.2.2.2.1 bt269.2.2.2.2.2.2.2.2.2.2.2.2.2.1).bind fun t286=>(if t286=0 then (if bt269.2.1=a0_0 then (complinelaw23_RearmLater.j0 k a1 a2 t268 bt269.1 bt269.2.2.2.2.2.2.2.2.2.2.2.2.2.2.1 (bt269.2.2.1 != a0_1) a0_0 a0_1 a0_2 a0_3 a0_4 a0_5 a0_6 a0_7 a0_8 a0_9 a0_10 a0_11 a0_12) else (complinelaw23_RearmLater.j0 k a1 a2 t268 bt269.1 bt269.2.2.2.2.2.2.2.2.2.2.2.2.2.2.1 true a0_0 a0_1 a0_2 a0_3 a0_4 a0_5 a0_6 a0_7 a0_8 a0_9 a0_10 a0_11 a0_12)) else (complinelaw23_RearmLater.j0 k a1 a2 t268 bt269.1 bt269.2.2.2.2.2.2.2.2.2.2.2.2.2.2.1 true a0_0 a0_1 a0_2 a0_3 a0_4 a0_5 a0_6 a0_7 a0_8 a0_9 a0_10 a0_11 a0_12))) else (if bt269.1=0 then (if (bt269.2.1 == 0 && (bt269.2.2.1 == 0 && (bt269.2.2.2.1 == 0 && (((bt269.2.2.2.2.1 == 0 && (!bt269.2.2.2.2.2.1)) && ((bt269.2.2.2.2.2.2.1 == 0 && (!bt269.2.2.2.2.2.2.2.1)) && ((bt269.2.2.2.2.2.2.2.2.1 == 0 && (!bt269.2.2.2.2.2.2.2.2.2.1)) && ((bt269.2.2.2.2.2.2.2.2.2.2.1 == 0 && (!bt269.2.2.2.2.2.2.2.2.2.2.2.1)) && ((bt269.2.2.2.2.2.2.2.2.2.2.2.2.1 == 0 && (!bt269.2.2.2.2.2.2.2.2.2.2.2.2.2.1)))))))))))=true then (some (bt269.2.2.2.2.2.2.2.2.2.2.2.2.2.2.1 == 0)) else (some false)) else (some false)))) else (some false)))=some r:=h
 clear h
 replace H:=Option.bind_eq_some_iff.mp H
 obtain ⟨t268,A40,H⟩ :=H
 replace H:(if t268=true then ((rearm_Again.f a0_0 a0_1 a0_2 a0_3 a0_4 a0_5 a0_6 a0_7 a0_8 a0_9 a0_10 a0_11 a0_12 a1 a2).bind fun bt269=>(if bt269.2.2.2.2.2.2.2.2.2.2.2.2.2.2.2=0 then ((rearm_Check.f k bt269.2.1 bt269.2.2.1 bt269.2.2.2.1 bt269.2.2.2.2.1 bt269.2.2.2.2.2.1 bt269.2.2.2.2.2.2.1 bt269.2.2.2.2.2.2.2.1 bt269.2.2.2.2.2.2.2.2.1 bt269.2.2.2.2.2.2.2.2.2.1 bt269.2.2.2.2.2.2.2.2.2.2.1 bt269.2.2.2.2.2.2.2.2.2.2.2.1 bt269.2.2.2.2.2.2.2.2.2.2.2.2.1 bt269.2.2.2.2.2.2.2.2.2.2.2.2.2.1).bind fun t286=>(if t286=0 then (if bt269.2.1=a0_0 then (complinelaw23_RearmLater.j0 k a1 a2 t268 bt269.1 bt269.2.2.2.2.2.2.2.2.2.2.2.2.2.2.1 (bt269.2.2.1 != a0_1) a0_0 a0_1 a0_2 a0_3 a0_4 a0_5 a0_6 a0_7 a0_8 a0_9 a0_10 a0_11 a0_12) else (complinelaw23_RearmLater.j0 k a1 a2 t268 bt269.1 bt269.2.2.2.2.2.2.2.2.2.2.2.2.2.2.1 true a0_0 a0_1 a0_2 a0_3 a0_4 a0_5 a0_6 a0_7 a0_8 a0_9 a0_10 a0_11 a0_12)) else (complinelaw23_RearmLater.j0 k a1 a2 t268 bt269.1 bt269.2.2.2.2.2.2.2.2.2.2.2.2.2.2.1 true a0_0 a0_1 a0_2 a0_3 a0_4 a0_5 a0_6 a0_7 a0_8 a0_9 a0_10 a0_11 a0_12))) else (if bt269.1=0 then (if (bt269.2.1 == 0 && (bt269.2.2.1 == 0 && (bt269.2.2.2.1 == 0 && (((bt269.2.2.2.2.1 == 0 && (!bt269.2.2.2.2.2.1)) && ((bt269.2.2.2.2.2.2.1 == 0 && (!bt269.2.2.2.2.2.2.2.1)) && ((bt269.2.2.2.2.2.2.2.2.1 == 0 && (!bt269.2.2.2.2.2.2.2.2.2.1)) && ((bt269.2.2.2.2.2.2.2.2.2.2.1 == 0 && (!bt269.2.2.2.2.2.2.2.2.2.2.2.1)) && ((bt269.2.2.2.2.2.2.2.2.2.2.2.2.1 == 0 && (!bt269.2.2.2.2.2.2.2.2.2.2.2.2.2.1)))))))))))=true then (some (bt269.2.2.2.2.2.2.2.2.2.2.2.2.2.2.1 == 0)) else (some false)) else (some false)))) else (some false))=some r:=H
 have A4:=Aside0.mk A40
 clear A40
 by_cases c5:t268=true
 ·subst c5
  have H1:((rearm_Again.f a0_0 a0_1 a0_2 a0_3 a0_4 a0_5 a0_6 a0_7 a0_8 a0_9 a0_10 a0_11 a0_12 a1 a2).bind fun bt269=>(if bt269.2.2.2.2.2.2.2.2.2.2.2.2.2.2.2=0 then ((rearm_Check.f k bt269.2.1 bt269.2.2.1 bt269.2.2.2.1 bt269.2.2.2.2.1 bt269.2.2.2.2.2.1 bt269.2.2.2.2.2.2.1 bt269.2.2.2.2.2.2.2.1 bt269.2.2.2.2.2.2.2.2.1 bt269.2.2.2.2.2.2.2.2.2.1 bt269.2.2.2.2.2.2.2.2.2.2.1 bt269.2.2.2.2.2.2.2.2.2.2.2.1 bt269.2.2.2.2.2.2.2.2.2.2.2.2.1 bt269.2.2.2.2.2.2.2.2.2.2.2.2.2.1).bind fun t286=>(if t286=0 then (if bt269.2.1=a0_0 then (complinelaw23_RearmLater.j0 k a1 a2 true bt269.1 bt269.2.2.2.2.2.2.2.2.2.2.2.2.2.2.1 (bt269.2.2.1 != a0_1) a0_0 a0_1 a0_2 a0_3 a0_4 a0_5 a0_6 a0_7 a0_8 a0_9 a0_10 a0_11 a0_12) else (complinelaw23_RearmLater.j0 k a1 a2 true bt269.1 bt269.2.2.2.2.2.2.2.2.2.2.2.2.2.2.1 true a0_0 a0_1 a0_2 a0_3 a0_4 a0_5 a0_6 a0_7 a0_8 a0_9 a0_10 a0_11 a0_12)) else (complinelaw23_RearmLater.j0 k a1 a2 true bt269.1 bt269.2.2.2.2.2.2.2.2.2.2.2.2.2.2.1 true a0_0 a0_1 a0_2 a0_3 a0_4 a0_5 a0_6 a0_7 a0_8 a0_9 a0_10 a0_11 a0_12))) else (if bt269.1=0 then (if (bt269.2.1 == 0 && (bt269.2.2.1 == 0 && (bt269.2.2.2.1 == 0 && (((bt269.2.2.2.2.1 == 0 && (!bt269.2.2.2.2.2.1)) && ((bt269.2.2.2.2.2.2.1 == 0 && (!bt269.2.2.2.2.2.2.2.1)) && ((bt269.2.2.2.2.2.2.2.2.1 == 0 && (!bt269.2.2.2.2.2.2.2.2.2.1)) && ((bt269.2.2.2.2.2.2.2.2.2.2.1 == 0 && (!bt269.2.2.2.2.2.2.2.2.2.2.2.1)) && ((bt269.2.2.2.2.2.2.2.2.2.2.2.2.1 == 0 && (!bt269.2.2.2.2.2.2.2.2.2.2.2.2.2.1)))))))))))=true then (some (bt269.2.2.2.2.2.2.2.2.2.2.2.2.2.2.1 == 0)) else (some false)) else (some false))))=some r:=by rw [if_pos rfl] at H; exact H
  clear H
  have H:=H1
  clear H1
  replace H:=Option.bind_eq_some_iff.mp H
  obtain ⟨⟨t269,t270,t271,t272,t273,t274,t275,t276,t277,t278,t279,t280,t281,t282,t283,t284⟩,A60,H⟩ :=H
  replace H:(if t284=0 then ((rearm_Check.f k t270 t271 t272 t273 t274 t275 t276 t277 t278 t279 t280 t281 t282).bind fun t286=>(if t286=0 then (if t270=a0_0 then (complinelaw23_RearmLater.j0 k a1 a2 true t269 t283 (t271 != a0_1) a0_0 a0_1 a0_2 a0_3 a0_4 a0_5 a0_6 a0_7 a0_8 a0_9 a0_10 a0_11 a0_12) else (complinelaw23_RearmLater.j0 k a1 a2 true t269 t283 true a0_0 a0_1 a0_2 a0_3 a0_4 a0_5 a0_6 a0_7 a0_8 a0_9 a0_10 a0_11 a0_12)) else (complinelaw23_RearmLater.j0 k a1 a2 true t269 t283 true a0_0 a0_1 a0_2 a0_3 a0_4 a0_5 a0_6 a0_7 a0_8 a0_9 a0_10 a0_11 a0_12))) else (if t269=0 then (if (t270 == 0 && (t271 == 0 && (t272 == 0 && (((t273 == 0 && (!t274)) && ((t275 == 0 && (!t276)) && ((t277 == 0 && (!t278)) && ((t279 == 0 && (!t280)) && ((t281 == 0 && (!t282)))))))))))=true then (some (t283 == 0)) else (some false)) else (some false)))=some r:=H
  have A6:=Aside0.mk A60
  clear A60
  by_cases c7:t284=0
  ·rw [if_pos c7] at H
   have c7b0:(t284 == 0)=true:=beq_iff_eq.mpr c7
   have c7b1:(t284 != 0)=false:=bne_eq_false_iff_eq.mpr c7
   clear c7
   have HC8:=Aside0.mk H
   clear H
   go_enter Tryd.func5,Tryd.ntmps5
   go_upto_region 7 with (first | ((with_reducible refine gate_dst (N:=3) rfl ?_); refine box_event ?hg (N:=3) ?hd (cs:=#[.int .i64 a0_0,.int .u64 a0_1,.int .i64 a0_2,.int .u64 a0_3,.bool a0_4,.int .u64 a0_5,.bool a0_6,.int .u64 a0_7,.bool a0_8,.int .u64 a0_9,.bool a0_10,.int .u64 a0_11,.bool a0_12]) (t:=28) ?hr ?_; (case hd=>rfl); (case hg=>rfl); (case hr=>first | (go_simp; done) | (go_simp; rfl)); intro gb267 hg w9 hbox hb; have n0_:=Aside0.mk (below_step (by repeat (first | (with_reducible first | exact HB.out | apply below_alloc | apply pw_below_drewN | apply below_drew1) | exact HB.out)) hb); have n1_:=Aside0.mk (hbox); have n2_:=Aside0.mk ((by rw [hg]; exact (below_size (by repeat (first | (with_reducible first | exact HB.out | apply below_alloc | apply pw_below_drewN | apply below_drew1) | exact HB.out))):w.heap.size≤gb267)); have n3_:=Aside0.mk ((by rw [hg]; exact (below_size (by repeat (first | (with_reducible first | exact HB.out | apply below_alloc | apply pw_below_drewN | apply below_drew1) | exact HB.out))):w.heap.size≤gb267)); clear HB; have HB:=n0_; have BK267:=n1_; have GW267:=n2_; have GE267:=n3_; clear n0_ n1_ n2_ n3_; clear hb hbox hg) | ((with_reducible refine gate_callee (f:=9) rfl ?_); refine goesL_ (some 12) rfl rfl Tryd.func9 (by kernel_rfl) rfl #[] rfl (by (try simp only [List.map_toArray,List.map_cons,List.map_nil]); first | done | rfl | (simp only [List.length_drop,List.length_take]; rfl)) ?_; (with_reducible refine (complinelaw23_works.calls  true _ (hT.keep (by repeat (first | (with_reducible first | exact HB.out | apply below_alloc | apply pw_below_drewN | apply below_drew1 | refine below_set ?_ GE267.out | refine below_set ?_ GE285.out) | exact HB.out))) A4.out).mono ?_); rintro e w10 ⟨rfl,hb⟩; refine ⟨_,rfl,?_⟩; have n0_:=Aside0.mk (blk_below (g:=gb267) (o:=.cells #[.int .i64 a0_0,.int .u64 a0_1,.int .i64 a0_2,.int .u64 a0_3,.bool a0_4,.int .u64 a0_5,.bool a0_6,.int .u64 a0_7,.bool a0_8,.int .u64 a0_9,.bool a0_10,.int .u64 a0_11,.bool a0_12] 28 (0,0)) (by (with_reducible repeat (first | refine blk_drewN ?_ _ | refine blk_drew ?_ | refine blk_alloc ?_ _)); exact BK267.out) hb); have n1_:=Aside0.mk (below_step (by repeat (first | (with_reducible first | exact HB.out | apply below_alloc | apply pw_below_drewN | apply below_drew1 | refine below_set ?_ GE267.out) | exact HB.out)) hb); clear BK267; clear HB; have BK267:=n0_; have HB:=n1_; clear n0_ n1_; (try clear hb); (try clear hb2); (try clear hk); (try clear hi); have hcz11_0:w10.cell? ⟨gb267,0,none⟩=some (.int .i64 a0_0):=(blk_cell BK267.out 0).trans rfl; have hcz11_1:w10.cell? ⟨gb267,1,none⟩=some (.int .u64 a0_1):=(blk_cell BK267.out 1).trans rfl; have hcz11_2:w10.cell? ⟨gb267,2,none⟩=some (.int .i64 a0_2):=(blk_cell BK267.out 2).trans rfl; have hcz11_3:w10.cell? ⟨gb267,3,none⟩=some (.int .u64 a0_3):=(blk_cell BK267.out 3).trans rfl; have hcz11_4:w10.cell? ⟨gb267,4,none⟩=some (.bool a0_4):=(blk_cell BK267.out 4).trans rfl; have hcz11_5:w10.cell? ⟨gb267,5,none⟩=some (.int .u64 a0_5):=(blk_cell BK267.out 5).trans rfl; have hcz11_6:w10.cell? ⟨gb267,6,none⟩=some (.bool a0_6):=(blk_cell BK267.out 6).trans rfl; have hcz11_7:w10.cell? ⟨gb267,7,none⟩=some (.int .u64 a0_7):=(blk_cell BK267.out 7).trans rfl; have hcz11_8:w10.cell? ⟨gb267,8,none⟩=some (.bool a0_8):=(blk_cell BK267.out 8).trans rfl; have hcz11_9:w10.cell? ⟨gb267,9,none⟩=some (.int .u64 a0_9):=(blk_cell BK267.out 9).trans rfl; have hcz11_10:w10.cell? ⟨gb267,10,none⟩=some (.bool a0_10):=(blk_cell BK267.out 10).trans rfl; have hcz11_11:w10.cell? ⟨gb267,11,none⟩=some (.int .u64 a0_11):=(blk_cell BK267.out 11).trans rfl; have hcz11_12:w10.cell? ⟨gb267,12,none⟩=some (.bool a0_12):=(blk_cell BK267.out 12).trans rfl; have hfz11_0:=blk_frozen BK267.out 0; have hfz11_1:=blk_frozen BK267.out 1; have hfz11_2:=blk_frozen BK267.out 2; have hfz11_3:=blk_frozen BK267.out 3; have hfz11_4:=blk_frozen BK267.out 4; have hfz11_5:=blk_frozen BK267.out 5; have hfz11_6:=blk_frozen BK267.out 6; have hfz11_7:=blk_frozen BK267.out 7; have hfz11_8:=blk_frozen BK267.out 8; have hfz11_9:=blk_frozen BK267.out 9; have hfz11_10:=blk_frozen BK267.out 10; have hfz11_11:=blk_frozen BK267.out 11; have hfz11_12:=blk_frozen BK267.out 12) | ((with_reducible refine gate_callee (f:=16) rfl ?_); refine goesL_ (some 19) rfl rfl Tryd.func16 (by kernel_rfl) rfl #[.agg #[.int .i64 a0_0,.int .u64 a0_1,.int .i64 a0_2,.int .u64 a0_3,.bool a0_4,.int .u64 a0_5,.bool a0_6,.int .u64 a0_7,.bool a0_8,.int .u64 a0_9,.bool a0_10,.int .u64 a0_11,.bool a0_12],.int .u64 a1,.int .u64 a2] rfl (by (try simp only [List.map_toArray,List.map_cons,List.map_nil]); first | done | rfl | (simp only [List.length_drop,List.length_take]; rfl)) ?_; (with_reducible refine (rearm_Again.calls a0_0 a0_1 a0_2 a0_3 a0_4 a0_5 a0_6 a0_7 a0_8 a0_9 a0_10 a0_11 a0_12 a1 a2 t269 t270 t271 t272 t273 t274 t275 t276 t277 t278 t279 t280 t281 t282 t283 t284 _ (hT.keep (by repeat (first | (with_reducible first | exact HB.out | apply below_alloc | apply pw_below_drewN | apply below_drew1 | refine below_set ?_ GE267.out | refine below_set ?_ GE285.out) | exact HB.out))) A6.out).mono ?_); rintro e w12 ⟨rfl,hb⟩; refine ⟨_,rfl,?_⟩; have n0_:=Aside0.mk (blk_below (g:=gb267) (o:=.cells #[.int .i64 a0_0,.int .u64 a0_1,.int .i64 a0_2,.int .u64 a0_3,.bool a0_4,.int .u64 a0_5,.bool a0_6,.int .u64 a0_7,.bool a0_8,.int .u64 a0_9,.bool a0_10,.int .u64 a0_11,.bool a0_12] 28 (0,0)) (by (with_reducible repeat (first | refine blk_drewN ?_ _ | refine blk_drew ?_ | refine blk_alloc ?_ _)); exact BK267.out) hb); have n1_:=Aside0.mk (below_step (by repeat (first | (with_reducible first | exact HB.out | apply below_alloc | apply pw_below_drewN | apply below_drew1 | refine below_set ?_ GE267.out) | exact HB.out)) hb); clear BK267; clear HB; have BK267:=n0_; have HB:=n1_; clear n0_ n1_; (try clear hb); (try clear hb2); (try clear hk); (try clear hi)) | ((with_reducible refine gate_dst (N:=9) rfl ?_); refine box_event ?hg (N:=9) ?hd (cs:=#[.int .i64 0,.int .u64 0,.int .i64 0,.int .u64 0,.bool false,.int .u64 0,.bool false,.int .u64 0,.bool false,.int .u64 0,.bool false,.int .u64 0,.bool false]) (t:=28) ?hr ?_; (case hd=>rfl); (case hg=>rfl); (case hr=>first | (go_simp; done) | (go_simp; rfl)); intro gb285 hg w13 hbox hb; have n0_:=Aside0.mk (blk_below (g:=gb267) (o:=.cells #[.int .i64 a0_0,.int .u64 a0_1,.int .i64 a0_2,.int .u64 a0_3,.bool a0_4,.int .u64 a0_5,.bool a0_6,.int .u64 a0_7,.bool a0_8,.int .u64 a0_9,.bool a0_10,.int .u64 a0_11,.bool a0_12] 28 (0,0)) (by (with_reducible repeat (first | refine blk_drewN ?_ _ | refine blk_drew ?_ | refine blk_alloc ?_ _)); exact BK267.out) hb); have n1_:=Aside0.mk (below_step (by repeat (first | (with_reducible first | exact HB.out | apply below_alloc | apply pw_below_drewN | apply below_drew1 | refine below_set ?_ GE267.out) | exact HB.out)) hb); have n2_:=Aside0.mk (hbox); have n3_:=Aside0.mk ((by rw [hg]; exact (below_size (by repeat (first | (with_reducible first | exact HB.out | apply below_alloc | apply pw_below_drewN | apply below_drew1 | refine below_set ?_ GE267.out) | exact HB.out))):w.heap.size≤gb285)); have n4_:=Aside0.mk ((by rw [hg]; exact (below_size (by repeat (first | (with_reducible first | exact HB.out | apply below_alloc | apply pw_below_drewN | apply below_drew1 | refine below_set ?_ GE267.out) | exact HB.out))):w.heap.size≤gb285)); have n5_:=Aside0.mk ((by rw [hg]; exact Nat.ne_of_lt (blk_lt (g:=gb267) (o:=.cells #[.int .i64 a0_0,.int .u64 a0_1,.int .i64 a0_2,.int .u64 a0_3,.bool a0_4,.int .u64 a0_5,.bool a0_6,.int .u64 a0_7,.bool a0_8,.int .u64 a0_9,.bool a0_10,.int .u64 a0_11,.bool a0_12] 28 (0,0)) (by (with_reducible repeat (first | refine blk_drewN ?_ _ | refine blk_drew ?_ | refine blk_alloc ?_ _)); exact BK267.out)):gb267≠gb285)); have n6_:=Aside0.mk ((by rw [hg]; exact Nat.ne_of_gt (blk_lt (g:=gb267) (o:=.cells #[.int .i64 a0_0,.int .u64 a0_1,.int .i64 a0_2,.int .u64 a0_3,.bool a0_4,.int .u64 a0_5,.bool a0_6,.int .u64 a0_7,.bool a0_8,.int .u64 a0_9,.bool a0_10,.int .u64 a0_11,.bool a0_12] 28 (0,0)) (by (with_reducible repeat (first | refine blk_drewN ?_ _ | refine blk_drew ?_ | refine blk_alloc ?_ _)); exact BK267.out)):gb285≠gb267)); clear BK267; clear HB; have BK267:=n0_; have HB:=n1_; have BK285:=n2_; have GW285:=n3_; have GE285:=n4_; have NB267_285:=n5_; have NB285_267:=n6_; clear n0_ n1_ n2_ n3_ n4_ n5_ n6_; clear hb hbox hg; have hnb14:=NB285_267.out; have hnc14:=NB267_285.out; have hcz15_0:w13.cell? ⟨gb285,0,none⟩=some (.int .i64 0):=(blk_cell BK285.out 0).trans rfl; have hcz15_1:w13.cell? ⟨gb285,1,none⟩=some (.int .u64 0):=(blk_cell BK285.out 1).trans rfl; have hcz15_2:w13.cell? ⟨gb285,2,none⟩=some (.int .i64 0):=(blk_cell BK285.out 2).trans rfl; have hcz15_3:w13.cell? ⟨gb285,3,none⟩=some (.int .u64 0):=(blk_cell BK285.out 3).trans rfl; have hcz15_4:w13.cell? ⟨gb285,4,none⟩=some (.bool false):=(blk_cell BK285.out 4).trans rfl; have hcz15_5:w13.cell? ⟨gb285,5,none⟩=some (.int .u64 0):=(blk_cell BK285.out 5).trans rfl; have hcz15_6:w13.cell? ⟨gb285,6,none⟩=some (.bool false):=(blk_cell BK285.out 6).trans rfl; have hcz15_7:w13.cell? ⟨gb285,7,none⟩=some (.int .u64 0):=(blk_cell BK285.out 7).trans rfl; have hcz15_8:w13.cell? ⟨gb285,8,none⟩=some (.bool false):=(blk_cell BK285.out 8).trans rfl; have hcz15_9:w13.cell? ⟨gb285,9,none⟩=some (.int .u64 0):=(blk_cell BK285.out 9).trans rfl; have hcz15_10:w13.cell? ⟨gb285,10,none⟩=some (.bool false):=(blk_cell BK285.out 10).trans rfl; have hcz15_11:w13.cell? ⟨gb285,11,none⟩=some (.int .u64 0):=(blk_cell BK285.out 11).trans rfl; have hcz15_12:w13.cell? ⟨gb285,12,none⟩=some (.bool false):=(blk_cell BK285.out 12).trans rfl; have hfz15_0:=blk_frozen BK285.out 0; have hfz15_1:=blk_frozen BK285.out 1; have hfz15_2:=blk_frozen BK285.out 2; have hfz15_3:=blk_frozen BK285.out 3; have hfz15_4:=blk_frozen BK285.out 4; have hfz15_5:=blk_frozen BK285.out 5; have hfz15_6:=blk_frozen BK285.out 6; have hfz15_7:=blk_frozen BK285.out 7; have hfz15_8:=blk_frozen BK285.out 8; have hfz15_9:=blk_frozen BK285.out 9; have hfz15_10:=blk_frozen BK285.out 10; have hfz15_11:=blk_frozen BK285.out 11; have hfz15_12:=blk_frozen BK285.out 12))
   (try simp only [Act.put,List.setIfInBounds_toArray,List.set_cons_zero,List.set_cons_succ])
   go_cut [56] (fun v56 wc=>∃ (kq:Nat) (x56_7:Bool),v56=.bool x56_7∧Aside0 (complinelaw23_RearmLater.j0 kq a1 a2 true t269 t283 x56_7 a0_0 a0_1 a0_2 a0_3 a0_4 a0_5 a0_6 a0_7 a0_8 a0_9 a0_10 a0_11 a0_12=some r)∧Aside0 (kq≤k)∧Aside0 (wc.heap[gb267]?=some (.cells #[.int .i64 a0_0,.int .u64 a0_1,.int .i64 a0_2,.int .u64 a0_3,.bool a0_4,.int .u64 a0_5,.bool a0_6,.int .u64 a0_7,.bool a0_8,.int .u64 a0_9,.bool a0_10,.int .u64 a0_11,.bool a0_12] 28 (0,0)))∧Aside0 (wc.heap[gb285]?=some (.cells #[.int .i64 t270,.int .u64 t271,.int .i64 t272,.int .u64 t273,.bool t274,.int .u64 t275,.bool t276,.int .u64 t277,.bool t278,.int .u64 t279,.bool t280,.int .u64 t281,.bool t282] 28 (0,0)))∧Aside0 (Below w.heap.size w wc))
   case first=>
    have H:=HC8.out
    clear HC8
    replace H:=Option.bind_eq_some_iff.mp H
    obtain ⟨t286,A160,H⟩ :=H
    replace H:(if t286=0 then (if t270=a0_0 then (complinelaw23_RearmLater.j0 k a1 a2 true t269 t283 (t271 != a0_1) a0_0 a0_1 a0_2 a0_3 a0_4 a0_5 a0_6 a0_7 a0_8 a0_9 a0_10 a0_11 a0_12) else (complinelaw23_RearmLater.j0 k a1 a2 true t269 t283 true a0_0 a0_1 a0_2 a0_3 a0_4 a0_5 a0_6 a0_7 a0_8 a0_9 a0_10 a0_11 a0_12)) else (complinelaw23_RearmLater.j0 k a1 a2 true t269 t283 true a0_0 a0_1 a0_2 a0_3 a0_4 a0_5 a0_6 a0_7 a0_8 a0_9 a0_10 a0_11 a0_12))=some r:=H
    have A16:=Aside0.mk A160
    clear A160
    by_cases c17:t286=0
    ·rw [if_pos c17] at H
     have c17b0:(t286 == 0)=true:=beq_iff_eq.mpr c17
     have c17b1:(t286 != 0)=false:=bne_eq_false_iff_eq.mpr c17
     clear c17
     (first | rw [c17b0] | (simp only [i64_w,i32_w]; rw [c17b0]) | skip)
     by_cases c18:t270=a0_0
     ·rw [if_pos c18] at H
      have c18b0:(t270 == a0_0)=true:=beq_iff_eq.mpr c18
      have c18b1:(t270 != a0_0)=false:=bne_eq_false_iff_eq.mpr c18
      clear c18
      have H':=Aside0.mk H
      clear H
      have hnb19:=NB285_267.out
      have hnc19:=NB267_285.out
      have hcz20_0:w13.cell? ⟨gb285,0,none⟩=some (.int .i64 0):=(blk_cell BK285.out 0).trans rfl
      have hcz20_1:w13.cell? ⟨gb285,1,none⟩=some (.int .u64 0):=(blk_cell BK285.out 1).trans rfl
      have hcz20_2:w13.cell? ⟨gb285,2,none⟩=some (.int .i64 0):=(blk_cell BK285.out 2).trans rfl
      have hcz20_3:w13.cell? ⟨gb285,3,none⟩=some (.int .u64 0):=(blk_cell BK285.out 3).trans rfl
      have hcz20_4:w13.cell? ⟨gb285,4,none⟩=some (.bool false):=(blk_cell BK285.out 4).trans rfl
      have hcz20_5:w13.cell? ⟨gb285,5,none⟩=some (.int .u64 0):=(blk_cell BK285.out 5).trans rfl
      have hcz20_6:w13.cell? ⟨gb285,6,none⟩=some (.bool false):=(blk_cell BK285.out 6).trans rfl
      have hcz20_7:w13.cell? ⟨gb285,7,none⟩=some (.int .u64 0):=(blk_cell BK285.out 7).trans rfl
      have hcz20_8:w13.cell? ⟨gb285,8,none⟩=some (.bool false):=(blk_cell BK285.out 8).trans rfl
      have hcz20_9:w13.cell? ⟨gb285,9,none⟩=some (.int .u64 0):=(blk_cell BK285.out 9).trans rfl
      have hcz20_10:w13.cell? ⟨gb285,10,none⟩=some (.bool false):=(blk_cell BK285.out 10).trans rfl
      have hcz20_11:w13.cell? ⟨gb285,11,none⟩=some (.int .u64 0):=(blk_cell BK285.out 11).trans rfl
      have hcz20_12:w13.cell? ⟨gb285,12,none⟩=some (.bool false):=(blk_cell BK285.out 12).trans rfl
      have hfz20_0:=blk_frozen BK285.out 0
      have hfz20_1:=blk_frozen BK285.out 1
      have hfz20_2:=blk_frozen BK285.out 2
      have hfz20_3:=blk_frozen BK285.out 3
      have hfz20_4:=blk_frozen BK285.out 4
      have hfz20_5:=blk_frozen BK285.out 5
      have hfz20_6:=blk_frozen BK285.out 6
      have hfz20_7:=blk_frozen BK285.out 7
      have hfz20_8:=blk_frozen BK285.out 8
      have hfz20_9:=blk_frozen BK285.out 9
      have hfz20_10:=blk_frozen BK285.out 10
      have hfz20_11:=blk_frozen BK285.out 11
      have hfz20_12:=blk_frozen BK285.out 12
      go_wp2_with (first | ((with_reducible refine gate_callee (f:=14) rfl ?_); refine goesL_ (some 41) rfl rfl Tryd.func14 (by kernel_rfl) rfl #[.agg #[.int .i64 t270,.int .u64 t271,.int .i64 t272,.int .u64 t273,.bool t274,.int .u64 t275,.bool t276,.int .u64 t277,.bool t278,.int .u64 t279,.bool t280,.int .u64 t281,.bool t282]] rfl (by (try simp only [List.map_toArray,List.map_cons,List.map_nil]); first | done | rfl | (simp only [List.length_drop,List.length_take]; rfl)) ?_; (with_reducible refine (rearm_Check.calls k t270 t271 t272 t273 t274 t275 t276 t277 t278 t279 t280 t281 t282 t286 _ A16.out).mono ?_); rintro e w21 ⟨rfl,hb⟩; refine ⟨_,rfl,?_⟩; have n0_:=Aside0.mk (blk_below (g:=gb267) (o:=.cells #[.int .i64 a0_0,.int .u64 a0_1,.int .i64 a0_2,.int .u64 a0_3,.bool a0_4,.int .u64 a0_5,.bool a0_6,.int .u64 a0_7,.bool a0_8,.int .u64 a0_9,.bool a0_10,.int .u64 a0_11,.bool a0_12] 28 (0,0)) (by (with_reducible repeat (first | refine blk_drewN ?_ _ | refine blk_drew ?_ | refine blk_alloc ?_ _)); refine blk_far ?_ NB267_285.out _; (with_reducible repeat (first | refine blk_drewN ?_ _ | refine blk_drew ?_ | refine blk_alloc ?_ _)); refine blk_far ?_ NB267_285.out _; (with_reducible repeat (first | refine blk_drewN ?_ _ | refine blk_drew ?_ | refine blk_alloc ?_ _)); refine blk_far ?_ NB267_285.out _; (with_reducible repeat (first | refine blk_drewN ?_ _ | refine blk_drew ?_ | refine blk_alloc ?_ _)); refine blk_far ?_ NB267_285.out _; (with_reducible repeat (first | refine blk_drewN ?_ _ | refine blk_drew ?_ | refine blk_alloc ?_ _)); refine blk_far ?_ NB267_285.out _; (with_reducible repeat (first | refine blk_drewN ?_ _ | refine blk_drew ?_ | refine blk_alloc ?_ _)); refine blk_far ?_ NB267_285.out _; (with_reducible repeat (first | refine blk_drewN ?_ _ | refine blk_drew ?_ | refine blk_alloc ?_ _)); refine blk_far ?_ NB267_285.out _; (with_reducible repeat (first | refine blk_drewN ?_ _ | refine blk_drew ?_ | refine blk_alloc ?_ _)); refine blk_far ?_ NB267_285.out _; (with_reducible repeat (first | refine blk_drewN ?_ _ | refine blk_drew ?_ | refine blk_alloc ?_ _)); refine blk_far ?_ NB267_285.out _; (with_reducible repeat (first | refine blk_drewN ?_ _ | refine blk_drew ?_ | refine blk_alloc ?_ _)); refine blk_far ?_ NB267_285.out _; (with_reducible repeat (first | refine blk_drewN ?_ _ | refine blk_drew ?_ | refine blk_alloc ?_ _)); refine blk_far ?_ NB267_285.out _; (with_reducible repeat (first | refine blk_drewN ?_ _ | refine blk_drew ?_ | refine blk_alloc ?_ _)); refine blk_far ?_ NB267_285.out _; (with_reducible repeat (first | refine blk_drewN ?_ _ | refine blk_drew ?_ | refine blk_alloc ?_ _)); refine blk_far ?_ NB267_285.out _; (with_reducible repeat (first | refine blk_drewN ?_ _ | refine blk_drew ?_ | refine blk_alloc ?_ _)); exact BK267.out) hb); have n1_:=Aside0.mk (blk_below (g:=gb285) (o:=.cells #[.int .i64 t270,.int .u64 t271,.int .i64 t272,.int .u64 t273,.bool t274,.int .u64 t275,.bool t276,.int .u64 t277,.bool t278,.int .u64 t279,.bool t280,.int .u64 t281,.bool t282] 28 (0,0)) (by (with_reducible repeat (first | refine blk_drewN ?_ _ | refine blk_drew ?_ | refine blk_alloc ?_ _)); refine blk_put (cs:=#[.int .i64 t270,.int .u64 t271,.int .i64 t272,.int .u64 t273,.bool t274,.int .u64 t275,.bool t276,.int .u64 t277,.bool t278,.int .u64 t279,.bool t280,.int .u64 t281,.bool false]) ?_ 12 _ rfl; (with_reducible repeat (first | refine blk_drewN ?_ _ | refine blk_drew ?_ | refine blk_alloc ?_ _)); refine blk_put (cs:=#[.int .i64 t270,.int .u64 t271,.int .i64 t272,.int .u64 t273,.bool t274,.int .u64 t275,.bool t276,.int .u64 t277,.bool t278,.int .u64 t279,.bool t280,.int .u64 0,.bool false]) ?_ 11 _ rfl; (with_reducible repeat (first | refine blk_drewN ?_ _ | refine blk_drew ?_ | refine blk_alloc ?_ _)); refine blk_put (cs:=#[.int .i64 t270,.int .u64 t271,.int .i64 t272,.int .u64 t273,.bool t274,.int .u64 t275,.bool t276,.int .u64 t277,.bool t278,.int .u64 t279,.bool false,.int .u64 0,.bool false]) ?_ 10 _ rfl; (with_reducible repeat (first | refine blk_drewN ?_ _ | refine blk_drew ?_ | refine blk_alloc ?_ _)); refine blk_put (cs:=#[.int .i64 t270,.int .u64 t271,.int .i64 t272,.int .u64 t273,.bool t274,.int .u64 t275,.bool t276,.int .u64 t277,.bool t278,.int .u64 0,.bool false,.int .u64 0,.bool false]) ?_ 9 _ rfl; (with_reducible repeat (first | refine blk_drewN ?_ _ | refine blk_drew ?_ | refine blk_alloc ?_ _)); refine blk_put (cs:=#[.int .i64 t270,.int .u64 t271,.int .i64 t272,.int .u64 t273,.bool t274,.int .u64 t275,.bool t276,.int .u64 t277,.bool false,.int .u64 0,.bool false,.int .u64 0,.bool false]) ?_ 8 _ rfl; (with_reducible repeat (first | refine blk_drewN ?_ _ | refine blk_drew ?_ | refine blk_alloc ?_ _)); refine blk_put (cs:=#[.int .i64 t270,.int .u64 t271,.int .i64 t272,.int .u64 t273,.bool t274,.int .u64 t275,.bool t276,.int .u64 0,.bool false,.int .u64 0,.bool false,.int .u64 0,.bool false]) ?_ 7 _ rfl; (with_reducible repeat (first | refine blk_drewN ?_ _ | refine blk_drew ?_ | refine blk_alloc ?_ _)); refine blk_put (cs:=#[.int .i64 t270,.int .u64 t271,.int .i64 t272,.int .u64 t273,.bool t274,.int .u64 t275,.bool false,.int .u64 0,.bool false,.int .u64 0,.bool false,.int .u64 0,.bool false]) ?_ 6 _ rfl; (with_reducible repeat (first | refine blk_drewN ?_ _ | refine blk_drew ?_ | refine blk_alloc ?_ _)); refine blk_put (cs:=#[.int .i64 t270,.int .u64 t271,.int .i64 t272,.int .u64 t273,.bool t274,.int .u64 0,.bool false,.int .u64 0,.bool false,.int .u64 0,.bool false,.int .u64 0,.bool false]) ?_ 5 _ rfl; (with_reducible repeat (first | refine blk_drewN ?_ _ | refine blk_drew ?_ | refine blk_alloc ?_ _)); refine blk_put (cs:=#[.int .i64 t270,.int .u64 t271,.int .i64 t272,.int .u64 t273,.bool false,.int .u64 0,.bool false,.int .u64 0,.bool false,.int .u64 0,.bool false,.int .u64 0,.bool false]) ?_ 4 _ rfl; (with_reducible repeat (first | refine blk_drewN ?_ _ | refine blk_drew ?_ | refine blk_alloc ?_ _)); refine blk_put (cs:=#[.int .i64 t270,.int .u64 t271,.int .i64 t272,.int .u64 0,.bool false,.int .u64 0,.bool false,.int .u64 0,.bool false,.int .u64 0,.bool false,.int .u64 0,.bool false]) ?_ 3 _ rfl; (with_reducible repeat (first | refine blk_drewN ?_ _ | refine blk_drew ?_ | refine blk_alloc ?_ _)); refine blk_put (cs:=#[.int .i64 t270,.int .u64 t271,.int .i64 0,.int .u64 0,.bool false,.int .u64 0,.bool false,.int .u64 0,.bool false,.int .u64 0,.bool false,.int .u64 0,.bool false]) ?_ 2 _ rfl; (with_reducible repeat (first | refine blk_drewN ?_ _ | refine blk_drew ?_ | refine blk_alloc ?_ _)); refine blk_put (cs:=#[.int .i64 t270,.int .u64 0,.int .i64 0,.int .u64 0,.bool false,.int .u64 0,.bool false,.int .u64 0,.bool false,.int .u64 0,.bool false,.int .u64 0,.bool false]) ?_ 1 _ rfl; (with_reducible repeat (first | refine blk_drewN ?_ _ | refine blk_drew ?_ | refine blk_alloc ?_ _)); refine blk_put (cs:=#[.int .i64 0,.int .u64 0,.int .i64 0,.int .u64 0,.bool false,.int .u64 0,.bool false,.int .u64 0,.bool false,.int .u64 0,.bool false,.int .u64 0,.bool false]) ?_ 0 _ rfl; (with_reducible repeat (first | refine blk_drewN ?_ _ | refine blk_drew ?_ | refine blk_alloc ?_ _)); exact BK285.out) hb); have n2_:=Aside0.mk (below_step (by repeat (first | (with_reducible first | exact HB.out | apply below_alloc | apply pw_below_drewN | apply below_drew1 | refine below_set ?_ GE267.out | refine below_set ?_ GE285.out) | exact HB.out)) hb); clear BK267; clear BK285; clear HB; have BK267:=n0_; have BK285:=n1_; have HB:=n2_; clear n0_ n1_ n2_; (try clear hb); (try clear hb2); (try clear hk); (try clear hi); have hcz22_0:w21.cell? ⟨gb285,0,none⟩=some (.int .i64 t270):=(blk_cell BK285.out 0).trans rfl; have hcz22_1:w21.cell? ⟨gb285,1,none⟩=some (.int .u64 t271):=(blk_cell BK285.out 1).trans rfl; have hcz22_2:w21.cell? ⟨gb285,2,none⟩=some (.int .i64 t272):=(blk_cell BK285.out 2).trans rfl; have hcz22_3:w21.cell? ⟨gb285,3,none⟩=some (.int .u64 t273):=(blk_cell BK285.out 3).trans rfl; have hcz22_4:w21.cell? ⟨gb285,4,none⟩=some (.bool t274):=(blk_cell BK285.out 4).trans rfl; have hcz22_5:w21.cell? ⟨gb285,5,none⟩=some (.int .u64 t275):=(blk_cell BK285.out 5).trans rfl; have hcz22_6:w21.cell? ⟨gb285,6,none⟩=some (.bool t276):=(blk_cell BK285.out 6).trans rfl; have hcz22_7:w21.cell? ⟨gb285,7,none⟩=some (.int .u64 t277):=(blk_cell BK285.out 7).trans rfl; have hcz22_8:w21.cell? ⟨gb285,8,none⟩=some (.bool t278):=(blk_cell BK285.out 8).trans rfl; have hcz22_9:w21.cell? ⟨gb285,9,none⟩=some (.int .u64 t279):=(blk_cell BK285.out 9).trans rfl; have hcz22_10:w21.cell? ⟨gb285,10,none⟩=some (.bool t280):=(blk_cell BK285.out 10).trans rfl; have hcz22_11:w21.cell? ⟨gb285,11,none⟩=some (.int .u64 t281):=(blk_cell BK285.out 11).trans rfl; have hcz22_12:w21.cell? ⟨gb285,12,none⟩=some (.bool t282):=(blk_cell BK285.out 12).trans rfl; have hfz22_0:=blk_frozen BK285.out 0; have hfz22_1:=blk_frozen BK285.out 1; have hfz22_2:=blk_frozen BK285.out 2; have hfz22_3:=blk_frozen BK285.out 3; have hfz22_4:=blk_frozen BK285.out 4; have hfz22_5:=blk_frozen BK285.out 5; have hfz22_6:=blk_frozen BK285.out 6; have hfz22_7:=blk_frozen BK285.out 7; have hfz22_8:=blk_frozen BK285.out 8; have hfz22_9:=blk_frozen BK285.out 9; have hfz22_10:=blk_frozen BK285.out 10; have hfz22_11:=blk_frozen BK285.out 11; have hfz22_12:=blk_frozen BK285.out 12; have hcz23_0:w21.cell? ⟨gb267,0,none⟩=some (.int .i64 a0_0):=(blk_cell BK267.out 0).trans rfl; have hcz23_1:w21.cell? ⟨gb267,1,none⟩=some (.int .u64 a0_1):=(blk_cell BK267.out 1).trans rfl; have hcz23_2:w21.cell? ⟨gb267,2,none⟩=some (.int .i64 a0_2):=(blk_cell BK267.out 2).trans rfl; have hcz23_3:w21.cell? ⟨gb267,3,none⟩=some (.int .u64 a0_3):=(blk_cell BK267.out 3).trans rfl; have hcz23_4:w21.cell? ⟨gb267,4,none⟩=some (.bool a0_4):=(blk_cell BK267.out 4).trans rfl; have hcz23_5:w21.cell? ⟨gb267,5,none⟩=some (.int .u64 a0_5):=(blk_cell BK267.out 5).trans rfl; have hcz23_6:w21.cell? ⟨gb267,6,none⟩=some (.bool a0_6):=(blk_cell BK267.out 6).trans rfl; have hcz23_7:w21.cell? ⟨gb267,7,none⟩=some (.int .u64 a0_7):=(blk_cell BK267.out 7).trans rfl; have hcz23_8:w21.cell? ⟨gb267,8,none⟩=some (.bool a0_8):=(blk_cell BK267.out 8).trans rfl; have hcz23_9:w21.cell? ⟨gb267,9,none⟩=some (.int .u64 a0_9):=(blk_cell BK267.out 9).trans rfl; have hcz23_10:w21.cell? ⟨gb267,10,none⟩=some (.bool a0_10):=(blk_cell BK267.out 10).trans rfl; have hcz23_11:w21.cell? ⟨gb267,11,none⟩=some (.int .u64 a0_11):=(blk_cell BK267.out 11).trans rfl; have hcz23_12:w21.cell? ⟨gb267,12,none⟩=some (.bool a0_12):=(blk_cell BK267.out 12).trans rfl; have hfz23_0:=blk_frozen BK267.out 0; have hfz23_1:=blk_frozen BK267.out 1; have hfz23_2:=blk_frozen BK267.out 2; have hfz23_3:=blk_frozen BK267.out 3; have hfz23_4:=blk_frozen BK267.out 4; have hfz23_5:=blk_frozen BK267.out 5; have hfz23_6:=blk_frozen BK267.out 6; have hfz23_7:=blk_frozen BK267.out 7; have hfz23_8:=blk_frozen BK267.out 8; have hfz23_9:=blk_frozen BK267.out 9; have hfz23_10:=blk_frozen BK267.out 10; have hfz23_11:=blk_frozen BK267.out 11; have hfz23_12:=blk_frozen BK267.out 12))
      go_meet
      case rel=>exact ⟨_,((t271 != a0_1)),(by first | rfl | (simp; done) | (simp [*]; done)),H',⟨by first | omega | exact Nat.le_refl _⟩,⟨by (with_reducible repeat (first | refine blk_drewN ?_ _ | refine blk_drew ?_ | refine blk_alloc ?_ _)); exact BK267.out⟩,⟨by (with_reducible repeat (first | refine blk_drewN ?_ _ | refine blk_drew ?_ | refine blk_alloc ?_ _)); exact BK285.out⟩,⟨by repeat (first | (with_reducible first | exact HB.out | apply below_alloc | apply pw_below_drewN | apply below_drew1 | refine below_set ?_ GE267.out | refine below_set ?_ GE285.out) | exact HB.out)⟩⟩
     ·rw [if_neg c18] at H
      have c18b0:(t270 == a0_0)=false:=beq_eq_false_iff_ne.mpr c18
      have c18b1:(t270 != a0_0)=true:=bne_iff_ne.mpr c18
      have H':=Aside0.mk H
      clear H
      have hnb24:=NB285_267.out
      have hnc24:=NB267_285.out
      have hcz25_0:w13.cell? ⟨gb285,0,none⟩=some (.int .i64 0):=(blk_cell BK285.out 0).trans rfl
      have hcz25_1:w13.cell? ⟨gb285,1,none⟩=some (.int .u64 0):=(blk_cell BK285.out 1).trans rfl
      have hcz25_2:w13.cell? ⟨gb285,2,none⟩=some (.int .i64 0):=(blk_cell BK285.out 2).trans rfl
      have hcz25_3:w13.cell? ⟨gb285,3,none⟩=some (.int .u64 0):=(blk_cell BK285.out 3).trans rfl
      have hcz25_4:w13.cell? ⟨gb285,4,none⟩=some (.bool false):=(blk_cell BK285.out 4).trans rfl
      have hcz25_5:w13.cell? ⟨gb285,5,none⟩=some (.int .u64 0):=(blk_cell BK285.out 5).trans rfl
      have hcz25_6:w13.cell? ⟨gb285,6,none⟩=some (.bool false):=(blk_cell BK285.out 6).trans rfl
      have hcz25_7:w13.cell? ⟨gb285,7,none⟩=some (.int .u64 0):=(blk_cell BK285.out 7).trans rfl
      have hcz25_8:w13.cell? ⟨gb285,8,none⟩=some (.bool false):=(blk_cell BK285.out 8).trans rfl
      have hcz25_9:w13.cell? ⟨gb285,9,none⟩=some (.int .u64 0):=(blk_cell BK285.out 9).trans rfl
      have hcz25_10:w13.cell? ⟨gb285,10,none⟩=some (.bool false):=(blk_cell BK285.out 10).trans rfl
      have hcz25_11:w13.cell? ⟨gb285,11,none⟩=some (.int .u64 0):=(blk_cell BK285.out 11).trans rfl
      have hcz25_12:w13.cell? ⟨gb285,12,none⟩=some (.bool false):=(blk_cell BK285.out 12).trans rfl
      have hfz25_0:=blk_frozen BK285.out 0
      have hfz25_1:=blk_frozen BK285.out 1
      have hfz25_2:=blk_frozen BK285.out 2
      have hfz25_3:=blk_frozen BK285.out 3
      have hfz25_4:=blk_frozen BK285.out 4
      have hfz25_5:=blk_frozen BK285.out 5
      have hfz25_6:=blk_frozen BK285.out 6
      have hfz25_7:=blk_frozen BK285.out 7
      have hfz25_8:=blk_frozen BK285.out 8
      have hfz25_9:=blk_frozen BK285.out 9
      have hfz25_10:=blk_frozen BK285.out 10
      have hfz25_11:=blk_frozen BK285.out 11
      have hfz25_12:=blk_frozen BK285.out 12
      go_wp2_with (first | ((with_reducible refine gate_callee (f:=14) rfl ?_); refine goesL_ (some 41) rfl rfl Tryd.func14 (by kernel_rfl) rfl #[.agg #[.int .i64 t270,.int .u64 t271,.int .i64 t272,.int .u64 t273,.bool t274,.int .u64 t275,.bool t276,.int .u64 t277,.bool t278,.int .u64 t279,.bool t280,.int .u64 t281,.bool t282]] rfl (by (try simp only [List.map_toArray,List.map_cons,List.map_nil]); first | done | rfl | (simp only [List.length_drop,List.length_take]; rfl)) ?_; (with_reducible refine (rearm_Check.calls k t270 t271 t272 t273 t274 t275 t276 t277 t278 t279 t280 t281 t282 t286 _ A16.out).mono ?_); rintro e w26 ⟨rfl,hb⟩; refine ⟨_,rfl,?_⟩; have n0_:=Aside0.mk (blk_below (g:=gb267) (o:=.cells #[.int .i64 a0_0,.int .u64 a0_1,.int .i64 a0_2,.int .u64 a0_3,.bool a0_4,.int .u64 a0_5,.bool a0_6,.int .u64 a0_7,.bool a0_8,.int .u64 a0_9,.bool a0_10,.int .u64 a0_11,.bool a0_12] 28 (0,0)) (by (with_reducible repeat (first | refine blk_drewN ?_ _ | refine blk_drew ?_ | refine blk_alloc ?_ _)); refine blk_far ?_ NB267_285.out _; (with_reducible repeat (first | refine blk_drewN ?_ _ | refine blk_drew ?_ | refine blk_alloc ?_ _)); refine blk_far ?_ NB267_285.out _; (with_reducible repeat (first | refine blk_drewN ?_ _ | refine blk_drew ?_ | refine blk_alloc ?_ _)); refine blk_far ?_ NB267_285.out _; (with_reducible repeat (first | refine blk_drewN ?_ _ | refine blk_drew ?_ | refine blk_alloc ?_ _)); refine blk_far ?_ NB267_285.out _; (with_reducible repeat (first | refine blk_drewN ?_ _ | refine blk_drew ?_ | refine blk_alloc ?_ _)); refine blk_far ?_ NB267_285.out _; (with_reducible repeat (first | refine blk_drewN ?_ _ | refine blk_drew ?_ | refine blk_alloc ?_ _)); refine blk_far ?_ NB267_285.out _; (with_reducible repeat (first | refine blk_drewN ?_ _ | refine blk_drew ?_ | refine blk_alloc ?_ _)); refine blk_far ?_ NB267_285.out _; (with_reducible repeat (first | refine blk_drewN ?_ _ | refine blk_drew ?_ | refine blk_alloc ?_ _)); refine blk_far ?_ NB267_285.out _; (with_reducible repeat (first | refine blk_drewN ?_ _ | refine blk_drew ?_ | refine blk_alloc ?_ _)); refine blk_far ?_ NB267_285.out _; (with_reducible repeat (first | refine blk_drewN ?_ _ | refine blk_drew ?_ | refine blk_alloc ?_ _)); refine blk_far ?_ NB267_285.out _; (with_reducible repeat (first | refine blk_drewN ?_ _ | refine blk_drew ?_ | refine blk_alloc ?_ _)); refine blk_far ?_ NB267_285.out _; (with_reducible repeat (first | refine blk_drewN ?_ _ | refine blk_drew ?_ | refine blk_alloc ?_ _)); refine blk_far ?_ NB267_285.out _; (with_reducible repeat (first | refine blk_drewN ?_ _ | refine blk_drew ?_ | refine blk_alloc ?_ _)); refine blk_far ?_ NB267_285.out _; (with_reducible repeat (first | refine blk_drewN ?_ _ | refine blk_drew ?_ | refine blk_alloc ?_ _)); exact BK267.out) hb); have n1_:=Aside0.mk (blk_below (g:=gb285) (o:=.cells #[.int .i64 t270,.int .u64 t271,.int .i64 t272,.int .u64 t273,.bool t274,.int .u64 t275,.bool t276,.int .u64 t277,.bool t278,.int .u64 t279,.bool t280,.int .u64 t281,.bool t282] 28 (0,0)) (by (with_reducible repeat (first | refine blk_drewN ?_ _ | refine blk_drew ?_ | refine blk_alloc ?_ _)); refine blk_put (cs:=#[.int .i64 t270,.int .u64 t271,.int .i64 t272,.int .u64 t273,.bool t274,.int .u64 t275,.bool t276,.int .u64 t277,.bool t278,.int .u64 t279,.bool t280,.int .u64 t281,.bool false]) ?_ 12 _ rfl; (with_reducible repeat (first | refine blk_drewN ?_ _ | refine blk_drew ?_ | refine blk_alloc ?_ _)); refine blk_put (cs:=#[.int .i64 t270,.int .u64 t271,.int .i64 t272,.int .u64 t273,.bool t274,.int .u64 t275,.bool t276,.int .u64 t277,.bool t278,.int .u64 t279,.bool t280,.int .u64 0,.bool false]) ?_ 11 _ rfl; (with_reducible repeat (first | refine blk_drewN ?_ _ | refine blk_drew ?_ | refine blk_alloc ?_ _)); refine blk_put (cs:=#[.int .i64 t270,.int .u64 t271,.int .i64 t272,.int .u64 t273,.bool t274,.int .u64 t275,.bool t276,.int .u64 t277,.bool t278,.int .u64 t279,.bool false,.int .u64 0,.bool false]) ?_ 10 _ rfl; (with_reducible repeat (first | refine blk_drewN ?_ _ | refine blk_drew ?_ | refine blk_alloc ?_ _)); refine blk_put (cs:=#[.int .i64 t270,.int .u64 t271,.int .i64 t272,.int .u64 t273,.bool t274,.int .u64 t275,.bool t276,.int .u64 t277,.bool t278,.int .u64 0,.bool false,.int .u64 0,.bool false]) ?_ 9 _ rfl; (with_reducible repeat (first | refine blk_drewN ?_ _ | refine blk_drew ?_ | refine blk_alloc ?_ _)); refine blk_put (cs:=#[.int .i64 t270,.int .u64 t271,.int .i64 t272,.int .u64 t273,.bool t274,.int .u64 t275,.bool t276,.int .u64 t277,.bool false,.int .u64 0,.bool false,.int .u64 0,.bool false]) ?_ 8 _ rfl; (with_reducible repeat (first | refine blk_drewN ?_ _ | refine blk_drew ?_ | refine blk_alloc ?_ _)); refine blk_put (cs:=#[.int .i64 t270,.int .u64 t271,.int .i64 t272,.int .u64 t273,.bool t274,.int .u64 t275,.bool t276,.int .u64 0,.bool false,.int .u64 0,.bool false,.int .u64 0,.bool false]) ?_ 7 _ rfl; (with_reducible repeat (first | refine blk_drewN ?_ _ | refine blk_drew ?_ | refine blk_alloc ?_ _)); refine blk_put (cs:=#[.int .i64 t270,.int .u64 t271,.int .i64 t272,.int .u64 t273,.bool t274,.int .u64 t275,.bool false,.int .u64 0,.bool false,.int .u64 0,.bool false,.int .u64 0,.bool false]) ?_ 6 _ rfl; (with_reducible repeat (first | refine blk_drewN ?_ _ | refine blk_drew ?_ | refine blk_alloc ?_ _)); refine blk_put (cs:=#[.int .i64 t270,.int .u64 t271,.int .i64 t272,.int .u64 t273,.bool t274,.int .u64 0,.bool false,.int .u64 0,.bool false,.int .u64 0,.bool false,.int .u64 0,.bool false]) ?_ 5 _ rfl; (with_reducible repeat (first | refine blk_drewN ?_ _ | refine blk_drew ?_ | refine blk_alloc ?_ _)); refine blk_put (cs:=#[.int .i64 t270,.int .u64 t271,.int .i64 t272,.int .u64 t273,.bool false,.int .u64 0,.bool false,.int .u64 0,.bool false,.int .u64 0,.bool false,.int .u64 0,.bool false]) ?_ 4 _ rfl; (with_reducible repeat (first | refine blk_drewN ?_ _ | refine blk_drew ?_ | refine blk_alloc ?_ _)); refine blk_put (cs:=#[.int .i64 t270,.int .u64 t271,.int .i64 t272,.int .u64 0,.bool false,.int .u64 0,.bool false,.int .u64 0,.bool false,.int .u64 0,.bool false,.int .u64 0,.bool false]) ?_ 3 _ rfl; (with_reducible repeat (first | refine blk_drewN ?_ _ | refine blk_drew ?_ | refine blk_alloc ?_ _)); refine blk_put (cs:=#[.int .i64 t270,.int .u64 t271,.int .i64 0,.int .u64 0,.bool false,.int .u64 0,.bool false,.int .u64 0,.bool false,.int .u64 0,.bool false,.int .u64 0,.bool false]) ?_ 2 _ rfl; (with_reducible repeat (first | refine blk_drewN ?_ _ | refine blk_drew ?_ | refine blk_alloc ?_ _)); refine blk_put (cs:=#[.int .i64 t270,.int .u64 0,.int .i64 0,.int .u64 0,.bool false,.int .u64 0,.bool false,.int .u64 0,.bool false,.int .u64 0,.bool false,.int .u64 0,.bool false]) ?_ 1 _ rfl; (with_reducible repeat (first | refine blk_drewN ?_ _ | refine blk_drew ?_ | refine blk_alloc ?_ _)); refine blk_put (cs:=#[.int .i64 0,.int .u64 0,.int .i64 0,.int .u64 0,.bool false,.int .u64 0,.bool false,.int .u64 0,.bool false,.int .u64 0,.bool false,.int .u64 0,.bool false]) ?_ 0 _ rfl; (with_reducible repeat (first | refine blk_drewN ?_ _ | refine blk_drew ?_ | refine blk_alloc ?_ _)); exact BK285.out) hb); have n2_:=Aside0.mk (below_step (by repeat (first | (with_reducible first | exact HB.out | apply below_alloc | apply pw_below_drewN | apply below_drew1 | refine below_set ?_ GE267.out | refine below_set ?_ GE285.out) | exact HB.out)) hb); clear BK267; clear BK285; clear HB; have BK267:=n0_; have BK285:=n1_; have HB:=n2_; clear n0_ n1_ n2_; (try clear hb); (try clear hb2); (try clear hk); (try clear hi); have hcz27_0:w26.cell? ⟨gb285,0,none⟩=some (.int .i64 t270):=(blk_cell BK285.out 0).trans rfl; have hcz27_1:w26.cell? ⟨gb285,1,none⟩=some (.int .u64 t271):=(blk_cell BK285.out 1).trans rfl; have hcz27_2:w26.cell? ⟨gb285,2,none⟩=some (.int .i64 t272):=(blk_cell BK285.out 2).trans rfl; have hcz27_3:w26.cell? ⟨gb285,3,none⟩=some (.int .u64 t273):=(blk_cell BK285.out 3).trans rfl; have hcz27_4:w26.cell? ⟨gb285,4,none⟩=some (.bool t274):=(blk_cell BK285.out 4).trans rfl; have hcz27_5:w26.cell? ⟨gb285,5,none⟩=some (.int .u64 t275):=(blk_cell BK285.out 5).trans rfl; have hcz27_6:w26.cell? ⟨gb285,6,none⟩=some (.bool t276):=(blk_cell BK285.out 6).trans rfl; have hcz27_7:w26.cell? ⟨gb285,7,none⟩=some (.int .u64 t277):=(blk_cell BK285.out 7).trans rfl; have hcz27_8:w26.cell? ⟨gb285,8,none⟩=some (.bool t278):=(blk_cell BK285.out 8).trans rfl; have hcz27_9:w26.cell? ⟨gb285,9,none⟩=some (.int .u64 t279):=(blk_cell BK285.out 9).trans rfl; have hcz27_10:w26.cell? ⟨gb285,10,none⟩=some (.bool t280):=(blk_cell BK285.out 10).trans rfl; have hcz27_11:w26.cell? ⟨gb285,11,none⟩=some (.int .u64 t281):=(blk_cell BK285.out 11).trans rfl; have hcz27_12:w26.cell? ⟨gb285,12,none⟩=some (.bool t282):=(blk_cell BK285.out 12).trans rfl; have hfz27_0:=blk_frozen BK285.out 0; have hfz27_1:=blk_frozen BK285.out 1; have hfz27_2:=blk_frozen BK285.out 2; have hfz27_3:=blk_frozen BK285.out 3; have hfz27_4:=blk_frozen BK285.out 4; have hfz27_5:=blk_frozen BK285.out 5; have hfz27_6:=blk_frozen BK285.out 6; have hfz27_7:=blk_frozen BK285.out 7; have hfz27_8:=blk_frozen BK285.out 8; have hfz27_9:=blk_frozen BK285.out 9; have hfz27_10:=blk_frozen BK285.out 10; have hfz27_11:=blk_frozen BK285.out 11; have hfz27_12:=blk_frozen BK285.out 12; have hcz28_0:w26.cell? ⟨gb267,0,none⟩=some (.int .i64 a0_0):=(blk_cell BK267.out 0).trans rfl; have hcz28_1:w26.cell? ⟨gb267,1,none⟩=some (.int .u64 a0_1):=(blk_cell BK267.out 1).trans rfl; have hcz28_2:w26.cell? ⟨gb267,2,none⟩=some (.int .i64 a0_2):=(blk_cell BK267.out 2).trans rfl; have hcz28_3:w26.cell? ⟨gb267,3,none⟩=some (.int .u64 a0_3):=(blk_cell BK267.out 3).trans rfl; have hcz28_4:w26.cell? ⟨gb267,4,none⟩=some (.bool a0_4):=(blk_cell BK267.out 4).trans rfl; have hcz28_5:w26.cell? ⟨gb267,5,none⟩=some (.int .u64 a0_5):=(blk_cell BK267.out 5).trans rfl; have hcz28_6:w26.cell? ⟨gb267,6,none⟩=some (.bool a0_6):=(blk_cell BK267.out 6).trans rfl; have hcz28_7:w26.cell? ⟨gb267,7,none⟩=some (.int .u64 a0_7):=(blk_cell BK267.out 7).trans rfl; have hcz28_8:w26.cell? ⟨gb267,8,none⟩=some (.bool a0_8):=(blk_cell BK267.out 8).trans rfl; have hcz28_9:w26.cell? ⟨gb267,9,none⟩=some (.int .u64 a0_9):=(blk_cell BK267.out 9).trans rfl; have hcz28_10:w26.cell? ⟨gb267,10,none⟩=some (.bool a0_10):=(blk_cell BK267.out 10).trans rfl; have hcz28_11:w26.cell? ⟨gb267,11,none⟩=some (.int .u64 a0_11):=(blk_cell BK267.out 11).trans rfl; have hcz28_12:w26.cell? ⟨gb267,12,none⟩=some (.bool a0_12):=(blk_cell BK267.out 12).trans rfl; have hfz28_0:=blk_frozen BK267.out 0; have hfz28_1:=blk_frozen BK267.out 1; have hfz28_2:=blk_frozen BK267.out 2; have hfz28_3:=blk_frozen BK267.out 3; have hfz28_4:=blk_frozen BK267.out 4; have hfz28_5:=blk_frozen BK267.out 5; have hfz28_6:=blk_frozen BK267.out 6; have hfz28_7:=blk_frozen BK267.out 7; have hfz28_8:=blk_frozen BK267.out 8; have hfz28_9:=blk_frozen BK267.out 9; have hfz28_10:=blk_frozen BK267.out 10; have hfz28_11:=blk_frozen BK267.out 11; have hfz28_12:=blk_frozen BK267.out 12))
      go_meet
      case rel=>exact ⟨_,(true),(by first | rfl | (simp; done) | (simp [*]; done)),H',⟨by first | omega | exact Nat.le_refl _⟩,⟨by (with_reducible repeat (first | refine blk_drewN ?_ _ | refine blk_drew ?_ | refine blk_alloc ?_ _)); exact BK267.out⟩,⟨by (with_reducible repeat (first | refine blk_drewN ?_ _ | refine blk_drew ?_ | refine blk_alloc ?_ _)); exact BK285.out⟩,⟨by repeat (first | (with_reducible first | exact HB.out | apply below_alloc | apply pw_below_drewN | apply below_drew1 | refine below_set ?_ GE267.out | refine below_set ?_ GE285.out) | exact HB.out)⟩⟩
    ·rw [if_neg c17] at H
     have c17b0:(t286 == 0)=false:=beq_eq_false_iff_ne.mpr c17
     have c17b1:(t286 != 0)=true:=bne_iff_ne.mpr c17
     (first | rw [c17b0] | (simp only [i64_w,i32_w]; rw [c17b0]) | skip)
     have H':=Aside0.mk H
     clear H
     have hnb29:=NB285_267.out
     have hnc29:=NB267_285.out
     have hcz30_0:w13.cell? ⟨gb285,0,none⟩=some (.int .i64 0):=(blk_cell BK285.out 0).trans rfl
     have hcz30_1:w13.cell? ⟨gb285,1,none⟩=some (.int .u64 0):=(blk_cell BK285.out 1).trans rfl
     have hcz30_2:w13.cell? ⟨gb285,2,none⟩=some (.int .i64 0):=(blk_cell BK285.out 2).trans rfl
     have hcz30_3:w13.cell? ⟨gb285,3,none⟩=some (.int .u64 0):=(blk_cell BK285.out 3).trans rfl
     have hcz30_4:w13.cell? ⟨gb285,4,none⟩=some (.bool false):=(blk_cell BK285.out 4).trans rfl
     have hcz30_5:w13.cell? ⟨gb285,5,none⟩=some (.int .u64 0):=(blk_cell BK285.out 5).trans rfl
     have hcz30_6:w13.cell? ⟨gb285,6,none⟩=some (.bool false):=(blk_cell BK285.out 6).trans rfl
     have hcz30_7:w13.cell? ⟨gb285,7,none⟩=some (.int .u64 0):=(blk_cell BK285.out 7).trans rfl
     have hcz30_8:w13.cell? ⟨gb285,8,none⟩=some (.bool false):=(blk_cell BK285.out 8).trans rfl
     have hcz30_9:w13.cell? ⟨gb285,9,none⟩=some (.int .u64 0):=(blk_cell BK285.out 9).trans rfl
     have hcz30_10:w13.cell? ⟨gb285,10,none⟩=some (.bool false):=(blk_cell BK285.out 10).trans rfl
     have hcz30_11:w13.cell? ⟨gb285,11,none⟩=some (.int .u64 0):=(blk_cell BK285.out 11).trans rfl
     have hcz30_12:w13.cell? ⟨gb285,12,none⟩=some (.bool false):=(blk_cell BK285.out 12).trans rfl
     have hfz30_0:=blk_frozen BK285.out 0
     have hfz30_1:=blk_frozen BK285.out 1
     have hfz30_2:=blk_frozen BK285.out 2
     have hfz30_3:=blk_frozen BK285.out 3
     have hfz30_4:=blk_frozen BK285.out 4
     have hfz30_5:=blk_frozen BK285.out 5
     have hfz30_6:=blk_frozen BK285.out 6
     have hfz30_7:=blk_frozen BK285.out 7
     have hfz30_8:=blk_frozen BK285.out 8
     have hfz30_9:=blk_frozen BK285.out 9
     have hfz30_10:=blk_frozen BK285.out 10
     have hfz30_11:=blk_frozen BK285.out 11
     have hfz30_12:=blk_frozen BK285.out 12
     go_wp2_with (first | ((with_reducible refine gate_callee (f:=14) rfl ?_); refine goesL_ (some 41) rfl rfl Tryd.func14 (by kernel_rfl) rfl #[.agg #[.int .i64 t270,.int .u64 t271,.int .i64 t272,.int .u64 t273,.bool t274,.int .u64 t275,.bool t276,.int .u64 t277,.bool t278,.int .u64 t279,.bool t280,.int .u64 t281,.bool t282]] rfl (by (try simp only [List.map_toArray,List.map_cons,List.map_nil]); first | done | rfl | (simp only [List.length_drop,List.length_take]; rfl)) ?_; (with_reducible refine (rearm_Check.calls k t270 t271 t272 t273 t274 t275 t276 t277 t278 t279 t280 t281 t282 t286 _ A16.out).mono ?_); rintro e w31 ⟨rfl,hb⟩; refine ⟨_,rfl,?_⟩; have n0_:=Aside0.mk (blk_below (g:=gb267) (o:=.cells #[.int .i64 a0_0,.int .u64 a0_1,.int .i64 a0_2,.int .u64 a0_3,.bool a0_4,.int .u64 a0_5,.bool a0_6,.int .u64 a0_7,.bool a0_8,.int .u64 a0_9,.bool a0_10,.int .u64 a0_11,.bool a0_12] 28 (0,0)) (by (with_reducible repeat (first | refine blk_drewN ?_ _ | refine blk_drew ?_ | refine blk_alloc ?_ _)); refine blk_far ?_ NB267_285.out _; (with_reducible repeat (first | refine blk_drewN ?_ _ | refine blk_drew ?_ | refine blk_alloc ?_ _)); refine blk_far ?_ NB267_285.out _; (with_reducible repeat (first | refine blk_drewN ?_ _ | refine blk_drew ?_ | refine blk_alloc ?_ _)); refine blk_far ?_ NB267_285.out _; (with_reducible repeat (first | refine blk_drewN ?_ _ | refine blk_drew ?_ | refine blk_alloc ?_ _)); refine blk_far ?_ NB267_285.out _; (with_reducible repeat (first | refine blk_drewN ?_ _ | refine blk_drew ?_ | refine blk_alloc ?_ _)); refine blk_far ?_ NB267_285.out _; (with_reducible repeat (first | refine blk_drewN ?_ _ | refine blk_drew ?_ | refine blk_alloc ?_ _)); refine blk_far ?_ NB267_285.out _; (with_reducible repeat (first | refine blk_drewN ?_ _ | refine blk_drew ?_ | refine blk_alloc ?_ _)); refine blk_far ?_ NB267_285.out _; (with_reducible repeat (first | refine blk_drewN ?_ _ | refine blk_drew ?_ | refine blk_alloc ?_ _)); refine blk_far ?_ NB267_285.out _; (with_reducible repeat (first | refine blk_drewN ?_ _ | refine blk_drew ?_ | refine blk_alloc ?_ _)); refine blk_far ?_ NB267_285.out _; (with_reducible repeat (first | refine blk_drewN ?_ _ | refine blk_drew ?_ | refine blk_alloc ?_ _)); refine blk_far ?_ NB267_285.out _; (with_reducible repeat (first | refine blk_drewN ?_ _ | refine blk_drew ?_ | refine blk_alloc ?_ _)); refine blk_far ?_ NB267_285.out _; (with_reducible repeat (first | refine blk_drewN ?_ _ | refine blk_drew ?_ | refine blk_alloc ?_ _)); refine blk_far ?_ NB267_285.out _; (with_reducible repeat (first | refine blk_drewN ?_ _ | refine blk_drew ?_ | refine blk_alloc ?_ _)); refine blk_far ?_ NB267_285.out _; (with_reducible repeat (first | refine blk_drewN ?_ _ | refine blk_drew ?_ | refine blk_alloc ?_ _)); exact BK267.out) hb); have n1_:=Aside0.mk (blk_below (g:=gb285) (o:=.cells #[.int .i64 t270,.int .u64 t271,.int .i64 t272,.int .u64 t273,.bool t274,.int .u64 t275,.bool t276,.int .u64 t277,.bool t278,.int .u64 t279,.bool t280,.int .u64 t281,.bool t282] 28 (0,0)) (by (with_reducible repeat (first | refine blk_drewN ?_ _ | refine blk_drew ?_ | refine blk_alloc ?_ _)); refine blk_put (cs:=#[.int .i64 t270,.int .u64 t271,.int .i64 t272,.int .u64 t273,.bool t274,.int .u64 t275,.bool t276,.int .u64 t277,.bool t278,.int .u64 t279,.bool t280,.int .u64 t281,.bool false]) ?_ 12 _ rfl; (with_reducible repeat (first | refine blk_drewN ?_ _ | refine blk_drew ?_ | refine blk_alloc ?_ _)); refine blk_put (cs:=#[.int .i64 t270,.int .u64 t271,.int .i64 t272,.int .u64 t273,.bool t274,.int .u64 t275,.bool t276,.int .u64 t277,.bool t278,.int .u64 t279,.bool t280,.int .u64 0,.bool false]) ?_ 11 _ rfl; (with_reducible repeat (first | refine blk_drewN ?_ _ | refine blk_drew ?_ | refine blk_alloc ?_ _)); refine blk_put (cs:=#[.int .i64 t270,.int .u64 t271,.int .i64 t272,.int .u64 t273,.bool t274,.int .u64 t275,.bool t276,.int .u64 t277,.bool t278,.int .u64 t279,.bool false,.int .u64 0,.bool false]) ?_ 10 _ rfl; (with_reducible repeat (first | refine blk_drewN ?_ _ | refine blk_drew ?_ | refine blk_alloc ?_ _)); refine blk_put (cs:=#[.int .i64 t270,.int .u64 t271,.int .i64 t272,.int .u64 t273,.bool t274,.int .u64 t275,.bool t276,.int .u64 t277,.bool t278,.int .u64 0,.bool false,.int .u64 0,.bool false]) ?_ 9 _ rfl; (with_reducible repeat (first | refine blk_drewN ?_ _ | refine blk_drew ?_ | refine blk_alloc ?_ _)); refine blk_put (cs:=#[.int .i64 t270,.int .u64 t271,.int .i64 t272,.int .u64 t273,.bool t274,.int .u64 t275,.bool t276,.int .u64 t277,.bool false,.int .u64 0,.bool false,.int .u64 0,.bool false]) ?_ 8 _ rfl; (with_reducible repeat (first | refine blk_drewN ?_ _ | refine blk_drew ?_ | refine blk_alloc ?_ _)); refine blk_put (cs:=#[.int .i64 t270,.int .u64 t271,.int .i64 t272,.int .u64 t273,.bool t274,.int .u64 t275,.bool t276,.int .u64 0,.bool false,.int .u64 0,.bool false,.int .u64 0,.bool false]) ?_ 7 _ rfl; (with_reducible repeat (first | refine blk_drewN ?_ _ | refine blk_drew ?_ | refine blk_alloc ?_ _)); refine blk_put (cs:=#[.int .i64 t270,.int .u64 t271,.int .i64 t272,.int .u64 t273,.bool t274,.int .u64 t275,.bool false,.int .u64 0,.bool false,.int .u64 0,.bool false,.int .u64 0,.bool false]) ?_ 6 _ rfl; (with_reducible repeat (first | refine blk_drewN ?_ _ | refine blk_drew ?_ | refine blk_alloc ?_ _)); refine blk_put (cs:=#[.int .i64 t270,.int .u64 t271,.int .i64 t272,.int .u64 t273,.bool t274,.int .u64 0,.bool false,.int .u64 0,.bool false,.int .u64 0,.bool false,.int .u64 0,.bool false]) ?_ 5 _ rfl; (with_reducible repeat (first | refine blk_drewN ?_ _ | refine blk_drew ?_ | refine blk_alloc ?_ _)); refine blk_put (cs:=#[.int .i64 t270,.int .u64 t271,.int .i64 t272,.int .u64 t273,.bool false,.int .u64 0,.bool false,.int .u64 0,.bool false,.int .u64 0,.bool false,.int .u64 0,.bool false]) ?_ 4 _ rfl; (with_reducible repeat (first | refine blk_drewN ?_ _ | refine blk_drew ?_ | refine blk_alloc ?_ _)); refine blk_put (cs:=#[.int .i64 t270,.int .u64 t271,.int .i64 t272,.int .u64 0,.bool false,.int .u64 0,.bool false,.int .u64 0,.bool false,.int .u64 0,.bool false,.int .u64 0,.bool false]) ?_ 3 _ rfl; (with_reducible repeat (first | refine blk_drewN ?_ _ | refine blk_drew ?_ | refine blk_alloc ?_ _)); refine blk_put (cs:=#[.int .i64 t270,.int .u64 t271,.int .i64 0,.int .u64 0,.bool false,.int .u64 0,.bool false,.int .u64 0,.bool false,.int .u64 0,.bool false,.int .u64 0,.bool false]) ?_ 2 _ rfl; (with_reducible repeat (first | refine blk_drewN ?_ _ | refine blk_drew ?_ | refine blk_alloc ?_ _)); refine blk_put (cs:=#[.int .i64 t270,.int .u64 0,.int .i64 0,.int .u64 0,.bool false,.int .u64 0,.bool false,.int .u64 0,.bool false,.int .u64 0,.bool false,.int .u64 0,.bool false]) ?_ 1 _ rfl; (with_reducible repeat (first | refine blk_drewN ?_ _ | refine blk_drew ?_ | refine blk_alloc ?_ _)); refine blk_put (cs:=#[.int .i64 0,.int .u64 0,.int .i64 0,.int .u64 0,.bool false,.int .u64 0,.bool false,.int .u64 0,.bool false,.int .u64 0,.bool false,.int .u64 0,.bool false]) ?_ 0 _ rfl; (with_reducible repeat (first | refine blk_drewN ?_ _ | refine blk_drew ?_ | refine blk_alloc ?_ _)); exact BK285.out) hb); have n2_:=Aside0.mk (below_step (by repeat (first | (with_reducible first | exact HB.out | apply below_alloc | apply pw_below_drewN | apply below_drew1 | refine below_set ?_ GE267.out | refine below_set ?_ GE285.out) | exact HB.out)) hb); clear BK267; clear BK285; clear HB; have BK267:=n0_; have BK285:=n1_; have HB:=n2_; clear n0_ n1_ n2_; (try clear hb); (try clear hb2); (try clear hk); (try clear hi)))
     go_meet
     case rel=>exact ⟨_,(true),(by first | rfl | (simp; done) | (simp [*]; done)),H',⟨by first | omega | exact Nat.le_refl _⟩,⟨by (with_reducible repeat (first | refine blk_drewN ?_ _ | refine blk_drew ?_ | refine blk_alloc ?_ _)); exact BK267.out⟩,⟨by (with_reducible repeat (first | refine blk_drewN ?_ _ | refine blk_drew ?_ | refine blk_alloc ?_ _)); exact BK285.out⟩,⟨by repeat (first | (with_reducible first | exact HB.out | apply below_alloc | apply pw_below_drewN | apply below_drew1 | refine below_set ?_ GE267.out | refine below_set ?_ GE285.out) | exact HB.out)⟩⟩
   case rest=>
    clear HC8
    try clear c1
    try clear c2
    try clear p2
    try clear c5
    try clear c7
    try clear c7b0
    try clear c7b1
    try clear c9
    try clear c14
    try clear c16
    try clear c17
    try clear c17b0
    try clear c17b1
    try clear c18
    try clear c18b0
    try clear c18b1
    try clear c19
    try clear c24
    try clear c29
    try clear hcz11_0
    try clear hcz11_1
    try clear hcz11_10
    try clear hcz11_11
    try clear hcz11_12
    try clear hcz11_2
    try clear hcz11_3
    try clear hcz11_4
    try clear hcz11_5
    try clear hcz11_6
    try clear hcz11_7
    try clear hcz11_8
    try clear hcz11_9
    try clear hcz15_0
    try clear hcz15_1
    try clear hcz15_10
    try clear hcz15_11
    try clear hcz15_12
    try clear hcz15_2
    try clear hcz15_3
    try clear hcz15_4
    try clear hcz15_5
    try clear hcz15_6
    try clear hcz15_7
    try clear hcz15_8
    try clear hcz15_9
    try clear hcz20_0
    try clear hcz20_1
    try clear hcz20_10
    try clear hcz20_11
    try clear hcz20_12
    try clear hcz20_2
    try clear hcz20_3
    try clear hcz20_4
    try clear hcz20_5
    try clear hcz20_6
    try clear hcz20_7
    try clear hcz20_8
    try clear hcz20_9
    try clear hcz22_0
    try clear hcz22_1
    try clear hcz22_10
    try clear hcz22_11
    try clear hcz22_12
    try clear hcz22_2
    try clear hcz22_3
    try clear hcz22_4
    try clear hcz22_5
    try clear hcz22_6
    try clear hcz22_7
    try clear hcz22_8
    try clear hcz22_9
    try clear hcz23_0
    try clear hcz23_1
    try clear hcz23_10
    try clear hcz23_11
    try clear hcz23_12
    try clear hcz23_2
    try clear hcz23_3
    try clear hcz23_4
    try clear hcz23_5
    try clear hcz23_6
    try clear hcz23_7
    try clear hcz23_8
    try clear hcz23_9
    try clear hcz25_0
    try clear hcz25_1
    try clear hcz25_10
    try clear hcz25_11
    try clear hcz25_12
    try clear hcz25_2
    try clear hcz25_3
    try clear hcz25_4
    try clear hcz25_5
    try clear hcz25_6
    try clear hcz25_7
    try clear hcz25_8
    try clear hcz25_9
    try clear hcz27_0
    try clear hcz27_1
    try clear hcz27_10
    try clear hcz27_11
    try clear hcz27_12
    try clear hcz27_2
    try clear hcz27_3
    try clear hcz27_4
    try clear hcz27_5
    try clear hcz27_6
    try clear hcz27_7
    try clear hcz27_8
    try clear hcz27_9
    try clear hcz28_0
    try clear hcz28_1
    try clear hcz28_10
    try clear hcz28_11
    try clear hcz28_12
    try clear hcz28_2
    try clear hcz28_3
    try clear hcz28_4
    try clear hcz28_5
    try clear hcz28_6
    try clear hcz28_7
    try clear hcz28_8
    try clear hcz28_9
    try clear hcz30_0
    try clear hcz30_1
    try clear hcz30_10
    try clear hcz30_11
    try clear hcz30_12
    try clear hcz30_2
    try clear hcz30_3
    try clear hcz30_4
    try clear hcz30_5
    try clear hcz30_6
    try clear hcz30_7
    try clear hcz30_8
    try clear hcz30_9
    try clear hfz11_0
    try clear hfz11_1
    try clear hfz11_10
    try clear hfz11_11
    try clear hfz11_12
    try clear hfz11_2
    try clear hfz11_3
    try clear hfz11_4
    try clear hfz11_5
    try clear hfz11_6
    try clear hfz11_7
    try clear hfz11_8
    try clear hfz11_9
    try clear hfz15_0
    try clear hfz15_1
    try clear hfz15_10
    try clear hfz15_11
    try clear hfz15_12
    try clear hfz15_2
    try clear hfz15_3
    try clear hfz15_4
    try clear hfz15_5
    try clear hfz15_6
    try clear hfz15_7
    try clear hfz15_8
    try clear hfz15_9
    try clear hfz20_0
    try clear hfz20_1
    try clear hfz20_10
    try clear hfz20_11
    try clear hfz20_12
    try clear hfz20_2
    try clear hfz20_3
    try clear hfz20_4
    try clear hfz20_5
    try clear hfz20_6
    try clear hfz20_7
    try clear hfz20_8
    try clear hfz20_9
    try clear hfz22_0
    try clear hfz22_1
    try clear hfz22_10
    try clear hfz22_11
    try clear hfz22_12
    try clear hfz22_2
    try clear hfz22_3
    try clear hfz22_4
    try clear hfz22_5
    try clear hfz22_6
    try clear hfz22_7
    try clear hfz22_8
    try clear hfz22_9
    try clear hfz23_0
    try clear hfz23_1
    try clear hfz23_10
    try clear hfz23_11
    try clear hfz23_12
    try clear hfz23_2
    try clear hfz23_3
    try clear hfz23_4
    try clear hfz23_5
    try clear hfz23_6
    try clear hfz23_7
    try clear hfz23_8
    try clear hfz23_9
    try clear hfz25_0
    try clear hfz25_1
    try clear hfz25_10
    try clear hfz25_11
    try clear hfz25_12
    try clear hfz25_2
    try clear hfz25_3
    try clear hfz25_4
    try clear hfz25_5
    try clear hfz25_6
    try clear hfz25_7
    try clear hfz25_8
    try clear hfz25_9
    try clear hfz27_0
    try clear hfz27_1
    try clear hfz27_10
    try clear hfz27_11
    try clear hfz27_12
    try clear hfz27_2
    try clear hfz27_3
    try clear hfz27_4
    try clear hfz27_5
    try clear hfz27_6
    try clear hfz27_7
    try clear hfz27_8
    try clear hfz27_9
    try clear hfz28_0
    try clear hfz28_1
    try clear hfz28_10
    try clear hfz28_11
    try clear hfz28_12
    try clear hfz28_2
    try clear hfz28_3
    try clear hfz28_4
    try clear hfz28_5
    try clear hfz28_6
    try clear hfz28_7
    try clear hfz28_8
    try clear hfz28_9
    try clear hfz30_0
    try clear hfz30_1
    try clear hfz30_10
    try clear hfz30_11
    try clear hfz30_12
    try clear hfz30_2
    try clear hfz30_3
    try clear hfz30_4
    try clear hfz30_5
    try clear hfz30_6
    try clear hfz30_7
    try clear hfz30_8
    try clear hfz30_9
    obtain ⟨kq,x56_7,rfl,HA,HJ7,BK267,BK285,HB⟩ :=hcut
    cases kq with
    | zero=>exact absurd HA.out (by simp [complinelaw23_RearmLater.j0])
    | succ kj7=>
     have H:=HA.out
     clear HA
     simp only [complinelaw23_RearmLater.j0] at H
     by_cases c32:x56_7=true
     ·subst c32
      have H1:(some false)=some r:=by rw [if_pos rfl] at H; exact H
      clear H
      have H:=H1
      clear H1
      obtain rfl:=Option.some.inj H
      go_wp2
      go_ret
      exact ⟨by first | rfl | (simp [errW_none,errW_some] <;> rfl) | (simp [*,errW_none,errW_some] <;> rfl),by repeat (first | (with_reducible first | exact HB.out | apply below_alloc | apply pw_below_drewN | apply below_drew1 | refine below_set ?_ GE267.out | refine below_set ?_ GE285.out) | exact HB.out)⟩
     ·replace c32:=Bool.eq_false_iff.mpr c32
      subst c32
      have H1:(if t269=18446744073709551615 then (if true=true then (some (a0_0 == 1)) else (some false)) else (if true=true then (if t269 > a2 then (if a0_0=1 then (if t269 > a1 then (if a0_1=0 then (none) else (if (Int.tmod (IntKind.u64.wrap (t269 - a1)) a0_1)=0 then (some ((IntKind.u64.wrap (Int.tdiv (IntKind.u64.wrap (t269 - a1)) a0_1)) == (IntKind.u64.wrap (t283+1)))) else (some false))) else (some false)) else (some true)) else (some false)) else (some false)))=some r:=by rw [if_neg (show ¬ (false=true) by decide)] at H; exact H
      clear H
      have H:=H1
      clear H1
      by_cases c33:t269=18446744073709551615
      ·rw [if_pos c33] at H
       have c33b0:(t269 == 18446744073709551615)=true:=beq_iff_eq.mpr c33
       have c33b1:(t269 != 18446744073709551615)=false:=bne_eq_false_iff_eq.mpr c33
       clear c33
       by_cases c34:true=true
       ·clear c34
        have H1:(some (a0_0 == 1))=some r:=by rw [if_pos rfl] at H; exact H
        clear H
        have H:=H1
        clear H1
        obtain rfl:=Option.some.inj H
        have hnb35:=NB267_285.out
        have hnc35:=NB285_267.out
        have hcz36_0:wc.cell? ⟨gb267,0,none⟩=some (.int .i64 a0_0):=(blk_cell BK267.out 0).trans rfl
        have hcz36_1:wc.cell? ⟨gb267,1,none⟩=some (.int .u64 a0_1):=(blk_cell BK267.out 1).trans rfl
        have hcz36_2:wc.cell? ⟨gb267,2,none⟩=some (.int .i64 a0_2):=(blk_cell BK267.out 2).trans rfl
        have hcz36_3:wc.cell? ⟨gb267,3,none⟩=some (.int .u64 a0_3):=(blk_cell BK267.out 3).trans rfl
        have hcz36_4:wc.cell? ⟨gb267,4,none⟩=some (.bool a0_4):=(blk_cell BK267.out 4).trans rfl
        have hcz36_5:wc.cell? ⟨gb267,5,none⟩=some (.int .u64 a0_5):=(blk_cell BK267.out 5).trans rfl
        have hcz36_6:wc.cell? ⟨gb267,6,none⟩=some (.bool a0_6):=(blk_cell BK267.out 6).trans rfl
        have hcz36_7:wc.cell? ⟨gb267,7,none⟩=some (.int .u64 a0_7):=(blk_cell BK267.out 7).trans rfl
        have hcz36_8:wc.cell? ⟨gb267,8,none⟩=some (.bool a0_8):=(blk_cell BK267.out 8).trans rfl
        have hcz36_9:wc.cell? ⟨gb267,9,none⟩=some (.int .u64 a0_9):=(blk_cell BK267.out 9).trans rfl
        have hcz36_10:wc.cell? ⟨gb267,10,none⟩=some (.bool a0_10):=(blk_cell BK267.out 10).trans rfl
        have hcz36_11:wc.cell? ⟨gb267,11,none⟩=some (.int .u64 a0_11):=(blk_cell BK267.out 11).trans rfl
        have hcz36_12:wc.cell? ⟨gb267,12,none⟩=some (.bool a0_12):=(blk_cell BK267.out 12).trans rfl
        have hfz36_0:=blk_frozen BK267.out 0
        have hfz36_1:=blk_frozen BK267.out 1
        have hfz36_2:=blk_frozen BK267.out 2
        have hfz36_3:=blk_frozen BK267.out 3
        have hfz36_4:=blk_frozen BK267.out 4
        have hfz36_5:=blk_frozen BK267.out 5
        have hfz36_6:=blk_frozen BK267.out 6
        have hfz36_7:=blk_frozen BK267.out 7
        have hfz36_8:=blk_frozen BK267.out 8
        have hfz36_9:=blk_frozen BK267.out 9
        have hfz36_10:=blk_frozen BK267.out 10
        have hfz36_11:=blk_frozen BK267.out 11
        have hfz36_12:=blk_frozen BK267.out 12
        go_wp2
        go_ret
        exact ⟨by first | rfl | (simp [errW_none,errW_some] <;> rfl) | (simp [*,errW_none,errW_some] <;> rfl),by repeat (first | (with_reducible first | exact HB.out | apply below_alloc | apply pw_below_drewN | apply below_drew1 | refine below_set ?_ GE267.out | refine below_set ?_ GE285.out) | exact HB.out)⟩
       ·exact absurd rfl c34
      ·rw [if_neg c33] at H
       have c33b0:(t269 == 18446744073709551615)=false:=beq_eq_false_iff_ne.mpr c33
       have c33b1:(t269 != 18446744073709551615)=true:=bne_iff_ne.mpr c33
       by_cases c37:true=true
       ·clear c37
        have H1:(if t269 > a2 then (if a0_0=1 then (if t269 > a1 then (if a0_1=0 then (none) else (if (Int.tmod (IntKind.u64.wrap (t269 - a1)) a0_1)=0 then (some ((IntKind.u64.wrap (Int.tdiv (IntKind.u64.wrap (t269 - a1)) a0_1)) == (IntKind.u64.wrap (t283+1)))) else (some false))) else (some false)) else (some true)) else (some false))=some r:=by rw [if_pos rfl] at H; exact H
        clear H
        have H:=H1
        clear H1
        by_cases c38:t269 > a2
        ·rw [if_pos c38] at H
         have c38b0:decide (a2 < t269)=true:=decide_eq_true c38
         clear c38
         by_cases c39:a0_0=1
         ·rw [if_pos c39] at H
          have c39b0:(a0_0 == 1)=true:=beq_iff_eq.mpr c39
          have c39b1:(a0_0 != 1)=false:=bne_eq_false_iff_eq.mpr c39
          clear c39
          by_cases c40:t269 > a1
          ·rw [if_pos c40] at H
           have c40b0:decide (a1 < t269)=true:=decide_eq_true c40
           clear c40
           by_cases c41:a0_1=0
           ·rw [if_pos c41] at H
            exact absurd H (by simp)
           ·rw [if_neg c41] at H
            have c41b0:(a0_1 == 0)=false:=beq_eq_false_iff_ne.mpr c41
            have c41b1:(a0_1 != 0)=true:=bne_iff_ne.mpr c41
            by_cases c42:(Int.tmod (IntKind.u64.wrap (t269 - a1)) a0_1)=0
            ·rw [if_pos c42] at H
             have c42b0:((Int.tmod (IntKind.u64.wrap (t269 - a1)) a0_1) == 0)=true:=beq_iff_eq.mpr c42
             have c42b1:((Int.tmod (IntKind.u64.wrap (t269 - a1)) a0_1) != 0)=false:=bne_eq_false_iff_eq.mpr c42
             clear c42
             obtain rfl:=Option.some.inj H
             have hnb43:=NB267_285.out
             have hnc43:=NB285_267.out
             have hcz44_0:wc.cell? ⟨gb267,0,none⟩=some (.int .i64 a0_0):=(blk_cell BK267.out 0).trans rfl
             have hcz44_1:wc.cell? ⟨gb267,1,none⟩=some (.int .u64 a0_1):=(blk_cell BK267.out 1).trans rfl
             have hcz44_2:wc.cell? ⟨gb267,2,none⟩=some (.int .i64 a0_2):=(blk_cell BK267.out 2).trans rfl
             have hcz44_3:wc.cell? ⟨gb267,3,none⟩=some (.int .u64 a0_3):=(blk_cell BK267.out 3).trans rfl
             have hcz44_4:wc.cell? ⟨gb267,4,none⟩=some (.bool a0_4):=(blk_cell BK267.out 4).trans rfl
             have hcz44_5:wc.cell? ⟨gb267,5,none⟩=some (.int .u64 a0_5):=(blk_cell BK267.out 5).trans rfl
             have hcz44_6:wc.cell? ⟨gb267,6,none⟩=some (.bool a0_6):=(blk_cell BK267.out 6).trans rfl
             have hcz44_7:wc.cell? ⟨gb267,7,none⟩=some (.int .u64 a0_7):=(blk_cell BK267.out 7).trans rfl
             have hcz44_8:wc.cell? ⟨gb267,8,none⟩=some (.bool a0_8):=(blk_cell BK267.out 8).trans rfl
             have hcz44_9:wc.cell? ⟨gb267,9,none⟩=some (.int .u64 a0_9):=(blk_cell BK267.out 9).trans rfl
             have hcz44_10:wc.cell? ⟨gb267,10,none⟩=some (.bool a0_10):=(blk_cell BK267.out 10).trans rfl
             have hcz44_11:wc.cell? ⟨gb267,11,none⟩=some (.int .u64 a0_11):=(blk_cell BK267.out 11).trans rfl
             have hcz44_12:wc.cell? ⟨gb267,12,none⟩=some (.bool a0_12):=(blk_cell BK267.out 12).trans rfl
             have hfz44_0:=blk_frozen BK267.out 0
             have hfz44_1:=blk_frozen BK267.out 1
             have hfz44_2:=blk_frozen BK267.out 2
             have hfz44_3:=blk_frozen BK267.out 3
             have hfz44_4:=blk_frozen BK267.out 4
             have hfz44_5:=blk_frozen BK267.out 5
             have hfz44_6:=blk_frozen BK267.out 6
             have hfz44_7:=blk_frozen BK267.out 7
             have hfz44_8:=blk_frozen BK267.out 8
             have hfz44_9:=blk_frozen BK267.out 9
             have hfz44_10:=blk_frozen BK267.out 10
             have hfz44_11:=blk_frozen BK267.out 11
             have hfz44_12:=blk_frozen BK267.out 12
             go_wp2
             go_ret
             exact ⟨by first | rfl | (simp [errW_none,errW_some] <;> rfl) | (simp [*,errW_none,errW_some] <;> rfl),by repeat (first | (with_reducible first | exact HB.out | apply below_alloc | apply pw_below_drewN | apply below_drew1 | refine below_set ?_ GE267.out | refine below_set ?_ GE285.out) | exact HB.out)⟩
            ·rw [if_neg c42] at H
             have c42b0:((Int.tmod (IntKind.u64.wrap (t269 - a1)) a0_1) == 0)=false:=beq_eq_false_iff_ne.mpr c42
             have c42b1:((Int.tmod (IntKind.u64.wrap (t269 - a1)) a0_1) != 0)=true:=bne_iff_ne.mpr c42
             obtain rfl:=Option.some.inj H
             have hnb45:=NB267_285.out
             have hnc45:=NB285_267.out
             have hcz46_0:wc.cell? ⟨gb267,0,none⟩=some (.int .i64 a0_0):=(blk_cell BK267.out 0).trans rfl
             have hcz46_1:wc.cell? ⟨gb267,1,none⟩=some (.int .u64 a0_1):=(blk_cell BK267.out 1).trans rfl
             have hcz46_2:wc.cell? ⟨gb267,2,none⟩=some (.int .i64 a0_2):=(blk_cell BK267.out 2).trans rfl
             have hcz46_3:wc.cell? ⟨gb267,3,none⟩=some (.int .u64 a0_3):=(blk_cell BK267.out 3).trans rfl
             have hcz46_4:wc.cell? ⟨gb267,4,none⟩=some (.bool a0_4):=(blk_cell BK267.out 4).trans rfl
             have hcz46_5:wc.cell? ⟨gb267,5,none⟩=some (.int .u64 a0_5):=(blk_cell BK267.out 5).trans rfl
             have hcz46_6:wc.cell? ⟨gb267,6,none⟩=some (.bool a0_6):=(blk_cell BK267.out 6).trans rfl
             have hcz46_7:wc.cell? ⟨gb267,7,none⟩=some (.int .u64 a0_7):=(blk_cell BK267.out 7).trans rfl
             have hcz46_8:wc.cell? ⟨gb267,8,none⟩=some (.bool a0_8):=(blk_cell BK267.out 8).trans rfl
             have hcz46_9:wc.cell? ⟨gb267,9,none⟩=some (.int .u64 a0_9):=(blk_cell BK267.out 9).trans rfl
             have hcz46_10:wc.cell? ⟨gb267,10,none⟩=some (.bool a0_10):=(blk_cell BK267.out 10).trans rfl
             have hcz46_11:wc.cell? ⟨gb267,11,none⟩=some (.int .u64 a0_11):=(blk_cell BK267.out 11).trans rfl
             have hcz46_12:wc.cell? ⟨gb267,12,none⟩=some (.bool a0_12):=(blk_cell BK267.out 12).trans rfl
             have hfz46_0:=blk_frozen BK267.out 0
             have hfz46_1:=blk_frozen BK267.out 1
             have hfz46_2:=blk_frozen BK267.out 2
             have hfz46_3:=blk_frozen BK267.out 3
             have hfz46_4:=blk_frozen BK267.out 4
             have hfz46_5:=blk_frozen BK267.out 5
             have hfz46_6:=blk_frozen BK267.out 6
             have hfz46_7:=blk_frozen BK267.out 7
             have hfz46_8:=blk_frozen BK267.out 8
             have hfz46_9:=blk_frozen BK267.out 9
             have hfz46_10:=blk_frozen BK267.out 10
             have hfz46_11:=blk_frozen BK267.out 11
             have hfz46_12:=blk_frozen BK267.out 12
             go_wp2
             go_ret
             exact ⟨by first | rfl | (simp [errW_none,errW_some] <;> rfl) | (simp [*,errW_none,errW_some] <;> rfl),by repeat (first | (with_reducible first | exact HB.out | apply below_alloc | apply pw_below_drewN | apply below_drew1 | refine below_set ?_ GE267.out | refine below_set ?_ GE285.out) | exact HB.out)⟩
          ·rw [if_neg c40] at H
           have c40b0:decide (a1 < t269)=false:=decide_eq_false c40
           clear c40
           obtain rfl:=Option.some.inj H
           have hnb47:=NB267_285.out
           have hnc47:=NB285_267.out
           have hcz48_0:wc.cell? ⟨gb267,0,none⟩=some (.int .i64 a0_0):=(blk_cell BK267.out 0).trans rfl
           have hcz48_1:wc.cell? ⟨gb267,1,none⟩=some (.int .u64 a0_1):=(blk_cell BK267.out 1).trans rfl
           have hcz48_2:wc.cell? ⟨gb267,2,none⟩=some (.int .i64 a0_2):=(blk_cell BK267.out 2).trans rfl
           have hcz48_3:wc.cell? ⟨gb267,3,none⟩=some (.int .u64 a0_3):=(blk_cell BK267.out 3).trans rfl
           have hcz48_4:wc.cell? ⟨gb267,4,none⟩=some (.bool a0_4):=(blk_cell BK267.out 4).trans rfl
           have hcz48_5:wc.cell? ⟨gb267,5,none⟩=some (.int .u64 a0_5):=(blk_cell BK267.out 5).trans rfl
           have hcz48_6:wc.cell? ⟨gb267,6,none⟩=some (.bool a0_6):=(blk_cell BK267.out 6).trans rfl
           have hcz48_7:wc.cell? ⟨gb267,7,none⟩=some (.int .u64 a0_7):=(blk_cell BK267.out 7).trans rfl
           have hcz48_8:wc.cell? ⟨gb267,8,none⟩=some (.bool a0_8):=(blk_cell BK267.out 8).trans rfl
           have hcz48_9:wc.cell? ⟨gb267,9,none⟩=some (.int .u64 a0_9):=(blk_cell BK267.out 9).trans rfl
           have hcz48_10:wc.cell? ⟨gb267,10,none⟩=some (.bool a0_10):=(blk_cell BK267.out 10).trans rfl
           have hcz48_11:wc.cell? ⟨gb267,11,none⟩=some (.int .u64 a0_11):=(blk_cell BK267.out 11).trans rfl
           have hcz48_12:wc.cell? ⟨gb267,12,none⟩=some (.bool a0_12):=(blk_cell BK267.out 12).trans rfl
           have hfz48_0:=blk_frozen BK267.out 0
           have hfz48_1:=blk_frozen BK267.out 1
           have hfz48_2:=blk_frozen BK267.out 2
           have hfz48_3:=blk_frozen BK267.out 3
           have hfz48_4:=blk_frozen BK267.out 4
           have hfz48_5:=blk_frozen BK267.out 5
           have hfz48_6:=blk_frozen BK267.out 6
           have hfz48_7:=blk_frozen BK267.out 7
           have hfz48_8:=blk_frozen BK267.out 8
           have hfz48_9:=blk_frozen BK267.out 9
           have hfz48_10:=blk_frozen BK267.out 10
           have hfz48_11:=blk_frozen BK267.out 11
           have hfz48_12:=blk_frozen BK267.out 12
           go_wp2
           go_ret
           exact ⟨by first | rfl | (simp [errW_none,errW_some] <;> rfl) | (simp [*,errW_none,errW_some] <;> rfl),by repeat (first | (with_reducible first | exact HB.out | apply below_alloc | apply pw_below_drewN | apply below_drew1 | refine below_set ?_ GE267.out | refine below_set ?_ GE285.out) | exact HB.out)⟩
         ·rw [if_neg c39] at H
          have c39b0:(a0_0 == 1)=false:=beq_eq_false_iff_ne.mpr c39
          have c39b1:(a0_0 != 1)=true:=bne_iff_ne.mpr c39
          obtain rfl:=Option.some.inj H
          have hnb49:=NB267_285.out
          have hnc49:=NB285_267.out
          have hcz50_0:wc.cell? ⟨gb267,0,none⟩=some (.int .i64 a0_0):=(blk_cell BK267.out 0).trans rfl
          have hcz50_1:wc.cell? ⟨gb267,1,none⟩=some (.int .u64 a0_1):=(blk_cell BK267.out 1).trans rfl
          have hcz50_2:wc.cell? ⟨gb267,2,none⟩=some (.int .i64 a0_2):=(blk_cell BK267.out 2).trans rfl
          have hcz50_3:wc.cell? ⟨gb267,3,none⟩=some (.int .u64 a0_3):=(blk_cell BK267.out 3).trans rfl
          have hcz50_4:wc.cell? ⟨gb267,4,none⟩=some (.bool a0_4):=(blk_cell BK267.out 4).trans rfl
          have hcz50_5:wc.cell? ⟨gb267,5,none⟩=some (.int .u64 a0_5):=(blk_cell BK267.out 5).trans rfl
          have hcz50_6:wc.cell? ⟨gb267,6,none⟩=some (.bool a0_6):=(blk_cell BK267.out 6).trans rfl
          have hcz50_7:wc.cell? ⟨gb267,7,none⟩=some (.int .u64 a0_7):=(blk_cell BK267.out 7).trans rfl
          have hcz50_8:wc.cell? ⟨gb267,8,none⟩=some (.bool a0_8):=(blk_cell BK267.out 8).trans rfl
          have hcz50_9:wc.cell? ⟨gb267,9,none⟩=some (.int .u64 a0_9):=(blk_cell BK267.out 9).trans rfl
          have hcz50_10:wc.cell? ⟨gb267,10,none⟩=some (.bool a0_10):=(blk_cell BK267.out 10).trans rfl
          have hcz50_11:wc.cell? ⟨gb267,11,none⟩=some (.int .u64 a0_11):=(blk_cell BK267.out 11).trans rfl
          have hcz50_12:wc.cell? ⟨gb267,12,none⟩=some (.bool a0_12):=(blk_cell BK267.out 12).trans rfl
          have hfz50_0:=blk_frozen BK267.out 0
          have hfz50_1:=blk_frozen BK267.out 1
          have hfz50_2:=blk_frozen BK267.out 2
          have hfz50_3:=blk_frozen BK267.out 3
          have hfz50_4:=blk_frozen BK267.out 4
          have hfz50_5:=blk_frozen BK267.out 5
          have hfz50_6:=blk_frozen BK267.out 6
          have hfz50_7:=blk_frozen BK267.out 7
          have hfz50_8:=blk_frozen BK267.out 8
          have hfz50_9:=blk_frozen BK267.out 9
          have hfz50_10:=blk_frozen BK267.out 10
          have hfz50_11:=blk_frozen BK267.out 11
          have hfz50_12:=blk_frozen BK267.out 12
          go_wp2
          go_ret
          exact ⟨by first | rfl | (simp [errW_none,errW_some] <;> rfl) | (simp [*,errW_none,errW_some] <;> rfl),by repeat (first | (with_reducible first | exact HB.out | apply below_alloc | apply pw_below_drewN | apply below_drew1 | refine below_set ?_ GE267.out | refine below_set ?_ GE285.out) | exact HB.out)⟩
        ·rw [if_neg c38] at H
         have c38b0:decide (a2 < t269)=false:=decide_eq_false c38
         clear c38
         obtain rfl:=Option.some.inj H
         go_wp2
         go_ret
         exact ⟨by first | rfl | (simp [errW_none,errW_some] <;> rfl) | (simp [*,errW_none,errW_some] <;> rfl),by repeat (first | (with_reducible first | exact HB.out | apply below_alloc | apply pw_below_drewN | apply below_drew1 | refine below_set ?_ GE267.out | refine below_set ?_ GE285.out) | exact HB.out)⟩
       ·exact absurd rfl c37
  ·rw [if_neg c7] at H
   have c7b0:(t284 == 0)=false:=beq_eq_false_iff_ne.mpr c7
   have c7b1:(t284 != 0)=true:=bne_iff_ne.mpr c7
   by_cases c51:t269=0
   ·rw [if_pos c51] at H
    have c51b0:(t269 == 0)=true:=beq_iff_eq.mpr c51
    have c51b1:(t269 != 0)=false:=bne_eq_false_iff_eq.mpr c51
    clear c51
    by_cases c52:(t270 == 0 && (t271 == 0 && (t272 == 0 && (((t273 == 0 && (!t274)) && ((t275 == 0 && (!t276)) && ((t277 == 0 && (!t278)) && ((t279 == 0 && (!t280)) && ((t281 == 0 && (!t282)))))))))))=true
    ·rw [if_pos c52] at H
     have c52b0:(t270 == 0 && (t271 == 0 && (t272 == 0 && (((t273 == 0 && (!t274)) && ((t275 == 0 && (!t276)) && ((t277 == 0 && (!t278)) && ((t279 == 0 && (!t280)) && ((t281 == 0 && (!t282)))))))))))=true:=c52
     (try (have c52b1:decide (t270=0 && (t271 == 0 && (t272 == 0 && (((t273 == 0 && (!t274)) && ((t275 == 0 && (!t276)) && ((t277 == 0 && (!t278)) && ((t279 == 0 && (!t280)) && ((t281 == 0 && (!t282)))))))))))=true:=by simpa using c52))
     (try (have c52b2:(t270 == 0 && (t271 == 0 && (t272 == 0 && (((t273 == 0 && (!t274)) && ((t275 == 0 && (!t276)) && ((t277 == 0 && (!t278)) && ((t279 == 0 && (!t280)) && ((t281 == 0 && (!t282)))))))))))=true:=by simpa using c52))
     clear c52
     obtain rfl:=Option.some.inj H
     go_enter Tryd.func5,Tryd.ntmps5
     go_wp2_with (first | ((with_reducible refine gate_dst (N:=3) rfl ?_); refine box_event ?hg (N:=3) ?hd (cs:=#[.int .i64 a0_0,.int .u64 a0_1,.int .i64 a0_2,.int .u64 a0_3,.bool a0_4,.int .u64 a0_5,.bool a0_6,.int .u64 a0_7,.bool a0_8,.int .u64 a0_9,.bool a0_10,.int .u64 a0_11,.bool a0_12]) (t:=28) ?hr ?_; (case hd=>rfl); (case hg=>rfl); (case hr=>first | (go_simp; done) | (go_simp; rfl)); intro gb267 hg w53 hbox hb; have n0_:=Aside0.mk (below_step (by repeat (first | (with_reducible first | exact HB.out | apply below_alloc | apply pw_below_drewN | apply below_drew1) | exact HB.out)) hb); have n1_:=Aside0.mk (hbox); have n2_:=Aside0.mk ((by rw [hg]; exact (below_size (by repeat (first | (with_reducible first | exact HB.out | apply below_alloc | apply pw_below_drewN | apply below_drew1) | exact HB.out))):w.heap.size≤gb267)); have n3_:=Aside0.mk ((by rw [hg]; exact (below_size (by repeat (first | (with_reducible first | exact HB.out | apply below_alloc | apply pw_below_drewN | apply below_drew1) | exact HB.out))):w.heap.size≤gb267)); clear HB; have HB:=n0_; have BK267:=n1_; have GW267:=n2_; have GE267:=n3_; clear n0_ n1_ n2_ n3_; clear hb hbox hg) | ((with_reducible refine gate_callee (f:=9) rfl ?_); refine goesL_ (some 12) rfl rfl Tryd.func9 (by kernel_rfl) rfl #[] rfl (by (try simp only [List.map_toArray,List.map_cons,List.map_nil]); first | done | rfl | (simp only [List.length_drop,List.length_take]; rfl)) ?_; (with_reducible refine (complinelaw23_works.calls  true _ (hT.keep (by repeat (first | (with_reducible first | exact HB.out | apply below_alloc | apply pw_below_drewN | apply below_drew1 | refine below_set ?_ GE267.out | refine below_set ?_ GE285.out) | exact HB.out))) A4.out).mono ?_); rintro e w54 ⟨rfl,hb⟩; refine ⟨_,rfl,?_⟩; have n0_:=Aside0.mk (blk_below (g:=gb267) (o:=.cells #[.int .i64 a0_0,.int .u64 a0_1,.int .i64 a0_2,.int .u64 a0_3,.bool a0_4,.int .u64 a0_5,.bool a0_6,.int .u64 a0_7,.bool a0_8,.int .u64 a0_9,.bool a0_10,.int .u64 a0_11,.bool a0_12] 28 (0,0)) (by (with_reducible repeat (first | refine blk_drewN ?_ _ | refine blk_drew ?_ | refine blk_alloc ?_ _)); exact BK267.out) hb); have n1_:=Aside0.mk (below_step (by repeat (first | (with_reducible first | exact HB.out | apply below_alloc | apply pw_below_drewN | apply below_drew1 | refine below_set ?_ GE267.out) | exact HB.out)) hb); clear BK267; clear HB; have BK267:=n0_; have HB:=n1_; clear n0_ n1_; (try clear hb); (try clear hb2); (try clear hk); (try clear hi); have hcz55_0:w54.cell? ⟨gb267,0,none⟩=some (.int .i64 a0_0):=(blk_cell BK267.out 0).trans rfl; have hcz55_1:w54.cell? ⟨gb267,1,none⟩=some (.int .u64 a0_1):=(blk_cell BK267.out 1).trans rfl; have hcz55_2:w54.cell? ⟨gb267,2,none⟩=some (.int .i64 a0_2):=(blk_cell BK267.out 2).trans rfl; have hcz55_3:w54.cell? ⟨gb267,3,none⟩=some (.int .u64 a0_3):=(blk_cell BK267.out 3).trans rfl; have hcz55_4:w54.cell? ⟨gb267,4,none⟩=some (.bool a0_4):=(blk_cell BK267.out 4).trans rfl; have hcz55_5:w54.cell? ⟨gb267,5,none⟩=some (.int .u64 a0_5):=(blk_cell BK267.out 5).trans rfl; have hcz55_6:w54.cell? ⟨gb267,6,none⟩=some (.bool a0_6):=(blk_cell BK267.out 6).trans rfl; have hcz55_7:w54.cell? ⟨gb267,7,none⟩=some (.int .u64 a0_7):=(blk_cell BK267.out 7).trans rfl; have hcz55_8:w54.cell? ⟨gb267,8,none⟩=some (.bool a0_8):=(blk_cell BK267.out 8).trans rfl; have hcz55_9:w54.cell? ⟨gb267,9,none⟩=some (.int .u64 a0_9):=(blk_cell BK267.out 9).trans rfl; have hcz55_10:w54.cell? ⟨gb267,10,none⟩=some (.bool a0_10):=(blk_cell BK267.out 10).trans rfl; have hcz55_11:w54.cell? ⟨gb267,11,none⟩=some (.int .u64 a0_11):=(blk_cell BK267.out 11).trans rfl; have hcz55_12:w54.cell? ⟨gb267,12,none⟩=some (.bool a0_12):=(blk_cell BK267.out 12).trans rfl; have hfz55_0:=blk_frozen BK267.out 0; have hfz55_1:=blk_frozen BK267.out 1; have hfz55_2:=blk_frozen BK267.out 2; have hfz55_3:=blk_frozen BK267.out 3; have hfz55_4:=blk_frozen BK267.out 4; have hfz55_5:=blk_frozen BK267.out 5; have hfz55_6:=blk_frozen BK267.out 6; have hfz55_7:=blk_frozen BK267.out 7; have hfz55_8:=blk_frozen BK267.out 8; have hfz55_9:=blk_frozen BK267.out 9; have hfz55_10:=blk_frozen BK267.out 10; have hfz55_11:=blk_frozen BK267.out 11; have hfz55_12:=blk_frozen BK267.out 12) | ((with_reducible refine gate_callee (f:=16) rfl ?_); refine goesL_ (some 19) rfl rfl Tryd.func16 (by kernel_rfl) rfl #[.agg #[.int .i64 a0_0,.int .u64 a0_1,.int .i64 a0_2,.int .u64 a0_3,.bool a0_4,.int .u64 a0_5,.bool a0_6,.int .u64 a0_7,.bool a0_8,.int .u64 a0_9,.bool a0_10,.int .u64 a0_11,.bool a0_12],.int .u64 a1,.int .u64 a2] rfl (by (try simp only [List.map_toArray,List.map_cons,List.map_nil]); first | done | rfl | (simp only [List.length_drop,List.length_take]; rfl)) ?_; (with_reducible refine (rearm_Again.calls a0_0 a0_1 a0_2 a0_3 a0_4 a0_5 a0_6 a0_7 a0_8 a0_9 a0_10 a0_11 a0_12 a1 a2 t269 t270 t271 t272 t273 t274 t275 t276 t277 t278 t279 t280 t281 t282 t283 t284 _ (hT.keep (by repeat (first | (with_reducible first | exact HB.out | apply below_alloc | apply pw_below_drewN | apply below_drew1 | refine below_set ?_ GE267.out | refine below_set ?_ GE285.out) | exact HB.out))) A6.out).mono ?_); rintro e w56 ⟨rfl,hb⟩; refine ⟨_,rfl,?_⟩; have n0_:=Aside0.mk (blk_below (g:=gb267) (o:=.cells #[.int .i64 a0_0,.int .u64 a0_1,.int .i64 a0_2,.int .u64 a0_3,.bool a0_4,.int .u64 a0_5,.bool a0_6,.int .u64 a0_7,.bool a0_8,.int .u64 a0_9,.bool a0_10,.int .u64 a0_11,.bool a0_12] 28 (0,0)) (by (with_reducible repeat (first | refine blk_drewN ?_ _ | refine blk_drew ?_ | refine blk_alloc ?_ _)); exact BK267.out) hb); have n1_:=Aside0.mk (below_step (by repeat (first | (with_reducible first | exact HB.out | apply below_alloc | apply pw_below_drewN | apply below_drew1 | refine below_set ?_ GE267.out) | exact HB.out)) hb); clear BK267; clear HB; have BK267:=n0_; have HB:=n1_; clear n0_ n1_; (try clear hb); (try clear hb2); (try clear hk); (try clear hi)) | ((with_reducible refine gate_dst (N:=9) rfl ?_); refine box_event ?hg (N:=9) ?hd (cs:=#[.int .i64 0,.int .u64 0,.int .i64 0,.int .u64 0,.bool false,.int .u64 0,.bool false,.int .u64 0,.bool false,.int .u64 0,.bool false,.int .u64 0,.bool false]) (t:=28) ?hr ?_; (case hd=>rfl); (case hg=>rfl); (case hr=>first | (go_simp; done) | (go_simp; rfl)); intro gb285 hg w57 hbox hb; have n0_:=Aside0.mk (blk_below (g:=gb267) (o:=.cells #[.int .i64 a0_0,.int .u64 a0_1,.int .i64 a0_2,.int .u64 a0_3,.bool a0_4,.int .u64 a0_5,.bool a0_6,.int .u64 a0_7,.bool a0_8,.int .u64 a0_9,.bool a0_10,.int .u64 a0_11,.bool a0_12] 28 (0,0)) (by (with_reducible repeat (first | refine blk_drewN ?_ _ | refine blk_drew ?_ | refine blk_alloc ?_ _)); exact BK267.out) hb); have n1_:=Aside0.mk (below_step (by repeat (first | (with_reducible first | exact HB.out | apply below_alloc | apply pw_below_drewN | apply below_drew1 | refine below_set ?_ GE267.out) | exact HB.out)) hb); have n2_:=Aside0.mk (hbox); have n3_:=Aside0.mk ((by rw [hg]; exact (below_size (by repeat (first | (with_reducible first | exact HB.out | apply below_alloc | apply pw_below_drewN | apply below_drew1 | refine below_set ?_ GE267.out) | exact HB.out))):w.heap.size≤gb285)); have n4_:=Aside0.mk ((by rw [hg]; exact (below_size (by repeat (first | (with_reducible first | exact HB.out | apply below_alloc | apply pw_below_drewN | apply below_drew1 | refine below_set ?_ GE267.out) | exact HB.out))):w.heap.size≤gb285)); have n5_:=Aside0.mk ((by rw [hg]; exact Nat.ne_of_lt (blk_lt (g:=gb267) (o:=.cells #[.int .i64 a0_0,.int .u64 a0_1,.int .i64 a0_2,.int .u64 a0_3,.bool a0_4,.int .u64 a0_5,.bool a0_6,.int .u64 a0_7,.bool a0_8,.int .u64 a0_9,.bool a0_10,.int .u64 a0_11,.bool a0_12] 28 (0,0)) (by (with_reducible repeat (first | refine blk_drewN ?_ _ | refine blk_drew ?_ | refine blk_alloc ?_ _)); exact BK267.out)):gb267≠gb285)); have n6_:=Aside0.mk ((by rw [hg]; exact Nat.ne_of_gt (blk_lt (g:=gb267) (o:=.cells #[.int .i64 a0_0,.int .u64 a0_1,.int .i64 a0_2,.int .u64 a0_3,.bool a0_4,.int .u64 a0_5,.bool a0_6,.int .u64 a0_7,.bool a0_8,.int .u64 a0_9,.bool a0_10,.int .u64 a0_11,.bool a0_12] 28 (0,0)) (by (with_reducible repeat (first | refine blk_drewN ?_ _ | refine blk_drew ?_ | refine blk_alloc ?_ _)); exact BK267.out)):gb285≠gb267)); clear BK267; clear HB; have BK267:=n0_; have HB:=n1_; have BK285:=n2_; have GW285:=n3_; have GE285:=n4_; have NB267_285:=n5_; have NB285_267:=n6_; clear n0_ n1_ n2_ n3_ n4_ n5_ n6_; clear hb hbox hg; have hnb58:=NB285_267.out; have hnc58:=NB267_285.out; have hcz59_0:w57.cell? ⟨gb285,0,none⟩=some (.int .i64 0):=(blk_cell BK285.out 0).trans rfl; have hcz59_1:w57.cell? ⟨gb285,1,none⟩=some (.int .u64 0):=(blk_cell BK285.out 1).trans rfl; have hcz59_2:w57.cell? ⟨gb285,2,none⟩=some (.int .i64 0):=(blk_cell BK285.out 2).trans rfl; have hcz59_3:w57.cell? ⟨gb285,3,none⟩=some (.int .u64 0):=(blk_cell BK285.out 3).trans rfl; have hcz59_4:w57.cell? ⟨gb285,4,none⟩=some (.bool false):=(blk_cell BK285.out 4).trans rfl; have hcz59_5:w57.cell? ⟨gb285,5,none⟩=some (.int .u64 0):=(blk_cell BK285.out 5).trans rfl; have hcz59_6:w57.cell? ⟨gb285,6,none⟩=some (.bool false):=(blk_cell BK285.out 6).trans rfl; have hcz59_7:w57.cell? ⟨gb285,7,none⟩=some (.int .u64 0):=(blk_cell BK285.out 7).trans rfl; have hcz59_8:w57.cell? ⟨gb285,8,none⟩=some (.bool false):=(blk_cell BK285.out 8).trans rfl; have hcz59_9:w57.cell? ⟨gb285,9,none⟩=some (.int .u64 0):=(blk_cell BK285.out 9).trans rfl; have hcz59_10:w57.cell? ⟨gb285,10,none⟩=some (.bool false):=(blk_cell BK285.out 10).trans rfl; have hcz59_11:w57.cell? ⟨gb285,11,none⟩=some (.int .u64 0):=(blk_cell BK285.out 11).trans rfl; have hcz59_12:w57.cell? ⟨gb285,12,none⟩=some (.bool false):=(blk_cell BK285.out 12).trans rfl; have hfz59_0:=blk_frozen BK285.out 0; have hfz59_1:=blk_frozen BK285.out 1; have hfz59_2:=blk_frozen BK285.out 2; have hfz59_3:=blk_frozen BK285.out 3; have hfz59_4:=blk_frozen BK285.out 4; have hfz59_5:=blk_frozen BK285.out 5; have hfz59_6:=blk_frozen BK285.out 6; have hfz59_7:=blk_frozen BK285.out 7; have hfz59_8:=blk_frozen BK285.out 8; have hfz59_9:=blk_frozen BK285.out 9; have hfz59_10:=blk_frozen BK285.out 10; have hfz59_11:=blk_frozen BK285.out 11; have hfz59_12:=blk_frozen BK285.out 12))
     go_ret
     exact ⟨by first | rfl | (simp [errW_none,errW_some] <;> rfl) | (simp [*,errW_none,errW_some] <;> rfl),by repeat (first | (with_reducible first | exact HB.out | apply below_alloc | apply pw_below_drewN | apply below_drew1 | refine below_set ?_ GE267.out | refine below_set ?_ GE285.out) | exact HB.out)⟩
    ·rw [if_neg c52] at H
     have c52b0:(t270 == 0 && (t271 == 0 && (t272 == 0 && (((t273 == 0 && (!t274)) && ((t275 == 0 && (!t276)) && ((t277 == 0 && (!t278)) && ((t279 == 0 && (!t280)) && ((t281 == 0 && (!t282)))))))))))=false:=by simpa using c52
     (try (have c52b1:decide (t270=0 && (t271 == 0 && (t272 == 0 && (((t273 == 0 && (!t274)) && ((t275 == 0 && (!t276)) && ((t277 == 0 && (!t278)) && ((t279 == 0 && (!t280)) && ((t281 == 0 && (!t282)))))))))))=false:=by simpa using c52))
     (try (have c52b2:(t270 == 0 && (t271 == 0 && (t272 == 0 && (((t273 == 0 && (!t274)) && ((t275 == 0 && (!t276)) && ((t277 == 0 && (!t278)) && ((t279 == 0 && (!t280)) && ((t281 == 0 && (!t282)))))))))))=false:=by simpa using c52))
     (try (have c52b3:¬ (t270=0 && (t271 == 0 && (t272 == 0 && (((t273 == 0 && (!t274)) && ((t275 == 0 && (!t276)) && ((t277 == 0 && (!t278)) && ((t279 == 0 && (!t280)) && ((t281 == 0 && (!t282))))))))))):=by simpa using c52))
     clear c52
     obtain rfl:=Option.some.inj H
     go_enter Tryd.func5,Tryd.ntmps5
     go_wp2_with (first | ((with_reducible refine gate_dst (N:=3) rfl ?_); refine box_event ?hg (N:=3) ?hd (cs:=#[.int .i64 a0_0,.int .u64 a0_1,.int .i64 a0_2,.int .u64 a0_3,.bool a0_4,.int .u64 a0_5,.bool a0_6,.int .u64 a0_7,.bool a0_8,.int .u64 a0_9,.bool a0_10,.int .u64 a0_11,.bool a0_12]) (t:=28) ?hr ?_; (case hd=>rfl); (case hg=>rfl); (case hr=>first | (go_simp; done) | (go_simp; rfl)); intro gb267 hg w60 hbox hb; have n0_:=Aside0.mk (below_step (by repeat (first | (with_reducible first | exact HB.out | apply below_alloc | apply pw_below_drewN | apply below_drew1) | exact HB.out)) hb); have n1_:=Aside0.mk (hbox); have n2_:=Aside0.mk ((by rw [hg]; exact (below_size (by repeat (first | (with_reducible first | exact HB.out | apply below_alloc | apply pw_below_drewN | apply below_drew1) | exact HB.out))):w.heap.size≤gb267)); have n3_:=Aside0.mk ((by rw [hg]; exact (below_size (by repeat (first | (with_reducible first | exact HB.out | apply below_alloc | apply pw_below_drewN | apply below_drew1) | exact HB.out))):w.heap.size≤gb267)); clear HB; have HB:=n0_; have BK267:=n1_; have GW267:=n2_; have GE267:=n3_; clear n0_ n1_ n2_ n3_; clear hb hbox hg) | ((with_reducible refine gate_callee (f:=9) rfl ?_); refine goesL_ (some 12) rfl rfl Tryd.func9 (by kernel_rfl) rfl #[] rfl (by (try simp only [List.map_toArray,List.map_cons,List.map_nil]); first | done | rfl | (simp only [List.length_drop,List.length_take]; rfl)) ?_; (with_reducible refine (complinelaw23_works.calls  true _ (hT.keep (by repeat (first | (with_reducible first | exact HB.out | apply below_alloc | apply pw_below_drewN | apply below_drew1 | refine below_set ?_ GE267.out | refine below_set ?_ GE285.out) | exact HB.out))) A4.out).mono ?_); rintro e w61 ⟨rfl,hb⟩; refine ⟨_,rfl,?_⟩; have n0_:=Aside0.mk (blk_below (g:=gb267) (o:=.cells #[.int .i64 a0_0,.int .u64 a0_1,.int .i64 a0_2,.int .u64 a0_3,.bool a0_4,.int .u64 a0_5,.bool a0_6,.int .u64 a0_7,.bool a0_8,.int .u64 a0_9,.bool a0_10,.int .u64 a0_11,.bool a0_12] 28 (0,0)) (by (with_reducible repeat (first | refine blk_drewN ?_ _ | refine blk_drew ?_ | refine blk_alloc ?_ _)); exact BK267.out) hb); have n1_:=Aside0.mk (below_step (by repeat (first | (with_reducible first | exact HB.out | apply below_alloc | apply pw_below_drewN | apply below_drew1 | refine below_set ?_ GE267.out) | exact HB.out)) hb); clear BK267; clear HB; have BK267:=n0_; have HB:=n1_; clear n0_ n1_; (try clear hb); (try clear hb2); (try clear hk); (try clear hi); have hcz62_0:w61.cell? ⟨gb267,0,none⟩=some (.int .i64 a0_0):=(blk_cell BK267.out 0).trans rfl; have hcz62_1:w61.cell? ⟨gb267,1,none⟩=some (.int .u64 a0_1):=(blk_cell BK267.out 1).trans rfl; have hcz62_2:w61.cell? ⟨gb267,2,none⟩=some (.int .i64 a0_2):=(blk_cell BK267.out 2).trans rfl; have hcz62_3:w61.cell? ⟨gb267,3,none⟩=some (.int .u64 a0_3):=(blk_cell BK267.out 3).trans rfl; have hcz62_4:w61.cell? ⟨gb267,4,none⟩=some (.bool a0_4):=(blk_cell BK267.out 4).trans rfl; have hcz62_5:w61.cell? ⟨gb267,5,none⟩=some (.int .u64 a0_5):=(blk_cell BK267.out 5).trans rfl; have hcz62_6:w61.cell? ⟨gb267,6,none⟩=some (.bool a0_6):=(blk_cell BK267.out 6).trans rfl; have hcz62_7:w61.cell? ⟨gb267,7,none⟩=some (.int .u64 a0_7):=(blk_cell BK267.out 7).trans rfl; have hcz62_8:w61.cell? ⟨gb267,8,none⟩=some (.bool a0_8):=(blk_cell BK267.out 8).trans rfl; have hcz62_9:w61.cell? ⟨gb267,9,none⟩=some (.int .u64 a0_9):=(blk_cell BK267.out 9).trans rfl; have hcz62_10:w61.cell? ⟨gb267,10,none⟩=some (.bool a0_10):=(blk_cell BK267.out 10).trans rfl; have hcz62_11:w61.cell? ⟨gb267,11,none⟩=some (.int .u64 a0_11):=(blk_cell BK267.out 11).trans rfl; have hcz62_12:w61.cell? ⟨gb267,12,none⟩=some (.bool a0_12):=(blk_cell BK267.out 12).trans rfl; have hfz62_0:=blk_frozen BK267.out 0; have hfz62_1:=blk_frozen BK267.out 1; have hfz62_2:=blk_frozen BK267.out 2; have hfz62_3:=blk_frozen BK267.out 3; have hfz62_4:=blk_frozen BK267.out 4; have hfz62_5:=blk_frozen BK267.out 5; have hfz62_6:=blk_frozen BK267.out 6; have hfz62_7:=blk_frozen BK267.out 7; have hfz62_8:=blk_frozen BK267.out 8; have hfz62_9:=blk_frozen BK267.out 9; have hfz62_10:=blk_frozen BK267.out 10; have hfz62_11:=blk_frozen BK267.out 11; have hfz62_12:=blk_frozen BK267.out 12) | ((with_reducible refine gate_callee (f:=16) rfl ?_); refine goesL_ (some 19) rfl rfl Tryd.func16 (by kernel_rfl) rfl #[.agg #[.int .i64 a0_0,.int .u64 a0_1,.int .i64 a0_2,.int .u64 a0_3,.bool a0_4,.int .u64 a0_5,.bool a0_6,.int .u64 a0_7,.bool a0_8,.int .u64 a0_9,.bool a0_10,.int .u64 a0_11,.bool a0_12],.int .u64 a1,.int .u64 a2] rfl (by (try simp only [List.map_toArray,List.map_cons,List.map_nil]); first | done | rfl | (simp only [List.length_drop,List.length_take]; rfl)) ?_; (with_reducible refine (rearm_Again.calls a0_0 a0_1 a0_2 a0_3 a0_4 a0_5 a0_6 a0_7 a0_8 a0_9 a0_10 a0_11 a0_12 a1 a2 t269 t270 t271 t272 t273 t274 t275 t276 t277 t278 t279 t280 t281 t282 t283 t284 _ (hT.keep (by repeat (first | (with_reducible first | exact HB.out | apply below_alloc | apply pw_below_drewN | apply below_drew1 | refine below_set ?_ GE267.out | refine below_set ?_ GE285.out) | exact HB.out))) A6.out).mono ?_); rintro e w63 ⟨rfl,hb⟩; refine ⟨_,rfl,?_⟩; have n0_:=Aside0.mk (blk_below (g:=gb267) (o:=.cells #[.int .i64 a0_0,.int .u64 a0_1,.int .i64 a0_2,.int .u64 a0_3,.bool a0_4,.int .u64 a0_5,.bool a0_6,.int .u64 a0_7,.bool a0_8,.int .u64 a0_9,.bool a0_10,.int .u64 a0_11,.bool a0_12] 28 (0,0)) (by (with_reducible repeat (first | refine blk_drewN ?_ _ | refine blk_drew ?_ | refine blk_alloc ?_ _)); exact BK267.out) hb); have n1_:=Aside0.mk (below_step (by repeat (first | (with_reducible first | exact HB.out | apply below_alloc | apply pw_below_drewN | apply below_drew1 | refine below_set ?_ GE267.out) | exact HB.out)) hb); clear BK267; clear HB; have BK267:=n0_; have HB:=n1_; clear n0_ n1_; (try clear hb); (try clear hb2); (try clear hk); (try clear hi)) | ((with_reducible refine gate_dst (N:=9) rfl ?_); refine box_event ?hg (N:=9) ?hd (cs:=#[.int .i64 0,.int .u64 0,.int .i64 0,.int .u64 0,.bool false,.int .u64 0,.bool false,.int .u64 0,.bool false,.int .u64 0,.bool false,.int .u64 0,.bool false]) (t:=28) ?hr ?_; (case hd=>rfl); (case hg=>rfl); (case hr=>first | (go_simp; done) | (go_simp; rfl)); intro gb285 hg w64 hbox hb; have n0_:=Aside0.mk (blk_below (g:=gb267) (o:=.cells #[.int .i64 a0_0,.int .u64 a0_1,.int .i64 a0_2,.int .u64 a0_3,.bool a0_4,.int .u64 a0_5,.bool a0_6,.int .u64 a0_7,.bool a0_8,.int .u64 a0_9,.bool a0_10,.int .u64 a0_11,.bool a0_12] 28 (0,0)) (by (with_reducible repeat (first | refine blk_drewN ?_ _ | refine blk_drew ?_ | refine blk_alloc ?_ _)); exact BK267.out) hb); have n1_:=Aside0.mk (below_step (by repeat (first | (with_reducible first | exact HB.out | apply below_alloc | apply pw_below_drewN | apply below_drew1 | refine below_set ?_ GE267.out) | exact HB.out)) hb); have n2_:=Aside0.mk (hbox); have n3_:=Aside0.mk ((by rw [hg]; exact (below_size (by repeat (first | (with_reducible first | exact HB.out | apply below_alloc | apply pw_below_drewN | apply below_drew1 | refine below_set ?_ GE267.out) | exact HB.out))):w.heap.size≤gb285)); have n4_:=Aside0.mk ((by rw [hg]; exact (below_size (by repeat (first | (with_reducible first | exact HB.out | apply below_alloc | apply pw_below_drewN | apply below_drew1 | refine below_set ?_ GE267.out) | exact HB.out))):w.heap.size≤gb285)); have n5_:=Aside0.mk ((by rw [hg]; exact Nat.ne_of_lt (blk_lt (g:=gb267) (o:=.cells #[.int .i64 a0_0,.int .u64 a0_1,.int .i64 a0_2,.int .u64 a0_3,.bool a0_4,.int .u64 a0_5,.bool a0_6,.int .u64 a0_7,.bool a0_8,.int .u64 a0_9,.bool a0_10,.int .u64 a0_11,.bool a0_12] 28 (0,0)) (by (with_reducible repeat (first | refine blk_drewN ?_ _ | refine blk_drew ?_ | refine blk_alloc ?_ _)); exact BK267.out)):gb267≠gb285)); have n6_:=Aside0.mk ((by rw [hg]; exact Nat.ne_of_gt (blk_lt (g:=gb267) (o:=.cells #[.int .i64 a0_0,.int .u64 a0_1,.int .i64 a0_2,.int .u64 a0_3,.bool a0_4,.int .u64 a0_5,.bool a0_6,.int .u64 a0_7,.bool a0_8,.int .u64 a0_9,.bool a0_10,.int .u64 a0_11,.bool a0_12] 28 (0,0)) (by (with_reducible repeat (first | refine blk_drewN ?_ _ | refine blk_drew ?_ | refine blk_alloc ?_ _)); exact BK267.out)):gb285≠gb267)); clear BK267; clear HB; have BK267:=n0_; have HB:=n1_; have BK285:=n2_; have GW285:=n3_; have GE285:=n4_; have NB267_285:=n5_; have NB285_267:=n6_; clear n0_ n1_ n2_ n3_ n4_ n5_ n6_; clear hb hbox hg; have hnb65:=NB285_267.out; have hnc65:=NB267_285.out; have hcz66_0:w64.cell? ⟨gb285,0,none⟩=some (.int .i64 0):=(blk_cell BK285.out 0).trans rfl; have hcz66_1:w64.cell? ⟨gb285,1,none⟩=some (.int .u64 0):=(blk_cell BK285.out 1).trans rfl; have hcz66_2:w64.cell? ⟨gb285,2,none⟩=some (.int .i64 0):=(blk_cell BK285.out 2).trans rfl; have hcz66_3:w64.cell? ⟨gb285,3,none⟩=some (.int .u64 0):=(blk_cell BK285.out 3).trans rfl; have hcz66_4:w64.cell? ⟨gb285,4,none⟩=some (.bool false):=(blk_cell BK285.out 4).trans rfl; have hcz66_5:w64.cell? ⟨gb285,5,none⟩=some (.int .u64 0):=(blk_cell BK285.out 5).trans rfl; have hcz66_6:w64.cell? ⟨gb285,6,none⟩=some (.bool false):=(blk_cell BK285.out 6).trans rfl; have hcz66_7:w64.cell? ⟨gb285,7,none⟩=some (.int .u64 0):=(blk_cell BK285.out 7).trans rfl; have hcz66_8:w64.cell? ⟨gb285,8,none⟩=some (.bool false):=(blk_cell BK285.out 8).trans rfl; have hcz66_9:w64.cell? ⟨gb285,9,none⟩=some (.int .u64 0):=(blk_cell BK285.out 9).trans rfl; have hcz66_10:w64.cell? ⟨gb285,10,none⟩=some (.bool false):=(blk_cell BK285.out 10).trans rfl; have hcz66_11:w64.cell? ⟨gb285,11,none⟩=some (.int .u64 0):=(blk_cell BK285.out 11).trans rfl; have hcz66_12:w64.cell? ⟨gb285,12,none⟩=some (.bool false):=(blk_cell BK285.out 12).trans rfl; have hfz66_0:=blk_frozen BK285.out 0; have hfz66_1:=blk_frozen BK285.out 1; have hfz66_2:=blk_frozen BK285.out 2; have hfz66_3:=blk_frozen BK285.out 3; have hfz66_4:=blk_frozen BK285.out 4; have hfz66_5:=blk_frozen BK285.out 5; have hfz66_6:=blk_frozen BK285.out 6; have hfz66_7:=blk_frozen BK285.out 7; have hfz66_8:=blk_frozen BK285.out 8; have hfz66_9:=blk_frozen BK285.out 9; have hfz66_10:=blk_frozen BK285.out 10; have hfz66_11:=blk_frozen BK285.out 11; have hfz66_12:=blk_frozen BK285.out 12))
     go_ret
     exact ⟨by first | rfl | (simp [errW_none,errW_some] <;> rfl) | (simp [*,errW_none,errW_some] <;> rfl),by repeat (first | (with_reducible first | exact HB.out | apply below_alloc | apply pw_below_drewN | apply below_drew1 | refine below_set ?_ GE267.out | refine below_set ?_ GE285.out) | exact HB.out)⟩
   ·rw [if_neg c51] at H
    have c51b0:(t269 == 0)=false:=beq_eq_false_iff_ne.mpr c51
    have c51b1:(t269 != 0)=true:=bne_iff_ne.mpr c51
    obtain rfl:=Option.some.inj H
    go_enter Tryd.func5,Tryd.ntmps5
    go_wp2_with (first | ((with_reducible refine gate_dst (N:=3) rfl ?_); refine box_event ?hg (N:=3) ?hd (cs:=#[.int .i64 a0_0,.int .u64 a0_1,.int .i64 a0_2,.int .u64 a0_3,.bool a0_4,.int .u64 a0_5,.bool a0_6,.int .u64 a0_7,.bool a0_8,.int .u64 a0_9,.bool a0_10,.int .u64 a0_11,.bool a0_12]) (t:=28) ?hr ?_; (case hd=>rfl); (case hg=>rfl); (case hr=>first | (go_simp; done) | (go_simp; rfl)); intro gb267 hg w67 hbox hb; have n0_:=Aside0.mk (below_step (by repeat (first | (with_reducible first | exact HB.out | apply below_alloc | apply pw_below_drewN | apply below_drew1) | exact HB.out)) hb); have n1_:=Aside0.mk (hbox); have n2_:=Aside0.mk ((by rw [hg]; exact (below_size (by repeat (first | (with_reducible first | exact HB.out | apply below_alloc | apply pw_below_drewN | apply below_drew1) | exact HB.out))):w.heap.size≤gb267)); have n3_:=Aside0.mk ((by rw [hg]; exact (below_size (by repeat (first | (with_reducible first | exact HB.out | apply below_alloc | apply pw_below_drewN | apply below_drew1) | exact HB.out))):w.heap.size≤gb267)); clear HB; have HB:=n0_; have BK267:=n1_; have GW267:=n2_; have GE267:=n3_; clear n0_ n1_ n2_ n3_; clear hb hbox hg) | ((with_reducible refine gate_callee (f:=9) rfl ?_); refine goesL_ (some 12) rfl rfl Tryd.func9 (by kernel_rfl) rfl #[] rfl (by (try simp only [List.map_toArray,List.map_cons,List.map_nil]); first | done | rfl | (simp only [List.length_drop,List.length_take]; rfl)) ?_; (with_reducible refine (complinelaw23_works.calls  true _ (hT.keep (by repeat (first | (with_reducible first | exact HB.out | apply below_alloc | apply pw_below_drewN | apply below_drew1 | refine below_set ?_ GE267.out | refine below_set ?_ GE285.out) | exact HB.out))) A4.out).mono ?_); rintro e w68 ⟨rfl,hb⟩; refine ⟨_,rfl,?_⟩; have n0_:=Aside0.mk (blk_below (g:=gb267) (o:=.cells #[.int .i64 a0_0,.int .u64 a0_1,.int .i64 a0_2,.int .u64 a0_3,.bool a0_4,.int .u64 a0_5,.bool a0_6,.int .u64 a0_7,.bool a0_8,.int .u64 a0_9,.bool a0_10,.int .u64 a0_11,.bool a0_12] 28 (0,0)) (by (with_reducible repeat (first | refine blk_drewN ?_ _ | refine blk_drew ?_ | refine blk_alloc ?_ _)); exact BK267.out) hb); have n1_:=Aside0.mk (below_step (by repeat (first | (with_reducible first | exact HB.out | apply below_alloc | apply pw_below_drewN | apply below_drew1 | refine below_set ?_ GE267.out) | exact HB.out)) hb); clear BK267; clear HB; have BK267:=n0_; have HB:=n1_; clear n0_ n1_; (try clear hb); (try clear hb2); (try clear hk); (try clear hi); have hcz69_0:w68.cell? ⟨gb267,0,none⟩=some (.int .i64 a0_0):=(blk_cell BK267.out 0).trans rfl; have hcz69_1:w68.cell? ⟨gb267,1,none⟩=some (.int .u64 a0_1):=(blk_cell BK267.out 1).trans rfl; have hcz69_2:w68.cell? ⟨gb267,2,none⟩=some (.int .i64 a0_2):=(blk_cell BK267.out 2).trans rfl; have hcz69_3:w68.cell? ⟨gb267,3,none⟩=some (.int .u64 a0_3):=(blk_cell BK267.out 3).trans rfl; have hcz69_4:w68.cell? ⟨gb267,4,none⟩=some (.bool a0_4):=(blk_cell BK267.out 4).trans rfl; have hcz69_5:w68.cell? ⟨gb267,5,none⟩=some (.int .u64 a0_5):=(blk_cell BK267.out 5).trans rfl; have hcz69_6:w68.cell? ⟨gb267,6,none⟩=some (.bool a0_6):=(blk_cell BK267.out 6).trans rfl; have hcz69_7:w68.cell? ⟨gb267,7,none⟩=some (.int .u64 a0_7):=(blk_cell BK267.out 7).trans rfl; have hcz69_8:w68.cell? ⟨gb267,8,none⟩=some (.bool a0_8):=(blk_cell BK267.out 8).trans rfl; have hcz69_9:w68.cell? ⟨gb267,9,none⟩=some (.int .u64 a0_9):=(blk_cell BK267.out 9).trans rfl; have hcz69_10:w68.cell? ⟨gb267,10,none⟩=some (.bool a0_10):=(blk_cell BK267.out 10).trans rfl; have hcz69_11:w68.cell? ⟨gb267,11,none⟩=some (.int .u64 a0_11):=(blk_cell BK267.out 11).trans rfl; have hcz69_12:w68.cell? ⟨gb267,12,none⟩=some (.bool a0_12):=(blk_cell BK267.out 12).trans rfl; have hfz69_0:=blk_frozen BK267.out 0; have hfz69_1:=blk_frozen BK267.out 1; have hfz69_2:=blk_frozen BK267.out 2; have hfz69_3:=blk_frozen BK267.out 3; have hfz69_4:=blk_frozen BK267.out 4; have hfz69_5:=blk_frozen BK267.out 5; have hfz69_6:=blk_frozen BK267.out 6; have hfz69_7:=blk_frozen BK267.out 7; have hfz69_8:=blk_frozen BK267.out 8; have hfz69_9:=blk_frozen BK267.out 9; have hfz69_10:=blk_frozen BK267.out 10; have hfz69_11:=blk_frozen BK267.out 11; have hfz69_12:=blk_frozen BK267.out 12) | ((with_reducible refine gate_callee (f:=16) rfl ?_); refine goesL_ (some 19) rfl rfl Tryd.func16 (by kernel_rfl) rfl #[.agg #[.int .i64 a0_0,.int .u64 a0_1,.int .i64 a0_2,.int .u64 a0_3,.bool a0_4,.int .u64 a0_5,.bool a0_6,.int .u64 a0_7,.bool a0_8,.int .u64 a0_9,.bool a0_10,.int .u64 a0_11,.bool a0_12],.int .u64 a1,.int .u64 a2] rfl (by (try simp only [List.map_toArray,List.map_cons,List.map_nil]); first | done | rfl | (simp only [List.length_drop,List.length_take]; rfl)) ?_; (with_reducible refine (rearm_Again.calls a0_0 a0_1 a0_2 a0_3 a0_4 a0_5 a0_6 a0_7 a0_8 a0_9 a0_10 a0_11 a0_12 a1 a2 t269 t270 t271 t272 t273 t274 t275 t276 t277 t278 t279 t280 t281 t282 t283 t284 _ (hT.keep (by repeat (first | (with_reducible first | exact HB.out | apply below_alloc | apply pw_below_drewN | apply below_drew1 | refine below_set ?_ GE267.out | refine below_set ?_ GE285.out) | exact HB.out))) A6.out).mono ?_); rintro e w70 ⟨rfl,hb⟩; refine ⟨_,rfl,?_⟩; have n0_:=Aside0.mk (blk_below (g:=gb267) (o:=.cells #[.int .i64 a0_0,.int .u64 a0_1,.int .i64 a0_2,.int .u64 a0_3,.bool a0_4,.int .u64 a0_5,.bool a0_6,.int .u64 a0_7,.bool a0_8,.int .u64 a0_9,.bool a0_10,.int .u64 a0_11,.bool a0_12] 28 (0,0)) (by (with_reducible repeat (first | refine blk_drewN ?_ _ | refine blk_drew ?_ | refine blk_alloc ?_ _)); exact BK267.out) hb); have n1_:=Aside0.mk (below_step (by repeat (first | (with_reducible first | exact HB.out | apply below_alloc | apply pw_below_drewN | apply below_drew1 | refine below_set ?_ GE267.out) | exact HB.out)) hb); clear BK267; clear HB; have BK267:=n0_; have HB:=n1_; clear n0_ n1_; (try clear hb); (try clear hb2); (try clear hk); (try clear hi)) | ((with_reducible refine gate_dst (N:=9) rfl ?_); refine box_event ?hg (N:=9) ?hd (cs:=#[.int .i64 0,.int .u64 0,.int .i64 0,.int .u64 0,.bool false,.int .u64 0,.bool false,.int .u64 0,.bool false,.int .u64 0,.bool false,.int .u64 0,.bool false]) (t:=28) ?hr ?_; (case hd=>rfl); (case hg=>rfl); (case hr=>first | (go_simp; done) | (go_simp; rfl)); intro gb285 hg w71 hbox hb; have n0_:=Aside0.mk (blk_below (g:=gb267) (o:=.cells #[.int .i64 a0_0,.int .u64 a0_1,.int .i64 a0_2,.int .u64 a0_3,.bool a0_4,.int .u64 a0_5,.bool a0_6,.int .u64 a0_7,.bool a0_8,.int .u64 a0_9,.bool a0_10,.int .u64 a0_11,.bool a0_12] 28 (0,0)) (by (with_reducible repeat (first | refine blk_drewN ?_ _ | refine blk_drew ?_ | refine blk_alloc ?_ _)); exact BK267.out) hb); have n1_:=Aside0.mk (below_step (by repeat (first | (with_reducible first | exact HB.out | apply below_alloc | apply pw_below_drewN | apply below_drew1 | refine below_set ?_ GE267.out) | exact HB.out)) hb); have n2_:=Aside0.mk (hbox); have n3_:=Aside0.mk ((by rw [hg]; exact (below_size (by repeat (first | (with_reducible first | exact HB.out | apply below_alloc | apply pw_below_drewN | apply below_drew1 | refine below_set ?_ GE267.out) | exact HB.out))):w.heap.size≤gb285)); have n4_:=Aside0.mk ((by rw [hg]; exact (below_size (by repeat (first | (with_reducible first | exact HB.out | apply below_alloc | apply pw_below_drewN | apply below_drew1 | refine below_set ?_ GE267.out) | exact HB.out))):w.heap.size≤gb285)); have n5_:=Aside0.mk ((by rw [hg]; exact Nat.ne_of_lt (blk_lt (g:=gb267) (o:=.cells #[.int .i64 a0_0,.int .u64 a0_1,.int .i64 a0_2,.int .u64 a0_3,.bool a0_4,.int .u64 a0_5,.bool a0_6,.int .u64 a0_7,.bool a0_8,.int .u64 a0_9,.bool a0_10,.int .u64 a0_11,.bool a0_12] 28 (0,0)) (by (with_reducible repeat (first | refine blk_drewN ?_ _ | refine blk_drew ?_ | refine blk_alloc ?_ _)); exact BK267.out)):gb267≠gb285)); have n6_:=Aside0.mk ((by rw [hg]; exact Nat.ne_of_gt (blk_lt (g:=gb267) (o:=.cells #[.int .i64 a0_0,.int .u64 a0_1,.int .i64 a0_2,.int .u64 a0_3,.bool a0_4,.int .u64 a0_5,.bool a0_6,.int .u64 a0_7,.bool a0_8,.int .u64 a0_9,.bool a0_10,.int .u64 a0_11,.bool a0_12] 28 (0,0)) (by (with_reducible repeat (first | refine blk_drewN ?_ _ | refine blk_drew ?_ | refine blk_alloc ?_ _)); exact BK267.out)):gb285≠gb267)); clear BK267; clear HB; have BK267:=n0_; have HB:=n1_; have BK285:=n2_; have GW285:=n3_; have GE285:=n4_; have NB267_285:=n5_; have NB285_267:=n6_; clear n0_ n1_ n2_ n3_ n4_ n5_ n6_; clear hb hbox hg; have hnb72:=NB285_267.out; have hnc72:=NB267_285.out; have hcz73_0:w71.cell? ⟨gb285,0,none⟩=some (.int .i64 0):=(blk_cell BK285.out 0).trans rfl; have hcz73_1:w71.cell? ⟨gb285,1,none⟩=some (.int .u64 0):=(blk_cell BK285.out 1).trans rfl; have hcz73_2:w71.cell? ⟨gb285,2,none⟩=some (.int .i64 0):=(blk_cell BK285.out 2).trans rfl; have hcz73_3:w71.cell? ⟨gb285,3,none⟩=some (.int .u64 0):=(blk_cell BK285.out 3).trans rfl; have hcz73_4:w71.cell? ⟨gb285,4,none⟩=some (.bool false):=(blk_cell BK285.out 4).trans rfl; have hcz73_5:w71.cell? ⟨gb285,5,none⟩=some (.int .u64 0):=(blk_cell BK285.out 5).trans rfl; have hcz73_6:w71.cell? ⟨gb285,6,none⟩=some (.bool false):=(blk_cell BK285.out 6).trans rfl; have hcz73_7:w71.cell? ⟨gb285,7,none⟩=some (.int .u64 0):=(blk_cell BK285.out 7).trans rfl; have hcz73_8:w71.cell? ⟨gb285,8,none⟩=some (.bool false):=(blk_cell BK285.out 8).trans rfl; have hcz73_9:w71.cell? ⟨gb285,9,none⟩=some (.int .u64 0):=(blk_cell BK285.out 9).trans rfl; have hcz73_10:w71.cell? ⟨gb285,10,none⟩=some (.bool false):=(blk_cell BK285.out 10).trans rfl; have hcz73_11:w71.cell? ⟨gb285,11,none⟩=some (.int .u64 0):=(blk_cell BK285.out 11).trans rfl; have hcz73_12:w71.cell? ⟨gb285,12,none⟩=some (.bool false):=(blk_cell BK285.out 12).trans rfl; have hfz73_0:=blk_frozen BK285.out 0; have hfz73_1:=blk_frozen BK285.out 1; have hfz73_2:=blk_frozen BK285.out 2; have hfz73_3:=blk_frozen BK285.out 3; have hfz73_4:=blk_frozen BK285.out 4; have hfz73_5:=blk_frozen BK285.out 5; have hfz73_6:=blk_frozen BK285.out 6; have hfz73_7:=blk_frozen BK285.out 7; have hfz73_8:=blk_frozen BK285.out 8; have hfz73_9:=blk_frozen BK285.out 9; have hfz73_10:=blk_frozen BK285.out 10; have hfz73_11:=blk_frozen BK285.out 11; have hfz73_12:=blk_frozen BK285.out 12))
    go_ret
    exact ⟨by first | rfl | (simp [errW_none,errW_some] <;> rfl) | (simp [*,errW_none,errW_some] <;> rfl),by repeat (first | (with_reducible first | exact HB.out | apply below_alloc | apply pw_below_drewN | apply below_drew1 | refine below_set ?_ GE267.out | refine below_set ?_ GE285.out) | exact HB.out)⟩
 ·replace c5:=Bool.eq_false_iff.mpr c5
  subst c5
  have H1:(some false)=some r:=by rw [if_neg (show ¬ (false=true) by decide)] at H; exact H
  clear H
  have H:=H1
  clear H1
  obtain rfl:=Option.some.inj H
  go_enter Tryd.func5,Tryd.ntmps5
  go_wp2_with (first | ((with_reducible refine gate_dst (N:=3) rfl ?_); refine box_event ?hg (N:=3) ?hd (cs:=#[.int .i64 a0_0,.int .u64 a0_1,.int .i64 a0_2,.int .u64 a0_3,.bool a0_4,.int .u64 a0_5,.bool a0_6,.int .u64 a0_7,.bool a0_8,.int .u64 a0_9,.bool a0_10,.int .u64 a0_11,.bool a0_12]) (t:=28) ?hr ?_; (case hd=>rfl); (case hg=>rfl); (case hr=>first | (go_simp; done) | (go_simp; rfl)); intro gb267 hg w74 hbox hb; have n0_:=Aside0.mk (below_step (by repeat (first | (with_reducible first | exact HB.out | apply below_alloc | apply pw_below_drewN | apply below_drew1) | exact HB.out)) hb); have n1_:=Aside0.mk (hbox); have n2_:=Aside0.mk ((by rw [hg]; exact (below_size (by repeat (first | (with_reducible first | exact HB.out | apply below_alloc | apply pw_below_drewN | apply below_drew1) | exact HB.out))):w.heap.size≤gb267)); have n3_:=Aside0.mk ((by rw [hg]; exact (below_size (by repeat (first | (with_reducible first | exact HB.out | apply below_alloc | apply pw_below_drewN | apply below_drew1) | exact HB.out))):w.heap.size≤gb267)); clear HB; have HB:=n0_; have BK267:=n1_; have GW267:=n2_; have GE267:=n3_; clear n0_ n1_ n2_ n3_; clear hb hbox hg) | ((with_reducible refine gate_callee (f:=9) rfl ?_); refine goesL_ (some 12) rfl rfl Tryd.func9 (by kernel_rfl) rfl #[] rfl (by (try simp only [List.map_toArray,List.map_cons,List.map_nil]); first | done | rfl | (simp only [List.length_drop,List.length_take]; rfl)) ?_; (with_reducible refine (complinelaw23_works.calls  false _ (hT.keep (by repeat (first | (with_reducible first | exact HB.out | apply below_alloc | apply pw_below_drewN | apply below_drew1 | refine below_set ?_ GE267.out | refine below_set ?_ GE285.out) | exact HB.out))) A4.out).mono ?_); rintro e w75 ⟨rfl,hb⟩; refine ⟨_,rfl,?_⟩; have n0_:=Aside0.mk (blk_below (g:=gb267) (o:=.cells #[.int .i64 a0_0,.int .u64 a0_1,.int .i64 a0_2,.int .u64 a0_3,.bool a0_4,.int .u64 a0_5,.bool a0_6,.int .u64 a0_7,.bool a0_8,.int .u64 a0_9,.bool a0_10,.int .u64 a0_11,.bool a0_12] 28 (0,0)) (by (with_reducible repeat (first | refine blk_drewN ?_ _ | refine blk_drew ?_ | refine blk_alloc ?_ _)); exact BK267.out) hb); have n1_:=Aside0.mk (below_step (by repeat (first | (with_reducible first | exact HB.out | apply below_alloc | apply pw_below_drewN | apply below_drew1 | refine below_set ?_ GE267.out) | exact HB.out)) hb); clear BK267; clear HB; have BK267:=n0_; have HB:=n1_; clear n0_ n1_; (try clear hb); (try clear hb2); (try clear hk); (try clear hi)))
  go_ret
  exact ⟨by first | rfl | (simp [errW_none,errW_some] <;> rfl) | (simp [*,errW_none,errW_some] <;> rfl),by repeat (first | (with_reducible first | exact HB.out | apply below_alloc | apply pw_below_drewN | apply below_drew1 | refine below_set ?_ GE267.out) | exact HB.out)⟩
end Go.Proofs.YtepflnfnkfkldaaDoor.PRea
