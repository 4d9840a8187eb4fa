-- Written by a program of this session (gprint.py) over the kit's print.
import Derived.Test.YtepflnfnkfkldaaDoorPReax0
import Derived.Test.YtepflnfnkfkldaaDoorPReax3
namespace Go.Proofs.YtepflnfnkfkldaaDoor.PRea
open Go.RowKit Go.Proofs.YtepflnfnkfkldaaDoorW.PrintWords Go.Proofs.YtepflnfnkfkldaaDoorW.PrintLast Go.Proofs.YtepflnfnkfkldaaDoorW.PrintMore
attribute [local go_sem] max2_int min2_int max_two min_two max_three min_three max_four min_four
set_option linter.unusedVariables false
set_option linter.unusedSimpArgs false
/-! This session's own: tick.Add and tick.Sub, walked. -/
theorem Rea.add64 (x y:Nat)(w:World) :
  (callFunc 79 #[.int .u64 x,.int .u64 y,.int .u64 0]).run Tryd.prog w =
   .ok (.value (.tuple #[.int .u64 (((x+y) % 18446744073709551616:Nat):Int),.int .u64 (((x+y) / 18446744073709551616:Nat):Int)])) w:=by
 rw [run_callFunc_extern Tryd.func79 (by kernel_rfl) (by kernel_rfl) (by kernel_rfl) (e:=add64Entry) (by kernel_rfl)]
 have h:=run_add64 (P:=Tryd.prog) (x:Int) (y:Int) 0 (w:=w) (by omega) (by omega) (by omega) (by omega)
 rw [h]
 simp only [Result.andThen]
 congr 5 <;> omega
theorem Rea.sub64 (x y:Nat)(w:World) :
  (callFunc 99 #[.int .u64 x,.int .u64 y,.int .u64 0]).run Tryd.prog w =
   .ok (.value (.tuple #[.int .u64 (((x+18446744073709551616 - y) % 18446744073709551616:Nat):Int),.int .u64 ((if x < y then 1 else 0:Nat):Int)])) w:=by
 rw [run_callFunc_extern Tryd.func99 (by kernel_rfl) (by kernel_rfl) (by kernel_rfl) (e:=sub64Entry) (by kernel_rfl)]
 exact run_sub64 x y 0 (by omega) w ▸ rfl
set_option maxHeartbeats 4000000 in
theorem Rea.tickAdd (x y:Nat)(hx:x < 18446744073709551616)(hy:y < 18446744073709551616)(w:World) :
  Calls Tryd.prog 46 #[.int .u64 x,.int .u64 y] w fun e w'=>e=.returned (.tuple #[.int .u64 (if 18446744073709551616≤(x:Int)+y then 18446744073709551615 else (x:Int)+y),.bool (decide (18446744073709551616≤(x:Int)+y))])∧Drawn0 w w':=by
 have ha:=Rea.add64 x y
 by_cases h:18446744073709551616≤(x:Int)+y
 ·rw [if_pos h,decide_eq_true h]
  have h1:(((x+y) / 18446744073709551616:Nat):Int)=1:=by omega
  rw [h1] at ha
  generalize (((x+y) % 18446744073709551616:Nat):Int)=s at ha
  clear h h1 hx hy
  go_enter Tryd.func46,Tryd.ntmps46
  go_wp2
  go_ret2
  exact ⟨rfl,Drawn0.refl _⟩
 ·rw [if_neg h,decide_eq_false h]
  have h1:(((x+y) / 18446744073709551616:Nat):Int)=0:=by omega
  have h2:(((x+y) % 18446744073709551616:Nat):Int)=(x:Int)+y:=by omega
  rw [h1,h2] at ha
  generalize hs:(x:Int)+(y:Int)=s at ha ⊢
  replace hs:=Lib.hid hs
  clear h h1 h2 hx hy
  go_enter Tryd.func46,Tryd.ntmps46
  go_wp2
  go_ret2
  exact ⟨rfl,Drawn0.refl _⟩
set_option maxHeartbeats 4000000 in
theorem Rea.tickSub (x y:Nat)(hx:x < 18446744073709551616)(hy:y < 18446744073709551616)(w:World) :
  Calls Tryd.prog 86 #[.int .u64 x,.int .u64 y] w fun e w'=>e=.returned (.int .u64 (if (x:Int) < y then 0 else (x:Int) - y))∧Drawn0 w w':=by
 have ha:=Rea.sub64 x y
 by_cases h:(x:Int) < y
 ·rw [if_pos h]
  rw [if_pos (show x < y by omega)] at ha
  generalize (((x+18446744073709551616 - y) % 18446744073709551616:Nat):Int)=s at ha
  clear h hx hy
  go_enter Tryd.func86,Tryd.ntmps86
  go_wp2
  go_ret
  exact ⟨rfl,Drawn0.refl _⟩
 ·rw [if_neg h]
  have h2:(((x+18446744073709551616 - y) % 18446744073709551616:Nat):Int)=(x:Int) - y:=by omega
  rw [if_neg (show ¬ x < y by omega),h2] at ha
  generalize hs:(x:Int) - (y:Int)=s at ha ⊢
  replace hs:=Lib.hid hs
  clear h h2 hx hy
  go_enter Tryd.func86,Tryd.ntmps86
  go_wp2
  go_ret
  exact ⟨rfl,Drawn0.refl _⟩
def tick_Add.f (a0:Int)(a1:Int):Option (Int × Bool):=if 0≤a0∧a0 < 18446744073709551616∧0≤a1∧a1 < 18446744073709551616 then some (if 18446744073709551616≤a0+a1 then (18446744073709551615,true) else (a0+a1,false)) else none
set_option maxHeartbeats 8000000 in
set_option maxRecDepth 100000 in
theorem tick_Add.calls (a0:Int)(a1:Int)(r1:Int)(r2:Bool)(w:World)(h:tick_Add.f a0 a1=some (r1,r2)) :
  Calls Tryd.prog 46 #[.int .u64 a0,.int .u64 a1] w fun e w'=>e=.returned (.tuple #[.int .u64 r1,.bool r2])∧Drawn0 w w':=by
 have hh:(if 0≤a0∧a0 < 18446744073709551616∧0≤a1∧a1 < 18446744073709551616 then some (if 18446744073709551616≤a0+a1 then ((18446744073709551615:Int),true) else (a0+a1,false)) else none)=some (r1,r2):=h
 clear h
 by_cases hc:0≤a0∧a0 < 18446744073709551616∧0≤a1∧a1 < 18446744073709551616
 ·rw [if_pos hc] at hh
  obtain ⟨h0,h1,h2,h3⟩ :=hc
  obtain ⟨x,rfl⟩:∃ x:Nat,a0=x:=⟨a0.toNat,by omega⟩
  obtain ⟨y,rfl⟩:∃ y:Nat,a1=y:=⟨a1.toNat,by omega⟩
  refine (Rea.tickAdd x y (by omega) (by omega) w).mono ?_
  rintro e w' ⟨rfl,hb⟩
  refine ⟨?_,hb⟩
  by_cases h:18446744073709551616≤(x:Int)+y
  ·rw [if_pos h] at hh ⊢
   obtain ⟨rfl,rfl⟩ :=Prod.mk.inj (Option.some.inj hh)
   rw [decide_eq_true h]
  ·rw [if_neg h] at hh ⊢
   obtain ⟨rfl,rfl⟩ :=Prod.mk.inj (Option.some.inj hh)
   rw [decide_eq_false h]
 ·rw [if_neg hc] at hh
  cases hh
def rearm_plan_soon.f (a0_0:Int)(a0_1:Int)(a0_2:Int)(a0_3:Int)(a0_4:Bool)(a0_5:Int)(a0_6:Bool)(a0_7:Int)(a0_8:Bool)(a0_9:Int)(a0_10:Bool)(a0_11:Int)(a0_12:Bool)(a1:Int)(a2:Int):Option (Int × Int):=(tick_Add.f a1 a2).bind fun bt114=>(some (bt114.1,0))
set_option maxHeartbeats 8000000 in
set_option maxRecDepth 100000 in
theorem rearm_plan_soon.calls (a0_0:Int)(a0_1:Int)(a0_2:Int)(a0_3:Int)(a0_4:Bool)(a0_5:Int)(a0_6:Bool)(a0_7:Int)(a0_8:Bool)(a0_9:Int)(a0_10:Bool)(a0_11:Int)(a0_12:Bool)(a1:Int)(a2:Int)(r1:Int)(r2:Int)(w:World)(h:rearm_plan_soon.f a0_0 a0_1 a0_2 a0_3 a0_4 a0_5 a0_6 a0_7 a0_8 a0_9 a0_10 a0_11 a0_12 a1 a2=some (r1,r2)) :
  Calls Tryd.prog 21 #[.agg #[.int .i64 a0_0,.int .u64 a0_1,.int .i64 a0_2,.int .u64 a0_3,.bool a0_4,.int .u64 a0_5,.bool a0_6,.int .u64 a0_7,.bool a0_8,.int .u64 a0_9,.bool a0_10,.int .u64 a0_11,.bool a0_12],.int .u64 a1,.int .u64 a2] w fun e w'=>e=.returned (.tuple #[.int .u64 r1,.int .i64 r2])∧Below w.heap.size w w':=by
 have hu50:=Tryd.underlying50
 have HB:=Aside0.mk (Below.refl w.heap.size w)
 have H:((tick_Add.f a1 a2).bind fun bt114=>(some (bt114.1,0)))=some (r1,r2):=h
 clear h
 replace H:=Option.bind_eq_some_iff.mp H
 obtain ⟨⟨t114,t115⟩,A40,H⟩ :=H
 replace H:(some (t114,0))=some (r1,r2):=H
 have A4:=Aside0.mk A40
 clear A40
 simp only [Option.some.injEq,Prod.mk.injEq] at H
 obtain ⟨rfl,rfl⟩ :=H
 go_enter Tryd.func21,Tryd.ntmps21
 go_wp2_with (first | ((with_reducible refine gate_dst (N:=3) rfl ?_); refine box_event ?hg (N:=3) ?hd (cs:=#[.int .i64 a0_0,.int .u64 a0_1,.int .i64 a0_2,.int .u64 a0_3,.bool a0_4,.int .u64 a0_5,.bool a0_6,.int .u64 a0_7,.bool a0_8,.int .u64 a0_9,.bool a0_10,.int .u64 a0_11,.bool a0_12]) (t:=50) ?hr ?_; (case hd=>rfl); (case hg=>rfl); (case hr=>first | (go_simp; done) | (go_simp; rfl)); intro gb113 hg w5 hbox hb; have n0_:=Aside0.mk (below_step (by repeat (first | (with_reducible first | exact HB.out | apply below_alloc | apply pw_below_drewN | apply below_drew1) | exact HB.out)) hb); have n1_:=Aside0.mk (hbox); have n2_:=Aside0.mk ((by rw [hg]; exact (below_size (by repeat (first | (with_reducible first | exact HB.out | apply below_alloc | apply pw_below_drewN | apply below_drew1) | exact HB.out))):w.heap.size≤gb113)); have n3_:=Aside0.mk ((by rw [hg]; exact (below_size (by repeat (first | (with_reducible first | exact HB.out | apply below_alloc | apply pw_below_drewN | apply below_drew1) | exact HB.out))):w.heap.size≤gb113)); clear HB; have HB:=n0_; have BK113:=n1_; have GW113:=n2_; have GE113:=n3_; clear n0_ n1_ n2_ n3_; clear hb hbox hg) | ((with_reducible refine gate_callee (f:=46) rfl ?_); refine goesL_ (some 13) rfl rfl Tryd.func46 (by kernel_rfl) rfl #[.int .u64 a1,.int .u64 a2] rfl (by (try simp only [List.map_toArray,List.map_cons,List.map_nil]); first | done | rfl | (simp only [List.length_drop,List.length_take]; rfl)) ?_; (with_reducible refine (tick_Add.calls a1 a2 t114 t115 _ A4.out).mono ?_); rintro e w' ⟨rfl,⟨nd,rfl⟩⟩; refine ⟨_,rfl,?_⟩))
 go_ret2
 exact ⟨by first | rfl | (simp [errW_none,errW_some] <;> rfl) | (simp [*,errW_none,errW_some] <;> rfl),by repeat (first | (with_reducible first | exact HB.out | apply below_alloc | apply pw_below_drewN | apply below_drew1 | refine below_set ?_ GE113.out) | exact HB.out)⟩
def rearm_Minute.f (a0:Int):Option (Int × Bool):=if (IntKind.u64.wrap (Int.tdiv a0 60)) > 541727999 then (some (0,false)) else (some (wrap64 (IntKind.u64.wrap (Int.tdiv a0 60)),true))
set_option maxHeartbeats 8000000 in
set_option maxRecDepth 100000 in
theorem rearm_Minute.calls (a0:Int)(r1:Int)(r2:Bool)(w:World)(h:rearm_Minute.f a0=some (r1,r2)) :
  Calls Tryd.prog 12 #[.int .u64 a0] w fun e w'=>e=.returned (.tuple #[.int .i64 r1,.bool r2])∧Drawn0 w w':=by
 have H:(if (IntKind.u64.wrap (Int.tdiv a0 60)) > 541727999 then (some (0,false)) else (some (wrap64 (IntKind.u64.wrap (Int.tdiv a0 60)),true)))=some (r1,r2):=h
 clear h
 by_cases c2:(IntKind.u64.wrap (Int.tdiv a0 60)) > 541727999
 ·rw [if_pos c2] at H
  have c2b0:decide (541727999 < (IntKind.u64.wrap (Int.tdiv a0 60)))=true:=decide_eq_true c2
  clear c2
  simp only [Option.some.injEq,Prod.mk.injEq] at H
  obtain ⟨rfl,rfl⟩ :=H
  go_enter Tryd.func12,Tryd.ntmps12
  go_wp2
  go_ret2
  exact ⟨by first | rfl | (simp; done) | (simp [*]; done),by repeat (first | exact Drawn0.refl _ | apply Drawn0.step)⟩
 ·rw [if_neg c2] at H
  have c2b0:decide (541727999 < (IntKind.u64.wrap (Int.tdiv a0 60)))=false:=decide_eq_false c2
  clear c2
  simp only [Option.some.injEq,Prod.mk.injEq] at H
  obtain ⟨rfl,rfl⟩ :=H
  go_enter Tryd.func12,Tryd.ntmps12
  go_wp2
  go_ret2
  exact ⟨by first | rfl | (simp; done) | (simp [*]; done),by repeat (first | exact Drawn0.refl _ | apply Drawn0.step)⟩
def next_odd.f (a0_0:Int)(a0_1:Bool)(a0_2:Int)(a0_3:Bool)(a0_4:Int)(a0_5:Bool)(a0_6:Int)(a0_7:Bool)(a0_8:Int)(a0_9:Bool):Option (Bool):=(spec_Check.f a0_0 a0_1 a0_2 a0_3 a0_4 a0_5 a0_6 a0_7 a0_8 a0_9).bind fun bt117=>(some (bt117.2 != 0))
set_option maxHeartbeats 8000000 in
set_option maxRecDepth 100000 in
theorem next_odd.calls (a0_0:Int)(a0_1:Bool)(a0_2:Int)(a0_3:Bool)(a0_4:Int)(a0_5:Bool)(a0_6:Int)(a0_7:Bool)(a0_8:Int)(a0_9:Bool)(r:Bool)(w:World)(h:next_odd.f a0_0 a0_1 a0_2 a0_3 a0_4 a0_5 a0_6 a0_7 a0_8 a0_9=some r) :
  Calls Tryd.prog 31 #[.agg #[.int .u64 a0_0,.bool a0_1,.int .u64 a0_2,.bool a0_3,.int .u64 a0_4,.bool a0_5,.int .u64 a0_6,.bool a0_7,.int .u64 a0_8,.bool a0_9]] w fun e w'=>e=.returned (.bool r)∧Below w.heap.size w w':=by
 have hu26:=Tryd.underlying26
 have HB:=Aside0.mk (Below.refl w.heap.size w)
 have H:((spec_Check.f a0_0 a0_1 a0_2 a0_3 a0_4 a0_5 a0_6 a0_7 a0_8 a0_9).bind fun bt117=>(some (bt117.2 != 0)))=some r:=h
 clear h
 replace H:=Option.bind_eq_some_iff.mp H
 obtain ⟨⟨t117,t118⟩,A20,H⟩ :=H
 replace H:(some (t118 != 0))=some r:=H
 have A2:=Aside0.mk A20
 clear A20
 obtain rfl:=Option.some.inj H
 go_enter Tryd.func31,Tryd.ntmps31
 go_wp2_with (first | ((with_reducible refine gate_dst (N:=1) rfl ?_); refine box_event ?hg (N:=1) ?hd (cs:=#[.int .u64 a0_0,.bool a0_1,.int .u64 a0_2,.bool a0_3,.int .u64 a0_4,.bool a0_5,.int .u64 a0_6,.bool a0_7,.int .u64 a0_8,.bool a0_9]) (t:=26) ?hr ?_; (case hd=>rfl); (case hg=>rfl); (case hr=>first | (go_simp; done) | (go_simp; rfl)); intro gb116 hg w3 hbox hb; have n0_:=Aside0.mk (below_step (by repeat (first | (with_reducible first | exact HB.out | apply below_alloc | apply pw_below_drewN | apply below_drew1) | exact HB.out)) hb); have n1_:=Aside0.mk (hbox); have n2_:=Aside0.mk ((by rw [hg]; exact (below_size (by repeat (first | (with_reducible first | exact HB.out | apply below_alloc | apply pw_below_drewN | apply below_drew1) | exact HB.out))):w.heap.size≤gb116)); have n3_:=Aside0.mk ((by rw [hg]; exact (below_size (by repeat (first | (with_reducible first | exact HB.out | apply below_alloc | apply pw_below_drewN | apply below_drew1) | exact HB.out))):w.heap.size≤gb116)); clear HB; have HB:=n0_; have BK116:=n1_; have GW116:=n2_; have GE116:=n3_; clear n0_ n1_ n2_ n3_; clear hb hbox hg; have hcz4_0:w3.cell? ⟨gb116,0,none⟩=some (.int .u64 a0_0):=(blk_cell BK116.out 0).trans rfl; have hcz4_1:w3.cell? ⟨gb116,1,none⟩=some (.bool a0_1):=(blk_cell BK116.out 1).trans rfl; have hcz4_2:w3.cell? ⟨gb116,2,none⟩=some (.int .u64 a0_2):=(blk_cell BK116.out 2).trans rfl; have hcz4_3:w3.cell? ⟨gb116,3,none⟩=some (.bool a0_3):=(blk_cell BK116.out 3).trans rfl; have hcz4_4:w3.cell? ⟨gb116,4,none⟩=some (.int .u64 a0_4):=(blk_cell BK116.out 4).trans rfl; have hcz4_5:w3.cell? ⟨gb116,5,none⟩=some (.bool a0_5):=(blk_cell BK116.out 5).trans rfl; have hcz4_6:w3.cell? ⟨gb116,6,none⟩=some (.int .u64 a0_6):=(blk_cell BK116.out 6).trans rfl; have hcz4_7:w3.cell? ⟨gb116,7,none⟩=some (.bool a0_7):=(blk_cell BK116.out 7).trans rfl; have hcz4_8:w3.cell? ⟨gb116,8,none⟩=some (.int .u64 a0_8):=(blk_cell BK116.out 8).trans rfl; have hcz4_9:w3.cell? ⟨gb116,9,none⟩=some (.bool a0_9):=(blk_cell BK116.out 9).trans rfl; have hfz4_0:=blk_frozen BK116.out 0; have hfz4_1:=blk_frozen BK116.out 1; have hfz4_2:=blk_frozen BK116.out 2; have hfz4_3:=blk_frozen BK116.out 3; have hfz4_4:=blk_frozen BK116.out 4; have hfz4_5:=blk_frozen BK116.out 5; have hfz4_6:=blk_frozen BK116.out 6; have hfz4_7:=blk_frozen BK116.out 7; have hfz4_8:=blk_frozen BK116.out 8; have hfz4_9:=blk_frozen BK116.out 9) | ((with_reducible refine gate_callee (f:=25) rfl ?_); refine goesL_ (some 7) rfl rfl Tryd.func25 (by kernel_rfl) rfl #[.agg #[.int .u64 a0_0,.bool a0_1,.int .u64 a0_2,.bool a0_3,.int .u64 a0_4,.bool a0_5,.int .u64 a0_6,.bool a0_7,.int .u64 a0_8,.bool a0_9]] rfl (by (try simp only [List.map_toArray,List.map_cons,List.map_nil]); first | done | rfl | (simp only [List.length_drop,List.length_take]; rfl)) ?_; (with_reducible refine (spec_Check.calls a0_0 a0_1 a0_2 a0_3 a0_4 a0_5 a0_6 a0_7 a0_8 a0_9 t117 t118 _ A2.out).mono ?_); rintro e w5 ⟨rfl,hb⟩; refine ⟨_,rfl,?_⟩; have n0_:=Aside0.mk (blk_below (g:=gb116) (o:=.cells #[.int .u64 a0_0,.bool a0_1,.int .u64 a0_2,.bool a0_3,.int .u64 a0_4,.bool a0_5,.int .u64 a0_6,.bool a0_7,.int .u64 a0_8,.bool a0_9] 26 (0,0)) (by (with_reducible repeat (first | refine blk_drewN ?_ _ | refine blk_drew ?_ | refine blk_alloc ?_ _)); exact BK116.out) hb); have n1_:=Aside0.mk (below_step (by repeat (first | (with_reducible first | exact HB.out | apply below_alloc | apply pw_below_drewN | apply below_drew1 | refine below_set ?_ GE116.out) | exact HB.out)) hb); clear BK116; clear HB; have BK116:=n0_; have HB:=n1_; clear n0_ n1_; (try clear hb); (try clear hb2); (try clear hk); (try clear hi)))
 go_ret
 exact ⟨by first | rfl | (simp [errW_none,errW_some] <;> rfl) | (simp [*,errW_none,errW_some] <;> rfl),by repeat (first | (with_reducible first | exact HB.out | apply below_alloc | apply pw_below_drewN | apply below_drew1 | refine below_set ?_ GE116.out) | exact HB.out)⟩
def civil_leaps.f (a0:Int):Option (Int):=some (wrap64 ((wrap64 ((wrap64 (Int.tdiv a0 4)) - (wrap64 (Int.tdiv a0 100))))+(wrap64 (Int.tdiv a0 400))))
set_option maxHeartbeats 8000000 in
set_option maxRecDepth 100000 in
theorem civil_leaps.calls (a0:Int)(r:Int)(w:World)(h:civil_leaps.f a0=some r) :
  Calls Tryd.prog 93 #[.int .i64 a0] w fun e w'=>e=.returned (.int .i64 r)∧Drawn0 w w':=by
 have H:(some (wrap64 ((wrap64 ((wrap64 (Int.tdiv a0 4)) - (wrap64 (Int.tdiv a0 100))))+(wrap64 (Int.tdiv a0 400)))))=some r:=h
 clear h
 obtain rfl:=Option.some.inj H
 go_enter Tryd.func93,Tryd.ntmps93
 go_wp2
 go_ret
 exact ⟨by first | rfl | (simp; done) | (simp [*]; done),by repeat (first | exact Drawn0.refl _ | apply Drawn0.step)⟩
def civil_ahead.f (a0:Int):Option (Int):=(civil_leaps.f (wrap64 (a0 - 1))).bind fun t119=>((civil_leaps.f 1969).bind fun t120=>(some (wrap64 ((wrap64 ((wrap64 (365*(wrap64 (a0 - 1970))))+t119)) - t120))))
set_option maxHeartbeats 8000000 in
set_option maxRecDepth 100000 in
theorem civil_ahead.calls (a0:Int)(r:Int)(w:World)(h:civil_ahead.f a0=some r) :
  Calls Tryd.prog 67 #[.int .i64 a0] w fun e w'=>e=.returned (.int .i64 r)∧Drawn0 w w':=by
 have H:((civil_leaps.f (wrap64 (a0 - 1))).bind fun t119=>((civil_leaps.f 1969).bind fun t120=>(some (wrap64 ((wrap64 ((wrap64 (365*(wrap64 (a0 - 1970))))+t119)) - t120)))))=some r:=h
 clear h
 replace H:=Option.bind_eq_some_iff.mp H
 obtain ⟨t119,A20,H⟩ :=H
 replace H:((civil_leaps.f 1969).bind fun t120=>(some (wrap64 ((wrap64 ((wrap64 (365*(wrap64 (a0 - 1970))))+t119)) - t120))))=some r:=H
 have A2:=Aside0.mk A20
 clear A20
 replace H:=Option.bind_eq_some_iff.mp H
 obtain ⟨t120,A30,H⟩ :=H
 replace H:(some (wrap64 ((wrap64 ((wrap64 (365*(wrap64 (a0 - 1970))))+t119)) - t120)))=some r:=H
 have A3:=Aside0.mk A30
 clear A30
 obtain rfl:=Option.some.inj H
 go_enter Tryd.func67,Tryd.ntmps67
 go_wp2_with (first | ((with_reducible refine gate_callee (f:=93) rfl ?_); refine goesL_ (some 8) rfl rfl Tryd.func93 (by kernel_rfl) rfl #[.int .i64 (wrap64 (a0 - 1))] rfl (by (try simp only [List.map_toArray,List.map_cons,List.map_nil]); first | done | rfl | (simp only [List.length_drop,List.length_take]; rfl)) ?_; (with_reducible refine (civil_leaps.calls (wrap64 (a0 - 1)) t119 _ A2.out).mono ?_); rintro e w' ⟨rfl,⟨nd,rfl⟩⟩; refine ⟨_,rfl,?_⟩) | ((with_reducible refine gate_callee (f:=93) rfl ?_); refine goesL_ (some 10) rfl rfl Tryd.func93 (by kernel_rfl) rfl #[.int .i64 1969] rfl (by (try simp only [List.map_toArray,List.map_cons,List.map_nil]); first | done | rfl | (simp only [List.length_drop,List.length_take]; rfl)) ?_; (with_reducible refine (civil_leaps.calls 1969 t120 _ A3.out).mono ?_); rintro e w' ⟨rfl,⟨nd,rfl⟩⟩; refine ⟨_,rfl,?_⟩))
 go_ret
 exact ⟨by first | rfl | (simp; done) | (simp [*]; done),by repeat (first | exact Drawn0.refl _ | apply Drawn0.step)⟩
def civil_Leap.f (a0:Int):Option (Bool):=if (Int.tmod a0 4)=0 then (if (Int.tmod a0 100)=0 then (some ((Int.tmod a0 400) == 0)) else (some true)) else (some false)
set_option maxHeartbeats 8000000 in
set_option maxRecDepth 100000 in
theorem civil_Leap.calls (a0:Int)(r:Bool)(w:World)(h:civil_Leap.f a0=some r) :
  Calls Tryd.prog 100 #[.int .i64 a0] w fun e w'=>e=.returned (.bool r)∧Drawn0 w w':=by
 have H:(if (Int.tmod a0 4)=0 then (if (Int.tmod a0 100)=0 then (some ((Int.tmod a0 400) == 0)) else (some true)) else (some false))=some r:=h
 clear h
 by_cases c2:(Int.tmod a0 4)=0
 ·rw [if_pos c2] at H
  have c2b0:((Int.tmod a0 4) == 0)=true:=beq_iff_eq.mpr c2
  have c2b1:((Int.tmod a0 4) != 0)=false:=bne_eq_false_iff_eq.mpr c2
  clear c2
  by_cases c3:(Int.tmod a0 100)=0
  ·rw [if_pos c3] at H
   have c3b0:((Int.tmod a0 100) == 0)=true:=beq_iff_eq.mpr c3
   have c3b1:((Int.tmod a0 100) != 0)=false:=bne_eq_false_iff_eq.mpr c3
   clear c3
   obtain rfl:=Option.some.inj H
   go_enter Tryd.func100,Tryd.ntmps100
   go_wp2
   go_ret
   exact ⟨by first | rfl | (simp; done) | (simp [*]; done),by repeat (first | exact Drawn0.refl _ | apply Drawn0.step)⟩
  ·rw [if_neg c3] at H
   have c3b0:((Int.tmod a0 100) == 0)=false:=beq_eq_false_iff_ne.mpr c3
   have c3b1:((Int.tmod a0 100) != 0)=true:=bne_iff_ne.mpr c3
   obtain rfl:=Option.some.inj H
   go_enter Tryd.func100,Tryd.ntmps100
   go_wp2
   go_ret
   exact ⟨by first | rfl | (simp; done) | (simp [*]; done),by repeat (first | exact Drawn0.refl _ | apply Drawn0.step)⟩
 ·rw [if_neg c2] at H
  have c2b0:((Int.tmod a0 4) == 0)=false:=beq_eq_false_iff_ne.mpr c2
  have c2b1:((Int.tmod a0 4) != 0)=true:=bne_iff_ne.mpr c2
  obtain rfl:=Option.some.inj H
  go_enter Tryd.func100,Tryd.ntmps100
  go_wp2
  go_ret
  exact ⟨by first | rfl | (simp; done) | (simp [*]; done),by repeat (first | exact Drawn0.refl _ | apply Drawn0.step)⟩
/-! This session's own: civil.Length, by its own pure function. -/
theorem Civ.w64 {x:Int}(h1:-9223372036854775808≤x)(h2:x≤9223372036854775807):wrap64 x=x:=by unfold wrap64; omega
def Civ.leap (y:Int):Bool:=decide (y % 4=0) && (!decide (y % 100=0) || decide (y % 400=0))
theorem Civ.tm (a b:Int):Int.tmod a b=0↔a % b=0:=by
 rw [← Int.dvd_iff_tmod_eq_zero,← Int.dvd_iff_emod_eq_zero]
theorem Civ.leap_f (y:Int):civil_Leap.f y=some (Civ.leap y):=by
 unfold civil_Leap.f Civ.leap
 have e:(Int.tmod y 400 == 0)=decide (y % 400=0):=by rw [Bool.eq_iff_iff]; simp [Civ.tm]
 simp only [Civ.tm,e]
 by_cases h1:y % 4=0 <;> by_cases h2:y % 100=0 <;> simp [h1,h2]
def Civ.len (y m:Int):Int:=
 if m < 1 then 0 else if 12 < m then 0 else if m=2 then (if Civ.leap y then 29 else 28)
 else if m=4∨m=6∨m=9∨m=11 then 30 else 31
set_option maxRecDepth 100000 in
theorem Civ.ix:(∀ W:World,(Instr.index 125 (.agg #[.int .i64 31,.int .i64 28,.int .i64 31,.int .i64 30,.int .i64 31,.int .i64 30,.int .i64 31,.int .i64 31,.int .i64 30,.int .i64 31,.int .i64 30,.int .i64 31]) (.int .i64 0)).run Tryd.prog W=.ok (.int .i64 31) W)∧(∀ W:World,(Instr.index 125 (.agg #[.int .i64 31,.int .i64 28,.int .i64 31,.int .i64 30,.int .i64 31,.int .i64 30,.int .i64 31,.int .i64 31,.int .i64 30,.int .i64 31,.int .i64 30,.int .i64 31]) (.int .i64 1)).run Tryd.prog W=.ok (.int .i64 28) W)∧(∀ W:World,(Instr.index 125 (.agg #[.int .i64 31,.int .i64 28,.int .i64 31,.int .i64 30,.int .i64 31,.int .i64 30,.int .i64 31,.int .i64 31,.int .i64 30,.int .i64 31,.int .i64 30,.int .i64 31]) (.int .i64 2)).run Tryd.prog W=.ok (.int .i64 31) W)∧(∀ W:World,(Instr.index 125 (.agg #[.int .i64 31,.int .i64 28,.int .i64 31,.int .i64 30,.int .i64 31,.int .i64 30,.int .i64 31,.int .i64 31,.int .i64 30,.int .i64 31,.int .i64 30,.int .i64 31]) (.int .i64 3)).run Tryd.prog W=.ok (.int .i64 30) W)∧(∀ W:World,(Instr.index 125 (.agg #[.int .i64 31,.int .i64 28,.int .i64 31,.int .i64 30,.int .i64 31,.int .i64 30,.int .i64 31,.int .i64 31,.int .i64 30,.int .i64 31,.int .i64 30,.int .i64 31]) (.int .i64 4)).run Tryd.prog W=.ok (.int .i64 31) W)∧(∀ W:World,(Instr.index 125 (.agg #[.int .i64 31,.int .i64 28,.int .i64 31,.int .i64 30,.int .i64 31,.int .i64 30,.int .i64 31,.int .i64 31,.int .i64 30,.int .i64 31,.int .i64 30,.int .i64 31]) (.int .i64 5)).run Tryd.prog W=.ok (.int .i64 30) W)∧(∀ W:World,(Instr.index 125 (.agg #[.int .i64 31,.int .i64 28,.int .i64 31,.int .i64 30,.int .i64 31,.int .i64 30,.int .i64 31,.int .i64 31,.int .i64 30,.int .i64 31,.int .i64 30,.int .i64 31]) (.int .i64 6)).run Tryd.prog W=.ok (.int .i64 31) W)∧(∀ W:World,(Instr.index 125 (.agg #[.int .i64 31,.int .i64 28,.int .i64 31,.int .i64 30,.int .i64 31,.int .i64 30,.int .i64 31,.int .i64 31,.int .i64 30,.int .i64 31,.int .i64 30,.int .i64 31]) (.int .i64 7)).run Tryd.prog W=.ok (.int .i64 31) W)∧(∀ W:World,(Instr.index 125 (.agg #[.int .i64 31,.int .i64 28,.int .i64 31,.int .i64 30,.int .i64 31,.int .i64 30,.int .i64 31,.int .i64 31,.int .i64 30,.int .i64 31,.int .i64 30,.int .i64 31]) (.int .i64 8)).run Tryd.prog W=.ok (.int .i64 30) W)∧(∀ W:World,(Instr.index 125 (.agg #[.int .i64 31,.int .i64 28,.int .i64 31,.int .i64 30,.int .i64 31,.int .i64 30,.int .i64 31,.int .i64 31,.int .i64 30,.int .i64 31,.int .i64 30,.int .i64 31]) (.int .i64 9)).run Tryd.prog W=.ok (.int .i64 31) W)∧(∀ W:World,(Instr.index 125 (.agg #[.int .i64 31,.int .i64 28,.int .i64 31,.int .i64 30,.int .i64 31,.int .i64 30,.int .i64 31,.int .i64 31,.int .i64 30,.int .i64 31,.int .i64 30,.int .i64 31]) (.int .i64 10)).run Tryd.prog W=.ok (.int .i64 30) W)∧(∀ W:World,(Instr.index 125 (.agg #[.int .i64 31,.int .i64 28,.int .i64 31,.int .i64 30,.int .i64 31,.int .i64 30,.int .i64 31,.int .i64 31,.int .i64 30,.int .i64 31,.int .i64 30,.int .i64 31]) (.int .i64 11)).run Tryd.prog W=.ok (.int .i64 31) W):=by
 refine ⟨?_,?_,?_,?_,?_,?_,?_,?_,?_,?_,?_,?_⟩ <;> exact fun _=>by kernel_rfl
def civil_Length.f (a0:Int)(a1:Int):Option (Int):=some (Civ.len a0 a1)
set_option maxHeartbeats 8000000 in
set_option maxRecDepth 100000 in
theorem civil_Length.calls (a0:Int)(a1:Int)(r:Int)(w:World)(h:civil_Length.f a0 a1=some r) :
  Calls Tryd.prog 91 #[.int .i64 a0,.int .i64 a1] w fun e w'=>e=.returned (.int .i64 r)∧Drawn0 w w':=by
 obtain rfl:=Option.some.inj h
 clear h
 by_cases c1:a1 < 1
 ·have e:Civ.len a0 a1=0:=by unfold Civ.len; rw [if_pos c1]
  rw [e]
  have d1:=decide_eq_true c1
  clear e
  go_enter Tryd.func91,Tryd.ntmps91
  go_wp2
  go_ret
  exact ⟨rfl,Drawn0.refl _⟩
 by_cases c2:12 < a1
 ·have e:Civ.len a0 a1=0:=by unfold Civ.len; rw [if_neg c1,if_pos c2]
  rw [e]
  have d1:=decide_eq_false c1
  have d2:=decide_eq_true c2
  clear e
  go_enter Tryd.func91,Tryd.ntmps91
  go_wp2
  go_ret
  exact ⟨rfl,Drawn0.refl _⟩
 obtain ⟨i0,i1,i2,i3,i4,i5,i6,i7,i8,i9,i10,i11⟩ :=Civ.ix
 by_cases c3:a1=2
 ·subst c3
  cases hb:Civ.leap a0
  ·have hc:=Civ.leap_f a0
   rw [hb] at hc
   have e:Civ.len a0 2=28:=by unfold Civ.len; simp [hb]
   rw [e]
   have H:=Lib.hid hc
   clear e hb hc
   go_enter Tryd.func91,Tryd.ntmps91
   go_wp2_with (go_at_call 100; refine (civil_Leap.calls a0 false _ H.out).mono ?_; rintro e w' ⟨rfl,⟨nd,rfl⟩⟩)
   go_ret
   exact ⟨rfl,⟨⟨_,rfl⟩⟩⟩
  ·have hc:=Civ.leap_f a0
   rw [hb] at hc
   have e:Civ.len a0 2=29:=by unfold Civ.len; simp [hb]
   rw [e]
   have H:=Lib.hid hc
   clear e hb hc
   go_enter Tryd.func91,Tryd.ntmps91
   go_wp2_with (go_at_call 100; refine (civil_Leap.calls a0 true _ H.out).mono ?_; rintro e w' ⟨rfl,⟨nd,rfl⟩⟩)
   go_ret
   exact ⟨rfl,⟨⟨_,rfl⟩⟩⟩
 ·have:a1=1∨a1=3∨a1=4∨a1=5∨a1=6∨a1=7∨a1=8∨a1=9∨a1=10∨a1=11∨a1=12:=by omega
  clear c1 c2 c3
  rcases this with rfl | rfl | rfl | rfl | rfl | rfl | rfl | rfl | rfl | rfl | rfl <;>
  ·go_enter Tryd.func91,Tryd.ntmps91
   go_wp2
   go_ret
   exact ⟨by simp [Civ.len],Drawn0.refl _⟩
def civil_gone.l0:Nat→Int→Int→Int→Int→Option (Int)
 | 0,_,_,_,_=>none
 | k+1,x0,x1,x5,x6=>if x6 < x1 then ((civil_Length.f x0 x6).bind fun t121=>(civil_gone.l0 k x0 x1 (wrap64 (x5+t121)) (wrap64 (x6+1)))) else (some x5)
def civil_gone.f (k:Nat)(a0:Int)(a1:Int):Option (Int):=civil_gone.l0 k a0 a1 0 1
set_option maxHeartbeats 8000000 in
set_option maxRecDepth 100000 in
theorem civil_gone.calls (k:Nat)(a0:Int)(a1:Int)(r:Int)(w:World)(h:civil_gone.f k a0 a1=some r) :
  Calls Tryd.prog 69 #[.int .i64 a0,.int .i64 a1] w fun e w'=>e=.returned (.int .i64 r)∧Drawn0 w w':=by
 have H:(civil_gone.l0 k a0 a1 0 1)=some r:=h
 clear h
 have H':=Aside0.mk H
 clear H
 go_enter Tryd.func69,Tryd.ntmps69
 go_wp2
 go_loopg [5,6] k (fun kq v5 v6 w'=>∃ (x5_1:Int) (x6_1:Int),v5=.int .i64 x5_1∧v6=.int .i64 x6_1∧Aside0 (civil_gone.l0 kq a0 a1 x5_1 x6_1=some r)∧Aside0 (kq≤k)∧Drawn0 w w')
 case atStart=>exact ⟨(0),(1),(by first | rfl | (simp; done) | (simp [*]; done)),(by first | rfl | (simp; done) | (simp [*]; done)),H',⟨Nat.le_refl _⟩,by repeat (first | exact Drawn0.refl _ | apply Drawn0.step)⟩
 case round=>
  clear H'
  try clear p2
  obtain ⟨x5_1,x6_1,rfl,rfl,HA,HK1,⟨m1,rfl⟩⟩ :=hrel
  cases gk with
  | zero=>exact absurd HA.out (by simp [civil_gone.l0])
  | succ k1=>
   have H:=HA.out
   clear HA
   simp only [civil_gone.l0] at H
   by_cases c3:x6_1 < a1
   ·rw [if_pos c3] at H
    have c3b0:decide (x6_1 < a1)=true:=decide_eq_true c3
    clear c3
    replace H:=Option.bind_eq_some_iff.mp H
    obtain ⟨t121,A40,H⟩ :=H
    replace H:(civil_gone.l0 k1 a0 a1 (wrap64 (x5_1+t121)) (wrap64 (x6_1+1)))=some r:=H
    have A4:=Aside0.mk A40
    clear A40
    have H':=Aside0.mk H
    clear H
    go_wp2_with (first | ((with_reducible refine gate_callee (f:=91) rfl ?_); refine goesL_ (some 15) rfl rfl Tryd.func91 (by kernel_rfl) rfl #[.int .i64 a0,.int .i64 x6_1] rfl (by (try simp only [List.map_toArray,List.map_cons,List.map_nil]); first | done | rfl | (simp only [List.length_drop,List.length_take]; rfl)) ?_; (with_reducible refine (civil_Length.calls a0 x6_1 t121 _ A4.out).mono ?_); rintro e w' ⟨rfl,⟨nd,rfl⟩⟩; refine ⟨_,rfl,?_⟩))
    go_roundg k1
    case measure=>have:=HK1.out; omega
    case rel=>exact ⟨(wrap64 (x5_1+t121)),(wrap64 (x6_1+1)),(by first | rfl | (simp; done) | (simp [*]; done)),(by first | rfl | (simp; done) | (simp [*]; done)),H',⟨by have:=HK1.out; omega⟩,by repeat (first | exact Drawn0.refl _ | apply Drawn0.step)⟩
   ·rw [if_neg c3] at H
    have c3b0:decide (x6_1 < a1)=false:=decide_eq_false c3
    clear c3
    obtain rfl:=Option.some.inj H
    go_wp2
    go_ret
    exact ⟨by first | rfl | (simp; done) | (simp [*]; done),by repeat (first | exact Drawn0.refl _ | apply Drawn0.step)⟩
def Civ.dby (y:Int):Int:=365*(y - 1970)+((y - 1) / 4 - (y - 1) / 100+(y - 1) / 400) - 477
theorem Civ.leaps_f {y:Int}(h0:0≤y)(h:y≤1000000):civil_leaps.f y=some (y / 4 - y / 100+y / 400):=by
 unfold civil_leaps.f
 rw [Int.tdiv_eq_ediv_of_nonneg h0,Int.tdiv_eq_ediv_of_nonneg h0,Int.tdiv_eq_ediv_of_nonneg h0]
 rw [Civ.w64 (x:=y / 4) (by omega) (by omega),Civ.w64 (x:=y / 100) (by omega) (by omega),Civ.w64 (x:=y / 400) (by omega) (by omega)]
 rw [Civ.w64 (x:=_ - _) (by omega) (by omega),Civ.w64 (by omega) (by omega)]
theorem Civ.ahead_f {y:Int}(h0:1≤y)(h:y≤1000000):civil_ahead.f y=some (Civ.dby y):=by
 unfold civil_ahead.f
 rw [Civ.w64 (x:=y - 1) (by omega) (by omega),Civ.leaps_f (by omega) (by omega),Civ.leaps_f (by omega) (by omega)]
 simp only [Option.bind_some]
 unfold Civ.dby
 congr 1
 rw [Civ.w64 (x:=y - 1970) (by omega) (by omega),Civ.w64 (x:=365*(y - 1970)) (by omega) (by omega)]
 rw [Civ.w64 (x:=_+_) (by omega) (by omega),Civ.w64 (by omega) (by omega)]
 omega
def Civ.cum (y:Int):Nat→Int
 | 0=>0
 | m+1=>Civ.cum y m+Civ.len y (m+1)
theorem Civ.len_bd (y m:Int):0≤Civ.len y m∧Civ.len y m≤31:=by
 unfold Civ.len
 repeat' split
 all_goals omega
theorem Civ.cum_bd (y:Int)(m:Nat):0≤Civ.cum y m∧Civ.cum y m≤31*m:=by
 induction m with
 | zero=>simp [Civ.cum]
 | succ m ih=>have:=Civ.len_bd y (m+1); simp only [Civ.cum]; omega
theorem Civ.gone_l (y:Int)(m:Nat)(hm:m≤20)(d:Nat):∀ (k i:Nat),1≤i→i+d=m→d < k→civil_gone.l0 k y m (Civ.cum y (i - 1)) i=some (Civ.cum y (m - 1)):=by
 induction d with
 | zero=>
  intro k i h1 h2 hk
  obtain ⟨k,rfl⟩:∃ j,k=j+1:=⟨k - 1,by omega⟩
  simp only [civil_gone.l0]
  rw [if_neg (by omega),show i=m by omega]
 | succ d ih=>
  intro k i h1 h2 hk
  obtain ⟨k,rfl⟩:∃ j,k=j+1:=⟨k - 1,by omega⟩
  simp only [civil_gone.l0,civil_Length.f]
  rw [if_pos (by omega)]
  simp only [Option.bind_some]
  have hb:=Civ.len_bd y i
  have hc:=Civ.cum_bd y (i - 1)
  rw [Civ.w64 (by omega) (by omega),Civ.w64 (by omega) (by omega)]
  have:=ih k (i+1) (by omega) (by omega) (by omega)
  obtain ⟨j,rfl⟩:∃ j,i=j+1:=⟨i - 1,by omega⟩
  simp only [Nat.add_sub_cancel,Civ.cum] at this ⊢
  rw [← this]
  congr 1
theorem Civ.gone_f (y:Int)(m:Nat)(hm:m≤20):civil_gone.f (m+20) y m=some (Civ.cum y (m - 1)):=by
 unfold civil_gone.f
 rcases Nat.eq_zero_or_pos m with h | h
 ·subst h
  simp [civil_gone.l0,Civ.cum]
 ·have:=Civ.gone_l y m hm (m - 1) (m+20) 1 (by omega) (by omega) (by omega)
  simpa [Civ.cum] using this
set_option maxHeartbeats 8000000 in
set_option maxRecDepth 100000 in
theorem clo1 (d:Int)(b:Addr)(x:Nat)(W:World)(hc:W.cell? b=some (.int .i64 d))(hx:x < 1029) :
  Calls Tryd.prog 66 #[.int .i64 (x:Int),.pointer (some b)] W fun e w'=>e=.returned (.bool (decide (d < Civ.dby (1970+x+1))))∧∃ k,w'=W.drewN k:=by
 have hA:=Lib.hid (Civ.ahead_f (y:=1970+x+1) (by omega) (by omega))
 have e1:IntKind.i64.wrap (1970+(x:Int))=1970+x:=IntWalk.i64_in _ (by omega)
 have e2:IntKind.i64.wrap (1970+(x:Int)+1)=1970+x+1:=IntWalk.i64_in _ (by omega)
 go_enter Tryd.func66,Tryd.ntmps66
 go_wp2
 go_quiet ((go_at_call 67; exact Calls.quiet_of ((civil_ahead.calls _ _ _ hA.out).mono (fun _ _ h=>⟨h.1,h.2.out⟩))))
 go_wp2
 go_ret
 exact ⟨rfl,⟨_,rfl⟩⟩
set_option maxHeartbeats 8000000 in
set_option maxRecDepth 100000 in
theorem search1 (n:Nat)(p:Nat→Bool)(b:Addr)(w:World)(hn:n≤1000000)
  (H:∀ (x m:Nat),x < n→Calls Tryd.prog 66 #[.int .i64 (x:Int),.pointer (some b)] (w.drewN m) fun e w'=>e=.returned (.bool (p x))∧∃ k,w'=w.drewN k)
  (mono:∀ x y,x≤y→p x=true→p y=true) :
  Calls Tryd.prog 65 #[.int .i64 (n:Int),.func (.func 66) #[] #[.pointer (some b)]] w fun e w'=>
   ∃ r:Nat,r≤n∧(∀ x,x < r→p x=false)∧(∀ x,r≤x→x < n→p x=true)∧e=.returned (.int .i64 (r:Int))∧∃ k,w'=w.drewN k:=by
 have HH:=Lib.hid H
 have HM:=Lib.hid mono
 clear H mono
 go_enter Tryd.func65,Tryd.ntmps65
 go_wp2
 go_loopw [5,6] (fun i j wr=>∃ a c:Nat,a≤c∧c≤n∧i=.int .i64 (a:Int)∧j=.int .i64 (c:Int)∧Hid ((∀ x,x < a→p x=false)∧(∀ x,c≤x→x < n→p x=true))∧∃ k,wr=w.drewN k) (fun i j _=>(intOf j).toNat - (intOf i).toNat)
 case atStart=>exact ⟨0,n,by omega,by omega,rfl,rfl,Lib.hid ⟨by intro x hx; omega,by intro x h1 h2; omega⟩,0,rfl⟩
 case round=>
  obtain ⟨a,c,hac,hcn,rfl,rfl,hP,k,rfl⟩ :=hrel
  by_cases hlt:a < c
  ·have hh:(a+c) / 2 < n:=by omega
   have hb1:a≤(a+c) / 2:=by omega
   have hb2:(a+c) / 2 < c:=by omega
   have hcast:(((a+c) / 2:Nat):Int)=((a:Int)+(c:Int)) / 2:=by omega
   have C:=Lib.hid (fun m=>HH.out ((a+c) / 2) m hh)
   rw [hcast] at C
   have hcast:=Lib.hid hcast
   cases hp:p ((a+c) / 2)
   ·rw [hp] at C
    have hp:=Lib.hid hp
    go_wp2_with (go_at_call 66; refine (C.out k).mono ?_; rintro e w' ⟨rfl,⟨k2,rfl⟩⟩)
    go_roundw
    case rel=>
     refine ⟨(a+c) / 2+1,c,by omega,hcn,by first | rfl | (congr 1; omega),rfl,Lib.hid ⟨?_,hP.out.2⟩,⟨_,rfl⟩⟩
     intro x hx
     cases hpx:p x
     ·rfl
     ·have:=HM.out x ((a+c) / 2) (by omega) hpx
      rw [hp.out] at this; exact this.symm
    case measure=>simp [intOf]; omega
   ·rw [hp] at C
    have hp:=Lib.hid hp
    go_wp2_with (go_at_call 66; refine (C.out k).mono ?_; rintro e w' ⟨rfl,⟨k2,rfl⟩⟩)
    go_roundw
    case rel=>
     refine ⟨a,(a+c) / 2,by omega,by omega,rfl,by first | rfl | (congr 1; omega),Lib.hid ⟨hP.out.1,?_⟩,⟨_,rfl⟩⟩
     intro x h1 h2
     exact HM.out _ _ h1 hp.out
    case measure=>simp [intOf]; omega
  ·have hac':a=c:=by omega
   subst hac'
   go_wp2
   go_ret
   exact ⟨a,by omega,hP.out.1,hP.out.2,rfl,⟨_,rfl⟩⟩
set_option maxHeartbeats 8000000 in
set_option maxRecDepth 100000 in
theorem search2 (n:Nat)(p:Nat→Bool)(b b2:Addr)(w:World)(hn:n≤1000000)
  (H:∀ (x m:Nat),x < n→Calls Tryd.prog 68 #[.int .i64 (x:Int),.pointer (some b),.pointer (some b2)] (w.drewN m) fun e w'=>e=.returned (.bool (p x))∧∃ k,w'=w.drewN k)
  (mono:∀ x y,x≤y→p x=true→p y=true) :
  Calls Tryd.prog 65 #[.int .i64 (n:Int),.func (.func 68) #[] #[.pointer (some b),.pointer (some b2)]] w fun e w'=>
   ∃ r:Nat,r≤n∧(∀ x,x < r→p x=false)∧(∀ x,r≤x→x < n→p x=true)∧e=.returned (.int .i64 (r:Int))∧∃ k,w'=w.drewN k:=by
 have HH:=Lib.hid H
 have HM:=Lib.hid mono
 clear H mono
 go_enter Tryd.func65,Tryd.ntmps65
 go_wp2
 go_loopw [5,6] (fun i j wr=>∃ a c:Nat,a≤c∧c≤n∧i=.int .i64 (a:Int)∧j=.int .i64 (c:Int)∧Hid ((∀ x,x < a→p x=false)∧(∀ x,c≤x→x < n→p x=true))∧∃ k,wr=w.drewN k) (fun i j _=>(intOf j).toNat - (intOf i).toNat)
 case atStart=>exact ⟨0,n,by omega,by omega,rfl,rfl,Lib.hid ⟨by intro x hx; omega,by intro x h1 h2; omega⟩,0,rfl⟩
 case round=>
  obtain ⟨a,c,hac,hcn,rfl,rfl,hP,k,rfl⟩ :=hrel
  by_cases hlt:a < c
  ·have hh:(a+c) / 2 < n:=by omega
   have hb1:a≤(a+c) / 2:=by omega
   have hb2:(a+c) / 2 < c:=by omega
   have hcast:(((a+c) / 2:Nat):Int)=((a:Int)+(c:Int)) / 2:=by omega
   have C:=Lib.hid (fun m=>HH.out ((a+c) / 2) m hh)
   rw [hcast] at C
   have hcast:=Lib.hid hcast
   cases hp:p ((a+c) / 2)
   ·rw [hp] at C
    have hp:=Lib.hid hp
    go_wp2_with (go_at_call 68; refine (C.out k).mono ?_; rintro e w' ⟨rfl,⟨k2,rfl⟩⟩)
    go_roundw
    case rel=>
     refine ⟨(a+c) / 2+1,c,by omega,hcn,by first | rfl | (congr 1; omega),rfl,Lib.hid ⟨?_,hP.out.2⟩,⟨_,rfl⟩⟩
     intro x hx
     cases hpx:p x
     ·rfl
     ·have:=HM.out x ((a+c) / 2) (by omega) hpx
      rw [hp.out] at this; exact this.symm
    case measure=>simp [intOf]; omega
   ·rw [hp] at C
    have hp:=Lib.hid hp
    go_wp2_with (go_at_call 68; refine (C.out k).mono ?_; rintro e w' ⟨rfl,⟨k2,rfl⟩⟩)
    go_roundw
    case rel=>
     refine ⟨a,(a+c) / 2,by omega,by omega,rfl,by first | rfl | (congr 1; omega),Lib.hid ⟨hP.out.1,?_⟩,⟨_,rfl⟩⟩
     intro x h1 h2
     exact HM.out _ _ h1 hp.out
    case measure=>simp [intOf]; omega
  ·have hac':a=c:=by omega
   subst hac'
   go_wp2
   go_ret
   exact ⟨a,by omega,hP.out.1,hP.out.2,rfl,⟨_,rfl⟩⟩
set_option maxHeartbeats 8000000 in
set_option maxRecDepth 100000 in
theorem clo2 (y d:Int)(b b2:Addr)(x:Nat)(W:World)(hy:W.cell? b=some (.int .i64 y))(hc:W.cell? b2=some (.int .i64 d))(hx:x < 11) :
  Calls Tryd.prog 68 #[.int .i64 (x:Int),.pointer (some b),.pointer (some b2)] W fun e w'=>e=.returned (.bool (decide (d < Civ.cum y (x+1))))∧∃ k,w'=W.drewN k:=by
 have hA:=Lib.hid (Civ.gone_f y (x+2) (by omega))
 have e1:IntKind.i64.wrap ((x:Int)+2)=((x+2:Nat):Int):=by rw [IntWalk.i64_in _ (by omega)]; omega
 go_enter Tryd.func68,Tryd.ntmps68
 go_wp2
 go_quiet ((go_at_call 69; exact Calls.quiet_of ((civil_gone.calls _ _ _ _ _ hA.out).mono (fun _ _ h=>⟨h.1,h.2.out⟩))))
 go_wp2
 go_ret
 exact ⟨rfl,⟨_,rfl⟩⟩
def Civ.srch (p:Nat→Bool):Nat→Nat→Nat
 | 0,i=>i
 | k+1,i=>if p i then i else Civ.srch p k (i+1)
theorem Civ.srch_eq (p:Nat→Bool)(n:Nat):∀ (k i r:Nat),i≤r→r≤n→k+i=n→(∀ x,i≤x→x < r→p x=false)→(r < n→p r=true)→Civ.srch p k i=r
 | 0,i,r,h1,h2,h3,_,_=>by simp only [Civ.srch]; omega
 | k+1,i,r,h1,h2,h3,hf,ht=>by
  simp only [Civ.srch]
  by_cases e:i=r
  ·subst e; rw [if_pos (ht (by omega))]
  ·rw [hf i (by omega) (by omega)]
   exact Civ.srch_eq p n k (i+1) r (by omega) h2 (by omega) (fun x h=>hf x (by omega)) ht
theorem Civ.srch_is (p:Nat→Bool)(n r:Nat)(h2:r≤n)(hf:∀ x,x < r→p x=false)(ht:∀ x,r≤x→x < n→p x=true):Civ.srch p n 0=r:=
 Civ.srch_eq p n n 0 r (by omega) h2 (by omega) (fun x _ h=>hf x h) (fun h=>ht r (by omega) h)
def Civ.yi (d:Int):Nat:=Civ.srch (fun i=>decide (d < Civ.dby (1970+i+1))) 1029 0
def Civ.yr (d:Int):Int:=1970+Civ.yi d
def Civ.mi (d:Int):Nat:=Civ.srch (fun i=>decide (d - Civ.dby (Civ.yr d) < Civ.cum (Civ.yr d) (i+1))) 11 0
def Civ.dy (d:Int):Int:=d - Civ.dby (Civ.yr d) - Civ.cum (Civ.yr d) (Civ.mi d)+1
def Civ.date (d:Int):Int × Int × Int × Int:=if d < 0∨376199 < d then (0,0,0,1) else (Civ.yr d,1+Civ.mi d,Civ.dy d,0)
theorem Civ.dby_mono {a b:Int}(h:a≤b):Civ.dby a≤Civ.dby b:=by unfold Civ.dby; omega
theorem Civ.cum_mono (y:Int){a b:Nat}(h:a≤b):Civ.cum y a≤Civ.cum y b:=by
 induction h with
 | refl=>exact Int.le_refl _
 | @step m h ih=>have:=(Civ.len_bd y ((m:Int)+1)).1; simp only [Civ.cum]; omega
theorem Civ.srch_spec (p:Nat→Bool):∀ k i,(∀ x,i≤x→x < Civ.srch p k i→p x=false)∧(Civ.srch p k i < k+i→p (Civ.srch p k i)=true)∧i≤Civ.srch p k i∧Civ.srch p k i≤k+i
 | 0,i=>by simp only [Civ.srch]; exact ⟨by intro x h1 h2; omega,by intro h; omega,by omega,by omega⟩
 | k+1,i=>by
  simp only [Civ.srch]
  have ih:=Civ.srch_spec p k (i+1)
  split
  ·rename_i h; exact ⟨by intro x h1 h2; omega,fun _=>h,by omega,by omega⟩
  ·rename_i h
   refine ⟨?_,fun h2=>ih.2.1 (by omega),by omega,by omega⟩
   intro x h1 h2
   by_cases e:x=i
   ·subst e; simpa using h
   ·exact ih.1 x (by omega) h2
theorem Civ.yi_le (d:Int):Civ.yi d≤1029:=(Civ.srch_spec _ 1029 0).2.2.2
theorem Civ.yi_up {d:Int}(h:d≤376199):d < Civ.dby (1970+Civ.yi d+1):=by
 have s:=Civ.srch_spec (fun i=>decide (d < Civ.dby (1970+i+1))) 1029 0
 rcases Nat.lt_or_ge (Civ.yi d) 1029 with hl | hl
 ·exact of_decide_eq_true (s.2.1 hl)
 ·have:=Civ.yi_le d
  rw [show Civ.yi d=1029 by omega]
  simp [Civ.dby]; omega
theorem Civ.yi_lo {d:Int}(h:0≤d):Civ.dby (1970+Civ.yi d)≤d:=by
 have s:=(Civ.srch_spec (fun i=>decide (d < Civ.dby (1970+i+1))) 1029 0).1
 rcases Nat.eq_zero_or_pos (Civ.yi d) with h0 | h0
 ·rw [h0]; simpa [Civ.dby] using h
 ·have:=s (Civ.yi d - 1) (by omega) (show Civ.yi d - 1 < Civ.yi d by omega)
  have:=of_decide_eq_false this
  rw [show (1970+((Civ.yi d - 1:Nat):Int)+1)=1970+Civ.yi d by omega] at this
  omega
theorem year_search (d:Int)(b:Addr)(W:World)(hb:W.cell? b=some (.int .i64 d)) :
  Calls Tryd.prog 65 #[.int .i64 1029,.func (.func 66) #[] #[.pointer (some b)]] W fun e w'=>e=.returned (.int .i64 (Civ.yi d:Int))∧∃ k,w'=W.drewN k:=by
 refine (search1 1029 (fun i=>decide (d < Civ.dby (1970+i+1))) b W (by omega) ?_ ?_).mono ?_
 ·intro x m hx
  exact (clo1 d b x (W.drewN m) (by simpa using hb) hx).mono (fun e w' ⟨h,k,hk⟩ =>⟨h,m+k,by rw [hk,World.drewN_drewN]⟩)
 ·intro x y hxy hx
  have:=of_decide_eq_true hx
  have hm:=Civ.dby_mono (show (1970+(x:Int)+1)≤1970+y+1 by omega)
  exact decide_eq_true (by omega)
 ·rintro e w' ⟨r,h1,h2,h3,rfl,k,rfl⟩
  refine ⟨?_,k,rfl⟩
  unfold Civ.yi
  rw [Civ.srch_is _ 1029 r h1 h2 h3]
theorem month_search (y d:Int)(b b2:Addr)(W:World)(hy:W.cell? b=some (.int .i64 y))(hb:W.cell? b2=some (.int .i64 d)) :
  Calls Tryd.prog 65 #[.int .i64 11,.func (.func 68) #[] #[.pointer (some b),.pointer (some b2)]] W fun e w'=>e=.returned (.int .i64 (Civ.srch (fun i=>decide (d < Civ.cum y (i+1))) 11 0:Int))∧∃ k,w'=W.drewN k:=by
 refine (search2 11 (fun i=>decide (d < Civ.cum y (i+1))) b b2 W (by omega) ?_ ?_).mono ?_
 ·intro x m hx
  exact (clo2 y d b b2 x (W.drewN m) (by simpa using hy) (by simpa using hb) hx).mono (fun e w' ⟨h,k,hk⟩ =>⟨h,m+k,by rw [hk,World.drewN_drewN]⟩)
 ·intro x z hxy hx
  have:=of_decide_eq_true hx
  have hm:=Civ.cum_mono y (show x+1≤z+1 by omega)
  exact decide_eq_true (by omega)
 ·rintro e w' ⟨r,h1,h2,h3,rfl,k,rfl⟩
  refine ⟨?_,k,rfl⟩
  rw [Civ.srch_is _ 11 r h1 h2 h3]
theorem month_search_d (a0:Int)(b b2:Addr)(W:World)(hy:W.cell? b=some (.int .i64 (1970+(Civ.yi a0:Int))))(hb:W.cell? b2=some (.int .i64 (a0 - Civ.dby (1970+(Civ.yi a0:Int))))) :
  Calls Tryd.prog 65 #[.int .i64 11,.func (.func 68) #[] #[.pointer (some b),.pointer (some b2)]] W fun e w'=>e=.returned (.int .i64 (Civ.mi a0:Int))∧∃ k,w'=W.drewN k:=
 month_search (1970+(Civ.yi a0:Int)) (a0 - Civ.dby (1970+(Civ.yi a0:Int))) b b2 W hy hb
theorem Civ.srch_le (p:Nat→Bool):∀ k i,Civ.srch p k i≤k+i
 | 0,i=>by simp [Civ.srch]
 | k+1,i=>by
  simp only [Civ.srch]
  have:=Civ.srch_le p k (i+1)
  split <;> omega
theorem quiet_add {P:Program}{f:FuncId}{args:Array Value}{w:World}{a n:Nat}{v:Value}
  (h:Calls P f args (w.drewN (a+n)) fun e w'=>e=.returned v∧∃ m,w'=(w.drewN (a+n)).drewN m) :
  Calls P f args (w.drewN (a+n)) fun e w''=>e=.returned v∧∃ m,w''=w.drewN (a+m):=
 h.mono fun _ _ ⟨he,m,hm⟩ =>⟨he,n+m,by rw [hm,World.drewN_drewN,Nat.add_assoc]⟩
set_option maxHeartbeats 8000000 in
set_option maxRecDepth 100000 in
theorem date_calls (a0:Int)(w:World)(c1:¬ a0 < 0)(c2:¬ 376199 < a0) :
  Calls Tryd.prog 36 #[.int .i64 a0] w fun e w'=>e=.returned (.tuple #[.int .i64 (Civ.yr a0),.int .i64 (1+Civ.mi a0),.int .i64 (Civ.dy a0),.int .i64 0])∧Below w.heap.size w w':=by
 have h1:0≤a0:=by omega
 have h2:a0≤376199:=by omega
 have hyi:=Civ.yi_le a0
 have hmi:Civ.mi a0≤11:=Civ.srch_le _ 11 0
 have d1:=decide_eq_false c1
 have d2:=decide_eq_false c2
 have hA:=Lib.hid (Civ.ahead_f (y:=1970+(Civ.yi a0:Int)) (by omega) (by omega))
 have hG:Hid (civil_gone.f (Civ.mi a0+1+20) (1970+(Civ.yi a0:Int)) (1+(Civ.mi a0:Int))=some (Civ.cum (1970+(Civ.yi a0:Int)) (Civ.mi a0))):=by
  have:=Civ.gone_f (1970+(Civ.yi a0:Int)) (Civ.mi a0+1) (by omega)
  rw [show ((Civ.mi a0+1:Nat):Int)=1+(Civ.mi a0:Int) by omega] at this
  exact Lib.hid this
 have hb1:Hid (-100000000000≤Civ.dby (1970+(Civ.yi a0:Int))∧Civ.dby (1970+(Civ.yi a0:Int))≤100000000000):=Lib.hid (by unfold Civ.dby; omega)
 have hb2:=Lib.hid (Civ.cum_bd (1970+(Civ.yi a0:Int)) (Civ.mi a0))
 have hsub:IntKind.i64.wrap (a0 - Civ.dby (1970+(Civ.yi a0:Int)))=a0 - Civ.dby (1970+(Civ.yi a0:Int)):=by
  have:=hb1.out
  exact IntWalk.i64_in _ (by omega)
 have hsub2:IntKind.i64.wrap (a0 - Civ.dby (1970+(Civ.yi a0:Int)) - Civ.cum (1970+(Civ.yi a0:Int)) (Civ.mi a0))=a0 - Civ.dby (1970+(Civ.yi a0:Int)) - Civ.cum (1970+(Civ.yi a0:Int)) (Civ.mi a0):=by
  have:=hb1.out; have:=hb2.out
  exact IntWalk.i64_in _ (by omega)
 have hsub3:IntKind.i64.wrap (a0 - Civ.dby (1970+(Civ.yi a0:Int)) - Civ.cum (1970+(Civ.yi a0:Int)) (Civ.mi a0)+1)=a0 - Civ.dby (1970+(Civ.yi a0:Int)) - Civ.cum (1970+(Civ.yi a0:Int)) (Civ.mi a0)+1:=by
  have:=hb1.out; have:=hb2.out
  exact IntWalk.i64_in _ (by omega)
 clear c1 c2
 go_enter Tryd.func36,Tryd.ntmps36
 go_wp2_with (go_at_call 65; refine (year_search a0 _ _ (by go_simp)).mono ?_; rintro e w' ⟨rfl,⟨k,rfl⟩⟩)
 go_region_with (go_at_call 67; refine (civil_ahead.calls _ _ _ hA.out).mono ?_; rintro e w' ⟨rfl,⟨nd,rfl⟩⟩)
 all_goals
  go_wp2_with (go_at_call 65; refine (month_search_d a0 _ _ _ (by go_simp) (by go_simp)).mono ?_; rintro e w' ⟨rfl,⟨k2,rfl⟩⟩)
  go_quiet ((go_at_call 69; exact quiet_add ((civil_gone.calls _ _ _ _ _ hG.out).mono (fun _ _ h=>⟨h.1,h.2.out⟩))))
  go_wp2
  refine bodyPost_ret (v:=.tuple #[.int .i64 (Civ.yr a0),.int .i64 (1+Civ.mi a0),.int .i64 (Civ.dy a0),.int .i64 0]) (by simp [results,Tryd.results36,go_sem]; exact ⟨rfl,rfl⟩) rfl ⟨rfl,?_⟩
  have HB:=Aside0.mk (Below.refl w.heap.size w)
  repeat (first | (refine Below.setCell ?_ (by simp) _) | (with_reducible first | exact HB.out | apply below_alloc | apply pw_below_drewN | apply below_drew1) | exact HB.out)
def civil_Date.f (a0:Int):Option (Int × Int × Int × Int):=some (Civ.date a0)
set_option maxHeartbeats 8000000 in
set_option maxRecDepth 100000 in
theorem civil_Date.calls (a0:Int)(r1:Int)(r2:Int)(r3:Int)(r4:Int)(w:World)(h:civil_Date.f a0=some (r1,r2,r3,r4)) :
  Calls Tryd.prog 36 #[.int .i64 a0] w fun e w'=>e=.returned (.tuple #[.int .i64 r1,.int .i64 r2,.int .i64 r3,.int .i64 r4])∧Below w.heap.size w w':=by
 have hd:(r1,r2,r3,r4)=Civ.date a0:=(Option.some.inj h).symm
 clear h
 by_cases c1:a0 < 0
 ·rw [Civ.date,if_pos (.inl c1)] at hd
  obtain ⟨rfl,rfl,rfl,rfl⟩:r1=0∧r2=0∧r3=0∧r4=1:=by simpa using hd
  clear hd
  have d1:=decide_eq_true c1
  clear c1
  go_enter Tryd.func36,Tryd.ntmps36
  go_wp2
  refine bodyPost_ret (v:=.tuple #[.int .i64 0,.int .i64 0,.int .i64 0,.int .i64 1]) (by simp [results,Tryd.results36,go_sem]) rfl ⟨rfl,?_⟩
  have HB:=Aside0.mk (Below.refl w.heap.size w)
  repeat (first | (refine Below.setCell ?_ (by simp) _) | (with_reducible first | exact HB.out | apply below_alloc | apply pw_below_drewN | apply below_drew1) | exact HB.out)
 by_cases c2:376199 < a0
 ·rw [Civ.date,if_pos (.inr c2)] at hd
  obtain ⟨rfl,rfl,rfl,rfl⟩:r1=0∧r2=0∧r3=0∧r4=1:=by simpa using hd
  clear hd
  have d1:=decide_eq_false c1
  have d2:=decide_eq_true c2
  clear c1 c2
  go_enter Tryd.func36,Tryd.ntmps36
  go_wp2
  refine bodyPost_ret (v:=.tuple #[.int .i64 0,.int .i64 0,.int .i64 0,.int .i64 1]) (by simp [results,Tryd.results36,go_sem]) rfl ⟨rfl,?_⟩
  have HB:=Aside0.mk (Below.refl w.heap.size w)
  repeat (first | (refine Below.setCell ?_ (by simp) _) | (with_reducible first | exact HB.out | apply below_alloc | apply pw_below_drewN | apply below_drew1) | exact HB.out)
 rw [Civ.date,if_neg (by omega)] at hd
 obtain ⟨rfl,rfl,rfl,rfl⟩:r1=Civ.yr a0∧r2=1+Civ.mi a0∧r3=Civ.dy a0∧r4=0:=by simpa using hd
 exact date_calls a0 w c1 c2
def civil_Week.f (a0:Int):Option (Int × Int):=if a0 < 0 then (some (0,1)) else (if a0 > 376199 then (some (0,1)) else (some (Int.tmod (wrap64 (a0+4)) 7,0)))
set_option maxHeartbeats 8000000 in
set_option maxRecDepth 100000 in
theorem civil_Week.calls (a0:Int)(r1:Int)(r2:Int)(w:World)(h:civil_Week.f a0=some (r1,r2)) :
  Calls Tryd.prog 57 #[.int .i64 a0] w fun e w'=>e=.returned (.tuple #[.int .i64 r1,.int .i64 r2])∧Drawn0 w w':=by
 have H:(if a0 < 0 then (some (0,1)) else (if a0 > 376199 then (some (0,1)) else (some (Int.tmod (wrap64 (a0+4)) 7,0))))=some (r1,r2):=h
 clear h
 by_cases c2:a0 < 0
 ·rw [if_pos c2] at H
  have c2b0:decide (a0 < 0)=true:=decide_eq_true c2
  clear c2
  simp only [Option.some.injEq,Prod.mk.injEq] at H
  obtain ⟨rfl,rfl⟩ :=H
  go_enter Tryd.func57,Tryd.ntmps57
  go_wp2
  go_ret2
  exact ⟨by first | rfl | (simp; done) | (simp [*]; done),by repeat (first | exact Drawn0.refl _ | apply Drawn0.step)⟩
 ·rw [if_neg c2] at H
  have c2b0:decide (a0 < 0)=false:=decide_eq_false c2
  clear c2
  by_cases c3:a0 > 376199
  ·rw [if_pos c3] at H
   have c3b0:decide (376199 < a0)=true:=decide_eq_true c3
   clear c3
   simp only [Option.some.injEq,Prod.mk.injEq] at H
   obtain ⟨rfl,rfl⟩ :=H
   go_enter Tryd.func57,Tryd.ntmps57
   go_wp2
   go_ret2
   exact ⟨by first | rfl | (simp; done) | (simp [*]; done),by repeat (first | exact Drawn0.refl _ | apply Drawn0.step)⟩
  ·rw [if_neg c3] at H
   have c3b0:decide (376199 < a0)=false:=decide_eq_false c3
   clear c3
   simp only [Option.some.injEq,Prod.mk.injEq] at H
   obtain ⟨rfl,rfl⟩ :=H
   go_enter Tryd.func57,Tryd.ntmps57
   go_wp2
   go_ret2
   exact ⟨by first | rfl | (simp; done) | (simp [*]; done),by repeat (first | exact Drawn0.refl _ | apply Drawn0.step)⟩
def civil_Of.j0:Nat→Int→Bool→Option (Int × Int × Int × Int × Int × Int × Int)
 | 0,_,_=>none
 | k+1,x0,x16=>if x16=true then (some (0,0,0,0,0,0,1)) else ((civil_Date.f (wrap64 (Int.tdiv x0 1440))).bind fun bt123=>((civil_Week.f (wrap64 (Int.tdiv x0 1440))).bind fun bt127=>(some (bt123.1,bt123.2.1,bt123.2.2.1,Int.tmod (wrap64 (Int.tdiv x0 60)) 24,Int.tmod x0 60,bt127.1,bt123.2.2.2))))
def civil_Of.f (k:Nat)(a0:Int):Option (Int × Int × Int × Int × Int × Int × Int):=if a0 < 0 then (civil_Of.j0 k a0 true) else (civil_Of.j0 k a0 (decide (a0 > 541727999)))
set_option maxHeartbeats 8000000 in
set_option maxRecDepth 100000 in
theorem civil_Of.calls (k:Nat)(a0:Int)(r1:Int)(r2:Int)(r3:Int)(r4:Int)(r5:Int)(r6:Int)(r7:Int)(w:World)(h:civil_Of.f k a0=some (r1,r2,r3,r4,r5,r6,r7)) :
  Calls Tryd.prog 32 #[.int .i64 a0] w fun e w'=>e=.returned (.tuple #[.agg #[.int .i64 r1,.int .i64 r2,.int .i64 r3,.int .i64 r4,.int .i64 r5,.int .i64 r6],.int .i64 r7])∧Below w.heap.size w w':=by
 have hu66:=Tryd.underlying66
 have HB:=Aside0.mk (Below.refl w.heap.size w)
 have H:(if a0 < 0 then (civil_Of.j0 k a0 true) else (civil_Of.j0 k a0 (decide (a0 > 541727999))))=some (r1,r2,r3,r4,r5,r6,r7):=h
 clear h
 have HC2:=Aside0.mk H
 clear H
 go_enter Tryd.func32,Tryd.ntmps32
 go_upto_region 1 with (first | ((with_reducible refine gate_dst (N:=2) rfl ?_); refine box_event ?hg (N:=2) ?hd (cs:=#[.int .i64 0,.int .i64 0,.int .i64 0,.int .i64 0,.int .i64 0,.int .i64 0]) (t:=66) ?hr ?_; (case hd=>rfl); (case hg=>rfl); (case hr=>first | (go_simp; done) | (go_simp; rfl)); intro gb122 hg w3 hbox hb; have n0_:=Aside0.mk (below_step (by repeat (first | (with_reducible first | exact HB.out | apply below_alloc | apply pw_below_drewN | apply below_drew1) | exact HB.out)) hb); have n1_:=Aside0.mk (hbox); have n2_:=Aside0.mk ((by rw [hg]; exact (below_size (by repeat (first | (with_reducible first | exact HB.out | apply below_alloc | apply pw_below_drewN | apply below_drew1) | exact HB.out))):w.heap.size≤gb122)); have n3_:=Aside0.mk ((by rw [hg]; exact (below_size (by repeat (first | (with_reducible first | exact HB.out | apply below_alloc | apply pw_below_drewN | apply below_drew1) | exact HB.out))):w.heap.size≤gb122)); clear HB; have HB:=n0_; have BK122:=n1_; have GW122:=n2_; have GE122:=n3_; clear n0_ n1_ n2_ n3_; clear hb hbox hg))
 (try simp only [Act.put,List.setIfInBounds_toArray,List.set_cons_zero,List.set_cons_succ])
 go_cut [16] (fun v16 wc=>∃ (kq:Nat) (x16_1:Bool),v16=.bool x16_1∧Aside0 (civil_Of.j0 kq a0 x16_1=some (r1,r2,r3,r4,r5,r6,r7))∧Aside0 (kq≤k)∧Aside0 (wc.heap[gb122]?=some (.cells #[.int .i64 0,.int .i64 0,.int .i64 0,.int .i64 0,.int .i64 0,.int .i64 0] 66 (0,0)))∧Aside0 (Below w.heap.size w wc))
 case first=>
  have H:=HC2.out
  clear HC2
  by_cases c4:a0 < 0
  ·rw [if_pos c4] at H
   have c4b0:decide (a0 < 0)=true:=decide_eq_true c4
   clear c4
   (first | rw [c4b0] | (simp only [i64_w,i32_w]; rw [c4b0]) | skip)
   have H':=Aside0.mk H
   clear H
   go_wp2
   go_meet
   case rel=>exact ⟨_,(true),(by first | rfl | (simp; done) | (simp [*]; done)),H',⟨by first | omega | exact Nat.le_refl _⟩,⟨by (with_reducible repeat (first | refine blk_drewN ?_ _ | refine blk_drew ?_ | refine blk_alloc ?_ _)); exact BK122.out⟩,⟨by repeat (first | (with_reducible first | exact HB.out | apply below_alloc | apply pw_below_drewN | apply below_drew1 | refine below_set ?_ GE122.out) | exact HB.out)⟩⟩
  ·rw [if_neg c4] at H
   have c4b0:decide (a0 < 0)=false:=decide_eq_false c4
   clear c4
   (first | rw [c4b0] | (simp only [i64_w,i32_w]; rw [c4b0]) | skip)
   have H':=Aside0.mk H
   clear H
   go_wp2
   go_meet
   case rel=>exact ⟨_,(decide (a0 > 541727999)),(by first | rfl | (simp; done) | (simp [*]; done)),H',⟨by first | omega | exact Nat.le_refl _⟩,⟨by (with_reducible repeat (first | refine blk_drewN ?_ _ | refine blk_drew ?_ | refine blk_alloc ?_ _)); exact BK122.out⟩,⟨by repeat (first | (with_reducible first | exact HB.out | apply below_alloc | apply pw_below_drewN | apply below_drew1 | refine below_set ?_ GE122.out) | exact HB.out)⟩⟩
 case rest=>
  clear HC2
  try clear p2
  try clear c3
  try clear c4
  try clear c4b0
  obtain ⟨kq,x16_1,rfl,HA,HJ1,BK122,HB⟩ :=hcut
  cases kq with
  | zero=>exact absurd HA.out (by simp [civil_Of.j0])
  | succ kj1=>
   have H:=HA.out
   clear HA
   simp only [civil_Of.j0] at H
   by_cases c5:x16_1=true
   ·subst c5
    have H1:(some (0,0,0,0,0,0,1))=some (r1,r2,r3,r4,r5,r6,r7):=by rw [if_pos rfl] at H; exact H
    clear H
    have H:=H1
    clear H1
    simp only [Option.some.injEq,Prod.mk.injEq] at H
    obtain ⟨rfl,rfl,rfl,rfl,rfl,rfl,rfl⟩ :=H
    have hcz6_0:wc.cell? ⟨gb122,0,none⟩=some (.int .i64 0):=(blk_cell BK122.out 0).trans rfl
    have hcz6_1:wc.cell? ⟨gb122,1,none⟩=some (.int .i64 0):=(blk_cell BK122.out 1).trans rfl
    have hcz6_2:wc.cell? ⟨gb122,2,none⟩=some (.int .i64 0):=(blk_cell BK122.out 2).trans rfl
    have hcz6_3:wc.cell? ⟨gb122,3,none⟩=some (.int .i64 0):=(blk_cell BK122.out 3).trans rfl
    have hcz6_4:wc.cell? ⟨gb122,4,none⟩=some (.int .i64 0):=(blk_cell BK122.out 4).trans rfl
    have hcz6_5:wc.cell? ⟨gb122,5,none⟩=some (.int .i64 0):=(blk_cell BK122.out 5).trans rfl
    have hfz6_0:=blk_frozen BK122.out 0
    have hfz6_1:=blk_frozen BK122.out 1
    have hfz6_2:=blk_frozen BK122.out 2
    have hfz6_3:=blk_frozen BK122.out 3
    have hfz6_4:=blk_frozen BK122.out 4
    have hfz6_5:=blk_frozen BK122.out 5
    go_wp2
    refine bodyPost_ret (results_ct rfl _ _ gb122 66 #[.int .i64 0,.int .i64 0,.int .i64 0,.int .i64 0,.int .i64 0,.int .i64 0] (0,0) _ rfl (by (with_reducible repeat (first | refine blk_drewN ?_ _ | refine blk_drew ?_ | refine blk_alloc ?_ _)); refine blk_put (cs:=#[.int .i64 0,.int .i64 0,.int .i64 0,.int .i64 0,.int .i64 0,.int .i64 0]) ?_ 5 _ rfl; (with_reducible repeat (first | refine blk_drewN ?_ _ | refine blk_drew ?_ | refine blk_alloc ?_ _)); refine blk_put (cs:=#[.int .i64 0,.int .i64 0,.int .i64 0,.int .i64 0,.int .i64 0,.int .i64 0]) ?_ 4 _ rfl; (with_reducible repeat (first | refine blk_drewN ?_ _ | refine blk_drew ?_ | refine blk_alloc ?_ _)); refine blk_put (cs:=#[.int .i64 0,.int .i64 0,.int .i64 0,.int .i64 0,.int .i64 0,.int .i64 0]) ?_ 3 _ rfl; (with_reducible repeat (first | refine blk_drewN ?_ _ | refine blk_drew ?_ | refine blk_alloc ?_ _)); refine blk_put (cs:=#[.int .i64 0,.int .i64 0,.int .i64 0,.int .i64 0,.int .i64 0,.int .i64 0]) ?_ 2 _ rfl; (with_reducible repeat (first | refine blk_drewN ?_ _ | refine blk_drew ?_ | refine blk_alloc ?_ _)); refine blk_put (cs:=#[.int .i64 0,.int .i64 0,.int .i64 0,.int .i64 0,.int .i64 0,.int .i64 0]) ?_ 1 _ rfl; (with_reducible repeat (first | refine blk_drewN ?_ _ | refine blk_drew ?_ | refine blk_alloc ?_ _)); refine blk_put (cs:=#[.int .i64 0,.int .i64 0,.int .i64 0,.int .i64 0,.int .i64 0,.int .i64 0]) ?_ 0 _ rfl; (with_reducible repeat (first | refine blk_drewN ?_ _ | refine blk_drew ?_ | refine blk_alloc ?_ _)); exact BK122.out) Tryd.underlying66 rfl (by kernel_rfl)) rfl ?_
    exact ⟨by first | rfl | (simp [errW_none,errW_some] <;> rfl) | (simp [*,errW_none,errW_some] <;> rfl),by repeat (first | (with_reducible first | exact HB.out | apply below_alloc | apply pw_below_drewN | apply below_drew1 | refine below_set ?_ GE122.out) | exact HB.out)⟩
   ·replace c5:=Bool.eq_false_iff.mpr c5
    subst c5
    have H1:((civil_Date.f (wrap64 (Int.tdiv a0 1440))).bind fun bt123=>((civil_Week.f (wrap64 (Int.tdiv a0 1440))).bind fun bt127=>(some (bt123.1,bt123.2.1,bt123.2.2.1,Int.tmod (wrap64 (Int.tdiv a0 60)) 24,Int.tmod a0 60,bt127.1,bt123.2.2.2))))=some (r1,r2,r3,r4,r5,r6,r7):=by rw [if_neg (show ¬ (false=true) by decide)] at H; exact H
    clear H
    have H:=H1
    clear H1
    replace H:=Option.bind_eq_some_iff.mp H
    obtain ⟨⟨t123,t124,t125,t126⟩,A70,H⟩ :=H
    replace H:((civil_Week.f (wrap64 (Int.tdiv a0 1440))).bind fun bt127=>(some (t123,t124,t125,Int.tmod (wrap64 (Int.tdiv a0 60)) 24,Int.tmod a0 60,bt127.1,t126)))=some (r1,r2,r3,r4,r5,r6,r7):=H
    have A7:=Aside0.mk A70
    clear A70
    replace H:=Option.bind_eq_some_iff.mp H
    obtain ⟨⟨t127,t128⟩,A80,H⟩ :=H
    replace H:(some (t123,t124,t125,Int.tmod (wrap64 (Int.tdiv a0 60)) 24,Int.tmod a0 60,t127,t126))=some (r1,r2,r3,r4,r5,r6,r7):=H
    have A8:=Aside0.mk A80
    clear A80
    simp only [Option.some.injEq,Prod.mk.injEq] at H
    obtain ⟨rfl,rfl,rfl,rfl,rfl,rfl,rfl⟩ :=H
    go_wp2_with (first | ((with_reducible refine gate_callee (f:=36) rfl ?_); refine goesL_ (some 21) rfl rfl Tryd.func36 (by kernel_rfl) rfl #[.int .i64 (wrap64 (Int.tdiv a0 1440))] rfl (by (try simp only [List.map_toArray,List.map_cons,List.map_nil]); first | done | rfl | (simp only [List.length_drop,List.length_take]; rfl)) ?_; (with_reducible refine (civil_Date.calls (wrap64 (Int.tdiv a0 1440)) t123 t124 t125 t126 _ A7.out).mono ?_); rintro e w9 ⟨rfl,hb⟩; refine ⟨_,rfl,?_⟩; have n0_:=Aside0.mk (blk_below (g:=gb122) (o:=.cells #[.int .i64 0,.int .i64 0,.int .i64 0,.int .i64 0,.int .i64 0,.int .i64 0] 66 (0,0)) (by (with_reducible repeat (first | refine blk_drewN ?_ _ | refine blk_drew ?_ | refine blk_alloc ?_ _)); exact BK122.out) hb); have n1_:=Aside0.mk (below_step (by repeat (first | (with_reducible first | exact HB.out | apply below_alloc | apply pw_below_drewN | apply below_drew1 | refine below_set ?_ GE122.out) | exact HB.out)) hb); clear BK122; clear HB; have BK122:=n0_; have HB:=n1_; clear n0_ n1_; (try clear hb); (try clear hb2); (try clear hk); (try clear hi)) | ((with_reducible refine gate_callee (f:=57) rfl ?_); refine goesL_ (some 29) rfl rfl Tryd.func57 (by kernel_rfl) rfl #[.int .i64 (wrap64 (Int.tdiv a0 1440))] rfl (by (try simp only [List.map_toArray,List.map_cons,List.map_nil]); first | done | rfl | (simp only [List.length_drop,List.length_take]; rfl)) ?_; (with_reducible refine (civil_Week.calls (wrap64 (Int.tdiv a0 1440)) t127 t128 _ A8.out).mono ?_); rintro e w' ⟨rfl,⟨nd,rfl⟩⟩; refine ⟨_,rfl,?_⟩; (try (rw [drewN_self w9]; generalize hq_:World.drewN w9 _=w9; have n0_:Aside0 (w9.heap[gb122]?=some (.cells #[.int .i64 0,.int .i64 0,.int .i64 0,.int .i64 0,.int .i64 0,.int .i64 0] 66 (0,0))):=⟨by rw [← hq_]; exact (by (with_reducible repeat (first | refine blk_drewN ?_ _ | refine blk_drew ?_ | refine blk_alloc ?_ _)); exact BK122.out)⟩; have n1_:Aside0 (Below w.heap.size w w9):=⟨by rw [← hq_]; exact (by repeat (first | (with_reducible first | exact HB.out | apply below_alloc | apply pw_below_drewN | apply below_drew1 | refine below_set ?_ GE122.out) | exact HB.out))⟩; clear BK122 HB hq_; have BK122:=n0_; have HB:=n1_; clear n0_ n1_))) | ((with_reducible refine gate_dst (N:=10) rfl ?_); refine box_event ?hg (N:=10) ?hd (cs:=#[.int .i64 0,.int .i64 0,.int .i64 0,.int .i64 0,.int .i64 0,.int .i64 0]) (t:=66) ?hr ?_; (case hd=>rfl); (case hg=>rfl); (case hr=>first | (go_simp; done) | (go_simp; rfl)); intro gb129 hg w10 hbox hb; have n0_:=Aside0.mk (blk_below (g:=gb122) (o:=.cells #[.int .i64 0,.int .i64 0,.int .i64 0,.int .i64 0,.int .i64 0,.int .i64 0] 66 (0,0)) (by (with_reducible repeat (first | refine blk_drewN ?_ _ | refine blk_drew ?_ | refine blk_alloc ?_ _)); exact BK122.out) hb); have n1_:=Aside0.mk (below_step (by repeat (first | (with_reducible first | exact HB.out | apply below_alloc | apply pw_below_drewN | apply below_drew1 | refine below_set ?_ GE122.out) | exact HB.out)) hb); have n2_:=Aside0.mk (hbox); have n3_:=Aside0.mk ((by rw [hg]; exact (below_size (by repeat (first | (with_reducible first | exact HB.out | apply below_alloc | apply pw_below_drewN | apply below_drew1 | refine below_set ?_ GE122.out) | exact HB.out))):w.heap.size≤gb129)); have n4_:=Aside0.mk ((by rw [hg]; exact (below_size (by repeat (first | (with_reducible first | exact HB.out | apply below_alloc | apply pw_below_drewN | apply below_drew1 | refine below_set ?_ GE122.out) | exact HB.out))):w.heap.size≤gb129)); have n5_:=Aside0.mk ((by rw [hg]; exact Nat.ne_of_lt (blk_lt (g:=gb122) (o:=.cells #[.int .i64 0,.int .i64 0,.int .i64 0,.int .i64 0,.int .i64 0,.int .i64 0] 66 (0,0)) (by (with_reducible repeat (first | refine blk_drewN ?_ _ | refine blk_drew ?_ | refine blk_alloc ?_ _)); exact BK122.out)):gb122≠gb129)); have n6_:=Aside0.mk ((by rw [hg]; exact Nat.ne_of_gt (blk_lt (g:=gb122) (o:=.cells #[.int .i64 0,.int .i64 0,.int .i64 0,.int .i64 0,.int .i64 0,.int .i64 0] 66 (0,0)) (by (with_reducible repeat (first | refine blk_drewN ?_ _ | refine blk_drew ?_ | refine blk_alloc ?_ _)); exact BK122.out)):gb129≠gb122)); clear BK122; clear HB; have BK122:=n0_; have HB:=n1_; have BK129:=n2_; have GW129:=n3_; have GE129:=n4_; have NB122_129:=n5_; have NB129_122:=n6_; clear n0_ n1_ n2_ n3_ n4_ n5_ n6_; clear hb hbox hg; have hnb11:=NB129_122.out; have hnc11:=NB122_129.out; have hcz12_0:w10.cell? ⟨gb129,0,none⟩=some (.int .i64 0):=(blk_cell BK129.out 0).trans rfl; have hcz12_1:w10.cell? ⟨gb129,1,none⟩=some (.int .i64 0):=(blk_cell BK129.out 1).trans rfl; have hcz12_2:w10.cell? ⟨gb129,2,none⟩=some (.int .i64 0):=(blk_cell BK129.out 2).trans rfl; have hcz12_3:w10.cell? ⟨gb129,3,none⟩=some (.int .i64 0):=(blk_cell BK129.out 3).trans rfl; have hcz12_4:w10.cell? ⟨gb129,4,none⟩=some (.int .i64 0):=(blk_cell BK129.out 4).trans rfl; have hcz12_5:w10.cell? ⟨gb129,5,none⟩=some (.int .i64 0):=(blk_cell BK129.out 5).trans rfl; have hfz12_0:=blk_frozen BK129.out 0; have hfz12_1:=blk_frozen BK129.out 1; have hfz12_2:=blk_frozen BK129.out 2; have hfz12_3:=blk_frozen BK129.out 3; have hfz12_4:=blk_frozen BK129.out 4; have hfz12_5:=blk_frozen BK129.out 5; have hcz13_0:w10.cell? ⟨gb122,0,none⟩=some (.int .i64 0):=(blk_cell BK122.out 0).trans rfl; have hcz13_1:w10.cell? ⟨gb122,1,none⟩=some (.int .i64 0):=(blk_cell BK122.out 1).trans rfl; have hcz13_2:w10.cell? ⟨gb122,2,none⟩=some (.int .i64 0):=(blk_cell BK122.out 2).trans rfl; have hcz13_3:w10.cell? ⟨gb122,3,none⟩=some (.int .i64 0):=(blk_cell BK122.out 3).trans rfl; have hcz13_4:w10.cell? ⟨gb122,4,none⟩=some (.int .i64 0):=(blk_cell BK122.out 4).trans rfl; have hcz13_5:w10.cell? ⟨gb122,5,none⟩=some (.int .i64 0):=(blk_cell BK122.out 5).trans rfl; have hfz13_0:=blk_frozen BK122.out 0; have hfz13_1:=blk_frozen BK122.out 1; have hfz13_2:=blk_frozen BK122.out 2; have hfz13_3:=blk_frozen BK122.out 3; have hfz13_4:=blk_frozen BK122.out 4; have hfz13_5:=blk_frozen BK122.out 5))
    refine bodyPost_ret (results_ct rfl _ _ gb122 66 #[.int .i64 t123,.int .i64 t124,.int .i64 t125,.int .i64 (Int.tmod (wrap64 (Int.tdiv a0 60)) 24),.int .i64 (Int.tmod a0 60),.int .i64 t127] (0,0) _ rfl (by (with_reducible repeat (first | refine blk_drewN ?_ _ | refine blk_drew ?_ | refine blk_alloc ?_ _)); refine blk_put (cs:=#[.int .i64 t123,.int .i64 t124,.int .i64 t125,.int .i64 (Int.tmod (wrap64 (Int.tdiv a0 60)) 24),.int .i64 (Int.tmod a0 60),.int .i64 0]) ?_ 5 _ rfl; (with_reducible repeat (first | refine blk_drewN ?_ _ | refine blk_drew ?_ | refine blk_alloc ?_ _)); refine blk_put (cs:=#[.int .i64 t123,.int .i64 t124,.int .i64 t125,.int .i64 (Int.tmod (wrap64 (Int.tdiv a0 60)) 24),.int .i64 0,.int .i64 0]) ?_ 4 _ rfl; (with_reducible repeat (first | refine blk_drewN ?_ _ | refine blk_drew ?_ | refine blk_alloc ?_ _)); refine blk_put (cs:=#[.int .i64 t123,.int .i64 t124,.int .i64 t125,.int .i64 0,.int .i64 0,.int .i64 0]) ?_ 3 _ rfl; (with_reducible repeat (first | refine blk_drewN ?_ _ | refine blk_drew ?_ | refine blk_alloc ?_ _)); refine blk_put (cs:=#[.int .i64 t123,.int .i64 t124,.int .i64 0,.int .i64 0,.int .i64 0,.int .i64 0]) ?_ 2 _ rfl; (with_reducible repeat (first | refine blk_drewN ?_ _ | refine blk_drew ?_ | refine blk_alloc ?_ _)); refine blk_put (cs:=#[.int .i64 t123,.int .i64 0,.int .i64 0,.int .i64 0,.int .i64 0,.int .i64 0]) ?_ 1 _ rfl; (with_reducible repeat (first | refine blk_drewN ?_ _ | refine blk_drew ?_ | refine blk_alloc ?_ _)); refine blk_put (cs:=#[.int .i64 0,.int .i64 0,.int .i64 0,.int .i64 0,.int .i64 0,.int .i64 0]) ?_ 0 _ rfl; (with_reducible repeat (first | refine blk_drewN ?_ _ | refine blk_drew ?_ | refine blk_alloc ?_ _)); refine blk_far ?_ NB122_129.out _; (with_reducible repeat (first | refine blk_drewN ?_ _ | refine blk_drew ?_ | refine blk_alloc ?_ _)); refine blk_far ?_ NB122_129.out _; (with_reducible repeat (first | refine blk_drewN ?_ _ | refine blk_drew ?_ | refine blk_alloc ?_ _)); refine blk_far ?_ NB122_129.out _; (with_reducible repeat (first | refine blk_drewN ?_ _ | refine blk_drew ?_ | refine blk_alloc ?_ _)); refine blk_far ?_ NB122_129.out _; (with_reducible repeat (first | refine blk_drewN ?_ _ | refine blk_drew ?_ | refine blk_alloc ?_ _)); refine blk_far ?_ NB122_129.out _; (with_reducible repeat (first | refine blk_drewN ?_ _ | refine blk_drew ?_ | refine blk_alloc ?_ _)); refine blk_far ?_ NB122_129.out _; (with_reducible repeat (first | refine blk_drewN ?_ _ | refine blk_drew ?_ | refine blk_alloc ?_ _)); exact BK122.out) Tryd.underlying66 rfl (by kernel_rfl)) rfl ?_
    exact ⟨by first | rfl | (simp [errW_none,errW_some] <;> rfl) | (simp [*,errW_none,errW_some] <;> rfl),by repeat (first | (with_reducible first | exact HB.out | apply below_alloc | apply pw_below_drewN | apply below_drew1 | refine below_set ?_ GE122.out | refine below_set ?_ GE129.out) | exact HB.out)⟩
end Go.Proofs.YtepflnfnkfkldaaDoor.PRea
