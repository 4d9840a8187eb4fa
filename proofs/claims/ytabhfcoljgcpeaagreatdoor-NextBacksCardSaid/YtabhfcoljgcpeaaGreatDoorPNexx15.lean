-- Written by a program of this session (gprint.py) over the kit's print.
import Derived.Test.YtabhfcoljgcpeaaGreatDoorPNexx0
import Derived.Test.YtabhfcoljgcpeaaGreatDoorPNexx1
import Derived.Test.YtabhfcoljgcpeaaGreatDoorPNexx5
import Derived.Test.YtabhfcoljgcpeaaGreatDoorPNexx6
import Derived.Test.YtabhfcoljgcpeaaGreatDoorPNexx13
import Derived.Test.YtabhfcoljgcpeaaGreatDoorPNexx14
namespace Go.Proofs.YtabhfcoljgcpeaaGreatDoor.PNex
open Go.RowKit Go.Proofs.YtabhfcoljgcpeaaGreatDoorW.PrintWords Go.Proofs.YtabhfcoljgcpeaaGreatDoorW.PrintLast Go.Proofs.YtabhfcoljgcpeaaGreatDoorW.PrintMore
attribute [local go_sem] max2_int min2_int max_two min_two max_three min_three max_four min_four
set_option linter.unusedVariables false
set_option linter.unusedSimpArgs false
/-! This session's own: the document's next, by its own steps. -/
def R22.up (is:Bool)(atf:Int→Option Bool)(D:Int):Nat→Int→Option (Option Int)
 | 0,_=>none
 | k+1,t=>if is=true∧t < 1440 then (atf t).bind fun m=>if m=true then some (some (wrap64 (wrap64 (D*1440)+t))) else R22.up is atf D k (wrap64 (t+1)) else some none
def R22.next (onf:Int→Int→Int→Int→Option Bool)(atf:Int→Option Bool)(aft:Int→Int→Int→Int→Option (Int × Int × Int × Int)):Nat→Int→Int→Int→Int→Int→Option (Int × Int)
 | 0,_,_,_,_,_=>none
 | k+1,t,D,y,m,d=>if D≤376199 then (onf D y m d).bind fun is=>(R22.up is atf D 1500 t).bind fun o=>match o with
   | some r=>some (r,0)
   | none=>(aft D y m d).bind fun q=>R22.next onf atf aft k 0 q.1 q.2.1 q.2.2.1 q.2.2.2
  else some (0,11)
def R22.dn (is:Bool)(atf:Int→Option Bool)(D:Int):Nat→Int→Option (Option Int)
 | 0,_=>none
 | k+1,t=>if is=true∧0≤t then (atf t).bind fun m=>if m=true then some (some (wrap64 (wrap64 (D*1440)+t))) else R22.dn is atf D k (wrap64 (t - 1)) else some none
def R22.prev (onf:Int→Int→Int→Int→Option Bool)(atf:Int→Option Bool)(bef:Int→Int→Int→Int→Option (Int × Int × Int × Int)):Nat→Int→Int→Int→Int→Int→Option (Int × Int)
 | 0,_,_,_,_,_=>none
 | k+1,t,D,y,m,d=>if 0≤D then (onf D y m d).bind fun is=>(R22.dn is atf D 1500 t).bind fun o=>match o with
   | some r=>some (r,0)
   | none=>(bef D y m d).bind fun q=>R22.prev onf atf bef k 1439 q.1 q.2.1 q.2.2.1 q.2.2.2
  else some (0,11)
def R22.count (onf:Int→Int→Int→Int→Option Bool)(tms:Int→Int→Option Int)(aft:Int→Int→Int→Int→Option (Int × Int × Int × Int))(fr tu wh:Int):Nat→Int→Int→Int→Int→Int→Option Int
 | 0,_,_,_,_,_=>none
 | k + 1, n, D, y, m, d => if wrap64 (D * 1440) < tu then (onf D y m d).bind fun is => (if is = true then
    (if mx (wrap64 (fr - wrap64 (D*1440))) 0=0∧mn (wrap64 (tu - wrap64 (D*1440))) 1440=1440 then some (wrap64 (n+wh)) else (tms (mx (wrap64 (fr - wrap64 (D*1440))) 0) (mn (wrap64 (tu - wrap64 (D*1440))) 1440)).bind fun v=>some (wrap64 (n+v))) else some n).bind fun n'=>
   (aft D y m d).bind fun q=>R22.count onf tms aft fr tu wh k n' q.1 q.2.1 q.2.2.1 q.2.2.2
  else some n
def complineref22_before.f (k:Nat)(a0_0:Int)(a0_1:Int)(a0_2:Int)(a0_3:Int):Option (Int × Int × Int × Int):=if a0_3 > 1 then (some (wrap64 (a0_0 - 1),a0_1,a0_2,wrap64 (a0_3 - 1))) else (if a0_2 > 1 then ((complineref16_Length.f k a0_1 (wrap64 (a0_2 - 1))).bind fun t216=>(some (wrap64 (a0_0 - 1),a0_1,wrap64 (a0_2 - 1),t216))) else (some (wrap64 (a0_0 - 1),wrap64 (a0_1 - 1),12,31)))
def complineref22_before.T4:Bool × List (List Nat × List Nat):=(true,[([],[]),([0],[0]),([1],[1]),([],[]),([3],[3]),([],[]),([5],[5]),([6],[6]),([],[]),([8],[8]),([],[]),([10],[10]),([11],[11]),([9,12],[9,12]),([2,4,7,13],[2,4,7,13]),([14,13,0,1,2,3,4,5,6,7,8,9,10,11,12,13,14],[14])])
def complineref22_before.B4:List Nat:=[0,1,3,0,8,0,32,96,0,256,0,1024,3072,7936,16383,32767]
theorem complineref22_before.tab4:rtab .any (opsOf Tryz.f30 4)=complineref22_before.T4:=by kernel_rfl
theorem complineref22_before.bits4:waitsOk complineref22_before.T4.2 complineref22_before.B4=true:=by kernel_rfl
set_option maxHeartbeats 8000000 in
set_option maxRecDepth 100000 in
theorem complineref22_before.calls (k:Nat)(a0_0:Int)(a0_1:Int)(a0_2:Int)(a0_3:Int)(r1:Int)(r2:Int)(r3:Int)(r4:Int)(w:World)(h:complineref22_before.f k a0_0 a0_1 a0_2 a0_3=some (r1,r2,r3,r4)) :
  Calls Tryz.prog 30 #[.agg #[.int .i64 a0_0,.int .i64 a0_1,.int .i64 a0_2,.int .i64 a0_3]] w fun e w'=>e=.returned (.agg #[.int .i64 r1,.int .i64 r2,.int .i64 r3,.int .i64 r4])∧Below w.heap.size w w':=by
 have hu55:=Tryz.underlying55
 have HB:=Aside0.mk (Below.refl w.heap.size w)
 have H:(if a0_3 > 1 then (some (wrap64 (a0_0 - 1),a0_1,a0_2,wrap64 (a0_3 - 1))) else (if a0_2 > 1 then ((complineref16_Length.f k a0_1 (wrap64 (a0_2 - 1))).bind fun t216=>(some (wrap64 (a0_0 - 1),a0_1,wrap64 (a0_2 - 1),t216))) else (some (wrap64 (a0_0 - 1),wrap64 (a0_1 - 1),12,31))))=some (r1,r2,r3,r4):=h
 clear h
 by_cases c2:a0_3 > 1
 ·rw [if_pos c2] at H
  have c2b0:decide (1 < a0_3)=true:=decide_eq_true c2
  clear c2
  simp only [Option.some.injEq,Prod.mk.injEq] at H
  obtain ⟨rfl,rfl,rfl,rfl⟩ :=H
  go_enter Tryz.func30,Tryz.ntmps30
  go_wp2_with (first | ((with_reducible refine gate_dst (N:=1) rfl ?_); refine box_event ?hg (N:=1) ?hd (cs:=#[.int .i64 a0_0,.int .i64 a0_1,.int .i64 a0_2,.int .i64 a0_3]) (t:=55) ?hr ?_; (case hd=>rfl); (case hg=>rfl); (case hr=>first | (go_simp; done) | (go_simp; rfl)); intro gb214 hg w3 hbox hb; have n0_:=Aside0.mk (below_step (by repeat (first | (with_reducible first | exact HB.out | apply below_alloc | apply pw_below_drewN | apply below_drew1) | exact HB.out)) hb); have n1_:=Aside0.mk (hbox); have n2_:=Aside0.mk ((by rw [hg]; exact (below_size (by repeat (first | (with_reducible first | exact HB.out | apply below_alloc | apply pw_below_drewN | apply below_drew1) | exact HB.out))):w.heap.size≤gb214)); have n3_:=Aside0.mk ((by rw [hg]; exact (below_size (by repeat (first | (with_reducible first | exact HB.out | apply below_alloc | apply pw_below_drewN | apply below_drew1) | exact HB.out))):w.heap.size≤gb214)); clear HB; have HB:=n0_; have BK214:=n1_; have GW214:=n2_; have GE214:=n3_; clear n0_ n1_ n2_ n3_; clear hb hbox hg) | ((with_reducible refine gate_dst (N:=2) rfl ?_); refine box_event ?hg (N:=2) ?hd (cs:=#[.int .i64 0,.int .i64 0,.int .i64 0,.int .i64 0]) (t:=55) ?hr ?_; (case hd=>rfl); (case hg=>rfl); (case hr=>first | (go_simp; done) | (go_simp; rfl)); intro gb215 hg w4 hbox hb; have n0_:=Aside0.mk (blk_below (g:=gb214) (o:=.cells #[.int .i64 a0_0,.int .i64 a0_1,.int .i64 a0_2,.int .i64 a0_3] 55 (0,0)) (by (with_reducible repeat (first | refine blk_drewN ?_ _ | refine blk_drew ?_ | refine blk_alloc ?_ _)); exact BK214.out) hb); have n1_:=Aside0.mk (below_step (by repeat (first | (with_reducible first | exact HB.out | apply below_alloc | apply pw_below_drewN | apply below_drew1 | refine below_set ?_ GE214.out) | exact HB.out)) hb); have n2_:=Aside0.mk (hbox); have n3_:=Aside0.mk ((by rw [hg]; exact (below_size (by repeat (first | (with_reducible first | exact HB.out | apply below_alloc | apply pw_below_drewN | apply below_drew1 | refine below_set ?_ GE214.out) | exact HB.out))):w.heap.size≤gb215)); have n4_:=Aside0.mk ((by rw [hg]; exact (below_size (by repeat (first | (with_reducible first | exact HB.out | apply below_alloc | apply pw_below_drewN | apply below_drew1 | refine below_set ?_ GE214.out) | exact HB.out))):w.heap.size≤gb215)); have n5_:=Aside0.mk ((by rw [hg]; exact Nat.ne_of_lt (blk_lt (g:=gb214) (o:=.cells #[.int .i64 a0_0,.int .i64 a0_1,.int .i64 a0_2,.int .i64 a0_3] 55 (0,0)) (by (with_reducible repeat (first | refine blk_drewN ?_ _ | refine blk_drew ?_ | refine blk_alloc ?_ _)); exact BK214.out)):gb214≠gb215)); have n6_:=Aside0.mk ((by rw [hg]; exact Nat.ne_of_gt (blk_lt (g:=gb214) (o:=.cells #[.int .i64 a0_0,.int .i64 a0_1,.int .i64 a0_2,.int .i64 a0_3] 55 (0,0)) (by (with_reducible repeat (first | refine blk_drewN ?_ _ | refine blk_drew ?_ | refine blk_alloc ?_ _)); exact BK214.out)):gb215≠gb214)); clear BK214; clear HB; have BK214:=n0_; have HB:=n1_; have BK215:=n2_; have GW215:=n3_; have GE215:=n4_; have NB214_215:=n5_; have NB215_214:=n6_; clear n0_ n1_ n2_ n3_ n4_ n5_ n6_; clear hb hbox hg; have hnb5:=NB214_215.out; have hnc5:=NB215_214.out; have hcz6_0:w4.cell? ⟨gb214,0,none⟩=some (.int .i64 a0_0):=(blk_cell BK214.out 0).trans rfl; have hcz6_1:w4.cell? ⟨gb214,1,none⟩=some (.int .i64 a0_1):=(blk_cell BK214.out 1).trans rfl; have hcz6_2:w4.cell? ⟨gb214,2,none⟩=some (.int .i64 a0_2):=(blk_cell BK214.out 2).trans rfl; have hcz6_3:w4.cell? ⟨gb214,3,none⟩=some (.int .i64 a0_3):=(blk_cell BK214.out 3).trans rfl; have hfz6_0:=blk_frozen BK214.out 0; have hfz6_1:=blk_frozen BK214.out 1; have hfz6_2:=blk_frozen BK214.out 2; have hfz6_3:=blk_frozen BK214.out 3; have hcz7_0:w4.cell? ⟨gb215,0,none⟩=some (.int .i64 0):=(blk_cell BK215.out 0).trans rfl; have hcz7_1:w4.cell? ⟨gb215,1,none⟩=some (.int .i64 0):=(blk_cell BK215.out 1).trans rfl; have hcz7_2:w4.cell? ⟨gb215,2,none⟩=some (.int .i64 0):=(blk_cell BK215.out 2).trans rfl; have hcz7_3:w4.cell? ⟨gb215,3,none⟩=some (.int .i64 0):=(blk_cell BK215.out 3).trans rfl; have hfz7_0:=blk_frozen BK215.out 0; have hfz7_1:=blk_frozen BK215.out 1; have hfz7_2:=blk_frozen BK215.out 2; have hfz7_3:=blk_frozen BK215.out 3))
  refine bodyPost_ret (results_cell_row rfl _ _ gb215 55 #[.int .i64 (wrap64 (a0_0 - 1)),.int .i64 a0_1,.int .i64 a0_2,.int .i64 (wrap64 (a0_3 - 1))] (0,0) _ rfl (by (with_reducible repeat (first | refine blk_drewN ?_ _ | refine blk_drew ?_ | refine blk_alloc ?_ _)); refine blk_put (cs:=#[.int .i64 (wrap64 (a0_0 - 1)),.int .i64 a0_1,.int .i64 a0_2,.int .i64 0]) ?_ 3 _ rfl; (with_reducible repeat (first | refine blk_drewN ?_ _ | refine blk_drew ?_ | refine blk_alloc ?_ _)); refine blk_put (cs:=#[.int .i64 (wrap64 (a0_0 - 1)),.int .i64 a0_1,.int .i64 0,.int .i64 0]) ?_ 2 _ rfl; (with_reducible repeat (first | refine blk_drewN ?_ _ | refine blk_drew ?_ | refine blk_alloc ?_ _)); refine blk_put (cs:=#[.int .i64 (wrap64 (a0_0 - 1)),.int .i64 0,.int .i64 0,.int .i64 0]) ?_ 1 _ rfl; (with_reducible repeat (first | refine blk_drewN ?_ _ | refine blk_drew ?_ | refine blk_alloc ?_ _)); refine blk_put (cs:=#[.int .i64 0,.int .i64 0,.int .i64 0,.int .i64 0]) ?_ 0 _ rfl; (with_reducible repeat (first | refine blk_drewN ?_ _ | refine blk_drew ?_ | refine blk_alloc ?_ _)); exact BK215.out) Tryz.underlying55 rfl (by kernel_rfl)) rfl ?_
  exact ⟨by first | rfl | (simp [errW_none,errW_some] <;> rfl) | (simp [*,errW_none,errW_some] <;> rfl),by repeat (first | (with_reducible first | exact HB.out | apply below_alloc | apply pw_below_drewN | apply below_drew1 | refine below_set ?_ GE214.out | refine below_set ?_ GE215.out) | exact HB.out)⟩
 ·rw [if_neg c2] at H
  have c2b0:decide (1 < a0_3)=false:=decide_eq_false c2
  clear c2
  by_cases c8:a0_2 > 1
  ·rw [if_pos c8] at H
   have c8b0:decide (1 < a0_2)=true:=decide_eq_true c8
   clear c8
   replace H:=Option.bind_eq_some_iff.mp H
   obtain ⟨t216,A90,H⟩ :=H
   replace H:(some (wrap64 (a0_0 - 1),a0_1,wrap64 (a0_2 - 1),t216))=some (r1,r2,r3,r4):=H
   have A9:=Aside0.mk A90
   clear A90
   simp only [Option.some.injEq,Prod.mk.injEq] at H
   obtain ⟨rfl,rfl,rfl,rfl⟩ :=H
   go_enter Tryz.func30,Tryz.ntmps30
   try go_wp2_with (first | ((with_reducible refine gate_dst (N:=1) rfl ?_); refine box_event ?hg (N:=1) ?hd (cs:=#[.int .i64 a0_0,.int .i64 a0_1,.int .i64 a0_2,.int .i64 a0_3]) (t:=55) ?hr ?_; (case hd=>rfl); (case hg=>rfl); (case hr=>first | (go_simp; done) | (go_simp; rfl)); intro gb214 hg w10 hbox hb; have n0_:=Aside0.mk (below_step (by repeat (first | (with_reducible first | exact HB.out | apply below_alloc | apply pw_below_drewN | apply below_drew1) | exact HB.out)) hb); have n1_:=Aside0.mk (hbox); have n2_:=Aside0.mk ((by rw [hg]; exact (below_size (by repeat (first | (with_reducible first | exact HB.out | apply below_alloc | apply pw_below_drewN | apply below_drew1) | exact HB.out))):w.heap.size≤gb214)); have n3_:=Aside0.mk ((by rw [hg]; exact (below_size (by repeat (first | (with_reducible first | exact HB.out | apply below_alloc | apply pw_below_drewN | apply below_drew1) | exact HB.out))):w.heap.size≤gb214)); clear HB; have HB:=n0_; have BK214:=n1_; have GW214:=n2_; have GE214:=n3_; clear n0_ n1_ n2_ n3_; clear hb hbox hg) | ((with_reducible refine gate_dst (N:=2) rfl ?_); refine box_event ?hg (N:=2) ?hd (cs:=#[.int .i64 0,.int .i64 0,.int .i64 0,.int .i64 0]) (t:=55) ?hr ?_; (case hd=>rfl); (case hg=>rfl); (case hr=>first | (go_simp; done) | (go_simp; rfl)); intro gb215 hg w11 hbox hb; have n0_:=Aside0.mk (blk_below (g:=gb214) (o:=.cells #[.int .i64 a0_0,.int .i64 a0_1,.int .i64 a0_2,.int .i64 a0_3] 55 (0,0)) (by (with_reducible repeat (first | refine blk_drewN ?_ _ | refine blk_drew ?_ | refine blk_alloc ?_ _)); exact BK214.out) hb); have n1_:=Aside0.mk (below_step (by repeat (first | (with_reducible first | exact HB.out | apply below_alloc | apply pw_below_drewN | apply below_drew1 | refine below_set ?_ GE214.out) | exact HB.out)) hb); have n2_:=Aside0.mk (hbox); have n3_:=Aside0.mk ((by rw [hg]; exact (below_size (by repeat (first | (with_reducible first | exact HB.out | apply below_alloc | apply pw_below_drewN | apply below_drew1 | refine below_set ?_ GE214.out) | exact HB.out))):w.heap.size≤gb215)); have n4_:=Aside0.mk ((by rw [hg]; exact (below_size (by repeat (first | (with_reducible first | exact HB.out | apply below_alloc | apply pw_below_drewN | apply below_drew1 | refine below_set ?_ GE214.out) | exact HB.out))):w.heap.size≤gb215)); have n5_:=Aside0.mk ((by rw [hg]; exact Nat.ne_of_lt (blk_lt (g:=gb214) (o:=.cells #[.int .i64 a0_0,.int .i64 a0_1,.int .i64 a0_2,.int .i64 a0_3] 55 (0,0)) (by (with_reducible repeat (first | refine blk_drewN ?_ _ | refine blk_drew ?_ | refine blk_alloc ?_ _)); exact BK214.out)):gb214≠gb215)); have n6_:=Aside0.mk ((by rw [hg]; exact Nat.ne_of_gt (blk_lt (g:=gb214) (o:=.cells #[.int .i64 a0_0,.int .i64 a0_1,.int .i64 a0_2,.int .i64 a0_3] 55 (0,0)) (by (with_reducible repeat (first | refine blk_drewN ?_ _ | refine blk_drew ?_ | refine blk_alloc ?_ _)); exact BK214.out)):gb215≠gb214)); clear BK214; clear HB; have BK214:=n0_; have HB:=n1_; have BK215:=n2_; have GW215:=n3_; have GE215:=n4_; have NB214_215:=n5_; have NB215_214:=n6_; clear n0_ n1_ n2_ n3_ n4_ n5_ n6_; clear hb hbox hg; have hnb12:=NB214_215.out; have hnc12:=NB215_214.out; have hcz13_0:w11.cell? ⟨gb214,0,none⟩=some (.int .i64 a0_0):=(blk_cell BK214.out 0).trans rfl; have hcz13_1:w11.cell? ⟨gb214,1,none⟩=some (.int .i64 a0_1):=(blk_cell BK214.out 1).trans rfl; have hcz13_2:w11.cell? ⟨gb214,2,none⟩=some (.int .i64 a0_2):=(blk_cell BK214.out 2).trans rfl; have hcz13_3:w11.cell? ⟨gb214,3,none⟩=some (.int .i64 a0_3):=(blk_cell BK214.out 3).trans rfl; have hfz13_0:=blk_frozen BK214.out 0; have hfz13_1:=blk_frozen BK214.out 1; have hfz13_2:=blk_frozen BK214.out 2; have hfz13_3:=blk_frozen BK214.out 3))
   have n0_:=Aside0.mk (blk_drew BK214.out)
   have n1_:=Aside0.mk (blk_drew BK215.out)
   have n2_:=Aside0.mk (below_drew1 HB.out)
   clear BK214
   clear BK215
   clear HB
   have BK214:=n0_
   have BK215:=n1_
   have HB:=n2_
   clear n0_ n1_ n2_
   refine start_ (n:=16) (S:=fun w'=>w'.cell? ⟨gb214,0,none⟩=some (.int .i64 a0_0)∧w'.cell? ⟨gb214,1,none⟩=some (.int .i64 a0_1)∧w'.cell? ⟨gb214,2,none⟩=some (.int .i64 a0_2)∧w'.cell? ⟨gb214,3,none⟩=some (.int .i64 a0_3)) (ds:=[]) #[F_,F_,F_,F_,F_,F_,F_,F_,F_,F_,F_,F_,F_,F_,F_,F_] (by kernel_rfl) rfl rfl ⟨(blk_cell BK214.out 0).trans rfl,(blk_cell BK214.out 1).trans rfl,(blk_cell BK214.out 2).trans rfl,(blk_cell BK214.out 3).trans rfl⟩ (fun hHeld=>?_); refine with_tabW complineref22_before.tab4 complineref22_before.bits4 (fun HT_ HW_=>?_)
   generalize w11.drew=w14 at BK214 BK215 HB hHeld ⊢
   refine pure_ (i:=0) (N:=some 20) (v:=?_) (a':=?_) #[T_,F_,F_,F_,F_,F_,F_,F_,F_,F_,F_,F_,F_,F_,F_,F_] rfl rfl (any_of HT_.out (by kernel_rfl)) (fun _ _ _ h=>h) (Or.inl ⟨by rfl,?_⟩) ?_ ?_
   rotate_left
   ·intro w'
    go_simp
    with_reducible rfl
   rotate_left
   ·simp only [Act.put,List.setIfInBounds_toArray,List.set_cons_zero,List.set_cons_succ,i64_w,i32_w]
    rfl
   refine pure_ (i:=3) (N:=some 23) (v:=?_) (a':=?_) #[T_,F_,F_,T_,F_,F_,F_,F_,F_,F_,F_,F_,F_,F_,F_,F_] rfl rfl (any_of HT_.out (by kernel_rfl)) (fun _ _ _ h=>h) (Or.inl ⟨by rfl,?_⟩) ?_ ?_
   rotate_left
   ·intro w'
    go_simp
    with_reducible rfl
   rotate_left
   ·simp only [Act.put,List.setIfInBounds_toArray,List.set_cons_zero,List.set_cons_succ,i64_w,i32_w]
    rfl
   refine pure_ (i:=5) (N:=some 25) (v:=?_) (a':=?_) #[T_,F_,F_,T_,F_,T_,F_,F_,F_,F_,F_,F_,F_,F_,F_,F_] rfl rfl (any_of HT_.out (by kernel_rfl)) (fun _ _ _ h=>h) (Or.inl ⟨by rfl,?_⟩) ?_ ?_
   rotate_left
   ·intro w'
    go_simp
    with_reducible rfl
   rotate_left
   ·simp only [Act.put,List.setIfInBounds_toArray,List.set_cons_zero,List.set_cons_succ,i64_w,i32_w]
    rfl
   refine pure_ (i:=8) (N:=some 28) (v:=?_) (a':=?_) #[T_,F_,F_,T_,F_,T_,F_,F_,T_,F_,F_,F_,F_,F_,F_,F_] rfl rfl (any_of HT_.out (by kernel_rfl)) (fun _ _ _ h=>h) (Or.inl ⟨by rfl,?_⟩) ?_ ?_
   rotate_left
   ·intro w'
    go_simp
    with_reducible rfl
   rotate_left
   ·simp only [Act.put,List.setIfInBounds_toArray,List.set_cons_zero,List.set_cons_succ,i64_w,i32_w]
    rfl
   refine pure_ (i:=10) (N:=some 30) (v:=?_) (a':=?_) #[T_,F_,F_,T_,F_,T_,F_,F_,T_,F_,T_,F_,F_,F_,F_,F_] rfl rfl (any_of HT_.out (by kernel_rfl)) (fun _ _ _ h=>h) (Or.inl ⟨by rfl,?_⟩) ?_ ?_
   rotate_left
   ·intro w'
    go_simp
    with_reducible rfl
   rotate_left
   ·simp only [Act.put,List.setIfInBounds_toArray,List.set_cons_zero,List.set_cons_succ,i64_w,i32_w]
    rfl
   refine take_ (i:=1) (N:=some 21) (v:=?_) (a':=?_) #[T_,T_,F_,T_,F_,T_,F_,F_,T_,F_,T_,F_,F_,F_,F_,F_] rfl rfl (take_ofW HT_.out HW_.out (by kernel_rfl)) (fun _ _ _ h=>h) (Or.inl ⟨by rfl,?_⟩) hHeld ?_ ?_
   rotate_left
   ·rintro w' ⟨s0,s1,s2,s3⟩
    go_simp
    with_reducible rfl
   rotate_left
   ·simp only [Act.put,List.setIfInBounds_toArray,List.set_cons_zero,List.set_cons_succ,i64_w,i32_w]
    rfl
   refine pure_ (i:=2) (N:=some 22) (v:=?_) (a':=?_) #[T_,T_,T_,T_,F_,T_,F_,F_,T_,F_,T_,F_,F_,F_,F_,F_] rfl rfl (any_of HT_.out (by kernel_rfl)) (fun _ _ _ h=>h) (Or.inl ⟨by rfl,?_⟩) ?_ ?_
   rotate_left
   ·intro w'
    go_simp
    with_reducible rfl
   rotate_left
   ·simp only [Act.put,List.setIfInBounds_toArray,List.set_cons_zero,List.set_cons_succ,i64_w,i32_w]
    rfl
   refine take_ (i:=4) (N:=some 24) (v:=?_) (a':=?_) #[T_,T_,T_,T_,T_,T_,F_,F_,T_,F_,T_,F_,F_,F_,F_,F_] rfl rfl (take_ofW HT_.out HW_.out (by kernel_rfl)) (fun _ _ _ h=>h) (Or.inl ⟨by rfl,?_⟩) hHeld ?_ ?_
   rotate_left
   ·rintro w' ⟨s0,s1,s2,s3⟩
    go_simp
    with_reducible rfl
   rotate_left
   ·simp only [Act.put,List.setIfInBounds_toArray,List.set_cons_zero,List.set_cons_succ,i64_w,i32_w]
    rfl
   refine take_ (i:=6) (N:=some 26) (v:=?_) (a':=?_) #[T_,T_,T_,T_,T_,T_,T_,F_,T_,F_,T_,F_,F_,F_,F_,F_] rfl rfl (take_ofW HT_.out HW_.out (by kernel_rfl)) (fun _ _ _ h=>h) (Or.inl ⟨by rfl,?_⟩) hHeld ?_ ?_
   rotate_left
   ·rintro w' ⟨s0,s1,s2,s3⟩
    go_simp
    with_reducible rfl
   rotate_left
   ·simp only [Act.put,List.setIfInBounds_toArray,List.set_cons_zero,List.set_cons_succ,i64_w,i32_w]
    rfl
   refine pure_ (i:=7) (N:=some 27) (v:=?_) (a':=?_) #[T_,T_,T_,T_,T_,T_,T_,T_,T_,F_,T_,F_,F_,F_,F_,F_] rfl rfl (any_of HT_.out (by kernel_rfl)) (fun _ _ _ h=>h) (Or.inl ⟨by rfl,?_⟩) ?_ ?_
   rotate_left
   ·intro w'
    go_simp
    with_reducible rfl
   rotate_left
   ·simp only [Act.put,List.setIfInBounds_toArray,List.set_cons_zero,List.set_cons_succ,i64_w,i32_w]
    rfl
   refine take_ (i:=9) (N:=some 29) (v:=?_) (a':=?_) #[T_,T_,T_,T_,T_,T_,T_,T_,T_,T_,T_,F_,F_,F_,F_,F_] rfl rfl (take_ofW HT_.out HW_.out (by kernel_rfl)) (fun _ _ _ h=>h) (Or.inl ⟨by rfl,?_⟩) hHeld ?_ ?_
   rotate_left
   ·rintro w' ⟨s0,s1,s2,s3⟩
    go_simp
    with_reducible rfl
   rotate_left
   ·simp only [Act.put,List.setIfInBounds_toArray,List.set_cons_zero,List.set_cons_succ,i64_w,i32_w]
    rfl
   refine take_ (i:=11) (N:=some 31) (v:=?_) (a':=?_) #[T_,T_,T_,T_,T_,T_,T_,T_,T_,T_,T_,T_,F_,F_,F_,F_] rfl rfl (take_ofW HT_.out HW_.out (by kernel_rfl)) (fun _ _ _ h=>h) (Or.inl ⟨by rfl,?_⟩) hHeld ?_ ?_
   rotate_left
   ·rintro w' ⟨s0,s1,s2,s3⟩
    go_simp
    with_reducible rfl
   rotate_left
   ·simp only [Act.put,List.setIfInBounds_toArray,List.set_cons_zero,List.set_cons_succ,i64_w,i32_w]
    rfl
   refine pure_ (i:=12) (N:=some 32) (v:=?_) (a':=?_) #[T_,T_,T_,T_,T_,T_,T_,T_,T_,T_,T_,T_,T_,F_,F_,F_] rfl rfl (any_of HT_.out (by kernel_rfl)) (fun _ _ _ h=>h) (Or.inl ⟨by rfl,?_⟩) ?_ ?_
   rotate_left
   ·intro w'
    go_simp
    with_reducible rfl
   rotate_left
   ·simp only [Act.put,List.setIfInBounds_toArray,List.set_cons_zero,List.set_cons_succ,i64_w,i32_w]
    rfl
   refine one_ (i:=13) (N:=some 33) #[T_,T_,T_,T_,T_,T_,T_,T_,T_,T_,T_,T_,T_,T_,F_,F_] rfl rfl (one_of HT_.out (by kernel_rfl)) (by decide) (fun K hK=>?_)
   refine goes_ Tryz.func55 (by kernel_rfl) rfl #[.int .i64 a0_1,.int .i64 (wrap64 (a0_2 - 1))] (by rfl) rfl rfl (by (try simp only [List.map_toArray,List.map_cons,List.map_nil]); first | done | rfl | (simp only [List.length_drop,List.length_take]; rfl)) ?_
   with_reducible refine (complineref16_Length.calls k a0_1 (wrap64 (a0_2 - 1)) t216 _ A9.out).mono ?_
   rintro e w' ⟨rfl,⟨nd,rfl⟩⟩
   refine ⟨_,rfl,?_⟩
   refine hK.out _ _ ⟨(blk_cell BK214.out 0).trans rfl,(blk_cell BK214.out 1).trans rfl,(blk_cell BK214.out 2).trans rfl,(blk_cell BK214.out 3).trans rfl⟩ (fun hHeld=>?_)
   clear hK K
   refine norm_ (a':=?_) ?_ ?_
   rotate_left
   ·show Act.put _ (some 33) _=_
    simp only [Act.put,List.setIfInBounds_toArray,List.set_cons_zero,List.set_cons_succ,i64_w,i32_w]
    rfl
   refine pure_ (i:=14) (N:=some 34) (v:=?_) (a':=?_) #[T_,T_,T_,T_,T_,T_,T_,T_,T_,T_,T_,T_,T_,T_,T_,F_] rfl rfl (any_of HT_.out (by kernel_rfl)) (fun _ _ _ h=>h) (Or.inl ⟨by rfl,?_⟩) ?_ ?_
   rotate_left
   ·intro w'
    go_simp
    with_reducible rfl
   rotate_left
   ·simp only [Act.put,List.setIfInBounds_toArray,List.set_cons_zero,List.set_cons_succ,i64_w,i32_w]
    rfl
   refine one_ (i:=15) (N:=none) #[T_,T_,T_,T_,T_,T_,T_,T_,T_,T_,T_,T_,T_,T_,T_,T_] rfl rfl (one_of HT_.out (by kernel_rfl)) (by decide) (fun K hK=>?_)
   have hs15:w14.cell? ⟨gb215,0,none⟩=some (.int .i64 0):=(blk_cell BK215.out 0).trans rfl
   have hfs15:=blk_frozen BK215.out 0
   have hns15_0:=NB214_215.out
   have hms15_0:=NB215_214.out
   have hs16:w14.cell? ⟨gb215,1,none⟩=some (.int .i64 0):=(blk_cell BK215.out 1).trans rfl
   have hfs16:=blk_frozen BK215.out 1
   have hns16_0:=NB214_215.out
   have hms16_0:=NB215_214.out
   have hs17:w14.cell? ⟨gb215,2,none⟩=some (.int .i64 0):=(blk_cell BK215.out 2).trans rfl
   have hfs17:=blk_frozen BK215.out 2
   have hns17_0:=NB214_215.out
   have hms17_0:=NB215_214.out
   have hs18:w14.cell? ⟨gb215,3,none⟩=some (.int .i64 0):=(blk_cell BK215.out 3).trans rfl
   have hfs18:=blk_frozen BK215.out 3
   have hns18_0:=NB214_215.out
   have hms18_0:=NB215_214.out
   refine skip_ (w1:=?_) (by rfl) rfl ?_ ?_
   rotate_left
   ·go_simp
    rfl
   refine hK.out _ _ ⟨((cell_far (p:=⟨gb215,_,none⟩) NB214_215.out _).trans (((cell_far (p:=⟨gb215,_,none⟩) NB214_215.out _).trans (((cell_far (p:=⟨gb215,_,none⟩) NB214_215.out _).trans (((cell_far (p:=⟨gb215,_,none⟩) NB214_215.out _).trans (hHeld.1)))))))),((cell_far (p:=⟨gb215,_,none⟩) NB214_215.out _).trans (((cell_far (p:=⟨gb215,_,none⟩) NB214_215.out _).trans (((cell_far (p:=⟨gb215,_,none⟩) NB214_215.out _).trans (((cell_far (p:=⟨gb215,_,none⟩) NB214_215.out _).trans (hHeld.2.1)))))))),((cell_far (p:=⟨gb215,_,none⟩) NB214_215.out _).trans (((cell_far (p:=⟨gb215,_,none⟩) NB214_215.out _).trans (((cell_far (p:=⟨gb215,_,none⟩) NB214_215.out _).trans (((cell_far (p:=⟨gb215,_,none⟩) NB214_215.out _).trans (hHeld.2.2.1)))))))),((cell_far (p:=⟨gb215,_,none⟩) NB214_215.out _).trans (((cell_far (p:=⟨gb215,_,none⟩) NB214_215.out _).trans (((cell_far (p:=⟨gb215,_,none⟩) NB214_215.out _).trans (((cell_far (p:=⟨gb215,_,none⟩) NB214_215.out _).trans (hHeld.2.2.2))))))))⟩ (fun hHeld=>?_)
   clear hK K
   refine done_ (done_of HT_.out (by kernel_rfl)) ?_
   try go_wp2
   refine bodyPost_ret (results_cell_row rfl _ _ gb215 55 #[.int .i64 (wrap64 (a0_0 - 1)),.int .i64 a0_1,.int .i64 (wrap64 (a0_2 - 1)),.int .i64 t216] (0,0) _ rfl (by (with_reducible repeat (first | refine blk_drewN ?_ _ | refine blk_drew ?_ | refine blk_alloc ?_ _)); refine blk_put (cs:=#[.int .i64 (wrap64 (a0_0 - 1)),.int .i64 a0_1,.int .i64 (wrap64 (a0_2 - 1)),.int .i64 0]) ?_ 3 _ rfl; (with_reducible repeat (first | refine blk_drewN ?_ _ | refine blk_drew ?_ | refine blk_alloc ?_ _)); refine blk_put (cs:=#[.int .i64 (wrap64 (a0_0 - 1)),.int .i64 a0_1,.int .i64 0,.int .i64 0]) ?_ 2 _ rfl; (with_reducible repeat (first | refine blk_drewN ?_ _ | refine blk_drew ?_ | refine blk_alloc ?_ _)); refine blk_put (cs:=#[.int .i64 (wrap64 (a0_0 - 1)),.int .i64 0,.int .i64 0,.int .i64 0]) ?_ 1 _ rfl; (with_reducible repeat (first | refine blk_drewN ?_ _ | refine blk_drew ?_ | refine blk_alloc ?_ _)); refine blk_put (cs:=#[.int .i64 0,.int .i64 0,.int .i64 0,.int .i64 0]) ?_ 0 _ rfl; (with_reducible repeat (first | refine blk_drewN ?_ _ | refine blk_drew ?_ | refine blk_alloc ?_ _)); exact BK215.out) Tryz.underlying55 rfl (by kernel_rfl)) rfl ?_
   exact ⟨by first | rfl | (simp [errW_none,errW_some] <;> rfl) | (simp [*,errW_none,errW_some] <;> rfl),by repeat (first | (with_reducible first | exact HB.out | apply below_alloc | apply pw_below_drewN | apply below_drew1 | refine below_set ?_ GE214.out | refine below_set ?_ GE215.out) | exact HB.out)⟩
  ·rw [if_neg c8] at H
   have c8b0:decide (1 < a0_2)=false:=decide_eq_false c8
   clear c8
   simp only [Option.some.injEq,Prod.mk.injEq] at H
   obtain ⟨rfl,rfl,rfl,rfl⟩ :=H
   go_enter Tryz.func30,Tryz.ntmps30
   go_wp2_with (first | ((with_reducible refine gate_dst (N:=1) rfl ?_); refine box_event ?hg (N:=1) ?hd (cs:=#[.int .i64 a0_0,.int .i64 a0_1,.int .i64 a0_2,.int .i64 a0_3]) (t:=55) ?hr ?_; (case hd=>rfl); (case hg=>rfl); (case hr=>first | (go_simp; done) | (go_simp; rfl)); intro gb214 hg w19 hbox hb; have n0_:=Aside0.mk (below_step (by repeat (first | (with_reducible first | exact HB.out | apply below_alloc | apply pw_below_drewN | apply below_drew1) | exact HB.out)) hb); have n1_:=Aside0.mk (hbox); have n2_:=Aside0.mk ((by rw [hg]; exact (below_size (by repeat (first | (with_reducible first | exact HB.out | apply below_alloc | apply pw_below_drewN | apply below_drew1) | exact HB.out))):w.heap.size≤gb214)); have n3_:=Aside0.mk ((by rw [hg]; exact (below_size (by repeat (first | (with_reducible first | exact HB.out | apply below_alloc | apply pw_below_drewN | apply below_drew1) | exact HB.out))):w.heap.size≤gb214)); clear HB; have HB:=n0_; have BK214:=n1_; have GW214:=n2_; have GE214:=n3_; clear n0_ n1_ n2_ n3_; clear hb hbox hg) | ((with_reducible refine gate_dst (N:=2) rfl ?_); refine box_event ?hg (N:=2) ?hd (cs:=#[.int .i64 0,.int .i64 0,.int .i64 0,.int .i64 0]) (t:=55) ?hr ?_; (case hd=>rfl); (case hg=>rfl); (case hr=>first | (go_simp; done) | (go_simp; rfl)); intro gb215 hg w20 hbox hb; have n0_:=Aside0.mk (blk_below (g:=gb214) (o:=.cells #[.int .i64 a0_0,.int .i64 a0_1,.int .i64 a0_2,.int .i64 a0_3] 55 (0,0)) (by (with_reducible repeat (first | refine blk_drewN ?_ _ | refine blk_drew ?_ | refine blk_alloc ?_ _)); exact BK214.out) hb); have n1_:=Aside0.mk (below_step (by repeat (first | (with_reducible first | exact HB.out | apply below_alloc | apply pw_below_drewN | apply below_drew1 | refine below_set ?_ GE214.out) | exact HB.out)) hb); have n2_:=Aside0.mk (hbox); have n3_:=Aside0.mk ((by rw [hg]; exact (below_size (by repeat (first | (with_reducible first | exact HB.out | apply below_alloc | apply pw_below_drewN | apply below_drew1 | refine below_set ?_ GE214.out) | exact HB.out))):w.heap.size≤gb215)); have n4_:=Aside0.mk ((by rw [hg]; exact (below_size (by repeat (first | (with_reducible first | exact HB.out | apply below_alloc | apply pw_below_drewN | apply below_drew1 | refine below_set ?_ GE214.out) | exact HB.out))):w.heap.size≤gb215)); have n5_:=Aside0.mk ((by rw [hg]; exact Nat.ne_of_lt (blk_lt (g:=gb214) (o:=.cells #[.int .i64 a0_0,.int .i64 a0_1,.int .i64 a0_2,.int .i64 a0_3] 55 (0,0)) (by (with_reducible repeat (first | refine blk_drewN ?_ _ | refine blk_drew ?_ | refine blk_alloc ?_ _)); exact BK214.out)):gb214≠gb215)); have n6_:=Aside0.mk ((by rw [hg]; exact Nat.ne_of_gt (blk_lt (g:=gb214) (o:=.cells #[.int .i64 a0_0,.int .i64 a0_1,.int .i64 a0_2,.int .i64 a0_3] 55 (0,0)) (by (with_reducible repeat (first | refine blk_drewN ?_ _ | refine blk_drew ?_ | refine blk_alloc ?_ _)); exact BK214.out)):gb215≠gb214)); clear BK214; clear HB; have BK214:=n0_; have HB:=n1_; have BK215:=n2_; have GW215:=n3_; have GE215:=n4_; have NB214_215:=n5_; have NB215_214:=n6_; clear n0_ n1_ n2_ n3_ n4_ n5_ n6_; clear hb hbox hg; have hnb21:=NB214_215.out; have hnc21:=NB215_214.out; have hcz22_0:w20.cell? ⟨gb214,0,none⟩=some (.int .i64 a0_0):=(blk_cell BK214.out 0).trans rfl; have hcz22_1:w20.cell? ⟨gb214,1,none⟩=some (.int .i64 a0_1):=(blk_cell BK214.out 1).trans rfl; have hcz22_2:w20.cell? ⟨gb214,2,none⟩=some (.int .i64 a0_2):=(blk_cell BK214.out 2).trans rfl; have hcz22_3:w20.cell? ⟨gb214,3,none⟩=some (.int .i64 a0_3):=(blk_cell BK214.out 3).trans rfl; have hfz22_0:=blk_frozen BK214.out 0; have hfz22_1:=blk_frozen BK214.out 1; have hfz22_2:=blk_frozen BK214.out 2; have hfz22_3:=blk_frozen BK214.out 3; have hcz23_0:w20.cell? ⟨gb215,0,none⟩=some (.int .i64 0):=(blk_cell BK215.out 0).trans rfl; have hcz23_1:w20.cell? ⟨gb215,1,none⟩=some (.int .i64 0):=(blk_cell BK215.out 1).trans rfl; have hcz23_2:w20.cell? ⟨gb215,2,none⟩=some (.int .i64 0):=(blk_cell BK215.out 2).trans rfl; have hcz23_3:w20.cell? ⟨gb215,3,none⟩=some (.int .i64 0):=(blk_cell BK215.out 3).trans rfl; have hfz23_0:=blk_frozen BK215.out 0; have hfz23_1:=blk_frozen BK215.out 1; have hfz23_2:=blk_frozen BK215.out 2; have hfz23_3:=blk_frozen BK215.out 3))
   refine bodyPost_ret (results_cell_row rfl _ _ gb215 55 #[.int .i64 (wrap64 (a0_0 - 1)),.int .i64 (wrap64 (a0_1 - 1)),.int .i64 12,.int .i64 31] (0,0) _ rfl (by (with_reducible repeat (first | refine blk_drewN ?_ _ | refine blk_drew ?_ | refine blk_alloc ?_ _)); refine blk_put (cs:=#[.int .i64 (wrap64 (a0_0 - 1)),.int .i64 (wrap64 (a0_1 - 1)),.int .i64 12,.int .i64 0]) ?_ 3 _ rfl; (with_reducible repeat (first | refine blk_drewN ?_ _ | refine blk_drew ?_ | refine blk_alloc ?_ _)); refine blk_put (cs:=#[.int .i64 (wrap64 (a0_0 - 1)),.int .i64 (wrap64 (a0_1 - 1)),.int .i64 0,.int .i64 0]) ?_ 2 _ rfl; (with_reducible repeat (first | refine blk_drewN ?_ _ | refine blk_drew ?_ | refine blk_alloc ?_ _)); refine blk_put (cs:=#[.int .i64 (wrap64 (a0_0 - 1)),.int .i64 0,.int .i64 0,.int .i64 0]) ?_ 1 _ rfl; (with_reducible repeat (first | refine blk_drewN ?_ _ | refine blk_drew ?_ | refine blk_alloc ?_ _)); refine blk_put (cs:=#[.int .i64 0,.int .i64 0,.int .i64 0,.int .i64 0]) ?_ 0 _ rfl; (with_reducible repeat (first | refine blk_drewN ?_ _ | refine blk_drew ?_ | refine blk_alloc ?_ _)); exact BK215.out) Tryz.underlying55 rfl (by kernel_rfl)) rfl ?_
   exact ⟨by first | rfl | (simp [errW_none,errW_some] <;> rfl) | (simp [*,errW_none,errW_some] <;> rfl),by repeat (first | (with_reducible first | exact HB.out | apply below_alloc | apply pw_below_drewN | apply below_drew1 | refine below_set ?_ GE214.out | refine below_set ?_ GE215.out) | exact HB.out)⟩
/-! This session's own: the document's Prev, walked. -/
set_option maxHeartbeats 8000000 in
set_option maxRecDepth 100000 in
theorem R22.Prev_good (b0:Int)(s0:Bool)(b1:Int)(s1:Bool)(b2:Int)(s2:Bool)(b3:Int)(s3:Bool)(b4:Int)(s4:Bool)(mi:Int)(A:complineref22_odd.f 2000 b0 s0 b1 s1 b2 s2 b3 s3 b4 s4=some false)(hm:¬ (mi≤0))(X:Int)(hX:mn mi 541728000=X)(D0 y0 m0 d0:Int)(hD:complineref22_day.f 2000 (wrap64 (Int.tdiv (wrap64 (X - 1)) 1440))=some (D0,y0,m0,d0))(r1 r2:Int)
  (H:R22.prev (fun D y m d=>complineref22_on.f 2000 b0 s0 b1 s1 b2 s2 b3 s3 b4 s4 D y m d) (fun t=>complineref22_at.f 2000 b0 s0 b1 s1 b2 s2 b3 s3 b4 s4 t) (fun D y m d=>complineref22_before.f 2000 D y m d) 400000 (Int.tmod (wrap64 (X - 1)) 1440) D0 y0 m0 d0=some (r1,r2)) (w:World) :
  Calls Tryz.prog 14 #[.agg #[.int .u64 b0,.bool s0,.int .u64 b1,.bool s1,.int .u64 b2,.bool s2,.int .u64 b3,.bool s3,.int .u64 b4,.bool s4],.int .i64 mi] w fun e w'=>e=.returned (.tuple #[.int .i64 r1,.int .i64 r2])∧Below w.heap.size w w':=by
 have hif:(if 541728000 < mi then (541728000:Int) else mi)=X:=hX
 have hd1:decide (mi≤0)=false:=decide_eq_false (by omega)
 obtain ⟨onf,hon⟩:∃ f:Int→Int→Int→Int→Option Bool,(fun D y m d=>complineref22_on.f 2000 b0 s0 b1 s1 b2 s2 b3 s3 b4 s4 D y m d)=f:=⟨_,rfl⟩
 obtain ⟨atf,hat⟩:∃ f:Int→Option Bool,(fun t=>complineref22_at.f 2000 b0 s0 b1 s1 b2 s2 b3 s3 b4 s4 t)=f:=⟨_,rfl⟩
 obtain ⟨aft,haft⟩:∃ f:Int→Int→Int→Int→Option (Int × Int × Int × Int),(fun D y m d=>complineref22_before.f 2000 D y m d)=f:=⟨_,rfl⟩
 rw [hon,hat,haft] at H
 obtain ⟨K0,hK0⟩:∃ k:Nat,400000=k:=⟨_,rfl⟩
 rw [hK0] at H
 clear hK0 hX hm
 replace A:=Lib.hid A
 replace hD:=Lib.hid hD
 replace H:=Aside0.mk H
 replace hon:=Lib.hid hon
 replace hat:=Lib.hid hat
 replace haft:=Lib.hid haft
 have HR:=Aside0.mk (show Spc.Row (w.alloc (.cells #[.int .u64 b0,.bool s0,.int .u64 b1,.bool s1,.int .u64 b2,.bool s2,.int .u64 b3,.bool s3,.int .u64 b4,.bool s4] 26)) w.heap.size b0 s0 b1 s1 b2 s2 b3 s3 b4 s4∧Below w.heap.size w (w.alloc (.cells #[.int .u64 b0,.bool s0,.int .u64 b1,.bool s1,.int .u64 b2,.bool s2,.int .u64 b3,.bool s3,.int .u64 b4,.bool s4] 26)) from ⟨blk_new w _,below_alloc (Below.refl _ _) _⟩)
 go_enter Tryz.func14,Tryz.ntmps14
 go_wp2_with fail
 generalize w.alloc (.cells #[.int .u64 b0,.bool s0,.int .u64 b1,.bool s1,.int .u64 b2,.bool s2,.int .u64 b3,.bool s3,.int .u64 b4,.bool s4] 26)=w1 at HR ⊢
 refine (complineref22_odd.calls 2000 _ _ _ _ _ _ _ _ _ _ _ _ A.out).mono ?_
 rintro e w2 ⟨rfl,hb⟩
 have H2:=Aside0.mk (show Spc.Row w2 w.heap.size b0 s0 b1 s1 b2 s2 b3 s3 b4 s4∧Below w.heap.size w w2 from ⟨blk_below HR.out.1 hb,below_step HR.out.2 hb⟩)
 clear HR hb A
 go_wp2_with fail
 refine (complineref22_day.calls 2000 _ _ _ _ _ _ hD.out).mono ?_
 rintro e w3 ⟨rfl,hb⟩
 have H3:=Aside0.mk (show Spc.Row w3 w.heap.size b0 s0 b1 s1 b2 s2 b3 s3 b4 s4∧Below w.heap.size w w3 from ⟨blk_below H2.out.1 hb,below_step H2.out.2 hb⟩)
 clear H2 hb
 have H4:=Aside0.mk (show Spc.Row (w3.alloc (.cells #[.int .i64 D0,.int .i64 y0,.int .i64 m0,.int .i64 d0] 55)) w.heap.size b0 s0 b1 s1 b2 s2 b3 s3 b4 s4∧Below w.heap.size w (w3.alloc (.cells #[.int .i64 D0,.int .i64 y0,.int .i64 m0,.int .i64 d0] 55))∧w.heap.size < w3.heap.size∧(w3.alloc (.cells #[.int .i64 D0,.int .i64 y0,.int .i64 m0,.int .i64 d0] 55)).heap[w3.heap.size]?=some (.cells #[.int .i64 D0,.int .i64 y0,.int .i64 m0,.int .i64 d0] 55 (0,0)) from ⟨blk_alloc H3.out.1 _,below_alloc H3.out.2 _,blk_lt H3.out.1,heap_alloc_new _ _⟩)
 go_wp2_with fail
 obtain ⟨gd0,hgd0⟩:∃ g,w3.heap.size=g:=⟨_,rfl⟩
 rw [hgd0] at H4 ⊢
 generalize w3.alloc (.cells #[.int .i64 D0,.int .i64 y0,.int .i64 m0,.int .i64 d0] 55)=w4 at H4 ⊢
 clear H3 hgd0
 go_loopg [7,8] K0 (fun kq v7 v8 wr=>∃ (t D y m d:Int) (gd:Nat),v7=.int .i64 t∧v8=.pointer (some ⟨gd,0,none⟩)∧Aside0 (R22.prev onf atf aft kq t D y m d=some (r1,r2))∧Aside0 (Spc.Row wr w.heap.size b0 s0 b1 s1 b2 s2 b3 s3 b4 s4∧Below w.heap.size w wr∧w.heap.size < gd∧wr.heap[gd]?=some (.cells #[.int .i64 D,.int .i64 y,.int .i64 m,.int .i64 d] 55 (0,0))))
 case atStart=>exact ⟨_,D0,y0,m0,d0,gd0,rfl,rfl,H,H4⟩
 case round=>
  clear H H4 hD hif hd1
  obtain ⟨t,D,y,m,d,gd,rfl,rfl,HA,HW⟩ :=hrel
  cases gk with
  | zero=>exact absurd HA.out (by simp [R22.prev])
  | succ k1=>
   have H:=HA.out
   clear HA
   rw [R22.prev] at H
   have v0:wr.cell? ⟨gd,0,none⟩=some (.int .i64 D):=(blk_cell HW.out.2.2.2 0).trans rfl
   have v1:wr.cell? ⟨gd,1,none⟩=some (.int .i64 y):=(blk_cell HW.out.2.2.2 1).trans rfl
   have v2:wr.cell? ⟨gd,2,none⟩=some (.int .i64 m):=(blk_cell HW.out.2.2.2 2).trans rfl
   have v3:wr.cell? ⟨gd,3,none⟩=some (.int .i64 d):=(blk_cell HW.out.2.2.2 3).trans rfl
   by_cases c1:0≤D
   ·rw [if_pos c1] at H
    have c1b:decide (0≤D)=true:=decide_eq_true c1
    obtain ⟨is,A1,H1⟩ :=Option.bind_eq_some_iff.mp H
    clear H
    obtain ⟨o,A2,HO⟩ :=Option.bind_eq_some_iff.mp H1
    clear H1
    replace A1:Hid (complineref22_on.f 2000 b0 s0 b1 s1 b2 s2 b3 s3 b4 s4 D y m d=some is):=Lib.hid (by rw [← hon.out] at A1; exact A1)
    replace A2:=Aside0.mk A2
    replace HO:=Aside0.mk HO
    obtain ⟨k0,k1,k2,k3,k4,k5,k6,k7,k8,k9⟩ :=HW.out.1.cells
    go_wp2_with fail
    refine (complineref22_on.calls 2000 _ _ _ _ _ _ _ _ _ _ _ _ _ _ _ _ A1.out).mono ?_
    rintro e w5 ⟨rfl,hb⟩
    have H5:=Aside0.mk (show Spc.Row w5 w.heap.size b0 s0 b1 s1 b2 s2 b3 s3 b4 s4∧Below w.heap.size w w5∧w.heap.size < gd∧w5.heap[gd]?=some (.cells #[.int .i64 D,.int .i64 y,.int .i64 m,.int .i64 d] 55 (0,0)) from ⟨blk_below HW.out.1 hb,below_step HW.out.2.1 hb,HW.out.2.2.1,blk_below HW.out.2.2.2 hb⟩)
    clear HW hb A1 k0 k1 k2 k3 k4 k5 k6 k7 k8 k9 v0 v1 v2 v3 c1b
    go_wp2_with fail
    go_loopg [7] 1500 (fun kq v7 wx=>∃ (t:Int),v7=.int .i64 t∧Aside0 (R22.dn is atf D kq t=some o)∧Aside0 (Spc.Row wx w.heap.size b0 s0 b1 s1 b2 s2 b3 s3 b4 s4∧Below w.heap.size w wx∧wx.heap[gd]?=some (.cells #[.int .i64 D,.int .i64 y,.int .i64 m,.int .i64 d] 55 (0,0))))
    case atStart=>exact ⟨t,rfl,A2,⟨⟨H5.out.1,H5.out.2.1,H5.out.2.2.2⟩⟩⟩
    case round=>
     clear A2
     obtain ⟨t,rfl,HA,HW⟩ :=hrel
     cases gk with
     | zero=>exact absurd HA.out (by simp [R22.dn])
     | succ k2=>
      have A2:=HA.out
      clear HA
      rw [R22.dn] at A2
      by_cases c2:is=true∧0≤t
      ·rw [if_pos c2] at A2
       obtain ⟨c2a,c2b⟩ :=c2
       subst c2a
       replace c2b:decide (0≤t)=true:=decide_eq_true c2b
       obtain ⟨mt,A3,A5⟩ :=Option.bind_eq_some_iff.mp A2
       clear A2
       replace A3:Hid (complineref22_at.f 2000 b0 s0 b1 s1 b2 s2 b3 s3 b4 s4 t=some mt):=Lib.hid (by rw [← hat.out] at A3; exact A3)
       obtain ⟨k0,k1,k2,k3,k4,k5,k6,k7,k8,k9⟩ :=HW.out.1.cells
       replace A5:=Aside0.mk A5
       go_wp2_with fail
       refine (complineref22_at.calls 2000 _ _ _ _ _ _ _ _ _ _ _ _ _ A3.out).mono ?_
       rintro e w6 ⟨rfl,hb⟩
       have H6:=Aside0.mk (show Spc.Row w6 w.heap.size b0 s0 b1 s1 b2 s2 b3 s3 b4 s4∧Below w.heap.size w w6∧w6.heap[gd]?=some (.cells #[.int .i64 D,.int .i64 y,.int .i64 m,.int .i64 d] 55 (0,0)) from ⟨blk_below HW.out.1 hb,below_step HW.out.2.1 hb,blk_below HW.out.2.2 hb⟩)
       clear HW hb A3 k0 k1 k2 k3 k4 k5 k6 k7 k8 k9
       cases mt with
       | true=>
        have e1:o=some (wrap64 (wrap64 (D*1440)+t)):=by have:=A5.out; rw [if_pos rfl] at this; exact (Option.some.inj this).symm
        have HH:=HO.out
        rw [e1] at HH
        obtain ⟨rfl,rfl⟩ :=Prod.mk.inj (Option.some.inj HH)
        clear HH HO A5 e1
        have v0:w6.cell? ⟨gd,0,none⟩=some (.int .i64 D):=(blk_cell H6.out.2.2 0).trans rfl
        have v1:w6.cell? ⟨gd,1,none⟩=some (.int .i64 y):=(blk_cell H6.out.2.2 1).trans rfl
        have v2:w6.cell? ⟨gd,2,none⟩=some (.int .i64 m):=(blk_cell H6.out.2.2 2).trans rfl
        have v3:w6.cell? ⟨gd,3,none⟩=some (.int .i64 d):=(blk_cell H6.out.2.2 3).trans rfl
        go_wp2_with fail
        go_ret2
        exact ⟨rfl,H6.out.2.1⟩
       | false=>
        replace A5:=Aside0.mk (by have:=A5.out; rwa [if_neg (by decide)] at this)
        go_wp2_with fail
        go_roundg k2
        case measure=>exact Nat.lt_succ_self _
        case rel=>exact ⟨wrap64 (t - 1),rfl,A5,H6⟩
      ·rw [if_neg c2] at A2
       obtain rfl:=Option.some.inj A2
       clear A2
       have HH:=HO.out
       clear HO
       obtain ⟨⟨D1,y1,m1,d1⟩,A4,HN⟩ :=Option.bind_eq_some_iff.mp HH
       clear HH
       replace A4:Hid (complineref22_before.f 2000 D y m d=some (D1,y1,m1,d1)):=Lib.hid (by rw [← haft.out] at A4; exact A4)
       replace HN:=Aside0.mk HN
       have v0:wr.cell? ⟨gd,0,none⟩=some (.int .i64 D):=(blk_cell HW.out.2.2 0).trans rfl
       have v1:wr.cell? ⟨gd,1,none⟩=some (.int .i64 y):=(blk_cell HW.out.2.2 1).trans rfl
       have v2:wr.cell? ⟨gd,2,none⟩=some (.int .i64 m):=(blk_cell HW.out.2.2 2).trans rfl
       have v3:wr.cell? ⟨gd,3,none⟩=some (.int .i64 d):=(blk_cell HW.out.2.2 3).trans rfl
       have hpk:(is=false)∨(is=true∧decide (0≤t)=false):=by
        cases is
        ·exact .inl rfl
        ·exact .inr ⟨rfl,decide_eq_false (fun h=>c2 ⟨rfl,h⟩)⟩
       clear c2
       rcases hpk with rfl | ⟨rfl,c2⟩
       all_goals go_wp2_with fail
       all_goals
        have H7:=Aside0.mk (show Spc.Row (wr.alloc (.cells #[.int .i64 D,.int .i64 y,.int .i64 m,.int .i64 d] 55)) w.heap.size b0 s0 b1 s1 b2 s2 b3 s3 b4 s4∧Below w.heap.size w (wr.alloc (.cells #[.int .i64 D,.int .i64 y,.int .i64 m,.int .i64 d] 55))∧w.heap.size < wr.heap.size∧(wr.alloc (.cells #[.int .i64 D,.int .i64 y,.int .i64 m,.int .i64 d] 55)).heap[wr.heap.size]?=some (.cells #[.int .i64 D,.int .i64 y,.int .i64 m,.int .i64 d] 55 (0,0)) from ⟨blk_alloc HW.out.1 _,below_alloc HW.out.2.1 _,blk_lt HW.out.1,heap_alloc_new _ _⟩)
        clear v0 v1 v2 v3
        obtain ⟨gn,hgn⟩:∃ g,wr.heap.size=g:=⟨_,rfl⟩
        rw [hgn] at H7 ⊢
        generalize wr.alloc (.cells #[.int .i64 D,.int .i64 y,.int .i64 m,.int .i64 d] 55)=w7 at H7 ⊢
        clear HW hgn
        refine (complineref22_before.calls 2000 _ _ _ _ _ _ _ _ _ A4.out).mono ?_
        rintro e w8 ⟨rfl,hb⟩
        have H8:=Aside0.mk (show Spc.Row w8 w.heap.size b0 s0 b1 s1 b2 s2 b3 s3 b4 s4∧Below w.heap.size w w8∧w.heap.size < gn∧w8.heap[gn]?=some (.cells #[.int .i64 D,.int .i64 y,.int .i64 m,.int .i64 d] 55 (0,0)) from ⟨blk_below H7.out.1 hb,below_step H7.out.2.1 hb,H7.out.2.2.1,blk_below H7.out.2.2.2 hb⟩)
        clear H7 hb A4
        have v0:w8.cell? ⟨gn,0,none⟩=some (.int .i64 D):=(blk_cell H8.out.2.2.2 0).trans rfl
        have v1:w8.cell? ⟨gn,1,none⟩=some (.int .i64 y):=(blk_cell H8.out.2.2.2 1).trans rfl
        have v2:w8.cell? ⟨gn,2,none⟩=some (.int .i64 m):=(blk_cell H8.out.2.2.2 2).trans rfl
        have v3:w8.cell? ⟨gn,3,none⟩=some (.int .i64 d):=(blk_cell H8.out.2.2.2 3).trans rfl
        have f0:=blk_frozen H8.out.2.2.2 0
        have f1:=blk_frozen H8.out.2.2.2 1
        have f2:=blk_frozen H8.out.2.2.2 2
        have f3:=blk_frozen H8.out.2.2.2 3
        go_wp2_with fail
        go_roundg k1
        case measure=>exact Nat.lt_succ_self _
        case rel=>
         have hg:=H8.out.2.2.1
         have hne:w.heap.size≠gn:=by omega
         refine ⟨1439,D1,y1,m1,d1,gn,rfl,rfl,HN,⟨?_,?_,hg,?_⟩⟩
         ·exact (Below.heap_setCell _ _ _ _ hne).trans ((Below.heap_setCell _ _ _ _ hne).trans ((Below.heap_setCell _ _ _ _ hne).trans ((Below.heap_setCell _ _ _ _ hne).trans H8.out.1)))
         ·exact below_set (below_set (below_set (below_set H8.out.2.1 (by omega)) (by omega)) (by omega)) (by omega)
         ·exact blk_put (blk_put (blk_put (blk_put H8.out.2.2.2 0 _ rfl) 1 _ rfl) 2 _ rfl) 3 _ rfl
   ·rw [if_neg c1] at H
    have c1b:decide (0≤D)=false:=decide_eq_false c1
    obtain ⟨rfl,rfl⟩ :=Prod.mk.inj (Option.some.inj H)
    go_wp2_with fail
    go_ret2
    exact ⟨rfl,HW.out.2.1⟩
set_option maxHeartbeats 8000000 in
set_option maxRecDepth 100000 in
theorem R22.Prev_odd (b0:Int)(s0:Bool)(b1:Int)(s1:Bool)(b2:Int)(s2:Bool)(b3:Int)(s3:Bool)(b4:Int)(s4:Bool)(mi:Int)(A:complineref22_odd.f 2000 b0 s0 b1 s1 b2 s2 b3 s3 b4 s4=some true)(w:World) :
  Calls Tryz.prog 14 #[.agg #[.int .u64 b0,.bool s0,.int .u64 b1,.bool s1,.int .u64 b2,.bool s2,.int .u64 b3,.bool s3,.int .u64 b4,.bool s4],.int .i64 mi] w fun e w'=>e=.returned (.tuple #[.int .i64 0,.int .i64 2])∧Below w.heap.size w w':=by
 replace A:=Lib.hid A
 have HR:=Aside0.mk (below_alloc (Below.refl w.heap.size w) (.cells #[.int .u64 b0,.bool s0,.int .u64 b1,.bool s1,.int .u64 b2,.bool s2,.int .u64 b3,.bool s3,.int .u64 b4,.bool s4] 26))
 have hR:=blk_new w (.cells #[.int .u64 b0,.bool s0,.int .u64 b1,.bool s1,.int .u64 b2,.bool s2,.int .u64 b3,.bool s3,.int .u64 b4,.bool s4] 26)
 go_enter Tryz.func14,Tryz.ntmps14
 go_wp2_with fail
 generalize w.alloc (.cells #[.int .u64 b0,.bool s0,.int .u64 b1,.bool s1,.int .u64 b2,.bool s2,.int .u64 b3,.bool s3,.int .u64 b4,.bool s4] 26)=w1 at HR hR ⊢
 refine (complineref22_odd.calls 2000 _ _ _ _ _ _ _ _ _ _ _ _ A.out).mono ?_
 rintro e w2 ⟨rfl,hb⟩
 have H2:=Aside0.mk (below_step HR.out hb)
 clear HR hb A hR
 go_wp2_with fail
 go_ret2
 exact ⟨rfl,H2.out⟩
set_option maxHeartbeats 8000000 in
set_option maxRecDepth 100000 in
theorem R22.Prev_late (b0:Int)(s0:Bool)(b1:Int)(s1:Bool)(b2:Int)(s2:Bool)(b3:Int)(s3:Bool)(b4:Int)(s4:Bool)(mi:Int)(A:complineref22_odd.f 2000 b0 s0 b1 s1 b2 s2 b3 s3 b4 s4=some false)(hm:mi≤0)(w:World) :
  Calls Tryz.prog 14 #[.agg #[.int .u64 b0,.bool s0,.int .u64 b1,.bool s1,.int .u64 b2,.bool s2,.int .u64 b3,.bool s3,.int .u64 b4,.bool s4],.int .i64 mi] w fun e w'=>e=.returned (.tuple #[.int .i64 0,.int .i64 11])∧Below w.heap.size w w':=by
 have hd1:decide (mi≤0)=true:=decide_eq_true hm
 replace A:=Lib.hid A
 have HR:=Aside0.mk (below_alloc (Below.refl w.heap.size w) (.cells #[.int .u64 b0,.bool s0,.int .u64 b1,.bool s1,.int .u64 b2,.bool s2,.int .u64 b3,.bool s3,.int .u64 b4,.bool s4] 26))
 have hR:=blk_new w (.cells #[.int .u64 b0,.bool s0,.int .u64 b1,.bool s1,.int .u64 b2,.bool s2,.int .u64 b3,.bool s3,.int .u64 b4,.bool s4] 26)
 go_enter Tryz.func14,Tryz.ntmps14
 go_wp2_with fail
 generalize w.alloc (.cells #[.int .u64 b0,.bool s0,.int .u64 b1,.bool s1,.int .u64 b2,.bool s2,.int .u64 b3,.bool s3,.int .u64 b4,.bool s4] 26)=w1 at HR hR ⊢
 refine (complineref22_odd.calls 2000 _ _ _ _ _ _ _ _ _ _ _ _ A.out).mono ?_
 rintro e w2 ⟨rfl,hb⟩
 have H2:=Aside0.mk (below_step HR.out hb)
 clear HR hb A hR
 go_wp2_with fail
 go_ret2
 exact ⟨rfl,H2.out⟩
def complineref22_Prev.f (a0_0:Int)(a0_1:Bool)(a0_2:Int)(a0_3:Bool)(a0_4:Int)(a0_5:Bool)(a0_6:Int)(a0_7:Bool)(a0_8:Int)(a0_9:Bool)(a1:Int):Option (Int × Int):=(complineref22_odd.f 2000 a0_0 a0_1 a0_2 a0_3 a0_4 a0_5 a0_6 a0_7 a0_8 a0_9).bind fun o=>if o=true then some ((0:Int),(2:Int)) else if a1≤0 then some (0,11) else (complineref22_day.f 2000 (wrap64 (Int.tdiv (wrap64 (mn a1 541728000 - 1)) 1440))).bind fun q=>R22.prev (fun D y m d=>complineref22_on.f 2000 a0_0 a0_1 a0_2 a0_3 a0_4 a0_5 a0_6 a0_7 a0_8 a0_9 D y m d) (fun t=>complineref22_at.f 2000 a0_0 a0_1 a0_2 a0_3 a0_4 a0_5 a0_6 a0_7 a0_8 a0_9 t) (fun D y m d=>complineref22_before.f 2000 D y m d) 400000 (Int.tmod (wrap64 (mn a1 541728000 - 1)) 1440) q.1 q.2.1 q.2.2.1 q.2.2.2
set_option maxHeartbeats 8000000 in
set_option maxRecDepth 100000 in
theorem complineref22_Prev.calls (a0_0:Int)(a0_1:Bool)(a0_2:Int)(a0_3:Bool)(a0_4:Int)(a0_5:Bool)(a0_6:Int)(a0_7:Bool)(a0_8:Int)(a0_9:Bool)(a1:Int)(r1:Int)(r2:Int)(w:World)(h:complineref22_Prev.f a0_0 a0_1 a0_2 a0_3 a0_4 a0_5 a0_6 a0_7 a0_8 a0_9 a1=some (r1,r2)) :
  Calls Tryz.prog 14 #[.agg #[.int .u64 a0_0,.bool a0_1,.int .u64 a0_2,.bool a0_3,.int .u64 a0_4,.bool a0_5,.int .u64 a0_6,.bool a0_7,.int .u64 a0_8,.bool a0_9],.int .i64 a1] w fun e w'=>e=.returned (.tuple #[.int .i64 r1,.int .i64 r2])∧Below w.heap.size w w':=by
 have hh:((complineref22_odd.f 2000 a0_0 a0_1 a0_2 a0_3 a0_4 a0_5 a0_6 a0_7 a0_8 a0_9).bind fun o=>if o=true then some ((0:Int),(2:Int)) else if a1≤0 then some (0,11) else (complineref22_day.f 2000 (wrap64 (Int.tdiv (wrap64 (mn a1 541728000 - 1)) 1440))).bind fun q=>R22.prev (fun D y m d=>complineref22_on.f 2000 a0_0 a0_1 a0_2 a0_3 a0_4 a0_5 a0_6 a0_7 a0_8 a0_9 D y m d) (fun t=>complineref22_at.f 2000 a0_0 a0_1 a0_2 a0_3 a0_4 a0_5 a0_6 a0_7 a0_8 a0_9 t) (fun D y m d=>complineref22_before.f 2000 D y m d) 400000 (Int.tmod (wrap64 (mn a1 541728000 - 1)) 1440) q.1 q.2.1 q.2.2.1 q.2.2.2)=some (r1,r2):=h
 clear h
 obtain ⟨o,A,hm⟩ :=Option.bind_eq_some_iff.1 hh
 cases o with
 | true=>
  rw [if_pos rfl] at hm
  obtain ⟨rfl,rfl⟩ :=Prod.mk.inj (Option.some.inj hm)
  exact R22.Prev_odd a0_0 a0_1 a0_2 a0_3 a0_4 a0_5 a0_6 a0_7 a0_8 a0_9 a1 A w
 | false=>
  rw [if_neg (by decide)] at hm
  by_cases hl:a1≤0
  ·rw [if_pos hl] at hm
   obtain ⟨rfl,rfl⟩ :=Prod.mk.inj (Option.some.inj hm)
   exact R22.Prev_late a0_0 a0_1 a0_2 a0_3 a0_4 a0_5 a0_6 a0_7 a0_8 a0_9 a1 A hl w
  ·rw [if_neg hl] at hm
   obtain ⟨⟨D0,y0,m0,d0⟩,hD,hN⟩ :=Option.bind_eq_some_iff.1 hm
   exact R22.Prev_good a0_0 a0_1 a0_2 a0_3 a0_4 a0_5 a0_6 a0_7 a0_8 a0_9 a1 A hl _ rfl D0 y0 m0 d0 hD r1 r2 hN w
def complinelaw22_NextBacks.f (a0_0:Int)(a0_1:Bool)(a0_2:Int)(a0_3:Bool)(a0_4:Int)(a0_5:Bool)(a0_6:Int)(a0_7:Bool)(a0_8:Int)(a0_9:Bool)(a1:Int):Option (Bool):=(complinelaw22_works.f).bind fun t218=>(if t218=true then ((next_Prev.f a0_0 a0_1 a0_2 a0_3 a0_4 a0_5 a0_6 a0_7 a0_8 a0_9 a1).bind fun bt219=>((complineref22_Prev.f a0_0 a0_1 a0_2 a0_3 a0_4 a0_5 a0_6 a0_7 a0_8 a0_9 a1).bind fun bt221=>(if bt219.1=bt221.1 then (some (bt219.2 == bt221.2)) else (some false)))) else (some false))
set_option maxHeartbeats 8000000 in
set_option maxRecDepth 100000 in
theorem complinelaw22_NextBacks.calls (a0_0:Int)(a0_1:Bool)(a0_2:Int)(a0_3:Bool)(a0_4:Int)(a0_5:Bool)(a0_6:Int)(a0_7:Bool)(a0_8:Int)(a0_9:Bool)(a1:Int)(r:Bool)(w:World)(hT:Tab w)(h:complinelaw22_NextBacks.f a0_0 a0_1 a0_2 a0_3 a0_4 a0_5 a0_6 a0_7 a0_8 a0_9 a1=some r) :
  Calls Tryz.prog 4 #[.agg #[.int .u64 a0_0,.bool a0_1,.int .u64 a0_2,.bool a0_3,.int .u64 a0_4,.bool a0_5,.int .u64 a0_6,.bool a0_7,.int .u64 a0_8,.bool a0_9],.int .i64 a1] w fun e w'=>e=.returned (.bool r)∧Below w.heap.size w w':=by
 have hu26:=Tryz.underlying26
 have HB:=Aside0.mk (Below.refl w.heap.size w)
 have H:((complinelaw22_works.f).bind fun t218=>(if t218=true then ((next_Prev.f a0_0 a0_1 a0_2 a0_3 a0_4 a0_5 a0_6 a0_7 a0_8 a0_9 a1).bind fun bt219=>((complineref22_Prev.f a0_0 a0_1 a0_2 a0_3 a0_4 a0_5 a0_6 a0_7 a0_8 a0_9 a1).bind fun bt221=>(if bt219.1=bt221.1 then (some (bt219.2 == bt221.2)) else (some false)))) else (some false)))=some r:=h
 clear h
 replace H:=Option.bind_eq_some_iff.mp H
 obtain ⟨t218,A30,H⟩ :=H
 replace H:(if t218=true then ((next_Prev.f a0_0 a0_1 a0_2 a0_3 a0_4 a0_5 a0_6 a0_7 a0_8 a0_9 a1).bind fun bt219=>((complineref22_Prev.f a0_0 a0_1 a0_2 a0_3 a0_4 a0_5 a0_6 a0_7 a0_8 a0_9 a1).bind fun bt221=>(if bt219.1=bt221.1 then (some (bt219.2 == bt221.2)) else (some false)))) else (some false))=some r:=H
 have A3:=Aside0.mk A30
 clear A30
 by_cases c4:t218=true
 ·subst c4
  have H1:((next_Prev.f a0_0 a0_1 a0_2 a0_3 a0_4 a0_5 a0_6 a0_7 a0_8 a0_9 a1).bind fun bt219=>((complineref22_Prev.f a0_0 a0_1 a0_2 a0_3 a0_4 a0_5 a0_6 a0_7 a0_8 a0_9 a1).bind fun bt221=>(if bt219.1=bt221.1 then (some (bt219.2 == bt221.2)) else (some false))))=some r:=by rw [if_pos rfl] at H; exact H
  clear H
  have H:=H1
  clear H1
  replace H:=Option.bind_eq_some_iff.mp H
  obtain ⟨⟨t219,t220⟩,A50,H⟩ :=H
  replace H:((complineref22_Prev.f a0_0 a0_1 a0_2 a0_3 a0_4 a0_5 a0_6 a0_7 a0_8 a0_9 a1).bind fun bt221=>(if t219=bt221.1 then (some (t220 == bt221.2)) else (some false)))=some r:=H
  have A5:=Aside0.mk A50
  clear A50
  replace H:=Option.bind_eq_some_iff.mp H
  obtain ⟨⟨t221,t222⟩,A60,H⟩ :=H
  replace H:(if t219=t221 then (some (t220 == t222)) else (some false))=some r:=H
  have A6:=Aside0.mk A60
  clear A60
  by_cases c7:t219=t221
  ·rw [if_pos c7] at H
   have c7b0:(t219 == t221)=true:=beq_iff_eq.mpr c7
   have c7b1:(t219 != t221)=false:=bne_eq_false_iff_eq.mpr c7
   clear c7
   obtain rfl:=Option.some.inj H
   go_enter Tryz.func4,Tryz.ntmps4
   go_wp2_with (first | ((with_reducible refine gate_dst (N:=2) rfl ?_); refine box_event ?hg (N:=2) ?hd (cs:=#[.int .u64 a0_0,.bool a0_1,.int .u64 a0_2,.bool a0_3,.int .u64 a0_4,.bool a0_5,.int .u64 a0_6,.bool a0_7,.int .u64 a0_8,.bool a0_9]) (t:=26) ?hr ?_; (case hd=>rfl); (case hg=>rfl); (case hr=>first | (go_simp; done) | (go_simp; rfl)); intro gb217 hg w8 hbox hb; have n0_:=Aside0.mk (below_step (by repeat (first | (with_reducible first | exact HB.out | apply below_alloc | apply pw_below_drewN | apply below_drew1) | exact HB.out)) hb); have n1_:=Aside0.mk (hbox); have n2_:=Aside0.mk ((by rw [hg]; exact (below_size (by repeat (first | (with_reducible first | exact HB.out | apply below_alloc | apply pw_below_drewN | apply below_drew1) | exact HB.out))):w.heap.size≤gb217)); have n3_:=Aside0.mk ((by rw [hg]; exact (below_size (by repeat (first | (with_reducible first | exact HB.out | apply below_alloc | apply pw_below_drewN | apply below_drew1) | exact HB.out))):w.heap.size≤gb217)); clear HB; have HB:=n0_; have BK217:=n1_; have GW217:=n2_; have GE217:=n3_; clear n0_ n1_ n2_ n3_; clear hb hbox hg) | ((with_reducible refine gate_callee (f:=10) rfl ?_); refine goesL_ (some 10) rfl rfl Tryz.func10 (by kernel_rfl) rfl #[] rfl (by (try simp only [List.map_toArray,List.map_cons,List.map_nil]); first | done | rfl | (simp only [List.length_drop,List.length_take]; rfl)) ?_; (with_reducible refine (complinelaw22_works.calls  true _ (hT.keep (by repeat (first | (with_reducible first | exact HB.out | apply below_alloc | apply pw_below_drewN | apply below_drew1 | refine below_set ?_ GE217.out) | exact HB.out))) A3.out).mono ?_); rintro e w9 ⟨rfl,hb⟩; refine ⟨_,rfl,?_⟩; have n0_:=Aside0.mk (blk_below (g:=gb217) (o:=.cells #[.int .u64 a0_0,.bool a0_1,.int .u64 a0_2,.bool a0_3,.int .u64 a0_4,.bool a0_5,.int .u64 a0_6,.bool a0_7,.int .u64 a0_8,.bool a0_9] 26 (0,0)) (by (with_reducible repeat (first | refine blk_drewN ?_ _ | refine blk_drew ?_ | refine blk_alloc ?_ _)); exact BK217.out) hb); have n1_:=Aside0.mk (below_step (by repeat (first | (with_reducible first | exact HB.out | apply below_alloc | apply pw_below_drewN | apply below_drew1 | refine below_set ?_ GE217.out) | exact HB.out)) hb); clear BK217; clear HB; have BK217:=n0_; have HB:=n1_; clear n0_ n1_; (try clear hb); (try clear hb2); (try clear hk); (try clear hi); have hcz10_0:w9.cell? ⟨gb217,0,none⟩=some (.int .u64 a0_0):=(blk_cell BK217.out 0).trans rfl; have hcz10_1:w9.cell? ⟨gb217,1,none⟩=some (.bool a0_1):=(blk_cell BK217.out 1).trans rfl; have hcz10_2:w9.cell? ⟨gb217,2,none⟩=some (.int .u64 a0_2):=(blk_cell BK217.out 2).trans rfl; have hcz10_3:w9.cell? ⟨gb217,3,none⟩=some (.bool a0_3):=(blk_cell BK217.out 3).trans rfl; have hcz10_4:w9.cell? ⟨gb217,4,none⟩=some (.int .u64 a0_4):=(blk_cell BK217.out 4).trans rfl; have hcz10_5:w9.cell? ⟨gb217,5,none⟩=some (.bool a0_5):=(blk_cell BK217.out 5).trans rfl; have hcz10_6:w9.cell? ⟨gb217,6,none⟩=some (.int .u64 a0_6):=(blk_cell BK217.out 6).trans rfl; have hcz10_7:w9.cell? ⟨gb217,7,none⟩=some (.bool a0_7):=(blk_cell BK217.out 7).trans rfl; have hcz10_8:w9.cell? ⟨gb217,8,none⟩=some (.int .u64 a0_8):=(blk_cell BK217.out 8).trans rfl; have hcz10_9:w9.cell? ⟨gb217,9,none⟩=some (.bool a0_9):=(blk_cell BK217.out 9).trans rfl; have hfz10_0:=blk_frozen BK217.out 0; have hfz10_1:=blk_frozen BK217.out 1; have hfz10_2:=blk_frozen BK217.out 2; have hfz10_3:=blk_frozen BK217.out 3; have hfz10_4:=blk_frozen BK217.out 4; have hfz10_5:=blk_frozen BK217.out 5; have hfz10_6:=blk_frozen BK217.out 6; have hfz10_7:=blk_frozen BK217.out 7; have hfz10_8:=blk_frozen BK217.out 8; have hfz10_9:=blk_frozen BK217.out 9) | ((with_reducible refine gate_callee (f:=13) rfl ?_); refine goesL_ (some 16) rfl rfl Tryz.func13 (by kernel_rfl) rfl #[.agg #[.int .u64 a0_0,.bool a0_1,.int .u64 a0_2,.bool a0_3,.int .u64 a0_4,.bool a0_5,.int .u64 a0_6,.bool a0_7,.int .u64 a0_8,.bool a0_9],.int .i64 a1] rfl (by (try simp only [List.map_toArray,List.map_cons,List.map_nil]); first | done | rfl | (simp only [List.length_drop,List.length_take]; rfl)) ?_; (with_reducible refine (next_Prev.calls a0_0 a0_1 a0_2 a0_3 a0_4 a0_5 a0_6 a0_7 a0_8 a0_9 a1 t219 t220 _ (hT.keep (by repeat (first | (with_reducible first | exact HB.out | apply below_alloc | apply pw_below_drewN | apply below_drew1 | refine below_set ?_ GE217.out) | exact HB.out))) A5.out).mono ?_); rintro e w11 ⟨rfl,hb⟩; refine ⟨_,rfl,?_⟩; have n0_:=Aside0.mk (blk_below (g:=gb217) (o:=.cells #[.int .u64 a0_0,.bool a0_1,.int .u64 a0_2,.bool a0_3,.int .u64 a0_4,.bool a0_5,.int .u64 a0_6,.bool a0_7,.int .u64 a0_8,.bool a0_9] 26 (0,0)) (by (with_reducible repeat (first | refine blk_drewN ?_ _ | refine blk_drew ?_ | refine blk_alloc ?_ _)); exact BK217.out) hb); have n1_:=Aside0.mk (below_step (by repeat (first | (with_reducible first | exact HB.out | apply below_alloc | apply pw_below_drewN | apply below_drew1 | refine below_set ?_ GE217.out) | exact HB.out)) hb); clear BK217; clear HB; have BK217:=n0_; have HB:=n1_; clear n0_ n1_; (try clear hb); (try clear hb2); (try clear hk); (try clear hi); have hcz12_0:w11.cell? ⟨gb217,0,none⟩=some (.int .u64 a0_0):=(blk_cell BK217.out 0).trans rfl; have hcz12_1:w11.cell? ⟨gb217,1,none⟩=some (.bool a0_1):=(blk_cell BK217.out 1).trans rfl; have hcz12_2:w11.cell? ⟨gb217,2,none⟩=some (.int .u64 a0_2):=(blk_cell BK217.out 2).trans rfl; have hcz12_3:w11.cell? ⟨gb217,3,none⟩=some (.bool a0_3):=(blk_cell BK217.out 3).trans rfl; have hcz12_4:w11.cell? ⟨gb217,4,none⟩=some (.int .u64 a0_4):=(blk_cell BK217.out 4).trans rfl; have hcz12_5:w11.cell? ⟨gb217,5,none⟩=some (.bool a0_5):=(blk_cell BK217.out 5).trans rfl; have hcz12_6:w11.cell? ⟨gb217,6,none⟩=some (.int .u64 a0_6):=(blk_cell BK217.out 6).trans rfl; have hcz12_7:w11.cell? ⟨gb217,7,none⟩=some (.bool a0_7):=(blk_cell BK217.out 7).trans rfl; have hcz12_8:w11.cell? ⟨gb217,8,none⟩=some (.int .u64 a0_8):=(blk_cell BK217.out 8).trans rfl; have hcz12_9:w11.cell? ⟨gb217,9,none⟩=some (.bool a0_9):=(blk_cell BK217.out 9).trans rfl; have hfz12_0:=blk_frozen BK217.out 0; have hfz12_1:=blk_frozen BK217.out 1; have hfz12_2:=blk_frozen BK217.out 2; have hfz12_3:=blk_frozen BK217.out 3; have hfz12_4:=blk_frozen BK217.out 4; have hfz12_5:=blk_frozen BK217.out 5; have hfz12_6:=blk_frozen BK217.out 6; have hfz12_7:=blk_frozen BK217.out 7; have hfz12_8:=blk_frozen BK217.out 8; have hfz12_9:=blk_frozen BK217.out 9) | ((with_reducible refine gate_callee (f:=14) rfl ?_); refine goesL_ (some 22) rfl rfl Tryz.func14 (by kernel_rfl) rfl #[.agg #[.int .u64 a0_0,.bool a0_1,.int .u64 a0_2,.bool a0_3,.int .u64 a0_4,.bool a0_5,.int .u64 a0_6,.bool a0_7,.int .u64 a0_8,.bool a0_9],.int .i64 a1] rfl (by (try simp only [List.map_toArray,List.map_cons,List.map_nil]); first | done | rfl | (simp only [List.length_drop,List.length_take]; rfl)) ?_; (with_reducible refine (complineref22_Prev.calls a0_0 a0_1 a0_2 a0_3 a0_4 a0_5 a0_6 a0_7 a0_8 a0_9 a1 t221 t222 _ A6.out).mono ?_); rintro e w13 ⟨rfl,hb⟩; refine ⟨_,rfl,?_⟩; have n0_:=Aside0.mk (blk_below (g:=gb217) (o:=.cells #[.int .u64 a0_0,.bool a0_1,.int .u64 a0_2,.bool a0_3,.int .u64 a0_4,.bool a0_5,.int .u64 a0_6,.bool a0_7,.int .u64 a0_8,.bool a0_9] 26 (0,0)) (by (with_reducible repeat (first | refine blk_drewN ?_ _ | refine blk_drew ?_ | refine blk_alloc ?_ _)); exact BK217.out) hb); have n1_:=Aside0.mk (below_step (by repeat (first | (with_reducible first | exact HB.out | apply below_alloc | apply pw_below_drewN | apply below_drew1 | refine below_set ?_ GE217.out) | exact HB.out)) hb); clear BK217; clear HB; have BK217:=n0_; have HB:=n1_; clear n0_ n1_; (try clear hb); (try clear hb2); (try clear hk); (try clear hi)))
   go_ret
   exact ⟨by first | rfl | (simp [errW_none,errW_some] <;> rfl) | (simp [*,errW_none,errW_some] <;> rfl),by repeat (first | (with_reducible first | exact HB.out | apply below_alloc | apply pw_below_drewN | apply below_drew1 | refine below_set ?_ GE217.out) | exact HB.out)⟩
  ·rw [if_neg c7] at H
   have c7b0:(t219 == t221)=false:=beq_eq_false_iff_ne.mpr c7
   have c7b1:(t219 != t221)=true:=bne_iff_ne.mpr c7
   obtain rfl:=Option.some.inj H
   go_enter Tryz.func4,Tryz.ntmps4
   go_wp2_with (first | ((with_reducible refine gate_dst (N:=2) rfl ?_); refine box_event ?hg (N:=2) ?hd (cs:=#[.int .u64 a0_0,.bool a0_1,.int .u64 a0_2,.bool a0_3,.int .u64 a0_4,.bool a0_5,.int .u64 a0_6,.bool a0_7,.int .u64 a0_8,.bool a0_9]) (t:=26) ?hr ?_; (case hd=>rfl); (case hg=>rfl); (case hr=>first | (go_simp; done) | (go_simp; rfl)); intro gb217 hg w14 hbox hb; have n0_:=Aside0.mk (below_step (by repeat (first | (with_reducible first | exact HB.out | apply below_alloc | apply pw_below_drewN | apply below_drew1) | exact HB.out)) hb); have n1_:=Aside0.mk (hbox); have n2_:=Aside0.mk ((by rw [hg]; exact (below_size (by repeat (first | (with_reducible first | exact HB.out | apply below_alloc | apply pw_below_drewN | apply below_drew1) | exact HB.out))):w.heap.size≤gb217)); have n3_:=Aside0.mk ((by rw [hg]; exact (below_size (by repeat (first | (with_reducible first | exact HB.out | apply below_alloc | apply pw_below_drewN | apply below_drew1) | exact HB.out))):w.heap.size≤gb217)); clear HB; have HB:=n0_; have BK217:=n1_; have GW217:=n2_; have GE217:=n3_; clear n0_ n1_ n2_ n3_; clear hb hbox hg) | ((with_reducible refine gate_callee (f:=10) rfl ?_); refine goesL_ (some 10) rfl rfl Tryz.func10 (by kernel_rfl) rfl #[] rfl (by (try simp only [List.map_toArray,List.map_cons,List.map_nil]); first | done | rfl | (simp only [List.length_drop,List.length_take]; rfl)) ?_; (with_reducible refine (complinelaw22_works.calls  true _ (hT.keep (by repeat (first | (with_reducible first | exact HB.out | apply below_alloc | apply pw_below_drewN | apply below_drew1 | refine below_set ?_ GE217.out) | exact HB.out))) A3.out).mono ?_); rintro e w15 ⟨rfl,hb⟩; refine ⟨_,rfl,?_⟩; have n0_:=Aside0.mk (blk_below (g:=gb217) (o:=.cells #[.int .u64 a0_0,.bool a0_1,.int .u64 a0_2,.bool a0_3,.int .u64 a0_4,.bool a0_5,.int .u64 a0_6,.bool a0_7,.int .u64 a0_8,.bool a0_9] 26 (0,0)) (by (with_reducible repeat (first | refine blk_drewN ?_ _ | refine blk_drew ?_ | refine blk_alloc ?_ _)); exact BK217.out) hb); have n1_:=Aside0.mk (below_step (by repeat (first | (with_reducible first | exact HB.out | apply below_alloc | apply pw_below_drewN | apply below_drew1 | refine below_set ?_ GE217.out) | exact HB.out)) hb); clear BK217; clear HB; have BK217:=n0_; have HB:=n1_; clear n0_ n1_; (try clear hb); (try clear hb2); (try clear hk); (try clear hi); have hcz16_0:w15.cell? ⟨gb217,0,none⟩=some (.int .u64 a0_0):=(blk_cell BK217.out 0).trans rfl; have hcz16_1:w15.cell? ⟨gb217,1,none⟩=some (.bool a0_1):=(blk_cell BK217.out 1).trans rfl; have hcz16_2:w15.cell? ⟨gb217,2,none⟩=some (.int .u64 a0_2):=(blk_cell BK217.out 2).trans rfl; have hcz16_3:w15.cell? ⟨gb217,3,none⟩=some (.bool a0_3):=(blk_cell BK217.out 3).trans rfl; have hcz16_4:w15.cell? ⟨gb217,4,none⟩=some (.int .u64 a0_4):=(blk_cell BK217.out 4).trans rfl; have hcz16_5:w15.cell? ⟨gb217,5,none⟩=some (.bool a0_5):=(blk_cell BK217.out 5).trans rfl; have hcz16_6:w15.cell? ⟨gb217,6,none⟩=some (.int .u64 a0_6):=(blk_cell BK217.out 6).trans rfl; have hcz16_7:w15.cell? ⟨gb217,7,none⟩=some (.bool a0_7):=(blk_cell BK217.out 7).trans rfl; have hcz16_8:w15.cell? ⟨gb217,8,none⟩=some (.int .u64 a0_8):=(blk_cell BK217.out 8).trans rfl; have hcz16_9:w15.cell? ⟨gb217,9,none⟩=some (.bool a0_9):=(blk_cell BK217.out 9).trans rfl; have hfz16_0:=blk_frozen BK217.out 0; have hfz16_1:=blk_frozen BK217.out 1; have hfz16_2:=blk_frozen BK217.out 2; have hfz16_3:=blk_frozen BK217.out 3; have hfz16_4:=blk_frozen BK217.out 4; have hfz16_5:=blk_frozen BK217.out 5; have hfz16_6:=blk_frozen BK217.out 6; have hfz16_7:=blk_frozen BK217.out 7; have hfz16_8:=blk_frozen BK217.out 8; have hfz16_9:=blk_frozen BK217.out 9) | ((with_reducible refine gate_callee (f:=13) rfl ?_); refine goesL_ (some 16) rfl rfl Tryz.func13 (by kernel_rfl) rfl #[.agg #[.int .u64 a0_0,.bool a0_1,.int .u64 a0_2,.bool a0_3,.int .u64 a0_4,.bool a0_5,.int .u64 a0_6,.bool a0_7,.int .u64 a0_8,.bool a0_9],.int .i64 a1] rfl (by (try simp only [List.map_toArray,List.map_cons,List.map_nil]); first | done | rfl | (simp only [List.length_drop,List.length_take]; rfl)) ?_; (with_reducible refine (next_Prev.calls a0_0 a0_1 a0_2 a0_3 a0_4 a0_5 a0_6 a0_7 a0_8 a0_9 a1 t219 t220 _ (hT.keep (by repeat (first | (with_reducible first | exact HB.out | apply below_alloc | apply pw_below_drewN | apply below_drew1 | refine below_set ?_ GE217.out) | exact HB.out))) A5.out).mono ?_); rintro e w17 ⟨rfl,hb⟩; refine ⟨_,rfl,?_⟩; have n0_:=Aside0.mk (blk_below (g:=gb217) (o:=.cells #[.int .u64 a0_0,.bool a0_1,.int .u64 a0_2,.bool a0_3,.int .u64 a0_4,.bool a0_5,.int .u64 a0_6,.bool a0_7,.int .u64 a0_8,.bool a0_9] 26 (0,0)) (by (with_reducible repeat (first | refine blk_drewN ?_ _ | refine blk_drew ?_ | refine blk_alloc ?_ _)); exact BK217.out) hb); have n1_:=Aside0.mk (below_step (by repeat (first | (with_reducible first | exact HB.out | apply below_alloc | apply pw_below_drewN | apply below_drew1 | refine below_set ?_ GE217.out) | exact HB.out)) hb); clear BK217; clear HB; have BK217:=n0_; have HB:=n1_; clear n0_ n1_; (try clear hb); (try clear hb2); (try clear hk); (try clear hi); have hcz18_0:w17.cell? ⟨gb217,0,none⟩=some (.int .u64 a0_0):=(blk_cell BK217.out 0).trans rfl; have hcz18_1:w17.cell? ⟨gb217,1,none⟩=some (.bool a0_1):=(blk_cell BK217.out 1).trans rfl; have hcz18_2:w17.cell? ⟨gb217,2,none⟩=some (.int .u64 a0_2):=(blk_cell BK217.out 2).trans rfl; have hcz18_3:w17.cell? ⟨gb217,3,none⟩=some (.bool a0_3):=(blk_cell BK217.out 3).trans rfl; have hcz18_4:w17.cell? ⟨gb217,4,none⟩=some (.int .u64 a0_4):=(blk_cell BK217.out 4).trans rfl; have hcz18_5:w17.cell? ⟨gb217,5,none⟩=some (.bool a0_5):=(blk_cell BK217.out 5).trans rfl; have hcz18_6:w17.cell? ⟨gb217,6,none⟩=some (.int .u64 a0_6):=(blk_cell BK217.out 6).trans rfl; have hcz18_7:w17.cell? ⟨gb217,7,none⟩=some (.bool a0_7):=(blk_cell BK217.out 7).trans rfl; have hcz18_8:w17.cell? ⟨gb217,8,none⟩=some (.int .u64 a0_8):=(blk_cell BK217.out 8).trans rfl; have hcz18_9:w17.cell? ⟨gb217,9,none⟩=some (.bool a0_9):=(blk_cell BK217.out 9).trans rfl; have hfz18_0:=blk_frozen BK217.out 0; have hfz18_1:=blk_frozen BK217.out 1; have hfz18_2:=blk_frozen BK217.out 2; have hfz18_3:=blk_frozen BK217.out 3; have hfz18_4:=blk_frozen BK217.out 4; have hfz18_5:=blk_frozen BK217.out 5; have hfz18_6:=blk_frozen BK217.out 6; have hfz18_7:=blk_frozen BK217.out 7; have hfz18_8:=blk_frozen BK217.out 8; have hfz18_9:=blk_frozen BK217.out 9) | ((with_reducible refine gate_callee (f:=14) rfl ?_); refine goesL_ (some 22) rfl rfl Tryz.func14 (by kernel_rfl) rfl #[.agg #[.int .u64 a0_0,.bool a0_1,.int .u64 a0_2,.bool a0_3,.int .u64 a0_4,.bool a0_5,.int .u64 a0_6,.bool a0_7,.int .u64 a0_8,.bool a0_9],.int .i64 a1] rfl (by (try simp only [List.map_toArray,List.map_cons,List.map_nil]); first | done | rfl | (simp only [List.length_drop,List.length_take]; rfl)) ?_; (with_reducible refine (complineref22_Prev.calls a0_0 a0_1 a0_2 a0_3 a0_4 a0_5 a0_6 a0_7 a0_8 a0_9 a1 t221 t222 _ A6.out).mono ?_); rintro e w19 ⟨rfl,hb⟩; refine ⟨_,rfl,?_⟩; have n0_:=Aside0.mk (blk_below (g:=gb217) (o:=.cells #[.int .u64 a0_0,.bool a0_1,.int .u64 a0_2,.bool a0_3,.int .u64 a0_4,.bool a0_5,.int .u64 a0_6,.bool a0_7,.int .u64 a0_8,.bool a0_9] 26 (0,0)) (by (with_reducible repeat (first | refine blk_drewN ?_ _ | refine blk_drew ?_ | refine blk_alloc ?_ _)); exact BK217.out) hb); have n1_:=Aside0.mk (below_step (by repeat (first | (with_reducible first | exact HB.out | apply below_alloc | apply pw_below_drewN | apply below_drew1 | refine below_set ?_ GE217.out) | exact HB.out)) hb); clear BK217; clear HB; have BK217:=n0_; have HB:=n1_; clear n0_ n1_; (try clear hb); (try clear hb2); (try clear hk); (try clear hi)))
   go_ret
   exact ⟨by first | rfl | (simp [errW_none,errW_some] <;> rfl) | (simp [*,errW_none,errW_some] <;> rfl),by repeat (first | (with_reducible first | exact HB.out | apply below_alloc | apply pw_below_drewN | apply below_drew1 | refine below_set ?_ GE217.out) | exact HB.out)⟩
 ·replace c4:=Bool.eq_false_iff.mpr c4
  subst c4
  have H1:(some false)=some r:=by rw [if_neg (show ¬ (false=true) by decide)] at H; exact H
  clear H
  have H:=H1
  clear H1
  obtain rfl:=Option.some.inj H
  go_enter Tryz.func4,Tryz.ntmps4
  go_wp2_with (first | ((with_reducible refine gate_dst (N:=2) rfl ?_); refine box_event ?hg (N:=2) ?hd (cs:=#[.int .u64 a0_0,.bool a0_1,.int .u64 a0_2,.bool a0_3,.int .u64 a0_4,.bool a0_5,.int .u64 a0_6,.bool a0_7,.int .u64 a0_8,.bool a0_9]) (t:=26) ?hr ?_; (case hd=>rfl); (case hg=>rfl); (case hr=>first | (go_simp; done) | (go_simp; rfl)); intro gb217 hg w20 hbox hb; have n0_:=Aside0.mk (below_step (by repeat (first | (with_reducible first | exact HB.out | apply below_alloc | apply pw_below_drewN | apply below_drew1) | exact HB.out)) hb); have n1_:=Aside0.mk (hbox); have n2_:=Aside0.mk ((by rw [hg]; exact (below_size (by repeat (first | (with_reducible first | exact HB.out | apply below_alloc | apply pw_below_drewN | apply below_drew1) | exact HB.out))):w.heap.size≤gb217)); have n3_:=Aside0.mk ((by rw [hg]; exact (below_size (by repeat (first | (with_reducible first | exact HB.out | apply below_alloc | apply pw_below_drewN | apply below_drew1) | exact HB.out))):w.heap.size≤gb217)); clear HB; have HB:=n0_; have BK217:=n1_; have GW217:=n2_; have GE217:=n3_; clear n0_ n1_ n2_ n3_; clear hb hbox hg) | ((with_reducible refine gate_callee (f:=10) rfl ?_); refine goesL_ (some 10) rfl rfl Tryz.func10 (by kernel_rfl) rfl #[] rfl (by (try simp only [List.map_toArray,List.map_cons,List.map_nil]); first | done | rfl | (simp only [List.length_drop,List.length_take]; rfl)) ?_; (with_reducible refine (complinelaw22_works.calls  false _ (hT.keep (by repeat (first | (with_reducible first | exact HB.out | apply below_alloc | apply pw_below_drewN | apply below_drew1 | refine below_set ?_ GE217.out) | exact HB.out))) A3.out).mono ?_); rintro e w21 ⟨rfl,hb⟩; refine ⟨_,rfl,?_⟩; have n0_:=Aside0.mk (blk_below (g:=gb217) (o:=.cells #[.int .u64 a0_0,.bool a0_1,.int .u64 a0_2,.bool a0_3,.int .u64 a0_4,.bool a0_5,.int .u64 a0_6,.bool a0_7,.int .u64 a0_8,.bool a0_9] 26 (0,0)) (by (with_reducible repeat (first | refine blk_drewN ?_ _ | refine blk_drew ?_ | refine blk_alloc ?_ _)); exact BK217.out) hb); have n1_:=Aside0.mk (below_step (by repeat (first | (with_reducible first | exact HB.out | apply below_alloc | apply pw_below_drewN | apply below_drew1 | refine below_set ?_ GE217.out) | exact HB.out)) hb); clear BK217; clear HB; have BK217:=n0_; have HB:=n1_; clear n0_ n1_; (try clear hb); (try clear hb2); (try clear hk); (try clear hi)))
  go_ret
  exact ⟨by first | rfl | (simp [errW_none,errW_some] <;> rfl) | (simp [*,errW_none,errW_some] <;> rfl),by repeat (first | (with_reducible first | exact HB.out | apply below_alloc | apply pw_below_drewN | apply below_drew1 | refine below_set ?_ GE217.out) | exact HB.out)⟩
end Go.Proofs.YtabhfcoljgcpeaaGreatDoor.PNex
