-- Written by a program of this session (gprint.py) over the kit's print.
import Derived.Test.YtcmmmlenaahaeaaGreatDoorPShwx0
import Derived.Test.YtcmmmlenaahaeaaGreatDoorPShwx11
import Derived.Test.YtcmmmlenaahaeaaGreatDoorPShwx14
import Derived.Test.YtcmmmlenaahaeaaGreatDoorPShwx17
namespace Go.Proofs.YtcmmmlenaahaeaaGreatDoor.PShw
open Go.RowKit Go.Proofs.YtcmmmlenaahaeaaGreatDoorW.PrintWords Go.Proofs.YtcmmmlenaahaeaaGreatDoorW.PrintLast Go.Proofs.YtcmmmlenaahaeaaGreatDoorW.PrintMore
attribute [local go_sem] max2_int min2_int max_two min_two max_three min_three max_four min_four
set_option linter.unusedVariables false
set_option linter.unusedSimpArgs false
def complineref18_with.l0:Nat→Int→Int→Int→Int→Bool→Option (Int × Bool)
 | 0,_,_,_,_,_=>none
 | k+1,x1,x6,x7,x258000,x258001=>if x7 < x1 then (complineref18_with.l0 k x1 (IntKind.u64.wrap (2*x6)) (wrap64 (x7+1)) x258000 x258001) else (some (IntKind.u64.wrap (x258000+x6),x258001))
def complineref18_with.f (k:Nat)(a0_0:Int)(a0_1:Bool)(a1:Int):Option (Int × Bool):=(complineref18_Has.f k a0_0 a0_1 a1).bind fun t259=>(if t259=true then (some (a0_0,a0_1)) else (complineref18_with.l0 k a1 1 0 a0_0 a0_1))
set_option maxHeartbeats 8000000 in
set_option maxRecDepth 100000 in
theorem complineref18_with.calls (k:Nat)(a0_0:Int)(a0_1:Bool)(a1:Int)(r1:Int)(r2:Bool)(w:World)(h:complineref18_with.f k a0_0 a0_1 a1=some (r1,r2)) :
  Calls Tryz.prog 85 #[.agg #[.int .u64 a0_0,.bool a0_1],.int .i64 a1] w fun e w'=>e=.returned (.agg #[.int .u64 r1,.bool r2])∧Below w.heap.size w w':=by
 have hu24:=Tryz.underlying24
 have HB:=Aside0.mk (Below.refl w.heap.size w)
 have H:((complineref18_Has.f k a0_0 a0_1 a1).bind fun t259=>(if t259=true then (some (a0_0,a0_1)) else (complineref18_with.l0 k a1 1 0 a0_0 a0_1)))=some (r1,r2):=h
 clear h
 replace H:=Option.bind_eq_some_iff.mp H
 obtain ⟨t259,A30,H⟩ :=H
 replace H:(if t259=true then (some (a0_0,a0_1)) else (complineref18_with.l0 k a1 1 0 a0_0 a0_1))=some (r1,r2):=H
 have A3:=Aside0.mk A30
 clear A30
 by_cases c4:t259=true
 ·subst c4
  have H1:(some (a0_0,a0_1))=some (r1,r2):=by rw [if_pos rfl] at H; exact H
  clear H
  have H:=H1
  clear H1
  simp only [Option.some.injEq,Prod.mk.injEq] at H
  obtain ⟨rfl,rfl⟩ :=H
  go_enter Tryz.func85,Tryz.ntmps85
  go_wp2_with (first | ((with_reducible refine gate_dst (N:=2) rfl ?_); refine box_event ?hg (N:=2) ?hd (cs:=#[.int .u64 a0_0,.bool a0_1]) (t:=24) ?hr ?_; (case hd=>rfl); (case hg=>rfl); (case hr=>first | (go_simp; done) | (go_simp; rfl)); intro gb257 hg w5 hbox hb; have n0_:=Aside0.mk (below_step (by repeat (first | (with_reducible first | exact HB.out | apply below_alloc | apply pw_below_drewN | apply below_drew1) | exact HB.out)) hb); have n1_:=Aside0.mk (hbox); have n2_:=Aside0.mk ((by rw [hg]; exact (below_size (by repeat (first | (with_reducible first | exact HB.out | apply below_alloc | apply pw_below_drewN | apply below_drew1) | exact HB.out))):w.heap.size≤gb257)); have n3_:=Aside0.mk ((by rw [hg]; exact (below_size (by repeat (first | (with_reducible first | exact HB.out | apply below_alloc | apply pw_below_drewN | apply below_drew1) | exact HB.out))):w.heap.size≤gb257)); clear HB; have HB:=n0_; have BK257:=n1_; have GW257:=n2_; have GE257:=n3_; clear n0_ n1_ n2_ n3_; clear hb hbox hg) | ((with_reducible refine gate_dst (N:=4) rfl ?_); refine box_event ?hg (N:=4) ?hd (cs:=#[.int .u64 0,.bool false]) (t:=24) ?hr ?_; (case hd=>rfl); (case hg=>rfl); (case hr=>first | (go_simp; done) | (go_simp; rfl)); intro gb258 hg w6 hbox hb; have n0_:=Aside0.mk (blk_below (g:=gb257) (o:=.cells #[.int .u64 a0_0,.bool a0_1] 24 (0,0)) (by (with_reducible repeat (first | refine blk_drewN ?_ _ | refine blk_drew ?_ | refine blk_alloc ?_ _)); exact BK257.out) hb); have n1_:=Aside0.mk (below_step (by repeat (first | (with_reducible first | exact HB.out | apply below_alloc | apply pw_below_drewN | apply below_drew1 | refine below_set ?_ GE257.out) | exact HB.out)) hb); have n2_:=Aside0.mk (hbox); have n3_:=Aside0.mk ((by rw [hg]; exact (below_size (by repeat (first | (with_reducible first | exact HB.out | apply below_alloc | apply pw_below_drewN | apply below_drew1 | refine below_set ?_ GE257.out) | exact HB.out))):w.heap.size≤gb258)); have n4_:=Aside0.mk ((by rw [hg]; exact (below_size (by repeat (first | (with_reducible first | exact HB.out | apply below_alloc | apply pw_below_drewN | apply below_drew1 | refine below_set ?_ GE257.out) | exact HB.out))):w.heap.size≤gb258)); have n5_:=Aside0.mk ((by rw [hg]; exact Nat.ne_of_lt (blk_lt (g:=gb257) (o:=.cells #[.int .u64 a0_0,.bool a0_1] 24 (0,0)) (by (with_reducible repeat (first | refine blk_drewN ?_ _ | refine blk_drew ?_ | refine blk_alloc ?_ _)); exact BK257.out)):gb257≠gb258)); have n6_:=Aside0.mk ((by rw [hg]; exact Nat.ne_of_gt (blk_lt (g:=gb257) (o:=.cells #[.int .u64 a0_0,.bool a0_1] 24 (0,0)) (by (with_reducible repeat (first | refine blk_drewN ?_ _ | refine blk_drew ?_ | refine blk_alloc ?_ _)); exact BK257.out)):gb258≠gb257)); clear BK257; clear HB; have BK257:=n0_; have HB:=n1_; have BK258:=n2_; have GW258:=n3_; have GE258:=n4_; have NB257_258:=n5_; have NB258_257:=n6_; clear n0_ n1_ n2_ n3_ n4_ n5_ n6_; clear hb hbox hg; have hnb7:=NB257_258.out; have hnc7:=NB258_257.out; have hcz8_0:w6.cell? ⟨gb257,0,none⟩=some (.int .u64 a0_0):=(blk_cell BK257.out 0).trans rfl; have hcz8_1:w6.cell? ⟨gb257,1,none⟩=some (.bool a0_1):=(blk_cell BK257.out 1).trans rfl; have hfz8_0:=blk_frozen BK257.out 0; have hfz8_1:=blk_frozen BK257.out 1) | ((with_reducible refine gate_callee (f:=52) rfl ?_); refine goesL_ (some 10) rfl rfl Tryz.func52 (by kernel_rfl) rfl #[.agg #[.int .u64 a0_0,.bool a0_1],.int .i64 a1] rfl (by (try simp only [List.map_toArray,List.map_cons,List.map_nil]); first | done | rfl | (simp only [List.length_drop,List.length_take]; rfl)) ?_; (with_reducible refine (complineref18_Has.calls k a0_0 a0_1 a1 true _ A3.out).mono ?_); rintro e w9 ⟨rfl,hb⟩; refine ⟨_,rfl,?_⟩; have n0_:=Aside0.mk (blk_below (g:=gb257) (o:=.cells #[.int .u64 a0_0,.bool a0_1] 24 (0,0)) (by (with_reducible repeat (first | refine blk_drewN ?_ _ | refine blk_drew ?_ | refine blk_alloc ?_ _)); exact BK257.out) hb); have n1_:=Aside0.mk (blk_below (g:=gb258) (o:=.cells #[.int .u64 0,.bool false] 24 (0,0)) (by (with_reducible repeat (first | refine blk_drewN ?_ _ | refine blk_drew ?_ | refine blk_alloc ?_ _)); exact BK258.out) hb); have n2_:=Aside0.mk (below_step (by repeat (first | (with_reducible first | exact HB.out | apply below_alloc | apply pw_below_drewN | apply below_drew1 | refine below_set ?_ GE257.out | refine below_set ?_ GE258.out) | exact HB.out)) hb); clear BK257; clear BK258; clear HB; have BK257:=n0_; have BK258:=n1_; have HB:=n2_; clear n0_ n1_ n2_; (try clear hb); (try clear hb2); (try clear hk); (try clear hi); have hcz10_0:w9.cell? ⟨gb257,0,none⟩=some (.int .u64 a0_0):=(blk_cell BK257.out 0).trans rfl; have hcz10_1:w9.cell? ⟨gb257,1,none⟩=some (.bool a0_1):=(blk_cell BK257.out 1).trans rfl; have hfz10_0:=blk_frozen BK257.out 0; have hfz10_1:=blk_frozen BK257.out 1; have hcz11_0:w9.cell? ⟨gb258,0,none⟩=some (.int .u64 0):=(blk_cell BK258.out 0).trans rfl; have hcz11_1:w9.cell? ⟨gb258,1,none⟩=some (.bool false):=(blk_cell BK258.out 1).trans rfl; have hfz11_0:=blk_frozen BK258.out 0; have hfz11_1:=blk_frozen BK258.out 1))
  refine bodyPost_ret (results_cell_row rfl _ _ gb258 24 #[.int .u64 a0_0,.bool a0_1] (0,0) _ rfl (by (with_reducible repeat (first | refine blk_drewN ?_ _ | refine blk_drew ?_ | refine blk_alloc ?_ _)); refine blk_put (cs:=#[.int .u64 a0_0,.bool false]) ?_ 1 _ rfl; (with_reducible repeat (first | refine blk_drewN ?_ _ | refine blk_drew ?_ | refine blk_alloc ?_ _)); refine blk_put (cs:=#[.int .u64 0,.bool false]) ?_ 0 _ rfl; (with_reducible repeat (first | refine blk_drewN ?_ _ | refine blk_drew ?_ | refine blk_alloc ?_ _)); exact BK258.out) Tryz.underlying24 rfl (by kernel_rfl)) rfl ?_
  exact ⟨by first | rfl | (simp [errW_none,errW_some] <;> rfl) | (simp [*,errW_none,errW_some] <;> rfl),by repeat (first | (with_reducible first | exact HB.out | apply below_alloc | apply pw_below_drewN | apply below_drew1 | refine below_set ?_ GE257.out | refine below_set ?_ GE258.out) | exact HB.out)⟩
 ·replace c4:=Bool.eq_false_iff.mpr c4
  subst c4
  have H1:(complineref18_with.l0 k a1 1 0 a0_0 a0_1)=some (r1,r2):=by rw [if_neg (show ¬ (false=true) by decide)] at H; exact H
  clear H
  have H:=H1
  clear H1
  have H':=Aside0.mk H
  clear H
  go_enter Tryz.func85,Tryz.ntmps85
  go_wp2_with (first | ((with_reducible refine gate_dst (N:=2) rfl ?_); refine box_event ?hg (N:=2) ?hd (cs:=#[.int .u64 a0_0,.bool a0_1]) (t:=24) ?hr ?_; (case hd=>rfl); (case hg=>rfl); (case hr=>first | (go_simp; done) | (go_simp; rfl)); intro gb257 hg w12 hbox hb; have n0_:=Aside0.mk (below_step (by repeat (first | (with_reducible first | exact HB.out | apply below_alloc | apply pw_below_drewN | apply below_drew1) | exact HB.out)) hb); have n1_:=Aside0.mk (hbox); have n2_:=Aside0.mk ((by rw [hg]; exact (below_size (by repeat (first | (with_reducible first | exact HB.out | apply below_alloc | apply pw_below_drewN | apply below_drew1) | exact HB.out))):w.heap.size≤gb257)); have n3_:=Aside0.mk ((by rw [hg]; exact (below_size (by repeat (first | (with_reducible first | exact HB.out | apply below_alloc | apply pw_below_drewN | apply below_drew1) | exact HB.out))):w.heap.size≤gb257)); clear HB; have HB:=n0_; have BK257:=n1_; have GW257:=n2_; have GE257:=n3_; clear n0_ n1_ n2_ n3_; clear hb hbox hg) | ((with_reducible refine gate_dst (N:=4) rfl ?_); refine box_event ?hg (N:=4) ?hd (cs:=#[.int .u64 0,.bool false]) (t:=24) ?hr ?_; (case hd=>rfl); (case hg=>rfl); (case hr=>first | (go_simp; done) | (go_simp; rfl)); intro gb258 hg w13 hbox hb; have n0_:=Aside0.mk (blk_below (g:=gb257) (o:=.cells #[.int .u64 a0_0,.bool a0_1] 24 (0,0)) (by (with_reducible repeat (first | refine blk_drewN ?_ _ | refine blk_drew ?_ | refine blk_alloc ?_ _)); exact BK257.out) hb); have n1_:=Aside0.mk (below_step (by repeat (first | (with_reducible first | exact HB.out | apply below_alloc | apply pw_below_drewN | apply below_drew1 | refine below_set ?_ GE257.out) | exact HB.out)) hb); have n2_:=Aside0.mk (hbox); have n3_:=Aside0.mk ((by rw [hg]; exact (below_size (by repeat (first | (with_reducible first | exact HB.out | apply below_alloc | apply pw_below_drewN | apply below_drew1 | refine below_set ?_ GE257.out) | exact HB.out))):w.heap.size≤gb258)); have n4_:=Aside0.mk ((by rw [hg]; exact (below_size (by repeat (first | (with_reducible first | exact HB.out | apply below_alloc | apply pw_below_drewN | apply below_drew1 | refine below_set ?_ GE257.out) | exact HB.out))):w.heap.size≤gb258)); have n5_:=Aside0.mk ((by rw [hg]; exact Nat.ne_of_lt (blk_lt (g:=gb257) (o:=.cells #[.int .u64 a0_0,.bool a0_1] 24 (0,0)) (by (with_reducible repeat (first | refine blk_drewN ?_ _ | refine blk_drew ?_ | refine blk_alloc ?_ _)); exact BK257.out)):gb257≠gb258)); have n6_:=Aside0.mk ((by rw [hg]; exact Nat.ne_of_gt (blk_lt (g:=gb257) (o:=.cells #[.int .u64 a0_0,.bool a0_1] 24 (0,0)) (by (with_reducible repeat (first | refine blk_drewN ?_ _ | refine blk_drew ?_ | refine blk_alloc ?_ _)); exact BK257.out)):gb258≠gb257)); clear BK257; clear HB; have BK257:=n0_; have HB:=n1_; have BK258:=n2_; have GW258:=n3_; have GE258:=n4_; have NB257_258:=n5_; have NB258_257:=n6_; clear n0_ n1_ n2_ n3_ n4_ n5_ n6_; clear hb hbox hg; have hnb14:=NB257_258.out; have hnc14:=NB258_257.out; have hcz15_0:w13.cell? ⟨gb257,0,none⟩=some (.int .u64 a0_0):=(blk_cell BK257.out 0).trans rfl; have hcz15_1:w13.cell? ⟨gb257,1,none⟩=some (.bool a0_1):=(blk_cell BK257.out 1).trans rfl; have hfz15_0:=blk_frozen BK257.out 0; have hfz15_1:=blk_frozen BK257.out 1) | ((with_reducible refine gate_callee (f:=52) rfl ?_); refine goesL_ (some 10) rfl rfl Tryz.func52 (by kernel_rfl) rfl #[.agg #[.int .u64 a0_0,.bool a0_1],.int .i64 a1] rfl (by (try simp only [List.map_toArray,List.map_cons,List.map_nil]); first | done | rfl | (simp only [List.length_drop,List.length_take]; rfl)) ?_; (with_reducible refine (complineref18_Has.calls k a0_0 a0_1 a1 false _ A3.out).mono ?_); rintro e w16 ⟨rfl,hb⟩; refine ⟨_,rfl,?_⟩; have n0_:=Aside0.mk (blk_below (g:=gb257) (o:=.cells #[.int .u64 a0_0,.bool a0_1] 24 (0,0)) (by (with_reducible repeat (first | refine blk_drewN ?_ _ | refine blk_drew ?_ | refine blk_alloc ?_ _)); exact BK257.out) hb); have n1_:=Aside0.mk (blk_below (g:=gb258) (o:=.cells #[.int .u64 0,.bool false] 24 (0,0)) (by (with_reducible repeat (first | refine blk_drewN ?_ _ | refine blk_drew ?_ | refine blk_alloc ?_ _)); exact BK258.out) hb); have n2_:=Aside0.mk (below_step (by repeat (first | (with_reducible first | exact HB.out | apply below_alloc | apply pw_below_drewN | apply below_drew1 | refine below_set ?_ GE257.out | refine below_set ?_ GE258.out) | exact HB.out)) hb); clear BK257; clear BK258; clear HB; have BK257:=n0_; have BK258:=n1_; have HB:=n2_; clear n0_ n1_ n2_; (try clear hb); (try clear hb2); (try clear hk); (try clear hi)))
  go_loopg [6,7] k (fun kq v6 v7 w'=>∃ (x6_1:Int) (x7_1:Int),v6=.int .u64 x6_1∧v7=.int .i64 x7_1∧Aside0 (complineref18_with.l0 kq a1 x6_1 x7_1 a0_0 a0_1=some (r1,r2))∧Aside0 (kq≤k)∧Aside0 (w'.heap[gb257]?=some (.cells #[.int .u64 a0_0,.bool a0_1] 24 (0,0)))∧Aside0 (w'.heap[gb258]?=some (.cells #[.int .u64 0,.bool false] 24 (0,0)))∧Aside0 (Below w.heap.size w w'))
  case atStart=>exact ⟨(1),(0),(by first | rfl | (simp; done) | (simp [*]; done)),(by first | rfl | (simp; done) | (simp [*]; done)),H',⟨Nat.le_refl _⟩,⟨by (with_reducible repeat (first | refine blk_drewN ?_ _ | refine blk_drew ?_ | refine blk_alloc ?_ _)); exact BK257.out⟩,⟨by (with_reducible repeat (first | refine blk_drewN ?_ _ | refine blk_drew ?_ | refine blk_alloc ?_ _)); exact BK258.out⟩,⟨by repeat (first | (with_reducible first | exact HB.out | apply below_alloc | apply pw_below_drewN | apply below_drew1 | refine below_set ?_ GE257.out | refine below_set ?_ GE258.out) | exact HB.out)⟩⟩
  case round=>
   clear H'
   try clear c1
   try clear p2
   try clear c4
   try clear c5
   try clear c7
   try clear c8
   try clear c14
   try clear hcz10_0
   try clear hcz10_1
   try clear hcz11_0
   try clear hcz11_1
   try clear hcz15_0
   try clear hcz15_1
   try clear hcz8_0
   try clear hcz8_1
   try clear hfz10_0
   try clear hfz10_1
   try clear hfz11_0
   try clear hfz11_1
   try clear hfz15_0
   try clear hfz15_1
   try clear hfz8_0
   try clear hfz8_1
   obtain ⟨x6_1,x7_1,rfl,rfl,HA,HK1,BK257,BK258,HB⟩ :=hrel
   cases gk with
   | zero=>exact absurd HA.out (by simp [complineref18_with.l0])
   | succ k1=>
    have H:=HA.out
    clear HA
    simp only [complineref18_with.l0] at H
    by_cases c17:x7_1 < a1
    ·rw [if_pos c17] at H
     have c17b0:decide (x7_1 < a1)=true:=decide_eq_true c17
     clear c17
     have H':=Aside0.mk H
     clear H
     go_wp2
     go_roundg k1
     case measure=>have:=HK1.out; omega
     case rel=>exact ⟨(IntKind.u64.wrap (2*x6_1)),(wrap64 (x7_1+1)),(by first | rfl | (simp; done) | (simp [*]; done)),(by first | rfl | (simp; done) | (simp [*]; done)),H',⟨by have:=HK1.out; omega⟩,⟨by (with_reducible repeat (first | refine blk_drewN ?_ _ | refine blk_drew ?_ | refine blk_alloc ?_ _)); exact BK257.out⟩,⟨by (with_reducible repeat (first | refine blk_drewN ?_ _ | refine blk_drew ?_ | refine blk_alloc ?_ _)); exact BK258.out⟩,⟨by repeat (first | (with_reducible first | exact HB.out | apply below_alloc | apply pw_below_drewN | apply below_drew1 | refine below_set ?_ GE257.out | refine below_set ?_ GE258.out) | exact HB.out)⟩⟩
    ·rw [if_neg c17] at H
     have c17b0:decide (x7_1 < a1)=false:=decide_eq_false c17
     clear c17
     simp only [Option.some.injEq,Prod.mk.injEq] at H
     obtain ⟨rfl,rfl⟩ :=H
     have hnb18:=NB257_258.out
     have hnc18:=NB258_257.out
     have hcz19_0:wr.cell? ⟨gb257,0,none⟩=some (.int .u64 a0_0):=(blk_cell BK257.out 0).trans rfl
     have hcz19_1:wr.cell? ⟨gb257,1,none⟩=some (.bool a0_1):=(blk_cell BK257.out 1).trans rfl
     have hfz19_0:=blk_frozen BK257.out 0
     have hfz19_1:=blk_frozen BK257.out 1
     have hcz20_0:wr.cell? ⟨gb258,0,none⟩=some (.int .u64 0):=(blk_cell BK258.out 0).trans rfl
     have hcz20_1:wr.cell? ⟨gb258,1,none⟩=some (.bool false):=(blk_cell BK258.out 1).trans rfl
     have hfz20_0:=blk_frozen BK258.out 0
     have hfz20_1:=blk_frozen BK258.out 1
     go_wp2
     refine bodyPost_ret (results_cell_row rfl _ _ gb258 24 #[.int .u64 (IntKind.u64.wrap (a0_0+x6_1)),.bool a0_1] (0,0) _ rfl (by (with_reducible repeat (first | refine blk_drewN ?_ _ | refine blk_drew ?_ | refine blk_alloc ?_ _)); refine blk_put (cs:=#[.int .u64 (IntKind.u64.wrap (a0_0+x6_1)),.bool false]) ?_ 1 _ rfl; (with_reducible repeat (first | refine blk_drewN ?_ _ | refine blk_drew ?_ | refine blk_alloc ?_ _)); refine blk_put (cs:=#[.int .u64 0,.bool false]) ?_ 0 _ rfl; (with_reducible repeat (first | refine blk_drewN ?_ _ | refine blk_drew ?_ | refine blk_alloc ?_ _)); exact BK258.out) Tryz.underlying24 rfl (by kernel_rfl)) rfl ?_
     exact ⟨by first | rfl | (simp [errW_none,errW_some] <;> rfl) | (simp [*,errW_none,errW_some] <;> rfl),by repeat (first | (with_reducible first | exact HB.out | apply below_alloc | apply pw_below_drewN | apply below_drew1 | refine below_set ?_ GE257.out | refine below_set ?_ GE258.out) | exact HB.out)⟩
mutual
def complineref18_Parse.l0:Nat→ByteArray→Int→List ByteArray→Int→Int→Bool→Option (Int × Bool × Int)
 | 0,_,_,_,_,_,_=>none
 | k+1,x0,x1,x10,x11,x265000,x265001=>if x11 < (x10.length:Int) then (if 0≤x11 then ((complineref18_Item.f k (rdOf ByteArray.empty x10 x11) x1).bind fun bt269=>(if bt269.2.2.2=0 then (complineref18_Parse.l1 k x0 x1 x10 x11 bt269.1 x265000 x265001 bt269.1 bt269.2.1 bt269.2.2.1) else (some (0,false,bt269.2.2.2)))) else (none)) else (some (x265000,(x0.toList == ([42]:List UInt8)),0))
def complineref18_Parse.l1:Nat→ByteArray→Int→List ByteArray→Int→Int→Int→Bool→Int→Int→Int→Option (Int × Bool × Int)
 | 0,_,_,_,_,_,_,_,_,_,_=>none
 | k+1,x0,x1,x10,x11,x14,x265000,x265001,x274000,x274001,x274002=>if x14≤x274001 then (if x1=4 then (complineref18_Parse.j2 k x0 x1 x10 x11 x14 (x14 == 7) x265000 x265001 x274000 x274001 x274002) else (complineref18_Parse.j2 k x0 x1 x10 x11 x14 false x265000 x265001 x274000 x274001 x274002)) else (complineref18_Parse.l0 k x0 x1 x10 (wrap64 (x11+1)) x265000 x265001)
def complineref18_Parse.j2:Nat→ByteArray→Int→List ByteArray→Int→Int→Bool→Int→Bool→Int→Int→Int→Option (Int × Bool × Int)
 | 0,_,_,_,_,_,_,_,_,_,_,_=>none
 | k+1,x0,x1,x10,x11,x14,x62,x265000,x265001,x274000,x274001,x274002=>if x62=true then ((complineref18_with.f k x265000 x265001 0).bind fun bt274=>(complineref18_Parse.l1 k x0 x1 x10 x11 (wrap64 (x14+x274002)) bt274.1 bt274.2 x274000 x274001 x274002)) else ((complineref18_with.f k x265000 x265001 x14).bind fun bt276=>(complineref18_Parse.l1 k x0 x1 x10 x11 (wrap64 (x14+x274002)) bt276.1 bt276.2 x274000 x274001 x274002))
end
def complineref18_Parse.f (k:Nat)(a0:ByteArray)(a1:Int):Option (Int × Bool × Int):=(complineref18_limits.f a1).bind fun bt261=>(if bt261.2.2=0 then ((complineref18_Split.f k a0 44).bind fun t265=>(complineref18_Parse.l0 k a0 a1 t265 0 0 false)) else (some (0,false,bt261.2.2)))
set_option maxHeartbeats 8000000 in
set_option maxRecDepth 100000 in
theorem complineref18_Parse.calls (k:Nat)(a0:ByteArray)(a1:Int)(r1:Int)(r2:Bool)(r3:Int)(w:World)(h:complineref18_Parse.f k a0 a1=some (r1,r2,r3)) :
  Calls Tryz.prog 56 #[.string a0,.int .i64 a1] w fun e w'=>e=.returned (.tuple #[.agg #[.int .u64 r1,.bool r2],.int .i64 r3])∧Below w.heap.size w w':=by
 have hu24:=Tryz.underlying24
 have hu118:=Tryz.underlying118
 have HB:=Aside0.mk (Below.refl w.heap.size w)
 have H:((complineref18_limits.f a1).bind fun bt261=>(if bt261.2.2=0 then ((complineref18_Split.f k a0 44).bind fun t265=>(complineref18_Parse.l0 k a0 a1 t265 0 0 false)) else (some (0,false,bt261.2.2))))=some (r1,r2,r3):=h
 clear h
 replace H:=Option.bind_eq_some_iff.mp H
 obtain ⟨⟨t261,t262,t263⟩,A30,H⟩ :=H
 replace H:(if t263=0 then ((complineref18_Split.f k a0 44).bind fun t265=>(complineref18_Parse.l0 k a0 a1 t265 0 0 false)) else (some (0,false,t263)))=some (r1,r2,r3):=H
 have A3:=Aside0.mk A30
 clear A30
 by_cases c4:t263=0
 ·rw [if_pos c4] at H
  have c4b0:(t263 == 0)=true:=beq_iff_eq.mpr c4
  have c4b1:(t263 != 0)=false:=bne_eq_false_iff_eq.mpr c4
  clear c4
  replace H:=Option.bind_eq_some_iff.mp H
  obtain ⟨t265,A50,H⟩ :=H
  replace H:(complineref18_Parse.l0 k a0 a1 t265 0 0 false)=some (r1,r2,r3):=H
  have A5:=Aside0.mk A50
  clear A50
  have H':=Aside0.mk H
  clear H
  go_enter Tryz.func56,Tryz.ntmps56
  go_wp2_with (first | ((with_reducible refine gate_dst (N:=4) rfl ?_); refine box_event ?hg (N:=4) ?hd (cs:=#[.int .u64 0,.bool false]) (t:=24) ?hr ?_; (case hd=>rfl); (case hg=>rfl); (case hr=>first | (go_simp; done) | (go_simp; rfl)); intro gb260 hg w6 hbox hb; have n0_:=Aside0.mk (below_step (by repeat (first | (with_reducible first | exact HB.out | apply below_alloc | apply pw_below_drewN | apply below_drew1) | exact HB.out)) hb); have n1_:=Aside0.mk (hbox); have n2_:=Aside0.mk ((by rw [hg]; exact (below_size (by repeat (first | (with_reducible first | exact HB.out | apply below_alloc | apply pw_below_drewN | apply below_drew1) | exact HB.out))):w.heap.size≤gb260)); have n3_:=Aside0.mk ((by rw [hg]; exact (below_size (by repeat (first | (with_reducible first | exact HB.out | apply below_alloc | apply pw_below_drewN | apply below_drew1) | exact HB.out))):w.heap.size≤gb260)); clear HB; have HB:=n0_; have BK260:=n1_; have GW260:=n2_; have GE260:=n3_; clear n0_ n1_ n2_ n3_; clear hb hbox hg) | ((with_reducible refine gate_callee (f:=51) rfl ?_); refine goesL_ (some 17) rfl rfl Tryz.func51 (by kernel_rfl) rfl #[.int .i64 a1] rfl (by (try simp only [List.map_toArray,List.map_cons,List.map_nil]); first | done | rfl | (simp only [List.length_drop,List.length_take]; rfl)) ?_; (with_reducible refine (complineref18_limits.calls a1 t261 t262 t263 _ A3.out).mono ?_); rintro e w' ⟨rfl,⟨nd,rfl⟩⟩; refine ⟨_,rfl,?_⟩; (try (rw [drewN_self w6]; generalize hq_:World.drewN w6 _=w6; have n0_:Aside0 (w6.heap[gb260]?=some (.cells #[.int .u64 0,.bool false] 24 (0,0))):=⟨by rw [← hq_]; exact (by (with_reducible repeat (first | refine blk_drewN ?_ _ | refine blk_drew ?_ | refine blk_alloc ?_ _)); exact BK260.out)⟩; have n1_:Aside0 (Below w.heap.size w w6):=⟨by rw [← hq_]; exact (by repeat (first | (with_reducible first | exact HB.out | apply below_alloc | apply pw_below_drewN | apply below_drew1 | refine below_set ?_ GE260.out) | exact HB.out))⟩; clear BK260 HB hq_; have BK260:=n0_; have HB:=n1_; clear n0_ n1_))) | ((with_reducible refine gate_dst (N:=9) rfl ?_); refine box_event ?hg (N:=9) ?hd (cs:=#[.int .u64 0,.bool false]) (t:=24) ?hr ?_; (case hd=>rfl); (case hg=>rfl); (case hr=>first | (go_simp; done) | (go_simp; rfl)); intro gb264 hg w7 hbox hb; have n0_:=Aside0.mk (blk_below (g:=gb260) (o:=.cells #[.int .u64 0,.bool false] 24 (0,0)) (by (with_reducible repeat (first | refine blk_drewN ?_ _ | refine blk_drew ?_ | refine blk_alloc ?_ _)); exact BK260.out) hb); have n1_:=Aside0.mk (below_step (by repeat (first | (with_reducible first | exact HB.out | apply below_alloc | apply pw_below_drewN | apply below_drew1 | refine below_set ?_ GE260.out) | exact HB.out)) hb); have n2_:=Aside0.mk (hbox); have n3_:=Aside0.mk ((by rw [hg]; exact (below_size (by repeat (first | (with_reducible first | exact HB.out | apply below_alloc | apply pw_below_drewN | apply below_drew1 | refine below_set ?_ GE260.out) | exact HB.out))):w.heap.size≤gb264)); have n4_:=Aside0.mk ((by rw [hg]; exact (below_size (by repeat (first | (with_reducible first | exact HB.out | apply below_alloc | apply pw_below_drewN | apply below_drew1 | refine below_set ?_ GE260.out) | exact HB.out))):w.heap.size≤gb264)); have n5_:=Aside0.mk ((by rw [hg]; exact Nat.ne_of_lt (blk_lt (g:=gb260) (o:=.cells #[.int .u64 0,.bool false] 24 (0,0)) (by (with_reducible repeat (first | refine blk_drewN ?_ _ | refine blk_drew ?_ | refine blk_alloc ?_ _)); exact BK260.out)):gb260≠gb264)); have n6_:=Aside0.mk ((by rw [hg]; exact Nat.ne_of_gt (blk_lt (g:=gb260) (o:=.cells #[.int .u64 0,.bool false] 24 (0,0)) (by (with_reducible repeat (first | refine blk_drewN ?_ _ | refine blk_drew ?_ | refine blk_alloc ?_ _)); exact BK260.out)):gb264≠gb260)); clear BK260; clear HB; have BK260:=n0_; have HB:=n1_; have BK264:=n2_; have GW264:=n3_; have GE264:=n4_; have NB260_264:=n5_; have NB264_260:=n6_; clear n0_ n1_ n2_ n3_ n4_ n5_ n6_; clear hb hbox hg; have hnb8:=NB264_260.out; have hnc8:=NB260_264.out; have hcz9_0:w7.cell? ⟨gb264,0,none⟩=some (.int .u64 0):=(blk_cell BK264.out 0).trans rfl; have hcz9_1:w7.cell? ⟨gb264,1,none⟩=some (.bool false):=(blk_cell BK264.out 1).trans rfl; have hfz9_0:=blk_frozen BK264.out 0; have hfz9_1:=blk_frozen BK264.out 1) | ((with_reducible refine gate_callee (f:=83) rfl ?_); refine goesL_ (some 27) rfl rfl Tryz.func83 (by kernel_rfl) rfl #[.string a0,.int .u8 44] rfl (by (try simp only [List.map_toArray,List.map_cons,List.map_nil]); first | done | rfl | (simp only [List.length_drop,List.length_take]; rfl)) ?_; (with_reducible refine (complineref18_Split.calls k a0 44 t265 _ A5.out).mono ?_); rintro e w10 ⟨v266,rfl,ho0,hb⟩; refine ⟨_,rfl,?_⟩; have n0_:=Aside0.mk (Kd.R_lower ho0 (below_size (by repeat (first | (with_reducible first | exact HB.out | apply below_alloc | apply pw_below_drewN | apply below_drew1 | refine below_set ?_ GE260.out | refine below_set ?_ GE264.out) | exact HB.out)))); have n1_:=Aside0.mk (blk_below (g:=gb260) (o:=.cells #[.int .u64 0,.bool false] 24 (0,0)) (by (with_reducible repeat (first | refine blk_drewN ?_ _ | refine blk_drew ?_ | refine blk_alloc ?_ _)); refine blk_far ?_ NB260_264.out _; (with_reducible repeat (first | refine blk_drewN ?_ _ | refine blk_drew ?_ | refine blk_alloc ?_ _)); refine blk_far ?_ NB260_264.out _; (with_reducible repeat (first | refine blk_drewN ?_ _ | refine blk_drew ?_ | refine blk_alloc ?_ _)); exact BK260.out) hb); have n2_:=Aside0.mk (blk_below (g:=gb264) (o:=.cells #[.int .u64 0,.bool false] 24 (0,0)) (by (with_reducible repeat (first | refine blk_drewN ?_ _ | refine blk_drew ?_ | refine blk_alloc ?_ _)); refine blk_put (cs:=#[.int .u64 0,.bool false]) ?_ 1 _ rfl; (with_reducible repeat (first | refine blk_drewN ?_ _ | refine blk_drew ?_ | refine blk_alloc ?_ _)); refine blk_put (cs:=#[.int .u64 0,.bool false]) ?_ 0 _ rfl; (with_reducible repeat (first | refine blk_drewN ?_ _ | refine blk_drew ?_ | refine blk_alloc ?_ _)); exact BK264.out) hb); have n3_:=Aside0.mk (below_step (by repeat (first | (with_reducible first | exact HB.out | apply below_alloc | apply pw_below_drewN | apply below_drew1 | refine below_set ?_ GE260.out | refine below_set ?_ GE264.out) | exact HB.out)) hb); clear BK260; clear BK264; clear HB; have HO267:=n0_; have BK260:=n1_; have BK264:=n2_; have HB:=n3_; clear n0_ n1_ n2_ n3_; (try clear hb); (try clear hb2); (try clear hk); (try clear hi); (try clear ho0)))
  go_loopg [11] k (fun kq v11 w'=>∃ (x11_1:Int) (x261000_1:Int) (x261001_1:Bool) (x265000_1:Int) (x265001_1:Bool),v11=.int .i64 x11_1∧Aside0 (complineref18_Parse.l0 kq a0 a1 t265 x11_1 x265000_1 x265001_1=some (r1,r2,r3))∧Aside0 (kq≤k)∧Aside0 (Kd.R Kd.string 9 w' w.heap.size (fun _=>True) v266 t265)∧Aside0 (w'.heap[gb260]?=some (.cells #[.int .u64 x261000_1,.bool x261001_1] 24 (0,0)))∧Aside0 (w'.heap[gb264]?=some (.cells #[.int .u64 x265000_1,.bool x265001_1] 24 (0,0)))∧Aside0 (Below w.heap.size w w'))
  case atStart=>exact ⟨(0),(0),(false),(0),(false),(by first | rfl | (simp; done) | (simp [*]; done)),H',⟨Nat.le_refl _⟩,⟨by (with_reducible repeat (first | apply Kd.R_alloc | apply Kd.R_drewN | apply Kd.R_drew)); exact HO267.out⟩,⟨by (with_reducible repeat (first | refine blk_drewN ?_ _ | refine blk_drew ?_ | refine blk_alloc ?_ _)); exact BK260.out⟩,⟨by (with_reducible repeat (first | refine blk_drewN ?_ _ | refine blk_drew ?_ | refine blk_alloc ?_ _)); exact BK264.out⟩,⟨by repeat (first | (with_reducible first | exact HB.out | apply below_alloc | apply pw_below_drewN | apply below_drew1 | refine below_set ?_ GE260.out | refine below_set ?_ GE264.out) | exact HB.out)⟩⟩
  case round=>
   clear H'
   try clear p2
   try clear c4
   try clear c4b0
   try clear c4b1
   try clear c5
   try clear c8
   try clear hcz9_0
   try clear hcz9_1
   try clear hfz9_0
   try clear hfz9_1
   obtain ⟨x11_1,x261000_1,x261001_1,x265000_1,x265001_1,rfl,HA,HK1,HO_10,BK260,BK264,HB⟩ :=hrel
   cases gk with
   | zero=>exact absurd HA.out (by simp [complineref18_Parse.l0])
   | succ k1=>
    have H:=HA.out
    clear HA
    simp only [complineref18_Parse.l0] at H
    by_cases c11:x11_1 < (t265.length:Int)
    ·rw [if_pos c11] at H
     have c11b0:decide (x11_1 < (t265.length:Int))=true:=decide_eq_true c11
     clear c11
     by_cases c12:0≤x11_1
     ·rw [if_pos c12] at H
      have c12b0:decide (0≤x11_1)=true:=decide_eq_true c12
      clear c12
      replace H:=Option.bind_eq_some_iff.mp H
      obtain ⟨⟨t269,t270,t271,t272⟩,A130,H⟩ :=H
      replace H:(if t272=0 then (complineref18_Parse.l1 k1 a0 a1 t265 x11_1 t269 x265000_1 x265001_1 t269 t270 t271) else (some (0,false,t272)))=some (r1,r2,r3):=H
      have A13:=Aside0.mk A130
      clear A130
      by_cases c14:t272=0
      ·rw [if_pos c14] at H
       have c14b0:(t272 == 0)=true:=beq_iff_eq.mpr c14
       have c14b1:(t272 != 0)=false:=bne_eq_false_iff_eq.mpr c14
       clear c14
       have H':=Aside0.mk H
       clear H
       obtain ⟨Ao15,co15,eo15⟩ :=Kd.R_slice HO_10.out
       subst eo15
       have p268:0≤(x11_1:Int):=of_decide_eq_true (by first | (with_reducible assumption) | assumption)
       have q268:x11_1 < (t265.length:Int):=of_decide_eq_true (by first | (with_reducible assumption) | assumption)
       obtain ⟨ad268,e268,hx268_0⟩ :=Kd.at_string (Kd.R_reads' HO_10.out).2.2 x11_1 p268 q268
       cases e268
       replace p268:=eq_true p268
       replace q268:=eq_true q268
       go_wp2_with (first | ((with_reducible refine gate_callee (f:=84) rfl ?_); refine goesL_ (some 40) rfl rfl Tryz.func84 (by kernel_rfl) rfl #[.string (rdOf ByteArray.empty t265 x11_1),.int .i64 a1] rfl (by (try simp only [List.map_toArray,List.map_cons,List.map_nil]); first | done | rfl | (simp only [List.length_drop,List.length_take]; rfl)) ?_; (with_reducible refine (complineref18_Item.calls k1 (rdOf ByteArray.empty t265 x11_1) a1 t269 t270 t271 t272 _ A13.out).mono ?_); rintro e w16 ⟨rfl,hb⟩; refine ⟨_,rfl,?_⟩; have n0_:=Aside0.mk (Kd.R_below (by (with_reducible repeat (first | apply Kd.R_alloc | apply Kd.R_drewN | apply Kd.R_drew)); exact HO_10.out) hb); have n1_:=Aside0.mk (blk_below (g:=gb260) (o:=.cells #[.int .u64 x261000_1,.bool x261001_1] 24 (0,0)) (by (with_reducible repeat (first | refine blk_drewN ?_ _ | refine blk_drew ?_ | refine blk_alloc ?_ _)); exact BK260.out) hb); have n2_:=Aside0.mk (blk_below (g:=gb264) (o:=.cells #[.int .u64 x265000_1,.bool x265001_1] 24 (0,0)) (by (with_reducible repeat (first | refine blk_drewN ?_ _ | refine blk_drew ?_ | refine blk_alloc ?_ _)); exact BK264.out) hb); have n3_:=Aside0.mk (below_step (by repeat (first | (with_reducible first | exact HB.out | apply below_alloc | apply pw_below_drewN | apply below_drew1 | refine below_set ?_ GE260.out | refine below_set ?_ GE264.out) | exact HB.out)) hb); clear HO_10; clear BK260; clear BK264; clear HB; have HO_10:=n0_; have BK260:=n1_; have BK264:=n2_; have HB:=n3_; clear n0_ n1_ n2_ n3_; (try clear hb); (try clear hb2); (try clear hk); (try clear hi)) | ((with_reducible refine gate_dst (N:=12) rfl ?_); refine box_event ?hg (N:=12) ?hd (cs:=#[.int .i64 0,.int .i64 0,.int .i64 0]) (t:=118) ?hr ?_; (case hd=>rfl); (case hg=>rfl); (case hr=>first | (go_simp; done) | (go_simp; rfl)); intro gb273 hg w17 hbox hb; have n0_:=Aside0.mk (Kd.R_below (by (with_reducible repeat (first | apply Kd.R_alloc | apply Kd.R_drewN | apply Kd.R_drew)); exact HO_10.out) hb); have n1_:=Aside0.mk (blk_below (g:=gb260) (o:=.cells #[.int .u64 x261000_1,.bool x261001_1] 24 (0,0)) (by (with_reducible repeat (first | refine blk_drewN ?_ _ | refine blk_drew ?_ | refine blk_alloc ?_ _)); exact BK260.out) hb); have n2_:=Aside0.mk (blk_below (g:=gb264) (o:=.cells #[.int .u64 x265000_1,.bool x265001_1] 24 (0,0)) (by (with_reducible repeat (first | refine blk_drewN ?_ _ | refine blk_drew ?_ | refine blk_alloc ?_ _)); exact BK264.out) hb); have n3_:=Aside0.mk (below_step (by repeat (first | (with_reducible first | exact HB.out | apply below_alloc | apply pw_below_drewN | apply below_drew1 | refine below_set ?_ GE260.out | refine below_set ?_ GE264.out) | exact HB.out)) hb); have n4_:=Aside0.mk (hbox); have n5_:=Aside0.mk ((by rw [hg]; exact (below_size (by repeat (first | (with_reducible first | exact HB.out | apply below_alloc | apply pw_below_drewN | apply below_drew1 | refine below_set ?_ GE260.out | refine below_set ?_ GE264.out) | exact HB.out))):w.heap.size≤gb273)); have n6_:=Aside0.mk ((by rw [hg]; exact (below_size (by repeat (first | (with_reducible first | exact HB.out | apply below_alloc | apply pw_below_drewN | apply below_drew1 | refine below_set ?_ GE260.out | refine below_set ?_ GE264.out) | exact HB.out))):w.heap.size≤gb273)); have n7_:=Aside0.mk ((by rw [hg]; exact Nat.ne_of_lt (blk_lt (g:=gb260) (o:=.cells #[.int .u64 x261000_1,.bool x261001_1] 24 (0,0)) (by (with_reducible repeat (first | refine blk_drewN ?_ _ | refine blk_drew ?_ | refine blk_alloc ?_ _)); exact BK260.out)):gb260≠gb273)); have n8_:=Aside0.mk ((by rw [hg]; exact Nat.ne_of_gt (blk_lt (g:=gb260) (o:=.cells #[.int .u64 x261000_1,.bool x261001_1] 24 (0,0)) (by (with_reducible repeat (first | refine blk_drewN ?_ _ | refine blk_drew ?_ | refine blk_alloc ?_ _)); exact BK260.out)):gb273≠gb260)); have n9_:=Aside0.mk ((by rw [hg]; exact Nat.ne_of_lt (blk_lt (g:=gb264) (o:=.cells #[.int .u64 x265000_1,.bool x265001_1] 24 (0,0)) (by (with_reducible repeat (first | refine blk_drewN ?_ _ | refine blk_drew ?_ | refine blk_alloc ?_ _)); exact BK264.out)):gb264≠gb273)); have n10_:=Aside0.mk ((by rw [hg]; exact Nat.ne_of_gt (blk_lt (g:=gb264) (o:=.cells #[.int .u64 x265000_1,.bool x265001_1] 24 (0,0)) (by (with_reducible repeat (first | refine blk_drewN ?_ _ | refine blk_drew ?_ | refine blk_alloc ?_ _)); exact BK264.out)):gb273≠gb264)); clear HO_10; clear BK260; clear BK264; clear HB; have HO_10:=n0_; have BK260:=n1_; have BK264:=n2_; have HB:=n3_; have BK273:=n4_; have GW273:=n5_; have GE273:=n6_; have NB260_273:=n7_; have NB273_260:=n8_; have NB264_273:=n9_; have NB273_264:=n10_; clear n0_ n1_ n2_ n3_ n4_ n5_ n6_ n7_ n8_ n9_ n10_; clear hb hbox hg; have hnb18:=NB273_260.out; have hnc18:=NB260_273.out; have hnb19:=NB273_264.out; have hnc19:=NB264_273.out; have hcz20_0:w17.cell? ⟨gb273,0,none⟩=some (.int .i64 0):=(blk_cell BK273.out 0).trans rfl; have hcz20_1:w17.cell? ⟨gb273,1,none⟩=some (.int .i64 0):=(blk_cell BK273.out 1).trans rfl; have hcz20_2:w17.cell? ⟨gb273,2,none⟩=some (.int .i64 0):=(blk_cell BK273.out 2).trans rfl; have hfz20_0:=blk_frozen BK273.out 0; have hfz20_1:=blk_frozen BK273.out 1; have hfz20_2:=blk_frozen BK273.out 2))
       go_loopg [14] k1 (fun kq v14 w'=>∃ (x14_2:Int) (x265000_2:Int) (x265001_2:Bool),v14=.int .i64 x14_2∧Aside0 (complineref18_Parse.l1 kq a0 a1 t265 x11_1 x14_2 x265000_2 x265001_2 t269 t270 t271=some (r1,r2,r3))∧Aside0 (kq≤k1)∧Aside0 (Kd.R Kd.string 9 w' w.heap.size (fun _=>True) (.slice (some ad268) t265.length co15) t265)∧Aside0 (w'.heap[gb260]?=some (.cells #[.int .u64 x261000_1,.bool x261001_1] 24 (0,0)))∧Aside0 (w'.heap[gb264]?=some (.cells #[.int .u64 x265000_2,.bool x265001_2] 24 (0,0)))∧Aside0 (w'.heap[gb273]?=some (.cells #[.int .i64 t269,.int .i64 t270,.int .i64 t271] 118 (0,0)))∧Aside0 (Below w.heap.size w w'))
       case atStart=>exact ⟨(t269),(x265000_1),(x265001_1),(by first | rfl | (simp; done) | (simp [*]; done)),H',⟨Nat.le_refl _⟩,⟨by (with_reducible repeat (first | apply Kd.R_alloc | apply Kd.R_drewN | apply Kd.R_drew)); exact Kd.R_mono (Kd.R_far (p:=⟨gb273,2,none⟩) (Kd.R_far (p:=⟨gb273,1,none⟩) (Kd.R_far (p:=⟨gb273,0,none⟩) (Kd.R_types HO_10.out BK273.out (by decide)) (fun _ hk=>hk.2) (.int .i64 t269)) (fun _ hk=>hk.2) (.int .i64 t270)) (fun _ hk=>hk.2) (.int .i64 t271)) (fun _ hk=>trivial)⟩,⟨by (with_reducible repeat (first | refine blk_drewN ?_ _ | refine blk_drew ?_ | refine blk_alloc ?_ _)); refine blk_far ?_ NB260_273.out _; (with_reducible repeat (first | refine blk_drewN ?_ _ | refine blk_drew ?_ | refine blk_alloc ?_ _)); refine blk_far ?_ NB260_273.out _; (with_reducible repeat (first | refine blk_drewN ?_ _ | refine blk_drew ?_ | refine blk_alloc ?_ _)); refine blk_far ?_ NB260_273.out _; (with_reducible repeat (first | refine blk_drewN ?_ _ | refine blk_drew ?_ | refine blk_alloc ?_ _)); exact BK260.out⟩,⟨by (with_reducible repeat (first | refine blk_drewN ?_ _ | refine blk_drew ?_ | refine blk_alloc ?_ _)); refine blk_far ?_ NB264_273.out _; (with_reducible repeat (first | refine blk_drewN ?_ _ | refine blk_drew ?_ | refine blk_alloc ?_ _)); refine blk_far ?_ NB264_273.out _; (with_reducible repeat (first | refine blk_drewN ?_ _ | refine blk_drew ?_ | refine blk_alloc ?_ _)); refine blk_far ?_ NB264_273.out _; (with_reducible repeat (first | refine blk_drewN ?_ _ | refine blk_drew ?_ | refine blk_alloc ?_ _)); exact BK264.out⟩,⟨by (with_reducible repeat (first | refine blk_drewN ?_ _ | refine blk_drew ?_ | refine blk_alloc ?_ _)); refine blk_put (cs:=#[.int .i64 t269,.int .i64 t270,.int .i64 0]) ?_ 2 _ rfl; (with_reducible repeat (first | refine blk_drewN ?_ _ | refine blk_drew ?_ | refine blk_alloc ?_ _)); refine blk_put (cs:=#[.int .i64 t269,.int .i64 0,.int .i64 0]) ?_ 1 _ rfl; (with_reducible repeat (first | refine blk_drewN ?_ _ | refine blk_drew ?_ | refine blk_alloc ?_ _)); refine blk_put (cs:=#[.int .i64 0,.int .i64 0,.int .i64 0]) ?_ 0 _ rfl; (with_reducible repeat (first | refine blk_drewN ?_ _ | refine blk_drew ?_ | refine blk_alloc ?_ _)); exact BK273.out⟩,⟨by repeat (first | (with_reducible first | exact HB.out | apply below_alloc | apply pw_below_drewN | apply below_drew1 | refine below_set ?_ GE260.out | refine below_set ?_ GE264.out | refine below_set ?_ GE273.out) | exact HB.out)⟩⟩
       case round=>
        clear H'
        try clear c1
        try clear p2
        try clear q2
        try clear hx2
        try clear c4
        try clear c4b0
        try clear c4b1
        try clear c5
        try clear c8
        try clear c11
        try clear c11b0
        try clear c12
        try clear c12b0
        try clear c14
        try clear c14b0
        try clear c14b1
        try clear c18
        try clear c19
        try clear hcz20_0
        try clear hcz20_1
        try clear hcz20_2
        try clear hcz9_0
        try clear hcz9_1
        try clear hfz20_0
        try clear hfz20_1
        try clear hfz20_2
        try clear hfz9_0
        try clear hfz9_1
        try clear hx268_0
        try clear p2
        try clear p268
        try clear q268
        obtain ⟨x14_2,x265000_2,x265001_2,rfl,HA,HK2,HO_10,BK260,BK264,BK273,HB⟩ :=hrel
        cases gk with
        | zero=>exact absurd HA.out (by simp [complineref18_Parse.l1])
        | succ k2=>
         have H:=HA.out
         clear HA
         simp only [complineref18_Parse.l1] at H
         by_cases c21:x14_2≤t270
         ·rw [if_pos c21] at H
          have c21b0:decide (x14_2≤t270)=true:=decide_eq_true c21
          clear c21
          have HC22:=Aside0.mk H
          clear H
          have hnb23:=NB273_260.out
          have hnc23:=NB260_273.out
          have hnb24:=NB273_264.out
          have hnc24:=NB264_273.out
          have hcz25_0:wr.cell? ⟨gb273,0,none⟩=some (.int .i64 t269):=(blk_cell BK273.out 0).trans rfl
          have hcz25_1:wr.cell? ⟨gb273,1,none⟩=some (.int .i64 t270):=(blk_cell BK273.out 1).trans rfl
          have hcz25_2:wr.cell? ⟨gb273,2,none⟩=some (.int .i64 t271):=(blk_cell BK273.out 2).trans rfl
          have hfz25_0:=blk_frozen BK273.out 0
          have hfz25_1:=blk_frozen BK273.out 1
          have hfz25_2:=blk_frozen BK273.out 2
          go_upto_region 15 with (fail)
          go_cut [62] (fun v62 wc=>∃ (kq:Nat) (x62_21:Bool),v62=.bool x62_21∧Aside0 (complineref18_Parse.j2 kq a0 a1 t265 x11_1 x14_2 x62_21 x265000_2 x265001_2 t269 t270 t271=some (r1,r2,r3))∧Aside0 (kq≤k2)∧Aside0 (Kd.R Kd.string 9 wc w.heap.size (fun _=>True) (.slice (some ad268) t265.length co15) t265)∧Aside0 (wc.heap[gb260]?=some (.cells #[.int .u64 x261000_1,.bool x261001_1] 24 (0,0)))∧Aside0 (wc.heap[gb264]?=some (.cells #[.int .u64 x265000_2,.bool x265001_2] 24 (0,0)))∧Aside0 (wc.heap[gb273]?=some (.cells #[.int .i64 t269,.int .i64 t270,.int .i64 t271] 118 (0,0)))∧Aside0 (Below w.heap.size w wc))
          case first=>
           have H:=HC22.out
           clear HC22
           by_cases c26:a1=4
           ·rw [if_pos c26] at H
            have c26b0:(a1 == 4)=true:=beq_iff_eq.mpr c26
            have c26b1:(a1 != 4)=false:=bne_eq_false_iff_eq.mpr c26
            clear c26
            (first | rw [c26b0] | (simp only [i64_w,i32_w]; rw [c26b0]) | skip)
            have H':=Aside0.mk H
            clear H
            go_wp2
            go_meet
            case rel=>exact ⟨_,((x14_2 == 7)),(by first | rfl | (simp; done) | (simp [*]; done)),H',⟨by have:=HK1.out; have:=HK2.out; first | omega | exact Nat.le_refl _⟩,⟨by (with_reducible repeat (first | apply Kd.R_alloc | apply Kd.R_drewN | apply Kd.R_drew)); exact HO_10.out⟩,⟨by (with_reducible repeat (first | refine blk_drewN ?_ _ | refine blk_drew ?_ | refine blk_alloc ?_ _)); exact BK260.out⟩,⟨by (with_reducible repeat (first | refine blk_drewN ?_ _ | refine blk_drew ?_ | refine blk_alloc ?_ _)); exact BK264.out⟩,⟨by (with_reducible repeat (first | refine blk_drewN ?_ _ | refine blk_drew ?_ | refine blk_alloc ?_ _)); exact BK273.out⟩,⟨by repeat (first | (with_reducible first | exact HB.out | apply below_alloc | apply pw_below_drewN | apply below_drew1 | refine below_set ?_ GE260.out | refine below_set ?_ GE264.out | refine below_set ?_ GE273.out) | exact HB.out)⟩⟩
           ·rw [if_neg c26] at H
            have c26b0:(a1 == 4)=false:=beq_eq_false_iff_ne.mpr c26
            have c26b1:(a1 != 4)=true:=bne_iff_ne.mpr c26
            (first | rw [c26b0] | (simp only [i64_w,i32_w]; rw [c26b0]) | skip)
            have H':=Aside0.mk H
            clear H
            go_wp2
            go_meet
            case rel=>exact ⟨_,(false),(by first | rfl | (simp; done) | (simp [*]; done)),H',⟨by have:=HK1.out; have:=HK2.out; first | omega | exact Nat.le_refl _⟩,⟨by (with_reducible repeat (first | apply Kd.R_alloc | apply Kd.R_drewN | apply Kd.R_drew)); exact HO_10.out⟩,⟨by (with_reducible repeat (first | refine blk_drewN ?_ _ | refine blk_drew ?_ | refine blk_alloc ?_ _)); exact BK260.out⟩,⟨by (with_reducible repeat (first | refine blk_drewN ?_ _ | refine blk_drew ?_ | refine blk_alloc ?_ _)); exact BK264.out⟩,⟨by (with_reducible repeat (first | refine blk_drewN ?_ _ | refine blk_drew ?_ | refine blk_alloc ?_ _)); exact BK273.out⟩,⟨by repeat (first | (with_reducible first | exact HB.out | apply below_alloc | apply pw_below_drewN | apply below_drew1 | refine below_set ?_ GE260.out | refine below_set ?_ GE264.out | refine below_set ?_ GE273.out) | exact HB.out)⟩⟩
          case rest=>
           clear HC22
           try clear c1
           try clear c2
           try clear p2
           try clear q2
           try clear hx2
           try clear c4
           try clear c4b0
           try clear c4b1
           try clear c5
           try clear c8
           try clear c11
           try clear c11b0
           try clear c12
           try clear c12b0
           try clear c14
           try clear c14b0
           try clear c14b1
           try clear c18
           try clear c19
           try clear c21
           try clear c21b0
           try clear c23
           try clear c24
           try clear c26
           try clear c26b0
           try clear c26b1
           try clear p26
           try clear q26
           try clear hx26
           try clear hcz20_0
           try clear hcz20_1
           try clear hcz20_2
           try clear hcz25_0
           try clear hcz25_1
           try clear hcz25_2
           try clear hcz9_0
           try clear hcz9_1
           try clear hfz20_0
           try clear hfz20_1
           try clear hfz20_2
           try clear hfz25_0
           try clear hfz25_1
           try clear hfz25_2
           try clear hfz9_0
           try clear hfz9_1
           try clear hx268_0
           try clear p2
           try clear p268
           try clear q2
           try clear q268
           obtain ⟨kq,x62_21,rfl,HA,HJ21,HO_10,BK260,BK264,BK273,HB⟩ :=hcut
           cases kq with
           | zero=>exact absurd HA.out (by simp [complineref18_Parse.j2])
           | succ kj21=>
            have H:=HA.out
            clear HA
            simp only [complineref18_Parse.j2] at H
            by_cases c27:x62_21=true
            ·subst c27
             have H1:((complineref18_with.f kj21 x265000_2 x265001_2 0).bind fun bt274=>(complineref18_Parse.l1 kj21 a0 a1 t265 x11_1 (wrap64 (x14_2+t271)) bt274.1 bt274.2 t269 t270 t271))=some (r1,r2,r3):=by rw [if_pos rfl] at H; exact H
             clear H
             have H:=H1
             clear H1
             replace H:=Option.bind_eq_some_iff.mp H
             obtain ⟨⟨t274,t275⟩,A280,H⟩ :=H
             replace H:(complineref18_Parse.l1 kj21 a0 a1 t265 x11_1 (wrap64 (x14_2+t271)) t274 t275 t269 t270 t271)=some (r1,r2,r3):=H
             have A28:=Aside0.mk A280
             clear A280
             have H':=Aside0.mk H
             clear H
             have hnb29:=NB264_260.out
             have hnc29:=NB260_264.out
             have hnb30:=NB264_273.out
             have hnc30:=NB273_264.out
             have hcz31_0:wc.cell? ⟨gb264,0,none⟩=some (.int .u64 x265000_2):=(blk_cell BK264.out 0).trans rfl
             have hcz31_1:wc.cell? ⟨gb264,1,none⟩=some (.bool x265001_2):=(blk_cell BK264.out 1).trans rfl
             have hfz31_0:=blk_frozen BK264.out 0
             have hfz31_1:=blk_frozen BK264.out 1
             go_wp2_with (first | ((with_reducible refine gate_callee (f:=85) rfl ?_); refine goesL_ (some 64) rfl rfl Tryz.func85 (by kernel_rfl) rfl #[.agg #[.int .u64 x265000_2,.bool x265001_2],.int .i64 0] rfl (by (try simp only [List.map_toArray,List.map_cons,List.map_nil]); first | done | rfl | (simp only [List.length_drop,List.length_take]; rfl)) ?_; (with_reducible refine (complineref18_with.calls kj21 x265000_2 x265001_2 0 t274 t275 _ A28.out).mono ?_); rintro e w32 ⟨rfl,hb⟩; refine ⟨_,rfl,?_⟩; have n0_:=Aside0.mk (Kd.R_below (by (with_reducible repeat (first | apply Kd.R_alloc | apply Kd.R_drewN | apply Kd.R_drew)); exact HO_10.out) hb); have n1_:=Aside0.mk (blk_below (g:=gb260) (o:=.cells #[.int .u64 x261000_1,.bool x261001_1] 24 (0,0)) (by (with_reducible repeat (first | refine blk_drewN ?_ _ | refine blk_drew ?_ | refine blk_alloc ?_ _)); exact BK260.out) hb); have n2_:=Aside0.mk (blk_below (g:=gb264) (o:=.cells #[.int .u64 x265000_2,.bool x265001_2] 24 (0,0)) (by (with_reducible repeat (first | refine blk_drewN ?_ _ | refine blk_drew ?_ | refine blk_alloc ?_ _)); exact BK264.out) hb); have n3_:=Aside0.mk (blk_below (g:=gb273) (o:=.cells #[.int .i64 t269,.int .i64 t270,.int .i64 t271] 118 (0,0)) (by (with_reducible repeat (first | refine blk_drewN ?_ _ | refine blk_drew ?_ | refine blk_alloc ?_ _)); exact BK273.out) hb); have n4_:=Aside0.mk (below_step (by repeat (first | (with_reducible first | exact HB.out | apply below_alloc | apply pw_below_drewN | apply below_drew1 | refine below_set ?_ GE260.out | refine below_set ?_ GE264.out | refine below_set ?_ GE273.out) | exact HB.out)) hb); clear HO_10; clear BK260; clear BK264; clear BK273; clear HB; have HO_10:=n0_; have BK260:=n1_; have BK264:=n2_; have BK273:=n3_; have HB:=n4_; clear n0_ n1_ n2_ n3_ n4_; (try clear hb); (try clear hb2); (try clear hk); (try clear hi); have hcz33_0:w32.cell? ⟨gb264,0,none⟩=some (.int .u64 x265000_2):=(blk_cell BK264.out 0).trans rfl; have hcz33_1:w32.cell? ⟨gb264,1,none⟩=some (.bool x265001_2):=(blk_cell BK264.out 1).trans rfl; have hfz33_0:=blk_frozen BK264.out 0; have hfz33_1:=blk_frozen BK264.out 1; have hnb34:=NB273_260.out; have hnc34:=NB260_273.out; have hcz35_0:w32.cell? ⟨gb273,0,none⟩=some (.int .i64 t269):=(blk_cell BK273.out 0).trans rfl; have hcz35_1:w32.cell? ⟨gb273,1,none⟩=some (.int .i64 t270):=(blk_cell BK273.out 1).trans rfl; have hcz35_2:w32.cell? ⟨gb273,2,none⟩=some (.int .i64 t271):=(blk_cell BK273.out 2).trans rfl; have hfz35_0:=blk_frozen BK273.out 0; have hfz35_1:=blk_frozen BK273.out 1; have hfz35_2:=blk_frozen BK273.out 2))
             go_roundg kj21
             case measure=>have:=HK1.out; have:=HK2.out; have:=HJ21.out; omega
             case rel=>exact ⟨(wrap64 (x14_2+t271)),(t274),(t275),(by first | rfl | (simp; done) | (simp [*]; done)),H',⟨by have:=HK1.out; have:=HK2.out; have:=HJ21.out; omega⟩,⟨by (with_reducible repeat (first | apply Kd.R_alloc | apply Kd.R_drewN | apply Kd.R_drew)); exact Kd.R_mono (Kd.R_far (p:=⟨gb264,1,none⟩) (Kd.R_far (p:=⟨gb264,0,none⟩) (Kd.R_types HO_10.out BK264.out (by decide)) (fun _ hk=>hk.2) (.int .u64 t274)) (fun _ hk=>hk.2) (.bool t275)) (fun _ hk=>trivial)⟩,⟨by (with_reducible repeat (first | refine blk_drewN ?_ _ | refine blk_drew ?_ | refine blk_alloc ?_ _)); refine blk_far ?_ NB260_264.out _; (with_reducible repeat (first | refine blk_drewN ?_ _ | refine blk_drew ?_ | refine blk_alloc ?_ _)); refine blk_far ?_ NB260_264.out _; (with_reducible repeat (first | refine blk_drewN ?_ _ | refine blk_drew ?_ | refine blk_alloc ?_ _)); exact BK260.out⟩,⟨by (with_reducible repeat (first | refine blk_drewN ?_ _ | refine blk_drew ?_ | refine blk_alloc ?_ _)); refine blk_put (cs:=#[.int .u64 t274,.bool x265001_2]) ?_ 1 _ rfl; (with_reducible repeat (first | refine blk_drewN ?_ _ | refine blk_drew ?_ | refine blk_alloc ?_ _)); refine blk_put (cs:=#[.int .u64 x265000_2,.bool x265001_2]) ?_ 0 _ rfl; (with_reducible repeat (first | refine blk_drewN ?_ _ | refine blk_drew ?_ | refine blk_alloc ?_ _)); exact BK264.out⟩,⟨by (with_reducible repeat (first | refine blk_drewN ?_ _ | refine blk_drew ?_ | refine blk_alloc ?_ _)); refine blk_far ?_ NB273_264.out _; (with_reducible repeat (first | refine blk_drewN ?_ _ | refine blk_drew ?_ | refine blk_alloc ?_ _)); refine blk_far ?_ NB273_264.out _; (with_reducible repeat (first | refine blk_drewN ?_ _ | refine blk_drew ?_ | refine blk_alloc ?_ _)); exact BK273.out⟩,⟨by repeat (first | (with_reducible first | exact HB.out | apply below_alloc | apply pw_below_drewN | apply below_drew1 | refine below_set ?_ GE260.out | refine below_set ?_ GE264.out | refine below_set ?_ GE273.out) | exact HB.out)⟩⟩
            ·replace c27:=Bool.eq_false_iff.mpr c27
             subst c27
             have H1:((complineref18_with.f kj21 x265000_2 x265001_2 x14_2).bind fun bt276=>(complineref18_Parse.l1 kj21 a0 a1 t265 x11_1 (wrap64 (x14_2+t271)) bt276.1 bt276.2 t269 t270 t271))=some (r1,r2,r3):=by rw [if_neg (show ¬ (false=true) by decide)] at H; exact H
             clear H
             have H:=H1
             clear H1
             replace H:=Option.bind_eq_some_iff.mp H
             obtain ⟨⟨t276,t277⟩,A360,H⟩ :=H
             replace H:(complineref18_Parse.l1 kj21 a0 a1 t265 x11_1 (wrap64 (x14_2+t271)) t276 t277 t269 t270 t271)=some (r1,r2,r3):=H
             have A36:=Aside0.mk A360
             clear A360
             have H':=Aside0.mk H
             clear H
             have hnb37:=NB264_260.out
             have hnc37:=NB260_264.out
             have hnb38:=NB264_273.out
             have hnc38:=NB273_264.out
             have hcz39_0:wc.cell? ⟨gb264,0,none⟩=some (.int .u64 x265000_2):=(blk_cell BK264.out 0).trans rfl
             have hcz39_1:wc.cell? ⟨gb264,1,none⟩=some (.bool x265001_2):=(blk_cell BK264.out 1).trans rfl
             have hfz39_0:=blk_frozen BK264.out 0
             have hfz39_1:=blk_frozen BK264.out 1
             go_wp2_with (first | ((with_reducible refine gate_callee (f:=85) rfl ?_); refine goesL_ (some 67) rfl rfl Tryz.func85 (by kernel_rfl) rfl #[.agg #[.int .u64 x265000_2,.bool x265001_2],.int .i64 x14_2] rfl (by (try simp only [List.map_toArray,List.map_cons,List.map_nil]); first | done | rfl | (simp only [List.length_drop,List.length_take]; rfl)) ?_; (with_reducible refine (complineref18_with.calls kj21 x265000_2 x265001_2 x14_2 t276 t277 _ A36.out).mono ?_); rintro e w40 ⟨rfl,hb⟩; refine ⟨_,rfl,?_⟩; have n0_:=Aside0.mk (Kd.R_below (by (with_reducible repeat (first | apply Kd.R_alloc | apply Kd.R_drewN | apply Kd.R_drew)); exact HO_10.out) hb); have n1_:=Aside0.mk (blk_below (g:=gb260) (o:=.cells #[.int .u64 x261000_1,.bool x261001_1] 24 (0,0)) (by (with_reducible repeat (first | refine blk_drewN ?_ _ | refine blk_drew ?_ | refine blk_alloc ?_ _)); exact BK260.out) hb); have n2_:=Aside0.mk (blk_below (g:=gb264) (o:=.cells #[.int .u64 x265000_2,.bool x265001_2] 24 (0,0)) (by (with_reducible repeat (first | refine blk_drewN ?_ _ | refine blk_drew ?_ | refine blk_alloc ?_ _)); exact BK264.out) hb); have n3_:=Aside0.mk (blk_below (g:=gb273) (o:=.cells #[.int .i64 t269,.int .i64 t270,.int .i64 t271] 118 (0,0)) (by (with_reducible repeat (first | refine blk_drewN ?_ _ | refine blk_drew ?_ | refine blk_alloc ?_ _)); exact BK273.out) hb); have n4_:=Aside0.mk (below_step (by repeat (first | (with_reducible first | exact HB.out | apply below_alloc | apply pw_below_drewN | apply below_drew1 | refine below_set ?_ GE260.out | refine below_set ?_ GE264.out | refine below_set ?_ GE273.out) | exact HB.out)) hb); clear HO_10; clear BK260; clear BK264; clear BK273; clear HB; have HO_10:=n0_; have BK260:=n1_; have BK264:=n2_; have BK273:=n3_; have HB:=n4_; clear n0_ n1_ n2_ n3_ n4_; (try clear hb); (try clear hb2); (try clear hk); (try clear hi); have hcz41_0:w40.cell? ⟨gb264,0,none⟩=some (.int .u64 x265000_2):=(blk_cell BK264.out 0).trans rfl; have hcz41_1:w40.cell? ⟨gb264,1,none⟩=some (.bool x265001_2):=(blk_cell BK264.out 1).trans rfl; have hfz41_0:=blk_frozen BK264.out 0; have hfz41_1:=blk_frozen BK264.out 1; have hnb42:=NB273_260.out; have hnc42:=NB260_273.out; have hcz43_0:w40.cell? ⟨gb273,0,none⟩=some (.int .i64 t269):=(blk_cell BK273.out 0).trans rfl; have hcz43_1:w40.cell? ⟨gb273,1,none⟩=some (.int .i64 t270):=(blk_cell BK273.out 1).trans rfl; have hcz43_2:w40.cell? ⟨gb273,2,none⟩=some (.int .i64 t271):=(blk_cell BK273.out 2).trans rfl; have hfz43_0:=blk_frozen BK273.out 0; have hfz43_1:=blk_frozen BK273.out 1; have hfz43_2:=blk_frozen BK273.out 2))
             go_roundg kj21
             case measure=>have:=HK1.out; have:=HK2.out; have:=HJ21.out; omega
             case rel=>exact ⟨(wrap64 (x14_2+t271)),(t276),(t277),(by first | rfl | (simp; done) | (simp [*]; done)),H',⟨by have:=HK1.out; have:=HK2.out; have:=HJ21.out; omega⟩,⟨by (with_reducible repeat (first | apply Kd.R_alloc | apply Kd.R_drewN | apply Kd.R_drew)); exact Kd.R_mono (Kd.R_far (p:=⟨gb264,1,none⟩) (Kd.R_far (p:=⟨gb264,0,none⟩) (Kd.R_types HO_10.out BK264.out (by decide)) (fun _ hk=>hk.2) (.int .u64 t276)) (fun _ hk=>hk.2) (.bool t277)) (fun _ hk=>trivial)⟩,⟨by (with_reducible repeat (first | refine blk_drewN ?_ _ | refine blk_drew ?_ | refine blk_alloc ?_ _)); refine blk_far ?_ NB260_264.out _; (with_reducible repeat (first | refine blk_drewN ?_ _ | refine blk_drew ?_ | refine blk_alloc ?_ _)); refine blk_far ?_ NB260_264.out _; (with_reducible repeat (first | refine blk_drewN ?_ _ | refine blk_drew ?_ | refine blk_alloc ?_ _)); exact BK260.out⟩,⟨by (with_reducible repeat (first | refine blk_drewN ?_ _ | refine blk_drew ?_ | refine blk_alloc ?_ _)); refine blk_put (cs:=#[.int .u64 t276,.bool x265001_2]) ?_ 1 _ rfl; (with_reducible repeat (first | refine blk_drewN ?_ _ | refine blk_drew ?_ | refine blk_alloc ?_ _)); refine blk_put (cs:=#[.int .u64 x265000_2,.bool x265001_2]) ?_ 0 _ rfl; (with_reducible repeat (first | refine blk_drewN ?_ _ | refine blk_drew ?_ | refine blk_alloc ?_ _)); exact BK264.out⟩,⟨by (with_reducible repeat (first | refine blk_drewN ?_ _ | refine blk_drew ?_ | refine blk_alloc ?_ _)); refine blk_far ?_ NB273_264.out _; (with_reducible repeat (first | refine blk_drewN ?_ _ | refine blk_drew ?_ | refine blk_alloc ?_ _)); refine blk_far ?_ NB273_264.out _; (with_reducible repeat (first | refine blk_drewN ?_ _ | refine blk_drew ?_ | refine blk_alloc ?_ _)); exact BK273.out⟩,⟨by repeat (first | (with_reducible first | exact HB.out | apply below_alloc | apply pw_below_drewN | apply below_drew1 | refine below_set ?_ GE260.out | refine below_set ?_ GE264.out | refine below_set ?_ GE273.out) | exact HB.out)⟩⟩
         ·rw [if_neg c21] at H
          have c21b0:decide (x14_2≤t270)=false:=decide_eq_false c21
          clear c21
          have H':=Aside0.mk H
          clear H
          have hnb44:=NB273_260.out
          have hnc44:=NB260_273.out
          have hnb45:=NB273_264.out
          have hnc45:=NB264_273.out
          have hcz46_0:wr.cell? ⟨gb273,0,none⟩=some (.int .i64 t269):=(blk_cell BK273.out 0).trans rfl
          have hcz46_1:wr.cell? ⟨gb273,1,none⟩=some (.int .i64 t270):=(blk_cell BK273.out 1).trans rfl
          have hcz46_2:wr.cell? ⟨gb273,2,none⟩=some (.int .i64 t271):=(blk_cell BK273.out 2).trans rfl
          have hfz46_0:=blk_frozen BK273.out 0
          have hfz46_1:=blk_frozen BK273.out 1
          have hfz46_2:=blk_frozen BK273.out 2
          go_wp2
          go_roundg k2
          case measure=>have:=HK1.out; have:=HK2.out; omega
          case rel=>exact ⟨(wrap64 (x11_1+1)),(x261000_1),(x261001_1),(x265000_2),(x265001_2),(by first | rfl | (simp; done) | (simp [*]; done)),H',⟨by have:=HK1.out; have:=HK2.out; omega⟩,⟨by (with_reducible repeat (first | apply Kd.R_alloc | apply Kd.R_drewN | apply Kd.R_drew)); exact HO_10.out⟩,⟨by (with_reducible repeat (first | refine blk_drewN ?_ _ | refine blk_drew ?_ | refine blk_alloc ?_ _)); exact BK260.out⟩,⟨by (with_reducible repeat (first | refine blk_drewN ?_ _ | refine blk_drew ?_ | refine blk_alloc ?_ _)); exact BK264.out⟩,⟨by repeat (first | (with_reducible first | exact HB.out | apply below_alloc | apply pw_below_drewN | apply below_drew1 | refine below_set ?_ GE260.out | refine below_set ?_ GE264.out | refine below_set ?_ GE273.out) | exact HB.out)⟩⟩
      ·rw [if_neg c14] at H
       have c14b0:(t272 == 0)=false:=beq_eq_false_iff_ne.mpr c14
       have c14b1:(t272 != 0)=true:=bne_iff_ne.mpr c14
       simp only [Option.some.injEq,Prod.mk.injEq] at H
       obtain ⟨rfl,rfl,rfl⟩ :=H
       obtain ⟨Ao47,co47,eo47⟩ :=Kd.R_slice HO_10.out
       subst eo47
       have p268:0≤(x11_1:Int):=of_decide_eq_true (by first | (with_reducible assumption) | assumption)
       have q268:x11_1 < (t265.length:Int):=of_decide_eq_true (by first | (with_reducible assumption) | assumption)
       obtain ⟨ad268,e268,hx268_0⟩ :=Kd.at_string (Kd.R_reads' HO_10.out).2.2 x11_1 p268 q268
       cases e268
       replace p268:=eq_true p268
       replace q268:=eq_true q268
       go_wp2_with (first | ((with_reducible refine gate_callee (f:=84) rfl ?_); refine goesL_ (some 40) rfl rfl Tryz.func84 (by kernel_rfl) rfl #[.string (rdOf ByteArray.empty t265 x11_1),.int .i64 a1] rfl (by (try simp only [List.map_toArray,List.map_cons,List.map_nil]); first | done | rfl | (simp only [List.length_drop,List.length_take]; rfl)) ?_; (with_reducible refine (complineref18_Item.calls k1 (rdOf ByteArray.empty t265 x11_1) a1 t269 t270 t271 t272 _ A13.out).mono ?_); rintro e w48 ⟨rfl,hb⟩; refine ⟨_,rfl,?_⟩; have n0_:=Aside0.mk (Kd.R_below (by (with_reducible repeat (first | apply Kd.R_alloc | apply Kd.R_drewN | apply Kd.R_drew)); exact HO_10.out) hb); have n1_:=Aside0.mk (blk_below (g:=gb260) (o:=.cells #[.int .u64 x261000_1,.bool x261001_1] 24 (0,0)) (by (with_reducible repeat (first | refine blk_drewN ?_ _ | refine blk_drew ?_ | refine blk_alloc ?_ _)); exact BK260.out) hb); have n2_:=Aside0.mk (blk_below (g:=gb264) (o:=.cells #[.int .u64 x265000_1,.bool x265001_1] 24 (0,0)) (by (with_reducible repeat (first | refine blk_drewN ?_ _ | refine blk_drew ?_ | refine blk_alloc ?_ _)); exact BK264.out) hb); have n3_:=Aside0.mk (below_step (by repeat (first | (with_reducible first | exact HB.out | apply below_alloc | apply pw_below_drewN | apply below_drew1 | refine below_set ?_ GE260.out | refine below_set ?_ GE264.out) | exact HB.out)) hb); clear HO_10; clear BK260; clear BK264; clear HB; have HO_10:=n0_; have BK260:=n1_; have BK264:=n2_; have HB:=n3_; clear n0_ n1_ n2_ n3_; (try clear hb); (try clear hb2); (try clear hk); (try clear hi)) | ((with_reducible refine gate_dst (N:=12) rfl ?_); refine box_event ?hg (N:=12) ?hd (cs:=#[.int .i64 0,.int .i64 0,.int .i64 0]) (t:=118) ?hr ?_; (case hd=>rfl); (case hg=>rfl); (case hr=>first | (go_simp; done) | (go_simp; rfl)); intro gb273 hg w49 hbox hb; have n0_:=Aside0.mk (Kd.R_below (by (with_reducible repeat (first | apply Kd.R_alloc | apply Kd.R_drewN | apply Kd.R_drew)); exact HO_10.out) hb); have n1_:=Aside0.mk (blk_below (g:=gb260) (o:=.cells #[.int .u64 x261000_1,.bool x261001_1] 24 (0,0)) (by (with_reducible repeat (first | refine blk_drewN ?_ _ | refine blk_drew ?_ | refine blk_alloc ?_ _)); exact BK260.out) hb); have n2_:=Aside0.mk (blk_below (g:=gb264) (o:=.cells #[.int .u64 x265000_1,.bool x265001_1] 24 (0,0)) (by (with_reducible repeat (first | refine blk_drewN ?_ _ | refine blk_drew ?_ | refine blk_alloc ?_ _)); exact BK264.out) hb); have n3_:=Aside0.mk (below_step (by repeat (first | (with_reducible first | exact HB.out | apply below_alloc | apply pw_below_drewN | apply below_drew1 | refine below_set ?_ GE260.out | refine below_set ?_ GE264.out) | exact HB.out)) hb); have n4_:=Aside0.mk (hbox); have n5_:=Aside0.mk ((by rw [hg]; exact (below_size (by repeat (first | (with_reducible first | exact HB.out | apply below_alloc | apply pw_below_drewN | apply below_drew1 | refine below_set ?_ GE260.out | refine below_set ?_ GE264.out) | exact HB.out))):w.heap.size≤gb273)); have n6_:=Aside0.mk ((by rw [hg]; exact (below_size (by repeat (first | (with_reducible first | exact HB.out | apply below_alloc | apply pw_below_drewN | apply below_drew1 | refine below_set ?_ GE260.out | refine below_set ?_ GE264.out) | exact HB.out))):w.heap.size≤gb273)); have n7_:=Aside0.mk ((by rw [hg]; exact Nat.ne_of_lt (blk_lt (g:=gb260) (o:=.cells #[.int .u64 x261000_1,.bool x261001_1] 24 (0,0)) (by (with_reducible repeat (first | refine blk_drewN ?_ _ | refine blk_drew ?_ | refine blk_alloc ?_ _)); exact BK260.out)):gb260≠gb273)); have n8_:=Aside0.mk ((by rw [hg]; exact Nat.ne_of_gt (blk_lt (g:=gb260) (o:=.cells #[.int .u64 x261000_1,.bool x261001_1] 24 (0,0)) (by (with_reducible repeat (first | refine blk_drewN ?_ _ | refine blk_drew ?_ | refine blk_alloc ?_ _)); exact BK260.out)):gb273≠gb260)); have n9_:=Aside0.mk ((by rw [hg]; exact Nat.ne_of_lt (blk_lt (g:=gb264) (o:=.cells #[.int .u64 x265000_1,.bool x265001_1] 24 (0,0)) (by (with_reducible repeat (first | refine blk_drewN ?_ _ | refine blk_drew ?_ | refine blk_alloc ?_ _)); exact BK264.out)):gb264≠gb273)); have n10_:=Aside0.mk ((by rw [hg]; exact Nat.ne_of_gt (blk_lt (g:=gb264) (o:=.cells #[.int .u64 x265000_1,.bool x265001_1] 24 (0,0)) (by (with_reducible repeat (first | refine blk_drewN ?_ _ | refine blk_drew ?_ | refine blk_alloc ?_ _)); exact BK264.out)):gb273≠gb264)); clear HO_10; clear BK260; clear BK264; clear HB; have HO_10:=n0_; have BK260:=n1_; have BK264:=n2_; have HB:=n3_; have BK273:=n4_; have GW273:=n5_; have GE273:=n6_; have NB260_273:=n7_; have NB273_260:=n8_; have NB264_273:=n9_; have NB273_264:=n10_; clear n0_ n1_ n2_ n3_ n4_ n5_ n6_ n7_ n8_ n9_ n10_; clear hb hbox hg; have hnb50:=NB273_260.out; have hnc50:=NB260_273.out; have hnb51:=NB273_264.out; have hnc51:=NB264_273.out; have hcz52_0:w49.cell? ⟨gb273,0,none⟩=some (.int .i64 0):=(blk_cell BK273.out 0).trans rfl; have hcz52_1:w49.cell? ⟨gb273,1,none⟩=some (.int .i64 0):=(blk_cell BK273.out 1).trans rfl; have hcz52_2:w49.cell? ⟨gb273,2,none⟩=some (.int .i64 0):=(blk_cell BK273.out 2).trans rfl; have hfz52_0:=blk_frozen BK273.out 0; have hfz52_1:=blk_frozen BK273.out 1; have hfz52_2:=blk_frozen BK273.out 2; have hnb53:=NB260_264.out; have hnc53:=NB264_260.out; have hcz54_0:w49.cell? ⟨gb260,0,none⟩=some (.int .u64 x261000_1):=(blk_cell BK260.out 0).trans rfl; have hcz54_1:w49.cell? ⟨gb260,1,none⟩=some (.bool x261001_1):=(blk_cell BK260.out 1).trans rfl; have hfz54_0:=blk_frozen BK260.out 0; have hfz54_1:=blk_frozen BK260.out 1))
       refine bodyPost_ret (results_ct rfl _ _ gb260 24 #[.int .u64 0,.bool false] (0,0) _ rfl (by (with_reducible repeat (first | refine blk_drewN ?_ _ | refine blk_drew ?_ | refine blk_alloc ?_ _)); refine blk_put (cs:=#[.int .u64 0,.bool x261001_1]) ?_ 1 _ rfl; (with_reducible repeat (first | refine blk_drewN ?_ _ | refine blk_drew ?_ | refine blk_alloc ?_ _)); refine blk_put (cs:=#[.int .u64 x261000_1,.bool x261001_1]) ?_ 0 _ rfl; (with_reducible repeat (first | refine blk_drewN ?_ _ | refine blk_drew ?_ | refine blk_alloc ?_ _)); refine blk_far ?_ NB260_273.out _; (with_reducible repeat (first | refine blk_drewN ?_ _ | refine blk_drew ?_ | refine blk_alloc ?_ _)); refine blk_far ?_ NB260_273.out _; (with_reducible repeat (first | refine blk_drewN ?_ _ | refine blk_drew ?_ | refine blk_alloc ?_ _)); refine blk_far ?_ NB260_273.out _; (with_reducible repeat (first | refine blk_drewN ?_ _ | refine blk_drew ?_ | refine blk_alloc ?_ _)); exact BK260.out) Tryz.underlying24 rfl (by kernel_rfl)) rfl ?_
       exact ⟨by first | rfl | (simp [errW_none,errW_some] <;> rfl) | (simp [*,errW_none,errW_some] <;> rfl),by repeat (first | (with_reducible first | exact HB.out | apply below_alloc | apply pw_below_drewN | apply below_drew1 | refine below_set ?_ GE260.out | refine below_set ?_ GE264.out | refine below_set ?_ GE273.out) | exact HB.out)⟩
     ·rw [if_neg c12] at H
      exact absurd H (by simp)
    ·rw [if_neg c11] at H
     have c11b0:decide (x11_1 < (t265.length:Int))=false:=decide_eq_false c11
     clear c11
     simp only [Option.some.injEq,Prod.mk.injEq] at H
     obtain ⟨rfl,rfl,rfl⟩ :=H
     obtain ⟨Ao55,co55,eo55⟩ :=Kd.R_slice HO_10.out
     subst eo55
     have hnb56:=NB264_260.out
     have hnc56:=NB260_264.out
     have hcz57_0:wr.cell? ⟨gb264,0,none⟩=some (.int .u64 x265000_1):=(blk_cell BK264.out 0).trans rfl
     have hcz57_1:wr.cell? ⟨gb264,1,none⟩=some (.bool x265001_1):=(blk_cell BK264.out 1).trans rfl
     have hfz57_0:=blk_frozen BK264.out 0
     have hfz57_1:=blk_frozen BK264.out 1
     have hcz58_0:wr.cell? ⟨gb260,0,none⟩=some (.int .u64 x261000_1):=(blk_cell BK260.out 0).trans rfl
     have hcz58_1:wr.cell? ⟨gb260,1,none⟩=some (.bool x261001_1):=(blk_cell BK260.out 1).trans rfl
     have hfz58_0:=blk_frozen BK260.out 0
     have hfz58_1:=blk_frozen BK260.out 1
     go_wp2
     refine bodyPost_ret (results_ct rfl _ _ gb260 24 #[.int .u64 x265000_1,.bool (a0.toList == ([42]:List UInt8))] (0,0) _ rfl (by (with_reducible repeat (first | refine blk_drewN ?_ _ | refine blk_drew ?_ | refine blk_alloc ?_ _)); refine blk_put (cs:=#[.int .u64 x265000_1,.bool x261001_1]) ?_ 1 _ rfl; (with_reducible repeat (first | refine blk_drewN ?_ _ | refine blk_drew ?_ | refine blk_alloc ?_ _)); refine blk_put (cs:=#[.int .u64 x261000_1,.bool x261001_1]) ?_ 0 _ rfl; (with_reducible repeat (first | refine blk_drewN ?_ _ | refine blk_drew ?_ | refine blk_alloc ?_ _)); exact BK260.out) Tryz.underlying24 rfl (by kernel_rfl)) rfl ?_
     exact ⟨by first | rfl | (simp [errW_none,errW_some] <;> rfl) | (simp [*,errW_none,errW_some] <;> rfl),by repeat (first | (with_reducible first | exact HB.out | apply below_alloc | apply pw_below_drewN | apply below_drew1 | refine below_set ?_ GE260.out | refine below_set ?_ GE264.out) | exact HB.out)⟩
 ·rw [if_neg c4] at H
  have c4b0:(t263 == 0)=false:=beq_eq_false_iff_ne.mpr c4
  have c4b1:(t263 != 0)=true:=bne_iff_ne.mpr c4
  simp only [Option.some.injEq,Prod.mk.injEq] at H
  obtain ⟨rfl,rfl,rfl⟩ :=H
  go_enter Tryz.func56,Tryz.ntmps56
  go_wp2_with (first | ((with_reducible refine gate_dst (N:=4) rfl ?_); refine box_event ?hg (N:=4) ?hd (cs:=#[.int .u64 0,.bool false]) (t:=24) ?hr ?_; (case hd=>rfl); (case hg=>rfl); (case hr=>first | (go_simp; done) | (go_simp; rfl)); intro gb260 hg w59 hbox hb; have n0_:=Aside0.mk (below_step (by repeat (first | (with_reducible first | exact HB.out | apply below_alloc | apply pw_below_drewN | apply below_drew1) | exact HB.out)) hb); have n1_:=Aside0.mk (hbox); have n2_:=Aside0.mk ((by rw [hg]; exact (below_size (by repeat (first | (with_reducible first | exact HB.out | apply below_alloc | apply pw_below_drewN | apply below_drew1) | exact HB.out))):w.heap.size≤gb260)); have n3_:=Aside0.mk ((by rw [hg]; exact (below_size (by repeat (first | (with_reducible first | exact HB.out | apply below_alloc | apply pw_below_drewN | apply below_drew1) | exact HB.out))):w.heap.size≤gb260)); clear HB; have HB:=n0_; have BK260:=n1_; have GW260:=n2_; have GE260:=n3_; clear n0_ n1_ n2_ n3_; clear hb hbox hg) | ((with_reducible refine gate_callee (f:=51) rfl ?_); refine goesL_ (some 17) rfl rfl Tryz.func51 (by kernel_rfl) rfl #[.int .i64 a1] rfl (by (try simp only [List.map_toArray,List.map_cons,List.map_nil]); first | done | rfl | (simp only [List.length_drop,List.length_take]; rfl)) ?_; (with_reducible refine (complineref18_limits.calls a1 t261 t262 t263 _ A3.out).mono ?_); rintro e w' ⟨rfl,⟨nd,rfl⟩⟩; refine ⟨_,rfl,?_⟩; (try (rw [drewN_self w59]; generalize hq_:World.drewN w59 _=w59; have n0_:Aside0 (w59.heap[gb260]?=some (.cells #[.int .u64 0,.bool false] 24 (0,0))):=⟨by rw [← hq_]; exact (by (with_reducible repeat (first | refine blk_drewN ?_ _ | refine blk_drew ?_ | refine blk_alloc ?_ _)); exact BK260.out)⟩; have n1_:Aside0 (Below w.heap.size w w59):=⟨by rw [← hq_]; exact (by repeat (first | (with_reducible first | exact HB.out | apply below_alloc | apply pw_below_drewN | apply below_drew1 | refine below_set ?_ GE260.out) | exact HB.out))⟩; clear BK260 HB hq_; have BK260:=n0_; have HB:=n1_; clear n0_ n1_)); have hcz60_0:w59.cell? ⟨gb260,0,none⟩=some (.int .u64 0):=(blk_cell BK260.out 0).trans rfl; have hcz60_1:w59.cell? ⟨gb260,1,none⟩=some (.bool false):=(blk_cell BK260.out 1).trans rfl; have hfz60_0:=blk_frozen BK260.out 0; have hfz60_1:=blk_frozen BK260.out 1))
  refine bodyPost_ret (results_ct rfl _ _ gb260 24 #[.int .u64 0,.bool false] (0,0) _ rfl (by (with_reducible repeat (first | refine blk_drewN ?_ _ | refine blk_drew ?_ | refine blk_alloc ?_ _)); refine blk_put (cs:=#[.int .u64 0,.bool false]) ?_ 1 _ rfl; (with_reducible repeat (first | refine blk_drewN ?_ _ | refine blk_drew ?_ | refine blk_alloc ?_ _)); refine blk_put (cs:=#[.int .u64 0,.bool false]) ?_ 0 _ rfl; (with_reducible repeat (first | refine blk_drewN ?_ _ | refine blk_drew ?_ | refine blk_alloc ?_ _)); exact BK260.out) Tryz.underlying24 rfl (by kernel_rfl)) rfl ?_
  exact ⟨by first | rfl | (simp [errW_none,errW_some] <;> rfl) | (simp [*,errW_none,errW_some] <;> rfl),by repeat (first | (with_reducible first | exact HB.out | apply below_alloc | apply pw_below_drewN | apply below_drew1 | refine below_set ?_ GE260.out) | exact HB.out)⟩
end Go.Proofs.YtcmmmlenaahaeaaGreatDoor.PShw
