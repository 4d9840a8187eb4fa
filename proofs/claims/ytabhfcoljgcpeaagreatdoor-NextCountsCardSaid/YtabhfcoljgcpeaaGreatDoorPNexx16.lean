-- Written by a program of this session (gprint.py) over the kit's print.
import Derived.Test.YtabhfcoljgcpeaaGreatDoorPNexx0
import Derived.Test.YtabhfcoljgcpeaaGreatDoorPNexx1
import Derived.Test.YtabhfcoljgcpeaaGreatDoorPNexx8
import Derived.Test.YtabhfcoljgcpeaaGreatDoorPNexx13
import Derived.Test.YtabhfcoljgcpeaaGreatDoorPNexx14
import Derived.Test.YtabhfcoljgcpeaaGreatDoorPNexx15
namespace Go.Proofs.YtabhfcoljgcpeaaGreatDoor.PNex
open Go.RowKit Go.Proofs.YtabhfcoljgcpeaaGreatDoorW.PrintWords Go.Proofs.YtabhfcoljgcpeaaGreatDoorW.PrintLast Go.Proofs.YtabhfcoljgcpeaaGreatDoorW.PrintMore
attribute [local go_sem] max2_int min2_int max_two min_two max_three min_three max_four min_four
set_option linter.unusedVariables false
set_option linter.unusedSimpArgs false
def complineref22_times.l0:Nat→Int→Int→Int→Int→Bool→Int→Bool→Int→Bool→Int→Bool→Int→Bool→Option (Int)
 | 0,_,_,_,_,_,_,_,_,_,_,_,_,_=>none
 | k+1,x2,x7,x8,x224000,x224001,x224002,x224003,x224004,x224005,x224006,x224007,x224008,x224009=>if x8 < x2 then ((complineref22_at.f k x224000 x224001 x224002 x224003 x224004 x224005 x224006 x224007 x224008 x224009 x8).bind fun t224=>(if t224=true then (complineref22_times.l0 k x2 (wrap64 (x7+1)) (wrap64 (x8+1)) x224000 x224001 x224002 x224003 x224004 x224005 x224006 x224007 x224008 x224009) else (complineref22_times.l0 k x2 x7 (wrap64 (x8+1)) x224000 x224001 x224002 x224003 x224004 x224005 x224006 x224007 x224008 x224009))) else (some x7)
def complineref22_times.f (k:Nat)(a0_0:Int)(a0_1:Bool)(a0_2:Int)(a0_3:Bool)(a0_4:Int)(a0_5:Bool)(a0_6:Int)(a0_7:Bool)(a0_8:Int)(a0_9:Bool)(a1:Int)(a2:Int):Option (Int):=complineref22_times.l0 k a2 0 a1 a0_0 a0_1 a0_2 a0_3 a0_4 a0_5 a0_6 a0_7 a0_8 a0_9
set_option maxHeartbeats 8000000 in
set_option maxRecDepth 100000 in
theorem complineref22_times.calls (k:Nat)(a0_0:Int)(a0_1:Bool)(a0_2:Int)(a0_3:Bool)(a0_4:Int)(a0_5:Bool)(a0_6:Int)(a0_7:Bool)(a0_8:Int)(a0_9:Bool)(a1:Int)(a2:Int)(r:Int)(w:World)(h:complineref22_times.f k a0_0 a0_1 a0_2 a0_3 a0_4 a0_5 a0_6 a0_7 a0_8 a0_9 a1 a2=some r) :
  Calls Tryz.prog 35 #[.agg #[.int .u64 a0_0,.bool a0_1,.int .u64 a0_2,.bool a0_3,.int .u64 a0_4,.bool a0_5,.int .u64 a0_6,.bool a0_7,.int .u64 a0_8,.bool a0_9],.int .i64 a1,.int .i64 a2] w fun e w'=>e=.returned (.int .i64 r)∧Below w.heap.size w w':=by
 have hu26:=Tryz.underlying26
 have HB:=Aside0.mk (Below.refl w.heap.size w)
 have H:(complineref22_times.l0 k a2 0 a1 a0_0 a0_1 a0_2 a0_3 a0_4 a0_5 a0_6 a0_7 a0_8 a0_9)=some r:=h
 clear h
 have H':=Aside0.mk H
 clear H
 go_enter Tryz.func35,Tryz.ntmps35
 go_wp2_with (first | ((with_reducible refine gate_dst (N:=3) rfl ?_); refine box_event ?hg (N:=3) ?hd (cs:=#[.int .u64 a0_0,.bool a0_1,.int .u64 a0_2,.bool a0_3,.int .u64 a0_4,.bool a0_5,.int .u64 a0_6,.bool a0_7,.int .u64 a0_8,.bool a0_9]) (t:=26) ?hr ?_; (case hd=>rfl); (case hg=>rfl); (case hr=>first | (go_simp; done) | (go_simp; rfl)); intro gb223 hg w4 hbox hb; have n0_:=Aside0.mk (below_step (by repeat (first | (with_reducible first | exact HB.out | apply below_alloc | apply pw_below_drewN | apply below_drew1) | exact HB.out)) hb); have n1_:=Aside0.mk (hbox); have n2_:=Aside0.mk ((by rw [hg]; exact (below_size (by repeat (first | (with_reducible first | exact HB.out | apply below_alloc | apply pw_below_drewN | apply below_drew1) | exact HB.out))):w.heap.size≤gb223)); have n3_:=Aside0.mk ((by rw [hg]; exact (below_size (by repeat (first | (with_reducible first | exact HB.out | apply below_alloc | apply pw_below_drewN | apply below_drew1) | exact HB.out))):w.heap.size≤gb223)); clear HB; have HB:=n0_; have BK223:=n1_; have GW223:=n2_; have GE223:=n3_; clear n0_ n1_ n2_ n3_; clear hb hbox hg))
 go_loopg [7,8] k (fun kq v7 v8 w'=>∃ (x7_1:Int) (x8_1:Int),v7=.int .i64 x7_1∧v8=.int .i64 x8_1∧Aside0 (complineref22_times.l0 kq a2 x7_1 x8_1 a0_0 a0_1 a0_2 a0_3 a0_4 a0_5 a0_6 a0_7 a0_8 a0_9=some r)∧Aside0 (kq≤k)∧Aside0 (w'.heap[gb223]?=some (.cells #[.int .u64 a0_0,.bool a0_1,.int .u64 a0_2,.bool a0_3,.int .u64 a0_4,.bool a0_5,.int .u64 a0_6,.bool a0_7,.int .u64 a0_8,.bool a0_9] 26 (0,0)))∧Aside0 (Below w.heap.size w w'))
 case atStart=>exact ⟨(0),(a1),(by first | rfl | (simp; done) | (simp [*]; done)),(by first | rfl | (simp; done) | (simp [*]; done)),H',⟨Nat.le_refl _⟩,⟨by (with_reducible repeat (first | refine blk_drewN ?_ _ | refine blk_drew ?_ | refine blk_alloc ?_ _)); exact BK223.out⟩,⟨by repeat (first | (with_reducible first | exact HB.out | apply below_alloc | apply pw_below_drewN | apply below_drew1 | refine below_set ?_ GE223.out) | exact HB.out)⟩⟩
 case round=>
  clear H'
  try clear p2
  try clear c3
  obtain ⟨x7_1,x8_1,rfl,rfl,HA,HK1,BK223,HB⟩ :=hrel
  cases gk with
  | zero=>exact absurd HA.out (by simp [complineref22_times.l0])
  | succ k1=>
   have H:=HA.out
   clear HA
   simp only [complineref22_times.l0] at H
   by_cases c5:x8_1 < a2
   ·rw [if_pos c5] at H
    have c5b0:decide (x8_1 < a2)=true:=decide_eq_true c5
    clear c5
    replace H:=Option.bind_eq_some_iff.mp H
    obtain ⟨t224,A60,H⟩ :=H
    replace H:(if t224=true then (complineref22_times.l0 k1 a2 (wrap64 (x7_1+1)) (wrap64 (x8_1+1)) a0_0 a0_1 a0_2 a0_3 a0_4 a0_5 a0_6 a0_7 a0_8 a0_9) else (complineref22_times.l0 k1 a2 x7_1 (wrap64 (x8_1+1)) a0_0 a0_1 a0_2 a0_3 a0_4 a0_5 a0_6 a0_7 a0_8 a0_9))=some r:=H
    have A6:=Aside0.mk A60
    clear A60
    by_cases c7:t224=true
    ·subst c7
     have H1:(complineref22_times.l0 k1 a2 (wrap64 (x7_1+1)) (wrap64 (x8_1+1)) a0_0 a0_1 a0_2 a0_3 a0_4 a0_5 a0_6 a0_7 a0_8 a0_9)=some r:=by rw [if_pos rfl] at H; exact H
     clear H
     have H:=H1
     clear H1
     have H':=Aside0.mk H
     clear H
     have hcz8_0:wr.cell? ⟨gb223,0,none⟩=some (.int .u64 a0_0):=(blk_cell BK223.out 0).trans rfl
     have hcz8_1:wr.cell? ⟨gb223,1,none⟩=some (.bool a0_1):=(blk_cell BK223.out 1).trans rfl
     have hcz8_2:wr.cell? ⟨gb223,2,none⟩=some (.int .u64 a0_2):=(blk_cell BK223.out 2).trans rfl
     have hcz8_3:wr.cell? ⟨gb223,3,none⟩=some (.bool a0_3):=(blk_cell BK223.out 3).trans rfl
     have hcz8_4:wr.cell? ⟨gb223,4,none⟩=some (.int .u64 a0_4):=(blk_cell BK223.out 4).trans rfl
     have hcz8_5:wr.cell? ⟨gb223,5,none⟩=some (.bool a0_5):=(blk_cell BK223.out 5).trans rfl
     have hcz8_6:wr.cell? ⟨gb223,6,none⟩=some (.int .u64 a0_6):=(blk_cell BK223.out 6).trans rfl
     have hcz8_7:wr.cell? ⟨gb223,7,none⟩=some (.bool a0_7):=(blk_cell BK223.out 7).trans rfl
     have hcz8_8:wr.cell? ⟨gb223,8,none⟩=some (.int .u64 a0_8):=(blk_cell BK223.out 8).trans rfl
     have hcz8_9:wr.cell? ⟨gb223,9,none⟩=some (.bool a0_9):=(blk_cell BK223.out 9).trans rfl
     have hfz8_0:=blk_frozen BK223.out 0
     have hfz8_1:=blk_frozen BK223.out 1
     have hfz8_2:=blk_frozen BK223.out 2
     have hfz8_3:=blk_frozen BK223.out 3
     have hfz8_4:=blk_frozen BK223.out 4
     have hfz8_5:=blk_frozen BK223.out 5
     have hfz8_6:=blk_frozen BK223.out 6
     have hfz8_7:=blk_frozen BK223.out 7
     have hfz8_8:=blk_frozen BK223.out 8
     have hfz8_9:=blk_frozen BK223.out 9
     go_wp2_with (first | ((with_reducible refine gate_callee (f:=28) rfl ?_); refine goesL_ (some 18) rfl rfl Tryz.func28 (by kernel_rfl) rfl #[.agg #[.int .u64 a0_0,.bool a0_1,.int .u64 a0_2,.bool a0_3,.int .u64 a0_4,.bool a0_5,.int .u64 a0_6,.bool a0_7,.int .u64 a0_8,.bool a0_9],.int .i64 x8_1] rfl (by (try simp only [List.map_toArray,List.map_cons,List.map_nil]); first | done | rfl | (simp only [List.length_drop,List.length_take]; rfl)) ?_; (with_reducible refine (complineref22_at.calls k1 a0_0 a0_1 a0_2 a0_3 a0_4 a0_5 a0_6 a0_7 a0_8 a0_9 x8_1 true _ A6.out).mono ?_); rintro e w9 ⟨rfl,hb⟩; refine ⟨_,rfl,?_⟩; have n0_:=Aside0.mk (blk_below (g:=gb223) (o:=.cells #[.int .u64 a0_0,.bool a0_1,.int .u64 a0_2,.bool a0_3,.int .u64 a0_4,.bool a0_5,.int .u64 a0_6,.bool a0_7,.int .u64 a0_8,.bool a0_9] 26 (0,0)) (by (with_reducible repeat (first | refine blk_drewN ?_ _ | refine blk_drew ?_ | refine blk_alloc ?_ _)); exact BK223.out) hb); have n1_:=Aside0.mk (below_step (by repeat (first | (with_reducible first | exact HB.out | apply below_alloc | apply pw_below_drewN | apply below_drew1 | refine below_set ?_ GE223.out) | exact HB.out)) hb); clear BK223; clear HB; have BK223:=n0_; have HB:=n1_; clear n0_ n1_; (try clear hb); (try clear hb2); (try clear hk); (try clear hi)))
     go_roundg k1
     case measure=>have:=HK1.out; omega
     case rel=>exact ⟨(wrap64 (x7_1+1)),(wrap64 (x8_1+1)),(by first | rfl | (simp; done) | (simp [*]; done)),(by first | rfl | (simp; done) | (simp [*]; done)),H',⟨by have:=HK1.out; omega⟩,⟨by (with_reducible repeat (first | refine blk_drewN ?_ _ | refine blk_drew ?_ | refine blk_alloc ?_ _)); exact BK223.out⟩,⟨by repeat (first | (with_reducible first | exact HB.out | apply below_alloc | apply pw_below_drewN | apply below_drew1 | refine below_set ?_ GE223.out) | exact HB.out)⟩⟩
    ·replace c7:=Bool.eq_false_iff.mpr c7
     subst c7
     have H1:(complineref22_times.l0 k1 a2 x7_1 (wrap64 (x8_1+1)) a0_0 a0_1 a0_2 a0_3 a0_4 a0_5 a0_6 a0_7 a0_8 a0_9)=some r:=by rw [if_neg (show ¬ (false=true) by decide)] at H; exact H
     clear H
     have H:=H1
     clear H1
     have H':=Aside0.mk H
     clear H
     have hcz10_0:wr.cell? ⟨gb223,0,none⟩=some (.int .u64 a0_0):=(blk_cell BK223.out 0).trans rfl
     have hcz10_1:wr.cell? ⟨gb223,1,none⟩=some (.bool a0_1):=(blk_cell BK223.out 1).trans rfl
     have hcz10_2:wr.cell? ⟨gb223,2,none⟩=some (.int .u64 a0_2):=(blk_cell BK223.out 2).trans rfl
     have hcz10_3:wr.cell? ⟨gb223,3,none⟩=some (.bool a0_3):=(blk_cell BK223.out 3).trans rfl
     have hcz10_4:wr.cell? ⟨gb223,4,none⟩=some (.int .u64 a0_4):=(blk_cell BK223.out 4).trans rfl
     have hcz10_5:wr.cell? ⟨gb223,5,none⟩=some (.bool a0_5):=(blk_cell BK223.out 5).trans rfl
     have hcz10_6:wr.cell? ⟨gb223,6,none⟩=some (.int .u64 a0_6):=(blk_cell BK223.out 6).trans rfl
     have hcz10_7:wr.cell? ⟨gb223,7,none⟩=some (.bool a0_7):=(blk_cell BK223.out 7).trans rfl
     have hcz10_8:wr.cell? ⟨gb223,8,none⟩=some (.int .u64 a0_8):=(blk_cell BK223.out 8).trans rfl
     have hcz10_9:wr.cell? ⟨gb223,9,none⟩=some (.bool a0_9):=(blk_cell BK223.out 9).trans rfl
     have hfz10_0:=blk_frozen BK223.out 0
     have hfz10_1:=blk_frozen BK223.out 1
     have hfz10_2:=blk_frozen BK223.out 2
     have hfz10_3:=blk_frozen BK223.out 3
     have hfz10_4:=blk_frozen BK223.out 4
     have hfz10_5:=blk_frozen BK223.out 5
     have hfz10_6:=blk_frozen BK223.out 6
     have hfz10_7:=blk_frozen BK223.out 7
     have hfz10_8:=blk_frozen BK223.out 8
     have hfz10_9:=blk_frozen BK223.out 9
     go_wp2_with (first | ((with_reducible refine gate_callee (f:=28) rfl ?_); refine goesL_ (some 18) rfl rfl Tryz.func28 (by kernel_rfl) rfl #[.agg #[.int .u64 a0_0,.bool a0_1,.int .u64 a0_2,.bool a0_3,.int .u64 a0_4,.bool a0_5,.int .u64 a0_6,.bool a0_7,.int .u64 a0_8,.bool a0_9],.int .i64 x8_1] rfl (by (try simp only [List.map_toArray,List.map_cons,List.map_nil]); first | done | rfl | (simp only [List.length_drop,List.length_take]; rfl)) ?_; (with_reducible refine (complineref22_at.calls k1 a0_0 a0_1 a0_2 a0_3 a0_4 a0_5 a0_6 a0_7 a0_8 a0_9 x8_1 false _ A6.out).mono ?_); rintro e w11 ⟨rfl,hb⟩; refine ⟨_,rfl,?_⟩; have n0_:=Aside0.mk (blk_below (g:=gb223) (o:=.cells #[.int .u64 a0_0,.bool a0_1,.int .u64 a0_2,.bool a0_3,.int .u64 a0_4,.bool a0_5,.int .u64 a0_6,.bool a0_7,.int .u64 a0_8,.bool a0_9] 26 (0,0)) (by (with_reducible repeat (first | refine blk_drewN ?_ _ | refine blk_drew ?_ | refine blk_alloc ?_ _)); exact BK223.out) hb); have n1_:=Aside0.mk (below_step (by repeat (first | (with_reducible first | exact HB.out | apply below_alloc | apply pw_below_drewN | apply below_drew1 | refine below_set ?_ GE223.out) | exact HB.out)) hb); clear BK223; clear HB; have BK223:=n0_; have HB:=n1_; clear n0_ n1_; (try clear hb); (try clear hb2); (try clear hk); (try clear hi)))
     go_roundg k1
     case measure=>have:=HK1.out; omega
     case rel=>exact ⟨(x7_1),(wrap64 (x8_1+1)),(by first | rfl | (simp; done) | (simp [*]; done)),(by first | rfl | (simp; done) | (simp [*]; done)),H',⟨by have:=HK1.out; omega⟩,⟨by (with_reducible repeat (first | refine blk_drewN ?_ _ | refine blk_drew ?_ | refine blk_alloc ?_ _)); exact BK223.out⟩,⟨by repeat (first | (with_reducible first | exact HB.out | apply below_alloc | apply pw_below_drewN | apply below_drew1 | refine below_set ?_ GE223.out) | exact HB.out)⟩⟩
   ·rw [if_neg c5] at H
    have c5b0:decide (x8_1 < a2)=false:=decide_eq_false c5
    clear c5
    obtain rfl:=Option.some.inj H
    go_wp2
    go_ret
    exact ⟨by first | rfl | (simp [errW_none,errW_some] <;> rfl) | (simp [*,errW_none,errW_some] <;> rfl),by repeat (first | (with_reducible first | exact HB.out | apply below_alloc | apply pw_below_drewN | apply below_drew1 | refine below_set ?_ GE223.out) | exact HB.out)⟩
/-! This session's own: the document's Count, walked. -/
set_option maxHeartbeats 8000000 in
set_option maxRecDepth 100000 in
theorem R22.Count_odd (b0:Int)(s0:Bool)(b1:Int)(s1:Bool)(b2:Int)(s2:Bool)(b3:Int)(s3:Bool)(b4:Int)(s4:Bool)(fr tu:Int)(A:complineref22_odd.f 2000 b0 s0 b1 s1 b2 s2 b3 s3 b4 s4=some true)(w:World) :
  Calls Tryz.prog 16 #[.agg #[.int .u64 b0,.bool s0,.int .u64 b1,.bool s1,.int .u64 b2,.bool s2,.int .u64 b3,.bool s3,.int .u64 b4,.bool s4],.int .i64 fr,.int .i64 tu] w fun e w'=>e=.returned (.tuple #[.int .i64 0,.int .i64 2])∧Below w.heap.size w w':=by
 replace A:=Lib.hid A
 have HR:=Aside0.mk (show Spc.Row (w.alloc (.cells #[.int .u64 b0,.bool s0,.int .u64 b1,.bool s1,.int .u64 b2,.bool s2,.int .u64 b3,.bool s3,.int .u64 b4,.bool s4] 26)) w.heap.size b0 s0 b1 s1 b2 s2 b3 s3 b4 s4∧Below w.heap.size w (w.alloc (.cells #[.int .u64 b0,.bool s0,.int .u64 b1,.bool s1,.int .u64 b2,.bool s2,.int .u64 b3,.bool s3,.int .u64 b4,.bool s4] 26)) from ⟨blk_new w _,below_alloc (Below.refl _ _) _⟩)
 go_enter Tryz.func16,Tryz.ntmps16
 go_wp2_with fail
 generalize w.alloc (.cells #[.int .u64 b0,.bool s0,.int .u64 b1,.bool s1,.int .u64 b2,.bool s2,.int .u64 b3,.bool s3,.int .u64 b4,.bool s4] 26)=w1 at HR ⊢
 refine (complineref22_odd.calls 2000 _ _ _ _ _ _ _ _ _ _ _ _ A.out).mono ?_
 rintro e w2 ⟨rfl,hb⟩
 have H2:=Aside0.mk (show Spc.Row w2 w.heap.size b0 s0 b1 s1 b2 s2 b3 s3 b4 s4∧Below w.heap.size w w2 from ⟨blk_below HR.out.1 hb,below_step HR.out.2 hb⟩)
 clear HR hb A
 go_wp2_with fail
 go_ret2
 exact ⟨rfl,H2.out.2⟩
set_option maxHeartbeats 8000000 in
set_option maxRecDepth 100000 in
theorem R22.Count_arga (b0:Int)(s0:Bool)(b1:Int)(s1:Bool)(b2:Int)(s2:Bool)(b3:Int)(s3:Bool)(b4:Int)(s4:Bool)(fr tu:Int)(A:complineref22_odd.f 2000 b0 s0 b1 s1 b2 s2 b3 s3 b4 s4=some false)(hm:fr < 0)(w:World) :
  Calls Tryz.prog 16 #[.agg #[.int .u64 b0,.bool s0,.int .u64 b1,.bool s1,.int .u64 b2,.bool s2,.int .u64 b3,.bool s3,.int .u64 b4,.bool s4],.int .i64 fr,.int .i64 tu] w fun e w'=>e=.returned (.tuple #[.int .i64 0,.int .i64 1])∧Below w.heap.size w w':=by
 have q1:decide (fr < 0)=true:=decide_eq_true hm
 replace A:=Lib.hid A
 have HR:=Aside0.mk (show Spc.Row (w.alloc (.cells #[.int .u64 b0,.bool s0,.int .u64 b1,.bool s1,.int .u64 b2,.bool s2,.int .u64 b3,.bool s3,.int .u64 b4,.bool s4] 26)) w.heap.size b0 s0 b1 s1 b2 s2 b3 s3 b4 s4∧Below w.heap.size w (w.alloc (.cells #[.int .u64 b0,.bool s0,.int .u64 b1,.bool s1,.int .u64 b2,.bool s2,.int .u64 b3,.bool s3,.int .u64 b4,.bool s4] 26)) from ⟨blk_new w _,below_alloc (Below.refl _ _) _⟩)
 go_enter Tryz.func16,Tryz.ntmps16
 go_wp2_with fail
 generalize w.alloc (.cells #[.int .u64 b0,.bool s0,.int .u64 b1,.bool s1,.int .u64 b2,.bool s2,.int .u64 b3,.bool s3,.int .u64 b4,.bool s4] 26)=w1 at HR ⊢
 refine (complineref22_odd.calls 2000 _ _ _ _ _ _ _ _ _ _ _ _ A.out).mono ?_
 rintro e w2 ⟨rfl,hb⟩
 have H2:=Aside0.mk (show Spc.Row w2 w.heap.size b0 s0 b1 s1 b2 s2 b3 s3 b4 s4∧Below w.heap.size w w2 from ⟨blk_below HR.out.1 hb,below_step HR.out.2 hb⟩)
 clear HR hb A
 go_wp2_with fail
 go_ret2
 exact ⟨rfl,H2.out.2⟩
set_option maxHeartbeats 8000000 in
set_option maxRecDepth 100000 in
theorem R22.Count_argb (b0:Int)(s0:Bool)(b1:Int)(s1:Bool)(b2:Int)(s2:Bool)(b3:Int)(s3:Bool)(b4:Int)(s4:Bool)(fr tu:Int)(A:complineref22_odd.f 2000 b0 s0 b1 s1 b2 s2 b3 s3 b4 s4=some false)(hm:0≤fr∧tu < fr)(w:World) :
  Calls Tryz.prog 16 #[.agg #[.int .u64 b0,.bool s0,.int .u64 b1,.bool s1,.int .u64 b2,.bool s2,.int .u64 b3,.bool s3,.int .u64 b4,.bool s4],.int .i64 fr,.int .i64 tu] w fun e w'=>e=.returned (.tuple #[.int .i64 0,.int .i64 1])∧Below w.heap.size w w':=by
 have q1:decide (fr < 0)=false:=decide_eq_false (by omega)
 have q2:decide (tu < fr)=true:=decide_eq_true hm.2
 replace A:=Lib.hid A
 have HR:=Aside0.mk (show Spc.Row (w.alloc (.cells #[.int .u64 b0,.bool s0,.int .u64 b1,.bool s1,.int .u64 b2,.bool s2,.int .u64 b3,.bool s3,.int .u64 b4,.bool s4] 26)) w.heap.size b0 s0 b1 s1 b2 s2 b3 s3 b4 s4∧Below w.heap.size w (w.alloc (.cells #[.int .u64 b0,.bool s0,.int .u64 b1,.bool s1,.int .u64 b2,.bool s2,.int .u64 b3,.bool s3,.int .u64 b4,.bool s4] 26)) from ⟨blk_new w _,below_alloc (Below.refl _ _) _⟩)
 go_enter Tryz.func16,Tryz.ntmps16
 go_wp2_with fail
 generalize w.alloc (.cells #[.int .u64 b0,.bool s0,.int .u64 b1,.bool s1,.int .u64 b2,.bool s2,.int .u64 b3,.bool s3,.int .u64 b4,.bool s4] 26)=w1 at HR ⊢
 refine (complineref22_odd.calls 2000 _ _ _ _ _ _ _ _ _ _ _ _ A.out).mono ?_
 rintro e w2 ⟨rfl,hb⟩
 have H2:=Aside0.mk (show Spc.Row w2 w.heap.size b0 s0 b1 s1 b2 s2 b3 s3 b4 s4∧Below w.heap.size w w2 from ⟨blk_below HR.out.1 hb,below_step HR.out.2 hb⟩)
 clear HR hb A
 go_wp2_with fail
 go_ret2
 exact ⟨rfl,H2.out.2⟩
set_option maxHeartbeats 8000000 in
set_option maxRecDepth 100000 in
theorem R22.Count_argc (b0:Int)(s0:Bool)(b1:Int)(s1:Bool)(b2:Int)(s2:Bool)(b3:Int)(s3:Bool)(b4:Int)(s4:Bool)(fr tu:Int)(A:complineref22_odd.f 2000 b0 s0 b1 s1 b2 s2 b3 s3 b4 s4=some false)(hm:0≤fr∧fr≤tu∧541728000 < tu)(w:World) :
  Calls Tryz.prog 16 #[.agg #[.int .u64 b0,.bool s0,.int .u64 b1,.bool s1,.int .u64 b2,.bool s2,.int .u64 b3,.bool s3,.int .u64 b4,.bool s4],.int .i64 fr,.int .i64 tu] w fun e w'=>e=.returned (.tuple #[.int .i64 0,.int .i64 1])∧Below w.heap.size w w':=by
 have q1:decide (fr < 0)=false:=decide_eq_false (by omega)
 have q2:decide (tu < fr)=false:=decide_eq_false (by omega)
 have q3:decide (541728000 < tu)=true:=decide_eq_true hm.2.2
 replace A:=Lib.hid A
 have HR:=Aside0.mk (show Spc.Row (w.alloc (.cells #[.int .u64 b0,.bool s0,.int .u64 b1,.bool s1,.int .u64 b2,.bool s2,.int .u64 b3,.bool s3,.int .u64 b4,.bool s4] 26)) w.heap.size b0 s0 b1 s1 b2 s2 b3 s3 b4 s4∧Below w.heap.size w (w.alloc (.cells #[.int .u64 b0,.bool s0,.int .u64 b1,.bool s1,.int .u64 b2,.bool s2,.int .u64 b3,.bool s3,.int .u64 b4,.bool s4] 26)) from ⟨blk_new w _,below_alloc (Below.refl _ _) _⟩)
 go_enter Tryz.func16,Tryz.ntmps16
 go_wp2_with fail
 generalize w.alloc (.cells #[.int .u64 b0,.bool s0,.int .u64 b1,.bool s1,.int .u64 b2,.bool s2,.int .u64 b3,.bool s3,.int .u64 b4,.bool s4] 26)=w1 at HR ⊢
 refine (complineref22_odd.calls 2000 _ _ _ _ _ _ _ _ _ _ _ _ A.out).mono ?_
 rintro e w2 ⟨rfl,hb⟩
 have H2:=Aside0.mk (show Spc.Row w2 w.heap.size b0 s0 b1 s1 b2 s2 b3 s3 b4 s4∧Below w.heap.size w w2 from ⟨blk_below HR.out.1 hb,below_step HR.out.2 hb⟩)
 clear HR hb A
 go_wp2_with fail
 go_ret2
 exact ⟨rfl,H2.out.2⟩
set_option maxHeartbeats 8000000 in
set_option maxRecDepth 100000 in
theorem R22.Count_eq (b0:Int)(s0:Bool)(b1:Int)(s1:Bool)(b2:Int)(s2:Bool)(b3:Int)(s3:Bool)(b4:Int)(s4:Bool)(fr tu:Int)(A:complineref22_odd.f 2000 b0 s0 b1 s1 b2 s2 b3 s3 b4 s4=some false)(h0:0≤fr)(h1:fr=tu)(h2:tu≤541728000)(wh:Int)(hW:complineref22_times.f 2000 b0 s0 b1 s1 b2 s2 b3 s3 b4 s4 0 1440=some wh)(w:World) :
  Calls Tryz.prog 16 #[.agg #[.int .u64 b0,.bool s0,.int .u64 b1,.bool s1,.int .u64 b2,.bool s2,.int .u64 b3,.bool s3,.int .u64 b4,.bool s4],.int .i64 fr,.int .i64 tu] w fun e w'=>e=.returned (.tuple #[.int .i64 0,.int .i64 0])∧Below w.heap.size w w':=by
 have q1:decide (fr < 0)=false:=decide_eq_false (by omega)
 have q2:decide (tu < fr)=false:=decide_eq_false (by omega)
 have q3:decide (541728000 < tu)=false:=decide_eq_false (by omega)
 have q4:(fr == tu)=true:=by simpa using h1
 replace h1:=Lib.hid h1
 replace A:=Lib.hid A
 replace hW:=Lib.hid hW
 have HR:=Aside0.mk (show Spc.Row (w.alloc (.cells #[.int .u64 b0,.bool s0,.int .u64 b1,.bool s1,.int .u64 b2,.bool s2,.int .u64 b3,.bool s3,.int .u64 b4,.bool s4] 26)) w.heap.size b0 s0 b1 s1 b2 s2 b3 s3 b4 s4∧Below w.heap.size w (w.alloc (.cells #[.int .u64 b0,.bool s0,.int .u64 b1,.bool s1,.int .u64 b2,.bool s2,.int .u64 b3,.bool s3,.int .u64 b4,.bool s4] 26)) from ⟨blk_new w _,below_alloc (Below.refl _ _) _⟩)
 go_enter Tryz.func16,Tryz.ntmps16
 go_wp2_with fail
 generalize w.alloc (.cells #[.int .u64 b0,.bool s0,.int .u64 b1,.bool s1,.int .u64 b2,.bool s2,.int .u64 b3,.bool s3,.int .u64 b4,.bool s4] 26)=w1 at HR ⊢
 refine (complineref22_odd.calls 2000 _ _ _ _ _ _ _ _ _ _ _ _ A.out).mono ?_
 rintro e w2 ⟨rfl,hb⟩
 have H2:=Aside0.mk (show Spc.Row w2 w.heap.size b0 s0 b1 s1 b2 s2 b3 s3 b4 s4∧Below w.heap.size w w2 from ⟨blk_below HR.out.1 hb,below_step HR.out.2 hb⟩)
 clear HR hb A
 obtain ⟨k0,k1,k2,k3,k4,k5,k6,k7,k8,k9⟩ :=H2.out.1.cells
 go_wp2_with fail
 refine (complineref22_times.calls 2000 _ _ _ _ _ _ _ _ _ _ _ _ _ _ hW.out).mono ?_
 rintro e w3 ⟨rfl,hb⟩
 have H3:=Aside0.mk (show Spc.Row w3 w.heap.size b0 s0 b1 s1 b2 s2 b3 s3 b4 s4∧Below w.heap.size w w3 from ⟨blk_below H2.out.1 hb,below_step H2.out.2 hb⟩)
 clear H2 hb hW k0 k1 k2 k3 k4 k5 k6 k7 k8 k9
 go_wp2_with fail
 go_ret2
 exact ⟨rfl,H3.out.2⟩
set_option maxHeartbeats 8000000 in
set_option maxRecDepth 100000 in
theorem R22.Count_good (b0:Int)(s0:Bool)(b1:Int)(s1:Bool)(b2:Int)(s2:Bool)(b3:Int)(s3:Bool)(b4:Int)(s4:Bool)(fr tu:Int)(A:complineref22_odd.f 2000 b0 s0 b1 s1 b2 s2 b3 s3 b4 s4=some false)(h0:0≤fr)(h1:fr < tu)(h2:tu≤541728000)(wh:Int)(hW:complineref22_times.f 2000 b0 s0 b1 s1 b2 s2 b3 s3 b4 s4 0 1440=some wh)(D0 y0 m0 d0:Int)(hD:complineref22_day.f 2000 (wrap64 (Int.tdiv fr 1440))=some (D0,y0,m0,d0))(r:Int)
  (H:R22.count (fun D y m d=>complineref22_on.f 2000 b0 s0 b1 s1 b2 s2 b3 s3 b4 s4 D y m d) (fun a b=>complineref22_times.f 2000 b0 s0 b1 s1 b2 s2 b3 s3 b4 s4 a b) (fun D y m d=>complineref22_after.f D y m d) fr tu wh 400000 0 D0 y0 m0 d0=some r) (w:World) :
  Calls Tryz.prog 16 #[.agg #[.int .u64 b0,.bool s0,.int .u64 b1,.bool s1,.int .u64 b2,.bool s2,.int .u64 b3,.bool s3,.int .u64 b4,.bool s4],.int .i64 fr,.int .i64 tu] w fun e w'=>e=.returned (.tuple #[.int .i64 r,.int .i64 0])∧Below w.heap.size w w':=by
 have q1:decide (fr < 0)=false:=decide_eq_false (by omega)
 have q2:decide (tu < fr)=false:=decide_eq_false (by omega)
 have q3:decide (541728000 < tu)=false:=decide_eq_false (by omega)
 have q4:(fr == tu)=false:=by simpa using (show fr≠tu by omega)
 obtain ⟨onf,hon⟩:∃ f:Int→Int→Int→Int→Option Bool,(fun D y m d=>complineref22_on.f 2000 b0 s0 b1 s1 b2 s2 b3 s3 b4 s4 D y m d)=f:=⟨_,rfl⟩
 obtain ⟨tms,htm⟩:∃ f:Int→Int→Option Int,(fun a b=>complineref22_times.f 2000 b0 s0 b1 s1 b2 s2 b3 s3 b4 s4 a b)=f:=⟨_,rfl⟩
 obtain ⟨aft,haft⟩:∃ f:Int→Int→Int→Int→Option (Int × Int × Int × Int),(fun D y m d=>complineref22_after.f D y m d)=f:=⟨_,rfl⟩
 rw [hon,htm,haft] at H
 obtain ⟨K0,hK0⟩:∃ k:Nat,400000=k:=⟨_,rfl⟩
 rw [hK0] at H
 clear hK0 h1
 replace A:=Lib.hid A
 replace hW:=Lib.hid hW
 replace hD:=Lib.hid hD
 replace H:=Aside0.mk H
 replace hon:=Lib.hid hon
 replace htm:=Lib.hid htm
 replace haft:=Lib.hid haft
 have HR:=Aside0.mk (show Spc.Row (w.alloc (.cells #[.int .u64 b0,.bool s0,.int .u64 b1,.bool s1,.int .u64 b2,.bool s2,.int .u64 b3,.bool s3,.int .u64 b4,.bool s4] 26)) w.heap.size b0 s0 b1 s1 b2 s2 b3 s3 b4 s4∧Below w.heap.size w (w.alloc (.cells #[.int .u64 b0,.bool s0,.int .u64 b1,.bool s1,.int .u64 b2,.bool s2,.int .u64 b3,.bool s3,.int .u64 b4,.bool s4] 26)) from ⟨blk_new w _,below_alloc (Below.refl _ _) _⟩)
 go_enter Tryz.func16,Tryz.ntmps16
 go_wp2_with fail
 generalize w.alloc (.cells #[.int .u64 b0,.bool s0,.int .u64 b1,.bool s1,.int .u64 b2,.bool s2,.int .u64 b3,.bool s3,.int .u64 b4,.bool s4] 26)=w1 at HR ⊢
 refine (complineref22_odd.calls 2000 _ _ _ _ _ _ _ _ _ _ _ _ A.out).mono ?_
 rintro e w2 ⟨rfl,hb⟩
 have H2:=Aside0.mk (show Spc.Row w2 w.heap.size b0 s0 b1 s1 b2 s2 b3 s3 b4 s4∧Below w.heap.size w w2 from ⟨blk_below HR.out.1 hb,below_step HR.out.2 hb⟩)
 clear HR hb A
 obtain ⟨k0,k1,k2,k3,k4,k5,k6,k7,k8,k9⟩ :=H2.out.1.cells
 go_wp2_with fail
 refine (complineref22_times.calls 2000 _ _ _ _ _ _ _ _ _ _ _ _ _ _ hW.out).mono ?_
 rintro e w3 ⟨rfl,hb⟩
 have H3:=Aside0.mk (show Spc.Row w3 w.heap.size b0 s0 b1 s1 b2 s2 b3 s3 b4 s4∧Below w.heap.size w w3 from ⟨blk_below H2.out.1 hb,below_step H2.out.2 hb⟩)
 clear H2 hb hW k0 k1 k2 k3 k4 k5 k6 k7 k8 k9
 go_wp2_with fail
 refine (complineref22_day.calls 2000 _ _ _ _ _ _ hD.out).mono ?_
 rintro e w3' ⟨rfl,hb⟩
 have H3':=Aside0.mk (show Spc.Row w3' w.heap.size b0 s0 b1 s1 b2 s2 b3 s3 b4 s4∧Below w.heap.size w w3' from ⟨blk_below H3.out.1 hb,below_step H3.out.2 hb⟩)
 clear H3 hb
 have H4:=Aside0.mk (show Spc.Row (w3'.alloc (.cells #[.int .i64 D0,.int .i64 y0,.int .i64 m0,.int .i64 d0] 55)) w.heap.size b0 s0 b1 s1 b2 s2 b3 s3 b4 s4∧Below w.heap.size w (w3'.alloc (.cells #[.int .i64 D0,.int .i64 y0,.int .i64 m0,.int .i64 d0] 55))∧w.heap.size < w3'.heap.size∧(w3'.alloc (.cells #[.int .i64 D0,.int .i64 y0,.int .i64 m0,.int .i64 d0] 55)).heap[w3'.heap.size]?=some (.cells #[.int .i64 D0,.int .i64 y0,.int .i64 m0,.int .i64 d0] 55 (0,0)) from ⟨blk_alloc H3'.out.1 _,below_alloc H3'.out.2 _,blk_lt H3'.out.1,heap_alloc_new _ _⟩)
 go_wp2_with fail
 obtain ⟨gd0,hgd0⟩:∃ g,w3'.heap.size=g:=⟨_,rfl⟩
 rw [hgd0] at H4 ⊢
 generalize w3'.alloc (.cells #[.int .i64 D0,.int .i64 y0,.int .i64 m0,.int .i64 d0] 55)=w4 at H4 ⊢
 clear H3' hgd0
 go_loopg [8,10] K0 (fun kq v8 v10 wr=>∃ (n D y m d:Int) (gd:Nat),v8=.int .i64 n∧v10=.pointer (some ⟨gd,0,none⟩)∧Aside0 (R22.count onf tms aft fr tu wh kq n D y m d=some r)∧Aside0 (Spc.Row wr w.heap.size b0 s0 b1 s1 b2 s2 b3 s3 b4 s4∧Below w.heap.size w wr∧w.heap.size < gd∧wr.heap[gd]?=some (.cells #[.int .i64 D,.int .i64 y,.int .i64 m,.int .i64 d] 55 (0,0))))
 case atStart=>exact ⟨0,D0,y0,m0,d0,gd0,rfl,rfl,H,H4⟩
 case round=>
  clear H H4 hD q1 q2 q3 q4
  obtain ⟨n,D,y,m,d,gd,rfl,rfl,HA,HW⟩ :=hrel
  cases gk with
  | zero=>exact absurd HA.out (by simp [R22.count])
  | succ k1=>
   have H:=HA.out
   clear HA
   rw [R22.count] at H
   have v0:wr.cell? ⟨gd,0,none⟩=some (.int .i64 D):=(blk_cell HW.out.2.2.2 0).trans rfl
   have v1:wr.cell? ⟨gd,1,none⟩=some (.int .i64 y):=(blk_cell HW.out.2.2.2 1).trans rfl
   have v2:wr.cell? ⟨gd,2,none⟩=some (.int .i64 m):=(blk_cell HW.out.2.2.2 2).trans rfl
   have v3:wr.cell? ⟨gd,3,none⟩=some (.int .i64 d):=(blk_cell HW.out.2.2.2 3).trans rfl
   by_cases c1:wrap64 (D*1440) < tu
   ·rw [if_pos c1] at H
    have c1b:decide (wrap64 (D*1440) < tu)=true:=decide_eq_true c1
    clear c1
    obtain ⟨is,A1,H1⟩ :=Option.bind_eq_some_iff.mp H
    clear H
    obtain ⟨n1,A2,HO⟩ :=Option.bind_eq_some_iff.mp H1
    clear H1
    replace A1:Hid (complineref22_on.f 2000 b0 s0 b1 s1 b2 s2 b3 s3 b4 s4 D y m d=some is):=Lib.hid (by rw [← hon.out] at A1; exact A1)
    replace HO:=Aside0.mk HO
    obtain ⟨k0,k1,k2,k3,k4,k5,k6,k7,k8,k9⟩ :=HW.out.1.cells
    replace A2:=Aside0.mk A2
    go_wp2_with fail
    refine (complineref22_on.calls 2000 _ _ _ _ _ _ _ _ _ _ _ _ _ _ _ _ A1.out).mono ?_
    rintro e w5 ⟨rfl,hb⟩
    have H5:=Aside0.mk (show Spc.Row w5 w.heap.size b0 s0 b1 s1 b2 s2 b3 s3 b4 s4∧Below w.heap.size w w5∧w.heap.size < gd∧w5.heap[gd]?=some (.cells #[.int .i64 D,.int .i64 y,.int .i64 m,.int .i64 d] 55 (0,0)) from ⟨blk_below HW.out.1 hb,below_step HW.out.2.1 hb,HW.out.2.2.1,blk_below HW.out.2.2.2 hb⟩)
    clear HW hb A1 k0 k1 k2 k3 k4 k5 k6 k7 k8 k9 v0 v1 v2 v3 c1b
    cases is with
    | false=>
     obtain rfl:n=n1:=by have:=A2.out; rw [if_neg (by decide)] at this; exact Option.some.inj this
     clear A2
     obtain ⟨⟨D1,y1,m1,d1⟩,A4,HN⟩ :=Option.bind_eq_some_iff.mp HO.out
     clear HO
     replace A4:Hid (complineref22_after.f D y m d=some (D1,y1,m1,d1)):=Lib.hid (by rw [← haft.out] at A4; exact A4)
     replace HN:=Aside0.mk HN
     have v0:w5.cell? ⟨gd,0,none⟩=some (.int .i64 D):=(blk_cell H5.out.2.2.2 0).trans rfl
     have v1:w5.cell? ⟨gd,1,none⟩=some (.int .i64 y):=(blk_cell H5.out.2.2.2 1).trans rfl
     have v2:w5.cell? ⟨gd,2,none⟩=some (.int .i64 m):=(blk_cell H5.out.2.2.2 2).trans rfl
     have v3:w5.cell? ⟨gd,3,none⟩=some (.int .i64 d):=(blk_cell H5.out.2.2.2 3).trans rfl
     go_wp2_with fail
     have H7:=Aside0.mk (show Spc.Row (w5.alloc (.cells #[.int .i64 D,.int .i64 y,.int .i64 m,.int .i64 d] 55)) w.heap.size b0 s0 b1 s1 b2 s2 b3 s3 b4 s4∧Below w.heap.size w (w5.alloc (.cells #[.int .i64 D,.int .i64 y,.int .i64 m,.int .i64 d] 55))∧w.heap.size < w5.heap.size∧(w5.alloc (.cells #[.int .i64 D,.int .i64 y,.int .i64 m,.int .i64 d] 55)).heap[w5.heap.size]?=some (.cells #[.int .i64 D,.int .i64 y,.int .i64 m,.int .i64 d] 55 (0,0)) from ⟨blk_alloc H5.out.1 _,below_alloc H5.out.2.1 _,blk_lt H5.out.1,heap_alloc_new _ _⟩)
     clear v0 v1 v2 v3
     obtain ⟨gn,hgn⟩:∃ g,w5.heap.size=g:=⟨_,rfl⟩
     rw [hgn] at H7 ⊢
     generalize w5.alloc (.cells #[.int .i64 D,.int .i64 y,.int .i64 m,.int .i64 d] 55)=w7 at H7 ⊢
     clear H5 hgn
     refine (complineref22_after.calls _ _ _ _ _ _ _ _ _ A4.out).mono ?_
     rintro e w8 ⟨rfl,hb⟩
     have H8:=Aside0.mk (show Spc.Row w8 w.heap.size b0 s0 b1 s1 b2 s2 b3 s3 b4 s4∧Below w.heap.size w w8∧w.heap.size < gn∧w8.heap[gn]?=some (.cells #[.int .i64 D,.int .i64 y,.int .i64 m,.int .i64 d] 55 (0,0)) from ⟨blk_below H7.out.1 hb,below_step H7.out.2.1 hb,H7.out.2.2.1,blk_below H7.out.2.2.2 hb⟩)
     clear H7 hb A4
     have v0:w8.cell? ⟨gn,0,none⟩=some (.int .i64 D):=(blk_cell H8.out.2.2.2 0).trans rfl
     have v1:w8.cell? ⟨gn,1,none⟩=some (.int .i64 y):=(blk_cell H8.out.2.2.2 1).trans rfl
     have v2:w8.cell? ⟨gn,2,none⟩=some (.int .i64 m):=(blk_cell H8.out.2.2.2 2).trans rfl
     have v3:w8.cell? ⟨gn,3,none⟩=some (.int .i64 d):=(blk_cell H8.out.2.2.2 3).trans rfl
     have f0:=blk_frozen H8.out.2.2.2 0
     have f1:=blk_frozen H8.out.2.2.2 1
     have f2:=blk_frozen H8.out.2.2.2 2
     have f3:=blk_frozen H8.out.2.2.2 3
     go_wp2_with fail
     go_roundg k1
     case measure=>exact Nat.lt_succ_self _
     case rel=>
      have hg:=H8.out.2.2.1
      have hne:w.heap.size≠gn:=by omega
      refine ⟨n,D1,y1,m1,d1,gn,rfl,rfl,HN,⟨?_,?_,hg,?_⟩⟩
      ·exact (Below.heap_setCell _ _ _ _ hne).trans ((Below.heap_setCell _ _ _ _ hne).trans ((Below.heap_setCell _ _ _ _ hne).trans ((Below.heap_setCell _ _ _ _ hne).trans H8.out.1)))
      ·exact below_set (below_set (below_set (below_set H8.out.2.1 (by omega)) (by omega)) (by omega)) (by omega)
      ·exact blk_put (blk_put (blk_put (blk_put H8.out.2.2.2 0 _ rfl) 1 _ rfl) 2 _ rfl) 3 _ rfl
    | true=>
     replace A2:=by have:=A2.out; rwa [if_pos rfl] at this
     obtain ⟨xa,hxa⟩:∃ z,mx (wrap64 (fr - wrap64 (D*1440))) 0=z:=⟨_,rfl⟩
     obtain ⟨xb,hxb⟩:∃ z,mn (wrap64 (tu - wrap64 (D*1440))) 1440=z:=⟨_,rfl⟩
     rw [hxa,hxb] at A2
     have hia:(if wrap64 (fr - wrap64 (D*1440)) < 0 then (0:Int) else wrap64 (fr - wrap64 (D*1440)))=xa:=hxa
     have hib:(if 1440 < wrap64 (tu - wrap64 (D*1440)) then (1440:Int) else wrap64 (tu - wrap64 (D*1440)))=xb:=hxb
     clear hxa hxb
     have v0:w5.cell? ⟨gd,0,none⟩=some (.int .i64 D):=(blk_cell H5.out.2.2.2 0).trans rfl
     have v1:w5.cell? ⟨gd,1,none⟩=some (.int .i64 y):=(blk_cell H5.out.2.2.2 1).trans rfl
     have v2:w5.cell? ⟨gd,2,none⟩=some (.int .i64 m):=(blk_cell H5.out.2.2.2 2).trans rfl
     have v3:w5.cell? ⟨gd,3,none⟩=some (.int .i64 d):=(blk_cell H5.out.2.2.2 3).trans rfl
     by_cases c2:xa=0∧xb=1440
     ·rw [if_pos c2] at A2
      obtain rfl:=Option.some.inj A2
      clear A2
      have p1:(xa == 0)=true:=by simpa using c2.1
      have p2:(xb == 1440)=true:=by simpa using c2.2
      clear c2
      go_wp2_with fail
      go_region
      have H6:=Aside0.mk (show Spc.Row w5.drew w.heap.size b0 s0 b1 s1 b2 s2 b3 s3 b4 s4∧Below w.heap.size w w5.drew∧w.heap.size < gd∧w5.drew.heap[gd]?=some (.cells #[.int .i64 D,.int .i64 y,.int .i64 m,.int .i64 d] 55 (0,0)) from ⟨blk_drew H5.out.1,below_drew1 H5.out.2.1,H5.out.2.2.1,blk_drew H5.out.2.2.2⟩)
      generalize w5.drew=w6 at H6 ⊢
      clear H5 v0 v1 v2 v3 hia hib
      obtain ⟨⟨D1,y1,m1,d1⟩,A4,HN⟩ :=Option.bind_eq_some_iff.mp HO.out
      clear HO
      replace A4:Hid (complineref22_after.f D y m d=some (D1,y1,m1,d1)):=Lib.hid (by rw [← haft.out] at A4; exact A4)
      replace HN:=Aside0.mk HN
      have v0:w6.cell? ⟨gd,0,none⟩=some (.int .i64 D):=(blk_cell H6.out.2.2.2 0).trans rfl
      have v1:w6.cell? ⟨gd,1,none⟩=some (.int .i64 y):=(blk_cell H6.out.2.2.2 1).trans rfl
      have v2:w6.cell? ⟨gd,2,none⟩=some (.int .i64 m):=(blk_cell H6.out.2.2.2 2).trans rfl
      have v3:w6.cell? ⟨gd,3,none⟩=some (.int .i64 d):=(blk_cell H6.out.2.2.2 3).trans rfl
      go_wp2_with fail
      have H7:=Aside0.mk (show Spc.Row (w6.alloc (.cells #[.int .i64 D,.int .i64 y,.int .i64 m,.int .i64 d] 55)) w.heap.size b0 s0 b1 s1 b2 s2 b3 s3 b4 s4∧Below w.heap.size w (w6.alloc (.cells #[.int .i64 D,.int .i64 y,.int .i64 m,.int .i64 d] 55))∧w.heap.size < w6.heap.size∧(w6.alloc (.cells #[.int .i64 D,.int .i64 y,.int .i64 m,.int .i64 d] 55)).heap[w6.heap.size]?=some (.cells #[.int .i64 D,.int .i64 y,.int .i64 m,.int .i64 d] 55 (0,0)) from ⟨blk_alloc H6.out.1 _,below_alloc H6.out.2.1 _,blk_lt H6.out.1,heap_alloc_new _ _⟩)
      clear v0 v1 v2 v3
      obtain ⟨gn,hgn⟩:∃ g,w6.heap.size=g:=⟨_,rfl⟩
      rw [hgn] at H7 ⊢
      generalize w6.alloc (.cells #[.int .i64 D,.int .i64 y,.int .i64 m,.int .i64 d] 55)=w7 at H7 ⊢
      clear H6 hgn
      refine (complineref22_after.calls _ _ _ _ _ _ _ _ _ A4.out).mono ?_
      rintro e w8 ⟨rfl,hb⟩
      have H8:=Aside0.mk (show Spc.Row w8 w.heap.size b0 s0 b1 s1 b2 s2 b3 s3 b4 s4∧Below w.heap.size w w8∧w.heap.size < gn∧w8.heap[gn]?=some (.cells #[.int .i64 D,.int .i64 y,.int .i64 m,.int .i64 d] 55 (0,0)) from ⟨blk_below H7.out.1 hb,below_step H7.out.2.1 hb,H7.out.2.2.1,blk_below H7.out.2.2.2 hb⟩)
      clear H7 hb A4
      have v0:w8.cell? ⟨gn,0,none⟩=some (.int .i64 D):=(blk_cell H8.out.2.2.2 0).trans rfl
      have v1:w8.cell? ⟨gn,1,none⟩=some (.int .i64 y):=(blk_cell H8.out.2.2.2 1).trans rfl
      have v2:w8.cell? ⟨gn,2,none⟩=some (.int .i64 m):=(blk_cell H8.out.2.2.2 2).trans rfl
      have v3:w8.cell? ⟨gn,3,none⟩=some (.int .i64 d):=(blk_cell H8.out.2.2.2 3).trans rfl
      have f0:=blk_frozen H8.out.2.2.2 0
      have f1:=blk_frozen H8.out.2.2.2 1
      have f2:=blk_frozen H8.out.2.2.2 2
      have f3:=blk_frozen H8.out.2.2.2 3
      go_wp2_with fail
      go_roundg k1
      case measure=>exact Nat.lt_succ_self _
      case rel=>
       have hg:=H8.out.2.2.1
       have hne:w.heap.size≠gn:=by omega
       refine ⟨wrap64 (n+wh),D1,y1,m1,d1,gn,rfl,rfl,HN,⟨?_,?_,hg,?_⟩⟩
       ·exact (Below.heap_setCell _ _ _ _ hne).trans ((Below.heap_setCell _ _ _ _ hne).trans ((Below.heap_setCell _ _ _ _ hne).trans ((Below.heap_setCell _ _ _ _ hne).trans H8.out.1)))
       ·exact below_set (below_set (below_set (below_set H8.out.2.1 (by omega)) (by omega)) (by omega)) (by omega)
       ·exact blk_put (blk_put (blk_put (blk_put H8.out.2.2.2 0 _ rfl) 1 _ rfl) 2 _ rfl) 3 _ rfl
     ·rw [if_neg c2] at A2
      obtain ⟨tv,A3,A6⟩ :=Option.bind_eq_some_iff.mp A2
      clear A2
      obtain rfl:=Option.some.inj A6
      clear A6
      replace A3:Hid (complineref22_times.f 2000 b0 s0 b1 s1 b2 s2 b3 s3 b4 s4 xa xb=some tv):=Lib.hid (by rw [← htm.out] at A3; exact A3)
      have hpk:((xa == 0)=false)∨((xa == 0)=true∧(xb == 1440)=false):=by
       by_cases c3:xa=0
       ·exact .inr ⟨by simpa using c3,by simpa using (show xb≠1440 from fun h=>c2 ⟨c3,h⟩)⟩
       ·exact .inl (by simpa using c3)
      clear c2
      rcases hpk with p1 | ⟨p1,p2⟩
      case' inr=>have p3:=p2
      all_goals
       go_wp2_with fail
       go_region
       have H6:=Aside0.mk (show Spc.Row w5.drew w.heap.size b0 s0 b1 s1 b2 s2 b3 s3 b4 s4∧Below w.heap.size w w5.drew∧w.heap.size < gd∧w5.drew.heap[gd]?=some (.cells #[.int .i64 D,.int .i64 y,.int .i64 m,.int .i64 d] 55 (0,0)) from ⟨blk_drew H5.out.1,below_drew1 H5.out.2.1,H5.out.2.2.1,blk_drew H5.out.2.2.2⟩)
       generalize w5.drew=w6 at H6 ⊢
       clear H5 v0 v1 v2 v3
       obtain ⟨k0,k1,k2,k3,k4,k5,k6,k7,k8,k9⟩ :=H6.out.1.cells
       go_wp2_with fail
       refine (complineref22_times.calls 2000 _ _ _ _ _ _ _ _ _ _ _ _ _ _ A3.out).mono ?_
       rintro e w6' ⟨rfl,hb⟩
       have H6':=Aside0.mk (show Spc.Row w6' w.heap.size b0 s0 b1 s1 b2 s2 b3 s3 b4 s4∧Below w.heap.size w w6'∧w.heap.size < gd∧w6'.heap[gd]?=some (.cells #[.int .i64 D,.int .i64 y,.int .i64 m,.int .i64 d] 55 (0,0)) from ⟨blk_below H6.out.1 hb,below_step H6.out.2.1 hb,H6.out.2.2.1,blk_below H6.out.2.2.2 hb⟩)
       clear H6 hb A3 k0 k1 k2 k3 k4 k5 k6 k7 k8 k9 hia hib
       obtain ⟨⟨D1,y1,m1,d1⟩,A4,HN⟩ :=Option.bind_eq_some_iff.mp HO.out
       clear HO
       replace A4:Hid (complineref22_after.f D y m d=some (D1,y1,m1,d1)):=Lib.hid (by rw [← haft.out] at A4; exact A4)
       replace HN:=Aside0.mk HN
       have v0:w6'.cell? ⟨gd,0,none⟩=some (.int .i64 D):=(blk_cell H6'.out.2.2.2 0).trans rfl
       have v1:w6'.cell? ⟨gd,1,none⟩=some (.int .i64 y):=(blk_cell H6'.out.2.2.2 1).trans rfl
       have v2:w6'.cell? ⟨gd,2,none⟩=some (.int .i64 m):=(blk_cell H6'.out.2.2.2 2).trans rfl
       have v3:w6'.cell? ⟨gd,3,none⟩=some (.int .i64 d):=(blk_cell H6'.out.2.2.2 3).trans rfl
       go_wp2_with fail
       have H7:=Aside0.mk (show Spc.Row (w6'.alloc (.cells #[.int .i64 D,.int .i64 y,.int .i64 m,.int .i64 d] 55)) w.heap.size b0 s0 b1 s1 b2 s2 b3 s3 b4 s4∧Below w.heap.size w (w6'.alloc (.cells #[.int .i64 D,.int .i64 y,.int .i64 m,.int .i64 d] 55))∧w.heap.size < w6'.heap.size∧(w6'.alloc (.cells #[.int .i64 D,.int .i64 y,.int .i64 m,.int .i64 d] 55)).heap[w6'.heap.size]?=some (.cells #[.int .i64 D,.int .i64 y,.int .i64 m,.int .i64 d] 55 (0,0)) from ⟨blk_alloc H6'.out.1 _,below_alloc H6'.out.2.1 _,blk_lt H6'.out.1,heap_alloc_new _ _⟩)
       clear v0 v1 v2 v3
       obtain ⟨gn,hgn⟩:∃ g,w6'.heap.size=g:=⟨_,rfl⟩
       rw [hgn] at H7 ⊢
       generalize w6'.alloc (.cells #[.int .i64 D,.int .i64 y,.int .i64 m,.int .i64 d] 55)=w7 at H7 ⊢
       clear H6' hgn
       refine (complineref22_after.calls _ _ _ _ _ _ _ _ _ A4.out).mono ?_
       rintro e w8 ⟨rfl,hb⟩
       have H8:=Aside0.mk (show Spc.Row w8 w.heap.size b0 s0 b1 s1 b2 s2 b3 s3 b4 s4∧Below w.heap.size w w8∧w.heap.size < gn∧w8.heap[gn]?=some (.cells #[.int .i64 D,.int .i64 y,.int .i64 m,.int .i64 d] 55 (0,0)) from ⟨blk_below H7.out.1 hb,below_step H7.out.2.1 hb,H7.out.2.2.1,blk_below H7.out.2.2.2 hb⟩)
       clear H7 hb A4
       have v0:w8.cell? ⟨gn,0,none⟩=some (.int .i64 D):=(blk_cell H8.out.2.2.2 0).trans rfl
       have v1:w8.cell? ⟨gn,1,none⟩=some (.int .i64 y):=(blk_cell H8.out.2.2.2 1).trans rfl
       have v2:w8.cell? ⟨gn,2,none⟩=some (.int .i64 m):=(blk_cell H8.out.2.2.2 2).trans rfl
       have v3:w8.cell? ⟨gn,3,none⟩=some (.int .i64 d):=(blk_cell H8.out.2.2.2 3).trans rfl
       have f0:=blk_frozen H8.out.2.2.2 0
       have f1:=blk_frozen H8.out.2.2.2 1
       have f2:=blk_frozen H8.out.2.2.2 2
       have f3:=blk_frozen H8.out.2.2.2 3
       go_wp2_with fail
       go_roundg k1
       case measure=>exact Nat.lt_succ_self _
       case rel=>
        have hg:=H8.out.2.2.1
        have hne:w.heap.size≠gn:=by omega
        refine ⟨wrap64 (n+tv),D1,y1,m1,d1,gn,rfl,rfl,HN,⟨?_,?_,hg,?_⟩⟩
        ·exact (Below.heap_setCell _ _ _ _ hne).trans ((Below.heap_setCell _ _ _ _ hne).trans ((Below.heap_setCell _ _ _ _ hne).trans ((Below.heap_setCell _ _ _ _ hne).trans H8.out.1)))
        ·exact below_set (below_set (below_set (below_set H8.out.2.1 (by omega)) (by omega)) (by omega)) (by omega)
        ·exact blk_put (blk_put (blk_put (blk_put H8.out.2.2.2 0 _ rfl) 1 _ rfl) 2 _ rfl) 3 _ rfl
   ·rw [if_neg c1] at H
    have c1b:decide (wrap64 (D*1440) < tu)=false:=decide_eq_false c1
    obtain rfl:=Option.some.inj H
    go_wp2_with fail
    go_ret2
    exact ⟨rfl,HW.out.2.1⟩
def complineref22_Count.f (a0_0:Int)(a0_1:Bool)(a0_2:Int)(a0_3:Bool)(a0_4:Int)(a0_5:Bool)(a0_6:Int)(a0_7:Bool)(a0_8:Int)(a0_9:Bool)(a1:Int)(a2:Int):Option (Int × Int):=(complineref22_odd.f 2000 a0_0 a0_1 a0_2 a0_3 a0_4 a0_5 a0_6 a0_7 a0_8 a0_9).bind fun o=>if o=true then some ((0:Int),(2:Int)) else if a1 < 0∨a2 < a1∨541728000 < a2 then some (0,1) else (complineref22_times.f 2000 a0_0 a0_1 a0_2 a0_3 a0_4 a0_5 a0_6 a0_7 a0_8 a0_9 0 1440).bind fun wh=>if a1=a2 then some (0,0) else (complineref22_day.f 2000 (wrap64 (Int.tdiv a1 1440))).bind fun q=>(R22.count (fun D y m d=>complineref22_on.f 2000 a0_0 a0_1 a0_2 a0_3 a0_4 a0_5 a0_6 a0_7 a0_8 a0_9 D y m d) (fun a b=>complineref22_times.f 2000 a0_0 a0_1 a0_2 a0_3 a0_4 a0_5 a0_6 a0_7 a0_8 a0_9 a b) (fun D y m d=>complineref22_after.f D y m d) a1 a2 wh 400000 0 q.1 q.2.1 q.2.2.1 q.2.2.2).bind fun r=>some (r,0)
set_option maxHeartbeats 8000000 in
set_option maxRecDepth 100000 in
theorem complineref22_Count.calls (a0_0:Int)(a0_1:Bool)(a0_2:Int)(a0_3:Bool)(a0_4:Int)(a0_5:Bool)(a0_6:Int)(a0_7:Bool)(a0_8:Int)(a0_9:Bool)(a1:Int)(a2:Int)(r1:Int)(r2:Int)(w:World)(h:complineref22_Count.f a0_0 a0_1 a0_2 a0_3 a0_4 a0_5 a0_6 a0_7 a0_8 a0_9 a1 a2=some (r1,r2)) :
  Calls Tryz.prog 16 #[.agg #[.int .u64 a0_0,.bool a0_1,.int .u64 a0_2,.bool a0_3,.int .u64 a0_4,.bool a0_5,.int .u64 a0_6,.bool a0_7,.int .u64 a0_8,.bool a0_9],.int .i64 a1,.int .i64 a2] w fun e w'=>e=.returned (.tuple #[.int .i64 r1,.int .i64 r2])∧Below w.heap.size w w':=by
 have hh:((complineref22_odd.f 2000 a0_0 a0_1 a0_2 a0_3 a0_4 a0_5 a0_6 a0_7 a0_8 a0_9).bind fun o=>if o=true then some ((0:Int),(2:Int)) else if a1 < 0∨a2 < a1∨541728000 < a2 then some (0,1) else (complineref22_times.f 2000 a0_0 a0_1 a0_2 a0_3 a0_4 a0_5 a0_6 a0_7 a0_8 a0_9 0 1440).bind fun wh=>if a1=a2 then some (0,0) else (complineref22_day.f 2000 (wrap64 (Int.tdiv a1 1440))).bind fun q=>(R22.count (fun D y m d=>complineref22_on.f 2000 a0_0 a0_1 a0_2 a0_3 a0_4 a0_5 a0_6 a0_7 a0_8 a0_9 D y m d) (fun a b=>complineref22_times.f 2000 a0_0 a0_1 a0_2 a0_3 a0_4 a0_5 a0_6 a0_7 a0_8 a0_9 a b) (fun D y m d=>complineref22_after.f D y m d) a1 a2 wh 400000 0 q.1 q.2.1 q.2.2.1 q.2.2.2).bind fun r=>some (r,0))=some (r1,r2):=h
 clear h
 obtain ⟨o,A,hm⟩ :=Option.bind_eq_some_iff.1 hh
 cases o with
 | true=>
  rw [if_pos rfl] at hm
  obtain ⟨rfl,rfl⟩ :=Prod.mk.inj (Option.some.inj hm)
  exact R22.Count_odd a0_0 a0_1 a0_2 a0_3 a0_4 a0_5 a0_6 a0_7 a0_8 a0_9 a1 a2 A w
 | false=>
  rw [if_neg (by decide)] at hm
  by_cases hl:a1 < 0∨a2 < a1∨541728000 < a2
  ·rw [if_pos hl] at hm
   obtain ⟨rfl,rfl⟩ :=Prod.mk.inj (Option.some.inj hm)
   rcases (by omega:a1 < 0∨(0≤a1∧a2 < a1)∨(0≤a1∧a1≤a2∧541728000 < a2)) with h | h | h
   ·exact R22.Count_arga a0_0 a0_1 a0_2 a0_3 a0_4 a0_5 a0_6 a0_7 a0_8 a0_9 a1 a2 A h w
   ·exact R22.Count_argb a0_0 a0_1 a0_2 a0_3 a0_4 a0_5 a0_6 a0_7 a0_8 a0_9 a1 a2 A h w
   ·exact R22.Count_argc a0_0 a0_1 a0_2 a0_3 a0_4 a0_5 a0_6 a0_7 a0_8 a0_9 a1 a2 A h w
  ·rw [if_neg hl] at hm
   obtain ⟨wh,hW,hm⟩ :=Option.bind_eq_some_iff.1 hm
   by_cases he:a1=a2
   ·rw [if_pos he] at hm
    obtain ⟨rfl,rfl⟩ :=Prod.mk.inj (Option.some.inj hm)
    exact R22.Count_eq a0_0 a0_1 a0_2 a0_3 a0_4 a0_5 a0_6 a0_7 a0_8 a0_9 a1 a2 A (by omega) he (by omega) wh hW w
   ·rw [if_neg he] at hm
    obtain ⟨⟨D0,y0,m0,d0⟩,hD,hm⟩ :=Option.bind_eq_some_iff.1 hm
    obtain ⟨rr,hR,hm⟩ :=Option.bind_eq_some_iff.1 hm
    obtain ⟨rfl,rfl⟩ :=Prod.mk.inj (Option.some.inj hm)
    exact R22.Count_good a0_0 a0_1 a0_2 a0_3 a0_4 a0_5 a0_6 a0_7 a0_8 a0_9 a1 a2 A (by omega) (by omega) (by omega) wh hW D0 y0 m0 d0 hD _ hR w
def complinelaw22_NextCounts.f (a0_0:Int)(a0_1:Bool)(a0_2:Int)(a0_3:Bool)(a0_4:Int)(a0_5:Bool)(a0_6:Int)(a0_7:Bool)(a0_8:Int)(a0_9:Bool)(a1:Int)(a2:Int):Option (Bool):=(complinelaw22_works.f).bind fun t226=>(if t226=true then ((next_Count.f a0_0 a0_1 a0_2 a0_3 a0_4 a0_5 a0_6 a0_7 a0_8 a0_9 a1 a2).bind fun bt227=>((complineref22_Count.f a0_0 a0_1 a0_2 a0_3 a0_4 a0_5 a0_6 a0_7 a0_8 a0_9 a1 a2).bind fun bt229=>(if bt227.1=bt229.1 then (some (bt227.2 == bt229.2)) else (some false)))) else (some false))
set_option maxHeartbeats 8000000 in
set_option maxRecDepth 100000 in
theorem complinelaw22_NextCounts.calls (a0_0:Int)(a0_1:Bool)(a0_2:Int)(a0_3:Bool)(a0_4:Int)(a0_5:Bool)(a0_6:Int)(a0_7:Bool)(a0_8:Int)(a0_9:Bool)(a1:Int)(a2:Int)(r:Bool)(w:World)(hT:Tab w)(h:complinelaw22_NextCounts.f a0_0 a0_1 a0_2 a0_3 a0_4 a0_5 a0_6 a0_7 a0_8 a0_9 a1 a2=some r) :
  Calls Tryz.prog 5 #[.agg #[.int .u64 a0_0,.bool a0_1,.int .u64 a0_2,.bool a0_3,.int .u64 a0_4,.bool a0_5,.int .u64 a0_6,.bool a0_7,.int .u64 a0_8,.bool a0_9],.int .i64 a1,.int .i64 a2] w fun e w'=>e=.returned (.bool r)∧Below w.heap.size w w':=by
 have hu26:=Tryz.underlying26
 have HB:=Aside0.mk (Below.refl w.heap.size w)
 have H:((complinelaw22_works.f).bind fun t226=>(if t226=true then ((next_Count.f a0_0 a0_1 a0_2 a0_3 a0_4 a0_5 a0_6 a0_7 a0_8 a0_9 a1 a2).bind fun bt227=>((complineref22_Count.f a0_0 a0_1 a0_2 a0_3 a0_4 a0_5 a0_6 a0_7 a0_8 a0_9 a1 a2).bind fun bt229=>(if bt227.1=bt229.1 then (some (bt227.2 == bt229.2)) else (some false)))) else (some false)))=some r:=h
 clear h
 replace H:=Option.bind_eq_some_iff.mp H
 obtain ⟨t226,A40,H⟩ :=H
 replace H:(if t226=true then ((next_Count.f a0_0 a0_1 a0_2 a0_3 a0_4 a0_5 a0_6 a0_7 a0_8 a0_9 a1 a2).bind fun bt227=>((complineref22_Count.f a0_0 a0_1 a0_2 a0_3 a0_4 a0_5 a0_6 a0_7 a0_8 a0_9 a1 a2).bind fun bt229=>(if bt227.1=bt229.1 then (some (bt227.2 == bt229.2)) else (some false)))) else (some false))=some r:=H
 have A4:=Aside0.mk A40
 clear A40
 by_cases c5:t226=true
 ·subst c5
  have H1:((next_Count.f a0_0 a0_1 a0_2 a0_3 a0_4 a0_5 a0_6 a0_7 a0_8 a0_9 a1 a2).bind fun bt227=>((complineref22_Count.f a0_0 a0_1 a0_2 a0_3 a0_4 a0_5 a0_6 a0_7 a0_8 a0_9 a1 a2).bind fun bt229=>(if bt227.1=bt229.1 then (some (bt227.2 == bt229.2)) else (some false))))=some r:=by rw [if_pos rfl] at H; exact H
  clear H
  have H:=H1
  clear H1
  replace H:=Option.bind_eq_some_iff.mp H
  obtain ⟨⟨t227,t228⟩,A60,H⟩ :=H
  replace H:((complineref22_Count.f a0_0 a0_1 a0_2 a0_3 a0_4 a0_5 a0_6 a0_7 a0_8 a0_9 a1 a2).bind fun bt229=>(if t227=bt229.1 then (some (t228 == bt229.2)) else (some false)))=some r:=H
  have A6:=Aside0.mk A60
  clear A60
  replace H:=Option.bind_eq_some_iff.mp H
  obtain ⟨⟨t229,t230⟩,A70,H⟩ :=H
  replace H:(if t227=t229 then (some (t228 == t230)) else (some false))=some r:=H
  have A7:=Aside0.mk A70
  clear A70
  by_cases c8:t227=t229
  ·rw [if_pos c8] at H
   have c8b0:(t227 == t229)=true:=beq_iff_eq.mpr c8
   have c8b1:(t227 != t229)=false:=bne_eq_false_iff_eq.mpr c8
   clear c8
   obtain rfl:=Option.some.inj H
   go_enter Tryz.func5,Tryz.ntmps5
   go_wp2_with (first | ((with_reducible refine gate_dst (N:=3) rfl ?_); refine box_event ?hg (N:=3) ?hd (cs:=#[.int .u64 a0_0,.bool a0_1,.int .u64 a0_2,.bool a0_3,.int .u64 a0_4,.bool a0_5,.int .u64 a0_6,.bool a0_7,.int .u64 a0_8,.bool a0_9]) (t:=26) ?hr ?_; (case hd=>rfl); (case hg=>rfl); (case hr=>first | (go_simp; done) | (go_simp; rfl)); intro gb225 hg w9 hbox hb; have n0_:=Aside0.mk (below_step (by repeat (first | (with_reducible first | exact HB.out | apply below_alloc | apply pw_below_drewN | apply below_drew1) | exact HB.out)) hb); have n1_:=Aside0.mk (hbox); have n2_:=Aside0.mk ((by rw [hg]; exact (below_size (by repeat (first | (with_reducible first | exact HB.out | apply below_alloc | apply pw_below_drewN | apply below_drew1) | exact HB.out))):w.heap.size≤gb225)); have n3_:=Aside0.mk ((by rw [hg]; exact (below_size (by repeat (first | (with_reducible first | exact HB.out | apply below_alloc | apply pw_below_drewN | apply below_drew1) | exact HB.out))):w.heap.size≤gb225)); clear HB; have HB:=n0_; have BK225:=n1_; have GW225:=n2_; have GE225:=n3_; clear n0_ n1_ n2_ n3_; clear hb hbox hg) | ((with_reducible refine gate_callee (f:=10) rfl ?_); refine goesL_ (some 12) rfl rfl Tryz.func10 (by kernel_rfl) rfl #[] rfl (by (try simp only [List.map_toArray,List.map_cons,List.map_nil]); first | done | rfl | (simp only [List.length_drop,List.length_take]; rfl)) ?_; (with_reducible refine (complinelaw22_works.calls  true _ (hT.keep (by repeat (first | (with_reducible first | exact HB.out | apply below_alloc | apply pw_below_drewN | apply below_drew1 | refine below_set ?_ GE225.out) | exact HB.out))) A4.out).mono ?_); rintro e w10 ⟨rfl,hb⟩; refine ⟨_,rfl,?_⟩; have n0_:=Aside0.mk (blk_below (g:=gb225) (o:=.cells #[.int .u64 a0_0,.bool a0_1,.int .u64 a0_2,.bool a0_3,.int .u64 a0_4,.bool a0_5,.int .u64 a0_6,.bool a0_7,.int .u64 a0_8,.bool a0_9] 26 (0,0)) (by (with_reducible repeat (first | refine blk_drewN ?_ _ | refine blk_drew ?_ | refine blk_alloc ?_ _)); exact BK225.out) hb); have n1_:=Aside0.mk (below_step (by repeat (first | (with_reducible first | exact HB.out | apply below_alloc | apply pw_below_drewN | apply below_drew1 | refine below_set ?_ GE225.out) | exact HB.out)) hb); clear BK225; clear HB; have BK225:=n0_; have HB:=n1_; clear n0_ n1_; (try clear hb); (try clear hb2); (try clear hk); (try clear hi); have hcz11_0:w10.cell? ⟨gb225,0,none⟩=some (.int .u64 a0_0):=(blk_cell BK225.out 0).trans rfl; have hcz11_1:w10.cell? ⟨gb225,1,none⟩=some (.bool a0_1):=(blk_cell BK225.out 1).trans rfl; have hcz11_2:w10.cell? ⟨gb225,2,none⟩=some (.int .u64 a0_2):=(blk_cell BK225.out 2).trans rfl; have hcz11_3:w10.cell? ⟨gb225,3,none⟩=some (.bool a0_3):=(blk_cell BK225.out 3).trans rfl; have hcz11_4:w10.cell? ⟨gb225,4,none⟩=some (.int .u64 a0_4):=(blk_cell BK225.out 4).trans rfl; have hcz11_5:w10.cell? ⟨gb225,5,none⟩=some (.bool a0_5):=(blk_cell BK225.out 5).trans rfl; have hcz11_6:w10.cell? ⟨gb225,6,none⟩=some (.int .u64 a0_6):=(blk_cell BK225.out 6).trans rfl; have hcz11_7:w10.cell? ⟨gb225,7,none⟩=some (.bool a0_7):=(blk_cell BK225.out 7).trans rfl; have hcz11_8:w10.cell? ⟨gb225,8,none⟩=some (.int .u64 a0_8):=(blk_cell BK225.out 8).trans rfl; have hcz11_9:w10.cell? ⟨gb225,9,none⟩=some (.bool a0_9):=(blk_cell BK225.out 9).trans rfl; have hfz11_0:=blk_frozen BK225.out 0; have hfz11_1:=blk_frozen BK225.out 1; have hfz11_2:=blk_frozen BK225.out 2; have hfz11_3:=blk_frozen BK225.out 3; have hfz11_4:=blk_frozen BK225.out 4; have hfz11_5:=blk_frozen BK225.out 5; have hfz11_6:=blk_frozen BK225.out 6; have hfz11_7:=blk_frozen BK225.out 7; have hfz11_8:=blk_frozen BK225.out 8; have hfz11_9:=blk_frozen BK225.out 9) | ((with_reducible refine gate_callee (f:=15) rfl ?_); refine goesL_ (some 19) rfl rfl Tryz.func15 (by kernel_rfl) rfl #[.agg #[.int .u64 a0_0,.bool a0_1,.int .u64 a0_2,.bool a0_3,.int .u64 a0_4,.bool a0_5,.int .u64 a0_6,.bool a0_7,.int .u64 a0_8,.bool a0_9],.int .i64 a1,.int .i64 a2] rfl (by (try simp only [List.map_toArray,List.map_cons,List.map_nil]); first | done | rfl | (simp only [List.length_drop,List.length_take]; rfl)) ?_; (with_reducible refine (next_Count.calls a0_0 a0_1 a0_2 a0_3 a0_4 a0_5 a0_6 a0_7 a0_8 a0_9 a1 a2 t227 t228 _ (hT.keep (by repeat (first | (with_reducible first | exact HB.out | apply below_alloc | apply pw_below_drewN | apply below_drew1 | refine below_set ?_ GE225.out) | exact HB.out))) A6.out).mono ?_); rintro e w12 ⟨rfl,hb⟩; refine ⟨_,rfl,?_⟩; have n0_:=Aside0.mk (blk_below (g:=gb225) (o:=.cells #[.int .u64 a0_0,.bool a0_1,.int .u64 a0_2,.bool a0_3,.int .u64 a0_4,.bool a0_5,.int .u64 a0_6,.bool a0_7,.int .u64 a0_8,.bool a0_9] 26 (0,0)) (by (with_reducible repeat (first | refine blk_drewN ?_ _ | refine blk_drew ?_ | refine blk_alloc ?_ _)); exact BK225.out) hb); have n1_:=Aside0.mk (below_step (by repeat (first | (with_reducible first | exact HB.out | apply below_alloc | apply pw_below_drewN | apply below_drew1 | refine below_set ?_ GE225.out) | exact HB.out)) hb); clear BK225; clear HB; have BK225:=n0_; have HB:=n1_; clear n0_ n1_; (try clear hb); (try clear hb2); (try clear hk); (try clear hi); have hcz13_0:w12.cell? ⟨gb225,0,none⟩=some (.int .u64 a0_0):=(blk_cell BK225.out 0).trans rfl; have hcz13_1:w12.cell? ⟨gb225,1,none⟩=some (.bool a0_1):=(blk_cell BK225.out 1).trans rfl; have hcz13_2:w12.cell? ⟨gb225,2,none⟩=some (.int .u64 a0_2):=(blk_cell BK225.out 2).trans rfl; have hcz13_3:w12.cell? ⟨gb225,3,none⟩=some (.bool a0_3):=(blk_cell BK225.out 3).trans rfl; have hcz13_4:w12.cell? ⟨gb225,4,none⟩=some (.int .u64 a0_4):=(blk_cell BK225.out 4).trans rfl; have hcz13_5:w12.cell? ⟨gb225,5,none⟩=some (.bool a0_5):=(blk_cell BK225.out 5).trans rfl; have hcz13_6:w12.cell? ⟨gb225,6,none⟩=some (.int .u64 a0_6):=(blk_cell BK225.out 6).trans rfl; have hcz13_7:w12.cell? ⟨gb225,7,none⟩=some (.bool a0_7):=(blk_cell BK225.out 7).trans rfl; have hcz13_8:w12.cell? ⟨gb225,8,none⟩=some (.int .u64 a0_8):=(blk_cell BK225.out 8).trans rfl; have hcz13_9:w12.cell? ⟨gb225,9,none⟩=some (.bool a0_9):=(blk_cell BK225.out 9).trans rfl; have hfz13_0:=blk_frozen BK225.out 0; have hfz13_1:=blk_frozen BK225.out 1; have hfz13_2:=blk_frozen BK225.out 2; have hfz13_3:=blk_frozen BK225.out 3; have hfz13_4:=blk_frozen BK225.out 4; have hfz13_5:=blk_frozen BK225.out 5; have hfz13_6:=blk_frozen BK225.out 6; have hfz13_7:=blk_frozen BK225.out 7; have hfz13_8:=blk_frozen BK225.out 8; have hfz13_9:=blk_frozen BK225.out 9) | ((with_reducible refine gate_callee (f:=16) rfl ?_); refine goesL_ (some 26) rfl rfl Tryz.func16 (by kernel_rfl) rfl #[.agg #[.int .u64 a0_0,.bool a0_1,.int .u64 a0_2,.bool a0_3,.int .u64 a0_4,.bool a0_5,.int .u64 a0_6,.bool a0_7,.int .u64 a0_8,.bool a0_9],.int .i64 a1,.int .i64 a2] rfl (by (try simp only [List.map_toArray,List.map_cons,List.map_nil]); first | done | rfl | (simp only [List.length_drop,List.length_take]; rfl)) ?_; (with_reducible refine (complineref22_Count.calls a0_0 a0_1 a0_2 a0_3 a0_4 a0_5 a0_6 a0_7 a0_8 a0_9 a1 a2 t229 t230 _ A7.out).mono ?_); rintro e w14 ⟨rfl,hb⟩; refine ⟨_,rfl,?_⟩; have n0_:=Aside0.mk (blk_below (g:=gb225) (o:=.cells #[.int .u64 a0_0,.bool a0_1,.int .u64 a0_2,.bool a0_3,.int .u64 a0_4,.bool a0_5,.int .u64 a0_6,.bool a0_7,.int .u64 a0_8,.bool a0_9] 26 (0,0)) (by (with_reducible repeat (first | refine blk_drewN ?_ _ | refine blk_drew ?_ | refine blk_alloc ?_ _)); exact BK225.out) hb); have n1_:=Aside0.mk (below_step (by repeat (first | (with_reducible first | exact HB.out | apply below_alloc | apply pw_below_drewN | apply below_drew1 | refine below_set ?_ GE225.out) | exact HB.out)) hb); clear BK225; clear HB; have BK225:=n0_; have HB:=n1_; clear n0_ n1_; (try clear hb); (try clear hb2); (try clear hk); (try clear hi)))
   go_ret
   exact ⟨by first | rfl | (simp [errW_none,errW_some] <;> rfl) | (simp [*,errW_none,errW_some] <;> rfl),by repeat (first | (with_reducible first | exact HB.out | apply below_alloc | apply pw_below_drewN | apply below_drew1 | refine below_set ?_ GE225.out) | exact HB.out)⟩
  ·rw [if_neg c8] at H
   have c8b0:(t227 == t229)=false:=beq_eq_false_iff_ne.mpr c8
   have c8b1:(t227 != t229)=true:=bne_iff_ne.mpr c8
   obtain rfl:=Option.some.inj H
   go_enter Tryz.func5,Tryz.ntmps5
   go_wp2_with (first | ((with_reducible refine gate_dst (N:=3) rfl ?_); refine box_event ?hg (N:=3) ?hd (cs:=#[.int .u64 a0_0,.bool a0_1,.int .u64 a0_2,.bool a0_3,.int .u64 a0_4,.bool a0_5,.int .u64 a0_6,.bool a0_7,.int .u64 a0_8,.bool a0_9]) (t:=26) ?hr ?_; (case hd=>rfl); (case hg=>rfl); (case hr=>first | (go_simp; done) | (go_simp; rfl)); intro gb225 hg w15 hbox hb; have n0_:=Aside0.mk (below_step (by repeat (first | (with_reducible first | exact HB.out | apply below_alloc | apply pw_below_drewN | apply below_drew1) | exact HB.out)) hb); have n1_:=Aside0.mk (hbox); have n2_:=Aside0.mk ((by rw [hg]; exact (below_size (by repeat (first | (with_reducible first | exact HB.out | apply below_alloc | apply pw_below_drewN | apply below_drew1) | exact HB.out))):w.heap.size≤gb225)); have n3_:=Aside0.mk ((by rw [hg]; exact (below_size (by repeat (first | (with_reducible first | exact HB.out | apply below_alloc | apply pw_below_drewN | apply below_drew1) | exact HB.out))):w.heap.size≤gb225)); clear HB; have HB:=n0_; have BK225:=n1_; have GW225:=n2_; have GE225:=n3_; clear n0_ n1_ n2_ n3_; clear hb hbox hg) | ((with_reducible refine gate_callee (f:=10) rfl ?_); refine goesL_ (some 12) rfl rfl Tryz.func10 (by kernel_rfl) rfl #[] rfl (by (try simp only [List.map_toArray,List.map_cons,List.map_nil]); first | done | rfl | (simp only [List.length_drop,List.length_take]; rfl)) ?_; (with_reducible refine (complinelaw22_works.calls  true _ (hT.keep (by repeat (first | (with_reducible first | exact HB.out | apply below_alloc | apply pw_below_drewN | apply below_drew1 | refine below_set ?_ GE225.out) | exact HB.out))) A4.out).mono ?_); rintro e w16 ⟨rfl,hb⟩; refine ⟨_,rfl,?_⟩; have n0_:=Aside0.mk (blk_below (g:=gb225) (o:=.cells #[.int .u64 a0_0,.bool a0_1,.int .u64 a0_2,.bool a0_3,.int .u64 a0_4,.bool a0_5,.int .u64 a0_6,.bool a0_7,.int .u64 a0_8,.bool a0_9] 26 (0,0)) (by (with_reducible repeat (first | refine blk_drewN ?_ _ | refine blk_drew ?_ | refine blk_alloc ?_ _)); exact BK225.out) hb); have n1_:=Aside0.mk (below_step (by repeat (first | (with_reducible first | exact HB.out | apply below_alloc | apply pw_below_drewN | apply below_drew1 | refine below_set ?_ GE225.out) | exact HB.out)) hb); clear BK225; clear HB; have BK225:=n0_; have HB:=n1_; clear n0_ n1_; (try clear hb); (try clear hb2); (try clear hk); (try clear hi); have hcz17_0:w16.cell? ⟨gb225,0,none⟩=some (.int .u64 a0_0):=(blk_cell BK225.out 0).trans rfl; have hcz17_1:w16.cell? ⟨gb225,1,none⟩=some (.bool a0_1):=(blk_cell BK225.out 1).trans rfl; have hcz17_2:w16.cell? ⟨gb225,2,none⟩=some (.int .u64 a0_2):=(blk_cell BK225.out 2).trans rfl; have hcz17_3:w16.cell? ⟨gb225,3,none⟩=some (.bool a0_3):=(blk_cell BK225.out 3).trans rfl; have hcz17_4:w16.cell? ⟨gb225,4,none⟩=some (.int .u64 a0_4):=(blk_cell BK225.out 4).trans rfl; have hcz17_5:w16.cell? ⟨gb225,5,none⟩=some (.bool a0_5):=(blk_cell BK225.out 5).trans rfl; have hcz17_6:w16.cell? ⟨gb225,6,none⟩=some (.int .u64 a0_6):=(blk_cell BK225.out 6).trans rfl; have hcz17_7:w16.cell? ⟨gb225,7,none⟩=some (.bool a0_7):=(blk_cell BK225.out 7).trans rfl; have hcz17_8:w16.cell? ⟨gb225,8,none⟩=some (.int .u64 a0_8):=(blk_cell BK225.out 8).trans rfl; have hcz17_9:w16.cell? ⟨gb225,9,none⟩=some (.bool a0_9):=(blk_cell BK225.out 9).trans rfl; have hfz17_0:=blk_frozen BK225.out 0; have hfz17_1:=blk_frozen BK225.out 1; have hfz17_2:=blk_frozen BK225.out 2; have hfz17_3:=blk_frozen BK225.out 3; have hfz17_4:=blk_frozen BK225.out 4; have hfz17_5:=blk_frozen BK225.out 5; have hfz17_6:=blk_frozen BK225.out 6; have hfz17_7:=blk_frozen BK225.out 7; have hfz17_8:=blk_frozen BK225.out 8; have hfz17_9:=blk_frozen BK225.out 9) | ((with_reducible refine gate_callee (f:=15) rfl ?_); refine goesL_ (some 19) rfl rfl Tryz.func15 (by kernel_rfl) rfl #[.agg #[.int .u64 a0_0,.bool a0_1,.int .u64 a0_2,.bool a0_3,.int .u64 a0_4,.bool a0_5,.int .u64 a0_6,.bool a0_7,.int .u64 a0_8,.bool a0_9],.int .i64 a1,.int .i64 a2] rfl (by (try simp only [List.map_toArray,List.map_cons,List.map_nil]); first | done | rfl | (simp only [List.length_drop,List.length_take]; rfl)) ?_; (with_reducible refine (next_Count.calls a0_0 a0_1 a0_2 a0_3 a0_4 a0_5 a0_6 a0_7 a0_8 a0_9 a1 a2 t227 t228 _ (hT.keep (by repeat (first | (with_reducible first | exact HB.out | apply below_alloc | apply pw_below_drewN | apply below_drew1 | refine below_set ?_ GE225.out) | exact HB.out))) A6.out).mono ?_); rintro e w18 ⟨rfl,hb⟩; refine ⟨_,rfl,?_⟩; have n0_:=Aside0.mk (blk_below (g:=gb225) (o:=.cells #[.int .u64 a0_0,.bool a0_1,.int .u64 a0_2,.bool a0_3,.int .u64 a0_4,.bool a0_5,.int .u64 a0_6,.bool a0_7,.int .u64 a0_8,.bool a0_9] 26 (0,0)) (by (with_reducible repeat (first | refine blk_drewN ?_ _ | refine blk_drew ?_ | refine blk_alloc ?_ _)); exact BK225.out) hb); have n1_:=Aside0.mk (below_step (by repeat (first | (with_reducible first | exact HB.out | apply below_alloc | apply pw_below_drewN | apply below_drew1 | refine below_set ?_ GE225.out) | exact HB.out)) hb); clear BK225; clear HB; have BK225:=n0_; have HB:=n1_; clear n0_ n1_; (try clear hb); (try clear hb2); (try clear hk); (try clear hi); have hcz19_0:w18.cell? ⟨gb225,0,none⟩=some (.int .u64 a0_0):=(blk_cell BK225.out 0).trans rfl; have hcz19_1:w18.cell? ⟨gb225,1,none⟩=some (.bool a0_1):=(blk_cell BK225.out 1).trans rfl; have hcz19_2:w18.cell? ⟨gb225,2,none⟩=some (.int .u64 a0_2):=(blk_cell BK225.out 2).trans rfl; have hcz19_3:w18.cell? ⟨gb225,3,none⟩=some (.bool a0_3):=(blk_cell BK225.out 3).trans rfl; have hcz19_4:w18.cell? ⟨gb225,4,none⟩=some (.int .u64 a0_4):=(blk_cell BK225.out 4).trans rfl; have hcz19_5:w18.cell? ⟨gb225,5,none⟩=some (.bool a0_5):=(blk_cell BK225.out 5).trans rfl; have hcz19_6:w18.cell? ⟨gb225,6,none⟩=some (.int .u64 a0_6):=(blk_cell BK225.out 6).trans rfl; have hcz19_7:w18.cell? ⟨gb225,7,none⟩=some (.bool a0_7):=(blk_cell BK225.out 7).trans rfl; have hcz19_8:w18.cell? ⟨gb225,8,none⟩=some (.int .u64 a0_8):=(blk_cell BK225.out 8).trans rfl; have hcz19_9:w18.cell? ⟨gb225,9,none⟩=some (.bool a0_9):=(blk_cell BK225.out 9).trans rfl; have hfz19_0:=blk_frozen BK225.out 0; have hfz19_1:=blk_frozen BK225.out 1; have hfz19_2:=blk_frozen BK225.out 2; have hfz19_3:=blk_frozen BK225.out 3; have hfz19_4:=blk_frozen BK225.out 4; have hfz19_5:=blk_frozen BK225.out 5; have hfz19_6:=blk_frozen BK225.out 6; have hfz19_7:=blk_frozen BK225.out 7; have hfz19_8:=blk_frozen BK225.out 8; have hfz19_9:=blk_frozen BK225.out 9) | ((with_reducible refine gate_callee (f:=16) rfl ?_); refine goesL_ (some 26) rfl rfl Tryz.func16 (by kernel_rfl) rfl #[.agg #[.int .u64 a0_0,.bool a0_1,.int .u64 a0_2,.bool a0_3,.int .u64 a0_4,.bool a0_5,.int .u64 a0_6,.bool a0_7,.int .u64 a0_8,.bool a0_9],.int .i64 a1,.int .i64 a2] rfl (by (try simp only [List.map_toArray,List.map_cons,List.map_nil]); first | done | rfl | (simp only [List.length_drop,List.length_take]; rfl)) ?_; (with_reducible refine (complineref22_Count.calls a0_0 a0_1 a0_2 a0_3 a0_4 a0_5 a0_6 a0_7 a0_8 a0_9 a1 a2 t229 t230 _ A7.out).mono ?_); rintro e w20 ⟨rfl,hb⟩; refine ⟨_,rfl,?_⟩; have n0_:=Aside0.mk (blk_below (g:=gb225) (o:=.cells #[.int .u64 a0_0,.bool a0_1,.int .u64 a0_2,.bool a0_3,.int .u64 a0_4,.bool a0_5,.int .u64 a0_6,.bool a0_7,.int .u64 a0_8,.bool a0_9] 26 (0,0)) (by (with_reducible repeat (first | refine blk_drewN ?_ _ | refine blk_drew ?_ | refine blk_alloc ?_ _)); exact BK225.out) hb); have n1_:=Aside0.mk (below_step (by repeat (first | (with_reducible first | exact HB.out | apply below_alloc | apply pw_below_drewN | apply below_drew1 | refine below_set ?_ GE225.out) | exact HB.out)) hb); clear BK225; clear HB; have BK225:=n0_; have HB:=n1_; clear n0_ n1_; (try clear hb); (try clear hb2); (try clear hk); (try clear hi)))
   go_ret
   exact ⟨by first | rfl | (simp [errW_none,errW_some] <;> rfl) | (simp [*,errW_none,errW_some] <;> rfl),by repeat (first | (with_reducible first | exact HB.out | apply below_alloc | apply pw_below_drewN | apply below_drew1 | refine below_set ?_ GE225.out) | exact HB.out)⟩
 ·replace c5:=Bool.eq_false_iff.mpr c5
  subst c5
  have H1:(some false)=some r:=by rw [if_neg (show ¬ (false=true) by decide)] at H; exact H
  clear H
  have H:=H1
  clear H1
  obtain rfl:=Option.some.inj H
  go_enter Tryz.func5,Tryz.ntmps5
  go_wp2_with (first | ((with_reducible refine gate_dst (N:=3) rfl ?_); refine box_event ?hg (N:=3) ?hd (cs:=#[.int .u64 a0_0,.bool a0_1,.int .u64 a0_2,.bool a0_3,.int .u64 a0_4,.bool a0_5,.int .u64 a0_6,.bool a0_7,.int .u64 a0_8,.bool a0_9]) (t:=26) ?hr ?_; (case hd=>rfl); (case hg=>rfl); (case hr=>first | (go_simp; done) | (go_simp; rfl)); intro gb225 hg w21 hbox hb; have n0_:=Aside0.mk (below_step (by repeat (first | (with_reducible first | exact HB.out | apply below_alloc | apply pw_below_drewN | apply below_drew1) | exact HB.out)) hb); have n1_:=Aside0.mk (hbox); have n2_:=Aside0.mk ((by rw [hg]; exact (below_size (by repeat (first | (with_reducible first | exact HB.out | apply below_alloc | apply pw_below_drewN | apply below_drew1) | exact HB.out))):w.heap.size≤gb225)); have n3_:=Aside0.mk ((by rw [hg]; exact (below_size (by repeat (first | (with_reducible first | exact HB.out | apply below_alloc | apply pw_below_drewN | apply below_drew1) | exact HB.out))):w.heap.size≤gb225)); clear HB; have HB:=n0_; have BK225:=n1_; have GW225:=n2_; have GE225:=n3_; clear n0_ n1_ n2_ n3_; clear hb hbox hg) | ((with_reducible refine gate_callee (f:=10) rfl ?_); refine goesL_ (some 12) rfl rfl Tryz.func10 (by kernel_rfl) rfl #[] rfl (by (try simp only [List.map_toArray,List.map_cons,List.map_nil]); first | done | rfl | (simp only [List.length_drop,List.length_take]; rfl)) ?_; (with_reducible refine (complinelaw22_works.calls  false _ (hT.keep (by repeat (first | (with_reducible first | exact HB.out | apply below_alloc | apply pw_below_drewN | apply below_drew1 | refine below_set ?_ GE225.out) | exact HB.out))) A4.out).mono ?_); rintro e w22 ⟨rfl,hb⟩; refine ⟨_,rfl,?_⟩; have n0_:=Aside0.mk (blk_below (g:=gb225) (o:=.cells #[.int .u64 a0_0,.bool a0_1,.int .u64 a0_2,.bool a0_3,.int .u64 a0_4,.bool a0_5,.int .u64 a0_6,.bool a0_7,.int .u64 a0_8,.bool a0_9] 26 (0,0)) (by (with_reducible repeat (first | refine blk_drewN ?_ _ | refine blk_drew ?_ | refine blk_alloc ?_ _)); exact BK225.out) hb); have n1_:=Aside0.mk (below_step (by repeat (first | (with_reducible first | exact HB.out | apply below_alloc | apply pw_below_drewN | apply below_drew1 | refine below_set ?_ GE225.out) | exact HB.out)) hb); clear BK225; clear HB; have BK225:=n0_; have HB:=n1_; clear n0_ n1_; (try clear hb); (try clear hb2); (try clear hk); (try clear hi)))
  go_ret
  exact ⟨by first | rfl | (simp [errW_none,errW_some] <;> rfl) | (simp [*,errW_none,errW_some] <;> rfl),by repeat (first | (with_reducible first | exact HB.out | apply below_alloc | apply pw_below_drewN | apply below_drew1 | refine below_set ?_ GE225.out) | exact HB.out)⟩
end Go.Proofs.YtabhfcoljgcpeaaGreatDoor.PNex
