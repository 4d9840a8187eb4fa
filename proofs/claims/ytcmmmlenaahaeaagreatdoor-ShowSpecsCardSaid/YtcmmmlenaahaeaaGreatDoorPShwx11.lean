-- Written by a program of this session (gprint.py) over the kit's print.
import Derived.Test.YtcmmmlenaahaeaaGreatDoorPShwx0
import Derived.Test.YtcmmmlenaahaeaaGreatDoorPShwx3
import Derived.Test.YtcmmmlenaahaeaaGreatDoorPShwx4
import Derived.Test.YtcmmmlenaahaeaaGreatDoorPShwx5
import Derived.Test.YtcmmmlenaahaeaaGreatDoorPShwx6
import Derived.Test.YtcmmmlenaahaeaaGreatDoorPShwx10
namespace Go.Proofs.YtcmmmlenaahaeaaGreatDoor.PShw
open Go.RowKit Go.Proofs.YtcmmmlenaahaeaaGreatDoorW.PrintWords Go.Proofs.YtcmmmlenaahaeaaGreatDoorW.PrintLast Go.Proofs.YtcmmmlenaahaeaaGreatDoorW.PrintMore
attribute [local go_sem] max2_int min2_int max_two min_two max_three min_three max_four min_four
set_option linter.unusedVariables false
set_option linter.unusedSimpArgs false
def show_Tidy.f (a0:ByteArray):Option (ByteArray × Int × Int):=(spec_Parse.f a0).bind fun bt114=>(if bt114.2.2.2.2.2.2.2.2.2.2.2=0 then ((show_Spec.f bt114.1 bt114.2.1 bt114.2.2.1 bt114.2.2.2.1 bt114.2.2.2.2.1 bt114.2.2.2.2.2.1 bt114.2.2.2.2.2.2.1 bt114.2.2.2.2.2.2.2.1 bt114.2.2.2.2.2.2.2.2.1 bt114.2.2.2.2.2.2.2.2.2.1).bind fun bt127=>(some (bt127.1,bt127.2.1,bt127.2.2))) else (some ((⟨#[]⟩:ByteArray),bt114.2.2.2.2.2.2.2.2.2.2.1,bt114.2.2.2.2.2.2.2.2.2.2.2)))
set_option maxHeartbeats 8000000 in
set_option maxRecDepth 100000 in
theorem show_Tidy.calls (a0:ByteArray)(r1:ByteArray)(r2:Int)(r3:Int)(w:World)(hT:Tab w)(h:show_Tidy.f a0=some (r1,r2,r3)) :
  Calls Tryz.prog 14 #[.string a0] w fun e w'=>e=.returned (.tuple #[.string r1,.int .i64 r2,.int .i64 r3])∧Below w.heap.size w w':=by
 have hu31:=Tryz.underlying31
 have HB:=Aside0.mk (Below.refl w.heap.size w)
 have H:((spec_Parse.f a0).bind fun bt114=>(if bt114.2.2.2.2.2.2.2.2.2.2.2=0 then ((show_Spec.f bt114.1 bt114.2.1 bt114.2.2.1 bt114.2.2.2.1 bt114.2.2.2.2.1 bt114.2.2.2.2.2.1 bt114.2.2.2.2.2.2.1 bt114.2.2.2.2.2.2.2.1 bt114.2.2.2.2.2.2.2.2.1 bt114.2.2.2.2.2.2.2.2.2.1).bind fun bt127=>(some (bt127.1,bt127.2.1,bt127.2.2))) else (some ((⟨#[]⟩:ByteArray),bt114.2.2.2.2.2.2.2.2.2.2.1,bt114.2.2.2.2.2.2.2.2.2.2.2))))=some (r1,r2,r3):=h
 clear h
 replace H:=Option.bind_eq_some_iff.mp H
 obtain ⟨⟨t114,t115,t116,t117,t118,t119,t120,t121,t122,t123,t124,t125⟩,A20,H⟩ :=H
 replace H:(if t125=0 then ((show_Spec.f t114 t115 t116 t117 t118 t119 t120 t121 t122 t123).bind fun bt127=>(some (bt127.1,bt127.2.1,bt127.2.2))) else (some ((⟨#[]⟩:ByteArray),t124,t125)))=some (r1,r2,r3):=H
 have A2:=Aside0.mk A20
 clear A20
 by_cases c3:t125=0
 ·rw [if_pos c3] at H
  have c3b0:(t125 == 0)=true:=beq_iff_eq.mpr c3
  have c3b1:(t125 != 0)=false:=bne_eq_false_iff_eq.mpr c3
  clear c3
  replace H:=Option.bind_eq_some_iff.mp H
  obtain ⟨⟨t127,t128,t129⟩,A40,H⟩ :=H
  replace H:(some (t127,t128,t129))=some (r1,r2,r3):=H
  have A4:=Aside0.mk A40
  clear A40
  simp only [Option.some.injEq,Prod.mk.injEq] at H
  obtain ⟨rfl,rfl,rfl⟩ :=H
  go_enter Tryz.func14,Tryz.ntmps14
  go_wp2_with (first | ((with_reducible refine gate_callee (f:=18) rfl ?_); refine goesL_ (some 10) rfl rfl Tryz.func18 (by kernel_rfl) rfl #[.string a0] rfl (by (try simp only [List.map_toArray,List.map_cons,List.map_nil]); first | done | rfl | (simp only [List.length_drop,List.length_take]; rfl)) ?_; (with_reducible refine (spec_Parse.calls a0 t114 t115 t116 t117 t118 t119 t120 t121 t122 t123 t124 t125 _ (hT.keep (by repeat (first | (with_reducible first | exact HB.out | apply below_alloc | apply pw_below_drewN | apply below_drew1 | refine below_set ?_ GE126.out) | exact HB.out))) A2.out).mono ?_); rintro e w5 ⟨rfl,hb⟩; refine ⟨_,rfl,?_⟩; have n0_:=Aside0.mk (below_step (by repeat (first | (with_reducible first | exact HB.out | apply below_alloc | apply pw_below_drewN | apply below_drew1) | exact HB.out)) hb); clear HB; have HB:=n0_; clear n0_; (try clear hb); (try clear hb2); (try clear hk); (try clear hi)) | ((with_reducible refine gate_dst (N:=5) rfl ?_); refine box_event ?hg (N:=5) ?hd (cs:=#[.int .u64 0,.bool false,.int .u64 0,.bool false,.int .u64 0,.bool false,.int .u64 0,.bool false,.int .u64 0,.bool false]) (t:=31) ?hr ?_; (case hd=>rfl); (case hg=>rfl); (case hr=>first | (go_simp; done) | (go_simp; rfl)); intro gb126 hg w6 hbox hb; have n0_:=Aside0.mk (below_step (by repeat (first | (with_reducible first | exact HB.out | apply below_alloc | apply pw_below_drewN | apply below_drew1) | exact HB.out)) hb); have n1_:=Aside0.mk (hbox); have n2_:=Aside0.mk ((by rw [hg]; exact (below_size (by repeat (first | (with_reducible first | exact HB.out | apply below_alloc | apply pw_below_drewN | apply below_drew1) | exact HB.out))):w.heap.size≤gb126)); have n3_:=Aside0.mk ((by rw [hg]; exact (below_size (by repeat (first | (with_reducible first | exact HB.out | apply below_alloc | apply pw_below_drewN | apply below_drew1) | exact HB.out))):w.heap.size≤gb126)); clear HB; have HB:=n0_; have BK126:=n1_; have GW126:=n2_; have GE126:=n3_; clear n0_ n1_ n2_ n3_; clear hb hbox hg; have hcz7_0:w6.cell? ⟨gb126,0,none⟩=some (.int .u64 0):=(blk_cell BK126.out 0).trans rfl; have hcz7_1:w6.cell? ⟨gb126,1,none⟩=some (.bool false):=(blk_cell BK126.out 1).trans rfl; have hcz7_2:w6.cell? ⟨gb126,2,none⟩=some (.int .u64 0):=(blk_cell BK126.out 2).trans rfl; have hcz7_3:w6.cell? ⟨gb126,3,none⟩=some (.bool false):=(blk_cell BK126.out 3).trans rfl; have hcz7_4:w6.cell? ⟨gb126,4,none⟩=some (.int .u64 0):=(blk_cell BK126.out 4).trans rfl; have hcz7_5:w6.cell? ⟨gb126,5,none⟩=some (.bool false):=(blk_cell BK126.out 5).trans rfl; have hcz7_6:w6.cell? ⟨gb126,6,none⟩=some (.int .u64 0):=(blk_cell BK126.out 6).trans rfl; have hcz7_7:w6.cell? ⟨gb126,7,none⟩=some (.bool false):=(blk_cell BK126.out 7).trans rfl; have hcz7_8:w6.cell? ⟨gb126,8,none⟩=some (.int .u64 0):=(blk_cell BK126.out 8).trans rfl; have hcz7_9:w6.cell? ⟨gb126,9,none⟩=some (.bool false):=(blk_cell BK126.out 9).trans rfl; have hfz7_0:=blk_frozen BK126.out 0; have hfz7_1:=blk_frozen BK126.out 1; have hfz7_2:=blk_frozen BK126.out 2; have hfz7_3:=blk_frozen BK126.out 3; have hfz7_4:=blk_frozen BK126.out 4; have hfz7_5:=blk_frozen BK126.out 5; have hfz7_6:=blk_frozen BK126.out 6; have hfz7_7:=blk_frozen BK126.out 7; have hfz7_8:=blk_frozen BK126.out 8; have hfz7_9:=blk_frozen BK126.out 9) | ((with_reducible refine gate_callee (f:=12) rfl ?_); refine goesL_ (some 19) rfl rfl Tryz.func12 (by kernel_rfl) rfl #[.agg #[.int .u64 t114,.bool t115,.int .u64 t116,.bool t117,.int .u64 t118,.bool t119,.int .u64 t120,.bool t121,.int .u64 t122,.bool t123]] rfl (by (try simp only [List.map_toArray,List.map_cons,List.map_nil]); first | done | rfl | (simp only [List.length_drop,List.length_take]; rfl)) ?_; (with_reducible refine (show_Spec.calls t114 t115 t116 t117 t118 t119 t120 t121 t122 t123 t127 t128 t129 _ (hT.keep (by repeat (first | (with_reducible first | exact HB.out | apply below_alloc | apply pw_below_drewN | apply below_drew1 | refine below_set ?_ GE126.out) | exact HB.out))) A4.out).mono ?_); rintro e w8 ⟨rfl,hb⟩; refine ⟨_,rfl,?_⟩; have n0_:=Aside0.mk (blk_below (g:=gb126) (o:=.cells #[.int .u64 t114,.bool t115,.int .u64 t116,.bool t117,.int .u64 t118,.bool t119,.int .u64 t120,.bool t121,.int .u64 t122,.bool t123] 31 (0,0)) (by (with_reducible repeat (first | refine blk_drewN ?_ _ | refine blk_drew ?_ | refine blk_alloc ?_ _)); refine blk_put (cs:=#[.int .u64 t114,.bool t115,.int .u64 t116,.bool t117,.int .u64 t118,.bool t119,.int .u64 t120,.bool t121,.int .u64 t122,.bool false]) ?_ 9 _ rfl; (with_reducible repeat (first | refine blk_drewN ?_ _ | refine blk_drew ?_ | refine blk_alloc ?_ _)); refine blk_put (cs:=#[.int .u64 t114,.bool t115,.int .u64 t116,.bool t117,.int .u64 t118,.bool t119,.int .u64 t120,.bool t121,.int .u64 0,.bool false]) ?_ 8 _ rfl; (with_reducible repeat (first | refine blk_drewN ?_ _ | refine blk_drew ?_ | refine blk_alloc ?_ _)); refine blk_put (cs:=#[.int .u64 t114,.bool t115,.int .u64 t116,.bool t117,.int .u64 t118,.bool t119,.int .u64 t120,.bool false,.int .u64 0,.bool false]) ?_ 7 _ rfl; (with_reducible repeat (first | refine blk_drewN ?_ _ | refine blk_drew ?_ | refine blk_alloc ?_ _)); refine blk_put (cs:=#[.int .u64 t114,.bool t115,.int .u64 t116,.bool t117,.int .u64 t118,.bool t119,.int .u64 0,.bool false,.int .u64 0,.bool false]) ?_ 6 _ rfl; (with_reducible repeat (first | refine blk_drewN ?_ _ | refine blk_drew ?_ | refine blk_alloc ?_ _)); refine blk_put (cs:=#[.int .u64 t114,.bool t115,.int .u64 t116,.bool t117,.int .u64 t118,.bool false,.int .u64 0,.bool false,.int .u64 0,.bool false]) ?_ 5 _ rfl; (with_reducible repeat (first | refine blk_drewN ?_ _ | refine blk_drew ?_ | refine blk_alloc ?_ _)); refine blk_put (cs:=#[.int .u64 t114,.bool t115,.int .u64 t116,.bool t117,.int .u64 0,.bool false,.int .u64 0,.bool false,.int .u64 0,.bool false]) ?_ 4 _ rfl; (with_reducible repeat (first | refine blk_drewN ?_ _ | refine blk_drew ?_ | refine blk_alloc ?_ _)); refine blk_put (cs:=#[.int .u64 t114,.bool t115,.int .u64 t116,.bool false,.int .u64 0,.bool false,.int .u64 0,.bool false,.int .u64 0,.bool false]) ?_ 3 _ rfl; (with_reducible repeat (first | refine blk_drewN ?_ _ | refine blk_drew ?_ | refine blk_alloc ?_ _)); refine blk_put (cs:=#[.int .u64 t114,.bool t115,.int .u64 0,.bool false,.int .u64 0,.bool false,.int .u64 0,.bool false,.int .u64 0,.bool false]) ?_ 2 _ rfl; (with_reducible repeat (first | refine blk_drewN ?_ _ | refine blk_drew ?_ | refine blk_alloc ?_ _)); refine blk_put (cs:=#[.int .u64 t114,.bool false,.int .u64 0,.bool false,.int .u64 0,.bool false,.int .u64 0,.bool false,.int .u64 0,.bool false]) ?_ 1 _ rfl; (with_reducible repeat (first | refine blk_drewN ?_ _ | refine blk_drew ?_ | refine blk_alloc ?_ _)); refine blk_put (cs:=#[.int .u64 0,.bool false,.int .u64 0,.bool false,.int .u64 0,.bool false,.int .u64 0,.bool false,.int .u64 0,.bool false]) ?_ 0 _ rfl; (with_reducible repeat (first | refine blk_drewN ?_ _ | refine blk_drew ?_ | refine blk_alloc ?_ _)); exact BK126.out) hb); have n1_:=Aside0.mk (below_step (by repeat (first | (with_reducible first | exact HB.out | apply below_alloc | apply pw_below_drewN | apply below_drew1 | refine below_set ?_ GE126.out) | exact HB.out)) hb); clear BK126; clear HB; have BK126:=n0_; have HB:=n1_; clear n0_ n1_; (try clear hb); (try clear hb2); (try clear hk); (try clear hi)))
  go_ret3
  exact ⟨by first | rfl | (simp [errW_none,errW_some] <;> rfl) | (simp [*,errW_none,errW_some] <;> rfl),by repeat (first | (with_reducible first | exact HB.out | apply below_alloc | apply pw_below_drewN | apply below_drew1 | refine below_set ?_ GE126.out) | exact HB.out)⟩
 ·rw [if_neg c3] at H
  have c3b0:(t125 == 0)=false:=beq_eq_false_iff_ne.mpr c3
  have c3b1:(t125 != 0)=true:=bne_iff_ne.mpr c3
  simp only [Option.some.injEq,Prod.mk.injEq] at H
  obtain ⟨rfl,rfl,rfl⟩ :=H
  go_enter Tryz.func14,Tryz.ntmps14
  go_wp2_with (first | ((with_reducible refine gate_callee (f:=18) rfl ?_); refine goesL_ (some 10) rfl rfl Tryz.func18 (by kernel_rfl) rfl #[.string a0] rfl (by (try simp only [List.map_toArray,List.map_cons,List.map_nil]); first | done | rfl | (simp only [List.length_drop,List.length_take]; rfl)) ?_; (with_reducible refine (spec_Parse.calls a0 t114 t115 t116 t117 t118 t119 t120 t121 t122 t123 t124 t125 _ (hT.keep (by repeat (first | (with_reducible first | exact HB.out | apply below_alloc | apply pw_below_drewN | apply below_drew1 | refine below_set ?_ GE126.out) | exact HB.out))) A2.out).mono ?_); rintro e w9 ⟨rfl,hb⟩; refine ⟨_,rfl,?_⟩; have n0_:=Aside0.mk (below_step (by repeat (first | (with_reducible first | exact HB.out | apply below_alloc | apply pw_below_drewN | apply below_drew1) | exact HB.out)) hb); clear HB; have HB:=n0_; clear n0_; (try clear hb); (try clear hb2); (try clear hk); (try clear hi)) | ((with_reducible refine gate_dst (N:=5) rfl ?_); refine box_event ?hg (N:=5) ?hd (cs:=#[.int .u64 0,.bool false,.int .u64 0,.bool false,.int .u64 0,.bool false,.int .u64 0,.bool false,.int .u64 0,.bool false]) (t:=31) ?hr ?_; (case hd=>rfl); (case hg=>rfl); (case hr=>first | (go_simp; done) | (go_simp; rfl)); intro gb126 hg w10 hbox hb; have n0_:=Aside0.mk (below_step (by repeat (first | (with_reducible first | exact HB.out | apply below_alloc | apply pw_below_drewN | apply below_drew1) | exact HB.out)) hb); have n1_:=Aside0.mk (hbox); have n2_:=Aside0.mk ((by rw [hg]; exact (below_size (by repeat (first | (with_reducible first | exact HB.out | apply below_alloc | apply pw_below_drewN | apply below_drew1) | exact HB.out))):w.heap.size≤gb126)); have n3_:=Aside0.mk ((by rw [hg]; exact (below_size (by repeat (first | (with_reducible first | exact HB.out | apply below_alloc | apply pw_below_drewN | apply below_drew1) | exact HB.out))):w.heap.size≤gb126)); clear HB; have HB:=n0_; have BK126:=n1_; have GW126:=n2_; have GE126:=n3_; clear n0_ n1_ n2_ n3_; clear hb hbox hg; have hcz11_0:w10.cell? ⟨gb126,0,none⟩=some (.int .u64 0):=(blk_cell BK126.out 0).trans rfl; have hcz11_1:w10.cell? ⟨gb126,1,none⟩=some (.bool false):=(blk_cell BK126.out 1).trans rfl; have hcz11_2:w10.cell? ⟨gb126,2,none⟩=some (.int .u64 0):=(blk_cell BK126.out 2).trans rfl; have hcz11_3:w10.cell? ⟨gb126,3,none⟩=some (.bool false):=(blk_cell BK126.out 3).trans rfl; have hcz11_4:w10.cell? ⟨gb126,4,none⟩=some (.int .u64 0):=(blk_cell BK126.out 4).trans rfl; have hcz11_5:w10.cell? ⟨gb126,5,none⟩=some (.bool false):=(blk_cell BK126.out 5).trans rfl; have hcz11_6:w10.cell? ⟨gb126,6,none⟩=some (.int .u64 0):=(blk_cell BK126.out 6).trans rfl; have hcz11_7:w10.cell? ⟨gb126,7,none⟩=some (.bool false):=(blk_cell BK126.out 7).trans rfl; have hcz11_8:w10.cell? ⟨gb126,8,none⟩=some (.int .u64 0):=(blk_cell BK126.out 8).trans rfl; have hcz11_9:w10.cell? ⟨gb126,9,none⟩=some (.bool false):=(blk_cell BK126.out 9).trans rfl; have hfz11_0:=blk_frozen BK126.out 0; have hfz11_1:=blk_frozen BK126.out 1; have hfz11_2:=blk_frozen BK126.out 2; have hfz11_3:=blk_frozen BK126.out 3; have hfz11_4:=blk_frozen BK126.out 4; have hfz11_5:=blk_frozen BK126.out 5; have hfz11_6:=blk_frozen BK126.out 6; have hfz11_7:=blk_frozen BK126.out 7; have hfz11_8:=blk_frozen BK126.out 8; have hfz11_9:=blk_frozen BK126.out 9))
  go_ret3
  exact ⟨by first | rfl | (simp [errW_none,errW_some] <;> rfl) | (simp [*,errW_none,errW_some] <;> rfl),by repeat (first | (with_reducible first | exact HB.out | apply below_alloc | apply pw_below_drewN | apply below_drew1 | refine below_set ?_ GE126.out) | exact HB.out)⟩
def field_All.f (a0:Int):Option (Int × Bool × Int):=(field_limits.f a0).bind fun bt131=>(if bt131.2.2=0 then ((field_every.f bt131.1 bt131.2.1).bind fun t134=>(some (t134,true,0))) else (some (0,false,bt131.2.2)))
set_option maxHeartbeats 8000000 in
set_option maxRecDepth 100000 in
theorem field_All.calls (a0:Int)(r1:Int)(r2:Bool)(r3:Int)(w:World)(h:field_All.f a0=some (r1,r2,r3)) :
  Calls Tryz.prog 44 #[.int .i64 a0] w fun e w'=>e=.returned (.tuple #[.agg #[.int .u64 r1,.bool r2],.int .i64 r3])∧Below w.heap.size w w':=by
 have hu24:=Tryz.underlying24
 have HB:=Aside0.mk (Below.refl w.heap.size w)
 have H:((field_limits.f a0).bind fun bt131=>(if bt131.2.2=0 then ((field_every.f bt131.1 bt131.2.1).bind fun t134=>(some (t134,true,0))) else (some (0,false,bt131.2.2))))=some (r1,r2,r3):=h
 clear h
 replace H:=Option.bind_eq_some_iff.mp H
 obtain ⟨⟨t131,t132,t133⟩,A20,H⟩ :=H
 replace H:(if t133=0 then ((field_every.f t131 t132).bind fun t134=>(some (t134,true,0))) else (some (0,false,t133)))=some (r1,r2,r3):=H
 have A2:=Aside0.mk A20
 clear A20
 by_cases c3:t133=0
 ·rw [if_pos c3] at H
  have c3b0:(t133 == 0)=true:=beq_iff_eq.mpr c3
  have c3b1:(t133 != 0)=false:=bne_eq_false_iff_eq.mpr c3
  clear c3
  replace H:=Option.bind_eq_some_iff.mp H
  obtain ⟨t134,A40,H⟩ :=H
  replace H:(some (t134,true,0))=some (r1,r2,r3):=H
  have A4:=Aside0.mk A40
  clear A40
  simp only [Option.some.injEq,Prod.mk.injEq] at H
  obtain ⟨rfl,rfl,rfl⟩ :=H
  go_enter Tryz.func44,Tryz.ntmps44
  go_wp2_with (first | ((with_reducible refine gate_dst (N:=2) rfl ?_); refine box_event ?hg (N:=2) ?hd (cs:=#[.int .u64 0,.bool false]) (t:=24) ?hr ?_; (case hd=>rfl); (case hg=>rfl); (case hr=>first | (go_simp; done) | (go_simp; rfl)); intro gb130 hg w5 hbox hb; have n0_:=Aside0.mk (below_step (by repeat (first | (with_reducible first | exact HB.out | apply below_alloc | apply pw_below_drewN | apply below_drew1) | exact HB.out)) hb); have n1_:=Aside0.mk (hbox); have n2_:=Aside0.mk ((by rw [hg]; exact (below_size (by repeat (first | (with_reducible first | exact HB.out | apply below_alloc | apply pw_below_drewN | apply below_drew1) | exact HB.out))):w.heap.size≤gb130)); have n3_:=Aside0.mk ((by rw [hg]; exact (below_size (by repeat (first | (with_reducible first | exact HB.out | apply below_alloc | apply pw_below_drewN | apply below_drew1) | exact HB.out))):w.heap.size≤gb130)); clear HB; have HB:=n0_; have BK130:=n1_; have GW130:=n2_; have GE130:=n3_; clear n0_ n1_ n2_ n3_; clear hb hbox hg) | ((with_reducible refine gate_callee (f:=34) rfl ?_); refine goesL_ (some 9) rfl rfl Tryz.func34 (by kernel_rfl) rfl #[.int .i64 a0] rfl (by (try simp only [List.map_toArray,List.map_cons,List.map_nil]); first | done | rfl | (simp only [List.length_drop,List.length_take]; rfl)) ?_; (with_reducible refine (field_limits.calls a0 t131 t132 t133 _ A2.out).mono ?_); rintro e w' ⟨rfl,⟨nd,rfl⟩⟩; refine ⟨_,rfl,?_⟩; (try (rw [drewN_self w5]; generalize hq_:World.drewN w5 _=w5; have n0_:Aside0 (w5.heap[gb130]?=some (.cells #[.int .u64 0,.bool false] 24 (0,0))):=⟨by rw [← hq_]; exact (by (with_reducible repeat (first | refine blk_drewN ?_ _ | refine blk_drew ?_ | refine blk_alloc ?_ _)); exact BK130.out)⟩; have n1_:Aside0 (Below w.heap.size w w5):=⟨by rw [← hq_]; exact (by repeat (first | (with_reducible first | exact HB.out | apply below_alloc | apply pw_below_drewN | apply below_drew1 | refine below_set ?_ GE130.out) | exact HB.out))⟩; clear BK130 HB hq_; have BK130:=n0_; have HB:=n1_; clear n0_ n1_))) | ((with_reducible refine gate_callee (f:=35) rfl ?_); refine goesL_ (some 19) rfl rfl Tryz.func35 (by kernel_rfl) rfl #[.int .i64 t131,.int .i64 t132] rfl (by (try simp only [List.map_toArray,List.map_cons,List.map_nil]); first | done | rfl | (simp only [List.length_drop,List.length_take]; rfl)) ?_; (with_reducible refine (field_every.calls t131 t132 t134 _ A4.out).mono ?_); rintro e w' ⟨rfl,⟨nd,rfl⟩⟩; refine ⟨_,rfl,?_⟩; (try (rw [drewN_self w5]; generalize hq_:World.drewN w5 _=w5; have n0_:Aside0 (w5.heap[gb130]?=some (.cells #[.int .u64 0,.bool false] 24 (0,0))):=⟨by rw [← hq_]; exact (by (with_reducible repeat (first | refine blk_drewN ?_ _ | refine blk_drew ?_ | refine blk_alloc ?_ _)); exact BK130.out)⟩; have n1_:Aside0 (Below w.heap.size w w5):=⟨by rw [← hq_]; exact (by repeat (first | (with_reducible first | exact HB.out | apply below_alloc | apply pw_below_drewN | apply below_drew1 | refine below_set ?_ GE130.out) | exact HB.out))⟩; clear BK130 HB hq_; have BK130:=n0_; have HB:=n1_; clear n0_ n1_)); have hcz6_0:w5.cell? ⟨gb130,0,none⟩=some (.int .u64 0):=(blk_cell BK130.out 0).trans rfl; have hcz6_1:w5.cell? ⟨gb130,1,none⟩=some (.bool false):=(blk_cell BK130.out 1).trans rfl; have hfz6_0:=blk_frozen BK130.out 0; have hfz6_1:=blk_frozen BK130.out 1))
  refine bodyPost_ret (results_ct rfl _ _ gb130 24 #[.int .u64 t134,.bool true] (0,0) _ rfl (by (with_reducible repeat (first | refine blk_drewN ?_ _ | refine blk_drew ?_ | refine blk_alloc ?_ _)); refine blk_put (cs:=#[.int .u64 t134,.bool false]) ?_ 1 _ rfl; (with_reducible repeat (first | refine blk_drewN ?_ _ | refine blk_drew ?_ | refine blk_alloc ?_ _)); refine blk_put (cs:=#[.int .u64 0,.bool false]) ?_ 0 _ rfl; (with_reducible repeat (first | refine blk_drewN ?_ _ | refine blk_drew ?_ | refine blk_alloc ?_ _)); exact BK130.out) Tryz.underlying24 rfl (by kernel_rfl)) rfl ?_
  exact ⟨by first | rfl | (simp [errW_none,errW_some] <;> rfl) | (simp [*,errW_none,errW_some] <;> rfl),by repeat (first | (with_reducible first | exact HB.out | apply below_alloc | apply pw_below_drewN | apply below_drew1 | refine below_set ?_ GE130.out) | exact HB.out)⟩
 ·rw [if_neg c3] at H
  have c3b0:(t133 == 0)=false:=beq_eq_false_iff_ne.mpr c3
  have c3b1:(t133 != 0)=true:=bne_iff_ne.mpr c3
  simp only [Option.some.injEq,Prod.mk.injEq] at H
  obtain ⟨rfl,rfl,rfl⟩ :=H
  go_enter Tryz.func44,Tryz.ntmps44
  go_wp2_with (first | ((with_reducible refine gate_dst (N:=2) rfl ?_); refine box_event ?hg (N:=2) ?hd (cs:=#[.int .u64 0,.bool false]) (t:=24) ?hr ?_; (case hd=>rfl); (case hg=>rfl); (case hr=>first | (go_simp; done) | (go_simp; rfl)); intro gb130 hg w7 hbox hb; have n0_:=Aside0.mk (below_step (by repeat (first | (with_reducible first | exact HB.out | apply below_alloc | apply pw_below_drewN | apply below_drew1) | exact HB.out)) hb); have n1_:=Aside0.mk (hbox); have n2_:=Aside0.mk ((by rw [hg]; exact (below_size (by repeat (first | (with_reducible first | exact HB.out | apply below_alloc | apply pw_below_drewN | apply below_drew1) | exact HB.out))):w.heap.size≤gb130)); have n3_:=Aside0.mk ((by rw [hg]; exact (below_size (by repeat (first | (with_reducible first | exact HB.out | apply below_alloc | apply pw_below_drewN | apply below_drew1) | exact HB.out))):w.heap.size≤gb130)); clear HB; have HB:=n0_; have BK130:=n1_; have GW130:=n2_; have GE130:=n3_; clear n0_ n1_ n2_ n3_; clear hb hbox hg) | ((with_reducible refine gate_callee (f:=34) rfl ?_); refine goesL_ (some 9) rfl rfl Tryz.func34 (by kernel_rfl) rfl #[.int .i64 a0] rfl (by (try simp only [List.map_toArray,List.map_cons,List.map_nil]); first | done | rfl | (simp only [List.length_drop,List.length_take]; rfl)) ?_; (with_reducible refine (field_limits.calls a0 t131 t132 t133 _ A2.out).mono ?_); rintro e w' ⟨rfl,⟨nd,rfl⟩⟩; refine ⟨_,rfl,?_⟩; (try (rw [drewN_self w7]; generalize hq_:World.drewN w7 _=w7; have n0_:Aside0 (w7.heap[gb130]?=some (.cells #[.int .u64 0,.bool false] 24 (0,0))):=⟨by rw [← hq_]; exact (by (with_reducible repeat (first | refine blk_drewN ?_ _ | refine blk_drew ?_ | refine blk_alloc ?_ _)); exact BK130.out)⟩; have n1_:Aside0 (Below w.heap.size w w7):=⟨by rw [← hq_]; exact (by repeat (first | (with_reducible first | exact HB.out | apply below_alloc | apply pw_below_drewN | apply below_drew1 | refine below_set ?_ GE130.out) | exact HB.out))⟩; clear BK130 HB hq_; have BK130:=n0_; have HB:=n1_; clear n0_ n1_)); have hcz8_0:w7.cell? ⟨gb130,0,none⟩=some (.int .u64 0):=(blk_cell BK130.out 0).trans rfl; have hcz8_1:w7.cell? ⟨gb130,1,none⟩=some (.bool false):=(blk_cell BK130.out 1).trans rfl; have hfz8_0:=blk_frozen BK130.out 0; have hfz8_1:=blk_frozen BK130.out 1))
  refine bodyPost_ret (results_ct rfl _ _ gb130 24 #[.int .u64 0,.bool false] (0,0) _ rfl (by (with_reducible repeat (first | refine blk_drewN ?_ _ | refine blk_drew ?_ | refine blk_alloc ?_ _)); refine blk_put (cs:=#[.int .u64 0,.bool false]) ?_ 1 _ rfl; (with_reducible repeat (first | refine blk_drewN ?_ _ | refine blk_drew ?_ | refine blk_alloc ?_ _)); refine blk_put (cs:=#[.int .u64 0,.bool false]) ?_ 0 _ rfl; (with_reducible repeat (first | refine blk_drewN ?_ _ | refine blk_drew ?_ | refine blk_alloc ?_ _)); exact BK130.out) Tryz.underlying24 rfl (by kernel_rfl)) rfl ?_
  exact ⟨by first | rfl | (simp [errW_none,errW_some] <;> rfl) | (simp [*,errW_none,errW_some] <;> rfl),by repeat (first | (with_reducible first | exact HB.out | apply below_alloc | apply pw_below_drewN | apply below_drew1 | refine below_set ?_ GE130.out) | exact HB.out)⟩
/-! This session's own: spec.Stars. -/
set_option maxHeartbeats 8000000 in
set_option maxRecDepth 100000 in
theorem Spc.stars (w:World):Calls Tryz.prog 20 #[] w fun e w'=>e=.returned (.agg #[.int .u64 1152921504606846975,.bool true,.int .u64 16777215,.bool true,.int .u64 4294967294,.bool true,.int .u64 8190,.bool true,.int .u64 127,.bool true])∧Below w.heap.size w w':=by
 have HT:=blk_alloc (blk_new w (.cells #[.int .u64 0,.bool false,.int .u64 0,.bool false,.int .u64 0,.bool false,.int .u64 0,.bool false,.int .u64 0,.bool false] 31)) (.cells #[.int .u64 0,.bool false,.int .u64 0,.bool false,.int .u64 0,.bool false,.int .u64 0,.bool false,.int .u64 0,.bool false] 31)
 have HR:Spc.Row ((w.alloc (.cells #[.int .u64 0,.bool false,.int .u64 0,.bool false,.int .u64 0,.bool false,.int .u64 0,.bool false,.int .u64 0,.bool false] 31)).alloc (.cells #[.int .u64 0,.bool false,.int .u64 0,.bool false,.int .u64 0,.bool false,.int .u64 0,.bool false,.int .u64 0,.bool false] 31)) (w.heap.size+1) 0 false 0 false 0 false 0 false 0 false:=by
  have:=heap_alloc_new (w.alloc (.cells #[.int .u64 0,.bool false,.int .u64 0,.bool false,.int .u64 0,.bool false,.int .u64 0,.bool false,.int .u64 0,.bool false] 31)) (.cells #[.int .u64 0,.bool false,.int .u64 0,.bool false,.int .u64 0,.bool false,.int .u64 0,.bool false,.int .u64 0,.bool false] 31)
  unfold Spc.Row
  simpa using this
 have HB:=below_alloc (below_alloc (Below.refl _ _) (.cells #[.int .u64 0,.bool false,.int .u64 0,.bool false,.int .u64 0,.bool false,.int .u64 0,.bool false,.int .u64 0,.bool false] 31) (w:=w)) (.cells #[.int .u64 0,.bool false,.int .u64 0,.bool false,.int .u64 0,.bool false,.int .u64 0,.bool false,.int .u64 0,.bool false] 31)
 replace HT:=Aside0.mk HT
 replace HR:=Aside0.mk HR
 replace HB:=Aside0.mk HB
 go_enter Tryz.func20,Tryz.ntmps20
 go_wp2_with fail
 refine (Spc.fields_calls _ _).mono ?_
 rintro e V ⟨rfl,hX,hb⟩
 obtain ⟨X,hX0⟩:∃ X,((w.alloc (.cells #[.int .u64 0,.bool false,.int .u64 0,.bool false,.int .u64 0,.bool false,.int .u64 0,.bool false,.int .u64 0,.bool false] 31)).alloc (.cells #[.int .u64 0,.bool false,.int .u64 0,.bool false,.int .u64 0,.bool false,.int .u64 0,.bool false,.int .u64 0,.bool false] 31)).heap.size=X:=⟨_,rfl⟩
 have hXn:X=w.heap.size+2:=by rw [← hX0]; simp
 rw [hX0] at hX ⊢
 have HB2:=below_step HB.out hb
 have HT2:=blk_below HT.out hb
 have HR2:Spc.Row V (w.heap.size+1) 0 false 0 false 0 false 0 false 0 false:=blk_below HR.out hb
 clear HB HT HR hb hX0
 replace HB2:=Aside0.mk HB2
 replace HT2:=Aside0.mk HT2
 replace HR2:=Aside0.mk HR2
 replace hX:=Aside0.mk hX
 replace hXn:=Lib.hid hXn
 go_wp2_with fail
 refine wp_loop_rounds 6 ?_
 refine Fld.genR (fun W=>Below w.heap.size w W∧W.heap[w.heap.size]?=some (.cells #[.int .u64 0,.bool false,.int .u64 0,.bool false,.int .u64 0,.bool false,.int .u64 0,.bool false,.int .u64 0,.bool false] 31 (0,0))∧Spc.Row W (w.heap.size+1) 0 false 0 false 0 false 0 false 0 false∧Spc.Bx W X (w.heap.size+1)) ⟨HB2.out,HT2.out,HR2.out,hX.out⟩ ?_
 clear HB2 HT2 HR2 hX
 rintro W0 ⟨HB2,HT2,HR2,hX⟩
 replace HB2:=Aside0.mk HB2
 replace HT2:=Aside0.mk HT2
 replace HR2:=Aside0.mk HR2
 replace hX:=Aside0.mk hX
 rw [rounds_succ]
 have ix:=Spc.ix0 X
 go_wp2_with (go_at_call 71; refine (Spc.at0 _ _ _ hX.out).mono ?_; rintro e w' ⟨rfl,rfl⟩)
 clear ix
 refine (field_All.calls 0 1152921504606846975 true 0 _ (by decide +kernel)).mono ?_
 rintro e V0 ⟨rfl,hb⟩
 have HB3:=below_step HB2.out hb
 have HT3:=blk_below HT2.out hb
 have HR3:Spc.Row V0 (w.heap.size+1) 0 false 0 false 0 false 0 false 0 false:=blk_below HR2.out hb
 have hX3:Spc.Bx V0 X (w.heap.size+1):=blk_below hX.out hb
 clear HB2 HT2 HR2 hX hb
 have c0:V0.cell? ⟨w.heap.size+1,0,none⟩=some (.int .u64 0):=(blk_cell HR3 0).trans rfl
 have c1:V0.cell? ⟨w.heap.size+1,1,none⟩=some (.bool false):=(blk_cell HR3 1).trans rfl
 have z0:=blk_frozen HR3 0
 have z1:=blk_frozen HR3 1
 have HB2:=Aside0.mk HB3
 have HT2:=Aside0.mk HT3
 have HR2:=Aside0.mk HR3
 have hX:=Aside0.mk hX3
 clear HB3 HT3 HR3 hX3
 go_wp2_with fail
 clear c0 c1 z0 z1
 refine Fld.genR (fun W=>Below w.heap.size w W∧W.heap[w.heap.size]?=some (.cells #[.int .u64 0,.bool false,.int .u64 0,.bool false,.int .u64 0,.bool false,.int .u64 0,.bool false,.int .u64 0,.bool false] 31 (0,0))∧Spc.Row W (w.heap.size+1) 1152921504606846975 true 0 false 0 false 0 false 0 false∧Spc.Bx W X (w.heap.size+1)) ⟨below_set (below_set HB2.out (by omega)) (by omega),Spc.far HT2.out (by omega) _ _ _ _,blk_put (blk_put HR2.out 0 _ rfl) 1 _ rfl,Spc.far hX.out (by have:=hXn.out; omega) _ _ _ _⟩ ?_
 clear HB2 HT2 HR2 hX
 rintro W1 ⟨HB2,HT2,HR2,hX⟩
 replace HB2:=Aside0.mk HB2
 replace HT2:=Aside0.mk HT2
 replace HR2:=Aside0.mk HR2
 replace hX:=Aside0.mk hX
 rw [rounds_succ]
 have ix:=Spc.ix1 X
 go_wp2_with (go_at_call 72; refine (Spc.at1 _ _ _ hX.out).mono ?_; rintro e w' ⟨rfl,rfl⟩)
 clear ix
 refine (field_All.calls 1 16777215 true 0 _ (by decide +kernel)).mono ?_
 rintro e V1 ⟨rfl,hb⟩
 have HB3:=below_step HB2.out hb
 have HT3:=blk_below HT2.out hb
 have HR3:Spc.Row V1 (w.heap.size+1) 1152921504606846975 true 0 false 0 false 0 false 0 false:=blk_below HR2.out hb
 have hX3:Spc.Bx V1 X (w.heap.size+1):=blk_below hX.out hb
 clear HB2 HT2 HR2 hX hb
 have c0:V1.cell? ⟨w.heap.size+1,2,none⟩=some (.int .u64 0):=(blk_cell HR3 2).trans rfl
 have c1:V1.cell? ⟨w.heap.size+1,3,none⟩=some (.bool false):=(blk_cell HR3 3).trans rfl
 have z0:=blk_frozen HR3 2
 have z1:=blk_frozen HR3 3
 have HB2:=Aside0.mk HB3
 have HT2:=Aside0.mk HT3
 have HR2:=Aside0.mk HR3
 have hX:=Aside0.mk hX3
 clear HB3 HT3 HR3 hX3
 go_wp2_with fail
 clear c0 c1 z0 z1
 refine Fld.genR (fun W=>Below w.heap.size w W∧W.heap[w.heap.size]?=some (.cells #[.int .u64 0,.bool false,.int .u64 0,.bool false,.int .u64 0,.bool false,.int .u64 0,.bool false,.int .u64 0,.bool false] 31 (0,0))∧Spc.Row W (w.heap.size+1) 1152921504606846975 true 16777215 true 0 false 0 false 0 false∧Spc.Bx W X (w.heap.size+1)) ⟨below_set (below_set HB2.out (by omega)) (by omega),Spc.far HT2.out (by omega) _ _ _ _,blk_put (blk_put HR2.out 2 _ rfl) 3 _ rfl,Spc.far hX.out (by have:=hXn.out; omega) _ _ _ _⟩ ?_
 clear HB2 HT2 HR2 hX
 rintro W2 ⟨HB2,HT2,HR2,hX⟩
 replace HB2:=Aside0.mk HB2
 replace HT2:=Aside0.mk HT2
 replace HR2:=Aside0.mk HR2
 replace hX:=Aside0.mk hX
 rw [rounds_succ]
 have ix:=Spc.ix2 X
 go_wp2_with (go_at_call 73; refine (Spc.at2 _ _ _ hX.out).mono ?_; rintro e w' ⟨rfl,rfl⟩)
 clear ix
 refine (field_All.calls 2 4294967294 true 0 _ (by decide +kernel)).mono ?_
 rintro e V2 ⟨rfl,hb⟩
 have HB3:=below_step HB2.out hb
 have HT3:=blk_below HT2.out hb
 have HR3:Spc.Row V2 (w.heap.size+1) 1152921504606846975 true 16777215 true 0 false 0 false 0 false:=blk_below HR2.out hb
 have hX3:Spc.Bx V2 X (w.heap.size+1):=blk_below hX.out hb
 clear HB2 HT2 HR2 hX hb
 have c0:V2.cell? ⟨w.heap.size+1,4,none⟩=some (.int .u64 0):=(blk_cell HR3 4).trans rfl
 have c1:V2.cell? ⟨w.heap.size+1,5,none⟩=some (.bool false):=(blk_cell HR3 5).trans rfl
 have z0:=blk_frozen HR3 4
 have z1:=blk_frozen HR3 5
 have HB2:=Aside0.mk HB3
 have HT2:=Aside0.mk HT3
 have HR2:=Aside0.mk HR3
 have hX:=Aside0.mk hX3
 clear HB3 HT3 HR3 hX3
 go_wp2_with fail
 clear c0 c1 z0 z1
 refine Fld.genR (fun W=>Below w.heap.size w W∧W.heap[w.heap.size]?=some (.cells #[.int .u64 0,.bool false,.int .u64 0,.bool false,.int .u64 0,.bool false,.int .u64 0,.bool false,.int .u64 0,.bool false] 31 (0,0))∧Spc.Row W (w.heap.size+1) 1152921504606846975 true 16777215 true 4294967294 true 0 false 0 false∧Spc.Bx W X (w.heap.size+1)) ⟨below_set (below_set HB2.out (by omega)) (by omega),Spc.far HT2.out (by omega) _ _ _ _,blk_put (blk_put HR2.out 4 _ rfl) 5 _ rfl,Spc.far hX.out (by have:=hXn.out; omega) _ _ _ _⟩ ?_
 clear HB2 HT2 HR2 hX
 rintro W3 ⟨HB2,HT2,HR2,hX⟩
 replace HB2:=Aside0.mk HB2
 replace HT2:=Aside0.mk HT2
 replace HR2:=Aside0.mk HR2
 replace hX:=Aside0.mk hX
 rw [rounds_succ]
 have ix:=Spc.ix3 X
 go_wp2_with (go_at_call 74; refine (Spc.at3 _ _ _ hX.out).mono ?_; rintro e w' ⟨rfl,rfl⟩)
 clear ix
 refine (field_All.calls 3 8190 true 0 _ (by decide +kernel)).mono ?_
 rintro e V3 ⟨rfl,hb⟩
 have HB3:=below_step HB2.out hb
 have HT3:=blk_below HT2.out hb
 have HR3:Spc.Row V3 (w.heap.size+1) 1152921504606846975 true 16777215 true 4294967294 true 0 false 0 false:=blk_below HR2.out hb
 have hX3:Spc.Bx V3 X (w.heap.size+1):=blk_below hX.out hb
 clear HB2 HT2 HR2 hX hb
 have c0:V3.cell? ⟨w.heap.size+1,6,none⟩=some (.int .u64 0):=(blk_cell HR3 6).trans rfl
 have c1:V3.cell? ⟨w.heap.size+1,7,none⟩=some (.bool false):=(blk_cell HR3 7).trans rfl
 have z0:=blk_frozen HR3 6
 have z1:=blk_frozen HR3 7
 have HB2:=Aside0.mk HB3
 have HT2:=Aside0.mk HT3
 have HR2:=Aside0.mk HR3
 have hX:=Aside0.mk hX3
 clear HB3 HT3 HR3 hX3
 go_wp2_with fail
 clear c0 c1 z0 z1
 refine Fld.genR (fun W=>Below w.heap.size w W∧W.heap[w.heap.size]?=some (.cells #[.int .u64 0,.bool false,.int .u64 0,.bool false,.int .u64 0,.bool false,.int .u64 0,.bool false,.int .u64 0,.bool false] 31 (0,0))∧Spc.Row W (w.heap.size+1) 1152921504606846975 true 16777215 true 4294967294 true 8190 true 0 false∧Spc.Bx W X (w.heap.size+1)) ⟨below_set (below_set HB2.out (by omega)) (by omega),Spc.far HT2.out (by omega) _ _ _ _,blk_put (blk_put HR2.out 6 _ rfl) 7 _ rfl,Spc.far hX.out (by have:=hXn.out; omega) _ _ _ _⟩ ?_
 clear HB2 HT2 HR2 hX
 rintro W4 ⟨HB2,HT2,HR2,hX⟩
 replace HB2:=Aside0.mk HB2
 replace HT2:=Aside0.mk HT2
 replace HR2:=Aside0.mk HR2
 replace hX:=Aside0.mk hX
 rw [rounds_succ]
 have ix:=Spc.ix4 X
 go_wp2_with (go_at_call 75; refine (Spc.at4 _ _ _ hX.out).mono ?_; rintro e w' ⟨rfl,rfl⟩)
 clear ix
 refine (field_All.calls 4 127 true 0 _ (by decide +kernel)).mono ?_
 rintro e V4 ⟨rfl,hb⟩
 have HB3:=below_step HB2.out hb
 have HT3:=blk_below HT2.out hb
 have HR3:Spc.Row V4 (w.heap.size+1) 1152921504606846975 true 16777215 true 4294967294 true 8190 true 0 false:=blk_below HR2.out hb
 have hX3:Spc.Bx V4 X (w.heap.size+1):=blk_below hX.out hb
 clear HB2 HT2 HR2 hX hb
 have c0:V4.cell? ⟨w.heap.size+1,8,none⟩=some (.int .u64 0):=(blk_cell HR3 8).trans rfl
 have c1:V4.cell? ⟨w.heap.size+1,9,none⟩=some (.bool false):=(blk_cell HR3 9).trans rfl
 have z0:=blk_frozen HR3 8
 have z1:=blk_frozen HR3 9
 have HB2:=Aside0.mk HB3
 have HT2:=Aside0.mk HT3
 have HR2:=Aside0.mk HR3
 have hX:=Aside0.mk hX3
 clear HB3 HT3 HR3 hX3
 go_wp2_with fail
 clear c0 c1 z0 z1
 refine Fld.genR (fun W=>Below w.heap.size w W∧W.heap[w.heap.size]?=some (.cells #[.int .u64 0,.bool false,.int .u64 0,.bool false,.int .u64 0,.bool false,.int .u64 0,.bool false,.int .u64 0,.bool false] 31 (0,0))∧Spc.Row W (w.heap.size+1) 1152921504606846975 true 16777215 true 4294967294 true 8190 true 127 true∧Spc.Bx W X (w.heap.size+1)) ⟨below_set (below_set HB2.out (by omega)) (by omega),Spc.far HT2.out (by omega) _ _ _ _,blk_put (blk_put HR2.out 8 _ rfl) 9 _ rfl,Spc.far hX.out (by have:=hXn.out; omega) _ _ _ _⟩ ?_
 clear HB2 HT2 HR2 hX
 rintro W5 ⟨HB2,HT2,HR2,hX⟩
 rw [rounds_succ]
 have d0:W5.cell? ⟨w.heap.size+1,0,none⟩=some (.int .u64 1152921504606846975):=(blk_cell HR2 0).trans rfl
 have d1:W5.cell? ⟨w.heap.size+1,1,none⟩=some (.bool true):=(blk_cell HR2 1).trans rfl
 have d2:W5.cell? ⟨w.heap.size+1,2,none⟩=some (.int .u64 16777215):=(blk_cell HR2 2).trans rfl
 have d3:W5.cell? ⟨w.heap.size+1,3,none⟩=some (.bool true):=(blk_cell HR2 3).trans rfl
 have d4:W5.cell? ⟨w.heap.size+1,4,none⟩=some (.int .u64 4294967294):=(blk_cell HR2 4).trans rfl
 have d5:W5.cell? ⟨w.heap.size+1,5,none⟩=some (.bool true):=(blk_cell HR2 5).trans rfl
 have d6:W5.cell? ⟨w.heap.size+1,6,none⟩=some (.int .u64 8190):=(blk_cell HR2 6).trans rfl
 have d7:W5.cell? ⟨w.heap.size+1,7,none⟩=some (.bool true):=(blk_cell HR2 7).trans rfl
 have d8:W5.cell? ⟨w.heap.size+1,8,none⟩=some (.int .u64 127):=(blk_cell HR2 8).trans rfl
 have d9:W5.cell? ⟨w.heap.size+1,9,none⟩=some (.bool true):=(blk_cell HR2 9).trans rfl
 have t0:W5.cell? ⟨w.heap.size,0,none⟩=some (.int .u64 0):=(blk_cell HT2 0).trans rfl
 have t1:W5.cell? ⟨w.heap.size,1,none⟩=some (.bool false):=(blk_cell HT2 1).trans rfl
 have t2:W5.cell? ⟨w.heap.size,2,none⟩=some (.int .u64 0):=(blk_cell HT2 2).trans rfl
 have t3:W5.cell? ⟨w.heap.size,3,none⟩=some (.bool false):=(blk_cell HT2 3).trans rfl
 have t4:W5.cell? ⟨w.heap.size,4,none⟩=some (.int .u64 0):=(blk_cell HT2 4).trans rfl
 have t5:W5.cell? ⟨w.heap.size,5,none⟩=some (.bool false):=(blk_cell HT2 5).trans rfl
 have t6:W5.cell? ⟨w.heap.size,6,none⟩=some (.int .u64 0):=(blk_cell HT2 6).trans rfl
 have t7:W5.cell? ⟨w.heap.size,7,none⟩=some (.bool false):=(blk_cell HT2 7).trans rfl
 have t8:W5.cell? ⟨w.heap.size,8,none⟩=some (.int .u64 0):=(blk_cell HT2 8).trans rfl
 have t9:W5.cell? ⟨w.heap.size,9,none⟩=some (.bool false):=(blk_cell HT2 9).trans rfl
 have zT:∀ j,W5.frozen? ⟨w.heap.size,j,none⟩=false:=fun j=>blk_frozen HT2 j
 replace HB2:=Aside0.mk HB2
 clear HT2 HR2 hX
 go_wp2_with fail
 refine bodyPost_ret (v:=.agg #[.int .u64 1152921504606846975,.bool true,.int .u64 16777215,.bool true,.int .u64 4294967294,.bool true,.int .u64 8190,.bool true,.int .u64 127,.bool true]) (by simp [results,Tryz.results20,go_sem, *]) rfl ⟨rfl,?_⟩
 repeat (first | (with_reducible first | exact HB2.out | (refine below_set ?_ (by omega))) | exact HB2.out)
def spec_Stars.f :Option (Int × Bool × Int × Bool × Int × Bool × Int × Bool × Int × Bool):=some (1152921504606846975,true,16777215,true,4294967294,true,8190,true,127,true)
set_option maxHeartbeats 8000000 in
set_option maxRecDepth 100000 in
theorem spec_Stars.calls  (r1:Int) (r2:Bool) (r3:Int) (r4:Bool) (r5:Int) (r6:Bool) (r7:Int) (r8:Bool) (r9:Int) (r10:Bool) (w:World) (h:spec_Stars.f =some (r1,r2,r3,r4,r5,r6,r7,r8,r9,r10)) :
  Calls Tryz.prog 20 #[] w fun e w'=>e=.returned (.agg #[.int .u64 r1,.bool r2,.int .u64 r3,.bool r4,.int .u64 r5,.bool r6,.int .u64 r7,.bool r8,.int .u64 r9,.bool r10])∧Below w.heap.size w w':=by
 have H:=Option.some.inj h
 simp only [Prod.mk.injEq] at H
 obtain ⟨rfl,rfl,rfl,rfl,rfl,rfl,rfl,rfl,rfl,rfl⟩ :=H
 exact Spc.stars w
/-! This session's own: what the statements' fixed facts come to. -/
set_option maxRecDepth 1000000 in
theorem Shw.wk0:show_Tidy.f ⟨#[48,44,49,44,50,32,32,53,44,54,32,42,32,74,65,78,45,77,65,82,47,50,32,55]⟩=some (⟨#[48,45,50,32,53,44,54,32,42,32,49,44,51,32,48]⟩,0,0):=by kernel_rfl
set_option maxRecDepth 1000000 in
theorem Shw.wk1:show_Field.f 127 false 4=some (⟨#[48,45,54]⟩,0):=by kernel_rfl
set_option maxRecDepth 1000000 in
theorem Shw.wk2:show_Spec.f 1152921504606846975 true 16777215 true 4294967294 true 8190 true 127 true=some (⟨#[42,32,42,32,42,32,42,32,42]⟩,0,0):=by kernel_rfl
set_option maxRecDepth 1000000 in
theorem Shw.wk3:show_Spec.f 0 false 0 false 0 false 0 false 0 false=some (⟨#[]⟩,1,2):=by kernel_rfl
def complinelaw20_works.f :Option (Bool):=some true
set_option maxHeartbeats 8000000 in
set_option maxRecDepth 100000 in
theorem complinelaw20_works.calls  (r:Bool) (w:World) (hT:Tab w) (h:complinelaw20_works.f =some r) :
  Calls Tryz.prog 9 #[] w fun e w'=>e=.returned (.bool r)∧Below w.heap.size w w':=by
 have HB:=Aside0.mk (Below.refl w.heap.size w)
 obtain rfl:r=true:=(Option.some.inj h).symm
 clear h
 replace HB:=HB.out
 go_enter Tryz.func9,Tryz.ntmps9
 go_wp2_with fail
 refine Spc.gen (fun W=>Below w.heap.size w W) HB ?_
 clear HB
 rintro W0 HB0
 refine (show_Tidy.calls ⟨#[48,44,49,44,50,32,32,53,44,54,32,42,32,74,65,78,45,77,65,82,47,50,32,55]⟩ ⟨#[48,45,50,32,53,44,54,32,42,32,49,44,51,32,48]⟩ 0 0 _ (hT.keep HB0) Shw.wk0).mono ?_
 rintro e V0 ⟨rfl,hb⟩
 have HB:=below_step HB0 hb
 clear hb HB0
 replace HB:=Aside0.mk HB
 go_wp2_with fail
 replace HB:=HB.out
 refine Spc.gen (fun W=>Below w.heap.size w W) HB ?_
 clear HB
 rintro W1 HB1
 refine (show_Field.calls 127 false 4 ⟨#[48,45,54]⟩ 0 _ (hT.keep HB1) Shw.wk1).mono ?_
 rintro e V1 ⟨rfl,hb⟩
 have HB:=below_step HB1 hb
 clear hb HB1
 replace HB:=Aside0.mk HB
 go_wp2_with fail
 replace HB:=HB.out
 refine Spc.gen (fun W=>Below w.heap.size w W) HB ?_
 clear HB
 rintro W2 HB2
 refine (spec_Stars.calls 1152921504606846975 true 16777215 true 4294967294 true 8190 true 127 true _ rfl).mono ?_
 rintro e V2 ⟨rfl,hb⟩
 have HB:=below_step HB2 hb
 clear hb HB2
 replace HB:=Aside0.mk HB
 go_wp2_with fail
 replace HB:=HB.out
 refine Spc.gen (fun W=>Below w.heap.size w W) HB ?_
 clear HB
 rintro W3 HB3
 refine (show_Spec.calls 1152921504606846975 true 16777215 true 4294967294 true 8190 true 127 true ⟨#[42,32,42,32,42,32,42,32,42]⟩ 0 0 _ (hT.keep HB3) Shw.wk2).mono ?_
 rintro e V3 ⟨rfl,hb⟩
 have HB:=below_step HB3 hb
 clear hb HB3
 replace HB:=Aside0.mk HB
 go_wp2_with fail
 replace HB:=HB.out
 refine Spc.gen (fun W=>Below w.heap.size w W) HB ?_
 clear HB
 rintro W4 HB4
 refine (show_Spec.calls 0 false 0 false 0 false 0 false 0 false ⟨#[]⟩ 1 2 _ (hT.keep HB4) Shw.wk3).mono ?_
 rintro e V4 ⟨rfl,hb⟩
 have HB:=below_step HB4 hb
 clear hb HB4
 replace HB:=Aside0.mk HB
 go_wp2_with fail
 replace HB:=HB.out
 go_ret
 exact ⟨rfl,HB⟩
def complineref17_Limits.f (a0:Int):Option (Int × Int × Int):=if a0=0 then (some (0,59,0)) else (if a0=1 then (some (0,23,0)) else (if a0=2 then (some (1,31,0)) else (if a0=3 then (some (1,12,0)) else (if a0=4 then (some (0,7,0)) else (some (0,0,7))))))
set_option maxHeartbeats 8000000 in
set_option maxRecDepth 100000 in
theorem complineref17_Limits.calls (a0:Int)(r1:Int)(r2:Int)(r3:Int)(w:World)(h:complineref17_Limits.f a0=some (r1,r2,r3)) :
  Calls Tryz.prog 79 #[.int .i64 a0] w fun e w'=>e=.returned (.tuple #[.int .i64 r1,.int .i64 r2,.int .i64 r3])∧Drawn0 w w':=by
 have H:(if a0=0 then (some (0,59,0)) else (if a0=1 then (some (0,23,0)) else (if a0=2 then (some (1,31,0)) else (if a0=3 then (some (1,12,0)) else (if a0=4 then (some (0,7,0)) else (some (0,0,7)))))))=some (r1,r2,r3):=h
 clear h
 by_cases c2:a0=0
 ·rw [if_pos c2] at H
  have c2b0:(a0 == 0)=true:=beq_iff_eq.mpr c2
  have c2b1:(a0 != 0)=false:=bne_eq_false_iff_eq.mpr c2
  clear c2
  simp only [Option.some.injEq,Prod.mk.injEq] at H
  obtain ⟨rfl,rfl,rfl⟩ :=H
  go_enter Tryz.func79,Tryz.ntmps79
  go_wp2
  go_ret3
  exact ⟨by first | rfl | (simp; done) | (simp [*]; done),by repeat (first | exact Drawn0.refl _ | apply Drawn0.step)⟩
 ·rw [if_neg c2] at H
  have c2b0:(a0 == 0)=false:=beq_eq_false_iff_ne.mpr c2
  have c2b1:(a0 != 0)=true:=bne_iff_ne.mpr c2
  by_cases c3:a0=1
  ·rw [if_pos c3] at H
   have c3b0:(a0 == 1)=true:=beq_iff_eq.mpr c3
   have c3b1:(a0 != 1)=false:=bne_eq_false_iff_eq.mpr c3
   clear c3
   simp only [Option.some.injEq,Prod.mk.injEq] at H
   obtain ⟨rfl,rfl,rfl⟩ :=H
   go_enter Tryz.func79,Tryz.ntmps79
   go_wp2
   go_ret3
   exact ⟨by first | rfl | (simp; done) | (simp [*]; done),by repeat (first | exact Drawn0.refl _ | apply Drawn0.step)⟩
  ·rw [if_neg c3] at H
   have c3b0:(a0 == 1)=false:=beq_eq_false_iff_ne.mpr c3
   have c3b1:(a0 != 1)=true:=bne_iff_ne.mpr c3
   by_cases c4:a0=2
   ·rw [if_pos c4] at H
    have c4b0:(a0 == 2)=true:=beq_iff_eq.mpr c4
    have c4b1:(a0 != 2)=false:=bne_eq_false_iff_eq.mpr c4
    clear c4
    simp only [Option.some.injEq,Prod.mk.injEq] at H
    obtain ⟨rfl,rfl,rfl⟩ :=H
    go_enter Tryz.func79,Tryz.ntmps79
    go_wp2
    go_ret3
    exact ⟨by first | rfl | (simp; done) | (simp [*]; done),by repeat (first | exact Drawn0.refl _ | apply Drawn0.step)⟩
   ·rw [if_neg c4] at H
    have c4b0:(a0 == 2)=false:=beq_eq_false_iff_ne.mpr c4
    have c4b1:(a0 != 2)=true:=bne_iff_ne.mpr c4
    by_cases c5:a0=3
    ·rw [if_pos c5] at H
     have c5b0:(a0 == 3)=true:=beq_iff_eq.mpr c5
     have c5b1:(a0 != 3)=false:=bne_eq_false_iff_eq.mpr c5
     clear c5
     simp only [Option.some.injEq,Prod.mk.injEq] at H
     obtain ⟨rfl,rfl,rfl⟩ :=H
     go_enter Tryz.func79,Tryz.ntmps79
     go_wp2
     go_ret3
     exact ⟨by first | rfl | (simp; done) | (simp [*]; done),by repeat (first | exact Drawn0.refl _ | apply Drawn0.step)⟩
    ·rw [if_neg c5] at H
     have c5b0:(a0 == 3)=false:=beq_eq_false_iff_ne.mpr c5
     have c5b1:(a0 != 3)=true:=bne_iff_ne.mpr c5
     by_cases c6:a0=4
     ·rw [if_pos c6] at H
      have c6b0:(a0 == 4)=true:=beq_iff_eq.mpr c6
      have c6b1:(a0 != 4)=false:=bne_eq_false_iff_eq.mpr c6
      clear c6
      simp only [Option.some.injEq,Prod.mk.injEq] at H
      obtain ⟨rfl,rfl,rfl⟩ :=H
      go_enter Tryz.func79,Tryz.ntmps79
      go_wp2
      go_ret3
      exact ⟨by first | rfl | (simp; done) | (simp [*]; done),by repeat (first | exact Drawn0.refl _ | apply Drawn0.step)⟩
     ·rw [if_neg c6] at H
      have c6b0:(a0 == 4)=false:=beq_eq_false_iff_ne.mpr c6
      have c6b1:(a0 != 4)=true:=bne_iff_ne.mpr c6
      simp only [Option.some.injEq,Prod.mk.injEq] at H
      obtain ⟨rfl,rfl,rfl⟩ :=H
      go_enter Tryz.func79,Tryz.ntmps79
      go_wp2
      go_ret3
      exact ⟨by first | rfl | (simp; done) | (simp [*]; done),by repeat (first | exact Drawn0.refl _ | apply Drawn0.step)⟩
def complineref18_limits.f (a0:Int):Option (Int × Int × Int):=(complineref17_Limits.f a0).bind fun bt135=>(if a0=4 then (some (bt135.1,6,bt135.2.2)) else (some (bt135.1,bt135.2.1,bt135.2.2)))
set_option maxHeartbeats 8000000 in
set_option maxRecDepth 100000 in
theorem complineref18_limits.calls (a0:Int)(r1:Int)(r2:Int)(r3:Int)(w:World)(h:complineref18_limits.f a0=some (r1,r2,r3)) :
  Calls Tryz.prog 51 #[.int .i64 a0] w fun e w'=>e=.returned (.tuple #[.int .i64 r1,.int .i64 r2,.int .i64 r3])∧Drawn0 w w':=by
 have H:((complineref17_Limits.f a0).bind fun bt135=>(if a0=4 then (some (bt135.1,6,bt135.2.2)) else (some (bt135.1,bt135.2.1,bt135.2.2))))=some (r1,r2,r3):=h
 clear h
 replace H:=Option.bind_eq_some_iff.mp H
 obtain ⟨⟨t135,t136,t137⟩,A20,H⟩ :=H
 replace H:(if a0=4 then (some (t135,6,t137)) else (some (t135,t136,t137)))=some (r1,r2,r3):=H
 have A2:=Aside0.mk A20
 clear A20
 by_cases c3:a0=4
 ·rw [if_pos c3] at H
  have c3b0:(a0 == 4)=true:=beq_iff_eq.mpr c3
  have c3b1:(a0 != 4)=false:=bne_eq_false_iff_eq.mpr c3
  clear c3
  simp only [Option.some.injEq,Prod.mk.injEq] at H
  obtain ⟨rfl,rfl,rfl⟩ :=H
  go_enter Tryz.func51,Tryz.ntmps51
  go_wp2_with (first | ((with_reducible refine gate_callee (f:=79) rfl ?_); refine goesL_ (some 10) rfl rfl Tryz.func79 (by kernel_rfl) rfl #[.int .i64 a0] rfl (by (try simp only [List.map_toArray,List.map_cons,List.map_nil]); first | done | rfl | (simp only [List.length_drop,List.length_take]; rfl)) ?_; (with_reducible refine (complineref17_Limits.calls a0 t135 t136 t137 _ A2.out).mono ?_); rintro e w' ⟨rfl,⟨nd,rfl⟩⟩; refine ⟨_,rfl,?_⟩))
  go_ret3
  exact ⟨by first | rfl | (simp; done) | (simp [*]; done),by repeat (first | exact Drawn0.refl _ | apply Drawn0.step)⟩
 ·rw [if_neg c3] at H
  have c3b0:(a0 == 4)=false:=beq_eq_false_iff_ne.mpr c3
  have c3b1:(a0 != 4)=true:=bne_iff_ne.mpr c3
  simp only [Option.some.injEq,Prod.mk.injEq] at H
  obtain ⟨rfl,rfl,rfl⟩ :=H
  go_enter Tryz.func51,Tryz.ntmps51
  go_wp2_with (first | ((with_reducible refine gate_callee (f:=79) rfl ?_); refine goesL_ (some 10) rfl rfl Tryz.func79 (by kernel_rfl) rfl #[.int .i64 a0] rfl (by (try simp only [List.map_toArray,List.map_cons,List.map_nil]); first | done | rfl | (simp only [List.length_drop,List.length_take]; rfl)) ?_; (with_reducible refine (complineref17_Limits.calls a0 t135 t136 t137 _ A2.out).mono ?_); rintro e w' ⟨rfl,⟨nd,rfl⟩⟩; refine ⟨_,rfl,?_⟩))
  go_ret3
  exact ⟨by first | rfl | (simp; done) | (simp [*]; done),by repeat (first | exact Drawn0.refl _ | apply Drawn0.step)⟩
mutual
def complineref18_Has.j0:Nat→Int→Bool→Int→Bool→Option (Bool)
 | 0,_,_,_,_=>none
 | k+1,x1,x12,x139000,x139001=>if x12=true then (some false) else (complineref18_Has.l0 k x1 x139000 0)
def complineref18_Has.l0:Nat→Int→Int→Int→Option (Bool)
 | 0,_,_,_=>none
 | k+1,x1,x5,x6=>if x6 < x1 then (complineref18_Has.l0 k x1 (IntKind.u64.wrap (Int.tdiv x5 2)) (wrap64 (x6+1))) else (some ((Int.tmod x5 2) == 1))
end
def complineref18_Has.f (k:Nat)(a0_0:Int)(a0_1:Bool)(a1:Int):Option (Bool):=if a1 < 0 then (complineref18_Has.j0 k a1 true a0_0 a0_1) else (complineref18_Has.j0 k a1 (decide (a1 > 63)) a0_0 a0_1)
set_option maxHeartbeats 8000000 in
set_option maxRecDepth 100000 in
theorem complineref18_Has.calls (k:Nat)(a0_0:Int)(a0_1:Bool)(a1:Int)(r:Bool)(w:World)(h:complineref18_Has.f k a0_0 a0_1 a1=some r) :
  Calls Tryz.prog 52 #[.agg #[.int .u64 a0_0,.bool a0_1],.int .i64 a1] w fun e w'=>e=.returned (.bool r)∧Below w.heap.size w w':=by
 have hu24:=Tryz.underlying24
 have HB:=Aside0.mk (Below.refl w.heap.size w)
 have H:(if a1 < 0 then (complineref18_Has.j0 k a1 true a0_0 a0_1) else (complineref18_Has.j0 k a1 (decide (a1 > 63)) a0_0 a0_1))=some r:=h
 clear h
 have HC3:=Aside0.mk H
 clear H
 go_enter Tryz.func52,Tryz.ntmps52
 go_upto_region 1 with (first | ((with_reducible refine gate_dst (N:=2) rfl ?_); refine box_event ?hg (N:=2) ?hd (cs:=#[.int .u64 a0_0,.bool a0_1]) (t:=24) ?hr ?_; (case hd=>rfl); (case hg=>rfl); (case hr=>first | (go_simp; done) | (go_simp; rfl)); intro gb138 hg w4 hbox hb; have n0_:=Aside0.mk (below_step (by repeat (first | (with_reducible first | exact HB.out | apply below_alloc | apply pw_below_drewN | apply below_drew1) | exact HB.out)) hb); have n1_:=Aside0.mk (hbox); have n2_:=Aside0.mk ((by rw [hg]; exact (below_size (by repeat (first | (with_reducible first | exact HB.out | apply below_alloc | apply pw_below_drewN | apply below_drew1) | exact HB.out))):w.heap.size≤gb138)); have n3_:=Aside0.mk ((by rw [hg]; exact (below_size (by repeat (first | (with_reducible first | exact HB.out | apply below_alloc | apply pw_below_drewN | apply below_drew1) | exact HB.out))):w.heap.size≤gb138)); clear HB; have HB:=n0_; have BK138:=n1_; have GW138:=n2_; have GE138:=n3_; clear n0_ n1_ n2_ n3_; clear hb hbox hg))
 (try simp only [Act.put,List.setIfInBounds_toArray,List.set_cons_zero,List.set_cons_succ])
 go_cut [12] (fun v12 wc=>∃ (kq:Nat) (x12_2:Bool),v12=.bool x12_2∧Aside0 (complineref18_Has.j0 kq a1 x12_2 a0_0 a0_1=some r)∧Aside0 (kq≤k)∧Aside0 (wc.heap[gb138]?=some (.cells #[.int .u64 a0_0,.bool a0_1] 24 (0,0)))∧Aside0 (Below w.heap.size w wc))
 case first=>
  have H:=HC3.out
  clear HC3
  by_cases c5:a1 < 0
  ·rw [if_pos c5] at H
   have c5b0:decide (a1 < 0)=true:=decide_eq_true c5
   clear c5
   (first | rw [c5b0] | (simp only [i64_w,i32_w]; rw [c5b0]) | skip)
   have H':=Aside0.mk H
   clear H
   go_wp2
   go_meet
   case rel=>exact ⟨_,(true),(by first | rfl | (simp; done) | (simp [*]; done)),H',⟨by first | omega | exact Nat.le_refl _⟩,⟨by (with_reducible repeat (first | refine blk_drewN ?_ _ | refine blk_drew ?_ | refine blk_alloc ?_ _)); exact BK138.out⟩,⟨by repeat (first | (with_reducible first | exact HB.out | apply below_alloc | apply pw_below_drewN | apply below_drew1 | refine below_set ?_ GE138.out) | exact HB.out)⟩⟩
  ·rw [if_neg c5] at H
   have c5b0:decide (a1 < 0)=false:=decide_eq_false c5
   clear c5
   (first | rw [c5b0] | (simp only [i64_w,i32_w]; rw [c5b0]) | skip)
   have H':=Aside0.mk H
   clear H
   go_wp2
   go_meet
   case rel=>exact ⟨_,(decide (a1 > 63)),(by first | rfl | (simp; done) | (simp [*]; done)),H',⟨by first | omega | exact Nat.le_refl _⟩,⟨by (with_reducible repeat (first | refine blk_drewN ?_ _ | refine blk_drew ?_ | refine blk_alloc ?_ _)); exact BK138.out⟩,⟨by repeat (first | (with_reducible first | exact HB.out | apply below_alloc | apply pw_below_drewN | apply below_drew1 | refine below_set ?_ GE138.out) | exact HB.out)⟩⟩
 case rest=>
  clear HC3
  try clear p2
  try clear c5
  try clear c5b0
  obtain ⟨kq,x12_2,rfl,HA,HJ2,BK138,HB⟩ :=hcut
  cases kq with
  | zero=>exact absurd HA.out (by simp [complineref18_Has.j0])
  | succ kj2=>
   have H:=HA.out
   clear HA
   simp only [complineref18_Has.j0] at H
   by_cases c6:x12_2=true
   ·subst c6
    have H1:(some false)=some r:=by rw [if_pos rfl] at H; exact H
    clear H
    have H:=H1
    clear H1
    obtain rfl:=Option.some.inj H
    go_wp2
    go_ret
    exact ⟨by first | rfl | (simp [errW_none,errW_some] <;> rfl) | (simp [*,errW_none,errW_some] <;> rfl),by repeat (first | (with_reducible first | exact HB.out | apply below_alloc | apply pw_below_drewN | apply below_drew1 | refine below_set ?_ GE138.out) | exact HB.out)⟩
   ·replace c6:=Bool.eq_false_iff.mpr c6
    subst c6
    have H1:(complineref18_Has.l0 kj2 a1 a0_0 0)=some r:=by rw [if_neg (show ¬ (false=true) by decide)] at H; exact H
    clear H
    have H:=H1
    clear H1
    have H':=Aside0.mk H
    clear H
    have hcz7_0:wc.cell? ⟨gb138,0,none⟩=some (.int .u64 a0_0):=(blk_cell BK138.out 0).trans rfl
    have hcz7_1:wc.cell? ⟨gb138,1,none⟩=some (.bool a0_1):=(blk_cell BK138.out 1).trans rfl
    have hfz7_0:=blk_frozen BK138.out 0
    have hfz7_1:=blk_frozen BK138.out 1
    go_wp2
    go_loopg [5,6] kj2 (fun kq v5 v6 w'=>∃ (x5_2:Int) (x6_2:Int),v5=.int .u64 x5_2∧v6=.int .i64 x6_2∧Aside0 (complineref18_Has.l0 kq a1 x5_2 x6_2=some r)∧Aside0 (kq≤kj2)∧Aside0 (w'.heap[gb138]?=some (.cells #[.int .u64 a0_0,.bool a0_1] 24 (0,0)))∧Aside0 (Below w.heap.size w w'))
    case atStart=>exact ⟨(a0_0),(0),(by first | rfl | (simp; done) | (simp [*]; done)),(by first | rfl | (simp; done) | (simp [*]; done)),H',⟨Nat.le_refl _⟩,⟨by (with_reducible repeat (first | refine blk_drewN ?_ _ | refine blk_drew ?_ | refine blk_alloc ?_ _)); exact BK138.out⟩,⟨by repeat (first | (with_reducible first | exact HB.out | apply below_alloc | apply pw_below_drewN | apply below_drew1 | refine below_set ?_ GE138.out) | exact HB.out)⟩⟩
    case round=>
     clear H'
     try clear p2
     try clear c5
     try clear c5b0
     try clear c6
     try clear hcz7_0
     try clear hcz7_1
     try clear hfz7_0
     try clear hfz7_1
     try clear p2
     obtain ⟨x5_2,x6_2,rfl,rfl,HA,HK2,BK138,HB⟩ :=hrel
     cases gk with
     | zero=>exact absurd HA.out (by simp [complineref18_Has.l0])
     | succ k2=>
      have H:=HA.out
      clear HA
      simp only [complineref18_Has.l0] at H
      by_cases c8:x6_2 < a1
      ·rw [if_pos c8] at H
       have c8b0:decide (x6_2 < a1)=true:=decide_eq_true c8
       clear c8
       have H':=Aside0.mk H
       clear H
       go_wp2
       go_roundg k2
       case measure=>have:=HJ2.out; have:=HK2.out; omega
       case rel=>exact ⟨(IntKind.u64.wrap (Int.tdiv x5_2 2)),(wrap64 (x6_2+1)),(by first | rfl | (simp; done) | (simp [*]; done)),(by first | rfl | (simp; done) | (simp [*]; done)),H',⟨by have:=HJ2.out; have:=HK2.out; omega⟩,⟨by (with_reducible repeat (first | refine blk_drewN ?_ _ | refine blk_drew ?_ | refine blk_alloc ?_ _)); exact BK138.out⟩,⟨by repeat (first | (with_reducible first | exact HB.out | apply below_alloc | apply pw_below_drewN | apply below_drew1 | refine below_set ?_ GE138.out) | exact HB.out)⟩⟩
      ·rw [if_neg c8] at H
       have c8b0:decide (x6_2 < a1)=false:=decide_eq_false c8
       clear c8
       obtain rfl:=Option.some.inj H
       go_wp2
       go_ret
       exact ⟨by first | rfl | (simp [errW_none,errW_some] <;> rfl) | (simp [*,errW_none,errW_some] <;> rfl),by repeat (first | (with_reducible first | exact HB.out | apply below_alloc | apply pw_below_drewN | apply below_drew1 | refine below_set ?_ GE138.out) | exact HB.out)⟩
end Go.Proofs.YtcmmmlenaahaeaaGreatDoor.PShw
