-- Written by a program of this session (gprint.py) over the kit's print.
import Derived.Test.YtabhfcoljgcpeaaGreatDoorNexLib
import Derived.Test.YtabhfcoljgcpeaaGreatDoorPNexx0
import Derived.Test.YtabhfcoljgcpeaaGreatDoorPNexx1
import Derived.Test.YtabhfcoljgcpeaaGreatDoorPNexx5
import Derived.Test.YtabhfcoljgcpeaaGreatDoorPNexx6
import Derived.Test.YtabhfcoljgcpeaaGreatDoorPNexx8
import Derived.Test.YtabhfcoljgcpeaaGreatDoorPNexx12
namespace Go.Proofs.YtabhfcoljgcpeaaGreatDoor.PNex
open Go.RowKit Go.Proofs.YtabhfcoljgcpeaaGreatDoorW.PrintWords Go.Proofs.YtabhfcoljgcpeaaGreatDoorW.PrintLast Go.Proofs.YtabhfcoljgcpeaaGreatDoorW.PrintMore
attribute [local go_sem] max2_int min2_int max_two min_two max_three min_three max_four min_four
set_option linter.unusedVariables false
set_option linter.unusedSimpArgs false
/-! This session's own: the document's examples of next, walked. -/
structure Nx.WK (w:World) (g0 g1 g2:Nat) (W:World):Prop where
 b:Below w.heap.size w W
 x:Spc.Row W g0 1073741824 false 64 false 536870912 false 4 false 127 true
 y:Spc.Row W g1 1 false 1 false 1073741824 false 4 false 127 true
 z:Spc.Row W g2 35185445863425 false 16777215 true 4294967294 true 8190 true 127 true
theorem Nx.wk_step {w:World}{g0 g1 g2:Nat}{W W':World}(h:Aside0 (Nx.WK w g0 g1 g2 W))(hb:Below W.heap.size W W'):Aside0 (Nx.WK w g0 g1 g2 W'):=⟨⟨below_step h.out.b hb,blk_below h.out.x hb,blk_below h.out.y hb,blk_below h.out.z hb⟩⟩
def complinelaw22_works.f :Option (Bool):=some true
set_option maxHeartbeats 8000000 in
set_option maxRecDepth 100000 in
theorem complinelaw22_works.calls  (r:Bool) (w:World) (hT:Tab w) (h:complinelaw22_works.f =some r) :
  Calls Tryz.prog 10 #[] w fun e w'=>e=.returned (.bool r)∧Below w.heap.size w w':=by
 have HB:=Aside0.mk (Below.refl w.heap.size w)
 obtain rfl:r=true:=(Option.some.inj h).symm
 clear h
 go_enter Tryz.func10,Tryz.ntmps10
 go_wp2_with fail
 refine (spec_Parse.calls ⟨#[51,48,32,54,32,50,57,32,50,32,42]⟩ 1073741824 false 64 false 536870912 false 4 false 127 true 0 0 _ (hT.keep (Below.refl _ _)) (by kernel_rfl)).mono ?_
 rintro e V0 ⟨rfl,hb⟩
 have B0:=Aside0.mk (show Below w.heap.size w V0 from hb)
 clear hb
 go_wp2_with fail
 have A1:=Aside0.mk (show Below w.heap.size w (V0.alloc (.cells #[.int .u64 1073741824,.bool false,.int .u64 64,.bool false,.int .u64 536870912,.bool false,.int .u64 4,.bool false,.int .u64 127,.bool true] 26))∧Spc.Row (V0.alloc (.cells #[.int .u64 1073741824,.bool false,.int .u64 64,.bool false,.int .u64 536870912,.bool false,.int .u64 4,.bool false,.int .u64 127,.bool true] 26)) V0.heap.size 1073741824 false 64 false 536870912 false 4 false 127 true from ⟨below_alloc B0.out _,blk_new _ _⟩)
 obtain ⟨g0,hg⟩:∃ g,V0.heap.size=g:=⟨_,rfl⟩
 rw [hg] at A1 ⊢
 generalize V0.alloc (.cells #[.int .u64 1073741824,.bool false,.int .u64 64,.bool false,.int .u64 536870912,.bool false,.int .u64 4,.bool false,.int .u64 127,.bool true] 26)=W1 at A1 ⊢
 clear B0 hg
 refine (spec_Parse.calls ⟨#[48,32,48,32,51,48,32,50,32,42]⟩ 1 false 1 false 1073741824 false 4 false 127 true 0 0 _ (hT.keep A1.out.1) (by kernel_rfl)).mono ?_
 rintro e V1 ⟨rfl,hb⟩
 have B1:=Aside0.mk (show Below w.heap.size w V1∧Spc.Row V1 g0 1073741824 false 64 false 536870912 false 4 false 127 true from ⟨below_step A1.out.1 hb,blk_below A1.out.2 hb⟩)
 clear hb A1
 go_wp2_with fail
 have A2:=Aside0.mk (show Below w.heap.size w (V1.alloc (.cells #[.int .u64 1,.bool false,.int .u64 1,.bool false,.int .u64 1073741824,.bool false,.int .u64 4,.bool false,.int .u64 127,.bool true] 26))∧Spc.Row (V1.alloc (.cells #[.int .u64 1,.bool false,.int .u64 1,.bool false,.int .u64 1073741824,.bool false,.int .u64 4,.bool false,.int .u64 127,.bool true] 26)) g0 1073741824 false 64 false 536870912 false 4 false 127 true∧Spc.Row (V1.alloc (.cells #[.int .u64 1,.bool false,.int .u64 1,.bool false,.int .u64 1073741824,.bool false,.int .u64 4,.bool false,.int .u64 127,.bool true] 26)) V1.heap.size 1 false 1 false 1073741824 false 4 false 127 true from ⟨below_alloc B1.out.1 _,blk_alloc B1.out.2 _,blk_new _ _⟩)
 obtain ⟨g1,hg⟩:∃ g,V1.heap.size=g:=⟨_,rfl⟩
 rw [hg] at A2 ⊢
 generalize V1.alloc (.cells #[.int .u64 1,.bool false,.int .u64 1,.bool false,.int .u64 1073741824,.bool false,.int .u64 4,.bool false,.int .u64 127,.bool true] 26)=W2 at A2 ⊢
 clear B1 hg
 refine (spec_Parse.calls ⟨#[42,47,49,53,32,42,32,42,32,42,32,42]⟩ 35185445863425 false 16777215 true 4294967294 true 8190 true 127 true 0 0 _ (hT.keep A2.out.1) (by kernel_rfl)).mono ?_
 rintro e V2 ⟨rfl,hb⟩
 have B2:=Aside0.mk (show Below w.heap.size w V2∧Spc.Row V2 g0 1073741824 false 64 false 536870912 false 4 false 127 true∧Spc.Row V2 g1 1 false 1 false 1073741824 false 4 false 127 true from ⟨below_step A2.out.1 hb,blk_below A2.out.2.1 hb,blk_below A2.out.2.2 hb⟩)
 clear hb A2
 have A3':=Aside0.mk (blk_alloc B2.out.2.1 (.cells #[.int .u64 35185445863425,.bool false,.int .u64 16777215,.bool true,.int .u64 4294967294,.bool true,.int .u64 8190,.bool true,.int .u64 127,.bool true] 26))
 have J:Spc.Row (V2.alloc (.cells #[.int .u64 35185445863425,.bool false,.int .u64 16777215,.bool true,.int .u64 4294967294,.bool true,.int .u64 8190,.bool true,.int .u64 127,.bool true] 26)) g0 1073741824 false 64 false 536870912 false 4 false 127 true:=A3'.out
 obtain ⟨k0,k1,k2,k3,k4,k5,k6,k7,k8,k9⟩ :=J.cells
 clear J A3'
 go_wp2_with fail
 clear k0 k1 k2 k3 k4 k5 k6 k7 k8 k9
 have A3:=Aside0.mk (show Below w.heap.size w (V2.alloc (.cells #[.int .u64 35185445863425,.bool false,.int .u64 16777215,.bool true,.int .u64 4294967294,.bool true,.int .u64 8190,.bool true,.int .u64 127,.bool true] 26))∧Spc.Row (V2.alloc (.cells #[.int .u64 35185445863425,.bool false,.int .u64 16777215,.bool true,.int .u64 4294967294,.bool true,.int .u64 8190,.bool true,.int .u64 127,.bool true] 26)) g0 1073741824 false 64 false 536870912 false 4 false 127 true∧Spc.Row (V2.alloc (.cells #[.int .u64 35185445863425,.bool false,.int .u64 16777215,.bool true,.int .u64 4294967294,.bool true,.int .u64 8190,.bool true,.int .u64 127,.bool true] 26)) g1 1 false 1 false 1073741824 false 4 false 127 true∧Spc.Row (V2.alloc (.cells #[.int .u64 35185445863425,.bool false,.int .u64 16777215,.bool true,.int .u64 4294967294,.bool true,.int .u64 8190,.bool true,.int .u64 127,.bool true] 26)) V2.heap.size 35185445863425 false 16777215 true 4294967294 true 8190 true 127 true from ⟨below_alloc B2.out.1 _,blk_alloc B2.out.2.1 _,blk_alloc B2.out.2.2 _,blk_new _ _⟩)
 obtain ⟨g2,hg⟩:∃ g,V2.heap.size=g:=⟨_,rfl⟩
 rw [hg] at A3 ⊢
 generalize V2.alloc (.cells #[.int .u64 35185445863425,.bool false,.int .u64 16777215,.bool true,.int .u64 4294967294,.bool true,.int .u64 8190,.bool true,.int .u64 127,.bool true] 26)=W3 at A3 ⊢
 clear B2 hg
 have H0:Aside0 (Nx.WK w g0 g1 g2 W3):=⟨⟨A3.out.1,A3.out.2.1,A3.out.2.2.1,A3.out.2.2.2⟩⟩
 clear A3
 refine (next_Next.calls 1073741824 false 64 false 536870912 false 4 false 127 true 29911680 30590310 0 _ (hT.keep H0.out.b) Nx.wk0).mono ?_
 rintro e U0 ⟨rfl,hb⟩
 have H1:=Nx.wk_step H0 hb
 clear H0 hb
 obtain ⟨k0,k1,k2,k3,k4,k5,k6,k7,k8,k9⟩ :=H1.out.x.cells
 go_wp2_with fail
 clear k0 k1 k2 k3 k4 k5 k6 k7 k8 k9
 refine (next_Next.calls 1073741824 false 64 false 536870912 false 4 false 127 true 30590310 32694150 0 _ (hT.keep H1.out.b) Nx.wk1).mono ?_
 rintro e U1 ⟨rfl,hb⟩
 have H2:=Nx.wk_step H1 hb
 clear H1 hb
 obtain ⟨k0,k1,k2,k3,k4,k5,k6,k7,k8,k9⟩ :=H2.out.y.cells
 go_wp2_with fail
 clear k0 k1 k2 k3 k4 k5 k6 k7 k8 k9
 refine (next_Next.calls 1 false 1 false 1073741824 false 4 false 127 true 0 0 11 _ (hT.keep H2.out.b) Nx.wk2).mono ?_
 rintro e U2 ⟨rfl,hb⟩
 have H3:=Nx.wk_step H2 hb
 clear H2 hb
 obtain ⟨k0,k1,k2,k3,k4,k5,k6,k7,k8,k9⟩ :=H3.out.z.cells
 go_wp2_with fail
 clear k0 k1 k2 k3 k4 k5 k6 k7 k8 k9
 refine (next_Next.calls 35185445863425 false 16777215 true 4294967294 true 8190 true 127 true 14 15 0 _ (hT.keep H3.out.b) Nx.wk3).mono ?_
 rintro e U3 ⟨rfl,hb⟩
 have H4:=Nx.wk_step H3 hb
 clear H3 hb
 obtain ⟨k0,k1,k2,k3,k4,k5,k6,k7,k8,k9⟩ :=H4.out.z.cells
 go_wp2_with fail
 clear k0 k1 k2 k3 k4 k5 k6 k7 k8 k9
 refine (next_Prev.calls 35185445863425 false 16777215 true 4294967294 true 8190 true 127 true 15 0 0 _ (hT.keep H4.out.b) Nx.wk4).mono ?_
 rintro e U4 ⟨rfl,hb⟩
 have H5:=Nx.wk_step H4 hb
 clear H4 hb
 obtain ⟨k0,k1,k2,k3,k4,k5,k6,k7,k8,k9⟩ :=H5.out.z.cells
 go_wp2_with fail
 clear k0 k1 k2 k3 k4 k5 k6 k7 k8 k9
 refine (next_Count.calls 35185445863425 false 16777215 true 4294967294 true 8190 true 127 true 0 1440 96 0 _ (hT.keep H5.out.b) Nx.wk5).mono ?_
 rintro e U5 ⟨rfl,hb⟩
 have H6:=Nx.wk_step H5 hb
 clear H5 hb
 go_wp2_with fail
 go_ret
 exact ⟨rfl,H6.out.b⟩
def complineref19_Fields.f (a0_0:Int)(a0_1:Bool)(a0_2:Int)(a0_3:Bool)(a0_4:Int)(a0_5:Bool)(a0_6:Int)(a0_7:Bool)(a0_8:Int)(a0_9:Bool):Option ((List (S24))):=some (([(⟨a0_0,a0_1⟩:S24),(⟨a0_2,a0_3⟩:S24),(⟨a0_4,a0_5⟩:S24),(⟨a0_6,a0_7⟩:S24),(⟨a0_8,a0_9⟩:S24)]:List (S24)))
set_option maxHeartbeats 8000000 in
set_option maxRecDepth 100000 in
theorem complineref19_Fields.calls (a0_0:Int)(a0_1:Bool)(a0_2:Int)(a0_3:Bool)(a0_4:Int)(a0_5:Bool)(a0_6:Int)(a0_7:Bool)(a0_8:Int)(a0_9:Bool)(r:List (S24))(w:World)(h:complineref19_Fields.f a0_0 a0_1 a0_2 a0_3 a0_4 a0_5 a0_6 a0_7 a0_8 a0_9=some r) :
  Calls Tryz.prog 93 #[.agg #[.int .u64 a0_0,.bool a0_1,.int .u64 a0_2,.bool a0_3,.int .u64 a0_4,.bool a0_5,.int .u64 a0_6,.bool a0_7,.int .u64 a0_8,.bool a0_9]] w fun e w'=>∃ v0_:Value,e=.returned (v0_)∧Kd.R k24 24 w' w.heap.size (fun _=>True) v0_ r∧Below w.heap.size w w':=by
 have hu26:=Tryz.underlying26
 have hu24:=Tryz.underlying24
 have HB:=Aside0.mk (Below.refl w.heap.size w)
 have H:(some (([(⟨a0_0,a0_1⟩:S24),(⟨a0_2,a0_3⟩:S24),(⟨a0_4,a0_5⟩:S24),(⟨a0_6,a0_7⟩:S24),(⟨a0_8,a0_9⟩:S24)]:List (S24))))=some r:=h
 clear h
 obtain ⟨y169,hy169⟩:∃ y_:List (S24),y_=(([(⟨a0_0,a0_1⟩:S24),(⟨a0_2,a0_3⟩:S24),(⟨a0_4,a0_5⟩:S24),(⟨a0_6,a0_7⟩:S24),(⟨a0_8,a0_9⟩:S24)]:List (S24))):=⟨_,rfl⟩
 replace H:(some y169)=some r:=by first | (rw [hy169]; with_reducible exact H) | (have H2_:=(Option.bind_some _ _).symm.trans H; rw [hy169]; with_reducible exact H2_) | (have H2_:=(Option.bind_some _ _).symm.trans H; with_reducible exact H2_) | with_reducible exact H | (rw [hy169]; exact H) | exact H
 have Ny169:=Aside0.mk hy169
 clear hy169
 obtain rfl:=Option.some.inj H
 go_enter Tryz.func93,Tryz.ntmps93
 go_wp2_with (first | ((with_reducible refine gate_dst (N:=1) rfl ?_); refine box_event ?hg (N:=1) ?hd (cs:=#[.int .u64 a0_0,.bool a0_1,.int .u64 a0_2,.bool a0_3,.int .u64 a0_4,.bool a0_5,.int .u64 a0_6,.bool a0_7,.int .u64 a0_8,.bool a0_9]) (t:=26) ?hr ?_; (case hd=>rfl); (case hg=>rfl); (case hr=>first | (go_simp; done) | (go_simp; rfl)); intro gb168 hg w2 hbox hb; have n0_:=Aside0.mk (below_step (by repeat (first | (with_reducible first | exact HB.out | apply below_alloc | apply pw_below_drewN | apply below_drew1) | exact HB.out)) hb); have n1_:=Aside0.mk (hbox); have n2_:=Aside0.mk ((by rw [hg]; exact (below_size (by repeat (first | (with_reducible first | exact HB.out | apply below_alloc | apply pw_below_drewN | apply below_drew1) | exact HB.out))):w.heap.size≤gb168)); have n3_:=Aside0.mk ((by rw [hg]; exact (below_size (by repeat (first | (with_reducible first | exact HB.out | apply below_alloc | apply pw_below_drewN | apply below_drew1) | exact HB.out))):w.heap.size≤gb168)); clear HB; have HB:=n0_; have BK168:=n1_; have GW168:=n2_; have GE168:=n3_; clear n0_ n1_ n2_ n3_; clear hb hbox hg; have hcz3_0:w2.cell? ⟨gb168,0,none⟩=some (.int .u64 a0_0):=(blk_cell BK168.out 0).trans rfl; have hcz3_1:w2.cell? ⟨gb168,1,none⟩=some (.bool a0_1):=(blk_cell BK168.out 1).trans rfl; have hcz3_2:w2.cell? ⟨gb168,2,none⟩=some (.int .u64 a0_2):=(blk_cell BK168.out 2).trans rfl; have hcz3_3:w2.cell? ⟨gb168,3,none⟩=some (.bool a0_3):=(blk_cell BK168.out 3).trans rfl; have hcz3_4:w2.cell? ⟨gb168,4,none⟩=some (.int .u64 a0_4):=(blk_cell BK168.out 4).trans rfl; have hcz3_5:w2.cell? ⟨gb168,5,none⟩=some (.bool a0_5):=(blk_cell BK168.out 5).trans rfl; have hcz3_6:w2.cell? ⟨gb168,6,none⟩=some (.int .u64 a0_6):=(blk_cell BK168.out 6).trans rfl; have hcz3_7:w2.cell? ⟨gb168,7,none⟩=some (.bool a0_7):=(blk_cell BK168.out 7).trans rfl; have hcz3_8:w2.cell? ⟨gb168,8,none⟩=some (.int .u64 a0_8):=(blk_cell BK168.out 8).trans rfl; have hcz3_9:w2.cell? ⟨gb168,9,none⟩=some (.bool a0_9):=(blk_cell BK168.out 9).trans rfl; have hfz3_0:=blk_frozen BK168.out 0; have hfz3_1:=blk_frozen BK168.out 1; have hfz3_2:=blk_frozen BK168.out 2; have hfz3_3:=blk_frozen BK168.out 3; have hfz3_4:=blk_frozen BK168.out 4; have hfz3_5:=blk_frozen BK168.out 5; have hfz3_6:=blk_frozen BK168.out 6; have hfz3_7:=blk_frozen BK168.out 7; have hfz3_8:=blk_frozen BK168.out 8; have hfz3_9:=blk_frozen BK168.out 9) | ((with_reducible refine gate_dst (N:=13) rfl ?_); refine Kd.R_lit k24 _ 24 ?hg (N:=13) ?hd (xs:=([(⟨a0_0,a0_1⟩:S24),(⟨a0_2,a0_3⟩:S24),(⟨a0_4,a0_5⟩:S24),(⟨a0_6,a0_7⟩:S24),(⟨a0_8,a0_9⟩:S24)]:List (S24))) (inner:=[.int .u64 a0_0,.bool a0_1,.int .u64 a0_2,.bool a0_3,.int .u64 a0_4,.bool a0_5,.int .u64 a0_6,.bool a0_7,.int .u64 a0_8,.bool a0_9]) (ok:=fun _=>True) (okp:=fun _=>True) ?hr ?hp (fun _ hk=>hk) trivial (Below.refl _ _) (Nat.le_refl _) (by simp) ?_; (case hd=>rfl); (case hg=>rfl); (case hr=>first | (go_simp; done) | (go_simp; rfl)); (case hp=>exact (Reps.c2 (show Kd.M k24 _ _ _ (⟨a0_0,a0_1⟩:S24) [.int .u64 a0_0,.bool a0_1] from (k24_mkM _ _ _ (⟨a0_0,a0_1⟩:S24) )) (Reps.c2 (show Kd.M k24 _ _ _ (⟨a0_2,a0_3⟩:S24) [.int .u64 a0_2,.bool a0_3] from (k24_mkM _ _ _ (⟨a0_2,a0_3⟩:S24) )) (Reps.c2 (show Kd.M k24 _ _ _ (⟨a0_4,a0_5⟩:S24) [.int .u64 a0_4,.bool a0_5] from (k24_mkM _ _ _ (⟨a0_4,a0_5⟩:S24) )) (Reps.c2 (show Kd.M k24 _ _ _ (⟨a0_6,a0_7⟩:S24) [.int .u64 a0_6,.bool a0_7] from (k24_mkM _ _ _ (⟨a0_6,a0_7⟩:S24) )) (Reps.c2 (show Kd.M k24 _ _ _ (⟨a0_8,a0_9⟩:S24) [.int .u64 a0_8,.bool a0_9] from (k24_mkM _ _ _ (⟨a0_8,a0_9⟩:S24) )) (Reps.none _ _))))))); intro v170 w4 ho5 hb hg_ hnew_; clear hg_ hnew_; (first | rw [← Ny169.out] at ho5 | (simp only [Int.reduceToNat] at ho5; rw [← Ny169.out] at ho5)); have n0_:=Aside0.mk (Kd.R_lower ho5 (below_size (by repeat (first | (with_reducible first | exact HB.out | apply below_alloc | apply pw_below_drewN | apply below_drew1 | refine below_set ?_ GE168.out) | exact HB.out)))); have n1_:=Aside0.mk (blk_below (g:=gb168) (o:=.cells #[.int .u64 a0_0,.bool a0_1,.int .u64 a0_2,.bool a0_3,.int .u64 a0_4,.bool a0_5,.int .u64 a0_6,.bool a0_7,.int .u64 a0_8,.bool a0_9] 26 (0,0)) (by (with_reducible repeat (first | refine blk_drewN ?_ _ | refine blk_drew ?_ | refine blk_alloc ?_ _)); exact BK168.out) hb); have n2_:=Aside0.mk (below_step (by repeat (first | (with_reducible first | exact HB.out | apply below_alloc | apply pw_below_drewN | apply below_drew1 | refine below_set ?_ GE168.out) | exact HB.out)) hb); clear BK168; clear HB; have HO171:=n0_; have BK168:=n1_; have HB:=n2_; clear n0_ n1_ n2_; clear hb ho5))
 go_ret
 exact ⟨_,by first | rfl | (simp [errW_none,errW_some] <;> rfl) | (simp [*,errW_none,errW_some] <;> rfl),by (with_reducible repeat (first | apply Kd.R_alloc | apply Kd.R_drewN | apply Kd.R_drew)); exact HO171.out,by repeat (first | (with_reducible first | exact HB.out | apply below_alloc | apply pw_below_drewN | apply below_drew1 | refine below_set ?_ GE168.out) | exact HB.out)⟩
mutual
def complineref18_Has.j0:Nat→Int→Bool→Int→Bool→Option (Bool)
 | 0,_,_,_,_=>none
 | k+1,x1,x12,x173000,x173001=>if x12=true then (some false) else (complineref18_Has.l0 k x1 x173000 0)
def complineref18_Has.l0:Nat→Int→Int→Int→Option (Bool)
 | 0,_,_,_=>none
 | k+1,x1,x5,x6=>if x6 < x1 then (complineref18_Has.l0 k x1 (IntKind.u64.wrap (Int.tdiv x5 2)) (wrap64 (x6+1))) else (some ((Int.tmod x5 2) == 1))
end
def complineref18_Has.f (k:Nat)(a0_0:Int)(a0_1:Bool)(a1:Int):Option (Bool):=if a1 < 0 then (complineref18_Has.j0 k a1 true a0_0 a0_1) else (complineref18_Has.j0 k a1 (decide (a1 > 63)) a0_0 a0_1)
theorem complineref18_Has.mono_l:∀ k,(∀ y0 y1 y2 y3,LeO (complineref18_Has.j0 k y0 y1 y2 y3) (complineref18_Has.j0 (k+1) y0 y1 y2 y3))∧(∀ y0 y1 y2,LeO (complineref18_Has.l0 k y0 y1 y2) (complineref18_Has.l0 (k+1) y0 y1 y2))
 | 0=>⟨fun _ _ _ _ r h=>by simp [complineref18_Has.j0] at h,fun _ _ _ r h=>by simp [complineref18_Has.l0] at h⟩
 | k+1=>by
  obtain ⟨ih0,ih1⟩ :=complineref18_Has.mono_l k
  refine ⟨?_,?_⟩
  ·intro y0 y1 y2 y3
   unfold complineref18_Has.j0
   repeat' first
   | (with_reducible exact ih0 _ _ _ _)
   | (with_reducible exact ih1 _ _ _)
   | (with_reducible exact LeO.refl _)
   | (with_reducible exact LeO.none _)
   | (with_reducible refine LeO.ite ?_ ?_)
   | (with_reducible refine LeO.bind ?_ (fun _=>?_))
   | exact ih0 _ _ _ _
   | exact ih1 _ _ _
   | exact LeO.none _
   | refine LeO.ite ?_ ?_
   | refine LeO.bind ?_ (fun _=>?_)
  ·intro y0 y1 y2
   unfold complineref18_Has.l0
   repeat' first
   | (with_reducible exact ih0 _ _ _ _)
   | (with_reducible exact ih1 _ _ _)
   | (with_reducible exact LeO.refl _)
   | (with_reducible exact LeO.none _)
   | (with_reducible refine LeO.ite ?_ ?_)
   | (with_reducible refine LeO.bind ?_ (fun _=>?_))
   | exact ih0 _ _ _ _
   | exact ih1 _ _ _
   | exact LeO.none _
   | refine LeO.ite ?_ ?_
   | refine LeO.bind ?_ (fun _=>?_)
theorem complineref18_Has.mono:∀ a0 a1 a2 k,LeO (complineref18_Has.f k a0 a1 a2) (complineref18_Has.f (k+1) a0 a1 a2):=by
 intro a0 a1 a2 k
 obtain ⟨ih0,ih1⟩ :=complineref18_Has.mono_l k
 unfold complineref18_Has.f
 repeat' first
   | (with_reducible exact ih0 _ _ _ _)
   | (with_reducible exact ih1 _ _ _)
   | (with_reducible exact LeO.refl _)
   | (with_reducible exact LeO.none _)
   | (with_reducible refine LeO.ite ?_ ?_)
   | (with_reducible refine LeO.bind ?_ (fun _=>?_))
   | exact ih0 _ _ _ _
   | exact ih1 _ _ _
   | exact LeO.none _
   | refine LeO.ite ?_ ?_
   | refine LeO.bind ?_ (fun _=>?_)
set_option maxHeartbeats 8000000 in
set_option maxRecDepth 100000 in
theorem complineref18_Has.calls (k:Nat)(a0_0:Int)(a0_1:Bool)(a1:Int)(r:Bool)(w:World)(h:complineref18_Has.f k a0_0 a0_1 a1=some r) :
  Calls Tryz.prog 56 #[.agg #[.int .u64 a0_0,.bool a0_1],.int .i64 a1] w fun e w'=>e=.returned (.bool r)∧Below w.heap.size w w':=by
 have hu24:=Tryz.underlying24
 have HB:=Aside0.mk (Below.refl w.heap.size w)
 have H:(if a1 < 0 then (complineref18_Has.j0 k a1 true a0_0 a0_1) else (complineref18_Has.j0 k a1 (decide (a1 > 63)) a0_0 a0_1))=some r:=h
 clear h
 have HC3:=Aside0.mk H
 clear H
 go_enter Tryz.func56,Tryz.ntmps56
 go_upto_region 1 with (first | ((with_reducible refine gate_dst (N:=2) rfl ?_); refine box_event ?hg (N:=2) ?hd (cs:=#[.int .u64 a0_0,.bool a0_1]) (t:=24) ?hr ?_; (case hd=>rfl); (case hg=>rfl); (case hr=>first | (go_simp; done) | (go_simp; rfl)); intro gb172 hg w4 hbox hb; have n0_:=Aside0.mk (below_step (by repeat (first | (with_reducible first | exact HB.out | apply below_alloc | apply pw_below_drewN | apply below_drew1) | exact HB.out)) hb); have n1_:=Aside0.mk (hbox); have n2_:=Aside0.mk ((by rw [hg]; exact (below_size (by repeat (first | (with_reducible first | exact HB.out | apply below_alloc | apply pw_below_drewN | apply below_drew1) | exact HB.out))):w.heap.size≤gb172)); have n3_:=Aside0.mk ((by rw [hg]; exact (below_size (by repeat (first | (with_reducible first | exact HB.out | apply below_alloc | apply pw_below_drewN | apply below_drew1) | exact HB.out))):w.heap.size≤gb172)); clear HB; have HB:=n0_; have BK172:=n1_; have GW172:=n2_; have GE172:=n3_; clear n0_ n1_ n2_ n3_; clear hb hbox hg))
 (try simp only [Act.put,List.setIfInBounds_toArray,List.set_cons_zero,List.set_cons_succ])
 go_cut [12] (fun v12 wc=>∃ (kq:Nat) (x12_2:Bool),v12=.bool x12_2∧Aside0 (complineref18_Has.j0 kq a1 x12_2 a0_0 a0_1=some r)∧Aside0 (kq≤k)∧Aside0 (wc.heap[gb172]?=some (.cells #[.int .u64 a0_0,.bool a0_1] 24 (0,0)))∧Aside0 (Below w.heap.size w wc))
 case first=>
  have H:=HC3.out
  clear HC3
  by_cases c5:a1 < 0
  ·rw [if_pos c5] at H
   have c5b0:decide (a1 < 0)=true:=decide_eq_true c5
   clear c5
   (first | rw [c5b0] | (simp only [i64_w,i32_w]; rw [c5b0]) | skip)
   have H':=Aside0.mk H
   clear H
   go_wp2
   go_meet
   case rel=>exact ⟨_,(true),(by first | rfl | (simp; done) | (simp [*]; done)),H',⟨by first | omega | exact Nat.le_refl _⟩,⟨by (with_reducible repeat (first | refine blk_drewN ?_ _ | refine blk_drew ?_ | refine blk_alloc ?_ _)); exact BK172.out⟩,⟨by repeat (first | (with_reducible first | exact HB.out | apply below_alloc | apply pw_below_drewN | apply below_drew1 | refine below_set ?_ GE172.out) | exact HB.out)⟩⟩
  ·rw [if_neg c5] at H
   have c5b0:decide (a1 < 0)=false:=decide_eq_false c5
   clear c5
   (first | rw [c5b0] | (simp only [i64_w,i32_w]; rw [c5b0]) | skip)
   have H':=Aside0.mk H
   clear H
   go_wp2
   go_meet
   case rel=>exact ⟨_,(decide (a1 > 63)),(by first | rfl | (simp; done) | (simp [*]; done)),H',⟨by first | omega | exact Nat.le_refl _⟩,⟨by (with_reducible repeat (first | refine blk_drewN ?_ _ | refine blk_drew ?_ | refine blk_alloc ?_ _)); exact BK172.out⟩,⟨by repeat (first | (with_reducible first | exact HB.out | apply below_alloc | apply pw_below_drewN | apply below_drew1 | refine below_set ?_ GE172.out) | exact HB.out)⟩⟩
 case rest=>
  clear HC3
  try clear p2
  try clear c5
  try clear c5b0
  obtain ⟨kq,x12_2,rfl,HA,HJ2,BK172,HB⟩ :=hcut
  cases kq with
  | zero=>exact absurd HA.out (by simp [complineref18_Has.j0])
  | succ kj2=>
   have H:=HA.out
   clear HA
   simp only [complineref18_Has.j0] at H
   by_cases c6:x12_2=true
   ·subst c6
    have H1:(some false)=some r:=by rw [if_pos rfl] at H; exact H
    clear H
    have H:=H1
    clear H1
    obtain rfl:=Option.some.inj H
    go_wp2
    go_ret
    exact ⟨by first | rfl | (simp [errW_none,errW_some] <;> rfl) | (simp [*,errW_none,errW_some] <;> rfl),by repeat (first | (with_reducible first | exact HB.out | apply below_alloc | apply pw_below_drewN | apply below_drew1 | refine below_set ?_ GE172.out) | exact HB.out)⟩
   ·replace c6:=Bool.eq_false_iff.mpr c6
    subst c6
    have H1:(complineref18_Has.l0 kj2 a1 a0_0 0)=some r:=by rw [if_neg (show ¬ (false=true) by decide)] at H; exact H
    clear H
    have H:=H1
    clear H1
    have H':=Aside0.mk H
    clear H
    have hcz7_0:wc.cell? ⟨gb172,0,none⟩=some (.int .u64 a0_0):=(blk_cell BK172.out 0).trans rfl
    have hcz7_1:wc.cell? ⟨gb172,1,none⟩=some (.bool a0_1):=(blk_cell BK172.out 1).trans rfl
    have hfz7_0:=blk_frozen BK172.out 0
    have hfz7_1:=blk_frozen BK172.out 1
    go_wp2
    go_loopg [5,6] kj2 (fun kq v5 v6 w'=>∃ (x5_2:Int) (x6_2:Int),v5=.int .u64 x5_2∧v6=.int .i64 x6_2∧Aside0 (complineref18_Has.l0 kq a1 x5_2 x6_2=some r)∧Aside0 (kq≤kj2)∧Aside0 (w'.heap[gb172]?=some (.cells #[.int .u64 a0_0,.bool a0_1] 24 (0,0)))∧Aside0 (Below w.heap.size w w'))
    case atStart=>exact ⟨(a0_0),(0),(by first | rfl | (simp; done) | (simp [*]; done)),(by first | rfl | (simp; done) | (simp [*]; done)),H',⟨Nat.le_refl _⟩,⟨by (with_reducible repeat (first | refine blk_drewN ?_ _ | refine blk_drew ?_ | refine blk_alloc ?_ _)); exact BK172.out⟩,⟨by repeat (first | (with_reducible first | exact HB.out | apply below_alloc | apply pw_below_drewN | apply below_drew1 | refine below_set ?_ GE172.out) | exact HB.out)⟩⟩
    case round=>
     clear H'
     try clear p2
     try clear c5
     try clear c5b0
     try clear c6
     try clear hcz7_0
     try clear hcz7_1
     try clear hfz7_0
     try clear hfz7_1
     try clear p2
     obtain ⟨x5_2,x6_2,rfl,rfl,HA,HK2,BK172,HB⟩ :=hrel
     cases gk with
     | zero=>exact absurd HA.out (by simp [complineref18_Has.l0])
     | succ k2=>
      have H:=HA.out
      clear HA
      simp only [complineref18_Has.l0] at H
      by_cases c8:x6_2 < a1
      ·rw [if_pos c8] at H
       have c8b0:decide (x6_2 < a1)=true:=decide_eq_true c8
       clear c8
       have H':=Aside0.mk H
       clear H
       go_wp2
       go_roundg k2
       case measure=>have:=HJ2.out; have:=HK2.out; omega
       case rel=>exact ⟨(IntKind.u64.wrap (Int.tdiv x5_2 2)),(wrap64 (x6_2+1)),(by first | rfl | (simp; done) | (simp [*]; done)),(by first | rfl | (simp; done) | (simp [*]; done)),H',⟨by have:=HJ2.out; have:=HK2.out; omega⟩,⟨by (with_reducible repeat (first | refine blk_drewN ?_ _ | refine blk_drew ?_ | refine blk_alloc ?_ _)); exact BK172.out⟩,⟨by repeat (first | (with_reducible first | exact HB.out | apply below_alloc | apply pw_below_drewN | apply below_drew1 | refine below_set ?_ GE172.out) | exact HB.out)⟩⟩
      ·rw [if_neg c8] at H
       have c8b0:decide (x6_2 < a1)=false:=decide_eq_false c8
       clear c8
       obtain rfl:=Option.some.inj H
       go_wp2
       go_ret
       exact ⟨by first | rfl | (simp [errW_none,errW_some] <;> rfl) | (simp [*,errW_none,errW_some] <;> rfl),by repeat (first | (with_reducible first | exact HB.out | apply below_alloc | apply pw_below_drewN | apply below_drew1 | refine below_set ?_ GE172.out) | exact HB.out)⟩
def complineref17_Limits.f (a0:Int):Option (Int × Int × Int):=if a0=0 then (some (0,59,0)) else (if a0=1 then (some (0,23,0)) else (if a0=2 then (some (1,31,0)) else (if a0=3 then (some (1,12,0)) else (if a0=4 then (some (0,7,0)) else (some (0,0,7))))))
set_option maxHeartbeats 8000000 in
set_option maxRecDepth 100000 in
theorem complineref17_Limits.calls (a0:Int)(r1:Int)(r2:Int)(r3:Int)(w:World)(h:complineref17_Limits.f a0=some (r1,r2,r3)) :
  Calls Tryz.prog 123 #[.int .i64 a0] w fun e w'=>e=.returned (.tuple #[.int .i64 r1,.int .i64 r2,.int .i64 r3])∧Drawn0 w w':=by
 have H:(if a0=0 then (some (0,59,0)) else (if a0=1 then (some (0,23,0)) else (if a0=2 then (some (1,31,0)) else (if a0=3 then (some (1,12,0)) else (if a0=4 then (some (0,7,0)) else (some (0,0,7)))))))=some (r1,r2,r3):=h
 clear h
 by_cases c2:a0=0
 ·rw [if_pos c2] at H
  have c2b0:(a0 == 0)=true:=beq_iff_eq.mpr c2
  have c2b1:(a0 != 0)=false:=bne_eq_false_iff_eq.mpr c2
  clear c2
  simp only [Option.some.injEq,Prod.mk.injEq] at H
  obtain ⟨rfl,rfl,rfl⟩ :=H
  go_enter Tryz.func123,Tryz.ntmps123
  go_wp2
  go_ret3
  exact ⟨by first | rfl | (simp; done) | (simp [*]; done),by repeat (first | exact Drawn0.refl _ | apply Drawn0.step)⟩
 ·rw [if_neg c2] at H
  have c2b0:(a0 == 0)=false:=beq_eq_false_iff_ne.mpr c2
  have c2b1:(a0 != 0)=true:=bne_iff_ne.mpr c2
  by_cases c3:a0=1
  ·rw [if_pos c3] at H
   have c3b0:(a0 == 1)=true:=beq_iff_eq.mpr c3
   have c3b1:(a0 != 1)=false:=bne_eq_false_iff_eq.mpr c3
   clear c3
   simp only [Option.some.injEq,Prod.mk.injEq] at H
   obtain ⟨rfl,rfl,rfl⟩ :=H
   go_enter Tryz.func123,Tryz.ntmps123
   go_wp2
   go_ret3
   exact ⟨by first | rfl | (simp; done) | (simp [*]; done),by repeat (first | exact Drawn0.refl _ | apply Drawn0.step)⟩
  ·rw [if_neg c3] at H
   have c3b0:(a0 == 1)=false:=beq_eq_false_iff_ne.mpr c3
   have c3b1:(a0 != 1)=true:=bne_iff_ne.mpr c3
   by_cases c4:a0=2
   ·rw [if_pos c4] at H
    have c4b0:(a0 == 2)=true:=beq_iff_eq.mpr c4
    have c4b1:(a0 != 2)=false:=bne_eq_false_iff_eq.mpr c4
    clear c4
    simp only [Option.some.injEq,Prod.mk.injEq] at H
    obtain ⟨rfl,rfl,rfl⟩ :=H
    go_enter Tryz.func123,Tryz.ntmps123
    go_wp2
    go_ret3
    exact ⟨by first | rfl | (simp; done) | (simp [*]; done),by repeat (first | exact Drawn0.refl _ | apply Drawn0.step)⟩
   ·rw [if_neg c4] at H
    have c4b0:(a0 == 2)=false:=beq_eq_false_iff_ne.mpr c4
    have c4b1:(a0 != 2)=true:=bne_iff_ne.mpr c4
    by_cases c5:a0=3
    ·rw [if_pos c5] at H
     have c5b0:(a0 == 3)=true:=beq_iff_eq.mpr c5
     have c5b1:(a0 != 3)=false:=bne_eq_false_iff_eq.mpr c5
     clear c5
     simp only [Option.some.injEq,Prod.mk.injEq] at H
     obtain ⟨rfl,rfl,rfl⟩ :=H
     go_enter Tryz.func123,Tryz.ntmps123
     go_wp2
     go_ret3
     exact ⟨by first | rfl | (simp; done) | (simp [*]; done),by repeat (first | exact Drawn0.refl _ | apply Drawn0.step)⟩
    ·rw [if_neg c5] at H
     have c5b0:(a0 == 3)=false:=beq_eq_false_iff_ne.mpr c5
     have c5b1:(a0 != 3)=true:=bne_iff_ne.mpr c5
     by_cases c6:a0=4
     ·rw [if_pos c6] at H
      have c6b0:(a0 == 4)=true:=beq_iff_eq.mpr c6
      have c6b1:(a0 != 4)=false:=bne_eq_false_iff_eq.mpr c6
      clear c6
      simp only [Option.some.injEq,Prod.mk.injEq] at H
      obtain ⟨rfl,rfl,rfl⟩ :=H
      go_enter Tryz.func123,Tryz.ntmps123
      go_wp2
      go_ret3
      exact ⟨by first | rfl | (simp; done) | (simp [*]; done),by repeat (first | exact Drawn0.refl _ | apply Drawn0.step)⟩
     ·rw [if_neg c6] at H
      have c6b0:(a0 == 4)=false:=beq_eq_false_iff_ne.mpr c6
      have c6b1:(a0 != 4)=true:=bne_iff_ne.mpr c6
      simp only [Option.some.injEq,Prod.mk.injEq] at H
      obtain ⟨rfl,rfl,rfl⟩ :=H
      go_enter Tryz.func123,Tryz.ntmps123
      go_wp2
      go_ret3
      exact ⟨by first | rfl | (simp; done) | (simp [*]; done),by repeat (first | exact Drawn0.refl _ | apply Drawn0.step)⟩
def complineref18_limits.f (a0:Int):Option (Int × Int × Int):=(complineref17_Limits.f a0).bind fun bt173=>(if a0=4 then (some (bt173.1,6,bt173.2.2)) else (some (bt173.1,bt173.2.1,bt173.2.2)))
set_option maxHeartbeats 8000000 in
set_option maxRecDepth 100000 in
theorem complineref18_limits.calls (a0:Int)(r1:Int)(r2:Int)(r3:Int)(w:World)(h:complineref18_limits.f a0=some (r1,r2,r3)) :
  Calls Tryz.prog 111 #[.int .i64 a0] w fun e w'=>e=.returned (.tuple #[.int .i64 r1,.int .i64 r2,.int .i64 r3])∧Drawn0 w w':=by
 have H:((complineref17_Limits.f a0).bind fun bt173=>(if a0=4 then (some (bt173.1,6,bt173.2.2)) else (some (bt173.1,bt173.2.1,bt173.2.2))))=some (r1,r2,r3):=h
 clear h
 replace H:=Option.bind_eq_some_iff.mp H
 obtain ⟨⟨t173,t174,t175⟩,A20,H⟩ :=H
 replace H:(if a0=4 then (some (t173,6,t175)) else (some (t173,t174,t175)))=some (r1,r2,r3):=H
 have A2:=Aside0.mk A20
 clear A20
 by_cases c3:a0=4
 ·rw [if_pos c3] at H
  have c3b0:(a0 == 4)=true:=beq_iff_eq.mpr c3
  have c3b1:(a0 != 4)=false:=bne_eq_false_iff_eq.mpr c3
  clear c3
  simp only [Option.some.injEq,Prod.mk.injEq] at H
  obtain ⟨rfl,rfl,rfl⟩ :=H
  go_enter Tryz.func111,Tryz.ntmps111
  go_wp2_with (first | ((with_reducible refine gate_callee (f:=123) rfl ?_); refine goesL_ (some 10) rfl rfl Tryz.func123 (by kernel_rfl) rfl #[.int .i64 a0] rfl (by (try simp only [List.map_toArray,List.map_cons,List.map_nil]); first | done | rfl | (simp only [List.length_drop,List.length_take]; rfl)) ?_; (with_reducible refine (complineref17_Limits.calls a0 t173 t174 t175 _ A2.out).mono ?_); rintro e w' ⟨rfl,⟨nd,rfl⟩⟩; refine ⟨_,rfl,?_⟩))
  go_ret3
  exact ⟨by first | rfl | (simp; done) | (simp [*]; done),by repeat (first | exact Drawn0.refl _ | apply Drawn0.step)⟩
 ·rw [if_neg c3] at H
  have c3b0:(a0 == 4)=false:=beq_eq_false_iff_ne.mpr c3
  have c3b1:(a0 != 4)=true:=bne_iff_ne.mpr c3
  simp only [Option.some.injEq,Prod.mk.injEq] at H
  obtain ⟨rfl,rfl,rfl⟩ :=H
  go_enter Tryz.func111,Tryz.ntmps111
  go_wp2_with (first | ((with_reducible refine gate_callee (f:=123) rfl ?_); refine goesL_ (some 10) rfl rfl Tryz.func123 (by kernel_rfl) rfl #[.int .i64 a0] rfl (by (try simp only [List.map_toArray,List.map_cons,List.map_nil]); first | done | rfl | (simp only [List.length_drop,List.length_take]; rfl)) ?_; (with_reducible refine (complineref17_Limits.calls a0 t173 t174 t175 _ A2.out).mono ?_); rintro e w' ⟨rfl,⟨nd,rfl⟩⟩; refine ⟨_,rfl,?_⟩))
  go_ret3
  exact ⟨by first | rfl | (simp; done) | (simp [*]; done),by repeat (first | exact Drawn0.refl _ | apply Drawn0.step)⟩
mutual
def complineref18_Check.l0:Nat→Int→Int→Int→Int→Int→Bool→Option (Int)
 | 0,_,_,_,_,_,_=>none
 | k+1,x5,x6,x8,x9,x177000,x177001=>if x9 < 64 then ((complineref18_Has.f k x177000 x177001 x9).bind fun t180=>(if t180=true then (if x9 < x5 then (complineref18_Check.j1 k x5 x6 x8 x9 t180 true x177000 x177001) else (complineref18_Check.j1 k x5 x6 x8 x9 t180 (decide (x9 > x6)) x177000 x177001)) else (complineref18_Check.j1 k x5 x6 x8 x9 t180 false x177000 x177001))) else (if x8=0 then (some 2) else (if x177001=true then (if x8=(wrap64 ((wrap64 (x6 - x5))+1)) then (some 0) else (some 2)) else (some 0)))
def complineref18_Check.j1:Nat→Int→Int→Int→Int→Bool→Bool→Int→Bool→Option (Int)
 | 0,_,_,_,_,_,_,_,_=>none
 | k+1,x5,x6,x8,x9,x10,x37,x177000,x177001=>if x37=true then (some 2) else (if x10=true then (complineref18_Check.l0 k x5 x6 (wrap64 (x8+1)) (wrap64 (x9+1)) x177000 x177001) else (complineref18_Check.l0 k x5 x6 x8 (wrap64 (x9+1)) x177000 x177001))
end
def complineref18_Check.f (k:Nat)(a0_0:Int)(a0_1:Bool)(a1:Int):Option (Int):=(complineref18_limits.f a1).bind fun bt177=>(if bt177.2.2=0 then (complineref18_Check.l0 k bt177.1 bt177.2.1 0 0 a0_0 a0_1) else (some bt177.2.2))
theorem complineref18_Check.mono_l:∀ k,(∀ y0 y1 y2 y3 y4 y5,LeO (complineref18_Check.l0 k y0 y1 y2 y3 y4 y5) (complineref18_Check.l0 (k+1) y0 y1 y2 y3 y4 y5))∧(∀ y0 y1 y2 y3 y4 y5 y6 y7,LeO (complineref18_Check.j1 k y0 y1 y2 y3 y4 y5 y6 y7) (complineref18_Check.j1 (k+1) y0 y1 y2 y3 y4 y5 y6 y7))
 | 0=>⟨fun _ _ _ _ _ _ r h=>by simp [complineref18_Check.l0] at h,fun _ _ _ _ _ _ _ _ r h=>by simp [complineref18_Check.j1] at h⟩
 | k+1=>by
  obtain ⟨ih0,ih1⟩ :=complineref18_Check.mono_l k
  refine ⟨?_,?_⟩
  ·intro y0 y1 y2 y3 y4 y5
   unfold complineref18_Check.l0
   repeat' first
   | (with_reducible exact ih0 _ _ _ _ _ _)
   | (with_reducible exact ih1 _ _ _ _ _ _ _ _)
   | (with_reducible exact complineref18_Has.mono _ _ _ _)
   | (with_reducible exact LeO.refl _)
   | (with_reducible exact LeO.none _)
   | (with_reducible refine LeO.ite ?_ ?_)
   | (with_reducible refine LeO.bind ?_ (fun _=>?_))
   | exact ih0 _ _ _ _ _ _
   | exact ih1 _ _ _ _ _ _ _ _
   | exact complineref18_Has.mono _ _ _ _
   | exact LeO.none _
   | refine LeO.ite ?_ ?_
   | refine LeO.bind ?_ (fun _=>?_)
  ·intro y0 y1 y2 y3 y4 y5 y6 y7
   unfold complineref18_Check.j1
   repeat' first
   | (with_reducible exact ih0 _ _ _ _ _ _)
   | (with_reducible exact ih1 _ _ _ _ _ _ _ _)
   | (with_reducible exact complineref18_Has.mono _ _ _ _)
   | (with_reducible exact LeO.refl _)
   | (with_reducible exact LeO.none _)
   | (with_reducible refine LeO.ite ?_ ?_)
   | (with_reducible refine LeO.bind ?_ (fun _=>?_))
   | exact ih0 _ _ _ _ _ _
   | exact ih1 _ _ _ _ _ _ _ _
   | exact complineref18_Has.mono _ _ _ _
   | exact LeO.none _
   | refine LeO.ite ?_ ?_
   | refine LeO.bind ?_ (fun _=>?_)
theorem complineref18_Check.mono:∀ a0 a1 a2 k,LeO (complineref18_Check.f k a0 a1 a2) (complineref18_Check.f (k+1) a0 a1 a2):=by
 intro a0 a1 a2 k
 obtain ⟨ih0,ih1⟩ :=complineref18_Check.mono_l k
 unfold complineref18_Check.f
 repeat' first
   | (with_reducible exact ih0 _ _ _ _ _ _)
   | (with_reducible exact ih1 _ _ _ _ _ _ _ _)
   | (with_reducible exact complineref18_Has.mono _ _ _ _)
   | (with_reducible exact LeO.refl _)
   | (with_reducible exact LeO.none _)
   | (with_reducible refine LeO.ite ?_ ?_)
   | (with_reducible refine LeO.bind ?_ (fun _=>?_))
   | exact ih0 _ _ _ _ _ _
   | exact ih1 _ _ _ _ _ _ _ _
   | exact complineref18_Has.mono _ _ _ _
   | exact LeO.none _
   | refine LeO.ite ?_ ?_
   | refine LeO.bind ?_ (fun _=>?_)
set_option maxHeartbeats 8000000 in
set_option maxRecDepth 100000 in
theorem complineref18_Check.calls (k:Nat)(a0_0:Int)(a0_1:Bool)(a1:Int)(r:Int)(w:World)(h:complineref18_Check.f k a0_0 a0_1 a1=some r) :
  Calls Tryz.prog 94 #[.agg #[.int .u64 a0_0,.bool a0_1],.int .i64 a1] w fun e w'=>e=.returned (.int .i64 r)∧Below w.heap.size w w':=by
 have hu24:=Tryz.underlying24
 have HB:=Aside0.mk (Below.refl w.heap.size w)
 have H:((complineref18_limits.f a1).bind fun bt177=>(if bt177.2.2=0 then (complineref18_Check.l0 k bt177.1 bt177.2.1 0 0 a0_0 a0_1) else (some bt177.2.2)))=some r:=h
 clear h
 replace H:=Option.bind_eq_some_iff.mp H
 obtain ⟨⟨t177,t178,t179⟩,A30,H⟩ :=H
 replace H:(if t179=0 then (complineref18_Check.l0 k t177 t178 0 0 a0_0 a0_1) else (some t179))=some r:=H
 have A3:=Aside0.mk A30
 clear A30
 by_cases c4:t179=0
 ·rw [if_pos c4] at H
  have c4b0:(t179 == 0)=true:=beq_iff_eq.mpr c4
  have c4b1:(t179 != 0)=false:=bne_eq_false_iff_eq.mpr c4
  clear c4
  have H':=Aside0.mk H
  clear H
  go_enter Tryz.func94,Tryz.ntmps94
  go_wp2_with (first | ((with_reducible refine gate_dst (N:=2) rfl ?_); refine box_event ?hg (N:=2) ?hd (cs:=#[.int .u64 a0_0,.bool a0_1]) (t:=24) ?hr ?_; (case hd=>rfl); (case hg=>rfl); (case hr=>first | (go_simp; done) | (go_simp; rfl)); intro gb176 hg w5 hbox hb; have n0_:=Aside0.mk (below_step (by repeat (first | (with_reducible first | exact HB.out | apply below_alloc | apply pw_below_drewN | apply below_drew1) | exact HB.out)) hb); have n1_:=Aside0.mk (hbox); have n2_:=Aside0.mk ((by rw [hg]; exact (below_size (by repeat (first | (with_reducible first | exact HB.out | apply below_alloc | apply pw_below_drewN | apply below_drew1) | exact HB.out))):w.heap.size≤gb176)); have n3_:=Aside0.mk ((by rw [hg]; exact (below_size (by repeat (first | (with_reducible first | exact HB.out | apply below_alloc | apply pw_below_drewN | apply below_drew1) | exact HB.out))):w.heap.size≤gb176)); clear HB; have HB:=n0_; have BK176:=n1_; have GW176:=n2_; have GE176:=n3_; clear n0_ n1_ n2_ n3_; clear hb hbox hg) | ((with_reducible refine gate_callee (f:=111) rfl ?_); refine goesL_ (some 13) rfl rfl Tryz.func111 (by kernel_rfl) rfl #[.int .i64 a1] rfl (by (try simp only [List.map_toArray,List.map_cons,List.map_nil]); first | done | rfl | (simp only [List.length_drop,List.length_take]; rfl)) ?_; (with_reducible refine (complineref18_limits.calls a1 t177 t178 t179 _ A3.out).mono ?_); rintro e w' ⟨rfl,⟨nd,rfl⟩⟩; refine ⟨_,rfl,?_⟩))
  go_loopg [8,9] k (fun kq v8 v9 w'=>∃ (x8_1:Int) (x9_1:Int),v8=.int .i64 x8_1∧v9=.int .i64 x9_1∧Aside0 (complineref18_Check.l0 kq t177 t178 x8_1 x9_1 a0_0 a0_1=some r)∧Aside0 (kq≤k)∧Aside0 (w'.heap[gb176]?=some (.cells #[.int .u64 a0_0,.bool a0_1] 24 (0,0)))∧Aside0 (Below w.heap.size w w'))
  case atStart=>exact ⟨(0),(0),(by first | rfl | (simp; done) | (simp [*]; done)),(by first | rfl | (simp; done) | (simp [*]; done)),H',⟨Nat.le_refl _⟩,⟨by (with_reducible repeat (first | refine blk_drewN ?_ _ | refine blk_drew ?_ | refine blk_alloc ?_ _)); exact BK176.out⟩,⟨by repeat (first | (with_reducible first | exact HB.out | apply below_alloc | apply pw_below_drewN | apply below_drew1 | refine below_set ?_ GE176.out) | exact HB.out)⟩⟩
  case round=>
   clear H'
   try clear c1
   try clear p2
   try clear c4
   try clear c4b0
   try clear c4b1
   obtain ⟨x8_1,x9_1,rfl,rfl,HA,HK1,BK176,HB⟩ :=hrel
   cases gk with
   | zero=>exact absurd HA.out (by simp [complineref18_Check.l0])
   | succ k1=>
    have H:=HA.out
    clear HA
    simp only [complineref18_Check.l0] at H
    by_cases c6:x9_1 < 64
    ·rw [if_pos c6] at H
     have c6b0:decide (x9_1 < 64)=true:=decide_eq_true c6
     clear c6
     replace H:=Option.bind_eq_some_iff.mp H
     obtain ⟨t180,A70,H⟩ :=H
     replace H:(if t180=true then (if x9_1 < t177 then (complineref18_Check.j1 k1 t177 t178 x8_1 x9_1 t180 true a0_0 a0_1) else (complineref18_Check.j1 k1 t177 t178 x8_1 x9_1 t180 (decide (x9_1 > t178)) a0_0 a0_1)) else (complineref18_Check.j1 k1 t177 t178 x8_1 x9_1 t180 false a0_0 a0_1))=some r:=H
     have A7:=Aside0.mk A70
     clear A70
     have HC8:=Aside0.mk H
     clear H
     have hcz9_0:wr.cell? ⟨gb176,0,none⟩=some (.int .u64 a0_0):=(blk_cell BK176.out 0).trans rfl
     have hcz9_1:wr.cell? ⟨gb176,1,none⟩=some (.bool a0_1):=(blk_cell BK176.out 1).trans rfl
     have hfz9_0:=blk_frozen BK176.out 0
     have hfz9_1:=blk_frozen BK176.out 1
     go_upto_region 9 with (first | ((with_reducible refine gate_callee (f:=56) rfl ?_); refine goesL_ (some 26) rfl rfl Tryz.func56 (by kernel_rfl) rfl #[.agg #[.int .u64 a0_0,.bool a0_1],.int .i64 x9_1] rfl (by (try simp only [List.map_toArray,List.map_cons,List.map_nil]); first | done | rfl | (simp only [List.length_drop,List.length_take]; rfl)) ?_; (with_reducible refine (complineref18_Has.calls k1 a0_0 a0_1 x9_1 t180 _ A7.out).mono ?_); rintro e w10 ⟨rfl,hb⟩; refine ⟨_,rfl,?_⟩; have n0_:=Aside0.mk (blk_below (g:=gb176) (o:=.cells #[.int .u64 a0_0,.bool a0_1] 24 (0,0)) (by (with_reducible repeat (first | refine blk_drewN ?_ _ | refine blk_drew ?_ | refine blk_alloc ?_ _)); exact BK176.out) hb); have n1_:=Aside0.mk (below_step (by repeat (first | (with_reducible first | exact HB.out | apply below_alloc | apply pw_below_drewN | apply below_drew1 | refine below_set ?_ GE176.out) | exact HB.out)) hb); clear BK176; clear HB; have BK176:=n0_; have HB:=n1_; clear n0_ n1_; (try clear hb); (try clear hb2); (try clear hk); (try clear hi)))
     (try simp only [Act.put,List.setIfInBounds_toArray,List.set_cons_zero,List.set_cons_succ])
     go_cut [37] (fun v37 wc=>∃ (kq:Nat) (x37_7:Bool),v37=.bool x37_7∧Aside0 (complineref18_Check.j1 kq t177 t178 x8_1 x9_1 t180 x37_7 a0_0 a0_1=some r)∧Aside0 (kq≤k1)∧Aside0 (wc.heap[gb176]?=some (.cells #[.int .u64 a0_0,.bool a0_1] 24 (0,0)))∧Aside0 (Below w.heap.size w wc))
     case first=>
      have H:=HC8.out
      clear HC8
      by_cases c11:t180=true
      ·subst c11
       have H1:(if x9_1 < t177 then (complineref18_Check.j1 k1 t177 t178 x8_1 x9_1 true true a0_0 a0_1) else (complineref18_Check.j1 k1 t177 t178 x8_1 x9_1 true (decide (x9_1 > t178)) a0_0 a0_1))=some r:=by rw [if_pos rfl] at H; exact H
       clear H
       have H:=H1
       clear H1
       by_cases c12:x9_1 < t177
       ·rw [if_pos c12] at H
        have c12b0:decide (x9_1 < t177)=true:=decide_eq_true c12
        clear c12
        (first | rw [c12b0] | (simp only [i64_w,i32_w]; rw [c12b0]) | skip)
        have H':=Aside0.mk H
        clear H
        go_wp2
        go_meet
        case rel=>exact ⟨_,(true),(by first | rfl | (simp; done) | (simp [*]; done)),H',⟨by have:=HK1.out; first | omega | exact Nat.le_refl _⟩,⟨by (with_reducible repeat (first | refine blk_drewN ?_ _ | refine blk_drew ?_ | refine blk_alloc ?_ _)); exact BK176.out⟩,⟨by repeat (first | (with_reducible first | exact HB.out | apply below_alloc | apply pw_below_drewN | apply below_drew1 | refine below_set ?_ GE176.out) | exact HB.out)⟩⟩
       ·rw [if_neg c12] at H
        have c12b0:decide (x9_1 < t177)=false:=decide_eq_false c12
        clear c12
        (first | rw [c12b0] | (simp only [i64_w,i32_w]; rw [c12b0]) | skip)
        have H':=Aside0.mk H
        clear H
        go_wp2
        go_meet
        case rel=>exact ⟨_,(decide (x9_1 > t178)),(by first | rfl | (simp; done) | (simp [*]; done)),H',⟨by have:=HK1.out; first | omega | exact Nat.le_refl _⟩,⟨by (with_reducible repeat (first | refine blk_drewN ?_ _ | refine blk_drew ?_ | refine blk_alloc ?_ _)); exact BK176.out⟩,⟨by repeat (first | (with_reducible first | exact HB.out | apply below_alloc | apply pw_below_drewN | apply below_drew1 | refine below_set ?_ GE176.out) | exact HB.out)⟩⟩
      ·replace c11:=Bool.eq_false_iff.mpr c11
       subst c11
       have H1:(complineref18_Check.j1 k1 t177 t178 x8_1 x9_1 false false a0_0 a0_1)=some r:=by rw [if_neg (show ¬ (false=true) by decide)] at H; exact H
       clear H
       have H:=H1
       clear H1
       have H':=Aside0.mk H
       clear H
       go_wp2
       go_meet
       case rel=>exact ⟨_,(false),(by first | rfl | (simp; done) | (simp [*]; done)),H',⟨by have:=HK1.out; first | omega | exact Nat.le_refl _⟩,⟨by (with_reducible repeat (first | refine blk_drewN ?_ _ | refine blk_drew ?_ | refine blk_alloc ?_ _)); exact BK176.out⟩,⟨by repeat (first | (with_reducible first | exact HB.out | apply below_alloc | apply pw_below_drewN | apply below_drew1 | refine below_set ?_ GE176.out) | exact HB.out)⟩⟩
     case rest=>
      clear HC8
      try clear c1
      try clear p2
      try clear c4
      try clear c4b0
      try clear c4b1
      try clear c5
      try clear c6
      try clear c6b0
      try clear c9
      try clear c11
      try clear c12
      try clear c12b0
      try clear hcz9_0
      try clear hcz9_1
      try clear hfz9_0
      try clear hfz9_1
      try clear p2
      obtain ⟨kq,x37_7,rfl,HA,HJ7,BK176,HB⟩ :=hcut
      cases kq with
      | zero=>exact absurd HA.out (by simp [complineref18_Check.j1])
      | succ kj7=>
       have H:=HA.out
       clear HA
       simp only [complineref18_Check.j1] at H
       by_cases c13:x37_7=true
       ·subst c13
        have H1:(some 2)=some r:=by rw [if_pos rfl] at H; exact H
        clear H
        have H:=H1
        clear H1
        obtain rfl:=Option.some.inj H
        go_wp2
        go_ret
        exact ⟨by first | rfl | (simp [errW_none,errW_some] <;> rfl) | (simp [*,errW_none,errW_some] <;> rfl),by repeat (first | (with_reducible first | exact HB.out | apply below_alloc | apply pw_below_drewN | apply below_drew1 | refine below_set ?_ GE176.out) | exact HB.out)⟩
       ·replace c13:=Bool.eq_false_iff.mpr c13
        subst c13
        have H1:(if t180=true then (complineref18_Check.l0 kj7 t177 t178 (wrap64 (x8_1+1)) (wrap64 (x9_1+1)) a0_0 a0_1) else (complineref18_Check.l0 kj7 t177 t178 x8_1 (wrap64 (x9_1+1)) a0_0 a0_1))=some r:=by rw [if_neg (show ¬ (false=true) by decide)] at H; exact H
        clear H
        have H:=H1
        clear H1
        by_cases c14:t180=true
        ·subst c14
         have H1:(complineref18_Check.l0 kj7 t177 t178 (wrap64 (x8_1+1)) (wrap64 (x9_1+1)) a0_0 a0_1)=some r:=by rw [if_pos rfl] at H; exact H
         clear H
         have H:=H1
         clear H1
         have H':=Aside0.mk H
         clear H
         go_wp2
         go_roundg kj7
         case measure=>have:=HK1.out; have:=HJ7.out; omega
         case rel=>exact ⟨(wrap64 (x8_1+1)),(wrap64 (x9_1+1)),(by first | rfl | (simp; done) | (simp [*]; done)),(by first | rfl | (simp; done) | (simp [*]; done)),H',⟨by have:=HK1.out; have:=HJ7.out; omega⟩,⟨by (with_reducible repeat (first | refine blk_drewN ?_ _ | refine blk_drew ?_ | refine blk_alloc ?_ _)); exact BK176.out⟩,⟨by repeat (first | (with_reducible first | exact HB.out | apply below_alloc | apply pw_below_drewN | apply below_drew1 | refine below_set ?_ GE176.out) | exact HB.out)⟩⟩
        ·replace c14:=Bool.eq_false_iff.mpr c14
         subst c14
         have H1:(complineref18_Check.l0 kj7 t177 t178 x8_1 (wrap64 (x9_1+1)) a0_0 a0_1)=some r:=by rw [if_neg (show ¬ (false=true) by decide)] at H; exact H
         clear H
         have H:=H1
         clear H1
         have H':=Aside0.mk H
         clear H
         go_wp2
         go_roundg kj7
         case measure=>have:=HK1.out; have:=HJ7.out; omega
         case rel=>exact ⟨(x8_1),(wrap64 (x9_1+1)),(by first | rfl | (simp; done) | (simp [*]; done)),(by first | rfl | (simp; done) | (simp [*]; done)),H',⟨by have:=HK1.out; have:=HJ7.out; omega⟩,⟨by (with_reducible repeat (first | refine blk_drewN ?_ _ | refine blk_drew ?_ | refine blk_alloc ?_ _)); exact BK176.out⟩,⟨by repeat (first | (with_reducible first | exact HB.out | apply below_alloc | apply pw_below_drewN | apply below_drew1 | refine below_set ?_ GE176.out) | exact HB.out)⟩⟩
    ·rw [if_neg c6] at H
     have c6b0:decide (x9_1 < 64)=false:=decide_eq_false c6
     clear c6
     by_cases c15:x8_1=0
     ·rw [if_pos c15] at H
      have c15b0:(x8_1 == 0)=true:=beq_iff_eq.mpr c15
      have c15b1:(x8_1 != 0)=false:=bne_eq_false_iff_eq.mpr c15
      clear c15
      obtain rfl:=Option.some.inj H
      go_wp2
      go_ret
      exact ⟨by first | rfl | (simp [errW_none,errW_some] <;> rfl) | (simp [*,errW_none,errW_some] <;> rfl),by repeat (first | (with_reducible first | exact HB.out | apply below_alloc | apply pw_below_drewN | apply below_drew1 | refine below_set ?_ GE176.out) | exact HB.out)⟩
     ·rw [if_neg c15] at H
      have c15b0:(x8_1 == 0)=false:=beq_eq_false_iff_ne.mpr c15
      have c15b1:(x8_1 != 0)=true:=bne_iff_ne.mpr c15
      by_cases c16:a0_1=true
      ·subst c16
       have H1:(if x8_1=(wrap64 ((wrap64 (t178 - t177))+1)) then (some 0) else (some 2))=some r:=by rw [if_pos rfl] at H; exact H
       clear H
       have H:=H1
       clear H1
       by_cases c17:x8_1=(wrap64 ((wrap64 (t178 - t177))+1))
       ·rw [if_pos c17] at H
        have c17b0:(x8_1 == (wrap64 ((wrap64 (t178 - t177))+1)))=true:=beq_iff_eq.mpr c17
        have c17b1:(x8_1 != (wrap64 ((wrap64 (t178 - t177))+1)))=false:=bne_eq_false_iff_eq.mpr c17
        clear c17
        obtain rfl:=Option.some.inj H
        have hcz18_0:wr.cell? ⟨gb176,0,none⟩=some (.int .u64 a0_0):=(blk_cell BK176.out 0).trans rfl
        have hcz18_1:wr.cell? ⟨gb176,1,none⟩=some (.bool true):=(blk_cell BK176.out 1).trans rfl
        have hfz18_0:=blk_frozen BK176.out 0
        have hfz18_1:=blk_frozen BK176.out 1
        go_wp2
        go_ret
        exact ⟨by first | rfl | (simp [errW_none,errW_some] <;> rfl) | (simp [*,errW_none,errW_some] <;> rfl),by repeat (first | (with_reducible first | exact HB.out | apply below_alloc | apply pw_below_drewN | apply below_drew1 | refine below_set ?_ GE176.out) | exact HB.out)⟩
       ·rw [if_neg c17] at H
        have c17b0:(x8_1 == (wrap64 ((wrap64 (t178 - t177))+1)))=false:=beq_eq_false_iff_ne.mpr c17
        have c17b1:(x8_1 != (wrap64 ((wrap64 (t178 - t177))+1)))=true:=bne_iff_ne.mpr c17
        obtain rfl:=Option.some.inj H
        have hcz19_0:wr.cell? ⟨gb176,0,none⟩=some (.int .u64 a0_0):=(blk_cell BK176.out 0).trans rfl
        have hcz19_1:wr.cell? ⟨gb176,1,none⟩=some (.bool true):=(blk_cell BK176.out 1).trans rfl
        have hfz19_0:=blk_frozen BK176.out 0
        have hfz19_1:=blk_frozen BK176.out 1
        go_wp2
        go_ret
        exact ⟨by first | rfl | (simp [errW_none,errW_some] <;> rfl) | (simp [*,errW_none,errW_some] <;> rfl),by repeat (first | (with_reducible first | exact HB.out | apply below_alloc | apply pw_below_drewN | apply below_drew1 | refine below_set ?_ GE176.out) | exact HB.out)⟩
      ·replace c16:=Bool.eq_false_iff.mpr c16
       subst c16
       have H1:(some 0)=some r:=by rw [if_neg (show ¬ (false=true) by decide)] at H; exact H
       clear H
       have H:=H1
       clear H1
       obtain rfl:=Option.some.inj H
       have hcz20_0:wr.cell? ⟨gb176,0,none⟩=some (.int .u64 a0_0):=(blk_cell BK176.out 0).trans rfl
       have hcz20_1:wr.cell? ⟨gb176,1,none⟩=some (.bool false):=(blk_cell BK176.out 1).trans rfl
       have hfz20_0:=blk_frozen BK176.out 0
       have hfz20_1:=blk_frozen BK176.out 1
       go_wp2
       go_ret
       exact ⟨by first | rfl | (simp [errW_none,errW_some] <;> rfl) | (simp [*,errW_none,errW_some] <;> rfl),by repeat (first | (with_reducible first | exact HB.out | apply below_alloc | apply pw_below_drewN | apply below_drew1 | refine below_set ?_ GE176.out) | exact HB.out)⟩
 ·rw [if_neg c4] at H
  have c4b0:(t179 == 0)=false:=beq_eq_false_iff_ne.mpr c4
  have c4b1:(t179 != 0)=true:=bne_iff_ne.mpr c4
  obtain rfl:=Option.some.inj H
  go_enter Tryz.func94,Tryz.ntmps94
  go_wp2_with (first | ((with_reducible refine gate_dst (N:=2) rfl ?_); refine box_event ?hg (N:=2) ?hd (cs:=#[.int .u64 a0_0,.bool a0_1]) (t:=24) ?hr ?_; (case hd=>rfl); (case hg=>rfl); (case hr=>first | (go_simp; done) | (go_simp; rfl)); intro gb176 hg w21 hbox hb; have n0_:=Aside0.mk (below_step (by repeat (first | (with_reducible first | exact HB.out | apply below_alloc | apply pw_below_drewN | apply below_drew1) | exact HB.out)) hb); have n1_:=Aside0.mk (hbox); have n2_:=Aside0.mk ((by rw [hg]; exact (below_size (by repeat (first | (with_reducible first | exact HB.out | apply below_alloc | apply pw_below_drewN | apply below_drew1) | exact HB.out))):w.heap.size≤gb176)); have n3_:=Aside0.mk ((by rw [hg]; exact (below_size (by repeat (first | (with_reducible first | exact HB.out | apply below_alloc | apply pw_below_drewN | apply below_drew1) | exact HB.out))):w.heap.size≤gb176)); clear HB; have HB:=n0_; have BK176:=n1_; have GW176:=n2_; have GE176:=n3_; clear n0_ n1_ n2_ n3_; clear hb hbox hg) | ((with_reducible refine gate_callee (f:=111) rfl ?_); refine goesL_ (some 13) rfl rfl Tryz.func111 (by kernel_rfl) rfl #[.int .i64 a1] rfl (by (try simp only [List.map_toArray,List.map_cons,List.map_nil]); first | done | rfl | (simp only [List.length_drop,List.length_take]; rfl)) ?_; (with_reducible refine (complineref18_limits.calls a1 t177 t178 t179 _ A3.out).mono ?_); rintro e w' ⟨rfl,⟨nd,rfl⟩⟩; refine ⟨_,rfl,?_⟩))
  go_ret
  exact ⟨by first | rfl | (simp [errW_none,errW_some] <;> rfl) | (simp [*,errW_none,errW_some] <;> rfl),by repeat (first | (with_reducible first | exact HB.out | apply below_alloc | apply pw_below_drewN | apply below_drew1 | refine below_set ?_ GE176.out) | exact HB.out)⟩
def complineref19_Check.l0:Nat→List (S24)→Int→Option (Int × Int)
 | 0,_,_=>none
 | k+1,x4,x5=>if x5 < 5 then (if 0≤x5 then (if x5 < (x4.length:Int) then ((complineref18_Check.f k ((rd_T24 x4 x5).f0) ((rd_T24 x4 x5).f1) x5).bind fun t186=>(if t186=0 then (complineref19_Check.l0 k x4 (wrap64 (x5+1))) else (some (wrap64 (x5+1),t186)))) else (none)) else (none)) else (some (0,0))
def complineref19_Check.f (k:Nat)(a0_0:Int)(a0_1:Bool)(a0_2:Int)(a0_3:Bool)(a0_4:Int)(a0_5:Bool)(a0_6:Int)(a0_7:Bool)(a0_8:Int)(a0_9:Bool):Option (Int × Int):=(complineref19_Fields.f a0_0 a0_1 a0_2 a0_3 a0_4 a0_5 a0_6 a0_7 a0_8 a0_9).bind fun t182=>(complineref19_Check.l0 k t182 0)
theorem complineref19_Check.mono_l:∀ k,(∀ y0 y1,LeO (complineref19_Check.l0 k y0 y1) (complineref19_Check.l0 (k+1) y0 y1))
 | 0=>fun _ _ r h=>by simp [complineref19_Check.l0] at h
 | k+1=>by
  have ih0:=complineref19_Check.mono_l k
  ·intro y0 y1
   unfold complineref19_Check.l0
   repeat' first
   | (with_reducible exact ih0 _ _)
   | (with_reducible exact complineref18_Check.mono _ _ _ _)
   | (with_reducible exact LeO.refl _)
   | (with_reducible exact LeO.none _)
   | (with_reducible refine LeO.ite ?_ ?_)
   | (with_reducible refine LeO.bind ?_ (fun _=>?_))
   | exact ih0 _ _
   | exact complineref18_Check.mono _ _ _ _
   | exact LeO.none _
   | refine LeO.ite ?_ ?_
   | refine LeO.bind ?_ (fun _=>?_)
theorem complineref19_Check.mono:∀ a0 a1 a2 a3 a4 a5 a6 a7 a8 a9 k,LeO (complineref19_Check.f k a0 a1 a2 a3 a4 a5 a6 a7 a8 a9) (complineref19_Check.f (k+1) a0 a1 a2 a3 a4 a5 a6 a7 a8 a9):=by
 intro a0 a1 a2 a3 a4 a5 a6 a7 a8 a9 k
 have ih0:=complineref19_Check.mono_l k
 unfold complineref19_Check.f
 repeat' first
   | (with_reducible exact ih0 _ _)
   | (with_reducible exact complineref18_Check.mono _ _ _ _)
   | (with_reducible exact LeO.refl _)
   | (with_reducible exact LeO.none _)
   | (with_reducible refine LeO.ite ?_ ?_)
   | (with_reducible refine LeO.bind ?_ (fun _=>?_))
   | exact ih0 _ _
   | exact complineref18_Check.mono _ _ _ _
   | exact LeO.none _
   | refine LeO.ite ?_ ?_
   | refine LeO.bind ?_ (fun _=>?_)
set_option maxHeartbeats 8000000 in
set_option maxRecDepth 100000 in
theorem complineref19_Check.calls (k:Nat)(a0_0:Int)(a0_1:Bool)(a0_2:Int)(a0_3:Bool)(a0_4:Int)(a0_5:Bool)(a0_6:Int)(a0_7:Bool)(a0_8:Int)(a0_9:Bool)(r1:Int)(r2:Int)(w:World)(h:complineref19_Check.f k a0_0 a0_1 a0_2 a0_3 a0_4 a0_5 a0_6 a0_7 a0_8 a0_9=some (r1,r2)) :
  Calls Tryz.prog 53 #[.agg #[.int .u64 a0_0,.bool a0_1,.int .u64 a0_2,.bool a0_3,.int .u64 a0_4,.bool a0_5,.int .u64 a0_6,.bool a0_7,.int .u64 a0_8,.bool a0_9]] w fun e w'=>e=.returned (.tuple #[.int .i64 r1,.int .i64 r2])∧Below w.heap.size w w':=by
 have hu26:=Tryz.underlying26
 have hu24:=Tryz.underlying24
 have HB:=Aside0.mk (Below.refl w.heap.size w)
 have H:((complineref19_Fields.f a0_0 a0_1 a0_2 a0_3 a0_4 a0_5 a0_6 a0_7 a0_8 a0_9).bind fun t182=>(complineref19_Check.l0 k t182 0))=some (r1,r2):=h
 clear h
 replace H:=Option.bind_eq_some_iff.mp H
 obtain ⟨t182,A20,H⟩ :=H
 replace H:(complineref19_Check.l0 k t182 0)=some (r1,r2):=H
 have A2:=Aside0.mk A20
 clear A20
 have H':=Aside0.mk H
 clear H
 go_enter Tryz.func53,Tryz.ntmps53
 go_wp2_with (first | ((with_reducible refine gate_dst (N:=1) rfl ?_); refine box_event ?hg (N:=1) ?hd (cs:=#[.int .u64 a0_0,.bool a0_1,.int .u64 a0_2,.bool a0_3,.int .u64 a0_4,.bool a0_5,.int .u64 a0_6,.bool a0_7,.int .u64 a0_8,.bool a0_9]) (t:=26) ?hr ?_; (case hd=>rfl); (case hg=>rfl); (case hr=>first | (go_simp; done) | (go_simp; rfl)); intro gb181 hg w3 hbox hb; have n0_:=Aside0.mk (below_step (by repeat (first | (with_reducible first | exact HB.out | apply below_alloc | apply pw_below_drewN | apply below_drew1) | exact HB.out)) hb); have n1_:=Aside0.mk (hbox); have n2_:=Aside0.mk ((by rw [hg]; exact (below_size (by repeat (first | (with_reducible first | exact HB.out | apply below_alloc | apply pw_below_drewN | apply below_drew1) | exact HB.out))):w.heap.size≤gb181)); have n3_:=Aside0.mk ((by rw [hg]; exact (below_size (by repeat (first | (with_reducible first | exact HB.out | apply below_alloc | apply pw_below_drewN | apply below_drew1) | exact HB.out))):w.heap.size≤gb181)); clear HB; have HB:=n0_; have BK181:=n1_; have GW181:=n2_; have GE181:=n3_; clear n0_ n1_ n2_ n3_; clear hb hbox hg; have hcz4_0:w3.cell? ⟨gb181,0,none⟩=some (.int .u64 a0_0):=(blk_cell BK181.out 0).trans rfl; have hcz4_1:w3.cell? ⟨gb181,1,none⟩=some (.bool a0_1):=(blk_cell BK181.out 1).trans rfl; have hcz4_2:w3.cell? ⟨gb181,2,none⟩=some (.int .u64 a0_2):=(blk_cell BK181.out 2).trans rfl; have hcz4_3:w3.cell? ⟨gb181,3,none⟩=some (.bool a0_3):=(blk_cell BK181.out 3).trans rfl; have hcz4_4:w3.cell? ⟨gb181,4,none⟩=some (.int .u64 a0_4):=(blk_cell BK181.out 4).trans rfl; have hcz4_5:w3.cell? ⟨gb181,5,none⟩=some (.bool a0_5):=(blk_cell BK181.out 5).trans rfl; have hcz4_6:w3.cell? ⟨gb181,6,none⟩=some (.int .u64 a0_6):=(blk_cell BK181.out 6).trans rfl; have hcz4_7:w3.cell? ⟨gb181,7,none⟩=some (.bool a0_7):=(blk_cell BK181.out 7).trans rfl; have hcz4_8:w3.cell? ⟨gb181,8,none⟩=some (.int .u64 a0_8):=(blk_cell BK181.out 8).trans rfl; have hcz4_9:w3.cell? ⟨gb181,9,none⟩=some (.bool a0_9):=(blk_cell BK181.out 9).trans rfl; have hfz4_0:=blk_frozen BK181.out 0; have hfz4_1:=blk_frozen BK181.out 1; have hfz4_2:=blk_frozen BK181.out 2; have hfz4_3:=blk_frozen BK181.out 3; have hfz4_4:=blk_frozen BK181.out 4; have hfz4_5:=blk_frozen BK181.out 5; have hfz4_6:=blk_frozen BK181.out 6; have hfz4_7:=blk_frozen BK181.out 7; have hfz4_8:=blk_frozen BK181.out 8; have hfz4_9:=blk_frozen BK181.out 9) | ((with_reducible refine gate_callee (f:=93) rfl ?_); refine goesL_ (some 8) rfl rfl Tryz.func93 (by kernel_rfl) rfl #[.agg #[.int .u64 a0_0,.bool a0_1,.int .u64 a0_2,.bool a0_3,.int .u64 a0_4,.bool a0_5,.int .u64 a0_6,.bool a0_7,.int .u64 a0_8,.bool a0_9]] rfl (by (try simp only [List.map_toArray,List.map_cons,List.map_nil]); first | done | rfl | (simp only [List.length_drop,List.length_take]; rfl)) ?_; (with_reducible refine (complineref19_Fields.calls a0_0 a0_1 a0_2 a0_3 a0_4 a0_5 a0_6 a0_7 a0_8 a0_9 t182 _ A2.out).mono ?_); rintro e w5 ⟨v183,rfl,ho0,hb⟩; refine ⟨_,rfl,?_⟩; have n0_:=Aside0.mk (Kd.R_lower ho0 (below_size (by repeat (first | (with_reducible first | exact HB.out | apply below_alloc | apply pw_below_drewN | apply below_drew1 | refine below_set ?_ GE181.out) | exact HB.out)))); have n1_:=Aside0.mk (blk_below (g:=gb181) (o:=.cells #[.int .u64 a0_0,.bool a0_1,.int .u64 a0_2,.bool a0_3,.int .u64 a0_4,.bool a0_5,.int .u64 a0_6,.bool a0_7,.int .u64 a0_8,.bool a0_9] 26 (0,0)) (by (with_reducible repeat (first | refine blk_drewN ?_ _ | refine blk_drew ?_ | refine blk_alloc ?_ _)); exact BK181.out) hb); have n2_:=Aside0.mk (below_step (by repeat (first | (with_reducible first | exact HB.out | apply below_alloc | apply pw_below_drewN | apply below_drew1 | refine below_set ?_ GE181.out) | exact HB.out)) hb); clear BK181; clear HB; have HO184:=n0_; have BK181:=n1_; have HB:=n2_; clear n0_ n1_ n2_; (try clear hb); (try clear hb2); (try clear hk); (try clear hi); (try clear ho0)))
 go_loopg [5] k (fun kq v5 w'=>∃ (x5_1:Int),v5=.int .i64 x5_1∧Aside0 (complineref19_Check.l0 kq t182 x5_1=some (r1,r2))∧Aside0 (kq≤k)∧Aside0 (Kd.R k24 24 w' w.heap.size (fun _=>True) v183 t182)∧Aside0 (w'.heap[gb181]?=some (.cells #[.int .u64 a0_0,.bool a0_1,.int .u64 a0_2,.bool a0_3,.int .u64 a0_4,.bool a0_5,.int .u64 a0_6,.bool a0_7,.int .u64 a0_8,.bool a0_9] 26 (0,0)))∧Aside0 (Below w.heap.size w w'))
 case atStart=>exact ⟨(0),(by first | rfl | (simp; done) | (simp [*]; done)),H',⟨Nat.le_refl _⟩,⟨by (with_reducible repeat (first | apply Kd.R_alloc | apply Kd.R_drewN | apply Kd.R_drew)); exact HO184.out⟩,⟨by (with_reducible repeat (first | refine blk_drewN ?_ _ | refine blk_drew ?_ | refine blk_alloc ?_ _)); exact BK181.out⟩,⟨by repeat (first | (with_reducible first | exact HB.out | apply below_alloc | apply pw_below_drewN | apply below_drew1 | refine below_set ?_ GE181.out) | exact HB.out)⟩⟩
 case round=>
  clear H'
  try clear p2
  try clear c5
  try clear hcz4_0
  try clear hcz4_1
  try clear hcz4_2
  try clear hcz4_3
  try clear hcz4_4
  try clear hcz4_5
  try clear hcz4_6
  try clear hcz4_7
  try clear hcz4_8
  try clear hcz4_9
  try clear hfz4_0
  try clear hfz4_1
  try clear hfz4_2
  try clear hfz4_3
  try clear hfz4_4
  try clear hfz4_5
  try clear hfz4_6
  try clear hfz4_7
  try clear hfz4_8
  try clear hfz4_9
  obtain ⟨x5_1,rfl,HA,HK1,HO_4,BK181,HB⟩ :=hrel
  cases gk with
  | zero=>exact absurd HA.out (by simp [complineref19_Check.l0])
  | succ k1=>
   have H:=HA.out
   clear HA
   simp only [complineref19_Check.l0] at H
   by_cases c6:x5_1 < 5
   ·rw [if_pos c6] at H
    have c6b0:decide (x5_1 < 5)=true:=decide_eq_true c6
    clear c6
    by_cases c7:0≤x5_1
    ·rw [if_pos c7] at H
     have c7b0:decide (0≤x5_1)=true:=decide_eq_true c7
     clear c7
     by_cases c8:x5_1 < (t182.length:Int)
     ·rw [if_pos c8] at H
      have c8b0:decide (x5_1 < (t182.length:Int))=true:=decide_eq_true c8
      clear c8
      replace H:=Option.bind_eq_some_iff.mp H
      obtain ⟨t186,A90,H⟩ :=H
      replace H:(if t186=0 then (complineref19_Check.l0 k1 t182 (wrap64 (x5_1+1))) else (some (wrap64 (x5_1+1),t186)))=some (r1,r2):=H
      have A9:=Aside0.mk A90
      clear A90
      by_cases c10:t186=0
      ·rw [if_pos c10] at H
       have c10b0:(t186 == 0)=true:=beq_iff_eq.mpr c10
       have c10b1:(t186 != 0)=false:=bne_eq_false_iff_eq.mpr c10
       clear c10
       have H':=Aside0.mk H
       clear H
       obtain ⟨Ao11,co11,eo11⟩ :=Kd.R_slice HO_4.out
       subst eo11
       have p185:0≤(x5_1:Int):=of_decide_eq_true (by first | (with_reducible assumption) | assumption)
       have q185:x5_1 < (t182.length:Int):=of_decide_eq_true (by first | (with_reducible assumption) | assumption)
       obtain ⟨ad185,e185,hx185_0,hx185_1⟩ :=at_T24 (Kd.R_reads' HO_4.out).2.2 x5_1 p185 q185
       cases e185
       replace p185:=eq_true p185
       replace q185:=eq_true q185
       go_wp2_with (first | ((with_reducible refine gate_callee (f:=94) rfl ?_); refine goesL_ (some 18) rfl rfl Tryz.func94 (by kernel_rfl) rfl #[.agg #[.int .u64 ((rd_T24 t182 x5_1).f0),.bool ((rd_T24 t182 x5_1).f1)],.int .i64 x5_1] rfl (by (try simp only [List.map_toArray,List.map_cons,List.map_nil]); first | done | rfl | (simp only [List.length_drop,List.length_take]; rfl)) ?_; (with_reducible refine (complineref18_Check.calls k1 ((rd_T24 t182 x5_1).f0) ((rd_T24 t182 x5_1).f1) x5_1 t186 _ A9.out).mono ?_); rintro e w12 ⟨rfl,hb⟩; refine ⟨_,rfl,?_⟩; have n0_:=Aside0.mk (Kd.R_below (by (with_reducible repeat (first | apply Kd.R_alloc | apply Kd.R_drewN | apply Kd.R_drew)); exact HO_4.out) hb); have n1_:=Aside0.mk (blk_below (g:=gb181) (o:=.cells #[.int .u64 a0_0,.bool a0_1,.int .u64 a0_2,.bool a0_3,.int .u64 a0_4,.bool a0_5,.int .u64 a0_6,.bool a0_7,.int .u64 a0_8,.bool a0_9] 26 (0,0)) (by (with_reducible repeat (first | refine blk_drewN ?_ _ | refine blk_drew ?_ | refine blk_alloc ?_ _)); exact BK181.out) hb); have n2_:=Aside0.mk (below_step (by repeat (first | (with_reducible first | exact HB.out | apply below_alloc | apply pw_below_drewN | apply below_drew1 | refine below_set ?_ GE181.out) | exact HB.out)) hb); clear HO_4; clear BK181; clear HB; have HO_4:=n0_; have BK181:=n1_; have HB:=n2_; clear n0_ n1_ n2_; (try clear hb); (try clear hb2); (try clear hk); (try clear hi)))
       go_roundg k1
       case measure=>have:=HK1.out; omega
       case rel=>exact ⟨(wrap64 (x5_1+1)),(by first | rfl | (simp; done) | (simp [*]; done)),H',⟨by have:=HK1.out; omega⟩,⟨by (with_reducible repeat (first | apply Kd.R_alloc | apply Kd.R_drewN | apply Kd.R_drew)); exact HO_4.out⟩,⟨by (with_reducible repeat (first | refine blk_drewN ?_ _ | refine blk_drew ?_ | refine blk_alloc ?_ _)); exact BK181.out⟩,⟨by repeat (first | (with_reducible first | exact HB.out | apply below_alloc | apply pw_below_drewN | apply below_drew1 | refine below_set ?_ GE181.out) | exact HB.out)⟩⟩
      ·rw [if_neg c10] at H
       have c10b0:(t186 == 0)=false:=beq_eq_false_iff_ne.mpr c10
       have c10b1:(t186 != 0)=true:=bne_iff_ne.mpr c10
       simp only [Option.some.injEq,Prod.mk.injEq] at H
       obtain ⟨rfl,rfl⟩ :=H
       obtain ⟨Ao13,co13,eo13⟩ :=Kd.R_slice HO_4.out
       subst eo13
       have p185:0≤(x5_1:Int):=of_decide_eq_true (by first | (with_reducible assumption) | assumption)
       have q185:x5_1 < (t182.length:Int):=of_decide_eq_true (by first | (with_reducible assumption) | assumption)
       obtain ⟨ad185,e185,hx185_0,hx185_1⟩ :=at_T24 (Kd.R_reads' HO_4.out).2.2 x5_1 p185 q185
       cases e185
       replace p185:=eq_true p185
       replace q185:=eq_true q185
       go_wp2_with (first | ((with_reducible refine gate_callee (f:=94) rfl ?_); refine goesL_ (some 18) rfl rfl Tryz.func94 (by kernel_rfl) rfl #[.agg #[.int .u64 ((rd_T24 t182 x5_1).f0),.bool ((rd_T24 t182 x5_1).f1)],.int .i64 x5_1] rfl (by (try simp only [List.map_toArray,List.map_cons,List.map_nil]); first | done | rfl | (simp only [List.length_drop,List.length_take]; rfl)) ?_; (with_reducible refine (complineref18_Check.calls k1 ((rd_T24 t182 x5_1).f0) ((rd_T24 t182 x5_1).f1) x5_1 t186 _ A9.out).mono ?_); rintro e w14 ⟨rfl,hb⟩; refine ⟨_,rfl,?_⟩; have n0_:=Aside0.mk (Kd.R_below (by (with_reducible repeat (first | apply Kd.R_alloc | apply Kd.R_drewN | apply Kd.R_drew)); exact HO_4.out) hb); have n1_:=Aside0.mk (blk_below (g:=gb181) (o:=.cells #[.int .u64 a0_0,.bool a0_1,.int .u64 a0_2,.bool a0_3,.int .u64 a0_4,.bool a0_5,.int .u64 a0_6,.bool a0_7,.int .u64 a0_8,.bool a0_9] 26 (0,0)) (by (with_reducible repeat (first | refine blk_drewN ?_ _ | refine blk_drew ?_ | refine blk_alloc ?_ _)); exact BK181.out) hb); have n2_:=Aside0.mk (below_step (by repeat (first | (with_reducible first | exact HB.out | apply below_alloc | apply pw_below_drewN | apply below_drew1 | refine below_set ?_ GE181.out) | exact HB.out)) hb); clear HO_4; clear BK181; clear HB; have HO_4:=n0_; have BK181:=n1_; have HB:=n2_; clear n0_ n1_ n2_; (try clear hb); (try clear hb2); (try clear hk); (try clear hi)))
       go_ret2
       exact ⟨by first | rfl | (simp [errW_none,errW_some] <;> rfl) | (simp [*,errW_none,errW_some] <;> rfl),by repeat (first | (with_reducible first | exact HB.out | apply below_alloc | apply pw_below_drewN | apply below_drew1 | refine below_set ?_ GE181.out) | exact HB.out)⟩
     ·rw [if_neg c8] at H
      exact absurd H (by simp)
    ·rw [if_neg c7] at H
     exact absurd H (by simp)
   ·rw [if_neg c6] at H
    have c6b0:decide (x5_1 < 5)=false:=decide_eq_false c6
    clear c6
    simp only [Option.some.injEq,Prod.mk.injEq] at H
    obtain ⟨rfl,rfl⟩ :=H
    go_wp2
    go_ret2
    exact ⟨by first | rfl | (simp [errW_none,errW_some] <;> rfl) | (simp [*,errW_none,errW_some] <;> rfl),by repeat (first | (with_reducible first | exact HB.out | apply below_alloc | apply pw_below_drewN | apply below_drew1 | refine below_set ?_ GE181.out) | exact HB.out)⟩
def complineref22_odd.f (k:Nat)(a0_0:Int)(a0_1:Bool)(a0_2:Int)(a0_3:Bool)(a0_4:Int)(a0_5:Bool)(a0_6:Int)(a0_7:Bool)(a0_8:Int)(a0_9:Bool):Option (Bool):=(complineref19_Check.f k a0_0 a0_1 a0_2 a0_3 a0_4 a0_5 a0_6 a0_7 a0_8 a0_9).bind fun bt188=>(some (bt188.2 != 0))
set_option maxHeartbeats 8000000 in
set_option maxRecDepth 100000 in
theorem complineref22_odd.calls (k:Nat)(a0_0:Int)(a0_1:Bool)(a0_2:Int)(a0_3:Bool)(a0_4:Int)(a0_5:Bool)(a0_6:Int)(a0_7:Bool)(a0_8:Int)(a0_9:Bool)(r:Bool)(w:World)(h:complineref22_odd.f k a0_0 a0_1 a0_2 a0_3 a0_4 a0_5 a0_6 a0_7 a0_8 a0_9=some r) :
  Calls Tryz.prog 24 #[.agg #[.int .u64 a0_0,.bool a0_1,.int .u64 a0_2,.bool a0_3,.int .u64 a0_4,.bool a0_5,.int .u64 a0_6,.bool a0_7,.int .u64 a0_8,.bool a0_9]] w fun e w'=>e=.returned (.bool r)∧Below w.heap.size w w':=by
 have hu26:=Tryz.underlying26
 have HB:=Aside0.mk (Below.refl w.heap.size w)
 have H:((complineref19_Check.f k a0_0 a0_1 a0_2 a0_3 a0_4 a0_5 a0_6 a0_7 a0_8 a0_9).bind fun bt188=>(some (bt188.2 != 0)))=some r:=h
 clear h
 replace H:=Option.bind_eq_some_iff.mp H
 obtain ⟨⟨t188,t189⟩,A20,H⟩ :=H
 replace H:(some (t189 != 0))=some r:=H
 have A2:=Aside0.mk A20
 clear A20
 obtain rfl:=Option.some.inj H
 go_enter Tryz.func24,Tryz.ntmps24
 go_wp2_with (first | ((with_reducible refine gate_dst (N:=1) rfl ?_); refine box_event ?hg (N:=1) ?hd (cs:=#[.int .u64 a0_0,.bool a0_1,.int .u64 a0_2,.bool a0_3,.int .u64 a0_4,.bool a0_5,.int .u64 a0_6,.bool a0_7,.int .u64 a0_8,.bool a0_9]) (t:=26) ?hr ?_; (case hd=>rfl); (case hg=>rfl); (case hr=>first | (go_simp; done) | (go_simp; rfl)); intro gb187 hg w3 hbox hb; have n0_:=Aside0.mk (below_step (by repeat (first | (with_reducible first | exact HB.out | apply below_alloc | apply pw_below_drewN | apply below_drew1) | exact HB.out)) hb); have n1_:=Aside0.mk (hbox); have n2_:=Aside0.mk ((by rw [hg]; exact (below_size (by repeat (first | (with_reducible first | exact HB.out | apply below_alloc | apply pw_below_drewN | apply below_drew1) | exact HB.out))):w.heap.size≤gb187)); have n3_:=Aside0.mk ((by rw [hg]; exact (below_size (by repeat (first | (with_reducible first | exact HB.out | apply below_alloc | apply pw_below_drewN | apply below_drew1) | exact HB.out))):w.heap.size≤gb187)); clear HB; have HB:=n0_; have BK187:=n1_; have GW187:=n2_; have GE187:=n3_; clear n0_ n1_ n2_ n3_; clear hb hbox hg; have hcz4_0:w3.cell? ⟨gb187,0,none⟩=some (.int .u64 a0_0):=(blk_cell BK187.out 0).trans rfl; have hcz4_1:w3.cell? ⟨gb187,1,none⟩=some (.bool a0_1):=(blk_cell BK187.out 1).trans rfl; have hcz4_2:w3.cell? ⟨gb187,2,none⟩=some (.int .u64 a0_2):=(blk_cell BK187.out 2).trans rfl; have hcz4_3:w3.cell? ⟨gb187,3,none⟩=some (.bool a0_3):=(blk_cell BK187.out 3).trans rfl; have hcz4_4:w3.cell? ⟨gb187,4,none⟩=some (.int .u64 a0_4):=(blk_cell BK187.out 4).trans rfl; have hcz4_5:w3.cell? ⟨gb187,5,none⟩=some (.bool a0_5):=(blk_cell BK187.out 5).trans rfl; have hcz4_6:w3.cell? ⟨gb187,6,none⟩=some (.int .u64 a0_6):=(blk_cell BK187.out 6).trans rfl; have hcz4_7:w3.cell? ⟨gb187,7,none⟩=some (.bool a0_7):=(blk_cell BK187.out 7).trans rfl; have hcz4_8:w3.cell? ⟨gb187,8,none⟩=some (.int .u64 a0_8):=(blk_cell BK187.out 8).trans rfl; have hcz4_9:w3.cell? ⟨gb187,9,none⟩=some (.bool a0_9):=(blk_cell BK187.out 9).trans rfl; have hfz4_0:=blk_frozen BK187.out 0; have hfz4_1:=blk_frozen BK187.out 1; have hfz4_2:=blk_frozen BK187.out 2; have hfz4_3:=blk_frozen BK187.out 3; have hfz4_4:=blk_frozen BK187.out 4; have hfz4_5:=blk_frozen BK187.out 5; have hfz4_6:=blk_frozen BK187.out 6; have hfz4_7:=blk_frozen BK187.out 7; have hfz4_8:=blk_frozen BK187.out 8; have hfz4_9:=blk_frozen BK187.out 9) | ((with_reducible refine gate_callee (f:=53) rfl ?_); refine goesL_ (some 7) rfl rfl Tryz.func53 (by kernel_rfl) rfl #[.agg #[.int .u64 a0_0,.bool a0_1,.int .u64 a0_2,.bool a0_3,.int .u64 a0_4,.bool a0_5,.int .u64 a0_6,.bool a0_7,.int .u64 a0_8,.bool a0_9]] rfl (by (try simp only [List.map_toArray,List.map_cons,List.map_nil]); first | done | rfl | (simp only [List.length_drop,List.length_take]; rfl)) ?_; (with_reducible refine (complineref19_Check.calls k a0_0 a0_1 a0_2 a0_3 a0_4 a0_5 a0_6 a0_7 a0_8 a0_9 t188 t189 _ A2.out).mono ?_); rintro e w5 ⟨rfl,hb⟩; refine ⟨_,rfl,?_⟩; have n0_:=Aside0.mk (blk_below (g:=gb187) (o:=.cells #[.int .u64 a0_0,.bool a0_1,.int .u64 a0_2,.bool a0_3,.int .u64 a0_4,.bool a0_5,.int .u64 a0_6,.bool a0_7,.int .u64 a0_8,.bool a0_9] 26 (0,0)) (by (with_reducible repeat (first | refine blk_drewN ?_ _ | refine blk_drew ?_ | refine blk_alloc ?_ _)); exact BK187.out) hb); have n1_:=Aside0.mk (below_step (by repeat (first | (with_reducible first | exact HB.out | apply below_alloc | apply pw_below_drewN | apply below_drew1 | refine below_set ?_ GE187.out) | exact HB.out)) hb); clear BK187; clear HB; have BK187:=n0_; have HB:=n1_; clear n0_ n1_; (try clear hb); (try clear hb2); (try clear hk); (try clear hi)))
 go_ret
 exact ⟨by first | rfl | (simp [errW_none,errW_some] <;> rfl) | (simp [*,errW_none,errW_some] <;> rfl),by repeat (first | (with_reducible first | exact HB.out | apply below_alloc | apply pw_below_drewN | apply below_drew1 | refine below_set ?_ GE187.out) | exact HB.out)⟩
end Go.Proofs.YtabhfcoljgcpeaaGreatDoor.PNex
