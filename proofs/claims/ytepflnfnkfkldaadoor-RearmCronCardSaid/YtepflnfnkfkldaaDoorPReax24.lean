-- Written by a program of this session (mkx24.py).
import Derived.Test.YtepflnfnkfkldaaDoorPReax11
import Derived.Test.YtepflnfnkfkldaaDoorPReax21
import Derived.Test.YtepflnfnkfkldaaDoorPReax23
import Derived.Test.YtepflnfnkfkldaaDoorReaCnt
namespace Go.Proofs.YtepflnfnkfkldaaDoor.PRea
open Go.RowKit Go.Proofs.YtepflnfnkfkldaaDoorW.PrintWords Go.Proofs.YtepflnfnkfkldaaDoorW.PrintLast Go.Proofs.YtepflnfnkfkldaaDoorW.PrintMore
set_option linter.unusedVariables false
set_option linter.unusedSimpArgs false
attribute [local go_sem] max2_int min2_int max_two min_two max_three min_three max_four min_four
/-! This session's own: the statement RearmCron, walked. -/
section
attribute [local go_sem high] eqA28
structure Rea.CW (w:World) (g0 g1:Nat) (b0:Int) (s0:Bool) (b1:Int) (s1:Bool) (b2:Int) (s2:Bool) (b3:Int) (s3:Bool) (b4:Int) (s4:Bool) (W:World):Prop where
 b:Below w.heap.size w W
 x:Spc.Row W g0 b0 s0 b1 s1 b2 s2 b3 s3 b4 s4
 p:Rea.Row W g1 2 0 0 b0 s0 b1 s1 b2 s2 b3 s3 b4 s4
theorem Rea.cw_step {w:World}{g0 g1:Nat}{b0:Int}{s0:Bool}{b1:Int}{s1:Bool}{b2:Int}{s2:Bool}{b3:Int}{s3:Bool}{b4:Int}{s4:Bool}{W W':World}(h:Aside0 (Rea.CW w g0 g1 b0 s0 b1 s1 b2 s2 b3 s3 b4 s4 W))(hb:Below W.heap.size W W'):Aside0 (Rea.CW w g0 g1 b0 s0 b1 s1 b2 s2 b3 s3 b4 s4 W'):=⟨⟨below_step h.out.b hb,blk_below h.out.x hb,blk_below h.out.p hb⟩⟩
set_option maxHeartbeats 8000000 in
set_option maxRecDepth 100000 in
theorem Rea.cron_a (b0:Int)(s0:Bool)(b1:Int)(s1:Bool)(b2:Int)(s2:Bool)(b3:Int)(s3:Bool)(b4:Int)(s4:Bool)(a d:Int)(hF:rearm_First.f 2 0 0 b0 s0 b1 s1 b2 s2 b3 s3 b4 s4 a d=some (0,2))(m:Int)(ok:Bool)(hM:rearm_Minute.f a=some (m,ok))(w:World)(hT:Tab w) :
  Calls Tryd.prog 8 #[.agg #[.int .u64 b0,.bool s0,.int .u64 b1,.bool s1,.int .u64 b2,.bool s2,.int .u64 b3,.bool s3,.int .u64 b4,.bool s4],.int .u64 a,.int .u64 d] w fun e w'=>e=.returned (.bool true)∧Below w.heap.size w w':=by
 replace hT:=Lib.hid hT
 replace hF:=Lib.hid hF
 replace hM:=Lib.hid hM
 have T0:=Aside0.mk (show Spc.Row (w.alloc (.cells #[.int .u64 b0,.bool s0,.int .u64 b1,.bool s1,.int .u64 b2,.bool s2,.int .u64 b3,.bool s3,.int .u64 b4,.bool s4] 26)) w.heap.size b0 s0 b1 s1 b2 s2 b3 s3 b4 s4∧Below w.heap.size w (w.alloc (.cells #[.int .u64 b0,.bool s0,.int .u64 b1,.bool s1,.int .u64 b2,.bool s2,.int .u64 b3,.bool s3,.int .u64 b4,.bool s4] 26)) from ⟨blk_new w _,below_alloc (Below.refl _ _) _⟩)
 go_enter Tryd.func8,Tryd.ntmps8
 go_wp2_with fail
 generalize w.alloc (.cells #[.int .u64 b0,.bool s0,.int .u64 b1,.bool s1,.int .u64 b2,.bool s2,.int .u64 b3,.bool s3,.int .u64 b4,.bool s4] 26)=w1 at T0 ⊢
 refine (complinelaw23_works.calls true _ (hT.out.keep T0.out.2) rfl).mono ?_
 rintro e w2 ⟨rfl,hb⟩
 have T2:=Aside0.mk (show Spc.Row w2 w.heap.size b0 s0 b1 s1 b2 s2 b3 s3 b4 s4∧Below w.heap.size w w2 from ⟨blk_below T0.out.1 hb,below_step T0.out.2 hb⟩)
 clear T0 hb
 have hu26:=Tryd.underlying26
 have hu28:=Tryd.underlying28
 obtain ⟨k0,k1,k2,k3,k4,k5,k6,k7,k8,k9⟩ :=T2.out.1.cells
 go_wp2_with fail
 clear k0 k1 k2 k3 k4 k5 k6 k7 k8 k9
 have H3:Aside0 (Rea.CW w w.heap.size w2.heap.size b0 s0 b1 s1 b2 s2 b3 s3 b4 s4 (w2.alloc (.cells #[.int .i64 2,.int .u64 0,.int .i64 0,.int .u64 b0,.bool s0,.int .u64 b1,.bool s1,.int .u64 b2,.bool s2,.int .u64 b3,.bool s3,.int .u64 b4,.bool s4] 28))):=⟨⟨below_alloc T2.out.2 _,blk_alloc T2.out.1 _,blk_new _ _⟩⟩
 obtain ⟨g1,hg⟩:∃ g,w2.heap.size=g:=⟨_,rfl⟩
 rw [hg] at H3 ⊢
 generalize w2.alloc (.cells #[.int .i64 2,.int .u64 0,.int .i64 0,.int .u64 b0,.bool s0,.int .u64 b1,.bool s1,.int .u64 b2,.bool s2,.int .u64 b3,.bool s3,.int .u64 b4,.bool s4] 28)=w3 at H3 ⊢
 clear hg T2
 refine (rearm_First.calls 2 0 0 _ _ _ _ _ _ _ _ _ _ a d _ _ _ (hT.out.keep H3.out.b) hF.out).mono ?_
 rintro e w4 ⟨rfl,hb⟩
 have H4:=Rea.cw_step H3 hb
 clear H3 hb hF
 go_wp2_with fail
 refine (rearm_Minute.calls a _ _ _ hM.out).mono ?_
 rintro e w5 ⟨rfl,hb⟩
 have H5:=Rea.cw_step H4 hb.below
 clear H4 hb hM
 go_wp2_with fail
 go_ret
 exact ⟨rfl,H5.out.b⟩
set_option maxHeartbeats 8000000 in
set_option maxRecDepth 100000 in
theorem Rea.cron_b (b0:Int)(s0:Bool)(b1:Int)(s1:Bool)(b2:Int)(s2:Bool)(b3:Int)(s3:Bool)(b4:Int)(s4:Bool)(a d:Int)(hF:rearm_First.f 2 0 0 b0 s0 b1 s1 b2 s2 b3 s3 b4 s4 a d=some (0,11))(m:Int)(hM:rearm_Minute.f a=some (m,false))(w:World)(hT:Tab w) :
  Calls Tryd.prog 8 #[.agg #[.int .u64 b0,.bool s0,.int .u64 b1,.bool s1,.int .u64 b2,.bool s2,.int .u64 b3,.bool s3,.int .u64 b4,.bool s4],.int .u64 a,.int .u64 d] w fun e w'=>e=.returned (.bool true)∧Below w.heap.size w w':=by
 replace hT:=Lib.hid hT
 replace hF:=Lib.hid hF
 replace hM:=Lib.hid hM
 have T0:=Aside0.mk (show Spc.Row (w.alloc (.cells #[.int .u64 b0,.bool s0,.int .u64 b1,.bool s1,.int .u64 b2,.bool s2,.int .u64 b3,.bool s3,.int .u64 b4,.bool s4] 26)) w.heap.size b0 s0 b1 s1 b2 s2 b3 s3 b4 s4∧Below w.heap.size w (w.alloc (.cells #[.int .u64 b0,.bool s0,.int .u64 b1,.bool s1,.int .u64 b2,.bool s2,.int .u64 b3,.bool s3,.int .u64 b4,.bool s4] 26)) from ⟨blk_new w _,below_alloc (Below.refl _ _) _⟩)
 go_enter Tryd.func8,Tryd.ntmps8
 go_wp2_with fail
 generalize w.alloc (.cells #[.int .u64 b0,.bool s0,.int .u64 b1,.bool s1,.int .u64 b2,.bool s2,.int .u64 b3,.bool s3,.int .u64 b4,.bool s4] 26)=w1 at T0 ⊢
 refine (complinelaw23_works.calls true _ (hT.out.keep T0.out.2) rfl).mono ?_
 rintro e w2 ⟨rfl,hb⟩
 have T2:=Aside0.mk (show Spc.Row w2 w.heap.size b0 s0 b1 s1 b2 s2 b3 s3 b4 s4∧Below w.heap.size w w2 from ⟨blk_below T0.out.1 hb,below_step T0.out.2 hb⟩)
 clear T0 hb
 have hu26:=Tryd.underlying26
 have hu28:=Tryd.underlying28
 obtain ⟨k0,k1,k2,k3,k4,k5,k6,k7,k8,k9⟩ :=T2.out.1.cells
 go_wp2_with fail
 clear k0 k1 k2 k3 k4 k5 k6 k7 k8 k9
 have H3:Aside0 (Rea.CW w w.heap.size w2.heap.size b0 s0 b1 s1 b2 s2 b3 s3 b4 s4 (w2.alloc (.cells #[.int .i64 2,.int .u64 0,.int .i64 0,.int .u64 b0,.bool s0,.int .u64 b1,.bool s1,.int .u64 b2,.bool s2,.int .u64 b3,.bool s3,.int .u64 b4,.bool s4] 28))):=⟨⟨below_alloc T2.out.2 _,blk_alloc T2.out.1 _,blk_new _ _⟩⟩
 obtain ⟨g1,hg⟩:∃ g,w2.heap.size=g:=⟨_,rfl⟩
 rw [hg] at H3 ⊢
 generalize w2.alloc (.cells #[.int .i64 2,.int .u64 0,.int .i64 0,.int .u64 b0,.bool s0,.int .u64 b1,.bool s1,.int .u64 b2,.bool s2,.int .u64 b3,.bool s3,.int .u64 b4,.bool s4] 28)=w3 at H3 ⊢
 clear hg T2
 refine (rearm_First.calls 2 0 0 _ _ _ _ _ _ _ _ _ _ a d _ _ _ (hT.out.keep H3.out.b) hF.out).mono ?_
 rintro e w4 ⟨rfl,hb⟩
 have H4:=Rea.cw_step H3 hb
 clear H3 hb hF
 go_wp2_with fail
 refine (rearm_Minute.calls a _ _ _ hM.out).mono ?_
 rintro e w5 ⟨rfl,hb⟩
 have H5:=Rea.cw_step H4 hb.below
 clear H4 hb hM
 go_wp2_with fail
 go_ret
 exact ⟨rfl,H5.out.b⟩
set_option maxHeartbeats 8000000 in
set_option maxRecDepth 100000 in
theorem Rea.cron_c (b0:Int)(s0:Bool)(b1:Int)(s1:Bool)(b2:Int)(s2:Bool)(b3:Int)(s3:Bool)(b4:Int)(s4:Bool)(a d:Int)(hF:rearm_First.f 2 0 0 b0 s0 b1 s1 b2 s2 b3 s3 b4 s4 a d=some (0,11))(m:Int)(hM:rearm_Minute.f a=some (m,true))(hC:next_Count.f b0 s0 b1 s1 b2 s2 b3 s3 b4 s4 (wrap64 (m+1)) 541728000=some (0,0))(w:World)(hT:Tab w) :
  Calls Tryd.prog 8 #[.agg #[.int .u64 b0,.bool s0,.int .u64 b1,.bool s1,.int .u64 b2,.bool s2,.int .u64 b3,.bool s3,.int .u64 b4,.bool s4],.int .u64 a,.int .u64 d] w fun e w'=>e=.returned (.bool true)∧Below w.heap.size w w':=by
 replace hC:=Lib.hid hC
 replace hT:=Lib.hid hT
 replace hF:=Lib.hid hF
 replace hM:=Lib.hid hM
 have T0:=Aside0.mk (show Spc.Row (w.alloc (.cells #[.int .u64 b0,.bool s0,.int .u64 b1,.bool s1,.int .u64 b2,.bool s2,.int .u64 b3,.bool s3,.int .u64 b4,.bool s4] 26)) w.heap.size b0 s0 b1 s1 b2 s2 b3 s3 b4 s4∧Below w.heap.size w (w.alloc (.cells #[.int .u64 b0,.bool s0,.int .u64 b1,.bool s1,.int .u64 b2,.bool s2,.int .u64 b3,.bool s3,.int .u64 b4,.bool s4] 26)) from ⟨blk_new w _,below_alloc (Below.refl _ _) _⟩)
 go_enter Tryd.func8,Tryd.ntmps8
 go_wp2_with fail
 generalize w.alloc (.cells #[.int .u64 b0,.bool s0,.int .u64 b1,.bool s1,.int .u64 b2,.bool s2,.int .u64 b3,.bool s3,.int .u64 b4,.bool s4] 26)=w1 at T0 ⊢
 refine (complinelaw23_works.calls true _ (hT.out.keep T0.out.2) rfl).mono ?_
 rintro e w2 ⟨rfl,hb⟩
 have T2:=Aside0.mk (show Spc.Row w2 w.heap.size b0 s0 b1 s1 b2 s2 b3 s3 b4 s4∧Below w.heap.size w w2 from ⟨blk_below T0.out.1 hb,below_step T0.out.2 hb⟩)
 clear T0 hb
 have hu26:=Tryd.underlying26
 have hu28:=Tryd.underlying28
 obtain ⟨k0,k1,k2,k3,k4,k5,k6,k7,k8,k9⟩ :=T2.out.1.cells
 go_wp2_with fail
 clear k0 k1 k2 k3 k4 k5 k6 k7 k8 k9
 have H3:Aside0 (Rea.CW w w.heap.size w2.heap.size b0 s0 b1 s1 b2 s2 b3 s3 b4 s4 (w2.alloc (.cells #[.int .i64 2,.int .u64 0,.int .i64 0,.int .u64 b0,.bool s0,.int .u64 b1,.bool s1,.int .u64 b2,.bool s2,.int .u64 b3,.bool s3,.int .u64 b4,.bool s4] 28))):=⟨⟨below_alloc T2.out.2 _,blk_alloc T2.out.1 _,blk_new _ _⟩⟩
 obtain ⟨g1,hg⟩:∃ g,w2.heap.size=g:=⟨_,rfl⟩
 rw [hg] at H3 ⊢
 generalize w2.alloc (.cells #[.int .i64 2,.int .u64 0,.int .i64 0,.int .u64 b0,.bool s0,.int .u64 b1,.bool s1,.int .u64 b2,.bool s2,.int .u64 b3,.bool s3,.int .u64 b4,.bool s4] 28)=w3 at H3 ⊢
 clear hg T2
 refine (rearm_First.calls 2 0 0 _ _ _ _ _ _ _ _ _ _ a d _ _ _ (hT.out.keep H3.out.b) hF.out).mono ?_
 rintro e w4 ⟨rfl,hb⟩
 have H4:=Rea.cw_step H3 hb
 clear H3 hb hF
 go_wp2_with fail
 refine (rearm_Minute.calls a _ _ _ hM.out).mono ?_
 rintro e w5 ⟨rfl,hb⟩
 have H5:=Rea.cw_step H4 hb.below
 clear H4 hb hM
 obtain ⟨k0,k1,k2,k3,k4,k5,k6,k7,k8,k9⟩ :=H5.out.x.cells
 go_wp2_with fail
 clear k0 k1 k2 k3 k4 k5 k6 k7 k8 k9
 refine (next_Count.calls _ _ _ _ _ _ _ _ _ _ (wrap64 (m+1)) 541728000 0 0 _ (hT.out.keep H5.out.b) hC.out).mono ?_
 rintro e w6 ⟨rfl,hb⟩
 have H6:=Rea.cw_step H5 hb
 clear H5 hb hC
 go_wp2_with fail
 go_ret
 exact ⟨rfl,H6.out.b⟩
set_option maxHeartbeats 8000000 in
set_option maxRecDepth 100000 in
theorem Rea.cron_d (b0:Int)(s0:Bool)(b1:Int)(s1:Bool)(b2:Int)(s2:Bool)(b3:Int)(s3:Bool)(b4:Int)(s4:Bool)(a d:Int)(t:Int)(hF:rearm_First.f 2 0 0 b0 s0 b1 s1 b2 s2 b3 s3 b4 s4 a d=some (t,0))(m:Int)(hM:rearm_Minute.f a=some (m,true))(hD:day_Match.f b0 s0 b1 s1 b2 s2 b3 s3 b4 s4 (wrap64 (IntKind.u64.wrap (Int.tdiv t 60)))=some (true,0))(hC:next_Count.f b0 s0 b1 s1 b2 s2 b3 s3 b4 s4 (wrap64 (m+1)) (wrap64 (IntKind.u64.wrap (Int.tdiv t 60)))=some (0,0))(hA:rearm_Again.f 2 0 0 b0 s0 b1 s1 b2 s2 b3 s3 b4 s4 a a=some (t,2,0,0,b0,s0,b1,s1,b2,s2,b3,s3,b4,s4,0,0))(e1:(Int.tmod t 60 == 0)=true)(e2:decide (a < t)=true)(w:World)(hT:Tab w) :
  Calls Tryd.prog 8 #[.agg #[.int .u64 b0,.bool s0,.int .u64 b1,.bool s1,.int .u64 b2,.bool s2,.int .u64 b3,.bool s3,.int .u64 b4,.bool s4],.int .u64 a,.int .u64 d] w fun e w'=>e=.returned (.bool true)∧Below w.heap.size w w':=by
 replace hC:=Lib.hid hC
 replace hD:=Lib.hid hD
 replace hA:=Lib.hid hA
 replace hT:=Lib.hid hT
 replace hF:=Lib.hid hF
 replace hM:=Lib.hid hM
 have T0:=Aside0.mk (show Spc.Row (w.alloc (.cells #[.int .u64 b0,.bool s0,.int .u64 b1,.bool s1,.int .u64 b2,.bool s2,.int .u64 b3,.bool s3,.int .u64 b4,.bool s4] 26)) w.heap.size b0 s0 b1 s1 b2 s2 b3 s3 b4 s4∧Below w.heap.size w (w.alloc (.cells #[.int .u64 b0,.bool s0,.int .u64 b1,.bool s1,.int .u64 b2,.bool s2,.int .u64 b3,.bool s3,.int .u64 b4,.bool s4] 26)) from ⟨blk_new w _,below_alloc (Below.refl _ _) _⟩)
 go_enter Tryd.func8,Tryd.ntmps8
 go_wp2_with fail
 generalize w.alloc (.cells #[.int .u64 b0,.bool s0,.int .u64 b1,.bool s1,.int .u64 b2,.bool s2,.int .u64 b3,.bool s3,.int .u64 b4,.bool s4] 26)=w1 at T0 ⊢
 refine (complinelaw23_works.calls true _ (hT.out.keep T0.out.2) rfl).mono ?_
 rintro e w2 ⟨rfl,hb⟩
 have T2:=Aside0.mk (show Spc.Row w2 w.heap.size b0 s0 b1 s1 b2 s2 b3 s3 b4 s4∧Below w.heap.size w w2 from ⟨blk_below T0.out.1 hb,below_step T0.out.2 hb⟩)
 clear T0 hb
 have hu26:=Tryd.underlying26
 have hu28:=Tryd.underlying28
 obtain ⟨k0,k1,k2,k3,k4,k5,k6,k7,k8,k9⟩ :=T2.out.1.cells
 go_wp2_with fail
 clear k0 k1 k2 k3 k4 k5 k6 k7 k8 k9
 have H3:Aside0 (Rea.CW w w.heap.size w2.heap.size b0 s0 b1 s1 b2 s2 b3 s3 b4 s4 (w2.alloc (.cells #[.int .i64 2,.int .u64 0,.int .i64 0,.int .u64 b0,.bool s0,.int .u64 b1,.bool s1,.int .u64 b2,.bool s2,.int .u64 b3,.bool s3,.int .u64 b4,.bool s4] 28))):=⟨⟨below_alloc T2.out.2 _,blk_alloc T2.out.1 _,blk_new _ _⟩⟩
 obtain ⟨g1,hg⟩:∃ g,w2.heap.size=g:=⟨_,rfl⟩
 rw [hg] at H3 ⊢
 generalize w2.alloc (.cells #[.int .i64 2,.int .u64 0,.int .i64 0,.int .u64 b0,.bool s0,.int .u64 b1,.bool s1,.int .u64 b2,.bool s2,.int .u64 b3,.bool s3,.int .u64 b4,.bool s4] 28)=w3 at H3 ⊢
 clear hg T2
 refine (rearm_First.calls 2 0 0 _ _ _ _ _ _ _ _ _ _ a d _ _ _ (hT.out.keep H3.out.b) hF.out).mono ?_
 rintro e w4 ⟨rfl,hb⟩
 have H4:=Rea.cw_step H3 hb
 clear H3 hb hF
 go_wp2_with fail
 refine (rearm_Minute.calls a _ _ _ hM.out).mono ?_
 rintro e w5 ⟨rfl,hb⟩
 have H5:=Rea.cw_step H4 hb.below
 clear H4 hb hM
 obtain ⟨k0,k1,k2,k3,k4,k5,k6,k7,k8,k9⟩ :=H5.out.x.cells
 go_wp2_with fail
 clear k0 k1 k2 k3 k4 k5 k6 k7 k8 k9
 refine (day_Match.calls _ _ _ _ _ _ _ _ _ _ _ _ _ _ hD.out).mono ?_
 rintro e w6 ⟨rfl,hb⟩
 have H6:=Rea.cw_step H5 hb
 clear H5 hb hD
 obtain ⟨k0,k1,k2,k3,k4,k5,k6,k7,k8,k9⟩ :=H6.out.x.cells
 go_wp2_with fail
 clear k0 k1 k2 k3 k4 k5 k6 k7 k8 k9
 refine (next_Count.calls _ _ _ _ _ _ _ _ _ _ (wrap64 (m+1)) (wrap64 (IntKind.u64.wrap (Int.tdiv t 60))) 0 0 _ (hT.out.keep H6.out.b) hC.out).mono ?_
 rintro e w7 ⟨rfl,hb⟩
 have H7:=Rea.cw_step H6 hb
 clear H6 hb hC
 obtain ⟨l0,l1,l2,l3,l4,l5,l6,l7,l8,l9,l10,l11,l12⟩ :=H7.out.p.cells
 go_wp2_with fail
 clear l0 l1 l2 l3 l4 l5 l6 l7 l8 l9 l10 l11 l12
 refine (rearm_Again.calls 2 0 0 _ _ _ _ _ _ _ _ _ _ a a _ _ _ _ _ _ _ _ _ _ _ _ _ _ _ _ _ (hT.out.keep H7.out.b) hA.out).mono ?_
 rintro e w8 ⟨rfl,hb⟩
 have H8:=Rea.cw_step H7 hb
 clear H7 hb hA
 have H9:=Rea.cw_step H8 (below_alloc (Below.refl _ _) (.cells #[.int .i64 2,.int .u64 0,.int .i64 0,.int .u64 b0,.bool s0,.int .u64 b1,.bool s1,.int .u64 b2,.bool s2,.int .u64 b3,.bool s3,.int .u64 b4,.bool s4] 28))
 obtain ⟨l0,l1,l2,l3,l4,l5,l6,l7,l8,l9,l10,l11,l12⟩ :=H9.out.p.cells
 go_wp2_with fail
 go_ret
 exact ⟨rfl,H9.out.b⟩
end
instance (b:Int):Decidable (InU b):=by unfold InU; infer_instance
def complinelaw23_RearmCron.f (_k:Nat)(a0_0:Int)(a0_1:Bool)(a0_2:Int)(a0_3:Bool)(a0_4:Int)(a0_5:Bool)(a0_6:Int)(a0_7:Bool)(a0_8:Int)(a0_9:Bool)(a1:Int)(_a2:Int):Option (Bool):=if InU a0_0∧InU a0_2∧InU a0_4∧InU a0_6∧InU a0_8∧InU a1 then some true else none
theorem complinelaw23_RearmCron.calls (k:Nat)(a0_0:Int)(a0_1:Bool)(a0_2:Int)(a0_3:Bool)(a0_4:Int)(a0_5:Bool)(a0_6:Int)(a0_7:Bool)(a0_8:Int)(a0_9:Bool)(a1:Int)(a2:Int)(r:Bool)(w:World)(hT:Tab w)(h:complinelaw23_RearmCron.f k a0_0 a0_1 a0_2 a0_3 a0_4 a0_5 a0_6 a0_7 a0_8 a0_9 a1 a2=some r) :
  Calls Tryd.prog 8 #[.agg #[.int .u64 a0_0,.bool a0_1,.int .u64 a0_2,.bool a0_3,.int .u64 a0_4,.bool a0_5,.int .u64 a0_6,.bool a0_7,.int .u64 a0_8,.bool a0_9],.int .u64 a1,.int .u64 a2] w fun e w'=>e=.returned (.bool r)∧Below w.heap.size w w':=by
 have hh:(if InU a0_0∧InU a0_2∧InU a0_4∧InU a0_6∧InU a0_8∧InU a1 then some true else none)=some r:=h
 clear h
 by_cases hc:InU a0_0∧InU a0_2∧InU a0_4∧InU a0_6∧InU a0_8∧InU a1
 ·rw [if_pos hc] at hh
  obtain rfl:=Option.some.inj hh
  obtain ⟨h0,h1,h2,h3,h4,h5⟩ :=hc
  rcases Rea.cron_ways a0_0 a0_1 a0_2 a0_3 a0_4 a0_5 a0_6 a0_7 a0_8 a0_9 a1 a2 h0 h1 h2 h3 h4 h5 with ⟨q1,m,ok,q2⟩ | ⟨q1,m,q2⟩ | ⟨q1,m,q2,q3⟩ | ⟨t,q1,m,q2,q3,q4,q5,q6,q7⟩
  ·exact Rea.cron_a a0_0 a0_1 a0_2 a0_3 a0_4 a0_5 a0_6 a0_7 a0_8 a0_9 a1 a2 q1 m ok q2 w hT
  ·exact Rea.cron_b a0_0 a0_1 a0_2 a0_3 a0_4 a0_5 a0_6 a0_7 a0_8 a0_9 a1 a2 q1 m q2 w hT
  ·exact Rea.cron_c a0_0 a0_1 a0_2 a0_3 a0_4 a0_5 a0_6 a0_7 a0_8 a0_9 a1 a2 q1 m q2 q3 w hT
  ·exact Rea.cron_d a0_0 a0_1 a0_2 a0_3 a0_4 a0_5 a0_6 a0_7 a0_8 a0_9 a1 a2 t q1 m q2 q3 q4 q5 q6 q7 w hT
 ·rw [if_neg hc] at hh
  cases hh
end Go.Proofs.YtepflnfnkfkldaaDoor.PRea
