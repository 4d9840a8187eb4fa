-- Written by a program of this session (gprint.py) over the kit's print.
import Derived.Test.YtjddfpciblhpaaaGreatDoorPSppx0
import Derived.Test.YtjddfpciblhpaaaGreatDoorPSppx5
import Derived.Test.YtjddfpciblhpaaaGreatDoorPSppx6
import Derived.Test.YtjddfpciblhpaaaGreatDoorPSppx7
namespace Go.Proofs.YtjddfpciblhpaaaGreatDoor.PSpp
open Go.RowKit Go.Proofs.YtjddfpciblhpaaaGreatDoorW.PrintWords Go.Proofs.YtjddfpciblhpaaaGreatDoorW.PrintLast Go.Proofs.YtjddfpciblhpaaaGreatDoorW.PrintMore
attribute [local go_sem] max2_int min2_int max_two min_two max_three min_three max_four min_four   -- for this text's walks alone
set_option linter.unusedVariables false
set_option linter.unusedSimpArgs false

/-! ### complinelaw19_works: function 4 -/
def complinelaw19_works.f  : Option (Bool) := some true
set_option maxHeartbeats 8000000 in
set_option maxRecDepth 100000 in
theorem complinelaw19_works.calls  (r : Bool) (w : World) (hT : Tab w) (h : complinelaw19_works.f  = some r) :
  Calls Tryz.prog 4 #[] w fun e w' => e = .returned (.bool r) ∧ Below w.heap.size w w' := by
 have HB := Aside0.mk (Below.refl w.heap.size w)
 obtain rfl : r = true := (Option.some.inj h).symm
 clear h
 have HB : Below w.heap.size w w := Below.refl _ _
 go_enter Tryz.func4, Tryz.ntmps4
 go_wp2_with fail
 -- spec.Parse: 0 12 * * 1-5
 refine Spc.gen (fun W => Below w.heap.size w W) HB ?_
 clear HB
 rintro W0 HB0
 refine (spec_Parse.calls ⟨#[48, 32, 49, 50, 32, 42, 32, 42, 32, 49, 45, 53]⟩ 1 false 4096 false 4294967294 true 8190 true 62 false 0 0 _ (hT.keep HB0) (by kernel_rfl)).mono ?_
 rintro e V0 ⟨rfl, hb⟩
 have HB := below_step HB0 hb
 clear hb HB0 
 replace HB := Aside0.mk HB
 go_wp2_with fail
 have HA := below_alloc HB.out (.cells #[.int .u64 1, .bool false, .int .u64 4096, .bool false, .int .u64 4294967294, .bool true, .int .u64 8190, .bool true, .int .u64 62, .bool false] 27)
 have KA0 := blk_new V0 (.cells #[.int .u64 1, .bool false, .int .u64 4096, .bool false, .int .u64 4294967294, .bool true, .int .u64 8190, .bool true, .int .u64 62, .bool false] 27)
 clear HB 
 have HB := HA
 -- spec.Parse: 0 24 * * 9
 refine Spc.gen (fun W => Below w.heap.size w W ∧ W.heap[V0.heap.size]? = some (.cells #[.int .u64 1, .bool false, .int .u64 4096, .bool false, .int .u64 4294967294, .bool true, .int .u64 8190, .bool true, .int .u64 62, .bool false] 27 (0, 0))) ⟨HA, KA0⟩ ?_
 clear HB HA KA0
 rintro W1 ⟨HB1, K1_0⟩
 refine (spec_Parse.calls ⟨#[48, 32, 50, 52, 32, 42, 32, 42, 32, 57]⟩ 0 false 0 false 0 false 0 false 0 false 2 1 _ (hT.keep HB1) (by kernel_rfl)).mono ?_
 rintro e V1 ⟨rfl, hb⟩
 have HB := below_step HB1 hb
 have KB0 := blk_below K1_0 hb
 clear hb HB1 K1_0
 replace HB := Aside0.mk HB
 replace KB0 := Aside0.mk KB0
 go_wp2_with fail
 have HA := below_alloc HB.out (.cells #[.int .u64 0, .bool false, .int .u64 0, .bool false, .int .u64 0, .bool false, .int .u64 0, .bool false, .int .u64 0, .bool false] 27)
 have KA0 := blk_alloc KB0.out (.cells #[.int .u64 0, .bool false, .int .u64 0, .bool false, .int .u64 0, .bool false, .int .u64 0, .bool false, .int .u64 0, .bool false] 27)
 have KA1 := blk_new V1 (.cells #[.int .u64 0, .bool false, .int .u64 0, .bool false, .int .u64 0, .bool false, .int .u64 0, .bool false, .int .u64 0, .bool false] 27)
 clear HB KB0
 have HB := HA
 -- spec.Parse: 0 0 0
 refine Spc.gen (fun W => Below w.heap.size w W ∧ W.heap[V0.heap.size]? = some (.cells #[.int .u64 1, .bool false, .int .u64 4096, .bool false, .int .u64 4294967294, .bool true, .int .u64 8190, .bool true, .int .u64 62, .bool false] 27 (0, 0)) ∧ W.heap[V1.heap.size]? = some (.cells #[.int .u64 0, .bool false, .int .u64 0, .bool false, .int .u64 0, .bool false, .int .u64 0, .bool false, .int .u64 0, .bool false] 27 (0, 0))) ⟨HA, KA0, KA1⟩ ?_
 clear HB HA KA0 KA1
 rintro W2 ⟨HB2, K2_0, K2_1⟩
 refine (spec_Parse.calls ⟨#[48, 32, 48, 32, 48]⟩ 0 false 0 false 0 false 0 false 0 false 0 2 _ (hT.keep HB2) (by kernel_rfl)).mono ?_
 rintro e V2 ⟨rfl, hb⟩
 have HB := below_step HB2 hb
 have KB0 := blk_below K2_0 hb
 have KB1 := blk_below K2_1 hb
 clear hb HB2 K2_0 K2_1
 replace HB := Aside0.mk HB
 replace KB0 := Aside0.mk KB0
 replace KB1 := Aside0.mk KB1
 have c0_0 : V2.cell? ⟨V0.heap.size, 0, none⟩ = some (.int .u64 1) := (blk_cell KB0.out 0).trans rfl
 have c0_1 : V2.cell? ⟨V0.heap.size, 1, none⟩ = some (.bool false) := (blk_cell KB0.out 1).trans rfl
 have c0_2 : V2.cell? ⟨V0.heap.size, 2, none⟩ = some (.int .u64 4096) := (blk_cell KB0.out 2).trans rfl
 have c0_3 : V2.cell? ⟨V0.heap.size, 3, none⟩ = some (.bool false) := (blk_cell KB0.out 3).trans rfl
 have c0_4 : V2.cell? ⟨V0.heap.size, 4, none⟩ = some (.int .u64 4294967294) := (blk_cell KB0.out 4).trans rfl
 have c0_5 : V2.cell? ⟨V0.heap.size, 5, none⟩ = some (.bool true) := (blk_cell KB0.out 5).trans rfl
 have c0_6 : V2.cell? ⟨V0.heap.size, 6, none⟩ = some (.int .u64 8190) := (blk_cell KB0.out 6).trans rfl
 have c0_7 : V2.cell? ⟨V0.heap.size, 7, none⟩ = some (.bool true) := (blk_cell KB0.out 7).trans rfl
 have c0_8 : V2.cell? ⟨V0.heap.size, 8, none⟩ = some (.int .u64 62) := (blk_cell KB0.out 8).trans rfl
 have c0_9 : V2.cell? ⟨V0.heap.size, 9, none⟩ = some (.bool false) := (blk_cell KB0.out 9).trans rfl
 have l0 := blk_lt KB0.out
 have c1_0 : V2.cell? ⟨V1.heap.size, 0, none⟩ = some (.int .u64 0) := (blk_cell KB1.out 0).trans rfl
 have c1_1 : V2.cell? ⟨V1.heap.size, 1, none⟩ = some (.bool false) := (blk_cell KB1.out 1).trans rfl
 have c1_2 : V2.cell? ⟨V1.heap.size, 2, none⟩ = some (.int .u64 0) := (blk_cell KB1.out 2).trans rfl
 have c1_3 : V2.cell? ⟨V1.heap.size, 3, none⟩ = some (.bool false) := (blk_cell KB1.out 3).trans rfl
 have c1_4 : V2.cell? ⟨V1.heap.size, 4, none⟩ = some (.int .u64 0) := (blk_cell KB1.out 4).trans rfl
 have c1_5 : V2.cell? ⟨V1.heap.size, 5, none⟩ = some (.bool false) := (blk_cell KB1.out 5).trans rfl
 have c1_6 : V2.cell? ⟨V1.heap.size, 6, none⟩ = some (.int .u64 0) := (blk_cell KB1.out 6).trans rfl
 have c1_7 : V2.cell? ⟨V1.heap.size, 7, none⟩ = some (.bool false) := (blk_cell KB1.out 7).trans rfl
 have c1_8 : V2.cell? ⟨V1.heap.size, 8, none⟩ = some (.int .u64 0) := (blk_cell KB1.out 8).trans rfl
 have c1_9 : V2.cell? ⟨V1.heap.size, 9, none⟩ = some (.bool false) := (blk_cell KB1.out 9).trans rfl
 have l1 := blk_lt KB1.out
 go_wp2_with fail
 clear c0_0 c0_1 c0_2 c0_3 c0_4 c0_5 c0_6 c0_7 c0_8 c0_9 l0 c1_0 c1_1 c1_2 c1_3 c1_4 c1_5 c1_6 c1_7 c1_8 c1_9 l1
 have HA := below_alloc HB.out (.cells #[.int .u64 0, .bool false, .int .u64 0, .bool false, .int .u64 0, .bool false, .int .u64 0, .bool false, .int .u64 0, .bool false] 27)
 have KA0 := blk_alloc KB0.out (.cells #[.int .u64 0, .bool false, .int .u64 0, .bool false, .int .u64 0, .bool false, .int .u64 0, .bool false, .int .u64 0, .bool false] 27)
 have KA1 := blk_alloc KB1.out (.cells #[.int .u64 0, .bool false, .int .u64 0, .bool false, .int .u64 0, .bool false, .int .u64 0, .bool false, .int .u64 0, .bool false] 27)
 have KA2 := blk_new V2 (.cells #[.int .u64 0, .bool false, .int .u64 0, .bool false, .int .u64 0, .bool false, .int .u64 0, .bool false, .int .u64 0, .bool false] 27)
 clear HB KB0 KB1
 have HB := HA
 refine Spc.gen (fun W => Below w.heap.size w W ∧ W.heap[V0.heap.size]? = some (.cells #[.int .u64 1, .bool false, .int .u64 4096, .bool false, .int .u64 4294967294, .bool true, .int .u64 8190, .bool true, .int .u64 62, .bool false] 27 (0, 0)) ∧ W.heap[V1.heap.size]? = some (.cells #[.int .u64 0, .bool false, .int .u64 0, .bool false, .int .u64 0, .bool false, .int .u64 0, .bool false, .int .u64 0, .bool false] 27 (0, 0)) ∧ W.heap[V2.heap.size]? = some (.cells #[.int .u64 0, .bool false, .int .u64 0, .bool false, .int .u64 0, .bool false, .int .u64 0, .bool false, .int .u64 0, .bool false] 27 (0, 0))) ⟨HA, KA0, KA1, KA2⟩ ?_
 clear HB HA KA0 KA1 KA2
 rintro W3 ⟨HB3, K3_0, K3_1, K3_2⟩
 refine (spec_Get.calls 1 false 4096 false 4294967294 true 8190 true 62 false 4 62 false 0 _ (by kernel_rfl)).mono ?_
 rintro e V3 ⟨rfl, hb⟩
 have HB := below_step HB3 hb
 have KB0 := blk_below K3_0 hb
 have KB1 := blk_below K3_1 hb
 have KB2 := blk_below K3_2 hb
 clear hb HB3 K3_0 K3_1 K3_2
 replace HB := Aside0.mk HB
 replace KB0 := Aside0.mk KB0
 replace KB1 := Aside0.mk KB1
 replace KB2 := Aside0.mk KB2
 have c0_0 : V3.cell? ⟨V0.heap.size, 0, none⟩ = some (.int .u64 1) := (blk_cell KB0.out 0).trans rfl
 have c0_1 : V3.cell? ⟨V0.heap.size, 1, none⟩ = some (.bool false) := (blk_cell KB0.out 1).trans rfl
 have c0_2 : V3.cell? ⟨V0.heap.size, 2, none⟩ = some (.int .u64 4096) := (blk_cell KB0.out 2).trans rfl
 have c0_3 : V3.cell? ⟨V0.heap.size, 3, none⟩ = some (.bool false) := (blk_cell KB0.out 3).trans rfl
 have c0_4 : V3.cell? ⟨V0.heap.size, 4, none⟩ = some (.int .u64 4294967294) := (blk_cell KB0.out 4).trans rfl
 have c0_5 : V3.cell? ⟨V0.heap.size, 5, none⟩ = some (.bool true) := (blk_cell KB0.out 5).trans rfl
 have c0_6 : V3.cell? ⟨V0.heap.size, 6, none⟩ = some (.int .u64 8190) := (blk_cell KB0.out 6).trans rfl
 have c0_7 : V3.cell? ⟨V0.heap.size, 7, none⟩ = some (.bool true) := (blk_cell KB0.out 7).trans rfl
 have c0_8 : V3.cell? ⟨V0.heap.size, 8, none⟩ = some (.int .u64 62) := (blk_cell KB0.out 8).trans rfl
 have c0_9 : V3.cell? ⟨V0.heap.size, 9, none⟩ = some (.bool false) := (blk_cell KB0.out 9).trans rfl
 have l0 := blk_lt KB0.out
 have c1_0 : V3.cell? ⟨V1.heap.size, 0, none⟩ = some (.int .u64 0) := (blk_cell KB1.out 0).trans rfl
 have c1_1 : V3.cell? ⟨V1.heap.size, 1, none⟩ = some (.bool false) := (blk_cell KB1.out 1).trans rfl
 have c1_2 : V3.cell? ⟨V1.heap.size, 2, none⟩ = some (.int .u64 0) := (blk_cell KB1.out 2).trans rfl
 have c1_3 : V3.cell? ⟨V1.heap.size, 3, none⟩ = some (.bool false) := (blk_cell KB1.out 3).trans rfl
 have c1_4 : V3.cell? ⟨V1.heap.size, 4, none⟩ = some (.int .u64 0) := (blk_cell KB1.out 4).trans rfl
 have c1_5 : V3.cell? ⟨V1.heap.size, 5, none⟩ = some (.bool false) := (blk_cell KB1.out 5).trans rfl
 have c1_6 : V3.cell? ⟨V1.heap.size, 6, none⟩ = some (.int .u64 0) := (blk_cell KB1.out 6).trans rfl
 have c1_7 : V3.cell? ⟨V1.heap.size, 7, none⟩ = some (.bool false) := (blk_cell KB1.out 7).trans rfl
 have c1_8 : V3.cell? ⟨V1.heap.size, 8, none⟩ = some (.int .u64 0) := (blk_cell KB1.out 8).trans rfl
 have c1_9 : V3.cell? ⟨V1.heap.size, 9, none⟩ = some (.bool false) := (blk_cell KB1.out 9).trans rfl
 have l1 := blk_lt KB1.out
 have c2_0 : V3.cell? ⟨V2.heap.size, 0, none⟩ = some (.int .u64 0) := (blk_cell KB2.out 0).trans rfl
 have c2_1 : V3.cell? ⟨V2.heap.size, 1, none⟩ = some (.bool false) := (blk_cell KB2.out 1).trans rfl
 have c2_2 : V3.cell? ⟨V2.heap.size, 2, none⟩ = some (.int .u64 0) := (blk_cell KB2.out 2).trans rfl
 have c2_3 : V3.cell? ⟨V2.heap.size, 3, none⟩ = some (.bool false) := (blk_cell KB2.out 3).trans rfl
 have c2_4 : V3.cell? ⟨V2.heap.size, 4, none⟩ = some (.int .u64 0) := (blk_cell KB2.out 4).trans rfl
 have c2_5 : V3.cell? ⟨V2.heap.size, 5, none⟩ = some (.bool false) := (blk_cell KB2.out 5).trans rfl
 have c2_6 : V3.cell? ⟨V2.heap.size, 6, none⟩ = some (.int .u64 0) := (blk_cell KB2.out 6).trans rfl
 have c2_7 : V3.cell? ⟨V2.heap.size, 7, none⟩ = some (.bool false) := (blk_cell KB2.out 7).trans rfl
 have c2_8 : V3.cell? ⟨V2.heap.size, 8, none⟩ = some (.int .u64 0) := (blk_cell KB2.out 8).trans rfl
 have c2_9 : V3.cell? ⟨V2.heap.size, 9, none⟩ = some (.bool false) := (blk_cell KB2.out 9).trans rfl
 have l2 := blk_lt KB2.out
 go_wp2_with fail
 clear c0_0 c0_1 c0_2 c0_3 c0_4 c0_5 c0_6 c0_7 c0_8 c0_9 l0 c1_0 c1_1 c1_2 c1_3 c1_4 c1_5 c1_6 c1_7 c1_8 c1_9 l1 c2_0 c2_1 c2_2 c2_3 c2_4 c2_5 c2_6 c2_7 c2_8 c2_9 l2
 have HA := below_alloc HB.out (.cells #[.int .u64 62, .bool false] 25)
 have KA0 := blk_alloc KB0.out (.cells #[.int .u64 62, .bool false] 25)
 have KA1 := blk_alloc KB1.out (.cells #[.int .u64 62, .bool false] 25)
 have KA2 := blk_alloc KB2.out (.cells #[.int .u64 62, .bool false] 25)
 have KA3 := blk_new V3 (.cells #[.int .u64 62, .bool false] 25)
 clear HB KB0 KB1 KB2
 have HB := HA
 refine Spc.gen (fun W => Below w.heap.size w W ∧ W.heap[V0.heap.size]? = some (.cells #[.int .u64 1, .bool false, .int .u64 4096, .bool false, .int .u64 4294967294, .bool true, .int .u64 8190, .bool true, .int .u64 62, .bool false] 27 (0, 0)) ∧ W.heap[V1.heap.size]? = some (.cells #[.int .u64 0, .bool false, .int .u64 0, .bool false, .int .u64 0, .bool false, .int .u64 0, .bool false, .int .u64 0, .bool false] 27 (0, 0)) ∧ W.heap[V2.heap.size]? = some (.cells #[.int .u64 0, .bool false, .int .u64 0, .bool false, .int .u64 0, .bool false, .int .u64 0, .bool false, .int .u64 0, .bool false] 27 (0, 0)) ∧ W.heap[V3.heap.size]? = some (.cells #[.int .u64 62, .bool false] 25 (0, 0))) ⟨HA, KA0, KA1, KA2, KA3⟩ ?_
 clear HB HA KA0 KA1 KA2 KA3
 rintro W4 ⟨HB4, K4_0, K4_1, K4_2, K4_3⟩
 refine (spec_With.calls 1 false 4096 false 4294967294 true 8190 true 62 false 0 4 false 4 false 4096 false 4294967294 true 8190 true 62 false 0 _ (by kernel_rfl)).mono ?_
 rintro e V4 ⟨rfl, hb⟩
 have HB := below_step HB4 hb
 have KB0 := blk_below K4_0 hb
 have KB1 := blk_below K4_1 hb
 have KB2 := blk_below K4_2 hb
 have KB3 := blk_below K4_3 hb
 clear hb HB4 K4_0 K4_1 K4_2 K4_3
 replace HB := Aside0.mk HB
 replace KB0 := Aside0.mk KB0
 replace KB1 := Aside0.mk KB1
 replace KB2 := Aside0.mk KB2
 replace KB3 := Aside0.mk KB3
 have c0_0 : V4.cell? ⟨V0.heap.size, 0, none⟩ = some (.int .u64 1) := (blk_cell KB0.out 0).trans rfl
 have c0_1 : V4.cell? ⟨V0.heap.size, 1, none⟩ = some (.bool false) := (blk_cell KB0.out 1).trans rfl
 have c0_2 : V4.cell? ⟨V0.heap.size, 2, none⟩ = some (.int .u64 4096) := (blk_cell KB0.out 2).trans rfl
 have c0_3 : V4.cell? ⟨V0.heap.size, 3, none⟩ = some (.bool false) := (blk_cell KB0.out 3).trans rfl
 have c0_4 : V4.cell? ⟨V0.heap.size, 4, none⟩ = some (.int .u64 4294967294) := (blk_cell KB0.out 4).trans rfl
 have c0_5 : V4.cell? ⟨V0.heap.size, 5, none⟩ = some (.bool true) := (blk_cell KB0.out 5).trans rfl
 have c0_6 : V4.cell? ⟨V0.heap.size, 6, none⟩ = some (.int .u64 8190) := (blk_cell KB0.out 6).trans rfl
 have c0_7 : V4.cell? ⟨V0.heap.size, 7, none⟩ = some (.bool true) := (blk_cell KB0.out 7).trans rfl
 have c0_8 : V4.cell? ⟨V0.heap.size, 8, none⟩ = some (.int .u64 62) := (blk_cell KB0.out 8).trans rfl
 have c0_9 : V4.cell? ⟨V0.heap.size, 9, none⟩ = some (.bool false) := (blk_cell KB0.out 9).trans rfl
 have l0 := blk_lt KB0.out
 have c1_0 : V4.cell? ⟨V1.heap.size, 0, none⟩ = some (.int .u64 0) := (blk_cell KB1.out 0).trans rfl
 have c1_1 : V4.cell? ⟨V1.heap.size, 1, none⟩ = some (.bool false) := (blk_cell KB1.out 1).trans rfl
 have c1_2 : V4.cell? ⟨V1.heap.size, 2, none⟩ = some (.int .u64 0) := (blk_cell KB1.out 2).trans rfl
 have c1_3 : V4.cell? ⟨V1.heap.size, 3, none⟩ = some (.bool false) := (blk_cell KB1.out 3).trans rfl
 have c1_4 : V4.cell? ⟨V1.heap.size, 4, none⟩ = some (.int .u64 0) := (blk_cell KB1.out 4).trans rfl
 have c1_5 : V4.cell? ⟨V1.heap.size, 5, none⟩ = some (.bool false) := (blk_cell KB1.out 5).trans rfl
 have c1_6 : V4.cell? ⟨V1.heap.size, 6, none⟩ = some (.int .u64 0) := (blk_cell KB1.out 6).trans rfl
 have c1_7 : V4.cell? ⟨V1.heap.size, 7, none⟩ = some (.bool false) := (blk_cell KB1.out 7).trans rfl
 have c1_8 : V4.cell? ⟨V1.heap.size, 8, none⟩ = some (.int .u64 0) := (blk_cell KB1.out 8).trans rfl
 have c1_9 : V4.cell? ⟨V1.heap.size, 9, none⟩ = some (.bool false) := (blk_cell KB1.out 9).trans rfl
 have l1 := blk_lt KB1.out
 have c2_0 : V4.cell? ⟨V2.heap.size, 0, none⟩ = some (.int .u64 0) := (blk_cell KB2.out 0).trans rfl
 have c2_1 : V4.cell? ⟨V2.heap.size, 1, none⟩ = some (.bool false) := (blk_cell KB2.out 1).trans rfl
 have c2_2 : V4.cell? ⟨V2.heap.size, 2, none⟩ = some (.int .u64 0) := (blk_cell KB2.out 2).trans rfl
 have c2_3 : V4.cell? ⟨V2.heap.size, 3, none⟩ = some (.bool false) := (blk_cell KB2.out 3).trans rfl
 have c2_4 : V4.cell? ⟨V2.heap.size, 4, none⟩ = some (.int .u64 0) := (blk_cell KB2.out 4).trans rfl
 have c2_5 : V4.cell? ⟨V2.heap.size, 5, none⟩ = some (.bool false) := (blk_cell KB2.out 5).trans rfl
 have c2_6 : V4.cell? ⟨V2.heap.size, 6, none⟩ = some (.int .u64 0) := (blk_cell KB2.out 6).trans rfl
 have c2_7 : V4.cell? ⟨V2.heap.size, 7, none⟩ = some (.bool false) := (blk_cell KB2.out 7).trans rfl
 have c2_8 : V4.cell? ⟨V2.heap.size, 8, none⟩ = some (.int .u64 0) := (blk_cell KB2.out 8).trans rfl
 have c2_9 : V4.cell? ⟨V2.heap.size, 9, none⟩ = some (.bool false) := (blk_cell KB2.out 9).trans rfl
 have l2 := blk_lt KB2.out
 have c3_0 : V4.cell? ⟨V3.heap.size, 0, none⟩ = some (.int .u64 62) := (blk_cell KB3.out 0).trans rfl
 have c3_1 : V4.cell? ⟨V3.heap.size, 1, none⟩ = some (.bool false) := (blk_cell KB3.out 1).trans rfl
 have l3 := blk_lt KB3.out
 go_wp2_with fail
 clear c0_0 c0_1 c0_2 c0_3 c0_4 c0_5 c0_6 c0_7 c0_8 c0_9 l0 c1_0 c1_1 c1_2 c1_3 c1_4 c1_5 c1_6 c1_7 c1_8 c1_9 l1 c2_0 c2_1 c2_2 c2_3 c2_4 c2_5 c2_6 c2_7 c2_8 c2_9 l2 c3_0 c3_1 l3
 have HA := below_alloc HB.out (.cells #[.int .u64 4, .bool false, .int .u64 4096, .bool false, .int .u64 4294967294, .bool true, .int .u64 8190, .bool true, .int .u64 62, .bool false] 27)
 have KA0 := blk_alloc KB0.out (.cells #[.int .u64 4, .bool false, .int .u64 4096, .bool false, .int .u64 4294967294, .bool true, .int .u64 8190, .bool true, .int .u64 62, .bool false] 27)
 have KA1 := blk_alloc KB1.out (.cells #[.int .u64 4, .bool false, .int .u64 4096, .bool false, .int .u64 4294967294, .bool true, .int .u64 8190, .bool true, .int .u64 62, .bool false] 27)
 have KA2 := blk_alloc KB2.out (.cells #[.int .u64 4, .bool false, .int .u64 4096, .bool false, .int .u64 4294967294, .bool true, .int .u64 8190, .bool true, .int .u64 62, .bool false] 27)
 have KA3 := blk_alloc KB3.out (.cells #[.int .u64 4, .bool false, .int .u64 4096, .bool false, .int .u64 4294967294, .bool true, .int .u64 8190, .bool true, .int .u64 62, .bool false] 27)
 have KA4 := blk_new V4 (.cells #[.int .u64 4, .bool false, .int .u64 4096, .bool false, .int .u64 4294967294, .bool true, .int .u64 8190, .bool true, .int .u64 62, .bool false] 27)
 clear HB KB0 KB1 KB2 KB3
 have HB := HA
 refine Spc.gen (fun W => Below w.heap.size w W ∧ W.heap[V0.heap.size]? = some (.cells #[.int .u64 1, .bool false, .int .u64 4096, .bool false, .int .u64 4294967294, .bool true, .int .u64 8190, .bool true, .int .u64 62, .bool false] 27 (0, 0)) ∧ W.heap[V1.heap.size]? = some (.cells #[.int .u64 0, .bool false, .int .u64 0, .bool false, .int .u64 0, .bool false, .int .u64 0, .bool false, .int .u64 0, .bool false] 27 (0, 0)) ∧ W.heap[V2.heap.size]? = some (.cells #[.int .u64 0, .bool false, .int .u64 0, .bool false, .int .u64 0, .bool false, .int .u64 0, .bool false, .int .u64 0, .bool false] 27 (0, 0)) ∧ W.heap[V3.heap.size]? = some (.cells #[.int .u64 62, .bool false] 25 (0, 0)) ∧ W.heap[V4.heap.size]? = some (.cells #[.int .u64 4, .bool false, .int .u64 4096, .bool false, .int .u64 4294967294, .bool true, .int .u64 8190, .bool true, .int .u64 62, .bool false] 27 (0, 0))) ⟨HA, KA0, KA1, KA2, KA3, KA4⟩ ?_
 clear HB HA KA0 KA1 KA2 KA3 KA4
 rintro W5 ⟨HB5, K5_0, K5_1, K5_2, K5_3, K5_4⟩
 refine (spec_Check.calls 4 false 4096 false 4294967294 true 8190 true 62 false 0 0 _ (by kernel_rfl)).mono ?_
 rintro e V5 ⟨rfl, hb⟩
 have HB := below_step HB5 hb
 have KB0 := blk_below K5_0 hb
 have KB1 := blk_below K5_1 hb
 have KB2 := blk_below K5_2 hb
 have KB3 := blk_below K5_3 hb
 have KB4 := blk_below K5_4 hb
 clear hb HB5 K5_0 K5_1 K5_2 K5_3 K5_4
 replace HB := Aside0.mk HB
 replace KB0 := Aside0.mk KB0
 replace KB1 := Aside0.mk KB1
 replace KB2 := Aside0.mk KB2
 replace KB3 := Aside0.mk KB3
 replace KB4 := Aside0.mk KB4
 have c0_0 : V5.cell? ⟨V0.heap.size, 0, none⟩ = some (.int .u64 1) := (blk_cell KB0.out 0).trans rfl
 have c0_1 : V5.cell? ⟨V0.heap.size, 1, none⟩ = some (.bool false) := (blk_cell KB0.out 1).trans rfl
 have c0_2 : V5.cell? ⟨V0.heap.size, 2, none⟩ = some (.int .u64 4096) := (blk_cell KB0.out 2).trans rfl
 have c0_3 : V5.cell? ⟨V0.heap.size, 3, none⟩ = some (.bool false) := (blk_cell KB0.out 3).trans rfl
 have c0_4 : V5.cell? ⟨V0.heap.size, 4, none⟩ = some (.int .u64 4294967294) := (blk_cell KB0.out 4).trans rfl
 have c0_5 : V5.cell? ⟨V0.heap.size, 5, none⟩ = some (.bool true) := (blk_cell KB0.out 5).trans rfl
 have c0_6 : V5.cell? ⟨V0.heap.size, 6, none⟩ = some (.int .u64 8190) := (blk_cell KB0.out 6).trans rfl
 have c0_7 : V5.cell? ⟨V0.heap.size, 7, none⟩ = some (.bool true) := (blk_cell KB0.out 7).trans rfl
 have c0_8 : V5.cell? ⟨V0.heap.size, 8, none⟩ = some (.int .u64 62) := (blk_cell KB0.out 8).trans rfl
 have c0_9 : V5.cell? ⟨V0.heap.size, 9, none⟩ = some (.bool false) := (blk_cell KB0.out 9).trans rfl
 have l0 := blk_lt KB0.out
 have c1_0 : V5.cell? ⟨V1.heap.size, 0, none⟩ = some (.int .u64 0) := (blk_cell KB1.out 0).trans rfl
 have c1_1 : V5.cell? ⟨V1.heap.size, 1, none⟩ = some (.bool false) := (blk_cell KB1.out 1).trans rfl
 have c1_2 : V5.cell? ⟨V1.heap.size, 2, none⟩ = some (.int .u64 0) := (blk_cell KB1.out 2).trans rfl
 have c1_3 : V5.cell? ⟨V1.heap.size, 3, none⟩ = some (.bool false) := (blk_cell KB1.out 3).trans rfl
 have c1_4 : V5.cell? ⟨V1.heap.size, 4, none⟩ = some (.int .u64 0) := (blk_cell KB1.out 4).trans rfl
 have c1_5 : V5.cell? ⟨V1.heap.size, 5, none⟩ = some (.bool false) := (blk_cell KB1.out 5).trans rfl
 have c1_6 : V5.cell? ⟨V1.heap.size, 6, none⟩ = some (.int .u64 0) := (blk_cell KB1.out 6).trans rfl
 have c1_7 : V5.cell? ⟨V1.heap.size, 7, none⟩ = some (.bool false) := (blk_cell KB1.out 7).trans rfl
 have c1_8 : V5.cell? ⟨V1.heap.size, 8, none⟩ = some (.int .u64 0) := (blk_cell KB1.out 8).trans rfl
 have c1_9 : V5.cell? ⟨V1.heap.size, 9, none⟩ = some (.bool false) := (blk_cell KB1.out 9).trans rfl
 have l1 := blk_lt KB1.out
 have c2_0 : V5.cell? ⟨V2.heap.size, 0, none⟩ = some (.int .u64 0) := (blk_cell KB2.out 0).trans rfl
 have c2_1 : V5.cell? ⟨V2.heap.size, 1, none⟩ = some (.bool false) := (blk_cell KB2.out 1).trans rfl
 have c2_2 : V5.cell? ⟨V2.heap.size, 2, none⟩ = some (.int .u64 0) := (blk_cell KB2.out 2).trans rfl
 have c2_3 : V5.cell? ⟨V2.heap.size, 3, none⟩ = some (.bool false) := (blk_cell KB2.out 3).trans rfl
 have c2_4 : V5.cell? ⟨V2.heap.size, 4, none⟩ = some (.int .u64 0) := (blk_cell KB2.out 4).trans rfl
 have c2_5 : V5.cell? ⟨V2.heap.size, 5, none⟩ = some (.bool false) := (blk_cell KB2.out 5).trans rfl
 have c2_6 : V5.cell? ⟨V2.heap.size, 6, none⟩ = some (.int .u64 0) := (blk_cell KB2.out 6).trans rfl
 have c2_7 : V5.cell? ⟨V2.heap.size, 7, none⟩ = some (.bool false) := (blk_cell KB2.out 7).trans rfl
 have c2_8 : V5.cell? ⟨V2.heap.size, 8, none⟩ = some (.int .u64 0) := (blk_cell KB2.out 8).trans rfl
 have c2_9 : V5.cell? ⟨V2.heap.size, 9, none⟩ = some (.bool false) := (blk_cell KB2.out 9).trans rfl
 have l2 := blk_lt KB2.out
 have c3_0 : V5.cell? ⟨V3.heap.size, 0, none⟩ = some (.int .u64 62) := (blk_cell KB3.out 0).trans rfl
 have c3_1 : V5.cell? ⟨V3.heap.size, 1, none⟩ = some (.bool false) := (blk_cell KB3.out 1).trans rfl
 have l3 := blk_lt KB3.out
 have c4_0 : V5.cell? ⟨V4.heap.size, 0, none⟩ = some (.int .u64 4) := (blk_cell KB4.out 0).trans rfl
 have c4_1 : V5.cell? ⟨V4.heap.size, 1, none⟩ = some (.bool false) := (blk_cell KB4.out 1).trans rfl
 have c4_2 : V5.cell? ⟨V4.heap.size, 2, none⟩ = some (.int .u64 4096) := (blk_cell KB4.out 2).trans rfl
 have c4_3 : V5.cell? ⟨V4.heap.size, 3, none⟩ = some (.bool false) := (blk_cell KB4.out 3).trans rfl
 have c4_4 : V5.cell? ⟨V4.heap.size, 4, none⟩ = some (.int .u64 4294967294) := (blk_cell KB4.out 4).trans rfl
 have c4_5 : V5.cell? ⟨V4.heap.size, 5, none⟩ = some (.bool true) := (blk_cell KB4.out 5).trans rfl
 have c4_6 : V5.cell? ⟨V4.heap.size, 6, none⟩ = some (.int .u64 8190) := (blk_cell KB4.out 6).trans rfl
 have c4_7 : V5.cell? ⟨V4.heap.size, 7, none⟩ = some (.bool true) := (blk_cell KB4.out 7).trans rfl
 have c4_8 : V5.cell? ⟨V4.heap.size, 8, none⟩ = some (.int .u64 62) := (blk_cell KB4.out 8).trans rfl
 have c4_9 : V5.cell? ⟨V4.heap.size, 9, none⟩ = some (.bool false) := (blk_cell KB4.out 9).trans rfl
 have l4 := blk_lt KB4.out
 go_wp2_with fail
 clear c0_0 c0_1 c0_2 c0_3 c0_4 c0_5 c0_6 c0_7 c0_8 c0_9 l0 c1_0 c1_1 c1_2 c1_3 c1_4 c1_5 c1_6 c1_7 c1_8 c1_9 l1 c2_0 c2_1 c2_2 c2_3 c2_4 c2_5 c2_6 c2_7 c2_8 c2_9 l2 c3_0 c3_1 l3 c4_0 c4_1 c4_2 c4_3 c4_4 c4_5 c4_6 c4_7 c4_8 c4_9 l4
 have HA := HB.out
 have KA0 := KB0.out
 have KA1 := KB1.out
 have KA2 := KB2.out
 have KA3 := KB3.out
 have KA4 := KB4.out
 clear HB KB0 KB1 KB2 KB3 KB4
 have HB := HA
 refine Spc.gen (fun W => Below w.heap.size w W ∧ W.heap[V0.heap.size]? = some (.cells #[.int .u64 1, .bool false, .int .u64 4096, .bool false, .int .u64 4294967294, .bool true, .int .u64 8190, .bool true, .int .u64 62, .bool false] 27 (0, 0)) ∧ W.heap[V1.heap.size]? = some (.cells #[.int .u64 0, .bool false, .int .u64 0, .bool false, .int .u64 0, .bool false, .int .u64 0, .bool false, .int .u64 0, .bool false] 27 (0, 0)) ∧ W.heap[V2.heap.size]? = some (.cells #[.int .u64 0, .bool false, .int .u64 0, .bool false, .int .u64 0, .bool false, .int .u64 0, .bool false, .int .u64 0, .bool false] 27 (0, 0)) ∧ W.heap[V3.heap.size]? = some (.cells #[.int .u64 62, .bool false] 25 (0, 0)) ∧ W.heap[V4.heap.size]? = some (.cells #[.int .u64 4, .bool false, .int .u64 4096, .bool false, .int .u64 4294967294, .bool true, .int .u64 8190, .bool true, .int .u64 62, .bool false] 27 (0, 0))) ⟨HA, KA0, KA1, KA2, KA3, KA4⟩ ?_
 clear HB HA KA0 KA1 KA2 KA3 KA4
 rintro W6 ⟨HB6, K6_0, K6_1, K6_2, K6_3, K6_4⟩
 refine (spec_Stars.calls 1152921504606846975 true 16777215 true 4294967294 true 8190 true 127 true _ rfl).mono ?_
 rintro e V6 ⟨rfl, hb⟩
 have HB := below_step HB6 hb
 have KB0 := blk_below K6_0 hb
 have KB1 := blk_below K6_1 hb
 have KB2 := blk_below K6_2 hb
 have KB3 := blk_below K6_3 hb
 have KB4 := blk_below K6_4 hb
 clear hb HB6 K6_0 K6_1 K6_2 K6_3 K6_4
 replace HB := Aside0.mk HB
 replace KB0 := Aside0.mk KB0
 replace KB1 := Aside0.mk KB1
 replace KB2 := Aside0.mk KB2
 replace KB3 := Aside0.mk KB3
 replace KB4 := Aside0.mk KB4
 have c0_0 : V6.cell? ⟨V0.heap.size, 0, none⟩ = some (.int .u64 1) := (blk_cell KB0.out 0).trans rfl
 have c0_1 : V6.cell? ⟨V0.heap.size, 1, none⟩ = some (.bool false) := (blk_cell KB0.out 1).trans rfl
 have c0_2 : V6.cell? ⟨V0.heap.size, 2, none⟩ = some (.int .u64 4096) := (blk_cell KB0.out 2).trans rfl
 have c0_3 : V6.cell? ⟨V0.heap.size, 3, none⟩ = some (.bool false) := (blk_cell KB0.out 3).trans rfl
 have c0_4 : V6.cell? ⟨V0.heap.size, 4, none⟩ = some (.int .u64 4294967294) := (blk_cell KB0.out 4).trans rfl
 have c0_5 : V6.cell? ⟨V0.heap.size, 5, none⟩ = some (.bool true) := (blk_cell KB0.out 5).trans rfl
 have c0_6 : V6.cell? ⟨V0.heap.size, 6, none⟩ = some (.int .u64 8190) := (blk_cell KB0.out 6).trans rfl
 have c0_7 : V6.cell? ⟨V0.heap.size, 7, none⟩ = some (.bool true) := (blk_cell KB0.out 7).trans rfl
 have c0_8 : V6.cell? ⟨V0.heap.size, 8, none⟩ = some (.int .u64 62) := (blk_cell KB0.out 8).trans rfl
 have c0_9 : V6.cell? ⟨V0.heap.size, 9, none⟩ = some (.bool false) := (blk_cell KB0.out 9).trans rfl
 have l0 := blk_lt KB0.out
 have c1_0 : V6.cell? ⟨V1.heap.size, 0, none⟩ = some (.int .u64 0) := (blk_cell KB1.out 0).trans rfl
 have c1_1 : V6.cell? ⟨V1.heap.size, 1, none⟩ = some (.bool false) := (blk_cell KB1.out 1).trans rfl
 have c1_2 : V6.cell? ⟨V1.heap.size, 2, none⟩ = some (.int .u64 0) := (blk_cell KB1.out 2).trans rfl
 have c1_3 : V6.cell? ⟨V1.heap.size, 3, none⟩ = some (.bool false) := (blk_cell KB1.out 3).trans rfl
 have c1_4 : V6.cell? ⟨V1.heap.size, 4, none⟩ = some (.int .u64 0) := (blk_cell KB1.out 4).trans rfl
 have c1_5 : V6.cell? ⟨V1.heap.size, 5, none⟩ = some (.bool false) := (blk_cell KB1.out 5).trans rfl
 have c1_6 : V6.cell? ⟨V1.heap.size, 6, none⟩ = some (.int .u64 0) := (blk_cell KB1.out 6).trans rfl
 have c1_7 : V6.cell? ⟨V1.heap.size, 7, none⟩ = some (.bool false) := (blk_cell KB1.out 7).trans rfl
 have c1_8 : V6.cell? ⟨V1.heap.size, 8, none⟩ = some (.int .u64 0) := (blk_cell KB1.out 8).trans rfl
 have c1_9 : V6.cell? ⟨V1.heap.size, 9, none⟩ = some (.bool false) := (blk_cell KB1.out 9).trans rfl
 have l1 := blk_lt KB1.out
 have c2_0 : V6.cell? ⟨V2.heap.size, 0, none⟩ = some (.int .u64 0) := (blk_cell KB2.out 0).trans rfl
 have c2_1 : V6.cell? ⟨V2.heap.size, 1, none⟩ = some (.bool false) := (blk_cell KB2.out 1).trans rfl
 have c2_2 : V6.cell? ⟨V2.heap.size, 2, none⟩ = some (.int .u64 0) := (blk_cell KB2.out 2).trans rfl
 have c2_3 : V6.cell? ⟨V2.heap.size, 3, none⟩ = some (.bool false) := (blk_cell KB2.out 3).trans rfl
 have c2_4 : V6.cell? ⟨V2.heap.size, 4, none⟩ = some (.int .u64 0) := (blk_cell KB2.out 4).trans rfl
 have c2_5 : V6.cell? ⟨V2.heap.size, 5, none⟩ = some (.bool false) := (blk_cell KB2.out 5).trans rfl
 have c2_6 : V6.cell? ⟨V2.heap.size, 6, none⟩ = some (.int .u64 0) := (blk_cell KB2.out 6).trans rfl
 have c2_7 : V6.cell? ⟨V2.heap.size, 7, none⟩ = some (.bool false) := (blk_cell KB2.out 7).trans rfl
 have c2_8 : V6.cell? ⟨V2.heap.size, 8, none⟩ = some (.int .u64 0) := (blk_cell KB2.out 8).trans rfl
 have c2_9 : V6.cell? ⟨V2.heap.size, 9, none⟩ = some (.bool false) := (blk_cell KB2.out 9).trans rfl
 have l2 := blk_lt KB2.out
 have c3_0 : V6.cell? ⟨V3.heap.size, 0, none⟩ = some (.int .u64 62) := (blk_cell KB3.out 0).trans rfl
 have c3_1 : V6.cell? ⟨V3.heap.size, 1, none⟩ = some (.bool false) := (blk_cell KB3.out 1).trans rfl
 have l3 := blk_lt KB3.out
 have c4_0 : V6.cell? ⟨V4.heap.size, 0, none⟩ = some (.int .u64 4) := (blk_cell KB4.out 0).trans rfl
 have c4_1 : V6.cell? ⟨V4.heap.size, 1, none⟩ = some (.bool false) := (blk_cell KB4.out 1).trans rfl
 have c4_2 : V6.cell? ⟨V4.heap.size, 2, none⟩ = some (.int .u64 4096) := (blk_cell KB4.out 2).trans rfl
 have c4_3 : V6.cell? ⟨V4.heap.size, 3, none⟩ = some (.bool false) := (blk_cell KB4.out 3).trans rfl
 have c4_4 : V6.cell? ⟨V4.heap.size, 4, none⟩ = some (.int .u64 4294967294) := (blk_cell KB4.out 4).trans rfl
 have c4_5 : V6.cell? ⟨V4.heap.size, 5, none⟩ = some (.bool true) := (blk_cell KB4.out 5).trans rfl
 have c4_6 : V6.cell? ⟨V4.heap.size, 6, none⟩ = some (.int .u64 8190) := (blk_cell KB4.out 6).trans rfl
 have c4_7 : V6.cell? ⟨V4.heap.size, 7, none⟩ = some (.bool true) := (blk_cell KB4.out 7).trans rfl
 have c4_8 : V6.cell? ⟨V4.heap.size, 8, none⟩ = some (.int .u64 62) := (blk_cell KB4.out 8).trans rfl
 have c4_9 : V6.cell? ⟨V4.heap.size, 9, none⟩ = some (.bool false) := (blk_cell KB4.out 9).trans rfl
 have l4 := blk_lt KB4.out
 go_wp2_with fail
 clear c0_0 c0_1 c0_2 c0_3 c0_4 c0_5 c0_6 c0_7 c0_8 c0_9 l0 c1_0 c1_1 c1_2 c1_3 c1_4 c1_5 c1_6 c1_7 c1_8 c1_9 l1 c2_0 c2_1 c2_2 c2_3 c2_4 c2_5 c2_6 c2_7 c2_8 c2_9 l2 c3_0 c3_1 l3 c4_0 c4_1 c4_2 c4_3 c4_4 c4_5 c4_6 c4_7 c4_8 c4_9 l4
 have HA := below_alloc HB.out (.cells #[.int .u64 1152921504606846975, .bool true, .int .u64 16777215, .bool true, .int .u64 4294967294, .bool true, .int .u64 8190, .bool true, .int .u64 127, .bool true] 27)
 have KA0 := blk_alloc KB0.out (.cells #[.int .u64 1152921504606846975, .bool true, .int .u64 16777215, .bool true, .int .u64 4294967294, .bool true, .int .u64 8190, .bool true, .int .u64 127, .bool true] 27)
 have KA1 := blk_alloc KB1.out (.cells #[.int .u64 1152921504606846975, .bool true, .int .u64 16777215, .bool true, .int .u64 4294967294, .bool true, .int .u64 8190, .bool true, .int .u64 127, .bool true] 27)
 have KA2 := blk_alloc KB2.out (.cells #[.int .u64 1152921504606846975, .bool true, .int .u64 16777215, .bool true, .int .u64 4294967294, .bool true, .int .u64 8190, .bool true, .int .u64 127, .bool true] 27)
 have KA3 := blk_alloc KB3.out (.cells #[.int .u64 1152921504606846975, .bool true, .int .u64 16777215, .bool true, .int .u64 4294967294, .bool true, .int .u64 8190, .bool true, .int .u64 127, .bool true] 27)
 have KA4 := blk_alloc KB4.out (.cells #[.int .u64 1152921504606846975, .bool true, .int .u64 16777215, .bool true, .int .u64 4294967294, .bool true, .int .u64 8190, .bool true, .int .u64 127, .bool true] 27)
 have KA5 := blk_new V6 (.cells #[.int .u64 1152921504606846975, .bool true, .int .u64 16777215, .bool true, .int .u64 4294967294, .bool true, .int .u64 8190, .bool true, .int .u64 127, .bool true] 27)
 clear HB KB0 KB1 KB2 KB3 KB4
 have HB := HA
 refine Spc.gen (fun W => Below w.heap.size w W ∧ W.heap[V0.heap.size]? = some (.cells #[.int .u64 1, .bool false, .int .u64 4096, .bool false, .int .u64 4294967294, .bool true, .int .u64 8190, .bool true, .int .u64 62, .bool false] 27 (0, 0)) ∧ W.heap[V1.heap.size]? = some (.cells #[.int .u64 0, .bool false, .int .u64 0, .bool false, .int .u64 0, .bool false, .int .u64 0, .bool false, .int .u64 0, .bool false] 27 (0, 0)) ∧ W.heap[V2.heap.size]? = some (.cells #[.int .u64 0, .bool false, .int .u64 0, .bool false, .int .u64 0, .bool false, .int .u64 0, .bool false, .int .u64 0, .bool false] 27 (0, 0)) ∧ W.heap[V3.heap.size]? = some (.cells #[.int .u64 62, .bool false] 25 (0, 0)) ∧ W.heap[V4.heap.size]? = some (.cells #[.int .u64 4, .bool false, .int .u64 4096, .bool false, .int .u64 4294967294, .bool true, .int .u64 8190, .bool true, .int .u64 62, .bool false] 27 (0, 0)) ∧ W.heap[V6.heap.size]? = some (.cells #[.int .u64 1152921504606846975, .bool true, .int .u64 16777215, .bool true, .int .u64 4294967294, .bool true, .int .u64 8190, .bool true, .int .u64 127, .bool true] 27 (0, 0))) ⟨HA, KA0, KA1, KA2, KA3, KA4, KA5⟩ ?_
 clear HB HA KA0 KA1 KA2 KA3 KA4 KA5
 rintro W7 ⟨HB7, K7_0, K7_1, K7_2, K7_3, K7_4, K7_5⟩
 refine (spec_Same.calls 1 false 4096 false 4294967294 true 8190 true 62 false 1 false 4096 false 4294967294 true 8190 true 62 false true _ (by kernel_rfl)).mono ?_
 rintro e V7 ⟨rfl, hb⟩
 have HB := below_step HB7 hb
 have KB0 := blk_below K7_0 hb
 have KB1 := blk_below K7_1 hb
 have KB2 := blk_below K7_2 hb
 have KB3 := blk_below K7_3 hb
 have KB4 := blk_below K7_4 hb
 have KB5 := blk_below K7_5 hb
 clear hb HB7 K7_0 K7_1 K7_2 K7_3 K7_4 K7_5
 replace HB := Aside0.mk HB
 replace KB0 := Aside0.mk KB0
 replace KB1 := Aside0.mk KB1
 replace KB2 := Aside0.mk KB2
 replace KB3 := Aside0.mk KB3
 replace KB4 := Aside0.mk KB4
 replace KB5 := Aside0.mk KB5
 have c0_0 : V7.cell? ⟨V0.heap.size, 0, none⟩ = some (.int .u64 1) := (blk_cell KB0.out 0).trans rfl
 have c0_1 : V7.cell? ⟨V0.heap.size, 1, none⟩ = some (.bool false) := (blk_cell KB0.out 1).trans rfl
 have c0_2 : V7.cell? ⟨V0.heap.size, 2, none⟩ = some (.int .u64 4096) := (blk_cell KB0.out 2).trans rfl
 have c0_3 : V7.cell? ⟨V0.heap.size, 3, none⟩ = some (.bool false) := (blk_cell KB0.out 3).trans rfl
 have c0_4 : V7.cell? ⟨V0.heap.size, 4, none⟩ = some (.int .u64 4294967294) := (blk_cell KB0.out 4).trans rfl
 have c0_5 : V7.cell? ⟨V0.heap.size, 5, none⟩ = some (.bool true) := (blk_cell KB0.out 5).trans rfl
 have c0_6 : V7.cell? ⟨V0.heap.size, 6, none⟩ = some (.int .u64 8190) := (blk_cell KB0.out 6).trans rfl
 have c0_7 : V7.cell? ⟨V0.heap.size, 7, none⟩ = some (.bool true) := (blk_cell KB0.out 7).trans rfl
 have c0_8 : V7.cell? ⟨V0.heap.size, 8, none⟩ = some (.int .u64 62) := (blk_cell KB0.out 8).trans rfl
 have c0_9 : V7.cell? ⟨V0.heap.size, 9, none⟩ = some (.bool false) := (blk_cell KB0.out 9).trans rfl
 have l0 := blk_lt KB0.out
 have c1_0 : V7.cell? ⟨V1.heap.size, 0, none⟩ = some (.int .u64 0) := (blk_cell KB1.out 0).trans rfl
 have c1_1 : V7.cell? ⟨V1.heap.size, 1, none⟩ = some (.bool false) := (blk_cell KB1.out 1).trans rfl
 have c1_2 : V7.cell? ⟨V1.heap.size, 2, none⟩ = some (.int .u64 0) := (blk_cell KB1.out 2).trans rfl
 have c1_3 : V7.cell? ⟨V1.heap.size, 3, none⟩ = some (.bool false) := (blk_cell KB1.out 3).trans rfl
 have c1_4 : V7.cell? ⟨V1.heap.size, 4, none⟩ = some (.int .u64 0) := (blk_cell KB1.out 4).trans rfl
 have c1_5 : V7.cell? ⟨V1.heap.size, 5, none⟩ = some (.bool false) := (blk_cell KB1.out 5).trans rfl
 have c1_6 : V7.cell? ⟨V1.heap.size, 6, none⟩ = some (.int .u64 0) := (blk_cell KB1.out 6).trans rfl
 have c1_7 : V7.cell? ⟨V1.heap.size, 7, none⟩ = some (.bool false) := (blk_cell KB1.out 7).trans rfl
 have c1_8 : V7.cell? ⟨V1.heap.size, 8, none⟩ = some (.int .u64 0) := (blk_cell KB1.out 8).trans rfl
 have c1_9 : V7.cell? ⟨V1.heap.size, 9, none⟩ = some (.bool false) := (blk_cell KB1.out 9).trans rfl
 have l1 := blk_lt KB1.out
 have c2_0 : V7.cell? ⟨V2.heap.size, 0, none⟩ = some (.int .u64 0) := (blk_cell KB2.out 0).trans rfl
 have c2_1 : V7.cell? ⟨V2.heap.size, 1, none⟩ = some (.bool false) := (blk_cell KB2.out 1).trans rfl
 have c2_2 : V7.cell? ⟨V2.heap.size, 2, none⟩ = some (.int .u64 0) := (blk_cell KB2.out 2).trans rfl
 have c2_3 : V7.cell? ⟨V2.heap.size, 3, none⟩ = some (.bool false) := (blk_cell KB2.out 3).trans rfl
 have c2_4 : V7.cell? ⟨V2.heap.size, 4, none⟩ = some (.int .u64 0) := (blk_cell KB2.out 4).trans rfl
 have c2_5 : V7.cell? ⟨V2.heap.size, 5, none⟩ = some (.bool false) := (blk_cell KB2.out 5).trans rfl
 have c2_6 : V7.cell? ⟨V2.heap.size, 6, none⟩ = some (.int .u64 0) := (blk_cell KB2.out 6).trans rfl
 have c2_7 : V7.cell? ⟨V2.heap.size, 7, none⟩ = some (.bool false) := (blk_cell KB2.out 7).trans rfl
 have c2_8 : V7.cell? ⟨V2.heap.size, 8, none⟩ = some (.int .u64 0) := (blk_cell KB2.out 8).trans rfl
 have c2_9 : V7.cell? ⟨V2.heap.size, 9, none⟩ = some (.bool false) := (blk_cell KB2.out 9).trans rfl
 have l2 := blk_lt KB2.out
 have c3_0 : V7.cell? ⟨V3.heap.size, 0, none⟩ = some (.int .u64 62) := (blk_cell KB3.out 0).trans rfl
 have c3_1 : V7.cell? ⟨V3.heap.size, 1, none⟩ = some (.bool false) := (blk_cell KB3.out 1).trans rfl
 have l3 := blk_lt KB3.out
 have c4_0 : V7.cell? ⟨V4.heap.size, 0, none⟩ = some (.int .u64 4) := (blk_cell KB4.out 0).trans rfl
 have c4_1 : V7.cell? ⟨V4.heap.size, 1, none⟩ = some (.bool false) := (blk_cell KB4.out 1).trans rfl
 have c4_2 : V7.cell? ⟨V4.heap.size, 2, none⟩ = some (.int .u64 4096) := (blk_cell KB4.out 2).trans rfl
 have c4_3 : V7.cell? ⟨V4.heap.size, 3, none⟩ = some (.bool false) := (blk_cell KB4.out 3).trans rfl
 have c4_4 : V7.cell? ⟨V4.heap.size, 4, none⟩ = some (.int .u64 4294967294) := (blk_cell KB4.out 4).trans rfl
 have c4_5 : V7.cell? ⟨V4.heap.size, 5, none⟩ = some (.bool true) := (blk_cell KB4.out 5).trans rfl
 have c4_6 : V7.cell? ⟨V4.heap.size, 6, none⟩ = some (.int .u64 8190) := (blk_cell KB4.out 6).trans rfl
 have c4_7 : V7.cell? ⟨V4.heap.size, 7, none⟩ = some (.bool true) := (blk_cell KB4.out 7).trans rfl
 have c4_8 : V7.cell? ⟨V4.heap.size, 8, none⟩ = some (.int .u64 62) := (blk_cell KB4.out 8).trans rfl
 have c4_9 : V7.cell? ⟨V4.heap.size, 9, none⟩ = some (.bool false) := (blk_cell KB4.out 9).trans rfl
 have l4 := blk_lt KB4.out
 have c5_0 : V7.cell? ⟨V6.heap.size, 0, none⟩ = some (.int .u64 1152921504606846975) := (blk_cell KB5.out 0).trans rfl
 have c5_1 : V7.cell? ⟨V6.heap.size, 1, none⟩ = some (.bool true) := (blk_cell KB5.out 1).trans rfl
 have c5_2 : V7.cell? ⟨V6.heap.size, 2, none⟩ = some (.int .u64 16777215) := (blk_cell KB5.out 2).trans rfl
 have c5_3 : V7.cell? ⟨V6.heap.size, 3, none⟩ = some (.bool true) := (blk_cell KB5.out 3).trans rfl
 have c5_4 : V7.cell? ⟨V6.heap.size, 4, none⟩ = some (.int .u64 4294967294) := (blk_cell KB5.out 4).trans rfl
 have c5_5 : V7.cell? ⟨V6.heap.size, 5, none⟩ = some (.bool true) := (blk_cell KB5.out 5).trans rfl
 have c5_6 : V7.cell? ⟨V6.heap.size, 6, none⟩ = some (.int .u64 8190) := (blk_cell KB5.out 6).trans rfl
 have c5_7 : V7.cell? ⟨V6.heap.size, 7, none⟩ = some (.bool true) := (blk_cell KB5.out 7).trans rfl
 have c5_8 : V7.cell? ⟨V6.heap.size, 8, none⟩ = some (.int .u64 127) := (blk_cell KB5.out 8).trans rfl
 have c5_9 : V7.cell? ⟨V6.heap.size, 9, none⟩ = some (.bool true) := (blk_cell KB5.out 9).trans rfl
 have l5 := blk_lt KB5.out
 go_wp2_with fail
 clear c0_0 c0_1 c0_2 c0_3 c0_4 c0_5 c0_6 c0_7 c0_8 c0_9 l0 c1_0 c1_1 c1_2 c1_3 c1_4 c1_5 c1_6 c1_7 c1_8 c1_9 l1 c2_0 c2_1 c2_2 c2_3 c2_4 c2_5 c2_6 c2_7 c2_8 c2_9 l2 c3_0 c3_1 l3 c4_0 c4_1 c4_2 c4_3 c4_4 c4_5 c4_6 c4_7 c4_8 c4_9 l4 c5_0 c5_1 c5_2 c5_3 c5_4 c5_5 c5_6 c5_7 c5_8 c5_9 l5
 have HA := HB.out
 have KA0 := KB0.out
 have KA1 := KB1.out
 have KA2 := KB2.out
 have KA3 := KB3.out
 have KA4 := KB4.out
 have KA5 := KB5.out
 clear HB KB0 KB1 KB2 KB3 KB4 KB5
 have HB := HA
 refine Spc.gen (fun W => Below w.heap.size w W ∧ W.heap[V0.heap.size]? = some (.cells #[.int .u64 1, .bool false, .int .u64 4096, .bool false, .int .u64 4294967294, .bool true, .int .u64 8190, .bool true, .int .u64 62, .bool false] 27 (0, 0)) ∧ W.heap[V1.heap.size]? = some (.cells #[.int .u64 0, .bool false, .int .u64 0, .bool false, .int .u64 0, .bool false, .int .u64 0, .bool false, .int .u64 0, .bool false] 27 (0, 0)) ∧ W.heap[V2.heap.size]? = some (.cells #[.int .u64 0, .bool false, .int .u64 0, .bool false, .int .u64 0, .bool false, .int .u64 0, .bool false, .int .u64 0, .bool false] 27 (0, 0)) ∧ W.heap[V3.heap.size]? = some (.cells #[.int .u64 62, .bool false] 25 (0, 0)) ∧ W.heap[V4.heap.size]? = some (.cells #[.int .u64 4, .bool false, .int .u64 4096, .bool false, .int .u64 4294967294, .bool true, .int .u64 8190, .bool true, .int .u64 62, .bool false] 27 (0, 0)) ∧ W.heap[V6.heap.size]? = some (.cells #[.int .u64 1152921504606846975, .bool true, .int .u64 16777215, .bool true, .int .u64 4294967294, .bool true, .int .u64 8190, .bool true, .int .u64 127, .bool true] 27 (0, 0))) ⟨HA, KA0, KA1, KA2, KA3, KA4, KA5⟩ ?_
 clear HB HA KA0 KA1 KA2 KA3 KA4 KA5
 rintro W8 ⟨HB8, K8_0, K8_1, K8_2, K8_3, K8_4, K8_5⟩
 refine (spec_Same.calls 1 false 4096 false 4294967294 true 8190 true 62 false 4 false 4096 false 4294967294 true 8190 true 62 false false _ (by kernel_rfl)).mono ?_
 rintro e V8 ⟨rfl, hb⟩
 have HB := below_step HB8 hb
 have KB0 := blk_below K8_0 hb
 have KB1 := blk_below K8_1 hb
 have KB2 := blk_below K8_2 hb
 have KB3 := blk_below K8_3 hb
 have KB4 := blk_below K8_4 hb
 have KB5 := blk_below K8_5 hb
 clear hb HB8 K8_0 K8_1 K8_2 K8_3 K8_4 K8_5
 replace HB := Aside0.mk HB
 replace KB0 := Aside0.mk KB0
 replace KB1 := Aside0.mk KB1
 replace KB2 := Aside0.mk KB2
 replace KB3 := Aside0.mk KB3
 replace KB4 := Aside0.mk KB4
 replace KB5 := Aside0.mk KB5
 have c0_0 : V8.cell? ⟨V0.heap.size, 0, none⟩ = some (.int .u64 1) := (blk_cell KB0.out 0).trans rfl
 have c0_1 : V8.cell? ⟨V0.heap.size, 1, none⟩ = some (.bool false) := (blk_cell KB0.out 1).trans rfl
 have c0_2 : V8.cell? ⟨V0.heap.size, 2, none⟩ = some (.int .u64 4096) := (blk_cell KB0.out 2).trans rfl
 have c0_3 : V8.cell? ⟨V0.heap.size, 3, none⟩ = some (.bool false) := (blk_cell KB0.out 3).trans rfl
 have c0_4 : V8.cell? ⟨V0.heap.size, 4, none⟩ = some (.int .u64 4294967294) := (blk_cell KB0.out 4).trans rfl
 have c0_5 : V8.cell? ⟨V0.heap.size, 5, none⟩ = some (.bool true) := (blk_cell KB0.out 5).trans rfl
 have c0_6 : V8.cell? ⟨V0.heap.size, 6, none⟩ = some (.int .u64 8190) := (blk_cell KB0.out 6).trans rfl
 have c0_7 : V8.cell? ⟨V0.heap.size, 7, none⟩ = some (.bool true) := (blk_cell KB0.out 7).trans rfl
 have c0_8 : V8.cell? ⟨V0.heap.size, 8, none⟩ = some (.int .u64 62) := (blk_cell KB0.out 8).trans rfl
 have c0_9 : V8.cell? ⟨V0.heap.size, 9, none⟩ = some (.bool false) := (blk_cell KB0.out 9).trans rfl
 have l0 := blk_lt KB0.out
 have c1_0 : V8.cell? ⟨V1.heap.size, 0, none⟩ = some (.int .u64 0) := (blk_cell KB1.out 0).trans rfl
 have c1_1 : V8.cell? ⟨V1.heap.size, 1, none⟩ = some (.bool false) := (blk_cell KB1.out 1).trans rfl
 have c1_2 : V8.cell? ⟨V1.heap.size, 2, none⟩ = some (.int .u64 0) := (blk_cell KB1.out 2).trans rfl
 have c1_3 : V8.cell? ⟨V1.heap.size, 3, none⟩ = some (.bool false) := (blk_cell KB1.out 3).trans rfl
 have c1_4 : V8.cell? ⟨V1.heap.size, 4, none⟩ = some (.int .u64 0) := (blk_cell KB1.out 4).trans rfl
 have c1_5 : V8.cell? ⟨V1.heap.size, 5, none⟩ = some (.bool false) := (blk_cell KB1.out 5).trans rfl
 have c1_6 : V8.cell? ⟨V1.heap.size, 6, none⟩ = some (.int .u64 0) := (blk_cell KB1.out 6).trans rfl
 have c1_7 : V8.cell? ⟨V1.heap.size, 7, none⟩ = some (.bool false) := (blk_cell KB1.out 7).trans rfl
 have c1_8 : V8.cell? ⟨V1.heap.size, 8, none⟩ = some (.int .u64 0) := (blk_cell KB1.out 8).trans rfl
 have c1_9 : V8.cell? ⟨V1.heap.size, 9, none⟩ = some (.bool false) := (blk_cell KB1.out 9).trans rfl
 have l1 := blk_lt KB1.out
 have c2_0 : V8.cell? ⟨V2.heap.size, 0, none⟩ = some (.int .u64 0) := (blk_cell KB2.out 0).trans rfl
 have c2_1 : V8.cell? ⟨V2.heap.size, 1, none⟩ = some (.bool false) := (blk_cell KB2.out 1).trans rfl
 have c2_2 : V8.cell? ⟨V2.heap.size, 2, none⟩ = some (.int .u64 0) := (blk_cell KB2.out 2).trans rfl
 have c2_3 : V8.cell? ⟨V2.heap.size, 3, none⟩ = some (.bool false) := (blk_cell KB2.out 3).trans rfl
 have c2_4 : V8.cell? ⟨V2.heap.size, 4, none⟩ = some (.int .u64 0) := (blk_cell KB2.out 4).trans rfl
 have c2_5 : V8.cell? ⟨V2.heap.size, 5, none⟩ = some (.bool false) := (blk_cell KB2.out 5).trans rfl
 have c2_6 : V8.cell? ⟨V2.heap.size, 6, none⟩ = some (.int .u64 0) := (blk_cell KB2.out 6).trans rfl
 have c2_7 : V8.cell? ⟨V2.heap.size, 7, none⟩ = some (.bool false) := (blk_cell KB2.out 7).trans rfl
 have c2_8 : V8.cell? ⟨V2.heap.size, 8, none⟩ = some (.int .u64 0) := (blk_cell KB2.out 8).trans rfl
 have c2_9 : V8.cell? ⟨V2.heap.size, 9, none⟩ = some (.bool false) := (blk_cell KB2.out 9).trans rfl
 have l2 := blk_lt KB2.out
 have c3_0 : V8.cell? ⟨V3.heap.size, 0, none⟩ = some (.int .u64 62) := (blk_cell KB3.out 0).trans rfl
 have c3_1 : V8.cell? ⟨V3.heap.size, 1, none⟩ = some (.bool false) := (blk_cell KB3.out 1).trans rfl
 have l3 := blk_lt KB3.out
 have c4_0 : V8.cell? ⟨V4.heap.size, 0, none⟩ = some (.int .u64 4) := (blk_cell KB4.out 0).trans rfl
 have c4_1 : V8.cell? ⟨V4.heap.size, 1, none⟩ = some (.bool false) := (blk_cell KB4.out 1).trans rfl
 have c4_2 : V8.cell? ⟨V4.heap.size, 2, none⟩ = some (.int .u64 4096) := (blk_cell KB4.out 2).trans rfl
 have c4_3 : V8.cell? ⟨V4.heap.size, 3, none⟩ = some (.bool false) := (blk_cell KB4.out 3).trans rfl
 have c4_4 : V8.cell? ⟨V4.heap.size, 4, none⟩ = some (.int .u64 4294967294) := (blk_cell KB4.out 4).trans rfl
 have c4_5 : V8.cell? ⟨V4.heap.size, 5, none⟩ = some (.bool true) := (blk_cell KB4.out 5).trans rfl
 have c4_6 : V8.cell? ⟨V4.heap.size, 6, none⟩ = some (.int .u64 8190) := (blk_cell KB4.out 6).trans rfl
 have c4_7 : V8.cell? ⟨V4.heap.size, 7, none⟩ = some (.bool true) := (blk_cell KB4.out 7).trans rfl
 have c4_8 : V8.cell? ⟨V4.heap.size, 8, none⟩ = some (.int .u64 62) := (blk_cell KB4.out 8).trans rfl
 have c4_9 : V8.cell? ⟨V4.heap.size, 9, none⟩ = some (.bool false) := (blk_cell KB4.out 9).trans rfl
 have l4 := blk_lt KB4.out
 have c5_0 : V8.cell? ⟨V6.heap.size, 0, none⟩ = some (.int .u64 1152921504606846975) := (blk_cell KB5.out 0).trans rfl
 have c5_1 : V8.cell? ⟨V6.heap.size, 1, none⟩ = some (.bool true) := (blk_cell KB5.out 1).trans rfl
 have c5_2 : V8.cell? ⟨V6.heap.size, 2, none⟩ = some (.int .u64 16777215) := (blk_cell KB5.out 2).trans rfl
 have c5_3 : V8.cell? ⟨V6.heap.size, 3, none⟩ = some (.bool true) := (blk_cell KB5.out 3).trans rfl
 have c5_4 : V8.cell? ⟨V6.heap.size, 4, none⟩ = some (.int .u64 4294967294) := (blk_cell KB5.out 4).trans rfl
 have c5_5 : V8.cell? ⟨V6.heap.size, 5, none⟩ = some (.bool true) := (blk_cell KB5.out 5).trans rfl
 have c5_6 : V8.cell? ⟨V6.heap.size, 6, none⟩ = some (.int .u64 8190) := (blk_cell KB5.out 6).trans rfl
 have c5_7 : V8.cell? ⟨V6.heap.size, 7, none⟩ = some (.bool true) := (blk_cell KB5.out 7).trans rfl
 have c5_8 : V8.cell? ⟨V6.heap.size, 8, none⟩ = some (.int .u64 127) := (blk_cell KB5.out 8).trans rfl
 have c5_9 : V8.cell? ⟨V6.heap.size, 9, none⟩ = some (.bool true) := (blk_cell KB5.out 9).trans rfl
 have l5 := blk_lt KB5.out
 go_wp2_with fail
 go_ret
 exact ⟨rfl, HB.out⟩

/-! ### complineref17_blank: function 37 -/
def complineref17_blank.f (a0 : Int) : Option (Bool) := if a0 = 32 then (some true) else (some (a0 == 9))
set_option maxHeartbeats 8000000 in
set_option maxRecDepth 100000 in
theorem complineref17_blank.calls (a0 : Int) (r : Bool) (w : World) (h : complineref17_blank.f a0 = some r) :
  Calls Tryz.prog 37 #[.int .u8 a0] w fun e w' => e = .returned (.bool r) ∧ Drawn0 w w' := by
 have H : (if a0 = 32 then (some true) else (some (a0 == 9))) = some r := h
 clear h
 by_cases c2 : a0 = 32
 ·rw [if_pos c2] at H
  have c2b0 : (a0 == 32) = true := beq_iff_eq.mpr c2
  have c2b1 : (a0 != 32) = false := bne_eq_false_iff_eq.mpr c2
  clear c2
  obtain rfl := Option.some.inj H
  go_enter Tryz.func37, Tryz.ntmps37
  go_wp2
  go_ret
  exact ⟨by first | rfl | (simp; done) | (simp [*]; done), by repeat (first | exact Drawn0.refl _ | apply Drawn0.step)⟩
 ·rw [if_neg c2] at H
  have c2b0 : (a0 == 32) = false := beq_eq_false_iff_ne.mpr c2
  have c2b1 : (a0 != 32) = true := bne_iff_ne.mpr c2
  obtain rfl := Option.some.inj H
  go_enter Tryz.func37, Tryz.ntmps37
  go_wp2
  go_ret
  exact ⟨by first | rfl | (simp; done) | (simp [*]; done), by repeat (first | exact Drawn0.refl _ | apply Drawn0.step)⟩

/-! ### complineref17_digit: function 38 -/
def complineref17_digit.f (a0 : Int) : Option (Bool) := if a0 ≥ 48 then (some (decide (a0 ≤ 57))) else (some false)
set_option maxHeartbeats 8000000 in
set_option maxRecDepth 100000 in
theorem complineref17_digit.calls (a0 : Int) (r : Bool) (w : World) (h : complineref17_digit.f a0 = some r) :
  Calls Tryz.prog 38 #[.int .u8 a0] w fun e w' => e = .returned (.bool r) ∧ Drawn0 w w' := by
 have H : (if a0 ≥ 48 then (some (decide (a0 ≤ 57))) else (some false)) = some r := h
 clear h
 by_cases c2 : a0 ≥ 48
 ·rw [if_pos c2] at H
  have c2b0 : decide (48 ≤ a0) = true := decide_eq_true c2
  clear c2
  obtain rfl := Option.some.inj H
  go_enter Tryz.func38, Tryz.ntmps38
  go_wp2
  go_ret
  exact ⟨by first | rfl | (simp; done) | (simp [*]; done), by repeat (first | exact Drawn0.refl _ | apply Drawn0.step)⟩
 ·rw [if_neg c2] at H
  have c2b0 : decide (48 ≤ a0) = false := decide_eq_false c2
  clear c2
  obtain rfl := Option.some.inj H
  go_enter Tryz.func38, Tryz.ntmps38
  go_wp2
  go_ret
  exact ⟨by first | rfl | (simp; done) | (simp [*]; done), by repeat (first | exact Drawn0.refl _ | apply Drawn0.step)⟩

/-! ### complineref17_letter: function 39 -/
def complineref17_letter.f (a0 : Int) : Option (Bool) := if a0 ≥ 97 then (if a0 ≤ 122 then (some true) else (if a0 ≥ 65 then (some (decide (a0 ≤ 90))) else (some false))) else (if a0 ≥ 65 then (some (decide (a0 ≤ 90))) else (some false))
set_option maxHeartbeats 8000000 in
set_option maxRecDepth 100000 in
theorem complineref17_letter.calls (a0 : Int) (r : Bool) (w : World) (h : complineref17_letter.f a0 = some r) :
  Calls Tryz.prog 39 #[.int .u8 a0] w fun e w' => e = .returned (.bool r) ∧ Drawn0 w w' := by
 have H : (if a0 ≥ 97 then (if a0 ≤ 122 then (some true) else (if a0 ≥ 65 then (some (decide (a0 ≤ 90))) else (some false))) else (if a0 ≥ 65 then (some (decide (a0 ≤ 90))) else (some false))) = some r := h
 clear h
 by_cases c2 : a0 ≥ 97
 ·rw [if_pos c2] at H
  have c2b0 : decide (97 ≤ a0) = true := decide_eq_true c2
  clear c2
  by_cases c3 : a0 ≤ 122
  ·rw [if_pos c3] at H
   have c3b0 : decide (a0 ≤ 122) = true := decide_eq_true c3
   clear c3
   obtain rfl := Option.some.inj H
   go_enter Tryz.func39, Tryz.ntmps39
   go_wp2
   go_ret
   exact ⟨by first | rfl | (simp; done) | (simp [*]; done), by repeat (first | exact Drawn0.refl _ | apply Drawn0.step)⟩
  ·rw [if_neg c3] at H
   have c3b0 : decide (a0 ≤ 122) = false := decide_eq_false c3
   clear c3
   by_cases c4 : a0 ≥ 65
   ·rw [if_pos c4] at H
    have c4b0 : decide (65 ≤ a0) = true := decide_eq_true c4
    clear c4
    obtain rfl := Option.some.inj H
    go_enter Tryz.func39, Tryz.ntmps39
    go_wp2
    go_ret
    exact ⟨by first | rfl | (simp; done) | (simp [*]; done), by repeat (first | exact Drawn0.refl _ | apply Drawn0.step)⟩
   ·rw [if_neg c4] at H
    have c4b0 : decide (65 ≤ a0) = false := decide_eq_false c4
    clear c4
    obtain rfl := Option.some.inj H
    go_enter Tryz.func39, Tryz.ntmps39
    go_wp2
    go_ret
    exact ⟨by first | rfl | (simp; done) | (simp [*]; done), by repeat (first | exact Drawn0.refl _ | apply Drawn0.step)⟩
 ·rw [if_neg c2] at H
  have c2b0 : decide (97 ≤ a0) = false := decide_eq_false c2
  clear c2
  by_cases c5 : a0 ≥ 65
  ·rw [if_pos c5] at H
   have c5b0 : decide (65 ≤ a0) = true := decide_eq_true c5
   clear c5
   obtain rfl := Option.some.inj H
   go_enter Tryz.func39, Tryz.ntmps39
   go_wp2
   go_ret
   exact ⟨by first | rfl | (simp; done) | (simp [*]; done), by repeat (first | exact Drawn0.refl _ | apply Drawn0.step)⟩
  ·rw [if_neg c5] at H
   have c5b0 : decide (65 ≤ a0) = false := decide_eq_false c5
   clear c5
   obtain rfl := Option.some.inj H
   go_enter Tryz.func39, Tryz.ntmps39
   go_wp2
   go_ret
   exact ⟨by first | rfl | (simp; done) | (simp [*]; done), by repeat (first | exact Drawn0.refl _ | apply Drawn0.step)⟩

end Go.Proofs.YtjddfpciblhpaaaGreatDoor.PSpp
