-- Written by a program of this session (gprint.py) over the kit's print.
import Derived.Test.YtcjfjicagopppaaGreatDoorPDayx0
import Derived.Test.YtcjfjicagopppaaGreatDoorPDayx4
import Derived.Test.YtcjfjicagopppaaGreatDoorPDayx5
import Derived.Test.YtcjfjicagopppaaGreatDoorPDayx8
namespace Go.Proofs.YtcjfjicagopppaaGreatDoor.PDay
open Go.RowKit Go.Proofs.YtcjfjicagopppaaGreatDoorW.PrintWords Go.Proofs.YtcjfjicagopppaaGreatDoorW.PrintLast Go.Proofs.YtcjfjicagopppaaGreatDoorW.PrintMore
attribute [local go_sem] max2_int min2_int max_two min_two max_three min_three max_four min_four   -- for this text's walks alone
set_option linter.unusedVariables false
set_option linter.unusedSimpArgs false

/-! ### complinelaw21_works: function 9 -/
def complinelaw21_works.f  : Option (Bool) := some true
set_option maxHeartbeats 8000000 in
set_option maxRecDepth 100000 in
theorem complinelaw21_works.calls  (r : Bool) (w : World) (hT : Tab w) (h : complinelaw21_works.f  = some r) :
  Calls Tryz.prog 9 #[] w fun e w' => e = .returned (.bool r) ∧ Below w.heap.size w w' := by
 have HB := Aside0.mk (Below.refl w.heap.size w)
 obtain rfl : r = true := (Option.some.inj h).symm
 clear h
 have HB : Below w.heap.size w w := Below.refl _ _
 go_enter Tryz.func9, Tryz.ntmps9
 go_wp2_with fail
 -- spec.Parse: 0 12 13 * 5
 refine Spc.gen (fun W => Below w.heap.size w W) HB ?_
 clear HB
 rintro W0 HB0
 refine (spec_Parse.calls ⟨#[48, 32, 49, 50, 32, 49, 51, 32, 42, 32, 53]⟩ 1 false 4096 false 8192 false 8190 true 32 false 0 0 _ (hT.keep HB0) (by kernel_rfl)).mono ?_
 rintro e V0 ⟨rfl, hb⟩
 have HB := below_step HB0 hb
 clear hb HB0 
 replace HB := Aside0.mk HB
 go_wp2_with fail
 have HA := below_alloc HB.out (.cells #[.int .u64 1, .bool false, .int .u64 4096, .bool false, .int .u64 8192, .bool false, .int .u64 8190, .bool true, .int .u64 32, .bool false] 26)
 have KA0 := blk_new V0 (.cells #[.int .u64 1, .bool false, .int .u64 4096, .bool false, .int .u64 8192, .bool false, .int .u64 8190, .bool true, .int .u64 32, .bool false] 26)
 clear HB 
 have HB := HA
 -- spec.Parse: 0 12 13 * *
 refine Spc.gen (fun W => Below w.heap.size w W ∧ W.heap[V0.heap.size]? = some (.cells #[.int .u64 1, .bool false, .int .u64 4096, .bool false, .int .u64 8192, .bool false, .int .u64 8190, .bool true, .int .u64 32, .bool false] 26 (0, 0))) ⟨HA, KA0⟩ ?_
 clear HB HA KA0
 rintro W1 ⟨HB1, K1_0⟩
 refine (spec_Parse.calls ⟨#[48, 32, 49, 50, 32, 49, 51, 32, 42, 32, 42]⟩ 1 false 4096 false 8192 false 8190 true 127 true 0 0 _ (hT.keep HB1) (by kernel_rfl)).mono ?_
 rintro e V1 ⟨rfl, hb⟩
 have HB := below_step HB1 hb
 have KB0 := blk_below K1_0 hb
 clear hb HB1 K1_0
 replace HB := Aside0.mk HB
 replace KB0 := Aside0.mk KB0
 go_wp2_with fail
 have HA := below_alloc HB.out (.cells #[.int .u64 1, .bool false, .int .u64 4096, .bool false, .int .u64 8192, .bool false, .int .u64 8190, .bool true, .int .u64 127, .bool true] 26)
 have KA0 := blk_alloc KB0.out (.cells #[.int .u64 1, .bool false, .int .u64 4096, .bool false, .int .u64 8192, .bool false, .int .u64 8190, .bool true, .int .u64 127, .bool true] 26)
 have KA1 := blk_new V1 (.cells #[.int .u64 1, .bool false, .int .u64 4096, .bool false, .int .u64 8192, .bool false, .int .u64 8190, .bool true, .int .u64 127, .bool true] 26)
 clear HB KB0
 have HB := HA
 -- spec.Parse: 0 12 * * 5
 refine Spc.gen (fun W => Below w.heap.size w W ∧ W.heap[V0.heap.size]? = some (.cells #[.int .u64 1, .bool false, .int .u64 4096, .bool false, .int .u64 8192, .bool false, .int .u64 8190, .bool true, .int .u64 32, .bool false] 26 (0, 0)) ∧ W.heap[V1.heap.size]? = some (.cells #[.int .u64 1, .bool false, .int .u64 4096, .bool false, .int .u64 8192, .bool false, .int .u64 8190, .bool true, .int .u64 127, .bool true] 26 (0, 0))) ⟨HA, KA0, KA1⟩ ?_
 clear HB HA KA0 KA1
 rintro W2 ⟨HB2, K2_0, K2_1⟩
 refine (spec_Parse.calls ⟨#[48, 32, 49, 50, 32, 42, 32, 42, 32, 53]⟩ 1 false 4096 false 4294967294 true 8190 true 32 false 0 0 _ (hT.keep HB2) (by kernel_rfl)).mono ?_
 rintro e V2 ⟨rfl, hb⟩
 have HB := below_step HB2 hb
 have KB0 := blk_below K2_0 hb
 have KB1 := blk_below K2_1 hb
 clear hb HB2 K2_0 K2_1
 replace HB := Aside0.mk HB
 replace KB0 := Aside0.mk KB0
 replace KB1 := Aside0.mk KB1
 have c0_0 : V2.cell? ⟨V0.heap.size, 0, none⟩ = some (.int .u64 1) := (blk_cell KB0.out 0).trans rfl
 have c0_1 : V2.cell? ⟨V0.heap.size, 1, none⟩ = some (.bool false) := (blk_cell KB0.out 1).trans rfl
 have c0_2 : V2.cell? ⟨V0.heap.size, 2, none⟩ = some (.int .u64 4096) := (blk_cell KB0.out 2).trans rfl
 have c0_3 : V2.cell? ⟨V0.heap.size, 3, none⟩ = some (.bool false) := (blk_cell KB0.out 3).trans rfl
 have c0_4 : V2.cell? ⟨V0.heap.size, 4, none⟩ = some (.int .u64 8192) := (blk_cell KB0.out 4).trans rfl
 have c0_5 : V2.cell? ⟨V0.heap.size, 5, none⟩ = some (.bool false) := (blk_cell KB0.out 5).trans rfl
 have c0_6 : V2.cell? ⟨V0.heap.size, 6, none⟩ = some (.int .u64 8190) := (blk_cell KB0.out 6).trans rfl
 have c0_7 : V2.cell? ⟨V0.heap.size, 7, none⟩ = some (.bool true) := (blk_cell KB0.out 7).trans rfl
 have c0_8 : V2.cell? ⟨V0.heap.size, 8, none⟩ = some (.int .u64 32) := (blk_cell KB0.out 8).trans rfl
 have c0_9 : V2.cell? ⟨V0.heap.size, 9, none⟩ = some (.bool false) := (blk_cell KB0.out 9).trans rfl
 have l0 := blk_lt KB0.out
 have c1_0 : V2.cell? ⟨V1.heap.size, 0, none⟩ = some (.int .u64 1) := (blk_cell KB1.out 0).trans rfl
 have c1_1 : V2.cell? ⟨V1.heap.size, 1, none⟩ = some (.bool false) := (blk_cell KB1.out 1).trans rfl
 have c1_2 : V2.cell? ⟨V1.heap.size, 2, none⟩ = some (.int .u64 4096) := (blk_cell KB1.out 2).trans rfl
 have c1_3 : V2.cell? ⟨V1.heap.size, 3, none⟩ = some (.bool false) := (blk_cell KB1.out 3).trans rfl
 have c1_4 : V2.cell? ⟨V1.heap.size, 4, none⟩ = some (.int .u64 8192) := (blk_cell KB1.out 4).trans rfl
 have c1_5 : V2.cell? ⟨V1.heap.size, 5, none⟩ = some (.bool false) := (blk_cell KB1.out 5).trans rfl
 have c1_6 : V2.cell? ⟨V1.heap.size, 6, none⟩ = some (.int .u64 8190) := (blk_cell KB1.out 6).trans rfl
 have c1_7 : V2.cell? ⟨V1.heap.size, 7, none⟩ = some (.bool true) := (blk_cell KB1.out 7).trans rfl
 have c1_8 : V2.cell? ⟨V1.heap.size, 8, none⟩ = some (.int .u64 127) := (blk_cell KB1.out 8).trans rfl
 have c1_9 : V2.cell? ⟨V1.heap.size, 9, none⟩ = some (.bool true) := (blk_cell KB1.out 9).trans rfl
 have l1 := blk_lt KB1.out
 go_wp2_with fail
 clear c0_0 c0_1 c0_2 c0_3 c0_4 c0_5 c0_6 c0_7 c0_8 c0_9 l0 c1_0 c1_1 c1_2 c1_3 c1_4 c1_5 c1_6 c1_7 c1_8 c1_9 l1
 have HA := below_alloc HB.out (.cells #[.int .u64 1, .bool false, .int .u64 4096, .bool false, .int .u64 4294967294, .bool true, .int .u64 8190, .bool true, .int .u64 32, .bool false] 26)
 have KA0 := blk_alloc KB0.out (.cells #[.int .u64 1, .bool false, .int .u64 4096, .bool false, .int .u64 4294967294, .bool true, .int .u64 8190, .bool true, .int .u64 32, .bool false] 26)
 have KA1 := blk_alloc KB1.out (.cells #[.int .u64 1, .bool false, .int .u64 4096, .bool false, .int .u64 4294967294, .bool true, .int .u64 8190, .bool true, .int .u64 32, .bool false] 26)
 have KA2 := blk_new V2 (.cells #[.int .u64 1, .bool false, .int .u64 4096, .bool false, .int .u64 4294967294, .bool true, .int .u64 8190, .bool true, .int .u64 32, .bool false] 26)
 clear HB KB0 KB1
 have HB := HA
 refine Spc.gen (fun W => Below w.heap.size w W ∧ W.heap[V0.heap.size]? = some (.cells #[.int .u64 1, .bool false, .int .u64 4096, .bool false, .int .u64 8192, .bool false, .int .u64 8190, .bool true, .int .u64 32, .bool false] 26 (0, 0)) ∧ W.heap[V1.heap.size]? = some (.cells #[.int .u64 1, .bool false, .int .u64 4096, .bool false, .int .u64 8192, .bool false, .int .u64 8190, .bool true, .int .u64 127, .bool true] 26 (0, 0)) ∧ W.heap[V2.heap.size]? = some (.cells #[.int .u64 1, .bool false, .int .u64 4096, .bool false, .int .u64 4294967294, .bool true, .int .u64 8190, .bool true, .int .u64 32, .bool false] 26 (0, 0))) ⟨HA, KA0, KA1, KA2⟩ ?_
 clear HB HA KA0 KA1 KA2
 rintro W3 ⟨HB3, K3_0, K3_1, K3_2⟩
 refine (day_Mask.calls 1 false 4096 false 8192 false 8190 true 32 false 2026 11 135274560 0 _ (by kernel_rfl)).mono ?_
 rintro e V3 ⟨rfl, hb⟩
 have HB := below_step HB3 hb
 have KB0 := blk_below K3_0 hb
 have KB1 := blk_below K3_1 hb
 have KB2 := blk_below K3_2 hb
 clear hb HB3 K3_0 K3_1 K3_2
 replace HB := Aside0.mk HB
 replace KB0 := Aside0.mk KB0
 replace KB1 := Aside0.mk KB1
 replace KB2 := Aside0.mk KB2
 have c0_0 : V3.cell? ⟨V0.heap.size, 0, none⟩ = some (.int .u64 1) := (blk_cell KB0.out 0).trans rfl
 have c0_1 : V3.cell? ⟨V0.heap.size, 1, none⟩ = some (.bool false) := (blk_cell KB0.out 1).trans rfl
 have c0_2 : V3.cell? ⟨V0.heap.size, 2, none⟩ = some (.int .u64 4096) := (blk_cell KB0.out 2).trans rfl
 have c0_3 : V3.cell? ⟨V0.heap.size, 3, none⟩ = some (.bool false) := (blk_cell KB0.out 3).trans rfl
 have c0_4 : V3.cell? ⟨V0.heap.size, 4, none⟩ = some (.int .u64 8192) := (blk_cell KB0.out 4).trans rfl
 have c0_5 : V3.cell? ⟨V0.heap.size, 5, none⟩ = some (.bool false) := (blk_cell KB0.out 5).trans rfl
 have c0_6 : V3.cell? ⟨V0.heap.size, 6, none⟩ = some (.int .u64 8190) := (blk_cell KB0.out 6).trans rfl
 have c0_7 : V3.cell? ⟨V0.heap.size, 7, none⟩ = some (.bool true) := (blk_cell KB0.out 7).trans rfl
 have c0_8 : V3.cell? ⟨V0.heap.size, 8, none⟩ = some (.int .u64 32) := (blk_cell KB0.out 8).trans rfl
 have c0_9 : V3.cell? ⟨V0.heap.size, 9, none⟩ = some (.bool false) := (blk_cell KB0.out 9).trans rfl
 have l0 := blk_lt KB0.out
 have c1_0 : V3.cell? ⟨V1.heap.size, 0, none⟩ = some (.int .u64 1) := (blk_cell KB1.out 0).trans rfl
 have c1_1 : V3.cell? ⟨V1.heap.size, 1, none⟩ = some (.bool false) := (blk_cell KB1.out 1).trans rfl
 have c1_2 : V3.cell? ⟨V1.heap.size, 2, none⟩ = some (.int .u64 4096) := (blk_cell KB1.out 2).trans rfl
 have c1_3 : V3.cell? ⟨V1.heap.size, 3, none⟩ = some (.bool false) := (blk_cell KB1.out 3).trans rfl
 have c1_4 : V3.cell? ⟨V1.heap.size, 4, none⟩ = some (.int .u64 8192) := (blk_cell KB1.out 4).trans rfl
 have c1_5 : V3.cell? ⟨V1.heap.size, 5, none⟩ = some (.bool false) := (blk_cell KB1.out 5).trans rfl
 have c1_6 : V3.cell? ⟨V1.heap.size, 6, none⟩ = some (.int .u64 8190) := (blk_cell KB1.out 6).trans rfl
 have c1_7 : V3.cell? ⟨V1.heap.size, 7, none⟩ = some (.bool true) := (blk_cell KB1.out 7).trans rfl
 have c1_8 : V3.cell? ⟨V1.heap.size, 8, none⟩ = some (.int .u64 127) := (blk_cell KB1.out 8).trans rfl
 have c1_9 : V3.cell? ⟨V1.heap.size, 9, none⟩ = some (.bool true) := (blk_cell KB1.out 9).trans rfl
 have l1 := blk_lt KB1.out
 have c2_0 : V3.cell? ⟨V2.heap.size, 0, none⟩ = some (.int .u64 1) := (blk_cell KB2.out 0).trans rfl
 have c2_1 : V3.cell? ⟨V2.heap.size, 1, none⟩ = some (.bool false) := (blk_cell KB2.out 1).trans rfl
 have c2_2 : V3.cell? ⟨V2.heap.size, 2, none⟩ = some (.int .u64 4096) := (blk_cell KB2.out 2).trans rfl
 have c2_3 : V3.cell? ⟨V2.heap.size, 3, none⟩ = some (.bool false) := (blk_cell KB2.out 3).trans rfl
 have c2_4 : V3.cell? ⟨V2.heap.size, 4, none⟩ = some (.int .u64 4294967294) := (blk_cell KB2.out 4).trans rfl
 have c2_5 : V3.cell? ⟨V2.heap.size, 5, none⟩ = some (.bool true) := (blk_cell KB2.out 5).trans rfl
 have c2_6 : V3.cell? ⟨V2.heap.size, 6, none⟩ = some (.int .u64 8190) := (blk_cell KB2.out 6).trans rfl
 have c2_7 : V3.cell? ⟨V2.heap.size, 7, none⟩ = some (.bool true) := (blk_cell KB2.out 7).trans rfl
 have c2_8 : V3.cell? ⟨V2.heap.size, 8, none⟩ = some (.int .u64 32) := (blk_cell KB2.out 8).trans rfl
 have c2_9 : V3.cell? ⟨V2.heap.size, 9, none⟩ = some (.bool false) := (blk_cell KB2.out 9).trans rfl
 have l2 := blk_lt KB2.out
 go_wp2_with fail
 clear c0_0 c0_1 c0_2 c0_3 c0_4 c0_5 c0_6 c0_7 c0_8 c0_9 l0 c1_0 c1_1 c1_2 c1_3 c1_4 c1_5 c1_6 c1_7 c1_8 c1_9 l1 c2_0 c2_1 c2_2 c2_3 c2_4 c2_5 c2_6 c2_7 c2_8 c2_9 l2
 have HA := HB.out
 have KA0 := KB0.out
 have KA1 := KB1.out
 have KA2 := KB2.out
 clear HB KB0 KB1 KB2
 have HB := HA
 refine Spc.gen (fun W => Below w.heap.size w W ∧ W.heap[V0.heap.size]? = some (.cells #[.int .u64 1, .bool false, .int .u64 4096, .bool false, .int .u64 8192, .bool false, .int .u64 8190, .bool true, .int .u64 32, .bool false] 26 (0, 0)) ∧ W.heap[V1.heap.size]? = some (.cells #[.int .u64 1, .bool false, .int .u64 4096, .bool false, .int .u64 8192, .bool false, .int .u64 8190, .bool true, .int .u64 127, .bool true] 26 (0, 0)) ∧ W.heap[V2.heap.size]? = some (.cells #[.int .u64 1, .bool false, .int .u64 4096, .bool false, .int .u64 4294967294, .bool true, .int .u64 8190, .bool true, .int .u64 32, .bool false] 26 (0, 0))) ⟨HA, KA0, KA1, KA2⟩ ?_
 clear HB HA KA0 KA1 KA2
 rintro W4 ⟨HB4, K4_0, K4_1, K4_2⟩
 refine (day_Mask.calls 1 false 4096 false 8192 false 8190 true 127 true 2026 11 8192 0 _ (by kernel_rfl)).mono ?_
 rintro e V4 ⟨rfl, hb⟩
 have HB := below_step HB4 hb
 have KB0 := blk_below K4_0 hb
 have KB1 := blk_below K4_1 hb
 have KB2 := blk_below K4_2 hb
 clear hb HB4 K4_0 K4_1 K4_2
 replace HB := Aside0.mk HB
 replace KB0 := Aside0.mk KB0
 replace KB1 := Aside0.mk KB1
 replace KB2 := Aside0.mk KB2
 have c0_0 : V4.cell? ⟨V0.heap.size, 0, none⟩ = some (.int .u64 1) := (blk_cell KB0.out 0).trans rfl
 have c0_1 : V4.cell? ⟨V0.heap.size, 1, none⟩ = some (.bool false) := (blk_cell KB0.out 1).trans rfl
 have c0_2 : V4.cell? ⟨V0.heap.size, 2, none⟩ = some (.int .u64 4096) := (blk_cell KB0.out 2).trans rfl
 have c0_3 : V4.cell? ⟨V0.heap.size, 3, none⟩ = some (.bool false) := (blk_cell KB0.out 3).trans rfl
 have c0_4 : V4.cell? ⟨V0.heap.size, 4, none⟩ = some (.int .u64 8192) := (blk_cell KB0.out 4).trans rfl
 have c0_5 : V4.cell? ⟨V0.heap.size, 5, none⟩ = some (.bool false) := (blk_cell KB0.out 5).trans rfl
 have c0_6 : V4.cell? ⟨V0.heap.size, 6, none⟩ = some (.int .u64 8190) := (blk_cell KB0.out 6).trans rfl
 have c0_7 : V4.cell? ⟨V0.heap.size, 7, none⟩ = some (.bool true) := (blk_cell KB0.out 7).trans rfl
 have c0_8 : V4.cell? ⟨V0.heap.size, 8, none⟩ = some (.int .u64 32) := (blk_cell KB0.out 8).trans rfl
 have c0_9 : V4.cell? ⟨V0.heap.size, 9, none⟩ = some (.bool false) := (blk_cell KB0.out 9).trans rfl
 have l0 := blk_lt KB0.out
 have c1_0 : V4.cell? ⟨V1.heap.size, 0, none⟩ = some (.int .u64 1) := (blk_cell KB1.out 0).trans rfl
 have c1_1 : V4.cell? ⟨V1.heap.size, 1, none⟩ = some (.bool false) := (blk_cell KB1.out 1).trans rfl
 have c1_2 : V4.cell? ⟨V1.heap.size, 2, none⟩ = some (.int .u64 4096) := (blk_cell KB1.out 2).trans rfl
 have c1_3 : V4.cell? ⟨V1.heap.size, 3, none⟩ = some (.bool false) := (blk_cell KB1.out 3).trans rfl
 have c1_4 : V4.cell? ⟨V1.heap.size, 4, none⟩ = some (.int .u64 8192) := (blk_cell KB1.out 4).trans rfl
 have c1_5 : V4.cell? ⟨V1.heap.size, 5, none⟩ = some (.bool false) := (blk_cell KB1.out 5).trans rfl
 have c1_6 : V4.cell? ⟨V1.heap.size, 6, none⟩ = some (.int .u64 8190) := (blk_cell KB1.out 6).trans rfl
 have c1_7 : V4.cell? ⟨V1.heap.size, 7, none⟩ = some (.bool true) := (blk_cell KB1.out 7).trans rfl
 have c1_8 : V4.cell? ⟨V1.heap.size, 8, none⟩ = some (.int .u64 127) := (blk_cell KB1.out 8).trans rfl
 have c1_9 : V4.cell? ⟨V1.heap.size, 9, none⟩ = some (.bool true) := (blk_cell KB1.out 9).trans rfl
 have l1 := blk_lt KB1.out
 have c2_0 : V4.cell? ⟨V2.heap.size, 0, none⟩ = some (.int .u64 1) := (blk_cell KB2.out 0).trans rfl
 have c2_1 : V4.cell? ⟨V2.heap.size, 1, none⟩ = some (.bool false) := (blk_cell KB2.out 1).trans rfl
 have c2_2 : V4.cell? ⟨V2.heap.size, 2, none⟩ = some (.int .u64 4096) := (blk_cell KB2.out 2).trans rfl
 have c2_3 : V4.cell? ⟨V2.heap.size, 3, none⟩ = some (.bool false) := (blk_cell KB2.out 3).trans rfl
 have c2_4 : V4.cell? ⟨V2.heap.size, 4, none⟩ = some (.int .u64 4294967294) := (blk_cell KB2.out 4).trans rfl
 have c2_5 : V4.cell? ⟨V2.heap.size, 5, none⟩ = some (.bool true) := (blk_cell KB2.out 5).trans rfl
 have c2_6 : V4.cell? ⟨V2.heap.size, 6, none⟩ = some (.int .u64 8190) := (blk_cell KB2.out 6).trans rfl
 have c2_7 : V4.cell? ⟨V2.heap.size, 7, none⟩ = some (.bool true) := (blk_cell KB2.out 7).trans rfl
 have c2_8 : V4.cell? ⟨V2.heap.size, 8, none⟩ = some (.int .u64 32) := (blk_cell KB2.out 8).trans rfl
 have c2_9 : V4.cell? ⟨V2.heap.size, 9, none⟩ = some (.bool false) := (blk_cell KB2.out 9).trans rfl
 have l2 := blk_lt KB2.out
 go_wp2_with fail
 clear c0_0 c0_1 c0_2 c0_3 c0_4 c0_5 c0_6 c0_7 c0_8 c0_9 l0 c1_0 c1_1 c1_2 c1_3 c1_4 c1_5 c1_6 c1_7 c1_8 c1_9 l1 c2_0 c2_1 c2_2 c2_3 c2_4 c2_5 c2_6 c2_7 c2_8 c2_9 l2
 have HA := HB.out
 have KA0 := KB0.out
 have KA1 := KB1.out
 have KA2 := KB2.out
 clear HB KB0 KB1 KB2
 have HB := HA
 refine Spc.gen (fun W => Below w.heap.size w W ∧ W.heap[V0.heap.size]? = some (.cells #[.int .u64 1, .bool false, .int .u64 4096, .bool false, .int .u64 8192, .bool false, .int .u64 8190, .bool true, .int .u64 32, .bool false] 26 (0, 0)) ∧ W.heap[V1.heap.size]? = some (.cells #[.int .u64 1, .bool false, .int .u64 4096, .bool false, .int .u64 8192, .bool false, .int .u64 8190, .bool true, .int .u64 127, .bool true] 26 (0, 0)) ∧ W.heap[V2.heap.size]? = some (.cells #[.int .u64 1, .bool false, .int .u64 4096, .bool false, .int .u64 4294967294, .bool true, .int .u64 8190, .bool true, .int .u64 32, .bool false] 26 (0, 0))) ⟨HA, KA0, KA1, KA2⟩ ?_
 clear HB HA KA0 KA1 KA2
 rintro W5 ⟨HB5, K5_0, K5_1, K5_2⟩
 refine (day_Mask.calls 1 false 4096 false 4294967294 true 8190 true 32 false 2026 11 135274560 0 _ (by kernel_rfl)).mono ?_
 rintro e V5 ⟨rfl, hb⟩
 have HB := below_step HB5 hb
 have KB0 := blk_below K5_0 hb
 have KB1 := blk_below K5_1 hb
 have KB2 := blk_below K5_2 hb
 clear hb HB5 K5_0 K5_1 K5_2
 replace HB := Aside0.mk HB
 replace KB0 := Aside0.mk KB0
 replace KB1 := Aside0.mk KB1
 replace KB2 := Aside0.mk KB2
 have c0_0 : V5.cell? ⟨V0.heap.size, 0, none⟩ = some (.int .u64 1) := (blk_cell KB0.out 0).trans rfl
 have c0_1 : V5.cell? ⟨V0.heap.size, 1, none⟩ = some (.bool false) := (blk_cell KB0.out 1).trans rfl
 have c0_2 : V5.cell? ⟨V0.heap.size, 2, none⟩ = some (.int .u64 4096) := (blk_cell KB0.out 2).trans rfl
 have c0_3 : V5.cell? ⟨V0.heap.size, 3, none⟩ = some (.bool false) := (blk_cell KB0.out 3).trans rfl
 have c0_4 : V5.cell? ⟨V0.heap.size, 4, none⟩ = some (.int .u64 8192) := (blk_cell KB0.out 4).trans rfl
 have c0_5 : V5.cell? ⟨V0.heap.size, 5, none⟩ = some (.bool false) := (blk_cell KB0.out 5).trans rfl
 have c0_6 : V5.cell? ⟨V0.heap.size, 6, none⟩ = some (.int .u64 8190) := (blk_cell KB0.out 6).trans rfl
 have c0_7 : V5.cell? ⟨V0.heap.size, 7, none⟩ = some (.bool true) := (blk_cell KB0.out 7).trans rfl
 have c0_8 : V5.cell? ⟨V0.heap.size, 8, none⟩ = some (.int .u64 32) := (blk_cell KB0.out 8).trans rfl
 have c0_9 : V5.cell? ⟨V0.heap.size, 9, none⟩ = some (.bool false) := (blk_cell KB0.out 9).trans rfl
 have l0 := blk_lt KB0.out
 have c1_0 : V5.cell? ⟨V1.heap.size, 0, none⟩ = some (.int .u64 1) := (blk_cell KB1.out 0).trans rfl
 have c1_1 : V5.cell? ⟨V1.heap.size, 1, none⟩ = some (.bool false) := (blk_cell KB1.out 1).trans rfl
 have c1_2 : V5.cell? ⟨V1.heap.size, 2, none⟩ = some (.int .u64 4096) := (blk_cell KB1.out 2).trans rfl
 have c1_3 : V5.cell? ⟨V1.heap.size, 3, none⟩ = some (.bool false) := (blk_cell KB1.out 3).trans rfl
 have c1_4 : V5.cell? ⟨V1.heap.size, 4, none⟩ = some (.int .u64 8192) := (blk_cell KB1.out 4).trans rfl
 have c1_5 : V5.cell? ⟨V1.heap.size, 5, none⟩ = some (.bool false) := (blk_cell KB1.out 5).trans rfl
 have c1_6 : V5.cell? ⟨V1.heap.size, 6, none⟩ = some (.int .u64 8190) := (blk_cell KB1.out 6).trans rfl
 have c1_7 : V5.cell? ⟨V1.heap.size, 7, none⟩ = some (.bool true) := (blk_cell KB1.out 7).trans rfl
 have c1_8 : V5.cell? ⟨V1.heap.size, 8, none⟩ = some (.int .u64 127) := (blk_cell KB1.out 8).trans rfl
 have c1_9 : V5.cell? ⟨V1.heap.size, 9, none⟩ = some (.bool true) := (blk_cell KB1.out 9).trans rfl
 have l1 := blk_lt KB1.out
 have c2_0 : V5.cell? ⟨V2.heap.size, 0, none⟩ = some (.int .u64 1) := (blk_cell KB2.out 0).trans rfl
 have c2_1 : V5.cell? ⟨V2.heap.size, 1, none⟩ = some (.bool false) := (blk_cell KB2.out 1).trans rfl
 have c2_2 : V5.cell? ⟨V2.heap.size, 2, none⟩ = some (.int .u64 4096) := (blk_cell KB2.out 2).trans rfl
 have c2_3 : V5.cell? ⟨V2.heap.size, 3, none⟩ = some (.bool false) := (blk_cell KB2.out 3).trans rfl
 have c2_4 : V5.cell? ⟨V2.heap.size, 4, none⟩ = some (.int .u64 4294967294) := (blk_cell KB2.out 4).trans rfl
 have c2_5 : V5.cell? ⟨V2.heap.size, 5, none⟩ = some (.bool true) := (blk_cell KB2.out 5).trans rfl
 have c2_6 : V5.cell? ⟨V2.heap.size, 6, none⟩ = some (.int .u64 8190) := (blk_cell KB2.out 6).trans rfl
 have c2_7 : V5.cell? ⟨V2.heap.size, 7, none⟩ = some (.bool true) := (blk_cell KB2.out 7).trans rfl
 have c2_8 : V5.cell? ⟨V2.heap.size, 8, none⟩ = some (.int .u64 32) := (blk_cell KB2.out 8).trans rfl
 have c2_9 : V5.cell? ⟨V2.heap.size, 9, none⟩ = some (.bool false) := (blk_cell KB2.out 9).trans rfl
 have l2 := blk_lt KB2.out
 go_wp2_with fail
 clear c0_0 c0_1 c0_2 c0_3 c0_4 c0_5 c0_6 c0_7 c0_8 c0_9 l0 c1_0 c1_1 c1_2 c1_3 c1_4 c1_5 c1_6 c1_7 c1_8 c1_9 l1 c2_0 c2_1 c2_2 c2_3 c2_4 c2_5 c2_6 c2_7 c2_8 c2_9 l2
 have HA := HB.out
 have KA0 := KB0.out
 have KA1 := KB1.out
 have KA2 := KB2.out
 clear HB KB0 KB1 KB2
 have HB := HA
 refine Spc.gen (fun W => Below w.heap.size w W ∧ W.heap[V0.heap.size]? = some (.cells #[.int .u64 1, .bool false, .int .u64 4096, .bool false, .int .u64 8192, .bool false, .int .u64 8190, .bool true, .int .u64 32, .bool false] 26 (0, 0)) ∧ W.heap[V1.heap.size]? = some (.cells #[.int .u64 1, .bool false, .int .u64 4096, .bool false, .int .u64 8192, .bool false, .int .u64 8190, .bool true, .int .u64 127, .bool true] 26 (0, 0)) ∧ W.heap[V2.heap.size]? = some (.cells #[.int .u64 1, .bool false, .int .u64 4096, .bool false, .int .u64 4294967294, .bool true, .int .u64 8190, .bool true, .int .u64 32, .bool false] 26 (0, 0))) ⟨HA, KA0, KA1, KA2⟩ ?_
 clear HB HA KA0 KA1 KA2
 rintro W6 ⟨HB6, K6_0, K6_1, K6_2⟩
 refine (day_Match.calls 1 false 4096 false 8192 false 8190 true 32 false 29913840 false 0 _ (by kernel_rfl)).mono ?_
 rintro e V6 ⟨rfl, hb⟩
 have HB := below_step HB6 hb
 have KB0 := blk_below K6_0 hb
 have KB1 := blk_below K6_1 hb
 have KB2 := blk_below K6_2 hb
 clear hb HB6 K6_0 K6_1 K6_2
 replace HB := Aside0.mk HB
 replace KB0 := Aside0.mk KB0
 replace KB1 := Aside0.mk KB1
 replace KB2 := Aside0.mk KB2
 have c0_0 : V6.cell? ⟨V0.heap.size, 0, none⟩ = some (.int .u64 1) := (blk_cell KB0.out 0).trans rfl
 have c0_1 : V6.cell? ⟨V0.heap.size, 1, none⟩ = some (.bool false) := (blk_cell KB0.out 1).trans rfl
 have c0_2 : V6.cell? ⟨V0.heap.size, 2, none⟩ = some (.int .u64 4096) := (blk_cell KB0.out 2).trans rfl
 have c0_3 : V6.cell? ⟨V0.heap.size, 3, none⟩ = some (.bool false) := (blk_cell KB0.out 3).trans rfl
 have c0_4 : V6.cell? ⟨V0.heap.size, 4, none⟩ = some (.int .u64 8192) := (blk_cell KB0.out 4).trans rfl
 have c0_5 : V6.cell? ⟨V0.heap.size, 5, none⟩ = some (.bool false) := (blk_cell KB0.out 5).trans rfl
 have c0_6 : V6.cell? ⟨V0.heap.size, 6, none⟩ = some (.int .u64 8190) := (blk_cell KB0.out 6).trans rfl
 have c0_7 : V6.cell? ⟨V0.heap.size, 7, none⟩ = some (.bool true) := (blk_cell KB0.out 7).trans rfl
 have c0_8 : V6.cell? ⟨V0.heap.size, 8, none⟩ = some (.int .u64 32) := (blk_cell KB0.out 8).trans rfl
 have c0_9 : V6.cell? ⟨V0.heap.size, 9, none⟩ = some (.bool false) := (blk_cell KB0.out 9).trans rfl
 have l0 := blk_lt KB0.out
 have c1_0 : V6.cell? ⟨V1.heap.size, 0, none⟩ = some (.int .u64 1) := (blk_cell KB1.out 0).trans rfl
 have c1_1 : V6.cell? ⟨V1.heap.size, 1, none⟩ = some (.bool false) := (blk_cell KB1.out 1).trans rfl
 have c1_2 : V6.cell? ⟨V1.heap.size, 2, none⟩ = some (.int .u64 4096) := (blk_cell KB1.out 2).trans rfl
 have c1_3 : V6.cell? ⟨V1.heap.size, 3, none⟩ = some (.bool false) := (blk_cell KB1.out 3).trans rfl
 have c1_4 : V6.cell? ⟨V1.heap.size, 4, none⟩ = some (.int .u64 8192) := (blk_cell KB1.out 4).trans rfl
 have c1_5 : V6.cell? ⟨V1.heap.size, 5, none⟩ = some (.bool false) := (blk_cell KB1.out 5).trans rfl
 have c1_6 : V6.cell? ⟨V1.heap.size, 6, none⟩ = some (.int .u64 8190) := (blk_cell KB1.out 6).trans rfl
 have c1_7 : V6.cell? ⟨V1.heap.size, 7, none⟩ = some (.bool true) := (blk_cell KB1.out 7).trans rfl
 have c1_8 : V6.cell? ⟨V1.heap.size, 8, none⟩ = some (.int .u64 127) := (blk_cell KB1.out 8).trans rfl
 have c1_9 : V6.cell? ⟨V1.heap.size, 9, none⟩ = some (.bool true) := (blk_cell KB1.out 9).trans rfl
 have l1 := blk_lt KB1.out
 have c2_0 : V6.cell? ⟨V2.heap.size, 0, none⟩ = some (.int .u64 1) := (blk_cell KB2.out 0).trans rfl
 have c2_1 : V6.cell? ⟨V2.heap.size, 1, none⟩ = some (.bool false) := (blk_cell KB2.out 1).trans rfl
 have c2_2 : V6.cell? ⟨V2.heap.size, 2, none⟩ = some (.int .u64 4096) := (blk_cell KB2.out 2).trans rfl
 have c2_3 : V6.cell? ⟨V2.heap.size, 3, none⟩ = some (.bool false) := (blk_cell KB2.out 3).trans rfl
 have c2_4 : V6.cell? ⟨V2.heap.size, 4, none⟩ = some (.int .u64 4294967294) := (blk_cell KB2.out 4).trans rfl
 have c2_5 : V6.cell? ⟨V2.heap.size, 5, none⟩ = some (.bool true) := (blk_cell KB2.out 5).trans rfl
 have c2_6 : V6.cell? ⟨V2.heap.size, 6, none⟩ = some (.int .u64 8190) := (blk_cell KB2.out 6).trans rfl
 have c2_7 : V6.cell? ⟨V2.heap.size, 7, none⟩ = some (.bool true) := (blk_cell KB2.out 7).trans rfl
 have c2_8 : V6.cell? ⟨V2.heap.size, 8, none⟩ = some (.int .u64 32) := (blk_cell KB2.out 8).trans rfl
 have c2_9 : V6.cell? ⟨V2.heap.size, 9, none⟩ = some (.bool false) := (blk_cell KB2.out 9).trans rfl
 have l2 := blk_lt KB2.out
 go_wp2_with fail
 clear c0_0 c0_1 c0_2 c0_3 c0_4 c0_5 c0_6 c0_7 c0_8 c0_9 l0 c1_0 c1_1 c1_2 c1_3 c1_4 c1_5 c1_6 c1_7 c1_8 c1_9 l1 c2_0 c2_1 c2_2 c2_3 c2_4 c2_5 c2_6 c2_7 c2_8 c2_9 l2
 have HA := HB.out
 have KA0 := KB0.out
 have KA1 := KB1.out
 have KA2 := KB2.out
 clear HB KB0 KB1 KB2
 have HB := HA
 refine Spc.gen (fun W => Below w.heap.size w W ∧ W.heap[V0.heap.size]? = some (.cells #[.int .u64 1, .bool false, .int .u64 4096, .bool false, .int .u64 8192, .bool false, .int .u64 8190, .bool true, .int .u64 32, .bool false] 26 (0, 0)) ∧ W.heap[V1.heap.size]? = some (.cells #[.int .u64 1, .bool false, .int .u64 4096, .bool false, .int .u64 8192, .bool false, .int .u64 8190, .bool true, .int .u64 127, .bool true] 26 (0, 0)) ∧ W.heap[V2.heap.size]? = some (.cells #[.int .u64 1, .bool false, .int .u64 4096, .bool false, .int .u64 4294967294, .bool true, .int .u64 8190, .bool true, .int .u64 32, .bool false] 26 (0, 0))) ⟨HA, KA0, KA1, KA2⟩ ?_
 clear HB HA KA0 KA1 KA2
 rintro W7 ⟨HB7, K7_0, K7_1, K7_2⟩
 refine (day_Match.calls 1 false 4096 false 8192 false 8190 true 32 false 29909520 true 0 _ (by kernel_rfl)).mono ?_
 rintro e V7 ⟨rfl, hb⟩
 have HB := below_step HB7 hb
 have KB0 := blk_below K7_0 hb
 have KB1 := blk_below K7_1 hb
 have KB2 := blk_below K7_2 hb
 clear hb HB7 K7_0 K7_1 K7_2
 replace HB := Aside0.mk HB
 replace KB0 := Aside0.mk KB0
 replace KB1 := Aside0.mk KB1
 replace KB2 := Aside0.mk KB2
 have c0_0 : V7.cell? ⟨V0.heap.size, 0, none⟩ = some (.int .u64 1) := (blk_cell KB0.out 0).trans rfl
 have c0_1 : V7.cell? ⟨V0.heap.size, 1, none⟩ = some (.bool false) := (blk_cell KB0.out 1).trans rfl
 have c0_2 : V7.cell? ⟨V0.heap.size, 2, none⟩ = some (.int .u64 4096) := (blk_cell KB0.out 2).trans rfl
 have c0_3 : V7.cell? ⟨V0.heap.size, 3, none⟩ = some (.bool false) := (blk_cell KB0.out 3).trans rfl
 have c0_4 : V7.cell? ⟨V0.heap.size, 4, none⟩ = some (.int .u64 8192) := (blk_cell KB0.out 4).trans rfl
 have c0_5 : V7.cell? ⟨V0.heap.size, 5, none⟩ = some (.bool false) := (blk_cell KB0.out 5).trans rfl
 have c0_6 : V7.cell? ⟨V0.heap.size, 6, none⟩ = some (.int .u64 8190) := (blk_cell KB0.out 6).trans rfl
 have c0_7 : V7.cell? ⟨V0.heap.size, 7, none⟩ = some (.bool true) := (blk_cell KB0.out 7).trans rfl
 have c0_8 : V7.cell? ⟨V0.heap.size, 8, none⟩ = some (.int .u64 32) := (blk_cell KB0.out 8).trans rfl
 have c0_9 : V7.cell? ⟨V0.heap.size, 9, none⟩ = some (.bool false) := (blk_cell KB0.out 9).trans rfl
 have l0 := blk_lt KB0.out
 have c1_0 : V7.cell? ⟨V1.heap.size, 0, none⟩ = some (.int .u64 1) := (blk_cell KB1.out 0).trans rfl
 have c1_1 : V7.cell? ⟨V1.heap.size, 1, none⟩ = some (.bool false) := (blk_cell KB1.out 1).trans rfl
 have c1_2 : V7.cell? ⟨V1.heap.size, 2, none⟩ = some (.int .u64 4096) := (blk_cell KB1.out 2).trans rfl
 have c1_3 : V7.cell? ⟨V1.heap.size, 3, none⟩ = some (.bool false) := (blk_cell KB1.out 3).trans rfl
 have c1_4 : V7.cell? ⟨V1.heap.size, 4, none⟩ = some (.int .u64 8192) := (blk_cell KB1.out 4).trans rfl
 have c1_5 : V7.cell? ⟨V1.heap.size, 5, none⟩ = some (.bool false) := (blk_cell KB1.out 5).trans rfl
 have c1_6 : V7.cell? ⟨V1.heap.size, 6, none⟩ = some (.int .u64 8190) := (blk_cell KB1.out 6).trans rfl
 have c1_7 : V7.cell? ⟨V1.heap.size, 7, none⟩ = some (.bool true) := (blk_cell KB1.out 7).trans rfl
 have c1_8 : V7.cell? ⟨V1.heap.size, 8, none⟩ = some (.int .u64 127) := (blk_cell KB1.out 8).trans rfl
 have c1_9 : V7.cell? ⟨V1.heap.size, 9, none⟩ = some (.bool true) := (blk_cell KB1.out 9).trans rfl
 have l1 := blk_lt KB1.out
 have c2_0 : V7.cell? ⟨V2.heap.size, 0, none⟩ = some (.int .u64 1) := (blk_cell KB2.out 0).trans rfl
 have c2_1 : V7.cell? ⟨V2.heap.size, 1, none⟩ = some (.bool false) := (blk_cell KB2.out 1).trans rfl
 have c2_2 : V7.cell? ⟨V2.heap.size, 2, none⟩ = some (.int .u64 4096) := (blk_cell KB2.out 2).trans rfl
 have c2_3 : V7.cell? ⟨V2.heap.size, 3, none⟩ = some (.bool false) := (blk_cell KB2.out 3).trans rfl
 have c2_4 : V7.cell? ⟨V2.heap.size, 4, none⟩ = some (.int .u64 4294967294) := (blk_cell KB2.out 4).trans rfl
 have c2_5 : V7.cell? ⟨V2.heap.size, 5, none⟩ = some (.bool true) := (blk_cell KB2.out 5).trans rfl
 have c2_6 : V7.cell? ⟨V2.heap.size, 6, none⟩ = some (.int .u64 8190) := (blk_cell KB2.out 6).trans rfl
 have c2_7 : V7.cell? ⟨V2.heap.size, 7, none⟩ = some (.bool true) := (blk_cell KB2.out 7).trans rfl
 have c2_8 : V7.cell? ⟨V2.heap.size, 8, none⟩ = some (.int .u64 32) := (blk_cell KB2.out 8).trans rfl
 have c2_9 : V7.cell? ⟨V2.heap.size, 9, none⟩ = some (.bool false) := (blk_cell KB2.out 9).trans rfl
 have l2 := blk_lt KB2.out
 go_wp2_with fail
 clear c0_0 c0_1 c0_2 c0_3 c0_4 c0_5 c0_6 c0_7 c0_8 c0_9 l0 c1_0 c1_1 c1_2 c1_3 c1_4 c1_5 c1_6 c1_7 c1_8 c1_9 l1 c2_0 c2_1 c2_2 c2_3 c2_4 c2_5 c2_6 c2_7 c2_8 c2_9 l2
 have HA := HB.out
 have KA0 := KB0.out
 have KA1 := KB1.out
 have KA2 := KB2.out
 clear HB KB0 KB1 KB2
 have HB := HA
 refine Spc.gen (fun W => Below w.heap.size w W ∧ W.heap[V0.heap.size]? = some (.cells #[.int .u64 1, .bool false, .int .u64 4096, .bool false, .int .u64 8192, .bool false, .int .u64 8190, .bool true, .int .u64 32, .bool false] 26 (0, 0)) ∧ W.heap[V1.heap.size]? = some (.cells #[.int .u64 1, .bool false, .int .u64 4096, .bool false, .int .u64 8192, .bool false, .int .u64 8190, .bool true, .int .u64 127, .bool true] 26 (0, 0)) ∧ W.heap[V2.heap.size]? = some (.cells #[.int .u64 1, .bool false, .int .u64 4096, .bool false, .int .u64 4294967294, .bool true, .int .u64 8190, .bool true, .int .u64 32, .bool false] 26 (0, 0))) ⟨HA, KA0, KA1, KA2⟩ ?_
 clear HB HA KA0 KA1 KA2
 rintro W8 ⟨HB8, K8_0, K8_1, K8_2⟩
 refine (day_Minutes.calls 1 false 4096 false 8192 false 8190 true 32 false 1 0 _ (by kernel_rfl)).mono ?_
 rintro e V8 ⟨rfl, hb⟩
 have HB := below_step HB8 hb
 have KB0 := blk_below K8_0 hb
 have KB1 := blk_below K8_1 hb
 have KB2 := blk_below K8_2 hb
 clear hb HB8 K8_0 K8_1 K8_2
 replace HB := Aside0.mk HB
 replace KB0 := Aside0.mk KB0
 replace KB1 := Aside0.mk KB1
 replace KB2 := Aside0.mk KB2
 have c0_0 : V8.cell? ⟨V0.heap.size, 0, none⟩ = some (.int .u64 1) := (blk_cell KB0.out 0).trans rfl
 have c0_1 : V8.cell? ⟨V0.heap.size, 1, none⟩ = some (.bool false) := (blk_cell KB0.out 1).trans rfl
 have c0_2 : V8.cell? ⟨V0.heap.size, 2, none⟩ = some (.int .u64 4096) := (blk_cell KB0.out 2).trans rfl
 have c0_3 : V8.cell? ⟨V0.heap.size, 3, none⟩ = some (.bool false) := (blk_cell KB0.out 3).trans rfl
 have c0_4 : V8.cell? ⟨V0.heap.size, 4, none⟩ = some (.int .u64 8192) := (blk_cell KB0.out 4).trans rfl
 have c0_5 : V8.cell? ⟨V0.heap.size, 5, none⟩ = some (.bool false) := (blk_cell KB0.out 5).trans rfl
 have c0_6 : V8.cell? ⟨V0.heap.size, 6, none⟩ = some (.int .u64 8190) := (blk_cell KB0.out 6).trans rfl
 have c0_7 : V8.cell? ⟨V0.heap.size, 7, none⟩ = some (.bool true) := (blk_cell KB0.out 7).trans rfl
 have c0_8 : V8.cell? ⟨V0.heap.size, 8, none⟩ = some (.int .u64 32) := (blk_cell KB0.out 8).trans rfl
 have c0_9 : V8.cell? ⟨V0.heap.size, 9, none⟩ = some (.bool false) := (blk_cell KB0.out 9).trans rfl
 have l0 := blk_lt KB0.out
 have c1_0 : V8.cell? ⟨V1.heap.size, 0, none⟩ = some (.int .u64 1) := (blk_cell KB1.out 0).trans rfl
 have c1_1 : V8.cell? ⟨V1.heap.size, 1, none⟩ = some (.bool false) := (blk_cell KB1.out 1).trans rfl
 have c1_2 : V8.cell? ⟨V1.heap.size, 2, none⟩ = some (.int .u64 4096) := (blk_cell KB1.out 2).trans rfl
 have c1_3 : V8.cell? ⟨V1.heap.size, 3, none⟩ = some (.bool false) := (blk_cell KB1.out 3).trans rfl
 have c1_4 : V8.cell? ⟨V1.heap.size, 4, none⟩ = some (.int .u64 8192) := (blk_cell KB1.out 4).trans rfl
 have c1_5 : V8.cell? ⟨V1.heap.size, 5, none⟩ = some (.bool false) := (blk_cell KB1.out 5).trans rfl
 have c1_6 : V8.cell? ⟨V1.heap.size, 6, none⟩ = some (.int .u64 8190) := (blk_cell KB1.out 6).trans rfl
 have c1_7 : V8.cell? ⟨V1.heap.size, 7, none⟩ = some (.bool true) := (blk_cell KB1.out 7).trans rfl
 have c1_8 : V8.cell? ⟨V1.heap.size, 8, none⟩ = some (.int .u64 127) := (blk_cell KB1.out 8).trans rfl
 have c1_9 : V8.cell? ⟨V1.heap.size, 9, none⟩ = some (.bool true) := (blk_cell KB1.out 9).trans rfl
 have l1 := blk_lt KB1.out
 have c2_0 : V8.cell? ⟨V2.heap.size, 0, none⟩ = some (.int .u64 1) := (blk_cell KB2.out 0).trans rfl
 have c2_1 : V8.cell? ⟨V2.heap.size, 1, none⟩ = some (.bool false) := (blk_cell KB2.out 1).trans rfl
 have c2_2 : V8.cell? ⟨V2.heap.size, 2, none⟩ = some (.int .u64 4096) := (blk_cell KB2.out 2).trans rfl
 have c2_3 : V8.cell? ⟨V2.heap.size, 3, none⟩ = some (.bool false) := (blk_cell KB2.out 3).trans rfl
 have c2_4 : V8.cell? ⟨V2.heap.size, 4, none⟩ = some (.int .u64 4294967294) := (blk_cell KB2.out 4).trans rfl
 have c2_5 : V8.cell? ⟨V2.heap.size, 5, none⟩ = some (.bool true) := (blk_cell KB2.out 5).trans rfl
 have c2_6 : V8.cell? ⟨V2.heap.size, 6, none⟩ = some (.int .u64 8190) := (blk_cell KB2.out 6).trans rfl
 have c2_7 : V8.cell? ⟨V2.heap.size, 7, none⟩ = some (.bool true) := (blk_cell KB2.out 7).trans rfl
 have c2_8 : V8.cell? ⟨V2.heap.size, 8, none⟩ = some (.int .u64 32) := (blk_cell KB2.out 8).trans rfl
 have c2_9 : V8.cell? ⟨V2.heap.size, 9, none⟩ = some (.bool false) := (blk_cell KB2.out 9).trans rfl
 have l2 := blk_lt KB2.out
 go_wp2_with fail
 go_ret
 exact ⟨rfl, HB.out⟩

/-! ### complineref19_Fields: function 53 -/
def complineref19_Fields.f (a0_0 : Int) (a0_1 : Bool) (a0_2 : Int) (a0_3 : Bool) (a0_4 : Int) (a0_5 : Bool) (a0_6 : Int) (a0_7 : Bool) (a0_8 : Int) (a0_9 : Bool) : Option ((List (S24))) := some (([(⟨a0_0, a0_1⟩ : S24), (⟨a0_2, a0_3⟩ : S24), (⟨a0_4, a0_5⟩ : S24), (⟨a0_6, a0_7⟩ : S24), (⟨a0_8, a0_9⟩ : S24)] : List (S24)))
set_option maxHeartbeats 8000000 in
set_option maxRecDepth 100000 in
theorem complineref19_Fields.calls (a0_0 : Int) (a0_1 : Bool) (a0_2 : Int) (a0_3 : Bool) (a0_4 : Int) (a0_5 : Bool) (a0_6 : Int) (a0_7 : Bool) (a0_8 : Int) (a0_9 : Bool) (r : List (S24)) (w : World) (h : complineref19_Fields.f a0_0 a0_1 a0_2 a0_3 a0_4 a0_5 a0_6 a0_7 a0_8 a0_9 = some r) :
  Calls Tryz.prog 53 #[.agg #[.int .u64 a0_0, .bool a0_1, .int .u64 a0_2, .bool a0_3, .int .u64 a0_4, .bool a0_5, .int .u64 a0_6, .bool a0_7, .int .u64 a0_8, .bool a0_9]] w fun e w' => ∃ v0_ : Value, e = .returned (v0_) ∧ Kd.R k24 24 w' w.heap.size (fun _ => True) v0_ r ∧ Below w.heap.size w w' := by
 have hu26 := Tryz.underlying26
 have hu24 := Tryz.underlying24
 have HB := Aside0.mk (Below.refl w.heap.size w)
 have H : (some (([(⟨a0_0, a0_1⟩ : S24), (⟨a0_2, a0_3⟩ : S24), (⟨a0_4, a0_5⟩ : S24), (⟨a0_6, a0_7⟩ : S24), (⟨a0_8, a0_9⟩ : S24)] : List (S24)))) = some r := h
 clear h
 obtain ⟨y132, hy132⟩ : ∃ y_ : List (S24), y_ = (([(⟨a0_0, a0_1⟩ : S24), (⟨a0_2, a0_3⟩ : S24), (⟨a0_4, a0_5⟩ : S24), (⟨a0_6, a0_7⟩ : S24), (⟨a0_8, a0_9⟩ : S24)] : List (S24))) := ⟨_, rfl⟩
 replace H : (some y132) = some r := by first | (rw [hy132]; with_reducible exact H) | (have H2_ := (Option.bind_some _ _).symm.trans H; rw [hy132]; with_reducible exact H2_) | (have H2_ := (Option.bind_some _ _).symm.trans H; with_reducible exact H2_) | with_reducible exact H | (rw [hy132]; exact H) | exact H
 have Ny132 := Aside0.mk hy132
 clear hy132
 obtain rfl := Option.some.inj H
 go_enter Tryz.func53, Tryz.ntmps53
 go_wp2_with (first | ((with_reducible refine gate_dst (N := 1) rfl ?_); refine box_event ?hg (N := 1) ?hd (cs := #[.int .u64 a0_0, .bool a0_1, .int .u64 a0_2, .bool a0_3, .int .u64 a0_4, .bool a0_5, .int .u64 a0_6, .bool a0_7, .int .u64 a0_8, .bool a0_9]) (t := 26) ?hr ?_; (case hd => rfl); (case hg => rfl); (case hr => first | (go_simp; done) | (go_simp; rfl)); intro gb131 hg w2 hbox hb; have n0_ := Aside0.mk (below_step (by repeat (first | (with_reducible first | exact HB.out | apply below_alloc | apply pw_below_drewN | apply below_drew1) | exact HB.out)) hb); have n1_ := Aside0.mk (hbox); have n2_ := Aside0.mk ((by rw [hg]; exact (below_size (by repeat (first | (with_reducible first | exact HB.out | apply below_alloc | apply pw_below_drewN | apply below_drew1) | exact HB.out))) : w.heap.size ≤ gb131)); have n3_ := Aside0.mk ((by rw [hg]; exact (below_size (by repeat (first | (with_reducible first | exact HB.out | apply below_alloc | apply pw_below_drewN | apply below_drew1) | exact HB.out))) : w.heap.size ≤ gb131)); clear HB; have HB := n0_; have BK131 := n1_; have GW131 := n2_; have GE131 := n3_; clear n0_ n1_ n2_ n3_; clear hb hbox hg; have hcz3_0 : w2.cell? ⟨gb131, 0, none⟩ = some (.int .u64 a0_0) := (blk_cell BK131.out 0).trans rfl; have hcz3_1 : w2.cell? ⟨gb131, 1, none⟩ = some (.bool a0_1) := (blk_cell BK131.out 1).trans rfl; have hcz3_2 : w2.cell? ⟨gb131, 2, none⟩ = some (.int .u64 a0_2) := (blk_cell BK131.out 2).trans rfl; have hcz3_3 : w2.cell? ⟨gb131, 3, none⟩ = some (.bool a0_3) := (blk_cell BK131.out 3).trans rfl; have hcz3_4 : w2.cell? ⟨gb131, 4, none⟩ = some (.int .u64 a0_4) := (blk_cell BK131.out 4).trans rfl; have hcz3_5 : w2.cell? ⟨gb131, 5, none⟩ = some (.bool a0_5) := (blk_cell BK131.out 5).trans rfl; have hcz3_6 : w2.cell? ⟨gb131, 6, none⟩ = some (.int .u64 a0_6) := (blk_cell BK131.out 6).trans rfl; have hcz3_7 : w2.cell? ⟨gb131, 7, none⟩ = some (.bool a0_7) := (blk_cell BK131.out 7).trans rfl; have hcz3_8 : w2.cell? ⟨gb131, 8, none⟩ = some (.int .u64 a0_8) := (blk_cell BK131.out 8).trans rfl; have hcz3_9 : w2.cell? ⟨gb131, 9, none⟩ = some (.bool a0_9) := (blk_cell BK131.out 9).trans rfl; have hfz3_0 := blk_frozen BK131.out 0; have hfz3_1 := blk_frozen BK131.out 1; have hfz3_2 := blk_frozen BK131.out 2; have hfz3_3 := blk_frozen BK131.out 3; have hfz3_4 := blk_frozen BK131.out 4; have hfz3_5 := blk_frozen BK131.out 5; have hfz3_6 := blk_frozen BK131.out 6; have hfz3_7 := blk_frozen BK131.out 7; have hfz3_8 := blk_frozen BK131.out 8; have hfz3_9 := blk_frozen BK131.out 9) | ((with_reducible refine gate_dst (N := 13) rfl ?_); refine Kd.R_lit k24 _ 24 ?hg (N := 13) ?hd (xs := ([(⟨a0_0, a0_1⟩ : S24), (⟨a0_2, a0_3⟩ : S24), (⟨a0_4, a0_5⟩ : S24), (⟨a0_6, a0_7⟩ : S24), (⟨a0_8, a0_9⟩ : S24)] : List (S24))) (inner := [.int .u64 a0_0, .bool a0_1, .int .u64 a0_2, .bool a0_3, .int .u64 a0_4, .bool a0_5, .int .u64 a0_6, .bool a0_7, .int .u64 a0_8, .bool a0_9]) (ok := fun _ => True) (okp := fun _ => True) ?hr ?hp (fun _ hk => hk) trivial (Below.refl _ _) (Nat.le_refl _) (by simp) ?_; (case hd => rfl); (case hg => rfl); (case hr => first | (go_simp; done) | (go_simp; rfl)); (case hp => exact (Reps.c2 (show Kd.M k24 _ _ _ (⟨a0_0, a0_1⟩ : S24) [.int .u64 a0_0, .bool a0_1] from (k24_mkM _ _ _ (⟨a0_0, a0_1⟩ : S24) )) (Reps.c2 (show Kd.M k24 _ _ _ (⟨a0_2, a0_3⟩ : S24) [.int .u64 a0_2, .bool a0_3] from (k24_mkM _ _ _ (⟨a0_2, a0_3⟩ : S24) )) (Reps.c2 (show Kd.M k24 _ _ _ (⟨a0_4, a0_5⟩ : S24) [.int .u64 a0_4, .bool a0_5] from (k24_mkM _ _ _ (⟨a0_4, a0_5⟩ : S24) )) (Reps.c2 (show Kd.M k24 _ _ _ (⟨a0_6, a0_7⟩ : S24) [.int .u64 a0_6, .bool a0_7] from (k24_mkM _ _ _ (⟨a0_6, a0_7⟩ : S24) )) (Reps.c2 (show Kd.M k24 _ _ _ (⟨a0_8, a0_9⟩ : S24) [.int .u64 a0_8, .bool a0_9] from (k24_mkM _ _ _ (⟨a0_8, a0_9⟩ : S24) )) (Reps.none _ _))))))); intro v133 w4 ho5 hb hg_ hnew_; clear hg_ hnew_; (first | rw [← Ny132.out] at ho5 | (simp only [Int.reduceToNat] at ho5; rw [← Ny132.out] at ho5)); have n0_ := Aside0.mk (Kd.R_lower ho5 (below_size (by repeat (first | (with_reducible first | exact HB.out | apply below_alloc | apply pw_below_drewN | apply below_drew1 | refine below_set ?_ GE131.out) | exact HB.out)))); have n1_ := Aside0.mk (blk_below (g := gb131) (o := .cells #[.int .u64 a0_0, .bool a0_1, .int .u64 a0_2, .bool a0_3, .int .u64 a0_4, .bool a0_5, .int .u64 a0_6, .bool a0_7, .int .u64 a0_8, .bool a0_9] 26 (0, 0)) (by (with_reducible repeat (first | refine blk_drewN ?_ _ | refine blk_drew ?_ | refine blk_alloc ?_ _)); exact BK131.out) hb); have n2_ := Aside0.mk (below_step (by repeat (first | (with_reducible first | exact HB.out | apply below_alloc | apply pw_below_drewN | apply below_drew1 | refine below_set ?_ GE131.out) | exact HB.out)) hb); clear BK131; clear HB; have HO134 := n0_; have BK131 := n1_; have HB := n2_; clear n0_ n1_ n2_; clear hb ho5))
 go_ret
 exact ⟨_, by first | rfl | (simp [errW_none, errW_some] <;> rfl) | (simp [*, errW_none, errW_some] <;> rfl), by (with_reducible repeat (first | apply Kd.R_alloc | apply Kd.R_drewN | apply Kd.R_drew)); exact HO134.out, by repeat (first | (with_reducible first | exact HB.out | apply below_alloc | apply pw_below_drewN | apply below_drew1 | refine below_set ?_ GE131.out) | exact HB.out)⟩

/-! ### complineref18_Has: function 37 -/
mutual
def complineref18_Has.j0 : Nat → Int → Bool → Int → Bool → Option (Bool)
 | 0, _, _, _, _ => none
 | k + 1, x1, x12, x136000, x136001 => if x12 = true then (some false) else (complineref18_Has.l0 k x1 x136000 0)
def complineref18_Has.l0 : Nat → Int → Int → Int → Option (Bool)
 | 0, _, _, _ => none
 | k + 1, x1, x5, x6 => if x6 < x1 then (complineref18_Has.l0 k x1 (IntKind.u64.wrap (Int.tdiv x5 2)) (wrap64 (x6 + 1))) else (some ((Int.tmod x5 2) == 1))
end
def complineref18_Has.f (k : Nat) (a0_0 : Int) (a0_1 : Bool) (a1 : Int) : Option (Bool) := if a1 < 0 then (complineref18_Has.j0 k a1 true a0_0 a0_1) else (complineref18_Has.j0 k a1 (decide (a1 > 63)) a0_0 a0_1)
theorem complineref18_Has.mono_l : ∀ k, (∀ y0 y1 y2 y3, LeO (complineref18_Has.j0 k y0 y1 y2 y3) (complineref18_Has.j0 (k + 1) y0 y1 y2 y3)) ∧ (∀ y0 y1 y2, LeO (complineref18_Has.l0 k y0 y1 y2) (complineref18_Has.l0 (k + 1) y0 y1 y2))
 | 0 => ⟨fun _ _ _ _ r h => by simp [complineref18_Has.j0] at h, fun _ _ _ r h => by simp [complineref18_Has.l0] at h⟩
 | k + 1 => by
  obtain ⟨ih0, ih1⟩ := complineref18_Has.mono_l k
  refine ⟨?_, ?_⟩
  ·intro y0 y1 y2 y3
   unfold complineref18_Has.j0
   repeat' first
   | (with_reducible exact ih0 _ _ _ _)
   | (with_reducible exact ih1 _ _ _)
   | (with_reducible exact LeO.refl _)
   | (with_reducible exact LeO.none _)
   | (with_reducible refine LeO.ite ?_ ?_)
   | (with_reducible refine LeO.bind ?_ (fun _ => ?_))
   | exact ih0 _ _ _ _
   | exact ih1 _ _ _
   | exact LeO.none _
   | refine LeO.ite ?_ ?_
   | refine LeO.bind ?_ (fun _ => ?_)
  ·intro y0 y1 y2
   unfold complineref18_Has.l0
   repeat' first
   | (with_reducible exact ih0 _ _ _ _)
   | (with_reducible exact ih1 _ _ _)
   | (with_reducible exact LeO.refl _)
   | (with_reducible exact LeO.none _)
   | (with_reducible refine LeO.ite ?_ ?_)
   | (with_reducible refine LeO.bind ?_ (fun _ => ?_))
   | exact ih0 _ _ _ _
   | exact ih1 _ _ _
   | exact LeO.none _
   | refine LeO.ite ?_ ?_
   | refine LeO.bind ?_ (fun _ => ?_)
theorem complineref18_Has.mono : ∀ a0 a1 a2 k, LeO (complineref18_Has.f k a0 a1 a2) (complineref18_Has.f (k + 1) a0 a1 a2) := by
 intro a0 a1 a2 k
 obtain ⟨ih0, ih1⟩ := complineref18_Has.mono_l k
 unfold complineref18_Has.f
 repeat' first
   | (with_reducible exact ih0 _ _ _ _)
   | (with_reducible exact ih1 _ _ _)
   | (with_reducible exact LeO.refl _)
   | (with_reducible exact LeO.none _)
   | (with_reducible refine LeO.ite ?_ ?_)
   | (with_reducible refine LeO.bind ?_ (fun _ => ?_))
   | exact ih0 _ _ _ _
   | exact ih1 _ _ _
   | exact LeO.none _
   | refine LeO.ite ?_ ?_
   | refine LeO.bind ?_ (fun _ => ?_)
set_option maxHeartbeats 8000000 in
set_option maxRecDepth 100000 in
theorem complineref18_Has.calls (k : Nat) (a0_0 : Int) (a0_1 : Bool) (a1 : Int) (r : Bool) (w : World) (h : complineref18_Has.f k a0_0 a0_1 a1 = some r) :
  Calls Tryz.prog 37 #[.agg #[.int .u64 a0_0, .bool a0_1], .int .i64 a1] w fun e w' => e = .returned (.bool r) ∧ Below w.heap.size w w' := by
 have hu24 := Tryz.underlying24
 have HB := Aside0.mk (Below.refl w.heap.size w)
 have H : (if a1 < 0 then (complineref18_Has.j0 k a1 true a0_0 a0_1) else (complineref18_Has.j0 k a1 (decide (a1 > 63)) a0_0 a0_1)) = some r := h
 clear h
 have HC3 := Aside0.mk H
 clear H
 go_enter Tryz.func37, Tryz.ntmps37
 go_upto_region 1 with (first | ((with_reducible refine gate_dst (N := 2) rfl ?_); refine box_event ?hg (N := 2) ?hd (cs := #[.int .u64 a0_0, .bool a0_1]) (t := 24) ?hr ?_; (case hd => rfl); (case hg => rfl); (case hr => first | (go_simp; done) | (go_simp; rfl)); intro gb135 hg w4 hbox hb; have n0_ := Aside0.mk (below_step (by repeat (first | (with_reducible first | exact HB.out | apply below_alloc | apply pw_below_drewN | apply below_drew1) | exact HB.out)) hb); have n1_ := Aside0.mk (hbox); have n2_ := Aside0.mk ((by rw [hg]; exact (below_size (by repeat (first | (with_reducible first | exact HB.out | apply below_alloc | apply pw_below_drewN | apply below_drew1) | exact HB.out))) : w.heap.size ≤ gb135)); have n3_ := Aside0.mk ((by rw [hg]; exact (below_size (by repeat (first | (with_reducible first | exact HB.out | apply below_alloc | apply pw_below_drewN | apply below_drew1) | exact HB.out))) : w.heap.size ≤ gb135)); clear HB; have HB := n0_; have BK135 := n1_; have GW135 := n2_; have GE135 := n3_; clear n0_ n1_ n2_ n3_; clear hb hbox hg))
 (try simp only [Act.put, List.setIfInBounds_toArray, List.set_cons_zero, List.set_cons_succ])
 go_cut [12] (fun v12 wc => ∃ (kq : Nat) (x12_2 : Bool), v12 = .bool x12_2 ∧ Aside0 (complineref18_Has.j0 kq a1 x12_2 a0_0 a0_1 = some r) ∧ Aside0 (kq ≤ k) ∧ Aside0 (wc.heap[gb135]? = some (.cells #[.int .u64 a0_0, .bool a0_1] 24 (0, 0))) ∧ Aside0 (Below w.heap.size w wc))
 case first =>
  have H := HC3.out
  clear HC3
  by_cases c5 : a1 < 0
  ·rw [if_pos c5] at H
   have c5b0 : decide (a1 < 0) = true := decide_eq_true c5
   clear c5
   (first | rw [c5b0] | (simp only [i64_w, i32_w]; rw [c5b0]) | skip)
   have H' := Aside0.mk H
   clear H
   go_wp2
   go_meet
   case rel => exact ⟨_, (true), (by first | rfl | (simp; done) | (simp [*]; done)), H', ⟨by first | omega | exact Nat.le_refl _⟩, ⟨by (with_reducible repeat (first | refine blk_drewN ?_ _ | refine blk_drew ?_ | refine blk_alloc ?_ _)); exact BK135.out⟩, ⟨by repeat (first | (with_reducible first | exact HB.out | apply below_alloc | apply pw_below_drewN | apply below_drew1 | refine below_set ?_ GE135.out) | exact HB.out)⟩⟩
  ·rw [if_neg c5] at H
   have c5b0 : decide (a1 < 0) = false := decide_eq_false c5
   clear c5
   (first | rw [c5b0] | (simp only [i64_w, i32_w]; rw [c5b0]) | skip)
   have H' := Aside0.mk H
   clear H
   go_wp2
   go_meet
   case rel => exact ⟨_, (decide (a1 > 63)), (by first | rfl | (simp; done) | (simp [*]; done)), H', ⟨by first | omega | exact Nat.le_refl _⟩, ⟨by (with_reducible repeat (first | refine blk_drewN ?_ _ | refine blk_drew ?_ | refine blk_alloc ?_ _)); exact BK135.out⟩, ⟨by repeat (first | (with_reducible first | exact HB.out | apply below_alloc | apply pw_below_drewN | apply below_drew1 | refine below_set ?_ GE135.out) | exact HB.out)⟩⟩
 case rest =>
  clear HC3
  try clear p2
  try clear c3
  try clear c5
  try clear c5b0
  obtain ⟨kq, x12_2, rfl, HA, HJ2, BK135, HB⟩ := hcut
  cases kq with
  | zero => exact absurd HA.out (by simp [complineref18_Has.j0])
  | succ kj2 =>
   have H := HA.out
   clear HA
   simp only [complineref18_Has.j0] at H
   by_cases c6 : x12_2 = true
   ·subst c6
    have H1 : (some false) = some r := by rw [if_pos rfl] at H; exact H
    clear H
    have H := H1
    clear H1
    obtain rfl := Option.some.inj H
    go_wp2
    go_ret
    exact ⟨by first | rfl | (simp [errW_none, errW_some] <;> rfl) | (simp [*, errW_none, errW_some] <;> rfl), by repeat (first | (with_reducible first | exact HB.out | apply below_alloc | apply pw_below_drewN | apply below_drew1 | refine below_set ?_ GE135.out) | exact HB.out)⟩
   ·replace c6 := Bool.eq_false_iff.mpr c6
    subst c6
    have H1 : (complineref18_Has.l0 kj2 a1 a0_0 0) = some r := by rw [if_neg (show ¬ (false = true) by decide)] at H; exact H
    clear H
    have H := H1
    clear H1
    have H' := Aside0.mk H
    clear H
    have hcz7_0 : wc.cell? ⟨gb135, 0, none⟩ = some (.int .u64 a0_0) := (blk_cell BK135.out 0).trans rfl
    have hcz7_1 : wc.cell? ⟨gb135, 1, none⟩ = some (.bool a0_1) := (blk_cell BK135.out 1).trans rfl
    have hfz7_0 := blk_frozen BK135.out 0
    have hfz7_1 := blk_frozen BK135.out 1
    go_wp2
    go_loopg [5, 6] kj2 (fun kq v5 v6 w' => ∃ (x5_2 : Int) (x6_2 : Int), v5 = .int .u64 x5_2 ∧ v6 = .int .i64 x6_2 ∧ Aside0 (complineref18_Has.l0 kq a1 x5_2 x6_2 = some r) ∧ Aside0 (kq ≤ kj2) ∧ Aside0 (w'.heap[gb135]? = some (.cells #[.int .u64 a0_0, .bool a0_1] 24 (0, 0))) ∧ Aside0 (Below w.heap.size w w'))
    case atStart => exact ⟨(a0_0), (0), (by first | rfl | (simp; done) | (simp [*]; done)), (by first | rfl | (simp; done) | (simp [*]; done)), H', ⟨Nat.le_refl _⟩, ⟨by (with_reducible repeat (first | refine blk_drewN ?_ _ | refine blk_drew ?_ | refine blk_alloc ?_ _)); exact BK135.out⟩, ⟨by repeat (first | (with_reducible first | exact HB.out | apply below_alloc | apply pw_below_drewN | apply below_drew1 | refine below_set ?_ GE135.out) | exact HB.out)⟩⟩
    case round =>
     clear H'
     try clear p2
     try clear c3
     try clear c5
     try clear c5b0
     try clear c6
     try clear hcz7_0
     try clear hcz7_1
     try clear hfz7_0
     try clear hfz7_1
     try clear p2
     obtain ⟨x5_2, x6_2, rfl, rfl, HA, HK2, BK135, HB⟩ := hrel
     cases gk with
     | zero => exact absurd HA.out (by simp [complineref18_Has.l0])
     | succ k2 =>
      have H := HA.out
      clear HA
      simp only [complineref18_Has.l0] at H
      by_cases c8 : x6_2 < a1
      ·rw [if_pos c8] at H
       have c8b0 : decide (x6_2 < a1) = true := decide_eq_true c8
       clear c8
       have H' := Aside0.mk H
       clear H
       go_wp2
       go_roundg k2
       case measure => have := HJ2.out; have := HK2.out; omega
       case rel => exact ⟨(IntKind.u64.wrap (Int.tdiv x5_2 2)), (wrap64 (x6_2 + 1)), (by first | rfl | (simp; done) | (simp [*]; done)), (by first | rfl | (simp; done) | (simp [*]; done)), H', ⟨by have := HJ2.out; have := HK2.out; omega⟩, ⟨by (with_reducible repeat (first | refine blk_drewN ?_ _ | refine blk_drew ?_ | refine blk_alloc ?_ _)); exact BK135.out⟩, ⟨by repeat (first | (with_reducible first | exact HB.out | apply below_alloc | apply pw_below_drewN | apply below_drew1 | refine below_set ?_ GE135.out) | exact HB.out)⟩⟩
      ·rw [if_neg c8] at H
       have c8b0 : decide (x6_2 < a1) = false := decide_eq_false c8
       clear c8
       obtain rfl := Option.some.inj H
       go_wp2
       go_ret
       exact ⟨by first | rfl | (simp [errW_none, errW_some] <;> rfl) | (simp [*, errW_none, errW_some] <;> rfl), by repeat (first | (with_reducible first | exact HB.out | apply below_alloc | apply pw_below_drewN | apply below_drew1 | refine below_set ?_ GE135.out) | exact HB.out)⟩

/-! ### complineref17_Limits: function 93 -/
def complineref17_Limits.f (a0 : Int) : Option (Int × Int × Int) := if a0 = 0 then (some (0, 59, 0)) else (if a0 = 1 then (some (0, 23, 0)) else (if a0 = 2 then (some (1, 31, 0)) else (if a0 = 3 then (some (1, 12, 0)) else (if a0 = 4 then (some (0, 7, 0)) else (some (0, 0, 7))))))
set_option maxHeartbeats 8000000 in
set_option maxRecDepth 100000 in
theorem complineref17_Limits.calls (a0 : Int) (r1 : Int) (r2 : Int) (r3 : Int) (w : World) (h : complineref17_Limits.f a0 = some (r1, r2, r3)) :
  Calls Tryz.prog 93 #[.int .i64 a0] w fun e w' => e = .returned (.tuple #[.int .i64 r1, .int .i64 r2, .int .i64 r3]) ∧ Drawn0 w w' := by
 have H : (if a0 = 0 then (some (0, 59, 0)) else (if a0 = 1 then (some (0, 23, 0)) else (if a0 = 2 then (some (1, 31, 0)) else (if a0 = 3 then (some (1, 12, 0)) else (if a0 = 4 then (some (0, 7, 0)) else (some (0, 0, 7))))))) = some (r1, r2, r3) := h
 clear h
 by_cases c2 : a0 = 0
 ·rw [if_pos c2] at H
  have c2b0 : (a0 == 0) = true := beq_iff_eq.mpr c2
  have c2b1 : (a0 != 0) = false := bne_eq_false_iff_eq.mpr c2
  clear c2
  simp only [Option.some.injEq, Prod.mk.injEq] at H
  obtain ⟨rfl, rfl, rfl⟩ := H
  go_enter Tryz.func93, Tryz.ntmps93
  go_wp2
  go_ret3
  exact ⟨by first | rfl | (simp; done) | (simp [*]; done), by repeat (first | exact Drawn0.refl _ | apply Drawn0.step)⟩
 ·rw [if_neg c2] at H
  have c2b0 : (a0 == 0) = false := beq_eq_false_iff_ne.mpr c2
  have c2b1 : (a0 != 0) = true := bne_iff_ne.mpr c2
  by_cases c3 : a0 = 1
  ·rw [if_pos c3] at H
   have c3b0 : (a0 == 1) = true := beq_iff_eq.mpr c3
   have c3b1 : (a0 != 1) = false := bne_eq_false_iff_eq.mpr c3
   clear c3
   simp only [Option.some.injEq, Prod.mk.injEq] at H
   obtain ⟨rfl, rfl, rfl⟩ := H
   go_enter Tryz.func93, Tryz.ntmps93
   go_wp2
   go_ret3
   exact ⟨by first | rfl | (simp; done) | (simp [*]; done), by repeat (first | exact Drawn0.refl _ | apply Drawn0.step)⟩
  ·rw [if_neg c3] at H
   have c3b0 : (a0 == 1) = false := beq_eq_false_iff_ne.mpr c3
   have c3b1 : (a0 != 1) = true := bne_iff_ne.mpr c3
   by_cases c4 : a0 = 2
   ·rw [if_pos c4] at H
    have c4b0 : (a0 == 2) = true := beq_iff_eq.mpr c4
    have c4b1 : (a0 != 2) = false := bne_eq_false_iff_eq.mpr c4
    clear c4
    simp only [Option.some.injEq, Prod.mk.injEq] at H
    obtain ⟨rfl, rfl, rfl⟩ := H
    go_enter Tryz.func93, Tryz.ntmps93
    go_wp2
    go_ret3
    exact ⟨by first | rfl | (simp; done) | (simp [*]; done), by repeat (first | exact Drawn0.refl _ | apply Drawn0.step)⟩
   ·rw [if_neg c4] at H
    have c4b0 : (a0 == 2) = false := beq_eq_false_iff_ne.mpr c4
    have c4b1 : (a0 != 2) = true := bne_iff_ne.mpr c4
    by_cases c5 : a0 = 3
    ·rw [if_pos c5] at H
     have c5b0 : (a0 == 3) = true := beq_iff_eq.mpr c5
     have c5b1 : (a0 != 3) = false := bne_eq_false_iff_eq.mpr c5
     clear c5
     simp only [Option.some.injEq, Prod.mk.injEq] at H
     obtain ⟨rfl, rfl, rfl⟩ := H
     go_enter Tryz.func93, Tryz.ntmps93
     go_wp2
     go_ret3
     exact ⟨by first | rfl | (simp; done) | (simp [*]; done), by repeat (first | exact Drawn0.refl _ | apply Drawn0.step)⟩
    ·rw [if_neg c5] at H
     have c5b0 : (a0 == 3) = false := beq_eq_false_iff_ne.mpr c5
     have c5b1 : (a0 != 3) = true := bne_iff_ne.mpr c5
     by_cases c6 : a0 = 4
     ·rw [if_pos c6] at H
      have c6b0 : (a0 == 4) = true := beq_iff_eq.mpr c6
      have c6b1 : (a0 != 4) = false := bne_eq_false_iff_eq.mpr c6
      clear c6
      simp only [Option.some.injEq, Prod.mk.injEq] at H
      obtain ⟨rfl, rfl, rfl⟩ := H
      go_enter Tryz.func93, Tryz.ntmps93
      go_wp2
      go_ret3
      exact ⟨by first | rfl | (simp; done) | (simp [*]; done), by repeat (first | exact Drawn0.refl _ | apply Drawn0.step)⟩
     ·rw [if_neg c6] at H
      have c6b0 : (a0 == 4) = false := beq_eq_false_iff_ne.mpr c6
      have c6b1 : (a0 != 4) = true := bne_iff_ne.mpr c6
      simp only [Option.some.injEq, Prod.mk.injEq] at H
      obtain ⟨rfl, rfl, rfl⟩ := H
      go_enter Tryz.func93, Tryz.ntmps93
      go_wp2
      go_ret3
      exact ⟨by first | rfl | (simp; done) | (simp [*]; done), by repeat (first | exact Drawn0.refl _ | apply Drawn0.step)⟩

/-! ### complineref18_limits: function 82 -/
def complineref18_limits.f (a0 : Int) : Option (Int × Int × Int) := (complineref17_Limits.f a0).bind fun bt136 => (if a0 = 4 then (some (bt136.1, 6, bt136.2.2)) else (some (bt136.1, bt136.2.1, bt136.2.2)))
set_option maxHeartbeats 8000000 in
set_option maxRecDepth 100000 in
theorem complineref18_limits.calls (a0 : Int) (r1 : Int) (r2 : Int) (r3 : Int) (w : World) (h : complineref18_limits.f a0 = some (r1, r2, r3)) :
  Calls Tryz.prog 82 #[.int .i64 a0] w fun e w' => e = .returned (.tuple #[.int .i64 r1, .int .i64 r2, .int .i64 r3]) ∧ Drawn0 w w' := by
 have H : ((complineref17_Limits.f a0).bind fun bt136 => (if a0 = 4 then (some (bt136.1, 6, bt136.2.2)) else (some (bt136.1, bt136.2.1, bt136.2.2)))) = some (r1, r2, r3) := h
 clear h
 replace H := Option.bind_eq_some_iff.mp H
 obtain ⟨⟨t136, t137, t138⟩, A20, H⟩ := H
 replace H : (if a0 = 4 then (some (t136, 6, t138)) else (some (t136, t137, t138))) = some (r1, r2, r3) := H
 have A2 := Aside0.mk A20
 clear A20
 by_cases c3 : a0 = 4
 ·rw [if_pos c3] at H
  have c3b0 : (a0 == 4) = true := beq_iff_eq.mpr c3
  have c3b1 : (a0 != 4) = false := bne_eq_false_iff_eq.mpr c3
  clear c3
  simp only [Option.some.injEq, Prod.mk.injEq] at H
  obtain ⟨rfl, rfl, rfl⟩ := H
  go_enter Tryz.func82, Tryz.ntmps82
  go_wp2_with (first | ((with_reducible refine gate_callee (f := 93) rfl ?_); refine goesL_ (some 10) rfl rfl Tryz.func93 (by kernel_rfl) rfl #[.int .i64 a0] rfl (by (try simp only [List.map_toArray, List.map_cons, List.map_nil]); first | done | rfl | (simp only [List.length_drop, List.length_take]; rfl)) ?_; (with_reducible refine (complineref17_Limits.calls a0 t136 t137 t138 _ A2.out).mono ?_); rintro e w' ⟨rfl, ⟨nd, rfl⟩⟩; refine ⟨_, rfl, ?_⟩))
  go_ret3
  exact ⟨by first | rfl | (simp; done) | (simp [*]; done), by repeat (first | exact Drawn0.refl _ | apply Drawn0.step)⟩
 ·rw [if_neg c3] at H
  have c3b0 : (a0 == 4) = false := beq_eq_false_iff_ne.mpr c3
  have c3b1 : (a0 != 4) = true := bne_iff_ne.mpr c3
  simp only [Option.some.injEq, Prod.mk.injEq] at H
  obtain ⟨rfl, rfl, rfl⟩ := H
  go_enter Tryz.func82, Tryz.ntmps82
  go_wp2_with (first | ((with_reducible refine gate_callee (f := 93) rfl ?_); refine goesL_ (some 10) rfl rfl Tryz.func93 (by kernel_rfl) rfl #[.int .i64 a0] rfl (by (try simp only [List.map_toArray, List.map_cons, List.map_nil]); first | done | rfl | (simp only [List.length_drop, List.length_take]; rfl)) ?_; (with_reducible refine (complineref17_Limits.calls a0 t136 t137 t138 _ A2.out).mono ?_); rintro e w' ⟨rfl, ⟨nd, rfl⟩⟩; refine ⟨_, rfl, ?_⟩))
  go_ret3
  exact ⟨by first | rfl | (simp; done) | (simp [*]; done), by repeat (first | exact Drawn0.refl _ | apply Drawn0.step)⟩

end Go.Proofs.YtcjfjicagopppaaGreatDoor.PDay
