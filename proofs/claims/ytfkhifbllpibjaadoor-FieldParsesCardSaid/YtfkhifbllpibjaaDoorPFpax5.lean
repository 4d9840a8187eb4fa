-- Written by a program of this session (gprint.py) over the kit's print.
import Derived.Test.YtfkhifbllpibjaaDoorPFpax0
import Derived.Test.YtfkhifbllpibjaaDoorPFpax3
import Derived.Test.YtfkhifbllpibjaaDoorPFpax4
namespace Go.Proofs.YtfkhifbllpibjaaDoor.PFpa
open Go.RowKit Go.Proofs.YtfkhifbllpibjaaDoorW.PrintWords Go.Proofs.YtfkhifbllpibjaaDoorW.PrintLast Go.Proofs.YtfkhifbllpibjaaDoorW.PrintMore
attribute [local go_sem] max2_int min2_int max_two min_two max_three min_three max_four min_four   -- for this text's walks alone
set_option linter.unusedVariables false
set_option linter.unusedSimpArgs false

/-! ### complinelaw18_works: function 9 -/
theorem Fld.eqF (d : Nat) (w : World) (x0 y0 : Int) (x1 y1 : Bool) :
    (Op.equalIn (d + 2) 25 (.agg #[.int .u64 x0, .bool x1]) (.agg #[.int .u64 y0, .bool y1])).run Tryd.prog w = .ok (x0 == y0 && (x1 == y1)) w := by
  refine eqA_of Tryd.underlying25 (by kernel_rfl) ?_
  refine eqf_cons (by rfl) (by go_simp; rfl) (by go_simp; rfl) (by go_simp) ?_
  exact eqf_last (by rfl) (by go_simp; rfl) (by go_simp; rfl) (by go_simp)
def complinelaw18_works.f  : Option (Bool) := some true
set_option maxHeartbeats 8000000 in
set_option maxRecDepth 100000 in
theorem complinelaw18_works.calls  (r : Bool) (w : World) (hT : Tab w) (h : complinelaw18_works.f  = some r) :
    Calls Tryd.prog 9 #[] w fun e w' => e = .returned (.bool r) ∧ Below w.heap.size w w' := by
  have HB := Aside0.mk (Below.refl w.heap.size w)
  obtain rfl : r = true := (Option.some.inj h).symm
  clear h
  have HB : Below w.heap.size w w := Below.refl _ _
  have eqF := Fld.eqF
  go_enter Tryd.func9, Tryd.ntmps9
  go_wp2_with fail
  -- field.Parse(1-10/4,30, 0)
  refine Fld.gen (fun W => Below w.heap.size w W) HB ?_
  clear HB
  rintro W0 HB0
  refine (field_Parse.calls ⟨#[49, 45, 49, 48, 47, 52, 44, 51, 48]⟩ 0 1073742370 false 0 _ (hT.keep HB0) (by decide +kernel)).mono ?_
  rintro e V0 ⟨rfl, hb⟩
  have HB := below_step HB0 hb
  clear hb HB0 
  replace HB := Aside0.mk HB
  go_wp2_with fail
  have HA := below_alloc HB.out (.cells #[.int .u64 1073742370, .bool false] 25)
  have KA0 := blk_new V0 (.cells #[.int .u64 1073742370, .bool false] 25)
  clear HB 
  have HB := HA
  -- field.Parse(5-7, 4)
  refine Fld.gen (fun W => Below w.heap.size w W ∧ W.heap[V0.heap.size]? = some (.cells #[.int .u64 1073742370, .bool false] 25 (0, 0))) ⟨HA, KA0⟩ ?_
  clear HB HA KA0
  rintro W1 ⟨HB1, K1_0⟩
  refine (field_Parse.calls ⟨#[53, 45, 55]⟩ 4 97 false 0 _ (hT.keep HB1) (by decide +kernel)).mono ?_
  rintro e V1 ⟨rfl, hb⟩
  have HB := below_step HB1 hb
  have KB0 := blk_below K1_0 hb
  clear hb HB1 K1_0
  replace HB := Aside0.mk HB
  replace KB0 := Aside0.mk KB0
  go_wp2_with fail
  have HA := below_alloc HB.out (.cells #[.int .u64 97, .bool false] 25)
  have KA0 := blk_alloc KB0.out (.cells #[.int .u64 97, .bool false] 25)
  have KA1 := blk_new V1 (.cells #[.int .u64 97, .bool false] 25)
  clear HB KB0
  have HB := HA
  -- field.Parse(*/20, 0)
  refine Fld.gen (fun W => Below w.heap.size w W ∧ W.heap[V0.heap.size]? = some (.cells #[.int .u64 1073742370, .bool false] 25 (0, 0)) ∧ W.heap[V1.heap.size]? = some (.cells #[.int .u64 97, .bool false] 25 (0, 0))) ⟨HA, KA0, KA1⟩ ?_
  clear HB HA KA0 KA1
  rintro W2 ⟨HB2, K2_0, K2_1⟩
  refine (field_Parse.calls ⟨#[42, 47, 50, 48]⟩ 0 1099512676353 false 0 _ (hT.keep HB2) (by decide +kernel)).mono ?_
  rintro e V2 ⟨rfl, hb⟩
  have HB := below_step HB2 hb
  have KB0 := blk_below K2_0 hb
  have KB1 := blk_below K2_1 hb
  clear hb HB2 K2_0 K2_1
  replace HB := Aside0.mk HB
  replace KB0 := Aside0.mk KB0
  replace KB1 := Aside0.mk KB1
  go_wp2_with fail
  have HA := below_alloc HB.out (.cells #[.int .u64 1099512676353, .bool false] 25)
  have KA0 := blk_alloc KB0.out (.cells #[.int .u64 1099512676353, .bool false] 25)
  have KA1 := blk_alloc KB1.out (.cells #[.int .u64 1099512676353, .bool false] 25)
  have KA2 := blk_new V2 (.cells #[.int .u64 1099512676353, .bool false] 25)
  clear HB KB0 KB1
  have HB := HA
  -- field.Parse(5/2, 1)
  refine Fld.gen (fun W => Below w.heap.size w W ∧ W.heap[V0.heap.size]? = some (.cells #[.int .u64 1073742370, .bool false] 25 (0, 0)) ∧ W.heap[V1.heap.size]? = some (.cells #[.int .u64 97, .bool false] 25 (0, 0)) ∧ W.heap[V2.heap.size]? = some (.cells #[.int .u64 1099512676353, .bool false] 25 (0, 0))) ⟨HA, KA0, KA1, KA2⟩ ?_
  clear HB HA KA0 KA1 KA2
  rintro W3 ⟨HB3, K3_0, K3_1, K3_2⟩
  refine (field_Parse.calls ⟨#[53, 47, 50]⟩ 1 0 false 2 _ (hT.keep HB3) (by decide +kernel)).mono ?_
  rintro e V3 ⟨rfl, hb⟩
  have HB := below_step HB3 hb
  have KB0 := blk_below K3_0 hb
  have KB1 := blk_below K3_1 hb
  have KB2 := blk_below K3_2 hb
  clear hb HB3 K3_0 K3_1 K3_2
  replace HB := Aside0.mk HB
  replace KB0 := Aside0.mk KB0
  replace KB1 := Aside0.mk KB1
  replace KB2 := Aside0.mk KB2
  go_wp2_with fail
  have HA := below_alloc HB.out (.cells #[.int .u64 0, .bool false] 25)
  have KA0 := blk_alloc KB0.out (.cells #[.int .u64 0, .bool false] 25)
  have KA1 := blk_alloc KB1.out (.cells #[.int .u64 0, .bool false] 25)
  have KA2 := blk_alloc KB2.out (.cells #[.int .u64 0, .bool false] 25)
  have KA3 := blk_new V3 (.cells #[.int .u64 0, .bool false] 25)
  clear HB KB0 KB1 KB2
  have HB := HA
  -- field.Parse(9-5, 1)
  refine Fld.gen (fun W => Below w.heap.size w W ∧ W.heap[V0.heap.size]? = some (.cells #[.int .u64 1073742370, .bool false] 25 (0, 0)) ∧ W.heap[V1.heap.size]? = some (.cells #[.int .u64 97, .bool false] 25 (0, 0)) ∧ W.heap[V2.heap.size]? = some (.cells #[.int .u64 1099512676353, .bool false] 25 (0, 0)) ∧ W.heap[V3.heap.size]? = some (.cells #[.int .u64 0, .bool false] 25 (0, 0))) ⟨HA, KA0, KA1, KA2, KA3⟩ ?_
  clear HB HA KA0 KA1 KA2 KA3
  rintro W4 ⟨HB4, K4_0, K4_1, K4_2, K4_3⟩
  refine (field_Parse.calls ⟨#[57, 45, 53]⟩ 1 0 false 12 _ (hT.keep HB4) (by decide +kernel)).mono ?_
  rintro e V4 ⟨rfl, hb⟩
  have HB := below_step HB4 hb
  have KB0 := blk_below K4_0 hb
  have KB1 := blk_below K4_1 hb
  have KB2 := blk_below K4_2 hb
  have KB3 := blk_below K4_3 hb
  clear hb HB4 K4_0 K4_1 K4_2 K4_3
  replace HB := Aside0.mk HB
  replace KB0 := Aside0.mk KB0
  replace KB1 := Aside0.mk KB1
  replace KB2 := Aside0.mk KB2
  replace KB3 := Aside0.mk KB3
  go_wp2_with fail
  have HA := below_alloc HB.out (.cells #[.int .u64 0, .bool false] 25)
  have KA0 := blk_alloc KB0.out (.cells #[.int .u64 0, .bool false] 25)
  have KA1 := blk_alloc KB1.out (.cells #[.int .u64 0, .bool false] 25)
  have KA2 := blk_alloc KB2.out (.cells #[.int .u64 0, .bool false] 25)
  have KA3 := blk_alloc KB3.out (.cells #[.int .u64 0, .bool false] 25)
  have KA4 := blk_new V4 (.cells #[.int .u64 0, .bool false] 25)
  clear HB KB0 KB1 KB2 KB3
  have HB := HA
  -- field.Parse(1,, 1)
  refine Fld.gen (fun W => Below w.heap.size w W ∧ W.heap[V0.heap.size]? = some (.cells #[.int .u64 1073742370, .bool false] 25 (0, 0)) ∧ W.heap[V1.heap.size]? = some (.cells #[.int .u64 97, .bool false] 25 (0, 0)) ∧ W.heap[V2.heap.size]? = some (.cells #[.int .u64 1099512676353, .bool false] 25 (0, 0)) ∧ W.heap[V3.heap.size]? = some (.cells #[.int .u64 0, .bool false] 25 (0, 0)) ∧ W.heap[V4.heap.size]? = some (.cells #[.int .u64 0, .bool false] 25 (0, 0))) ⟨HA, KA0, KA1, KA2, KA3, KA4⟩ ?_
  clear HB HA KA0 KA1 KA2 KA3 KA4
  rintro W5 ⟨HB5, K5_0, K5_1, K5_2, K5_3, K5_4⟩
  refine (field_Parse.calls ⟨#[49, 44]⟩ 1 0 false 2 _ (hT.keep HB5) (by decide +kernel)).mono ?_
  rintro e V5 ⟨rfl, hb⟩
  have HB := below_step HB5 hb
  have KB0 := blk_below K5_0 hb
  have KB1 := blk_below K5_1 hb
  have KB2 := blk_below K5_2 hb
  have KB3 := blk_below K5_3 hb
  have KB4 := blk_below K5_4 hb
  clear hb HB5 K5_0 K5_1 K5_2 K5_3 K5_4
  replace HB := Aside0.mk HB
  replace KB0 := Aside0.mk KB0
  replace KB1 := Aside0.mk KB1
  replace KB2 := Aside0.mk KB2
  replace KB3 := Aside0.mk KB3
  replace KB4 := Aside0.mk KB4
  go_wp2_with fail
  have HA := below_alloc HB.out (.cells #[.int .u64 0, .bool false] 25)
  have KA0 := blk_alloc KB0.out (.cells #[.int .u64 0, .bool false] 25)
  have KA1 := blk_alloc KB1.out (.cells #[.int .u64 0, .bool false] 25)
  have KA2 := blk_alloc KB2.out (.cells #[.int .u64 0, .bool false] 25)
  have KA3 := blk_alloc KB3.out (.cells #[.int .u64 0, .bool false] 25)
  have KA4 := blk_alloc KB4.out (.cells #[.int .u64 0, .bool false] 25)
  have KA5 := blk_new V5 (.cells #[.int .u64 0, .bool false] 25)
  clear HB KB0 KB1 KB2 KB3 KB4
  have HB := HA
  -- field.Parse(*, 3)
  refine Fld.gen (fun W => Below w.heap.size w W ∧ W.heap[V0.heap.size]? = some (.cells #[.int .u64 1073742370, .bool false] 25 (0, 0)) ∧ W.heap[V1.heap.size]? = some (.cells #[.int .u64 97, .bool false] 25 (0, 0)) ∧ W.heap[V2.heap.size]? = some (.cells #[.int .u64 1099512676353, .bool false] 25 (0, 0)) ∧ W.heap[V3.heap.size]? = some (.cells #[.int .u64 0, .bool false] 25 (0, 0)) ∧ W.heap[V4.heap.size]? = some (.cells #[.int .u64 0, .bool false] 25 (0, 0)) ∧ W.heap[V5.heap.size]? = some (.cells #[.int .u64 0, .bool false] 25 (0, 0))) ⟨HA, KA0, KA1, KA2, KA3, KA4, KA5⟩ ?_
  clear HB HA KA0 KA1 KA2 KA3 KA4 KA5
  rintro W6 ⟨HB6, K6_0, K6_1, K6_2, K6_3, K6_4, K6_5⟩
  refine (field_Parse.calls ⟨#[42]⟩ 3 8190 true 0 _ (hT.keep HB6) (by decide +kernel)).mono ?_
  rintro e V6 ⟨rfl, hb⟩
  have HB := below_step HB6 hb
  have KB0 := blk_below K6_0 hb
  have KB1 := blk_below K6_1 hb
  have KB2 := blk_below K6_2 hb
  have KB3 := blk_below K6_3 hb
  have KB4 := blk_below K6_4 hb
  have KB5 := blk_below K6_5 hb
  clear hb HB6 K6_0 K6_1 K6_2 K6_3 K6_4 K6_5
  replace HB := Aside0.mk HB
  replace KB0 := Aside0.mk KB0
  replace KB1 := Aside0.mk KB1
  replace KB2 := Aside0.mk KB2
  replace KB3 := Aside0.mk KB3
  replace KB4 := Aside0.mk KB4
  replace KB5 := Aside0.mk KB5
  go_wp2_with fail
  have HA := below_alloc HB.out (.cells #[.int .u64 8190, .bool true] 25)
  have KA0 := blk_alloc KB0.out (.cells #[.int .u64 8190, .bool true] 25)
  have KA1 := blk_alloc KB1.out (.cells #[.int .u64 8190, .bool true] 25)
  have KA2 := blk_alloc KB2.out (.cells #[.int .u64 8190, .bool true] 25)
  have KA3 := blk_alloc KB3.out (.cells #[.int .u64 8190, .bool true] 25)
  have KA4 := blk_alloc KB4.out (.cells #[.int .u64 8190, .bool true] 25)
  have KA5 := blk_alloc KB5.out (.cells #[.int .u64 8190, .bool true] 25)
  have KA6 := blk_new V6 (.cells #[.int .u64 8190, .bool true] 25)
  clear HB KB0 KB1 KB2 KB3 KB4 KB5
  have HB := HA
  refine Fld.gen (fun W => Below w.heap.size w W ∧ W.heap[V0.heap.size]? = some (.cells #[.int .u64 1073742370, .bool false] 25 (0, 0)) ∧ W.heap[V1.heap.size]? = some (.cells #[.int .u64 97, .bool false] 25 (0, 0)) ∧ W.heap[V2.heap.size]? = some (.cells #[.int .u64 1099512676353, .bool false] 25 (0, 0)) ∧ W.heap[V3.heap.size]? = some (.cells #[.int .u64 0, .bool false] 25 (0, 0)) ∧ W.heap[V4.heap.size]? = some (.cells #[.int .u64 0, .bool false] 25 (0, 0)) ∧ W.heap[V5.heap.size]? = some (.cells #[.int .u64 0, .bool false] 25 (0, 0)) ∧ W.heap[V6.heap.size]? = some (.cells #[.int .u64 8190, .bool true] 25 (0, 0))) ⟨HA, KA0, KA1, KA2, KA3, KA4, KA5, KA6⟩ ?_
  clear HB HA KA0 KA1 KA2 KA3 KA4 KA5 KA6
  rintro W7 ⟨HB7, K7_0, K7_1, K7_2, K7_3, K7_4, K7_5, K7_6⟩
  refine (field_All.calls 3 8190 true 0 _ (by decide +kernel)).mono ?_
  rintro e V7 ⟨rfl, hb⟩
  have HB := below_step HB7 hb
  have KB0 := blk_below K7_0 hb
  have KB1 := blk_below K7_1 hb
  have KB2 := blk_below K7_2 hb
  have KB3 := blk_below K7_3 hb
  have KB4 := blk_below K7_4 hb
  have KB5 := blk_below K7_5 hb
  have KB6 := blk_below K7_6 hb
  clear hb HB7 K7_0 K7_1 K7_2 K7_3 K7_4 K7_5 K7_6
  replace HB := Aside0.mk HB
  replace KB0 := Aside0.mk KB0
  replace KB1 := Aside0.mk KB1
  replace KB2 := Aside0.mk KB2
  replace KB3 := Aside0.mk KB3
  replace KB4 := Aside0.mk KB4
  replace KB5 := Aside0.mk KB5
  replace KB6 := Aside0.mk KB6
  have c0_0 : V7.cell? ⟨V0.heap.size, 0, none⟩ = some (.int .u64 1073742370) := (blk_cell KB0.out 0).trans rfl
  have c0_1 : V7.cell? ⟨V0.heap.size, 1, none⟩ = some (.bool false) := (blk_cell KB0.out 1).trans rfl
  have l0 := blk_lt KB0.out
  have c1_0 : V7.cell? ⟨V1.heap.size, 0, none⟩ = some (.int .u64 97) := (blk_cell KB1.out 0).trans rfl
  have c1_1 : V7.cell? ⟨V1.heap.size, 1, none⟩ = some (.bool false) := (blk_cell KB1.out 1).trans rfl
  have l1 := blk_lt KB1.out
  have c2_0 : V7.cell? ⟨V2.heap.size, 0, none⟩ = some (.int .u64 1099512676353) := (blk_cell KB2.out 0).trans rfl
  have c2_1 : V7.cell? ⟨V2.heap.size, 1, none⟩ = some (.bool false) := (blk_cell KB2.out 1).trans rfl
  have l2 := blk_lt KB2.out
  have c3_0 : V7.cell? ⟨V3.heap.size, 0, none⟩ = some (.int .u64 0) := (blk_cell KB3.out 0).trans rfl
  have c3_1 : V7.cell? ⟨V3.heap.size, 1, none⟩ = some (.bool false) := (blk_cell KB3.out 1).trans rfl
  have l3 := blk_lt KB3.out
  have c4_0 : V7.cell? ⟨V4.heap.size, 0, none⟩ = some (.int .u64 0) := (blk_cell KB4.out 0).trans rfl
  have c4_1 : V7.cell? ⟨V4.heap.size, 1, none⟩ = some (.bool false) := (blk_cell KB4.out 1).trans rfl
  have l4 := blk_lt KB4.out
  have c5_0 : V7.cell? ⟨V5.heap.size, 0, none⟩ = some (.int .u64 0) := (blk_cell KB5.out 0).trans rfl
  have c5_1 : V7.cell? ⟨V5.heap.size, 1, none⟩ = some (.bool false) := (blk_cell KB5.out 1).trans rfl
  have l5 := blk_lt KB5.out
  have c6_0 : V7.cell? ⟨V6.heap.size, 0, none⟩ = some (.int .u64 8190) := (blk_cell KB6.out 0).trans rfl
  have c6_1 : V7.cell? ⟨V6.heap.size, 1, none⟩ = some (.bool true) := (blk_cell KB6.out 1).trans rfl
  have l6 := blk_lt KB6.out
  go_wp2_with fail
  clear c0_0 c0_1 c1_0 c1_1 c2_0 c2_1 c3_0 c3_1 c4_0 c4_1 c5_0 c5_1 c6_0 c6_1 l0 l1 l2 l3 l4 l5 l6
  have HA := below_alloc HB.out (.cells #[.int .u64 8190, .bool true] 25)
  have KA0 := blk_alloc KB0.out (.cells #[.int .u64 8190, .bool true] 25)
  have KA1 := blk_alloc KB1.out (.cells #[.int .u64 8190, .bool true] 25)
  have KA2 := blk_alloc KB2.out (.cells #[.int .u64 8190, .bool true] 25)
  have KA3 := blk_alloc KB3.out (.cells #[.int .u64 8190, .bool true] 25)
  have KA4 := blk_alloc KB4.out (.cells #[.int .u64 8190, .bool true] 25)
  have KA5 := blk_alloc KB5.out (.cells #[.int .u64 8190, .bool true] 25)
  have KA6 := blk_alloc KB6.out (.cells #[.int .u64 8190, .bool true] 25)
  have KA7 := blk_new V7 (.cells #[.int .u64 8190, .bool true] 25)
  clear HB KB0 KB1 KB2 KB3 KB4 KB5 KB6
  have HB := HA
  refine Fld.gen (fun W => Below w.heap.size w W ∧ W.heap[V0.heap.size]? = some (.cells #[.int .u64 1073742370, .bool false] 25 (0, 0)) ∧ W.heap[V1.heap.size]? = some (.cells #[.int .u64 97, .bool false] 25 (0, 0)) ∧ W.heap[V2.heap.size]? = some (.cells #[.int .u64 1099512676353, .bool false] 25 (0, 0)) ∧ W.heap[V3.heap.size]? = some (.cells #[.int .u64 0, .bool false] 25 (0, 0)) ∧ W.heap[V4.heap.size]? = some (.cells #[.int .u64 0, .bool false] 25 (0, 0)) ∧ W.heap[V5.heap.size]? = some (.cells #[.int .u64 0, .bool false] 25 (0, 0)) ∧ W.heap[V6.heap.size]? = some (.cells #[.int .u64 8190, .bool true] 25 (0, 0)) ∧ W.heap[V7.heap.size]? = some (.cells #[.int .u64 8190, .bool true] 25 (0, 0))) ⟨HA, KA0, KA1, KA2, KA3, KA4, KA5, KA6, KA7⟩ ?_
  clear HB HA KA0 KA1 KA2 KA3 KA4 KA5 KA6 KA7
  rintro W8 ⟨HB8, K8_0, K8_1, K8_2, K8_3, K8_4, K8_5, K8_6, K8_7⟩
  refine (field_First.calls 1073742370 false 10 30 true _ (hT.keep HB8) (by decide +kernel)).mono ?_
  rintro e V8 ⟨rfl, hb⟩
  have HB := below_step HB8 hb
  have KB0 := blk_below K8_0 hb
  have KB1 := blk_below K8_1 hb
  have KB2 := blk_below K8_2 hb
  have KB3 := blk_below K8_3 hb
  have KB4 := blk_below K8_4 hb
  have KB5 := blk_below K8_5 hb
  have KB6 := blk_below K8_6 hb
  have KB7 := blk_below K8_7 hb
  clear hb HB8 K8_0 K8_1 K8_2 K8_3 K8_4 K8_5 K8_6 K8_7
  replace HB := Aside0.mk HB
  replace KB0 := Aside0.mk KB0
  replace KB1 := Aside0.mk KB1
  replace KB2 := Aside0.mk KB2
  replace KB3 := Aside0.mk KB3
  replace KB4 := Aside0.mk KB4
  replace KB5 := Aside0.mk KB5
  replace KB6 := Aside0.mk KB6
  replace KB7 := Aside0.mk KB7
  have c0_0 : V8.cell? ⟨V0.heap.size, 0, none⟩ = some (.int .u64 1073742370) := (blk_cell KB0.out 0).trans rfl
  have c0_1 : V8.cell? ⟨V0.heap.size, 1, none⟩ = some (.bool false) := (blk_cell KB0.out 1).trans rfl
  have l0 := blk_lt KB0.out
  have c1_0 : V8.cell? ⟨V1.heap.size, 0, none⟩ = some (.int .u64 97) := (blk_cell KB1.out 0).trans rfl
  have c1_1 : V8.cell? ⟨V1.heap.size, 1, none⟩ = some (.bool false) := (blk_cell KB1.out 1).trans rfl
  have l1 := blk_lt KB1.out
  have c2_0 : V8.cell? ⟨V2.heap.size, 0, none⟩ = some (.int .u64 1099512676353) := (blk_cell KB2.out 0).trans rfl
  have c2_1 : V8.cell? ⟨V2.heap.size, 1, none⟩ = some (.bool false) := (blk_cell KB2.out 1).trans rfl
  have l2 := blk_lt KB2.out
  have c3_0 : V8.cell? ⟨V3.heap.size, 0, none⟩ = some (.int .u64 0) := (blk_cell KB3.out 0).trans rfl
  have c3_1 : V8.cell? ⟨V3.heap.size, 1, none⟩ = some (.bool false) := (blk_cell KB3.out 1).trans rfl
  have l3 := blk_lt KB3.out
  have c4_0 : V8.cell? ⟨V4.heap.size, 0, none⟩ = some (.int .u64 0) := (blk_cell KB4.out 0).trans rfl
  have c4_1 : V8.cell? ⟨V4.heap.size, 1, none⟩ = some (.bool false) := (blk_cell KB4.out 1).trans rfl
  have l4 := blk_lt KB4.out
  have c5_0 : V8.cell? ⟨V5.heap.size, 0, none⟩ = some (.int .u64 0) := (blk_cell KB5.out 0).trans rfl
  have c5_1 : V8.cell? ⟨V5.heap.size, 1, none⟩ = some (.bool false) := (blk_cell KB5.out 1).trans rfl
  have l5 := blk_lt KB5.out
  have c6_0 : V8.cell? ⟨V6.heap.size, 0, none⟩ = some (.int .u64 8190) := (blk_cell KB6.out 0).trans rfl
  have c6_1 : V8.cell? ⟨V6.heap.size, 1, none⟩ = some (.bool true) := (blk_cell KB6.out 1).trans rfl
  have l6 := blk_lt KB6.out
  have c7_0 : V8.cell? ⟨V7.heap.size, 0, none⟩ = some (.int .u64 8190) := (blk_cell KB7.out 0).trans rfl
  have c7_1 : V8.cell? ⟨V7.heap.size, 1, none⟩ = some (.bool true) := (blk_cell KB7.out 1).trans rfl
  have l7 := blk_lt KB7.out
  go_wp2_with fail
  clear c0_0 c0_1 c1_0 c1_1 c2_0 c2_1 c3_0 c3_1 c4_0 c4_1 c5_0 c5_1 c6_0 c6_1 c7_0 c7_1 l0 l1 l2 l3 l4 l5 l6 l7
  have HA := HB.out
  have KA0 := KB0.out
  have KA1 := KB1.out
  have KA2 := KB2.out
  have KA3 := KB3.out
  have KA4 := KB4.out
  have KA5 := KB5.out
  have KA6 := KB6.out
  have KA7 := KB7.out
  clear HB KB0 KB1 KB2 KB3 KB4 KB5 KB6 KB7
  have HB := HA
  refine Fld.gen (fun W => Below w.heap.size w W ∧ W.heap[V0.heap.size]? = some (.cells #[.int .u64 1073742370, .bool false] 25 (0, 0)) ∧ W.heap[V1.heap.size]? = some (.cells #[.int .u64 97, .bool false] 25 (0, 0)) ∧ W.heap[V2.heap.size]? = some (.cells #[.int .u64 1099512676353, .bool false] 25 (0, 0)) ∧ W.heap[V3.heap.size]? = some (.cells #[.int .u64 0, .bool false] 25 (0, 0)) ∧ W.heap[V4.heap.size]? = some (.cells #[.int .u64 0, .bool false] 25 (0, 0)) ∧ W.heap[V5.heap.size]? = some (.cells #[.int .u64 0, .bool false] 25 (0, 0)) ∧ W.heap[V6.heap.size]? = some (.cells #[.int .u64 8190, .bool true] 25 (0, 0)) ∧ W.heap[V7.heap.size]? = some (.cells #[.int .u64 8190, .bool true] 25 (0, 0))) ⟨HA, KA0, KA1, KA2, KA3, KA4, KA5, KA6, KA7⟩ ?_
  clear HB HA KA0 KA1 KA2 KA3 KA4 KA5 KA6 KA7
  rintro W9 ⟨HB9, K9_0, K9_1, K9_2, K9_3, K9_4, K9_5, K9_6, K9_7⟩
  refine (field_Count.calls 1073742370 false 4 _ (by decide +kernel)).mono ?_
  rintro e V9 ⟨rfl, hb⟩
  have HB := below_step HB9 hb
  have KB0 := blk_below K9_0 hb
  have KB1 := blk_below K9_1 hb
  have KB2 := blk_below K9_2 hb
  have KB3 := blk_below K9_3 hb
  have KB4 := blk_below K9_4 hb
  have KB5 := blk_below K9_5 hb
  have KB6 := blk_below K9_6 hb
  have KB7 := blk_below K9_7 hb
  clear hb HB9 K9_0 K9_1 K9_2 K9_3 K9_4 K9_5 K9_6 K9_7
  replace HB := Aside0.mk HB
  replace KB0 := Aside0.mk KB0
  replace KB1 := Aside0.mk KB1
  replace KB2 := Aside0.mk KB2
  replace KB3 := Aside0.mk KB3
  replace KB4 := Aside0.mk KB4
  replace KB5 := Aside0.mk KB5
  replace KB6 := Aside0.mk KB6
  replace KB7 := Aside0.mk KB7
  have c0_0 : V9.cell? ⟨V0.heap.size, 0, none⟩ = some (.int .u64 1073742370) := (blk_cell KB0.out 0).trans rfl
  have c0_1 : V9.cell? ⟨V0.heap.size, 1, none⟩ = some (.bool false) := (blk_cell KB0.out 1).trans rfl
  have l0 := blk_lt KB0.out
  have c1_0 : V9.cell? ⟨V1.heap.size, 0, none⟩ = some (.int .u64 97) := (blk_cell KB1.out 0).trans rfl
  have c1_1 : V9.cell? ⟨V1.heap.size, 1, none⟩ = some (.bool false) := (blk_cell KB1.out 1).trans rfl
  have l1 := blk_lt KB1.out
  have c2_0 : V9.cell? ⟨V2.heap.size, 0, none⟩ = some (.int .u64 1099512676353) := (blk_cell KB2.out 0).trans rfl
  have c2_1 : V9.cell? ⟨V2.heap.size, 1, none⟩ = some (.bool false) := (blk_cell KB2.out 1).trans rfl
  have l2 := blk_lt KB2.out
  have c3_0 : V9.cell? ⟨V3.heap.size, 0, none⟩ = some (.int .u64 0) := (blk_cell KB3.out 0).trans rfl
  have c3_1 : V9.cell? ⟨V3.heap.size, 1, none⟩ = some (.bool false) := (blk_cell KB3.out 1).trans rfl
  have l3 := blk_lt KB3.out
  have c4_0 : V9.cell? ⟨V4.heap.size, 0, none⟩ = some (.int .u64 0) := (blk_cell KB4.out 0).trans rfl
  have c4_1 : V9.cell? ⟨V4.heap.size, 1, none⟩ = some (.bool false) := (blk_cell KB4.out 1).trans rfl
  have l4 := blk_lt KB4.out
  have c5_0 : V9.cell? ⟨V5.heap.size, 0, none⟩ = some (.int .u64 0) := (blk_cell KB5.out 0).trans rfl
  have c5_1 : V9.cell? ⟨V5.heap.size, 1, none⟩ = some (.bool false) := (blk_cell KB5.out 1).trans rfl
  have l5 := blk_lt KB5.out
  have c6_0 : V9.cell? ⟨V6.heap.size, 0, none⟩ = some (.int .u64 8190) := (blk_cell KB6.out 0).trans rfl
  have c6_1 : V9.cell? ⟨V6.heap.size, 1, none⟩ = some (.bool true) := (blk_cell KB6.out 1).trans rfl
  have l6 := blk_lt KB6.out
  have c7_0 : V9.cell? ⟨V7.heap.size, 0, none⟩ = some (.int .u64 8190) := (blk_cell KB7.out 0).trans rfl
  have c7_1 : V9.cell? ⟨V7.heap.size, 1, none⟩ = some (.bool true) := (blk_cell KB7.out 1).trans rfl
  have l7 := blk_lt KB7.out
  go_wp2_with fail
  clear c0_0 c0_1 c1_0 c1_1 c2_0 c2_1 c3_0 c3_1 c4_0 c4_1 c5_0 c5_1 c6_0 c6_1 c7_0 c7_1 l0 l1 l2 l3 l4 l5 l6 l7
  have HA := HB.out
  have KA0 := KB0.out
  have KA1 := KB1.out
  have KA2 := KB2.out
  have KA3 := KB3.out
  have KA4 := KB4.out
  have KA5 := KB5.out
  have KA6 := KB6.out
  have KA7 := KB7.out
  clear HB KB0 KB1 KB2 KB3 KB4 KB5 KB6 KB7
  have HB := HA
  refine Fld.gen (fun W => Below w.heap.size w W ∧ W.heap[V0.heap.size]? = some (.cells #[.int .u64 1073742370, .bool false] 25 (0, 0)) ∧ W.heap[V1.heap.size]? = some (.cells #[.int .u64 97, .bool false] 25 (0, 0)) ∧ W.heap[V2.heap.size]? = some (.cells #[.int .u64 1099512676353, .bool false] 25 (0, 0)) ∧ W.heap[V3.heap.size]? = some (.cells #[.int .u64 0, .bool false] 25 (0, 0)) ∧ W.heap[V4.heap.size]? = some (.cells #[.int .u64 0, .bool false] 25 (0, 0)) ∧ W.heap[V5.heap.size]? = some (.cells #[.int .u64 0, .bool false] 25 (0, 0)) ∧ W.heap[V6.heap.size]? = some (.cells #[.int .u64 8190, .bool true] 25 (0, 0)) ∧ W.heap[V7.heap.size]? = some (.cells #[.int .u64 8190, .bool true] 25 (0, 0))) ⟨HA, KA0, KA1, KA2, KA3, KA4, KA5, KA6, KA7⟩ ?_
  clear HB HA KA0 KA1 KA2 KA3 KA4 KA5 KA6 KA7
  rintro W10 ⟨HB10, K10_0, K10_1, K10_2, K10_3, K10_4, K10_5, K10_6, K10_7⟩
  refine (field_Has.calls 1073742370 false 9 true _ (by decide +kernel)).mono ?_
  rintro e V10 ⟨rfl, hb⟩
  have HB := below_step HB10 hb
  have KB0 := blk_below K10_0 hb
  have KB1 := blk_below K10_1 hb
  have KB2 := blk_below K10_2 hb
  have KB3 := blk_below K10_3 hb
  have KB4 := blk_below K10_4 hb
  have KB5 := blk_below K10_5 hb
  have KB6 := blk_below K10_6 hb
  have KB7 := blk_below K10_7 hb
  clear hb HB10 K10_0 K10_1 K10_2 K10_3 K10_4 K10_5 K10_6 K10_7
  replace HB := Aside0.mk HB
  replace KB0 := Aside0.mk KB0
  replace KB1 := Aside0.mk KB1
  replace KB2 := Aside0.mk KB2
  replace KB3 := Aside0.mk KB3
  replace KB4 := Aside0.mk KB4
  replace KB5 := Aside0.mk KB5
  replace KB6 := Aside0.mk KB6
  replace KB7 := Aside0.mk KB7
  have c0_0 : V10.cell? ⟨V0.heap.size, 0, none⟩ = some (.int .u64 1073742370) := (blk_cell KB0.out 0).trans rfl
  have c0_1 : V10.cell? ⟨V0.heap.size, 1, none⟩ = some (.bool false) := (blk_cell KB0.out 1).trans rfl
  have l0 := blk_lt KB0.out
  have c1_0 : V10.cell? ⟨V1.heap.size, 0, none⟩ = some (.int .u64 97) := (blk_cell KB1.out 0).trans rfl
  have c1_1 : V10.cell? ⟨V1.heap.size, 1, none⟩ = some (.bool false) := (blk_cell KB1.out 1).trans rfl
  have l1 := blk_lt KB1.out
  have c2_0 : V10.cell? ⟨V2.heap.size, 0, none⟩ = some (.int .u64 1099512676353) := (blk_cell KB2.out 0).trans rfl
  have c2_1 : V10.cell? ⟨V2.heap.size, 1, none⟩ = some (.bool false) := (blk_cell KB2.out 1).trans rfl
  have l2 := blk_lt KB2.out
  have c3_0 : V10.cell? ⟨V3.heap.size, 0, none⟩ = some (.int .u64 0) := (blk_cell KB3.out 0).trans rfl
  have c3_1 : V10.cell? ⟨V3.heap.size, 1, none⟩ = some (.bool false) := (blk_cell KB3.out 1).trans rfl
  have l3 := blk_lt KB3.out
  have c4_0 : V10.cell? ⟨V4.heap.size, 0, none⟩ = some (.int .u64 0) := (blk_cell KB4.out 0).trans rfl
  have c4_1 : V10.cell? ⟨V4.heap.size, 1, none⟩ = some (.bool false) := (blk_cell KB4.out 1).trans rfl
  have l4 := blk_lt KB4.out
  have c5_0 : V10.cell? ⟨V5.heap.size, 0, none⟩ = some (.int .u64 0) := (blk_cell KB5.out 0).trans rfl
  have c5_1 : V10.cell? ⟨V5.heap.size, 1, none⟩ = some (.bool false) := (blk_cell KB5.out 1).trans rfl
  have l5 := blk_lt KB5.out
  have c6_0 : V10.cell? ⟨V6.heap.size, 0, none⟩ = some (.int .u64 8190) := (blk_cell KB6.out 0).trans rfl
  have c6_1 : V10.cell? ⟨V6.heap.size, 1, none⟩ = some (.bool true) := (blk_cell KB6.out 1).trans rfl
  have l6 := blk_lt KB6.out
  have c7_0 : V10.cell? ⟨V7.heap.size, 0, none⟩ = some (.int .u64 8190) := (blk_cell KB7.out 0).trans rfl
  have c7_1 : V10.cell? ⟨V7.heap.size, 1, none⟩ = some (.bool true) := (blk_cell KB7.out 1).trans rfl
  have l7 := blk_lt KB7.out
  go_wp2_with fail
  clear c0_0 c0_1 c1_0 c1_1 c2_0 c2_1 c3_0 c3_1 c4_0 c4_1 c5_0 c5_1 c6_0 c6_1 c7_0 c7_1 l0 l1 l2 l3 l4 l5 l6 l7
  have HA := HB.out
  have KA0 := KB0.out
  have KA1 := KB1.out
  have KA2 := KB2.out
  have KA3 := KB3.out
  have KA4 := KB4.out
  have KA5 := KB5.out
  have KA6 := KB6.out
  have KA7 := KB7.out
  clear HB KB0 KB1 KB2 KB3 KB4 KB5 KB6 KB7
  have HB := HA
  refine Fld.gen (fun W => Below w.heap.size w W ∧ W.heap[V0.heap.size]? = some (.cells #[.int .u64 1073742370, .bool false] 25 (0, 0)) ∧ W.heap[V1.heap.size]? = some (.cells #[.int .u64 97, .bool false] 25 (0, 0)) ∧ W.heap[V2.heap.size]? = some (.cells #[.int .u64 1099512676353, .bool false] 25 (0, 0)) ∧ W.heap[V3.heap.size]? = some (.cells #[.int .u64 0, .bool false] 25 (0, 0)) ∧ W.heap[V4.heap.size]? = some (.cells #[.int .u64 0, .bool false] 25 (0, 0)) ∧ W.heap[V5.heap.size]? = some (.cells #[.int .u64 0, .bool false] 25 (0, 0)) ∧ W.heap[V6.heap.size]? = some (.cells #[.int .u64 8190, .bool true] 25 (0, 0)) ∧ W.heap[V7.heap.size]? = some (.cells #[.int .u64 8190, .bool true] 25 (0, 0))) ⟨HA, KA0, KA1, KA2, KA3, KA4, KA5, KA6, KA7⟩ ?_
  clear HB HA KA0 KA1 KA2 KA3 KA4 KA5 KA6 KA7
  rintro W11 ⟨HB11, K11_0, K11_1, K11_2, K11_3, K11_4, K11_5, K11_6, K11_7⟩
  refine (field_Check.calls 1073742370 false 0 0 _ (by decide +kernel)).mono ?_
  rintro e V11 ⟨rfl, hb⟩
  have HB := below_step HB11 hb
  have KB0 := blk_below K11_0 hb
  have KB1 := blk_below K11_1 hb
  have KB2 := blk_below K11_2 hb
  have KB3 := blk_below K11_3 hb
  have KB4 := blk_below K11_4 hb
  have KB5 := blk_below K11_5 hb
  have KB6 := blk_below K11_6 hb
  have KB7 := blk_below K11_7 hb
  clear hb HB11 K11_0 K11_1 K11_2 K11_3 K11_4 K11_5 K11_6 K11_7
  replace HB := Aside0.mk HB
  replace KB0 := Aside0.mk KB0
  replace KB1 := Aside0.mk KB1
  replace KB2 := Aside0.mk KB2
  replace KB3 := Aside0.mk KB3
  replace KB4 := Aside0.mk KB4
  replace KB5 := Aside0.mk KB5
  replace KB6 := Aside0.mk KB6
  replace KB7 := Aside0.mk KB7
  have c0_0 : V11.cell? ⟨V0.heap.size, 0, none⟩ = some (.int .u64 1073742370) := (blk_cell KB0.out 0).trans rfl
  have c0_1 : V11.cell? ⟨V0.heap.size, 1, none⟩ = some (.bool false) := (blk_cell KB0.out 1).trans rfl
  have l0 := blk_lt KB0.out
  have c1_0 : V11.cell? ⟨V1.heap.size, 0, none⟩ = some (.int .u64 97) := (blk_cell KB1.out 0).trans rfl
  have c1_1 : V11.cell? ⟨V1.heap.size, 1, none⟩ = some (.bool false) := (blk_cell KB1.out 1).trans rfl
  have l1 := blk_lt KB1.out
  have c2_0 : V11.cell? ⟨V2.heap.size, 0, none⟩ = some (.int .u64 1099512676353) := (blk_cell KB2.out 0).trans rfl
  have c2_1 : V11.cell? ⟨V2.heap.size, 1, none⟩ = some (.bool false) := (blk_cell KB2.out 1).trans rfl
  have l2 := blk_lt KB2.out
  have c3_0 : V11.cell? ⟨V3.heap.size, 0, none⟩ = some (.int .u64 0) := (blk_cell KB3.out 0).trans rfl
  have c3_1 : V11.cell? ⟨V3.heap.size, 1, none⟩ = some (.bool false) := (blk_cell KB3.out 1).trans rfl
  have l3 := blk_lt KB3.out
  have c4_0 : V11.cell? ⟨V4.heap.size, 0, none⟩ = some (.int .u64 0) := (blk_cell KB4.out 0).trans rfl
  have c4_1 : V11.cell? ⟨V4.heap.size, 1, none⟩ = some (.bool false) := (blk_cell KB4.out 1).trans rfl
  have l4 := blk_lt KB4.out
  have c5_0 : V11.cell? ⟨V5.heap.size, 0, none⟩ = some (.int .u64 0) := (blk_cell KB5.out 0).trans rfl
  have c5_1 : V11.cell? ⟨V5.heap.size, 1, none⟩ = some (.bool false) := (blk_cell KB5.out 1).trans rfl
  have l5 := blk_lt KB5.out
  have c6_0 : V11.cell? ⟨V6.heap.size, 0, none⟩ = some (.int .u64 8190) := (blk_cell KB6.out 0).trans rfl
  have c6_1 : V11.cell? ⟨V6.heap.size, 1, none⟩ = some (.bool true) := (blk_cell KB6.out 1).trans rfl
  have l6 := blk_lt KB6.out
  have c7_0 : V11.cell? ⟨V7.heap.size, 0, none⟩ = some (.int .u64 8190) := (blk_cell KB7.out 0).trans rfl
  have c7_1 : V11.cell? ⟨V7.heap.size, 1, none⟩ = some (.bool true) := (blk_cell KB7.out 1).trans rfl
  have l7 := blk_lt KB7.out
  go_wp2_with fail
  clear c0_0 c0_1 c1_0 c1_1 c2_0 c2_1 c3_0 c3_1 c4_0 c4_1 c5_0 c5_1 c6_0 c6_1 c7_0 c7_1 l0 l1 l2 l3 l4 l5 l6 l7
  have HA := HB.out
  have KA0 := KB0.out
  have KA1 := KB1.out
  have KA2 := KB2.out
  have KA3 := KB3.out
  have KA4 := KB4.out
  have KA5 := KB5.out
  have KA6 := KB6.out
  have KA7 := KB7.out
  clear HB KB0 KB1 KB2 KB3 KB4 KB5 KB6 KB7
  have HB := HA
  refine Fld.gen (fun W => Below w.heap.size w W ∧ W.heap[V0.heap.size]? = some (.cells #[.int .u64 1073742370, .bool false] 25 (0, 0)) ∧ W.heap[V1.heap.size]? = some (.cells #[.int .u64 97, .bool false] 25 (0, 0)) ∧ W.heap[V2.heap.size]? = some (.cells #[.int .u64 1099512676353, .bool false] 25 (0, 0)) ∧ W.heap[V3.heap.size]? = some (.cells #[.int .u64 0, .bool false] 25 (0, 0)) ∧ W.heap[V4.heap.size]? = some (.cells #[.int .u64 0, .bool false] 25 (0, 0)) ∧ W.heap[V5.heap.size]? = some (.cells #[.int .u64 0, .bool false] 25 (0, 0)) ∧ W.heap[V6.heap.size]? = some (.cells #[.int .u64 8190, .bool true] 25 (0, 0)) ∧ W.heap[V7.heap.size]? = some (.cells #[.int .u64 8190, .bool true] 25 (0, 0))) ⟨HA, KA0, KA1, KA2, KA3, KA4, KA5, KA6, KA7⟩ ?_
  clear HB HA KA0 KA1 KA2 KA3 KA4 KA5 KA6 KA7
  rintro W12 ⟨HB12, K12_0, K12_1, K12_2, K12_3, K12_4, K12_5, K12_6, K12_7⟩
  refine (field_Check.calls 1073742370 false 1 2 _ (by decide +kernel)).mono ?_
  rintro e V12 ⟨rfl, hb⟩
  have HB := below_step HB12 hb
  have KB0 := blk_below K12_0 hb
  have KB1 := blk_below K12_1 hb
  have KB2 := blk_below K12_2 hb
  have KB3 := blk_below K12_3 hb
  have KB4 := blk_below K12_4 hb
  have KB5 := blk_below K12_5 hb
  have KB6 := blk_below K12_6 hb
  have KB7 := blk_below K12_7 hb
  clear hb HB12 K12_0 K12_1 K12_2 K12_3 K12_4 K12_5 K12_6 K12_7
  replace HB := Aside0.mk HB
  replace KB0 := Aside0.mk KB0
  replace KB1 := Aside0.mk KB1
  replace KB2 := Aside0.mk KB2
  replace KB3 := Aside0.mk KB3
  replace KB4 := Aside0.mk KB4
  replace KB5 := Aside0.mk KB5
  replace KB6 := Aside0.mk KB6
  replace KB7 := Aside0.mk KB7
  have c0_0 : V12.cell? ⟨V0.heap.size, 0, none⟩ = some (.int .u64 1073742370) := (blk_cell KB0.out 0).trans rfl
  have c0_1 : V12.cell? ⟨V0.heap.size, 1, none⟩ = some (.bool false) := (blk_cell KB0.out 1).trans rfl
  have l0 := blk_lt KB0.out
  have c1_0 : V12.cell? ⟨V1.heap.size, 0, none⟩ = some (.int .u64 97) := (blk_cell KB1.out 0).trans rfl
  have c1_1 : V12.cell? ⟨V1.heap.size, 1, none⟩ = some (.bool false) := (blk_cell KB1.out 1).trans rfl
  have l1 := blk_lt KB1.out
  have c2_0 : V12.cell? ⟨V2.heap.size, 0, none⟩ = some (.int .u64 1099512676353) := (blk_cell KB2.out 0).trans rfl
  have c2_1 : V12.cell? ⟨V2.heap.size, 1, none⟩ = some (.bool false) := (blk_cell KB2.out 1).trans rfl
  have l2 := blk_lt KB2.out
  have c3_0 : V12.cell? ⟨V3.heap.size, 0, none⟩ = some (.int .u64 0) := (blk_cell KB3.out 0).trans rfl
  have c3_1 : V12.cell? ⟨V3.heap.size, 1, none⟩ = some (.bool false) := (blk_cell KB3.out 1).trans rfl
  have l3 := blk_lt KB3.out
  have c4_0 : V12.cell? ⟨V4.heap.size, 0, none⟩ = some (.int .u64 0) := (blk_cell KB4.out 0).trans rfl
  have c4_1 : V12.cell? ⟨V4.heap.size, 1, none⟩ = some (.bool false) := (blk_cell KB4.out 1).trans rfl
  have l4 := blk_lt KB4.out
  have c5_0 : V12.cell? ⟨V5.heap.size, 0, none⟩ = some (.int .u64 0) := (blk_cell KB5.out 0).trans rfl
  have c5_1 : V12.cell? ⟨V5.heap.size, 1, none⟩ = some (.bool false) := (blk_cell KB5.out 1).trans rfl
  have l5 := blk_lt KB5.out
  have c6_0 : V12.cell? ⟨V6.heap.size, 0, none⟩ = some (.int .u64 8190) := (blk_cell KB6.out 0).trans rfl
  have c6_1 : V12.cell? ⟨V6.heap.size, 1, none⟩ = some (.bool true) := (blk_cell KB6.out 1).trans rfl
  have l6 := blk_lt KB6.out
  have c7_0 : V12.cell? ⟨V7.heap.size, 0, none⟩ = some (.int .u64 8190) := (blk_cell KB7.out 0).trans rfl
  have c7_1 : V12.cell? ⟨V7.heap.size, 1, none⟩ = some (.bool true) := (blk_cell KB7.out 1).trans rfl
  have l7 := blk_lt KB7.out
  go_wp2_with fail
  go_ret
  exact ⟨rfl, HB.out⟩

/-! ### complineref17_Limits: function 49 -/
def complineref17_Limits.f (a0 : Int) : Option (Int × Int × Int) := if a0 = 0 then (some (0, 59, 0)) else (if a0 = 1 then (some (0, 23, 0)) else (if a0 = 2 then (some (1, 31, 0)) else (if a0 = 3 then (some (1, 12, 0)) else (if a0 = 4 then (some (0, 7, 0)) else (some (0, 0, 7))))))
set_option maxHeartbeats 8000000 in
set_option maxRecDepth 100000 in
theorem complineref17_Limits.calls (a0 : Int) (r1 : Int) (r2 : Int) (r3 : Int) (w : World) (h : complineref17_Limits.f a0 = some (r1, r2, r3)) :
    Calls Tryd.prog 49 #[.int .i64 a0] w fun e w' => e = .returned (.tuple #[.int .i64 r1, .int .i64 r2, .int .i64 r3]) ∧ Drawn0 w w' := by
  have H : (if a0 = 0 then (some (0, 59, 0)) else (if a0 = 1 then (some (0, 23, 0)) else (if a0 = 2 then (some (1, 31, 0)) else (if a0 = 3 then (some (1, 12, 0)) else (if a0 = 4 then (some (0, 7, 0)) else (some (0, 0, 7))))))) = some (r1, r2, r3) := h
  clear h
  by_cases c2 : a0 = 0
  · rw [if_pos c2] at H
    have c2b0 : (a0 == 0) = true := beq_iff_eq.mpr c2
    have c2b1 : (a0 != 0) = false := bne_eq_false_iff_eq.mpr c2
    clear c2
    simp only [Option.some.injEq, Prod.mk.injEq] at H
    obtain ⟨rfl, rfl, rfl⟩ := H
    go_enter Tryd.func49, Tryd.ntmps49
    go_wp2
    go_ret3
    exact ⟨by first | rfl | (simp; done) | (simp [*]; done), by repeat (first | exact Drawn0.refl _ | apply Drawn0.step)⟩
  · rw [if_neg c2] at H
    have c2b0 : (a0 == 0) = false := beq_eq_false_iff_ne.mpr c2
    have c2b1 : (a0 != 0) = true := bne_iff_ne.mpr c2
    by_cases c3 : a0 = 1
    · rw [if_pos c3] at H
      have c3b0 : (a0 == 1) = true := beq_iff_eq.mpr c3
      have c3b1 : (a0 != 1) = false := bne_eq_false_iff_eq.mpr c3
      clear c3
      simp only [Option.some.injEq, Prod.mk.injEq] at H
      obtain ⟨rfl, rfl, rfl⟩ := H
      go_enter Tryd.func49, Tryd.ntmps49
      go_wp2
      go_ret3
      exact ⟨by first | rfl | (simp; done) | (simp [*]; done), by repeat (first | exact Drawn0.refl _ | apply Drawn0.step)⟩
    · rw [if_neg c3] at H
      have c3b0 : (a0 == 1) = false := beq_eq_false_iff_ne.mpr c3
      have c3b1 : (a0 != 1) = true := bne_iff_ne.mpr c3
      by_cases c4 : a0 = 2
      · rw [if_pos c4] at H
        have c4b0 : (a0 == 2) = true := beq_iff_eq.mpr c4
        have c4b1 : (a0 != 2) = false := bne_eq_false_iff_eq.mpr c4
        clear c4
        simp only [Option.some.injEq, Prod.mk.injEq] at H
        obtain ⟨rfl, rfl, rfl⟩ := H
        go_enter Tryd.func49, Tryd.ntmps49
        go_wp2
        go_ret3
        exact ⟨by first | rfl | (simp; done) | (simp [*]; done), by repeat (first | exact Drawn0.refl _ | apply Drawn0.step)⟩
      · rw [if_neg c4] at H
        have c4b0 : (a0 == 2) = false := beq_eq_false_iff_ne.mpr c4
        have c4b1 : (a0 != 2) = true := bne_iff_ne.mpr c4
        by_cases c5 : a0 = 3
        · rw [if_pos c5] at H
          have c5b0 : (a0 == 3) = true := beq_iff_eq.mpr c5
          have c5b1 : (a0 != 3) = false := bne_eq_false_iff_eq.mpr c5
          clear c5
          simp only [Option.some.injEq, Prod.mk.injEq] at H
          obtain ⟨rfl, rfl, rfl⟩ := H
          go_enter Tryd.func49, Tryd.ntmps49
          go_wp2
          go_ret3
          exact ⟨by first | rfl | (simp; done) | (simp [*]; done), by repeat (first | exact Drawn0.refl _ | apply Drawn0.step)⟩
        · rw [if_neg c5] at H
          have c5b0 : (a0 == 3) = false := beq_eq_false_iff_ne.mpr c5
          have c5b1 : (a0 != 3) = true := bne_iff_ne.mpr c5
          by_cases c6 : a0 = 4
          · rw [if_pos c6] at H
            have c6b0 : (a0 == 4) = true := beq_iff_eq.mpr c6
            have c6b1 : (a0 != 4) = false := bne_eq_false_iff_eq.mpr c6
            clear c6
            simp only [Option.some.injEq, Prod.mk.injEq] at H
            obtain ⟨rfl, rfl, rfl⟩ := H
            go_enter Tryd.func49, Tryd.ntmps49
            go_wp2
            go_ret3
            exact ⟨by first | rfl | (simp; done) | (simp [*]; done), by repeat (first | exact Drawn0.refl _ | apply Drawn0.step)⟩
          · rw [if_neg c6] at H
            have c6b0 : (a0 == 4) = false := beq_eq_false_iff_ne.mpr c6
            have c6b1 : (a0 != 4) = true := bne_iff_ne.mpr c6
            simp only [Option.some.injEq, Prod.mk.injEq] at H
            obtain ⟨rfl, rfl, rfl⟩ := H
            go_enter Tryd.func49, Tryd.ntmps49
            go_wp2
            go_ret3
            exact ⟨by first | rfl | (simp; done) | (simp [*]; done), by repeat (first | exact Drawn0.refl _ | apply Drawn0.step)⟩

/-! ### complineref18_limits: function 31 -/
def complineref18_limits.f (a0 : Int) : Option (Int × Int × Int) := (complineref17_Limits.f a0).bind fun bt119 => (if a0 = 4 then (some (bt119.1, 6, bt119.2.2)) else (some (bt119.1, bt119.2.1, bt119.2.2)))
set_option maxHeartbeats 8000000 in
set_option maxRecDepth 100000 in
theorem complineref18_limits.calls (a0 : Int) (r1 : Int) (r2 : Int) (r3 : Int) (w : World) (h : complineref18_limits.f a0 = some (r1, r2, r3)) :
    Calls Tryd.prog 31 #[.int .i64 a0] w fun e w' => e = .returned (.tuple #[.int .i64 r1, .int .i64 r2, .int .i64 r3]) ∧ Drawn0 w w' := by
  have H : ((complineref17_Limits.f a0).bind fun bt119 => (if a0 = 4 then (some (bt119.1, 6, bt119.2.2)) else (some (bt119.1, bt119.2.1, bt119.2.2)))) = some (r1, r2, r3) := h
  clear h
  replace H := Option.bind_eq_some_iff.mp H
  obtain ⟨⟨t119, t120, t121⟩, A20, H⟩ := H
  replace H : (if a0 = 4 then (some (t119, 6, t121)) else (some (t119, t120, t121))) = some (r1, r2, r3) := H
  have A2 := Aside0.mk A20
  clear A20
  by_cases c3 : a0 = 4
  · rw [if_pos c3] at H
    have c3b0 : (a0 == 4) = true := beq_iff_eq.mpr c3
    have c3b1 : (a0 != 4) = false := bne_eq_false_iff_eq.mpr c3
    clear c3
    simp only [Option.some.injEq, Prod.mk.injEq] at H
    obtain ⟨rfl, rfl, rfl⟩ := H
    go_enter Tryd.func31, Tryd.ntmps31
    go_wp2_with (first | ((with_reducible refine gate_callee (f := 49) rfl ?_); refine goesL_ (some 10) rfl rfl Tryd.func49 (by kernel_rfl) rfl #[.int .i64 a0] rfl (by (try simp only [List.map_toArray, List.map_cons, List.map_nil]); first | done | rfl | (simp only [List.length_drop, List.length_take]; rfl)) ?_; (with_reducible refine (complineref17_Limits.calls a0 t119 t120 t121 _ A2.out).mono ?_); rintro e w' ⟨rfl, ⟨nd, rfl⟩⟩; refine ⟨_, rfl, ?_⟩))
    go_ret3
    exact ⟨by first | rfl | (simp; done) | (simp [*]; done), by repeat (first | exact Drawn0.refl _ | apply Drawn0.step)⟩
  · rw [if_neg c3] at H
    have c3b0 : (a0 == 4) = false := beq_eq_false_iff_ne.mpr c3
    have c3b1 : (a0 != 4) = true := bne_iff_ne.mpr c3
    simp only [Option.some.injEq, Prod.mk.injEq] at H
    obtain ⟨rfl, rfl, rfl⟩ := H
    go_enter Tryd.func31, Tryd.ntmps31
    go_wp2_with (first | ((with_reducible refine gate_callee (f := 49) rfl ?_); refine goesL_ (some 10) rfl rfl Tryd.func49 (by kernel_rfl) rfl #[.int .i64 a0] rfl (by (try simp only [List.map_toArray, List.map_cons, List.map_nil]); first | done | rfl | (simp only [List.length_drop, List.length_take]; rfl)) ?_; (with_reducible refine (complineref17_Limits.calls a0 t119 t120 t121 _ A2.out).mono ?_); rintro e w' ⟨rfl, ⟨nd, rfl⟩⟩; refine ⟨_, rfl, ?_⟩))
    go_ret3
    exact ⟨by first | rfl | (simp; done) | (simp [*]; done), by repeat (first | exact Drawn0.refl _ | apply Drawn0.step)⟩

end Go.Proofs.YtfkhifbllpibjaaDoor.PFpa
