-- Written by a program of this session (gprint.py) over the kit's print.
import Derived.Test.YtfkhifbllpibjaaDoorPFtlx0
import Derived.Test.YtfkhifbllpibjaaDoorPFtlx2
import Derived.Test.YtfkhifbllpibjaaDoorPFtlx3
namespace Go.Proofs.YtfkhifbllpibjaaDoor.PFtl
open Go.RowKit Go.Proofs.YtfkhifbllpibjaaDoorW.PrintWords Go.Proofs.YtfkhifbllpibjaaDoorW.PrintLast Go.Proofs.YtfkhifbllpibjaaDoorW.PrintMore
attribute [local go_sem] max2_int min2_int max_two min_two max_three min_three max_four min_four   -- for this text's walks alone
set_option linter.unusedVariables false
set_option linter.unusedSimpArgs false

/-! ### complinelaw18_works: function 9 -/
theorem Fld.eqF (d : Nat) (w : World) (x0 y0 : Int) (x1 y1 : Bool) :
    (Op.equalIn (d + 2) 25 (.agg #[.int .u64 x0, .bool x1]) (.agg #[.int .u64 y0, .bool y1])).run Tryd.prog w = .ok (x0 == y0 && (x1 == y1)) w := by
  refine eqA_of Tryd.underlying25 (by kernel_rfl) ?_
  refine eqf_cons (by rfl) (by go_simp; rfl) (by go_simp; rfl) (by go_simp) ?_
  exact eqf_last (by rfl) (by go_simp; rfl) (by go_simp; rfl) (by go_simp)
def complinelaw18_works.f  : Option (Bool) := some true
set_option maxHeartbeats 8000000 in
set_option maxRecDepth 100000 in
theorem complinelaw18_works.calls  (r : Bool) (w : World) (hT : Tab w) (h : complinelaw18_works.f  = some r) :
    Calls Tryd.prog 9 #[] w fun e w' => e = .returned (.bool r) ∧ Below w.heap.size w w' := by
  have HB := Aside0.mk (Below.refl w.heap.size w)
  obtain rfl : r = true := (Option.some.inj h).symm
  clear h
  have HB : Below w.heap.size w w := Below.refl _ _
  have eqF := Fld.eqF
  go_enter Tryd.func9, Tryd.ntmps9
  go_wp2_with fail
  -- field.Parse(1-10/4,30, 0)
  refine Fld.gen (fun W => Below w.heap.size w W) HB ?_
  clear HB
  rintro W0 HB0
  refine (field_Parse.calls ⟨#[49, 45, 49, 48, 47, 52, 44, 51, 48]⟩ 0 1073742370 false 0 _ (hT.keep HB0) (by decide +kernel)).mono ?_
  rintro e V0 ⟨rfl, hb⟩
  have HB := below_step HB0 hb
  clear hb HB0 
  replace HB := Aside0.mk HB
  go_wp2_with fail
  have HA := below_alloc HB.out (.cells #[.int .u64 1073742370, .bool false] 25)
  have KA0 := blk_new V0 (.cells #[.int .u64 1073742370, .bool false] 25)
  clear HB 
  have HB := HA
  -- field.Parse(5-7, 4)
  refine Fld.gen (fun W => Below w.heap.size w W ∧ W.heap[V0.heap.size]? = some (.cells #[.int .u64 1073742370, .bool false] 25 (0, 0))) ⟨HA, KA0⟩ ?_
  clear HB HA KA0
  rintro W1 ⟨HB1, K1_0⟩
  refine (field_Parse.calls ⟨#[53, 45, 55]⟩ 4 97 false 0 _ (hT.keep HB1) (by decide +kernel)).mono ?_
  rintro e V1 ⟨rfl, hb⟩
  have HB := below_step HB1 hb
  have KB0 := blk_below K1_0 hb
  clear hb HB1 K1_0
  replace HB := Aside0.mk HB
  replace KB0 := Aside0.mk KB0
  go_wp2_with fail
  have HA := below_alloc HB.out (.cells #[.int .u64 97, .bool false] 25)
  have KA0 := blk_alloc KB0.out (.cells #[.int .u64 97, .bool false] 25)
  have KA1 := blk_new V1 (.cells #[.int .u64 97, .bool false] 25)
  clear HB KB0
  have HB := HA
  -- field.Parse(*/20, 0)
  refine Fld.gen (fun W => Below w.heap.size w W ∧ W.heap[V0.heap.size]? = some (.cells #[.int .u64 1073742370, .bool false] 25 (0, 0)) ∧ W.heap[V1.heap.size]? = some (.cells #[.int .u64 97, .bool false] 25 (0, 0))) ⟨HA, KA0, KA1⟩ ?_
  clear HB HA KA0 KA1
  rintro W2 ⟨HB2, K2_0, K2_1⟩
  refine (field_Parse.calls ⟨#[42, 47, 50, 48]⟩ 0 1099512676353 false 0 _ (hT.keep HB2) (by decide +kernel)).mono ?_
  rintro e V2 ⟨rfl, hb⟩
  have HB := below_step HB2 hb
  have KB0 := blk_below K2_0 hb
  have KB1 := blk_below K2_1 hb
  clear hb HB2 K2_0 K2_1
  replace HB := Aside0.mk HB
  replace KB0 := Aside0.mk KB0
  replace KB1 := Aside0.mk KB1
  go_wp2_with fail
  have HA := below_alloc HB.out (.cells #[.int .u64 1099512676353, .bool false] 25)
  have KA0 := blk_alloc KB0.out (.cells #[.int .u64 1099512676353, .bool false] 25)
  have KA1 := blk_alloc KB1.out (.cells #[.int .u64 1099512676353, .bool false] 25)
  have KA2 := blk_new V2 (.cells #[.int .u64 1099512676353, .bool false] 25)
  clear HB KB0 KB1
  have HB := HA
  -- field.Parse(5/2, 1)
  refine Fld.gen (fun W => Below w.heap.size w W ∧ W.heap[V0.heap.size]? = some (.cells #[.int .u64 1073742370, .bool false] 25 (0, 0)) ∧ W.heap[V1.heap.size]? = some (.cells #[.int .u64 97, .bool false] 25 (0, 0)) ∧ W.heap[V2.heap.size]? = some (.cells #[.int .u64 1099512676353, .bool false] 25 (0, 0))) ⟨HA, KA0, KA1, KA2⟩ ?_
  clear HB HA KA0 KA1 KA2
  rintro W3 ⟨HB3, K3_0, K3_1, K3_2⟩
  refine (field_Parse.calls ⟨#[53, 47, 50]⟩ 1 0 false 2 _ (hT.keep HB3) (by decide +kernel)).mono ?_
  rintro e V3 ⟨rfl, hb⟩
  have HB := below_step HB3 hb
  have KB0 := blk_below K3_0 hb
  have KB1 := blk_below K3_1 hb
  have KB2 := blk_below K3_2 hb
  clear hb HB3 K3_0 K3_1 K3_2
  replace HB := Aside0.mk HB
  replace KB0 := Aside0.mk KB0
  replace KB1 := Aside0.mk KB1
  replace KB2 := Aside0.mk KB2
  go_wp2_with fail
  have HA := below_alloc HB.out (.cells #[.int .u64 0, .bool false] 25)
  have KA0 := blk_alloc KB0.out (.cells #[.int .u64 0, .bool false] 25)
  have KA1 := blk_alloc KB1.out (.cells #[.int .u64 0, .bool false] 25)
  have KA2 := blk_alloc KB2.out (.cells #[.int .u64 0, .bool false] 25)
  have KA3 := blk_new V3 (.cells #[.int .u64 0, .bool false] 25)
  clear HB KB0 KB1 KB2
  have HB := HA
  -- field.Parse(9-5, 1)
  refine Fld.gen (fun W => Below w.heap.size w W ∧ W.heap[V0.heap.size]? = some (.cells #[.int .u64 1073742370, .bool false] 25 (0, 0)) ∧ W.heap[V1.heap.size]? = some (.cells #[.int .u64 97, .bool false] 25 (0, 0)) ∧ W.heap[V2.heap.size]? = some (.cells #[.int .u64 1099512676353, .bool false] 25 (0, 0)) ∧ W.heap[V3.heap.size]? = some (.cells #[.int .u64 0, .bool false] 25 (0, 0))) ⟨HA, KA0, KA1, KA2, KA3⟩ ?_
  clear HB HA KA0 KA1 KA2 KA3
  rintro W4 ⟨HB4, K4_0, K4_1, K4_2, K4_3⟩
  refine (field_Parse.calls ⟨#[57, 45, 53]⟩ 1 0 false 12 _ (hT.keep HB4) (by decide +kernel)).mono ?_
  rintro e V4 ⟨rfl, hb⟩
  have HB := below_step HB4 hb
  have KB0 := blk_below K4_0 hb
  have KB1 := blk_below K4_1 hb
  have KB2 := blk_below K4_2 hb
  have KB3 := blk_below K4_3 hb
  clear hb HB4 K4_0 K4_1 K4_2 K4_3
  replace HB := Aside0.mk HB
  replace KB0 := Aside0.mk KB0
  replace KB1 := Aside0.mk KB1
  replace KB2 := Aside0.mk KB2
  replace KB3 := Aside0.mk KB3
  go_wp2_with fail
  have HA := below_alloc HB.out (.cells #[.int .u64 0, .bool false] 25)
  have KA0 := blk_alloc KB0.out (.cells #[.int .u64 0, .bool false] 25)
  have KA1 := blk_alloc KB1.out (.cells #[.int .u64 0, .bool false] 25)
  have KA2 := blk_alloc KB2.out (.cells #[.int .u64 0, .bool false] 25)
  have KA3 := blk_alloc KB3.out (.cells #[.int .u64 0, .bool false] 25)
  have KA4 := blk_new V4 (.cells #[.int .u64 0, .bool false] 25)
  clear HB KB0 KB1 KB2 KB3
  have HB := HA
  -- field.Parse(1,, 1)
  refine Fld.gen (fun W => Below w.heap.size w W ∧ W.heap[V0.heap.size]? = some (.cells #[.int .u64 1073742370, .bool false] 25 (0, 0)) ∧ W.heap[V1.heap.size]? = some (.cells #[.int .u64 97, .bool false] 25 (0, 0)) ∧ W.heap[V2.heap.size]? = some (.cells #[.int .u64 1099512676353, .bool false] 25 (0, 0)) ∧ W.heap[V3.heap.size]? = some (.cells #[.int .u64 0, .bool false] 25 (0, 0)) ∧ W.heap[V4.heap.size]? = some (.cells #[.int .u64 0, .bool false] 25 (0, 0))) ⟨HA, KA0, KA1, KA2, KA3, KA4⟩ ?_
  clear HB HA KA0 KA1 KA2 KA3 KA4
  rintro W5 ⟨HB5, K5_0, K5_1, K5_2, K5_3, K5_4⟩
  refine (field_Parse.calls ⟨#[49, 44]⟩ 1 0 false 2 _ (hT.keep HB5) (by decide +kernel)).mono ?_
  rintro e V5 ⟨rfl, hb⟩
  have HB := below_step HB5 hb
  have KB0 := blk_below K5_0 hb
  have KB1 := blk_below K5_1 hb
  have KB2 := blk_below K5_2 hb
  have KB3 := blk_below K5_3 hb
  have KB4 := blk_below K5_4 hb
  clear hb HB5 K5_0 K5_1 K5_2 K5_3 K5_4
  replace HB := Aside0.mk HB
  replace KB0 := Aside0.mk KB0
  replace KB1 := Aside0.mk KB1
  replace KB2 := Aside0.mk KB2
  replace KB3 := Aside0.mk KB3
  replace KB4 := Aside0.mk KB4
  go_wp2_with fail
  have HA := below_alloc HB.out (.cells #[.int .u64 0, .bool false] 25)
  have KA0 := blk_alloc KB0.out (.cells #[.int .u64 0, .bool false] 25)
  have KA1 := blk_alloc KB1.out (.cells #[.int .u64 0, .bool false] 25)
  have KA2 := blk_alloc KB2.out (.cells #[.int .u64 0, .bool false] 25)
  have KA3 := blk_alloc KB3.out (.cells #[.int .u64 0, .bool false] 25)
  have KA4 := blk_alloc KB4.out (.cells #[.int .u64 0, .bool false] 25)
  have KA5 := blk_new V5 (.cells #[.int .u64 0, .bool false] 25)
  clear HB KB0 KB1 KB2 KB3 KB4
  have HB := HA
  -- field.Parse(*, 3)
  refine Fld.gen (fun W => Below w.heap.size w W ∧ W.heap[V0.heap.size]? = some (.cells #[.int .u64 1073742370, .bool false] 25 (0, 0)) ∧ W.heap[V1.heap.size]? = some (.cells #[.int .u64 97, .bool false] 25 (0, 0)) ∧ W.heap[V2.heap.size]? = some (.cells #[.int .u64 1099512676353, .bool false] 25 (0, 0)) ∧ W.heap[V3.heap.size]? = some (.cells #[.int .u64 0, .bool false] 25 (0, 0)) ∧ W.heap[V4.heap.size]? = some (.cells #[.int .u64 0, .bool false] 25 (0, 0)) ∧ W.heap[V5.heap.size]? = some (.cells #[.int .u64 0, .bool false] 25 (0, 0))) ⟨HA, KA0, KA1, KA2, KA3, KA4, KA5⟩ ?_
  clear HB HA KA0 KA1 KA2 KA3 KA4 KA5
  rintro W6 ⟨HB6, K6_0, K6_1, K6_2, K6_3, K6_4, K6_5⟩
  refine (field_Parse.calls ⟨#[42]⟩ 3 8190 true 0 _ (hT.keep HB6) (by decide +kernel)).mono ?_
  rintro e V6 ⟨rfl, hb⟩
  have HB := below_step HB6 hb
  have KB0 := blk_below K6_0 hb
  have KB1 := blk_below K6_1 hb
  have KB2 := blk_below K6_2 hb
  have KB3 := blk_below K6_3 hb
  have KB4 := blk_below K6_4 hb
  have KB5 := blk_below K6_5 hb
  clear hb HB6 K6_0 K6_1 K6_2 K6_3 K6_4 K6_5
  replace HB := Aside0.mk HB
  replace KB0 := Aside0.mk KB0
  replace KB1 := Aside0.mk KB1
  replace KB2 := Aside0.mk KB2
  replace KB3 := Aside0.mk KB3
  replace KB4 := Aside0.mk KB4
  replace KB5 := Aside0.mk KB5
  go_wp2_with fail
  have HA := below_alloc HB.out (.cells #[.int .u64 8190, .bool true] 25)
  have KA0 := blk_alloc KB0.out (.cells #[.int .u64 8190, .bool true] 25)
  have KA1 := blk_alloc KB1.out (.cells #[.int .u64 8190, .bool true] 25)
  have KA2 := blk_alloc KB2.out (.cells #[.int .u64 8190, .bool true] 25)
  have KA3 := blk_alloc KB3.out (.cells #[.int .u64 8190, .bool true] 25)
  have KA4 := blk_alloc KB4.out (.cells #[.int .u64 8190, .bool true] 25)
  have KA5 := blk_alloc KB5.out (.cells #[.int .u64 8190, .bool true] 25)
  have KA6 := blk_new V6 (.cells #[.int .u64 8190, .bool true] 25)
  clear HB KB0 KB1 KB2 KB3 KB4 KB5
  have HB := HA
  refine Fld.gen (fun W => Below w.heap.size w W ∧ W.heap[V0.heap.size]? = some (.cells #[.int .u64 1073742370, .bool false] 25 (0, 0)) ∧ W.heap[V1.heap.size]? = some (.cells #[.int .u64 97, .bool false] 25 (0, 0)) ∧ W.heap[V2.heap.size]? = some (.cells #[.int .u64 1099512676353, .bool false] 25 (0, 0)) ∧ W.heap[V3.heap.size]? = some (.cells #[.int .u64 0, .bool false] 25 (0, 0)) ∧ W.heap[V4.heap.size]? = some (.cells #[.int .u64 0, .bool false] 25 (0, 0)) ∧ W.heap[V5.heap.size]? = some (.cells #[.int .u64 0, .bool false] 25 (0, 0)) ∧ W.heap[V6.heap.size]? = some (.cells #[.int .u64 8190, .bool true] 25 (0, 0))) ⟨HA, KA0, KA1, KA2, KA3, KA4, KA5, KA6⟩ ?_
  clear HB HA KA0 KA1 KA2 KA3 KA4 KA5 KA6
  rintro W7 ⟨HB7, K7_0, K7_1, K7_2, K7_3, K7_4, K7_5, K7_6⟩
  refine (field_All.calls 3 8190 true 0 _ (by decide +kernel)).mono ?_
  rintro e V7 ⟨rfl, hb⟩
  have HB := below_step HB7 hb
  have KB0 := blk_below K7_0 hb
  have KB1 := blk_below K7_1 hb
  have KB2 := blk_below K7_2 hb
  have KB3 := blk_below K7_3 hb
  have KB4 := blk_below K7_4 hb
  have KB5 := blk_below K7_5 hb
  have KB6 := blk_below K7_6 hb
  clear hb HB7 K7_0 K7_1 K7_2 K7_3 K7_4 K7_5 K7_6
  replace HB := Aside0.mk HB
  replace KB0 := Aside0.mk KB0
  replace KB1 := Aside0.mk KB1
  replace KB2 := Aside0.mk KB2
  replace KB3 := Aside0.mk KB3
  replace KB4 := Aside0.mk KB4
  replace KB5 := Aside0.mk KB5
  replace KB6 := Aside0.mk KB6
  have c0_0 : V7.cell? ⟨V0.heap.size, 0, none⟩ = some (.int .u64 1073742370) := (blk_cell KB0.out 0).trans rfl
  have c0_1 : V7.cell? ⟨V0.heap.size, 1, none⟩ = some (.bool false) := (blk_cell KB0.out 1).trans rfl
  have l0 := blk_lt KB0.out
  have c1_0 : V7.cell? ⟨V1.heap.size, 0, none⟩ = some (.int .u64 97) := (blk_cell KB1.out 0).trans rfl
  have c1_1 : V7.cell? ⟨V1.heap.size, 1, none⟩ = some (.bool false) := (blk_cell KB1.out 1).trans rfl
  have l1 := blk_lt KB1.out
  have c2_0 : V7.cell? ⟨V2.heap.size, 0, none⟩ = some (.int .u64 1099512676353) := (blk_cell KB2.out 0).trans rfl
  have c2_1 : V7.cell? ⟨V2.heap.size, 1, none⟩ = some (.bool false) := (blk_cell KB2.out 1).trans rfl
  have l2 := blk_lt KB2.out
  have c3_0 : V7.cell? ⟨V3.heap.size, 0, none⟩ = some (.int .u64 0) := (blk_cell KB3.out 0).trans rfl
  have c3_1 : V7.cell? ⟨V3.heap.size, 1, none⟩ = some (.bool false) := (blk_cell KB3.out 1).trans rfl
  have l3 := blk_lt KB3.out
  have c4_0 : V7.cell? ⟨V4.heap.size, 0, none⟩ = some (.int .u64 0) := (blk_cell KB4.out 0).trans rfl
  have c4_1 : V7.cell? ⟨V4.heap.size, 1, none⟩ = some (.bool false) := (blk_cell KB4.out 1).trans rfl
  have l4 := blk_lt KB4.out
  have c5_0 : V7.cell? ⟨V5.heap.size, 0, none⟩ = some (.int .u64 0) := (blk_cell KB5.out 0).trans rfl
  have c5_1 : V7.cell? ⟨V5.heap.size, 1, none⟩ = some (.bool false) := (blk_cell KB5.out 1).trans rfl
  have l5 := blk_lt KB5.out
  have c6_0 : V7.cell? ⟨V6.heap.size, 0, none⟩ = some (.int .u64 8190) := (blk_cell KB6.out 0).trans rfl
  have c6_1 : V7.cell? ⟨V6.heap.size, 1, none⟩ = some (.bool true) := (blk_cell KB6.out 1).trans rfl
  have l6 := blk_lt KB6.out
  go_wp2_with fail
  clear c0_0 c0_1 c1_0 c1_1 c2_0 c2_1 c3_0 c3_1 c4_0 c4_1 c5_0 c5_1 c6_0 c6_1 l0 l1 l2 l3 l4 l5 l6
  have HA := below_alloc HB.out (.cells #[.int .u64 8190, .bool true] 25)
  have KA0 := blk_alloc KB0.out (.cells #[.int .u64 8190, .bool true] 25)
  have KA1 := blk_alloc KB1.out (.cells #[.int .u64 8190, .bool true] 25)
  have KA2 := blk_alloc KB2.out (.cells #[.int .u64 8190, .bool true] 25)
  have KA3 := blk_alloc KB3.out (.cells #[.int .u64 8190, .bool true] 25)
  have KA4 := blk_alloc KB4.out (.cells #[.int .u64 8190, .bool true] 25)
  have KA5 := blk_alloc KB5.out (.cells #[.int .u64 8190, .bool true] 25)
  have KA6 := blk_alloc KB6.out (.cells #[.int .u64 8190, .bool true] 25)
  have KA7 := blk_new V7 (.cells #[.int .u64 8190, .bool true] 25)
  clear HB KB0 KB1 KB2 KB3 KB4 KB5 KB6
  have HB := HA
  refine Fld.gen (fun W => Below w.heap.size w W ∧ W.heap[V0.heap.size]? = some (.cells #[.int .u64 1073742370, .bool false] 25 (0, 0)) ∧ W.heap[V1.heap.size]? = some (.cells #[.int .u64 97, .bool false] 25 (0, 0)) ∧ W.heap[V2.heap.size]? = some (.cells #[.int .u64 1099512676353, .bool false] 25 (0, 0)) ∧ W.heap[V3.heap.size]? = some (.cells #[.int .u64 0, .bool false] 25 (0, 0)) ∧ W.heap[V4.heap.size]? = some (.cells #[.int .u64 0, .bool false] 25 (0, 0)) ∧ W.heap[V5.heap.size]? = some (.cells #[.int .u64 0, .bool false] 25 (0, 0)) ∧ W.heap[V6.heap.size]? = some (.cells #[.int .u64 8190, .bool true] 25 (0, 0)) ∧ W.heap[V7.heap.size]? = some (.cells #[.int .u64 8190, .bool true] 25 (0, 0))) ⟨HA, KA0, KA1, KA2, KA3, KA4, KA5, KA6, KA7⟩ ?_
  clear HB HA KA0 KA1 KA2 KA3 KA4 KA5 KA6 KA7
  rintro W8 ⟨HB8, K8_0, K8_1, K8_2, K8_3, K8_4, K8_5, K8_6, K8_7⟩
  refine (field_First.calls 1073742370 false 10 30 true _ (hT.keep HB8) (by decide +kernel)).mono ?_
  rintro e V8 ⟨rfl, hb⟩
  have HB := below_step HB8 hb
  have KB0 := blk_below K8_0 hb
  have KB1 := blk_below K8_1 hb
  have KB2 := blk_below K8_2 hb
  have KB3 := blk_below K8_3 hb
  have KB4 := blk_below K8_4 hb
  have KB5 := blk_below K8_5 hb
  have KB6 := blk_below K8_6 hb
  have KB7 := blk_below K8_7 hb
  clear hb HB8 K8_0 K8_1 K8_2 K8_3 K8_4 K8_5 K8_6 K8_7
  replace HB := Aside0.mk HB
  replace KB0 := Aside0.mk KB0
  replace KB1 := Aside0.mk KB1
  replace KB2 := Aside0.mk KB2
  replace KB3 := Aside0.mk KB3
  replace KB4 := Aside0.mk KB4
  replace KB5 := Aside0.mk KB5
  replace KB6 := Aside0.mk KB6
  replace KB7 := Aside0.mk KB7
  have c0_0 : V8.cell? ⟨V0.heap.size, 0, none⟩ = some (.int .u64 1073742370) := (blk_cell KB0.out 0).trans rfl
  have c0_1 : V8.cell? ⟨V0.heap.size, 1, none⟩ = some (.bool false) := (blk_cell KB0.out 1).trans rfl
  have l0 := blk_lt KB0.out
  have c1_0 : V8.cell? ⟨V1.heap.size, 0, none⟩ = some (.int .u64 97) := (blk_cell KB1.out 0).trans rfl
  have c1_1 : V8.cell? ⟨V1.heap.size, 1, none⟩ = some (.bool false) := (blk_cell KB1.out 1).trans rfl
  have l1 := blk_lt KB1.out
  have c2_0 : V8.cell? ⟨V2.heap.size, 0, none⟩ = some (.int .u64 1099512676353) := (blk_cell KB2.out 0).trans rfl
  have c2_1 : V8.cell? ⟨V2.heap.size, 1, none⟩ = some (.bool false) := (blk_cell KB2.out 1).trans rfl
  have l2 := blk_lt KB2.out
  have c3_0 : V8.cell? ⟨V3.heap.size, 0, none⟩ = some (.int .u64 0) := (blk_cell KB3.out 0).trans rfl
  have c3_1 : V8.cell? ⟨V3.heap.size, 1, none⟩ = some (.bool false) := (blk_cell KB3.out 1).trans rfl
  have l3 := blk_lt KB3.out
  have c4_0 : V8.cell? ⟨V4.heap.size, 0, none⟩ = some (.int .u64 0) := (blk_cell KB4.out 0).trans rfl
  have c4_1 : V8.cell? ⟨V4.heap.size, 1, none⟩ = some (.bool false) := (blk_cell KB4.out 1).trans rfl
  have l4 := blk_lt KB4.out
  have c5_0 : V8.cell? ⟨V5.heap.size, 0, none⟩ = some (.int .u64 0) := (blk_cell KB5.out 0).trans rfl
  have c5_1 : V8.cell? ⟨V5.heap.size, 1, none⟩ = some (.bool false) := (blk_cell KB5.out 1).trans rfl
  have l5 := blk_lt KB5.out
  have c6_0 : V8.cell? ⟨V6.heap.size, 0, none⟩ = some (.int .u64 8190) := (blk_cell KB6.out 0).trans rfl
  have c6_1 : V8.cell? ⟨V6.heap.size, 1, none⟩ = some (.bool true) := (blk_cell KB6.out 1).trans rfl
  have l6 := blk_lt KB6.out
  have c7_0 : V8.cell? ⟨V7.heap.size, 0, none⟩ = some (.int .u64 8190) := (blk_cell KB7.out 0).trans rfl
  have c7_1 : V8.cell? ⟨V7.heap.size, 1, none⟩ = some (.bool true) := (blk_cell KB7.out 1).trans rfl
  have l7 := blk_lt KB7.out
  go_wp2_with fail
  clear c0_0 c0_1 c1_0 c1_1 c2_0 c2_1 c3_0 c3_1 c4_0 c4_1 c5_0 c5_1 c6_0 c6_1 c7_0 c7_1 l0 l1 l2 l3 l4 l5 l6 l7
  have HA := HB.out
  have KA0 := KB0.out
  have KA1 := KB1.out
  have KA2 := KB2.out
  have KA3 := KB3.out
  have KA4 := KB4.out
  have KA5 := KB5.out
  have KA6 := KB6.out
  have KA7 := KB7.out
  clear HB KB0 KB1 KB2 KB3 KB4 KB5 KB6 KB7
  have HB := HA
  refine Fld.gen (fun W => Below w.heap.size w W ∧ W.heap[V0.heap.size]? = some (.cells #[.int .u64 1073742370, .bool false] 25 (0, 0)) ∧ W.heap[V1.heap.size]? = some (.cells #[.int .u64 97, .bool false] 25 (0, 0)) ∧ W.heap[V2.heap.size]? = some (.cells #[.int .u64 1099512676353, .bool false] 25 (0, 0)) ∧ W.heap[V3.heap.size]? = some (.cells #[.int .u64 0, .bool false] 25 (0, 0)) ∧ W.heap[V4.heap.size]? = some (.cells #[.int .u64 0, .bool false] 25 (0, 0)) ∧ W.heap[V5.heap.size]? = some (.cells #[.int .u64 0, .bool false] 25 (0, 0)) ∧ W.heap[V6.heap.size]? = some (.cells #[.int .u64 8190, .bool true] 25 (0, 0)) ∧ W.heap[V7.heap.size]? = some (.cells #[.int .u64 8190, .bool true] 25 (0, 0))) ⟨HA, KA0, KA1, KA2, KA3, KA4, KA5, KA6, KA7⟩ ?_
  clear HB HA KA0 KA1 KA2 KA3 KA4 KA5 KA6 KA7
  rintro W9 ⟨HB9, K9_0, K9_1, K9_2, K9_3, K9_4, K9_5, K9_6, K9_7⟩
  refine (field_Count.calls 1073742370 false 4 _ (by decide +kernel)).mono ?_
  rintro e V9 ⟨rfl, hb⟩
  have HB := below_step HB9 hb
  have KB0 := blk_below K9_0 hb
  have KB1 := blk_below K9_1 hb
  have KB2 := blk_below K9_2 hb
  have KB3 := blk_below K9_3 hb
  have KB4 := blk_below K9_4 hb
  have KB5 := blk_below K9_5 hb
  have KB6 := blk_below K9_6 hb
  have KB7 := blk_below K9_7 hb
  clear hb HB9 K9_0 K9_1 K9_2 K9_3 K9_4 K9_5 K9_6 K9_7
  replace HB := Aside0.mk HB
  replace KB0 := Aside0.mk KB0
  replace KB1 := Aside0.mk KB1
  replace KB2 := Aside0.mk KB2
  replace KB3 := Aside0.mk KB3
  replace KB4 := Aside0.mk KB4
  replace KB5 := Aside0.mk KB5
  replace KB6 := Aside0.mk KB6
  replace KB7 := Aside0.mk KB7
  have c0_0 : V9.cell? ⟨V0.heap.size, 0, none⟩ = some (.int .u64 1073742370) := (blk_cell KB0.out 0).trans rfl
  have c0_1 : V9.cell? ⟨V0.heap.size, 1, none⟩ = some (.bool false) := (blk_cell KB0.out 1).trans rfl
  have l0 := blk_lt KB0.out
  have c1_0 : V9.cell? ⟨V1.heap.size, 0, none⟩ = some (.int .u64 97) := (blk_cell KB1.out 0).trans rfl
  have c1_1 : V9.cell? ⟨V1.heap.size, 1, none⟩ = some (.bool false) := (blk_cell KB1.out 1).trans rfl
  have l1 := blk_lt KB1.out
  have c2_0 : V9.cell? ⟨V2.heap.size, 0, none⟩ = some (.int .u64 1099512676353) := (blk_cell KB2.out 0).trans rfl
  have c2_1 : V9.cell? ⟨V2.heap.size, 1, none⟩ = some (.bool false) := (blk_cell KB2.out 1).trans rfl
  have l2 := blk_lt KB2.out
  have c3_0 : V9.cell? ⟨V3.heap.size, 0, none⟩ = some (.int .u64 0) := (blk_cell KB3.out 0).trans rfl
  have c3_1 : V9.cell? ⟨V3.heap.size, 1, none⟩ = some (.bool false) := (blk_cell KB3.out 1).trans rfl
  have l3 := blk_lt KB3.out
  have c4_0 : V9.cell? ⟨V4.heap.size, 0, none⟩ = some (.int .u64 0) := (blk_cell KB4.out 0).trans rfl
  have c4_1 : V9.cell? ⟨V4.heap.size, 1, none⟩ = some (.bool false) := (blk_cell KB4.out 1).trans rfl
  have l4 := blk_lt KB4.out
  have c5_0 : V9.cell? ⟨V5.heap.size, 0, none⟩ = some (.int .u64 0) := (blk_cell KB5.out 0).trans rfl
  have c5_1 : V9.cell? ⟨V5.heap.size, 1, none⟩ = some (.bool false) := (blk_cell KB5.out 1).trans rfl
  have l5 := blk_lt KB5.out
  have c6_0 : V9.cell? ⟨V6.heap.size, 0, none⟩ = some (.int .u64 8190) := (blk_cell KB6.out 0).trans rfl
  have c6_1 : V9.cell? ⟨V6.heap.size, 1, none⟩ = some (.bool true) := (blk_cell KB6.out 1).trans rfl
  have l6 := blk_lt KB6.out
  have c7_0 : V9.cell? ⟨V7.heap.size, 0, none⟩ = some (.int .u64 8190) := (blk_cell KB7.out 0).trans rfl
  have c7_1 : V9.cell? ⟨V7.heap.size, 1, none⟩ = some (.bool true) := (blk_cell KB7.out 1).trans rfl
  have l7 := blk_lt KB7.out
  go_wp2_with fail
  clear c0_0 c0_1 c1_0 c1_1 c2_0 c2_1 c3_0 c3_1 c4_0 c4_1 c5_0 c5_1 c6_0 c6_1 c7_0 c7_1 l0 l1 l2 l3 l4 l5 l6 l7
  have HA := HB.out
  have KA0 := KB0.out
  have KA1 := KB1.out
  have KA2 := KB2.out
  have KA3 := KB3.out
  have KA4 := KB4.out
  have KA5 := KB5.out
  have KA6 := KB6.out
  have KA7 := KB7.out
  clear HB KB0 KB1 KB2 KB3 KB4 KB5 KB6 KB7
  have HB := HA
  refine Fld.gen (fun W => Below w.heap.size w W ∧ W.heap[V0.heap.size]? = some (.cells #[.int .u64 1073742370, .bool false] 25 (0, 0)) ∧ W.heap[V1.heap.size]? = some (.cells #[.int .u64 97, .bool false] 25 (0, 0)) ∧ W.heap[V2.heap.size]? = some (.cells #[.int .u64 1099512676353, .bool false] 25 (0, 0)) ∧ W.heap[V3.heap.size]? = some (.cells #[.int .u64 0, .bool false] 25 (0, 0)) ∧ W.heap[V4.heap.size]? = some (.cells #[.int .u64 0, .bool false] 25 (0, 0)) ∧ W.heap[V5.heap.size]? = some (.cells #[.int .u64 0, .bool false] 25 (0, 0)) ∧ W.heap[V6.heap.size]? = some (.cells #[.int .u64 8190, .bool true] 25 (0, 0)) ∧ W.heap[V7.heap.size]? = some (.cells #[.int .u64 8190, .bool true] 25 (0, 0))) ⟨HA, KA0, KA1, KA2, KA3, KA4, KA5, KA6, KA7⟩ ?_
  clear HB HA KA0 KA1 KA2 KA3 KA4 KA5 KA6 KA7
  rintro W10 ⟨HB10, K10_0, K10_1, K10_2, K10_3, K10_4, K10_5, K10_6, K10_7⟩
  refine (field_Has.calls 1073742370 false 9 true _ (by decide +kernel)).mono ?_
  rintro e V10 ⟨rfl, hb⟩
  have HB := below_step HB10 hb
  have KB0 := blk_below K10_0 hb
  have KB1 := blk_below K10_1 hb
  have KB2 := blk_below K10_2 hb
  have KB3 := blk_below K10_3 hb
  have KB4 := blk_below K10_4 hb
  have KB5 := blk_below K10_5 hb
  have KB6 := blk_below K10_6 hb
  have KB7 := blk_below K10_7 hb
  clear hb HB10 K10_0 K10_1 K10_2 K10_3 K10_4 K10_5 K10_6 K10_7
  replace HB := Aside0.mk HB
  replace KB0 := Aside0.mk KB0
  replace KB1 := Aside0.mk KB1
  replace KB2 := Aside0.mk KB2
  replace KB3 := Aside0.mk KB3
  replace KB4 := Aside0.mk KB4
  replace KB5 := Aside0.mk KB5
  replace KB6 := Aside0.mk KB6
  replace KB7 := Aside0.mk KB7
  have c0_0 : V10.cell? ⟨V0.heap.size, 0, none⟩ = some (.int .u64 1073742370) := (blk_cell KB0.out 0).trans rfl
  have c0_1 : V10.cell? ⟨V0.heap.size, 1, none⟩ = some (.bool false) := (blk_cell KB0.out 1).trans rfl
  have l0 := blk_lt KB0.out
  have c1_0 : V10.cell? ⟨V1.heap.size, 0, none⟩ = some (.int .u64 97) := (blk_cell KB1.out 0).trans rfl
  have c1_1 : V10.cell? ⟨V1.heap.size, 1, none⟩ = some (.bool false) := (blk_cell KB1.out 1).trans rfl
  have l1 := blk_lt KB1.out
  have c2_0 : V10.cell? ⟨V2.heap.size, 0, none⟩ = some (.int .u64 1099512676353) := (blk_cell KB2.out 0).trans rfl
  have c2_1 : V10.cell? ⟨V2.heap.size, 1, none⟩ = some (.bool false) := (blk_cell KB2.out 1).trans rfl
  have l2 := blk_lt KB2.out
  have c3_0 : V10.cell? ⟨V3.heap.size, 0, none⟩ = some (.int .u64 0) := (blk_cell KB3.out 0).trans rfl
  have c3_1 : V10.cell? ⟨V3.heap.size, 1, none⟩ = some (.bool false) := (blk_cell KB3.out 1).trans rfl
  have l3 := blk_lt KB3.out
  have c4_0 : V10.cell? ⟨V4.heap.size, 0, none⟩ = some (.int .u64 0) := (blk_cell KB4.out 0).trans rfl
  have c4_1 : V10.cell? ⟨V4.heap.size, 1, none⟩ = some (.bool false) := (blk_cell KB4.out 1).trans rfl
  have l4 := blk_lt KB4.out
  have c5_0 : V10.cell? ⟨V5.heap.size, 0, none⟩ = some (.int .u64 0) := (blk_cell KB5.out 0).trans rfl
  have c5_1 : V10.cell? ⟨V5.heap.size, 1, none⟩ = some (.bool false) := (blk_cell KB5.out 1).trans rfl
  have l5 := blk_lt KB5.out
  have c6_0 : V10.cell? ⟨V6.heap.size, 0, none⟩ = some (.int .u64 8190) := (blk_cell KB6.out 0).trans rfl
  have c6_1 : V10.cell? ⟨V6.heap.size, 1, none⟩ = some (.bool true) := (blk_cell KB6.out 1).trans rfl
  have l6 := blk_lt KB6.out
  have c7_0 : V10.cell? ⟨V7.heap.size, 0, none⟩ = some (.int .u64 8190) := (blk_cell KB7.out 0).trans rfl
  have c7_1 : V10.cell? ⟨V7.heap.size, 1, none⟩ = some (.bool true) := (blk_cell KB7.out 1).trans rfl
  have l7 := blk_lt KB7.out
  go_wp2_with fail
  clear c0_0 c0_1 c1_0 c1_1 c2_0 c2_1 c3_0 c3_1 c4_0 c4_1 c5_0 c5_1 c6_0 c6_1 c7_0 c7_1 l0 l1 l2 l3 l4 l5 l6 l7
  have HA := HB.out
  have KA0 := KB0.out
  have KA1 := KB1.out
  have KA2 := KB2.out
  have KA3 := KB3.out
  have KA4 := KB4.out
  have KA5 := KB5.out
  have KA6 := KB6.out
  have KA7 := KB7.out
  clear HB KB0 KB1 KB2 KB3 KB4 KB5 KB6 KB7
  have HB := HA
  refine Fld.gen (fun W => Below w.heap.size w W ∧ W.heap[V0.heap.size]? = some (.cells #[.int .u64 1073742370, .bool false] 25 (0, 0)) ∧ W.heap[V1.heap.size]? = some (.cells #[.int .u64 97, .bool false] 25 (0, 0)) ∧ W.heap[V2.heap.size]? = some (.cells #[.int .u64 1099512676353, .bool false] 25 (0, 0)) ∧ W.heap[V3.heap.size]? = some (.cells #[.int .u64 0, .bool false] 25 (0, 0)) ∧ W.heap[V4.heap.size]? = some (.cells #[.int .u64 0, .bool false] 25 (0, 0)) ∧ W.heap[V5.heap.size]? = some (.cells #[.int .u64 0, .bool false] 25 (0, 0)) ∧ W.heap[V6.heap.size]? = some (.cells #[.int .u64 8190, .bool true] 25 (0, 0)) ∧ W.heap[V7.heap.size]? = some (.cells #[.int .u64 8190, .bool true] 25 (0, 0))) ⟨HA, KA0, KA1, KA2, KA3, KA4, KA5, KA6, KA7⟩ ?_
  clear HB HA KA0 KA1 KA2 KA3 KA4 KA5 KA6 KA7
  rintro W11 ⟨HB11, K11_0, K11_1, K11_2, K11_3, K11_4, K11_5, K11_6, K11_7⟩
  refine (field_Check.calls 1073742370 false 0 0 _ (by decide +kernel)).mono ?_
  rintro e V11 ⟨rfl, hb⟩
  have HB := below_step HB11 hb
  have KB0 := blk_below K11_0 hb
  have KB1 := blk_below K11_1 hb
  have KB2 := blk_below K11_2 hb
  have KB3 := blk_below K11_3 hb
  have KB4 := blk_below K11_4 hb
  have KB5 := blk_below K11_5 hb
  have KB6 := blk_below K11_6 hb
  have KB7 := blk_below K11_7 hb
  clear hb HB11 K11_0 K11_1 K11_2 K11_3 K11_4 K11_5 K11_6 K11_7
  replace HB := Aside0.mk HB
  replace KB0 := Aside0.mk KB0
  replace KB1 := Aside0.mk KB1
  replace KB2 := Aside0.mk KB2
  replace KB3 := Aside0.mk KB3
  replace KB4 := Aside0.mk KB4
  replace KB5 := Aside0.mk KB5
  replace KB6 := Aside0.mk KB6
  replace KB7 := Aside0.mk KB7
  have c0_0 : V11.cell? ⟨V0.heap.size, 0, none⟩ = some (.int .u64 1073742370) := (blk_cell KB0.out 0).trans rfl
  have c0_1 : V11.cell? ⟨V0.heap.size, 1, none⟩ = some (.bool false) := (blk_cell KB0.out 1).trans rfl
  have l0 := blk_lt KB0.out
  have c1_0 : V11.cell? ⟨V1.heap.size, 0, none⟩ = some (.int .u64 97) := (blk_cell KB1.out 0).trans rfl
  have c1_1 : V11.cell? ⟨V1.heap.size, 1, none⟩ = some (.bool false) := (blk_cell KB1.out 1).trans rfl
  have l1 := blk_lt KB1.out
  have c2_0 : V11.cell? ⟨V2.heap.size, 0, none⟩ = some (.int .u64 1099512676353) := (blk_cell KB2.out 0).trans rfl
  have c2_1 : V11.cell? ⟨V2.heap.size, 1, none⟩ = some (.bool false) := (blk_cell KB2.out 1).trans rfl
  have l2 := blk_lt KB2.out
  have c3_0 : V11.cell? ⟨V3.heap.size, 0, none⟩ = some (.int .u64 0) := (blk_cell KB3.out 0).trans rfl
  have c3_1 : V11.cell? ⟨V3.heap.size, 1, none⟩ = some (.bool false) := (blk_cell KB3.out 1).trans rfl
  have l3 := blk_lt KB3.out
  have c4_0 : V11.cell? ⟨V4.heap.size, 0, none⟩ = some (.int .u64 0) := (blk_cell KB4.out 0).trans rfl
  have c4_1 : V11.cell? ⟨V4.heap.size, 1, none⟩ = some (.bool false) := (blk_cell KB4.out 1).trans rfl
  have l4 := blk_lt KB4.out
  have c5_0 : V11.cell? ⟨V5.heap.size, 0, none⟩ = some (.int .u64 0) := (blk_cell KB5.out 0).trans rfl
  have c5_1 : V11.cell? ⟨V5.heap.size, 1, none⟩ = some (.bool false) := (blk_cell KB5.out 1).trans rfl
  have l5 := blk_lt KB5.out
  have c6_0 : V11.cell? ⟨V6.heap.size, 0, none⟩ = some (.int .u64 8190) := (blk_cell KB6.out 0).trans rfl
  have c6_1 : V11.cell? ⟨V6.heap.size, 1, none⟩ = some (.bool true) := (blk_cell KB6.out 1).trans rfl
  have l6 := blk_lt KB6.out
  have c7_0 : V11.cell? ⟨V7.heap.size, 0, none⟩ = some (.int .u64 8190) := (blk_cell KB7.out 0).trans rfl
  have c7_1 : V11.cell? ⟨V7.heap.size, 1, none⟩ = some (.bool true) := (blk_cell KB7.out 1).trans rfl
  have l7 := blk_lt KB7.out
  go_wp2_with fail
  clear c0_0 c0_1 c1_0 c1_1 c2_0 c2_1 c3_0 c3_1 c4_0 c4_1 c5_0 c5_1 c6_0 c6_1 c7_0 c7_1 l0 l1 l2 l3 l4 l5 l6 l7
  have HA := HB.out
  have KA0 := KB0.out
  have KA1 := KB1.out
  have KA2 := KB2.out
  have KA3 := KB3.out
  have KA4 := KB4.out
  have KA5 := KB5.out
  have KA6 := KB6.out
  have KA7 := KB7.out
  clear HB KB0 KB1 KB2 KB3 KB4 KB5 KB6 KB7
  have HB := HA
  refine Fld.gen (fun W => Below w.heap.size w W ∧ W.heap[V0.heap.size]? = some (.cells #[.int .u64 1073742370, .bool false] 25 (0, 0)) ∧ W.heap[V1.heap.size]? = some (.cells #[.int .u64 97, .bool false] 25 (0, 0)) ∧ W.heap[V2.heap.size]? = some (.cells #[.int .u64 1099512676353, .bool false] 25 (0, 0)) ∧ W.heap[V3.heap.size]? = some (.cells #[.int .u64 0, .bool false] 25 (0, 0)) ∧ W.heap[V4.heap.size]? = some (.cells #[.int .u64 0, .bool false] 25 (0, 0)) ∧ W.heap[V5.heap.size]? = some (.cells #[.int .u64 0, .bool false] 25 (0, 0)) ∧ W.heap[V6.heap.size]? = some (.cells #[.int .u64 8190, .bool true] 25 (0, 0)) ∧ W.heap[V7.heap.size]? = some (.cells #[.int .u64 8190, .bool true] 25 (0, 0))) ⟨HA, KA0, KA1, KA2, KA3, KA4, KA5, KA6, KA7⟩ ?_
  clear HB HA KA0 KA1 KA2 KA3 KA4 KA5 KA6 KA7
  rintro W12 ⟨HB12, K12_0, K12_1, K12_2, K12_3, K12_4, K12_5, K12_6, K12_7⟩
  refine (field_Check.calls 1073742370 false 1 2 _ (by decide +kernel)).mono ?_
  rintro e V12 ⟨rfl, hb⟩
  have HB := below_step HB12 hb
  have KB0 := blk_below K12_0 hb
  have KB1 := blk_below K12_1 hb
  have KB2 := blk_below K12_2 hb
  have KB3 := blk_below K12_3 hb
  have KB4 := blk_below K12_4 hb
  have KB5 := blk_below K12_5 hb
  have KB6 := blk_below K12_6 hb
  have KB7 := blk_below K12_7 hb
  clear hb HB12 K12_0 K12_1 K12_2 K12_3 K12_4 K12_5 K12_6 K12_7
  replace HB := Aside0.mk HB
  replace KB0 := Aside0.mk KB0
  replace KB1 := Aside0.mk KB1
  replace KB2 := Aside0.mk KB2
  replace KB3 := Aside0.mk KB3
  replace KB4 := Aside0.mk KB4
  replace KB5 := Aside0.mk KB5
  replace KB6 := Aside0.mk KB6
  replace KB7 := Aside0.mk KB7
  have c0_0 : V12.cell? ⟨V0.heap.size, 0, none⟩ = some (.int .u64 1073742370) := (blk_cell KB0.out 0).trans rfl
  have c0_1 : V12.cell? ⟨V0.heap.size, 1, none⟩ = some (.bool false) := (blk_cell KB0.out 1).trans rfl
  have l0 := blk_lt KB0.out
  have c1_0 : V12.cell? ⟨V1.heap.size, 0, none⟩ = some (.int .u64 97) := (blk_cell KB1.out 0).trans rfl
  have c1_1 : V12.cell? ⟨V1.heap.size, 1, none⟩ = some (.bool false) := (blk_cell KB1.out 1).trans rfl
  have l1 := blk_lt KB1.out
  have c2_0 : V12.cell? ⟨V2.heap.size, 0, none⟩ = some (.int .u64 1099512676353) := (blk_cell KB2.out 0).trans rfl
  have c2_1 : V12.cell? ⟨V2.heap.size, 1, none⟩ = some (.bool false) := (blk_cell KB2.out 1).trans rfl
  have l2 := blk_lt KB2.out
  have c3_0 : V12.cell? ⟨V3.heap.size, 0, none⟩ = some (.int .u64 0) := (blk_cell KB3.out 0).trans rfl
  have c3_1 : V12.cell? ⟨V3.heap.size, 1, none⟩ = some (.bool false) := (blk_cell KB3.out 1).trans rfl
  have l3 := blk_lt KB3.out
  have c4_0 : V12.cell? ⟨V4.heap.size, 0, none⟩ = some (.int .u64 0) := (blk_cell KB4.out 0).trans rfl
  have c4_1 : V12.cell? ⟨V4.heap.size, 1, none⟩ = some (.bool false) := (blk_cell KB4.out 1).trans rfl
  have l4 := blk_lt KB4.out
  have c5_0 : V12.cell? ⟨V5.heap.size, 0, none⟩ = some (.int .u64 0) := (blk_cell KB5.out 0).trans rfl
  have c5_1 : V12.cell? ⟨V5.heap.size, 1, none⟩ = some (.bool false) := (blk_cell KB5.out 1).trans rfl
  have l5 := blk_lt KB5.out
  have c6_0 : V12.cell? ⟨V6.heap.size, 0, none⟩ = some (.int .u64 8190) := (blk_cell KB6.out 0).trans rfl
  have c6_1 : V12.cell? ⟨V6.heap.size, 1, none⟩ = some (.bool true) := (blk_cell KB6.out 1).trans rfl
  have l6 := blk_lt KB6.out
  have c7_0 : V12.cell? ⟨V7.heap.size, 0, none⟩ = some (.int .u64 8190) := (blk_cell KB7.out 0).trans rfl
  have c7_1 : V12.cell? ⟨V7.heap.size, 1, none⟩ = some (.bool true) := (blk_cell KB7.out 1).trans rfl
  have l7 := blk_lt KB7.out
  go_wp2_with fail
  go_ret
  exact ⟨rfl, HB.out⟩

/-! ### complineref18_Has: function 19 -/
mutual
def complineref18_Has.j0 : Nat → Int → Bool → Int → Bool → Option (Bool)
  | 0, _, _, _, _ => none
  | k + 1, x1, x12, x120000, x120001 => if x12 = true then (some false) else (complineref18_Has.l0 k x1 x120000 0)
def complineref18_Has.l0 : Nat → Int → Int → Int → Option (Bool)
  | 0, _, _, _ => none
  | k + 1, x1, x5, x6 => if x6 < x1 then (complineref18_Has.l0 k x1 (IntKind.u64.wrap (Int.tdiv x5 2)) (wrap64 (x6 + 1))) else (some ((Int.tmod x5 2) == 1))
end
def complineref18_Has.f (k : Nat) (a0_0 : Int) (a0_1 : Bool) (a1 : Int) : Option (Bool) := if a1 < 0 then (complineref18_Has.j0 k a1 true a0_0 a0_1) else (complineref18_Has.j0 k a1 (decide (a1 > 63)) a0_0 a0_1)
theorem complineref18_Has.mono_l : ∀ k, (∀ y0 y1 y2 y3, LeO (complineref18_Has.j0 k y0 y1 y2 y3) (complineref18_Has.j0 (k + 1) y0 y1 y2 y3)) ∧ (∀ y0 y1 y2, LeO (complineref18_Has.l0 k y0 y1 y2) (complineref18_Has.l0 (k + 1) y0 y1 y2))
  | 0 => ⟨fun _ _ _ _ r h => by simp [complineref18_Has.j0] at h, fun _ _ _ r h => by simp [complineref18_Has.l0] at h⟩
  | k + 1 => by
    obtain ⟨ih0, ih1⟩ := complineref18_Has.mono_l k
    refine ⟨?_, ?_⟩
    · intro y0 y1 y2 y3
      unfold complineref18_Has.j0
      repeat' first
      | (with_reducible exact ih0 _ _ _ _)
      | (with_reducible exact ih1 _ _ _)
      | (with_reducible exact LeO.refl _)
      | (with_reducible exact LeO.none _)
      | (with_reducible refine LeO.ite ?_ ?_)
      | (with_reducible refine LeO.bind ?_ (fun _ => ?_))
      | exact ih0 _ _ _ _
      | exact ih1 _ _ _
      | exact LeO.none _
      | refine LeO.ite ?_ ?_
      | refine LeO.bind ?_ (fun _ => ?_)
    · intro y0 y1 y2
      unfold complineref18_Has.l0
      repeat' first
      | (with_reducible exact ih0 _ _ _ _)
      | (with_reducible exact ih1 _ _ _)
      | (with_reducible exact LeO.refl _)
      | (with_reducible exact LeO.none _)
      | (with_reducible refine LeO.ite ?_ ?_)
      | (with_reducible refine LeO.bind ?_ (fun _ => ?_))
      | exact ih0 _ _ _ _
      | exact ih1 _ _ _
      | exact LeO.none _
      | refine LeO.ite ?_ ?_
      | refine LeO.bind ?_ (fun _ => ?_)
theorem complineref18_Has.mono : ∀ a0 a1 a2 k, LeO (complineref18_Has.f k a0 a1 a2) (complineref18_Has.f (k + 1) a0 a1 a2) := by
  intro a0 a1 a2 k
  obtain ⟨ih0, ih1⟩ := complineref18_Has.mono_l k
  unfold complineref18_Has.f
  repeat' first
      | (with_reducible exact ih0 _ _ _ _)
      | (with_reducible exact ih1 _ _ _)
      | (with_reducible exact LeO.refl _)
      | (with_reducible exact LeO.none _)
      | (with_reducible refine LeO.ite ?_ ?_)
      | (with_reducible refine LeO.bind ?_ (fun _ => ?_))
      | exact ih0 _ _ _ _
      | exact ih1 _ _ _
      | exact LeO.none _
      | refine LeO.ite ?_ ?_
      | refine LeO.bind ?_ (fun _ => ?_)
set_option maxHeartbeats 8000000 in
set_option maxRecDepth 100000 in
theorem complineref18_Has.calls (k : Nat) (a0_0 : Int) (a0_1 : Bool) (a1 : Int) (r : Bool) (w : World) (h : complineref18_Has.f k a0_0 a0_1 a1 = some r) :
    Calls Tryd.prog 19 #[.agg #[.int .u64 a0_0, .bool a0_1], .int .i64 a1] w fun e w' => e = .returned (.bool r) ∧ Below w.heap.size w w' := by
  have hu25 := Tryd.underlying25
  have HB := Aside0.mk (Below.refl w.heap.size w)
  have H : (if a1 < 0 then (complineref18_Has.j0 k a1 true a0_0 a0_1) else (complineref18_Has.j0 k a1 (decide (a1 > 63)) a0_0 a0_1)) = some r := h
  clear h
  have HC3 := Aside0.mk H
  clear H
  go_enter Tryd.func19, Tryd.ntmps19
  go_upto_region 1 with (first | ((with_reducible refine gate_dst (N := 2) rfl ?_); refine box_event ?hg (N := 2) ?hd (cs := #[.int .u64 a0_0, .bool a0_1]) (t := 25) ?hr ?_; (case hd => rfl); (case hg => rfl); (case hr => first | (go_simp; done) | (go_simp; rfl)); intro gb119 hg w4 hbox hb; have n0_ := Aside0.mk (below_step (by repeat (first | (with_reducible first | exact HB.out | apply below_alloc | apply pw_below_drewN | apply below_drew1) | exact HB.out)) hb); have n1_ := Aside0.mk (hbox); have n2_ := Aside0.mk ((by rw [hg]; exact (below_size (by repeat (first | (with_reducible first | exact HB.out | apply below_alloc | apply pw_below_drewN | apply below_drew1) | exact HB.out))) : w.heap.size ≤ gb119)); have n3_ := Aside0.mk ((by rw [hg]; exact (below_size (by repeat (first | (with_reducible first | exact HB.out | apply below_alloc | apply pw_below_drewN | apply below_drew1) | exact HB.out))) : w.heap.size ≤ gb119)); clear HB; have HB := n0_; have BK119 := n1_; have GW119 := n2_; have GE119 := n3_; clear n0_ n1_ n2_ n3_; clear hb hbox hg))
  (try simp only [Act.put, List.setIfInBounds_toArray, List.set_cons_zero, List.set_cons_succ])
  go_cut [12] (fun v12 wc => ∃ (kq : Nat) (x12_2 : Bool), v12 = .bool x12_2 ∧ Aside0 (complineref18_Has.j0 kq a1 x12_2 a0_0 a0_1 = some r) ∧ Aside0 (kq ≤ k) ∧ Aside0 (wc.heap[gb119]? = some (.cells #[.int .u64 a0_0, .bool a0_1] 25 (0, 0))) ∧ Aside0 (Below w.heap.size w wc))
  case first =>
    have H := HC3.out
    clear HC3
    by_cases c5 : a1 < 0
    · rw [if_pos c5] at H
      have c5b0 : decide (a1 < 0) = true := decide_eq_true c5
      clear c5
      (first | rw [c5b0] | (simp only [i64_w, i32_w]; rw [c5b0]) | skip)
      have H' := Aside0.mk H
      clear H
      go_wp2
      go_meet
      case rel => exact ⟨_, (true), (by first | rfl | (simp; done) | (simp [*]; done)), H', ⟨by first | omega | exact Nat.le_refl _⟩, ⟨by (with_reducible repeat (first | refine blk_drewN ?_ _ | refine blk_drew ?_ | refine blk_alloc ?_ _)); exact BK119.out⟩, ⟨by repeat (first | (with_reducible first | exact HB.out | apply below_alloc | apply pw_below_drewN | apply below_drew1 | refine below_set ?_ GE119.out) | exact HB.out)⟩⟩
    · rw [if_neg c5] at H
      have c5b0 : decide (a1 < 0) = false := decide_eq_false c5
      clear c5
      (first | rw [c5b0] | (simp only [i64_w, i32_w]; rw [c5b0]) | skip)
      have H' := Aside0.mk H
      clear H
      go_wp2
      go_meet
      case rel => exact ⟨_, (decide (a1 > 63)), (by first | rfl | (simp; done) | (simp [*]; done)), H', ⟨by first | omega | exact Nat.le_refl _⟩, ⟨by (with_reducible repeat (first | refine blk_drewN ?_ _ | refine blk_drew ?_ | refine blk_alloc ?_ _)); exact BK119.out⟩, ⟨by repeat (first | (with_reducible first | exact HB.out | apply below_alloc | apply pw_below_drewN | apply below_drew1 | refine below_set ?_ GE119.out) | exact HB.out)⟩⟩
  case rest =>
    clear HC3
    try clear c1
    try clear p2
    try clear c5
    try clear c5b0
    obtain ⟨kq, x12_2, rfl, HA, HJ2, BK119, HB⟩ := hcut
    cases kq with
    | zero => exact absurd HA.out (by simp [complineref18_Has.j0])
    | succ kj2 =>
      have H := HA.out
      clear HA
      simp only [complineref18_Has.j0] at H
      by_cases c6 : x12_2 = true
      · subst c6
        have H1 : (some false) = some r := by rw [if_pos rfl] at H; exact H
        clear H
        have H := H1
        clear H1
        obtain rfl := Option.some.inj H
        go_wp2
        go_ret
        exact ⟨by first | rfl | (simp [errW_none, errW_some] <;> rfl) | (simp [*, errW_none, errW_some] <;> rfl), by repeat (first | (with_reducible first | exact HB.out | apply below_alloc | apply pw_below_drewN | apply below_drew1 | refine below_set ?_ GE119.out) | exact HB.out)⟩
      · replace c6 := Bool.eq_false_iff.mpr c6
        subst c6
        have H1 : (complineref18_Has.l0 kj2 a1 a0_0 0) = some r := by rw [if_neg (show ¬ (false = true) by decide)] at H; exact H
        clear H
        have H := H1
        clear H1
        have H' := Aside0.mk H
        clear H
        have hcz7_0 : wc.cell? ⟨gb119, 0, none⟩ = some (.int .u64 a0_0) := (blk_cell BK119.out 0).trans rfl
        have hcz7_1 : wc.cell? ⟨gb119, 1, none⟩ = some (.bool a0_1) := (blk_cell BK119.out 1).trans rfl
        have hfz7_0 := blk_frozen BK119.out 0
        have hfz7_1 := blk_frozen BK119.out 1
        go_wp2
        go_loopg [5, 6] kj2 (fun kq v5 v6 w' => ∃ (x5_2 : Int) (x6_2 : Int), v5 = .int .u64 x5_2 ∧ v6 = .int .i64 x6_2 ∧ Aside0 (complineref18_Has.l0 kq a1 x5_2 x6_2 = some r) ∧ Aside0 (kq ≤ kj2) ∧ Aside0 (w'.heap[gb119]? = some (.cells #[.int .u64 a0_0, .bool a0_1] 25 (0, 0))) ∧ Aside0 (Below w.heap.size w w'))
        case atStart => exact ⟨(a0_0), (0), (by first | rfl | (simp; done) | (simp [*]; done)), (by first | rfl | (simp; done) | (simp [*]; done)), H', ⟨Nat.le_refl _⟩, ⟨by (with_reducible repeat (first | refine blk_drewN ?_ _ | refine blk_drew ?_ | refine blk_alloc ?_ _)); exact BK119.out⟩, ⟨by repeat (first | (with_reducible first | exact HB.out | apply below_alloc | apply pw_below_drewN | apply below_drew1 | refine below_set ?_ GE119.out) | exact HB.out)⟩⟩
        case round =>
          clear H'
          try clear c1
          try clear p2
          try clear c5
          try clear c5b0
          try clear c6
          try clear hcz7_0
          try clear hcz7_1
          try clear hfz7_0
          try clear hfz7_1
          try clear p2
          obtain ⟨x5_2, x6_2, rfl, rfl, HA, HK2, BK119, HB⟩ := hrel
          cases gk with
          | zero => exact absurd HA.out (by simp [complineref18_Has.l0])
          | succ k2 =>
            have H := HA.out
            clear HA
            simp only [complineref18_Has.l0] at H
            by_cases c8 : x6_2 < a1
            · rw [if_pos c8] at H
              have c8b0 : decide (x6_2 < a1) = true := decide_eq_true c8
              clear c8
              have H' := Aside0.mk H
              clear H
              go_wp2
              go_roundg k2
              case measure => have := HJ2.out; have := HK2.out; omega
              case rel => exact ⟨(IntKind.u64.wrap (Int.tdiv x5_2 2)), (wrap64 (x6_2 + 1)), (by first | rfl | (simp; done) | (simp [*]; done)), (by first | rfl | (simp; done) | (simp [*]; done)), H', ⟨by have := HJ2.out; have := HK2.out; omega⟩, ⟨by (with_reducible repeat (first | refine blk_drewN ?_ _ | refine blk_drew ?_ | refine blk_alloc ?_ _)); exact BK119.out⟩, ⟨by repeat (first | (with_reducible first | exact HB.out | apply below_alloc | apply pw_below_drewN | apply below_drew1 | refine below_set ?_ GE119.out) | exact HB.out)⟩⟩
            · rw [if_neg c8] at H
              have c8b0 : decide (x6_2 < a1) = false := decide_eq_false c8
              clear c8
              obtain rfl := Option.some.inj H
              go_wp2
              go_ret
              exact ⟨by first | rfl | (simp [errW_none, errW_some] <;> rfl) | (simp [*, errW_none, errW_some] <;> rfl), by repeat (first | (with_reducible first | exact HB.out | apply below_alloc | apply pw_below_drewN | apply below_drew1 | refine below_set ?_ GE119.out) | exact HB.out)⟩

/-! ### complineref18_First: function 15 -/
def complineref18_First.l0 : Nat → Int → Int → Bool → Option (Int × Bool)
  | 0, _, _, _ => none
  | k + 1, x6, x121000, x121001 => if x6 < 64 then ((complineref18_Has.f k x121000 x121001 x6).bind fun t121 => (if t121 = true then (some (x6, true)) else (complineref18_First.l0 k (wrap64 (x6 + 1)) x121000 x121001))) else (some (0, false))
def complineref18_First.f (k : Nat) (a0_0 : Int) (a0_1 : Bool) (a1 : Int) : Option (Int × Bool) := complineref18_First.l0 k (mx a1 0) a0_0 a0_1
theorem complineref18_First.mono_l : ∀ k, (∀ y0 y1 y2, LeO (complineref18_First.l0 k y0 y1 y2) (complineref18_First.l0 (k + 1) y0 y1 y2))
  | 0 => fun _ _ _ r h => by simp [complineref18_First.l0] at h
  | k + 1 => by
    have ih0 := complineref18_First.mono_l k
    · intro y0 y1 y2
      unfold complineref18_First.l0
      repeat' first
      | (with_reducible exact ih0 _ _ _)
      | (with_reducible exact complineref18_Has.mono _ _ _ _)
      | (with_reducible exact LeO.refl _)
      | (with_reducible exact LeO.none _)
      | (with_reducible refine LeO.ite ?_ ?_)
      | (with_reducible refine LeO.bind ?_ (fun _ => ?_))
      | exact ih0 _ _ _
      | exact complineref18_Has.mono _ _ _ _
      | exact LeO.none _
      | refine LeO.ite ?_ ?_
      | refine LeO.bind ?_ (fun _ => ?_)
theorem complineref18_First.mono : ∀ a0 a1 a2 k, LeO (complineref18_First.f k a0 a1 a2) (complineref18_First.f (k + 1) a0 a1 a2) := by
  intro a0 a1 a2 k
  have ih0 := complineref18_First.mono_l k
  unfold complineref18_First.f
  repeat' first
      | (with_reducible exact ih0 _ _ _)
      | (with_reducible exact complineref18_Has.mono _ _ _ _)
      | (with_reducible exact LeO.refl _)
      | (with_reducible exact LeO.none _)
      | (with_reducible refine LeO.ite ?_ ?_)
      | (with_reducible refine LeO.bind ?_ (fun _ => ?_))
      | exact ih0 _ _ _
      | exact complineref18_Has.mono _ _ _ _
      | exact LeO.none _
      | refine LeO.ite ?_ ?_
      | refine LeO.bind ?_ (fun _ => ?_)
set_option maxHeartbeats 8000000 in
set_option maxRecDepth 100000 in
theorem complineref18_First.calls (k : Nat) (a0_0 : Int) (a0_1 : Bool) (a1 : Int) (r1 : Int) (r2 : Bool) (w : World) (h : complineref18_First.f k a0_0 a0_1 a1 = some (r1, r2)) :
    Calls Tryd.prog 15 #[.agg #[.int .u64 a0_0, .bool a0_1], .int .i64 a1] w fun e w' => e = .returned (.tuple #[.int .i64 r1, .bool r2]) ∧ Below w.heap.size w w' := by
  have hu25 := Tryd.underlying25
  have HB := Aside0.mk (Below.refl w.heap.size w)
  have H : (complineref18_First.l0 k (mx a1 0) a0_0 a0_1) = some (r1, r2) := h
  clear h
  obtain ⟨ji3, hji3⟩ : ∃ j_ : Int, (mx a1 0) = j_ := ⟨_, rfl⟩
  replace H : (complineref18_First.l0 k ji3 a0_0 a0_1) = some (r1, r2) := by first | (rw [hji3] at H; exact H) | (simp only [hji3] at H ⊢; exact H)
  (try (have hji3l : 0 ≤ ji3 := by (rw [← hji3]; unfold mx; (repeat' split) <;> omega)))
  (try (have hji3m : 0 ≤ ji3 := by omega))
  have hji3_ : (if a1 < 0 then 0 else a1) = ji3 := hji3
  have H' := Aside0.mk H
  clear H
  go_enter Tryd.func15, Tryd.ntmps15
  go_wp2_with (first | ((with_reducible refine gate_dst (N := 2) rfl ?_); refine box_event ?hg (N := 2) ?hd (cs := #[.int .u64 a0_0, .bool a0_1]) (t := 25) ?hr ?_; (case hd => rfl); (case hg => rfl); (case hr => first | (go_simp; done) | (go_simp; rfl)); intro gb120 hg w4 hbox hb; have n0_ := Aside0.mk (below_step (by repeat (first | (with_reducible first | exact HB.out | apply below_alloc | apply pw_below_drewN | apply below_drew1) | exact HB.out)) hb); have n1_ := Aside0.mk (hbox); have n2_ := Aside0.mk ((by rw [hg]; exact (below_size (by repeat (first | (with_reducible first | exact HB.out | apply below_alloc | apply pw_below_drewN | apply below_drew1) | exact HB.out))) : w.heap.size ≤ gb120)); have n3_ := Aside0.mk ((by rw [hg]; exact (below_size (by repeat (first | (with_reducible first | exact HB.out | apply below_alloc | apply pw_below_drewN | apply below_drew1) | exact HB.out))) : w.heap.size ≤ gb120)); clear HB; have HB := n0_; have BK120 := n1_; have GW120 := n2_; have GE120 := n3_; clear n0_ n1_ n2_ n3_; clear hb hbox hg))
  go_loopg [6] k (fun kq v6 w' => ∃ (x6_1 : Int), v6 = .int .i64 x6_1 ∧ Aside0 (complineref18_First.l0 kq x6_1 a0_0 a0_1 = some (r1, r2)) ∧ Aside0 (kq ≤ k) ∧ Aside0 (w'.heap[gb120]? = some (.cells #[.int .u64 a0_0, .bool a0_1] 25 (0, 0))) ∧ Aside0 (Below w.heap.size w w'))
  case atStart => exact ⟨(ji3), (by first | rfl | (simp; done) | (simp only [← hji3] <;> (first | rfl | simp)) | (simp [*]; done)), H', ⟨Nat.le_refl _⟩, ⟨by (with_reducible repeat (first | refine blk_drewN ?_ _ | refine blk_drew ?_ | refine blk_alloc ?_ _)); exact BK120.out⟩, ⟨by repeat (first | (with_reducible first | exact HB.out | apply below_alloc | apply pw_below_drewN | apply below_drew1 | refine below_set ?_ GE120.out) | exact HB.out)⟩⟩
  case round =>
    clear H'
    try clear c1
    try clear p2
    obtain ⟨x6_1, rfl, HA, HK1, BK120, HB⟩ := hrel
    cases gk with
    | zero => exact absurd HA.out (by simp [complineref18_First.l0])
    | succ k1 =>
      have H := HA.out
      clear HA
      simp only [complineref18_First.l0] at H
      by_cases c5 : x6_1 < 64
      · rw [if_pos c5] at H
        have c5b0 : decide (x6_1 < 64) = true := decide_eq_true c5
        clear c5
        replace H := Option.bind_eq_some_iff.mp H
        obtain ⟨t121, A60, H⟩ := H
        replace H : (if t121 = true then (some (x6_1, true)) else (complineref18_First.l0 k1 (wrap64 (x6_1 + 1)) a0_0 a0_1)) = some (r1, r2) := H
        have A6 := Aside0.mk A60
        clear A60
        by_cases c7 : t121 = true
        · subst c7
          have H1 : (some (x6_1, true)) = some (r1, r2) := by rw [if_pos rfl] at H; exact H
          clear H
          have H := H1
          clear H1
          simp only [Option.some.injEq, Prod.mk.injEq] at H
          obtain ⟨rfl, rfl⟩ := H
          have hcz8_0 : wr.cell? ⟨gb120, 0, none⟩ = some (.int .u64 a0_0) := (blk_cell BK120.out 0).trans rfl
          have hcz8_1 : wr.cell? ⟨gb120, 1, none⟩ = some (.bool a0_1) := (blk_cell BK120.out 1).trans rfl
          have hfz8_0 := blk_frozen BK120.out 0
          have hfz8_1 := blk_frozen BK120.out 1
          go_wp2_with (first | ((with_reducible refine gate_callee (f := 19) rfl ?_); refine goesL_ (some 16) rfl rfl Tryd.func19 (by kernel_rfl) rfl #[.agg #[.int .u64 a0_0, .bool a0_1], .int .i64 x6_1] rfl (by (try simp only [List.map_toArray, List.map_cons, List.map_nil]); first | done | rfl | (simp only [List.length_drop, List.length_take]; rfl)) ?_; (with_reducible refine (complineref18_Has.calls k1 a0_0 a0_1 x6_1 true _ A6.out).mono ?_); rintro e w9 ⟨rfl, hb⟩; refine ⟨_, rfl, ?_⟩; have n0_ := Aside0.mk (blk_below (g := gb120) (o := .cells #[.int .u64 a0_0, .bool a0_1] 25 (0, 0)) (by (with_reducible repeat (first | refine blk_drewN ?_ _ | refine blk_drew ?_ | refine blk_alloc ?_ _)); exact BK120.out) hb); have n1_ := Aside0.mk (below_step (by repeat (first | (with_reducible first | exact HB.out | apply below_alloc | apply pw_below_drewN | apply below_drew1 | refine below_set ?_ GE120.out) | exact HB.out)) hb); clear BK120; clear HB; have BK120 := n0_; have HB := n1_; clear n0_ n1_; (try clear hb); (try clear hb2); (try clear hk); (try clear hi)))
          go_ret2
          exact ⟨by first | rfl | (simp [errW_none, errW_some] <;> rfl) | (simp only [← hji3]; first | rfl | (simp [errW_none, errW_some] <;> rfl)) | (simp [*, errW_none, errW_some] <;> rfl), by repeat (first | (with_reducible first | exact HB.out | apply below_alloc | apply pw_below_drewN | apply below_drew1 | refine below_set ?_ GE120.out) | exact HB.out)⟩
        · replace c7 := Bool.eq_false_iff.mpr c7
          subst c7
          have H1 : (complineref18_First.l0 k1 (wrap64 (x6_1 + 1)) a0_0 a0_1) = some (r1, r2) := by rw [if_neg (show ¬ (false = true) by decide)] at H; exact H
          clear H
          have H := H1
          clear H1
          have H' := Aside0.mk H
          clear H
          have hcz10_0 : wr.cell? ⟨gb120, 0, none⟩ = some (.int .u64 a0_0) := (blk_cell BK120.out 0).trans rfl
          have hcz10_1 : wr.cell? ⟨gb120, 1, none⟩ = some (.bool a0_1) := (blk_cell BK120.out 1).trans rfl
          have hfz10_0 := blk_frozen BK120.out 0
          have hfz10_1 := blk_frozen BK120.out 1
          go_wp2_with (first | ((with_reducible refine gate_callee (f := 19) rfl ?_); refine goesL_ (some 16) rfl rfl Tryd.func19 (by kernel_rfl) rfl #[.agg #[.int .u64 a0_0, .bool a0_1], .int .i64 x6_1] rfl (by (try simp only [List.map_toArray, List.map_cons, List.map_nil]); first | done | rfl | (simp only [List.length_drop, List.length_take]; rfl)) ?_; (with_reducible refine (complineref18_Has.calls k1 a0_0 a0_1 x6_1 false _ A6.out).mono ?_); rintro e w11 ⟨rfl, hb⟩; refine ⟨_, rfl, ?_⟩; have n0_ := Aside0.mk (blk_below (g := gb120) (o := .cells #[.int .u64 a0_0, .bool a0_1] 25 (0, 0)) (by (with_reducible repeat (first | refine blk_drewN ?_ _ | refine blk_drew ?_ | refine blk_alloc ?_ _)); exact BK120.out) hb); have n1_ := Aside0.mk (below_step (by repeat (first | (with_reducible first | exact HB.out | apply below_alloc | apply pw_below_drewN | apply below_drew1 | refine below_set ?_ GE120.out) | exact HB.out)) hb); clear BK120; clear HB; have BK120 := n0_; have HB := n1_; clear n0_ n1_; (try clear hb); (try clear hb2); (try clear hk); (try clear hi)))
          go_roundg k1
          case measure => have := HK1.out; omega
          case rel => exact ⟨(wrap64 (x6_1 + 1)), (by first | rfl | (simp; done) | (simp [*]; done)), H', ⟨by have := HK1.out; omega⟩, ⟨by (with_reducible repeat (first | refine blk_drewN ?_ _ | refine blk_drew ?_ | refine blk_alloc ?_ _)); exact BK120.out⟩, ⟨by repeat (first | (with_reducible first | exact HB.out | apply below_alloc | apply pw_below_drewN | apply below_drew1 | refine below_set ?_ GE120.out) | exact HB.out)⟩⟩
      · rw [if_neg c5] at H
        have c5b0 : decide (x6_1 < 64) = false := decide_eq_false c5
        clear c5
        simp only [Option.some.injEq, Prod.mk.injEq] at H
        obtain ⟨rfl, rfl⟩ := H
        go_wp2
        go_ret2
        exact ⟨by first | rfl | (simp [errW_none, errW_some] <;> rfl) | (simp only [← hji3]; first | rfl | (simp [errW_none, errW_some] <;> rfl)) | (simp [*, errW_none, errW_some] <;> rfl), by repeat (first | (with_reducible first | exact HB.out | apply below_alloc | apply pw_below_drewN | apply below_drew1 | refine below_set ?_ GE120.out) | exact HB.out)⟩

/-! ### complineref17_Limits: function 49 -/
def complineref17_Limits.f (a0 : Int) : Option (Int × Int × Int) := if a0 = 0 then (some (0, 59, 0)) else (if a0 = 1 then (some (0, 23, 0)) else (if a0 = 2 then (some (1, 31, 0)) else (if a0 = 3 then (some (1, 12, 0)) else (if a0 = 4 then (some (0, 7, 0)) else (some (0, 0, 7))))))
set_option maxHeartbeats 8000000 in
set_option maxRecDepth 100000 in
theorem complineref17_Limits.calls (a0 : Int) (r1 : Int) (r2 : Int) (r3 : Int) (w : World) (h : complineref17_Limits.f a0 = some (r1, r2, r3)) :
    Calls Tryd.prog 49 #[.int .i64 a0] w fun e w' => e = .returned (.tuple #[.int .i64 r1, .int .i64 r2, .int .i64 r3]) ∧ Drawn0 w w' := by
  have H : (if a0 = 0 then (some (0, 59, 0)) else (if a0 = 1 then (some (0, 23, 0)) else (if a0 = 2 then (some (1, 31, 0)) else (if a0 = 3 then (some (1, 12, 0)) else (if a0 = 4 then (some (0, 7, 0)) else (some (0, 0, 7))))))) = some (r1, r2, r3) := h
  clear h
  by_cases c2 : a0 = 0
  · rw [if_pos c2] at H
    have c2b0 : (a0 == 0) = true := beq_iff_eq.mpr c2
    have c2b1 : (a0 != 0) = false := bne_eq_false_iff_eq.mpr c2
    clear c2
    simp only [Option.some.injEq, Prod.mk.injEq] at H
    obtain ⟨rfl, rfl, rfl⟩ := H
    go_enter Tryd.func49, Tryd.ntmps49
    go_wp2
    go_ret3
    exact ⟨by first | rfl | (simp; done) | (simp [*]; done), by repeat (first | exact Drawn0.refl _ | apply Drawn0.step)⟩
  · rw [if_neg c2] at H
    have c2b0 : (a0 == 0) = false := beq_eq_false_iff_ne.mpr c2
    have c2b1 : (a0 != 0) = true := bne_iff_ne.mpr c2
    by_cases c3 : a0 = 1
    · rw [if_pos c3] at H
      have c3b0 : (a0 == 1) = true := beq_iff_eq.mpr c3
      have c3b1 : (a0 != 1) = false := bne_eq_false_iff_eq.mpr c3
      clear c3
      simp only [Option.some.injEq, Prod.mk.injEq] at H
      obtain ⟨rfl, rfl, rfl⟩ := H
      go_enter Tryd.func49, Tryd.ntmps49
      go_wp2
      go_ret3
      exact ⟨by first | rfl | (simp; done) | (simp [*]; done), by repeat (first | exact Drawn0.refl _ | apply Drawn0.step)⟩
    · rw [if_neg c3] at H
      have c3b0 : (a0 == 1) = false := beq_eq_false_iff_ne.mpr c3
      have c3b1 : (a0 != 1) = true := bne_iff_ne.mpr c3
      by_cases c4 : a0 = 2
      · rw [if_pos c4] at H
        have c4b0 : (a0 == 2) = true := beq_iff_eq.mpr c4
        have c4b1 : (a0 != 2) = false := bne_eq_false_iff_eq.mpr c4
        clear c4
        simp only [Option.some.injEq, Prod.mk.injEq] at H
        obtain ⟨rfl, rfl, rfl⟩ := H
        go_enter Tryd.func49, Tryd.ntmps49
        go_wp2
        go_ret3
        exact ⟨by first | rfl | (simp; done) | (simp [*]; done), by repeat (first | exact Drawn0.refl _ | apply Drawn0.step)⟩
      · rw [if_neg c4] at H
        have c4b0 : (a0 == 2) = false := beq_eq_false_iff_ne.mpr c4
        have c4b1 : (a0 != 2) = true := bne_iff_ne.mpr c4
        by_cases c5 : a0 = 3
        · rw [if_pos c5] at H
          have c5b0 : (a0 == 3) = true := beq_iff_eq.mpr c5
          have c5b1 : (a0 != 3) = false := bne_eq_false_iff_eq.mpr c5
          clear c5
          simp only [Option.some.injEq, Prod.mk.injEq] at H
          obtain ⟨rfl, rfl, rfl⟩ := H
          go_enter Tryd.func49, Tryd.ntmps49
          go_wp2
          go_ret3
          exact ⟨by first | rfl | (simp; done) | (simp [*]; done), by repeat (first | exact Drawn0.refl _ | apply Drawn0.step)⟩
        · rw [if_neg c5] at H
          have c5b0 : (a0 == 3) = false := beq_eq_false_iff_ne.mpr c5
          have c5b1 : (a0 != 3) = true := bne_iff_ne.mpr c5
          by_cases c6 : a0 = 4
          · rw [if_pos c6] at H
            have c6b0 : (a0 == 4) = true := beq_iff_eq.mpr c6
            have c6b1 : (a0 != 4) = false := bne_eq_false_iff_eq.mpr c6
            clear c6
            simp only [Option.some.injEq, Prod.mk.injEq] at H
            obtain ⟨rfl, rfl, rfl⟩ := H
            go_enter Tryd.func49, Tryd.ntmps49
            go_wp2
            go_ret3
            exact ⟨by first | rfl | (simp; done) | (simp [*]; done), by repeat (first | exact Drawn0.refl _ | apply Drawn0.step)⟩
          · rw [if_neg c6] at H
            have c6b0 : (a0 == 4) = false := beq_eq_false_iff_ne.mpr c6
            have c6b1 : (a0 != 4) = true := bne_iff_ne.mpr c6
            simp only [Option.some.injEq, Prod.mk.injEq] at H
            obtain ⟨rfl, rfl, rfl⟩ := H
            go_enter Tryd.func49, Tryd.ntmps49
            go_wp2
            go_ret3
            exact ⟨by first | rfl | (simp; done) | (simp [*]; done), by repeat (first | exact Drawn0.refl _ | apply Drawn0.step)⟩

end Go.Proofs.YtfkhifbllpibjaaDoor.PFtl
