-- Written by a program of this session (gprint.py) over the kit's print.
import Derived.Test.YtjddfpciblhpaaaDoorPSpcx9
namespace Go.Proofs.YtjddfpciblhpaaaDoor.PSpc
open Go.RowKit Go.Proofs.YtjddfpciblhpaaaDoorW.PrintWords Go.Proofs.YtjddfpciblhpaaaDoorW.PrintLast Go.Proofs.YtjddfpciblhpaaaDoorW.PrintMore
attribute [local go_sem] max2_int min2_int max_two min_two max_three min_three max_four min_four   -- for this text's walks alone
set_option linter.unusedVariables false
set_option linter.unusedSimpArgs false

/-! ### complinelaw19_SpecPuts: function 6 -/
/-! This session's own: the law SpecPuts, walked whole. -/
theorem Spc.eqF (d : Nat) (w : World) (x0 y0 : Int) (x1 y1 : Bool) :
    (Op.equalIn (d + 2) 24 (.agg #[.int .u64 x0, .bool x1]) (.agg #[.int .u64 y0, .bool y1])).run Tryd.prog w = .ok (x0 == y0 && (x1 == y1)) w := by
  refine eqA_of Tryd.underlying24 (by kernel_rfl) ?_
  refine eqf_cons (by rfl) (by go_simp; rfl) (by go_simp; rfl) (by go_simp) ?_
  exact eqf_last (by rfl) (by go_simp; rfl) (by go_simp; rfl) (by go_simp)
theorem Spc.eqS (d : Nat) (w : World) (x0 : Int) (x1 : Bool) (x2 : Int) (x3 : Bool) (x4 : Int) (x5 : Bool) (x6 : Int) (x7 : Bool) (x8 : Int) (x9 : Bool) (y0 : Int) (y1 : Bool) (y2 : Int) (y3 : Bool) (y4 : Int) (y5 : Bool) (y6 : Int) (y7 : Bool) (y8 : Int) (y9 : Bool) :
    (Op.equalIn (d + 3) 26 (.agg #[.int .u64 x0, .bool x1, .int .u64 x2, .bool x3, .int .u64 x4, .bool x5, .int .u64 x6, .bool x7, .int .u64 x8, .bool x9]) (.agg #[.int .u64 y0, .bool y1, .int .u64 y2, .bool y3, .int .u64 y4, .bool y5, .int .u64 y6, .bool y7, .int .u64 y8, .bool y9])).run Tryd.prog w = .ok ((x0 == y0 && (x1 == y1)) && ((x2 == y2 && (x3 == y3)) && ((x4 == y4 && (x5 == y5)) && ((x6 == y6 && (x7 == y7)) && ((x8 == y8 && (x9 == y9)))))) ) w := by
  refine eqA_of Tryd.underlying26 (by kernel_rfl) ?_
  refine eqf_cons (by rfl) (by go_simp) (by go_simp) (Spc.eqF (d + 0) w _ _ _ _) ?_
  refine eqf_cons (by rfl) (by go_simp) (by go_simp) (Spc.eqF (d + 0) w _ _ _ _) ?_
  refine eqf_cons (by rfl) (by go_simp) (by go_simp) (Spc.eqF (d + 0) w _ _ _ _) ?_
  refine eqf_cons (by rfl) (by go_simp) (by go_simp) (Spc.eqF (d + 0) w _ _ _ _) ?_
  exact eqf_last (by rfl) (by go_simp) (by go_simp) (Spc.eqF (d + 0) w _ _ _ _)
set_option maxHeartbeats 8000000 in
set_option maxRecDepth 100000 in
theorem Spc.puts_neg (x0 : Int) (x1 : Bool) (x2 : Int) (x3 : Bool) (x4 : Int) (x5 : Bool) (x6 : Int) (x7 : Bool) (x8 : Int) (x9 : Bool) (kind other : Int) (f0 : Int) (f1 : Bool) (ho : kind < 0) (h1 : spec_With.f x0 x1 x2 x3 x4 x5 x6 x7 x8 x9 kind f0 f1 = some (x0, x1, x2, x3, x4, x5, x6, x7, x8, x9, 7)) (h2 : spec_Get.f x0 x1 x2 x3 x4 x5 x6 x7 x8 x9 kind = some (0, false, 7)) (w : World) (hT : Tab w) : Calls Tryd.prog 6 #[.agg #[.int .u64 x0, .bool x1, .int .u64 x2, .bool x3, .int .u64 x4, .bool x5, .int .u64 x6, .bool x7, .int .u64 x8, .bool x9], .int .i64 kind, .int .i64 other, .agg #[.int .u64 f0, .bool f1]] w fun e w' => e = .returned (.bool true) ∧ Below w.heap.size w w' := by
  have k0 : kind < 0 := ho
  clear ho
  replace h1 := Lib.hid h1
  replace h2 := Lib.hid h2
  have eqF := Spc.eqF
  have eqS := Spc.eqS
  replace hT := Aside0.mk hT
  have HA := below_alloc (below_alloc (Below.refl w.heap.size w) (.cells #[.int .u64 x0, .bool x1, .int .u64 x2, .bool x3, .int .u64 x4, .bool x5, .int .u64 x6, .bool x7, .int .u64 x8, .bool x9] 26)) (.cells #[.int .u64 f0, .bool f1] 24)
  have KA0 := blk_alloc (blk_new w (.cells #[.int .u64 x0, .bool x1, .int .u64 x2, .bool x3, .int .u64 x4, .bool x5, .int .u64 x6, .bool x7, .int .u64 x8, .bool x9] 26)) (.cells #[.int .u64 f0, .bool f1] 24)
  have KA1 : ((w.alloc (.cells #[.int .u64 x0, .bool x1, .int .u64 x2, .bool x3, .int .u64 x4, .bool x5, .int .u64 x6, .bool x7, .int .u64 x8, .bool x9] 26)).alloc (.cells #[.int .u64 f0, .bool f1] 24)).heap[w.heap.size + 1]? = some (.cells #[.int .u64 f0, .bool f1] 24 (0, 0)) := by
    have := heap_alloc_new (w.alloc (.cells #[.int .u64 x0, .bool x1, .int .u64 x2, .bool x3, .int .u64 x4, .bool x5, .int .u64 x6, .bool x7, .int .u64 x8, .bool x9] 26)) (.cells #[.int .u64 f0, .bool f1] 24)
    simpa using this
  go_enter Tryd.func6, Tryd.ntmps6
  go_wp2_with fail
  refine Spc.gen (fun W => Below w.heap.size w W ∧ W.heap[w.heap.size]? = some (.cells #[.int .u64 x0, .bool x1, .int .u64 x2, .bool x3, .int .u64 x4, .bool x5, .int .u64 x6, .bool x7, .int .u64 x8, .bool x9] 26 (0, 0)) ∧ W.heap[w.heap.size + 1]? = some (.cells #[.int .u64 f0, .bool f1] 24 (0, 0))) ⟨HA, KA0, KA1⟩ ?_
  clear HA KA0 KA1
  rintro W0 ⟨HB0, K0_0, K0_1⟩
  have hTk := hT.out.keep HB0
  refine (complinelaw19_works.calls true _ hTk rfl).mono ?_
  rintro e V0 ⟨rfl, hb⟩
  have HB := below_step HB0 hb
  clear hTk
  have KB0 := blk_below K0_0 hb
  have KB1 := blk_below K0_1 hb
  clear hb HB0 K0_0 K0_1
  replace HB := Aside0.mk HB
  replace KB0 := Aside0.mk KB0
  replace KB1 := Aside0.mk KB1
  have c0_0 : V0.cell? ⟨w.heap.size, 0, none⟩ = some (.int .u64 x0) := (blk_cell KB0.out 0).trans rfl
  have c0_1 : V0.cell? ⟨w.heap.size, 1, none⟩ = some (.bool x1) := (blk_cell KB0.out 1).trans rfl
  have c0_2 : V0.cell? ⟨w.heap.size, 2, none⟩ = some (.int .u64 x2) := (blk_cell KB0.out 2).trans rfl
  have c0_3 : V0.cell? ⟨w.heap.size, 3, none⟩ = some (.bool x3) := (blk_cell KB0.out 3).trans rfl
  have c0_4 : V0.cell? ⟨w.heap.size, 4, none⟩ = some (.int .u64 x4) := (blk_cell KB0.out 4).trans rfl
  have c0_5 : V0.cell? ⟨w.heap.size, 5, none⟩ = some (.bool x5) := (blk_cell KB0.out 5).trans rfl
  have c0_6 : V0.cell? ⟨w.heap.size, 6, none⟩ = some (.int .u64 x6) := (blk_cell KB0.out 6).trans rfl
  have c0_7 : V0.cell? ⟨w.heap.size, 7, none⟩ = some (.bool x7) := (blk_cell KB0.out 7).trans rfl
  have c0_8 : V0.cell? ⟨w.heap.size, 8, none⟩ = some (.int .u64 x8) := (blk_cell KB0.out 8).trans rfl
  have c0_9 : V0.cell? ⟨w.heap.size, 9, none⟩ = some (.bool x9) := (blk_cell KB0.out 9).trans rfl
  have l0 := blk_lt KB0.out
  have c1_0 : V0.cell? ⟨w.heap.size + 1, 0, none⟩ = some (.int .u64 f0) := (blk_cell KB1.out 0).trans rfl
  have c1_1 : V0.cell? ⟨w.heap.size + 1, 1, none⟩ = some (.bool f1) := (blk_cell KB1.out 1).trans rfl
  have l1 := blk_lt KB1.out
  go_wp2_with fail
  clear c0_0 c0_1 c0_2 c0_3 c0_4 c0_5 c0_6 c0_7 c0_8 c0_9 l0 c1_0 c1_1 l1
  have HA := HB.out
  have KA0 := KB0.out
  have KA1 := KB1.out
  clear HB KB0 KB1
  refine Spc.gen (fun W => Below w.heap.size w W ∧ W.heap[w.heap.size]? = some (.cells #[.int .u64 x0, .bool x1, .int .u64 x2, .bool x3, .int .u64 x4, .bool x5, .int .u64 x6, .bool x7, .int .u64 x8, .bool x9] 26 (0, 0)) ∧ W.heap[w.heap.size + 1]? = some (.cells #[.int .u64 f0, .bool f1] 24 (0, 0))) ⟨HA, KA0, KA1⟩ ?_
  clear HA KA0 KA1
  rintro W1 ⟨HB1, K1_0, K1_1⟩
  refine (spec_With.calls x0 x1 x2 x3 x4 x5 x6 x7 x8 x9 kind f0 f1 x0 x1 x2 x3 x4 x5 x6 x7 x8 x9 7 _ h1.out).mono ?_
  rintro e V1 ⟨rfl, hb⟩
  have HB := below_step HB1 hb
  have KB0 := blk_below K1_0 hb
  have KB1 := blk_below K1_1 hb
  clear hb HB1 K1_0 K1_1
  replace HB := Aside0.mk HB
  replace KB0 := Aside0.mk KB0
  replace KB1 := Aside0.mk KB1
  have c0_0 : V1.cell? ⟨w.heap.size, 0, none⟩ = some (.int .u64 x0) := (blk_cell KB0.out 0).trans rfl
  have c0_1 : V1.cell? ⟨w.heap.size, 1, none⟩ = some (.bool x1) := (blk_cell KB0.out 1).trans rfl
  have c0_2 : V1.cell? ⟨w.heap.size, 2, none⟩ = some (.int .u64 x2) := (blk_cell KB0.out 2).trans rfl
  have c0_3 : V1.cell? ⟨w.heap.size, 3, none⟩ = some (.bool x3) := (blk_cell KB0.out 3).trans rfl
  have c0_4 : V1.cell? ⟨w.heap.size, 4, none⟩ = some (.int .u64 x4) := (blk_cell KB0.out 4).trans rfl
  have c0_5 : V1.cell? ⟨w.heap.size, 5, none⟩ = some (.bool x5) := (blk_cell KB0.out 5).trans rfl
  have c0_6 : V1.cell? ⟨w.heap.size, 6, none⟩ = some (.int .u64 x6) := (blk_cell KB0.out 6).trans rfl
  have c0_7 : V1.cell? ⟨w.heap.size, 7, none⟩ = some (.bool x7) := (blk_cell KB0.out 7).trans rfl
  have c0_8 : V1.cell? ⟨w.heap.size, 8, none⟩ = some (.int .u64 x8) := (blk_cell KB0.out 8).trans rfl
  have c0_9 : V1.cell? ⟨w.heap.size, 9, none⟩ = some (.bool x9) := (blk_cell KB0.out 9).trans rfl
  have l0 := blk_lt KB0.out
  have c1_0 : V1.cell? ⟨w.heap.size + 1, 0, none⟩ = some (.int .u64 f0) := (blk_cell KB1.out 0).trans rfl
  have c1_1 : V1.cell? ⟨w.heap.size + 1, 1, none⟩ = some (.bool f1) := (blk_cell KB1.out 1).trans rfl
  have l1 := blk_lt KB1.out
  go_wp2_with fail
  clear c0_0 c0_1 c0_2 c0_3 c0_4 c0_5 c0_6 c0_7 c0_8 c0_9 l0 c1_0 c1_1 l1
  have HA := below_alloc HB.out (.cells #[.int .u64 x0, .bool x1, .int .u64 x2, .bool x3, .int .u64 x4, .bool x5, .int .u64 x6, .bool x7, .int .u64 x8, .bool x9] 26)
  have KA0 := blk_alloc KB0.out (.cells #[.int .u64 x0, .bool x1, .int .u64 x2, .bool x3, .int .u64 x4, .bool x5, .int .u64 x6, .bool x7, .int .u64 x8, .bool x9] 26)
  have KA1 := blk_alloc KB1.out (.cells #[.int .u64 x0, .bool x1, .int .u64 x2, .bool x3, .int .u64 x4, .bool x5, .int .u64 x6, .bool x7, .int .u64 x8, .bool x9] 26)
  have KA2 := blk_new V1 (.cells #[.int .u64 x0, .bool x1, .int .u64 x2, .bool x3, .int .u64 x4, .bool x5, .int .u64 x6, .bool x7, .int .u64 x8, .bool x9] 26)
  clear HB KB0 KB1
  refine Spc.gen (fun W => Below w.heap.size w W ∧ W.heap[w.heap.size]? = some (.cells #[.int .u64 x0, .bool x1, .int .u64 x2, .bool x3, .int .u64 x4, .bool x5, .int .u64 x6, .bool x7, .int .u64 x8, .bool x9] 26 (0, 0)) ∧ W.heap[w.heap.size + 1]? = some (.cells #[.int .u64 f0, .bool f1] 24 (0, 0)) ∧ W.heap[V1.heap.size]? = some (.cells #[.int .u64 x0, .bool x1, .int .u64 x2, .bool x3, .int .u64 x4, .bool x5, .int .u64 x6, .bool x7, .int .u64 x8, .bool x9] 26 (0, 0))) ⟨HA, KA0, KA1, KA2⟩ ?_
  clear HA KA0 KA1 KA2
  rintro W2 ⟨HB2, K2_0, K2_1, K2_2⟩
  refine (spec_Get.calls x0 x1 x2 x3 x4 x5 x6 x7 x8 x9 kind 0 false 7 _ h2.out).mono ?_
  rintro e V2 ⟨rfl, hb⟩
  have HB := below_step HB2 hb
  have KB0 := blk_below K2_0 hb
  have KB1 := blk_below K2_1 hb
  have KB2 := blk_below K2_2 hb
  clear hb HB2 K2_0 K2_1 K2_2
  replace HB := Aside0.mk HB
  replace KB0 := Aside0.mk KB0
  replace KB1 := Aside0.mk KB1
  replace KB2 := Aside0.mk KB2
  have c0_0 : V2.cell? ⟨w.heap.size, 0, none⟩ = some (.int .u64 x0) := (blk_cell KB0.out 0).trans rfl
  have c0_1 : V2.cell? ⟨w.heap.size, 1, none⟩ = some (.bool x1) := (blk_cell KB0.out 1).trans rfl
  have c0_2 : V2.cell? ⟨w.heap.size, 2, none⟩ = some (.int .u64 x2) := (blk_cell KB0.out 2).trans rfl
  have c0_3 : V2.cell? ⟨w.heap.size, 3, none⟩ = some (.bool x3) := (blk_cell KB0.out 3).trans rfl
  have c0_4 : V2.cell? ⟨w.heap.size, 4, none⟩ = some (.int .u64 x4) := (blk_cell KB0.out 4).trans rfl
  have c0_5 : V2.cell? ⟨w.heap.size, 5, none⟩ = some (.bool x5) := (blk_cell KB0.out 5).trans rfl
  have c0_6 : V2.cell? ⟨w.heap.size, 6, none⟩ = some (.int .u64 x6) := (blk_cell KB0.out 6).trans rfl
  have c0_7 : V2.cell? ⟨w.heap.size, 7, none⟩ = some (.bool x7) := (blk_cell KB0.out 7).trans rfl
  have c0_8 : V2.cell? ⟨w.heap.size, 8, none⟩ = some (.int .u64 x8) := (blk_cell KB0.out 8).trans rfl
  have c0_9 : V2.cell? ⟨w.heap.size, 9, none⟩ = some (.bool x9) := (blk_cell KB0.out 9).trans rfl
  have l0 := blk_lt KB0.out
  have c1_0 : V2.cell? ⟨w.heap.size + 1, 0, none⟩ = some (.int .u64 f0) := (blk_cell KB1.out 0).trans rfl
  have c1_1 : V2.cell? ⟨w.heap.size + 1, 1, none⟩ = some (.bool f1) := (blk_cell KB1.out 1).trans rfl
  have l1 := blk_lt KB1.out
  have c2_0 : V2.cell? ⟨V1.heap.size, 0, none⟩ = some (.int .u64 x0) := (blk_cell KB2.out 0).trans rfl
  have c2_1 : V2.cell? ⟨V1.heap.size, 1, none⟩ = some (.bool x1) := (blk_cell KB2.out 1).trans rfl
  have c2_2 : V2.cell? ⟨V1.heap.size, 2, none⟩ = some (.int .u64 x2) := (blk_cell KB2.out 2).trans rfl
  have c2_3 : V2.cell? ⟨V1.heap.size, 3, none⟩ = some (.bool x3) := (blk_cell KB2.out 3).trans rfl
  have c2_4 : V2.cell? ⟨V1.heap.size, 4, none⟩ = some (.int .u64 x4) := (blk_cell KB2.out 4).trans rfl
  have c2_5 : V2.cell? ⟨V1.heap.size, 5, none⟩ = some (.bool x5) := (blk_cell KB2.out 5).trans rfl
  have c2_6 : V2.cell? ⟨V1.heap.size, 6, none⟩ = some (.int .u64 x6) := (blk_cell KB2.out 6).trans rfl
  have c2_7 : V2.cell? ⟨V1.heap.size, 7, none⟩ = some (.bool x7) := (blk_cell KB2.out 7).trans rfl
  have c2_8 : V2.cell? ⟨V1.heap.size, 8, none⟩ = some (.int .u64 x8) := (blk_cell KB2.out 8).trans rfl
  have c2_9 : V2.cell? ⟨V1.heap.size, 9, none⟩ = some (.bool x9) := (blk_cell KB2.out 9).trans rfl
  have l2 := blk_lt KB2.out
  go_wp2_with fail
  go_ret
  exact ⟨rfl, by first | exact HB.out | exact below_alloc HB.out _⟩
set_option maxHeartbeats 8000000 in
set_option maxRecDepth 100000 in
theorem Spc.puts_big (x0 : Int) (x1 : Bool) (x2 : Int) (x3 : Bool) (x4 : Int) (x5 : Bool) (x6 : Int) (x7 : Bool) (x8 : Int) (x9 : Bool) (kind other : Int) (f0 : Int) (f1 : Bool) (ho : 4 < kind) (h1 : spec_With.f x0 x1 x2 x3 x4 x5 x6 x7 x8 x9 kind f0 f1 = some (x0, x1, x2, x3, x4, x5, x6, x7, x8, x9, 7)) (h2 : spec_Get.f x0 x1 x2 x3 x4 x5 x6 x7 x8 x9 kind = some (0, false, 7)) (w : World) (hT : Tab w) : Calls Tryd.prog 6 #[.agg #[.int .u64 x0, .bool x1, .int .u64 x2, .bool x3, .int .u64 x4, .bool x5, .int .u64 x6, .bool x7, .int .u64 x8, .bool x9], .int .i64 kind, .int .i64 other, .agg #[.int .u64 f0, .bool f1]] w fun e w' => e = .returned (.bool true) ∧ Below w.heap.size w w' := by
  have k0 : ¬ kind < 0 := by omega
  have k4 : 4 < kind := ho
  clear ho
  replace h1 := Lib.hid h1
  replace h2 := Lib.hid h2
  have eqF := Spc.eqF
  have eqS := Spc.eqS
  replace hT := Aside0.mk hT
  have HA := below_alloc (below_alloc (Below.refl w.heap.size w) (.cells #[.int .u64 x0, .bool x1, .int .u64 x2, .bool x3, .int .u64 x4, .bool x5, .int .u64 x6, .bool x7, .int .u64 x8, .bool x9] 26)) (.cells #[.int .u64 f0, .bool f1] 24)
  have KA0 := blk_alloc (blk_new w (.cells #[.int .u64 x0, .bool x1, .int .u64 x2, .bool x3, .int .u64 x4, .bool x5, .int .u64 x6, .bool x7, .int .u64 x8, .bool x9] 26)) (.cells #[.int .u64 f0, .bool f1] 24)
  have KA1 : ((w.alloc (.cells #[.int .u64 x0, .bool x1, .int .u64 x2, .bool x3, .int .u64 x4, .bool x5, .int .u64 x6, .bool x7, .int .u64 x8, .bool x9] 26)).alloc (.cells #[.int .u64 f0, .bool f1] 24)).heap[w.heap.size + 1]? = some (.cells #[.int .u64 f0, .bool f1] 24 (0, 0)) := by
    have := heap_alloc_new (w.alloc (.cells #[.int .u64 x0, .bool x1, .int .u64 x2, .bool x3, .int .u64 x4, .bool x5, .int .u64 x6, .bool x7, .int .u64 x8, .bool x9] 26)) (.cells #[.int .u64 f0, .bool f1] 24)
    simpa using this
  go_enter Tryd.func6, Tryd.ntmps6
  go_wp2_with fail
  refine Spc.gen (fun W => Below w.heap.size w W ∧ W.heap[w.heap.size]? = some (.cells #[.int .u64 x0, .bool x1, .int .u64 x2, .bool x3, .int .u64 x4, .bool x5, .int .u64 x6, .bool x7, .int .u64 x8, .bool x9] 26 (0, 0)) ∧ W.heap[w.heap.size + 1]? = some (.cells #[.int .u64 f0, .bool f1] 24 (0, 0))) ⟨HA, KA0, KA1⟩ ?_
  clear HA KA0 KA1
  rintro W0 ⟨HB0, K0_0, K0_1⟩
  have hTk := hT.out.keep HB0
  refine (complinelaw19_works.calls true _ hTk rfl).mono ?_
  rintro e V0 ⟨rfl, hb⟩
  have HB := below_step HB0 hb
  clear hTk
  have KB0 := blk_below K0_0 hb
  have KB1 := blk_below K0_1 hb
  clear hb HB0 K0_0 K0_1
  replace HB := Aside0.mk HB
  replace KB0 := Aside0.mk KB0
  replace KB1 := Aside0.mk KB1
  have c0_0 : V0.cell? ⟨w.heap.size, 0, none⟩ = some (.int .u64 x0) := (blk_cell KB0.out 0).trans rfl
  have c0_1 : V0.cell? ⟨w.heap.size, 1, none⟩ = some (.bool x1) := (blk_cell KB0.out 1).trans rfl
  have c0_2 : V0.cell? ⟨w.heap.size, 2, none⟩ = some (.int .u64 x2) := (blk_cell KB0.out 2).trans rfl
  have c0_3 : V0.cell? ⟨w.heap.size, 3, none⟩ = some (.bool x3) := (blk_cell KB0.out 3).trans rfl
  have c0_4 : V0.cell? ⟨w.heap.size, 4, none⟩ = some (.int .u64 x4) := (blk_cell KB0.out 4).trans rfl
  have c0_5 : V0.cell? ⟨w.heap.size, 5, none⟩ = some (.bool x5) := (blk_cell KB0.out 5).trans rfl
  have c0_6 : V0.cell? ⟨w.heap.size, 6, none⟩ = some (.int .u64 x6) := (blk_cell KB0.out 6).trans rfl
  have c0_7 : V0.cell? ⟨w.heap.size, 7, none⟩ = some (.bool x7) := (blk_cell KB0.out 7).trans rfl
  have c0_8 : V0.cell? ⟨w.heap.size, 8, none⟩ = some (.int .u64 x8) := (blk_cell KB0.out 8).trans rfl
  have c0_9 : V0.cell? ⟨w.heap.size, 9, none⟩ = some (.bool x9) := (blk_cell KB0.out 9).trans rfl
  have l0 := blk_lt KB0.out
  have c1_0 : V0.cell? ⟨w.heap.size + 1, 0, none⟩ = some (.int .u64 f0) := (blk_cell KB1.out 0).trans rfl
  have c1_1 : V0.cell? ⟨w.heap.size + 1, 1, none⟩ = some (.bool f1) := (blk_cell KB1.out 1).trans rfl
  have l1 := blk_lt KB1.out
  go_wp2_with fail
  clear c0_0 c0_1 c0_2 c0_3 c0_4 c0_5 c0_6 c0_7 c0_8 c0_9 l0 c1_0 c1_1 l1
  have HA := HB.out
  have KA0 := KB0.out
  have KA1 := KB1.out
  clear HB KB0 KB1
  refine Spc.gen (fun W => Below w.heap.size w W ∧ W.heap[w.heap.size]? = some (.cells #[.int .u64 x0, .bool x1, .int .u64 x2, .bool x3, .int .u64 x4, .bool x5, .int .u64 x6, .bool x7, .int .u64 x8, .bool x9] 26 (0, 0)) ∧ W.heap[w.heap.size + 1]? = some (.cells #[.int .u64 f0, .bool f1] 24 (0, 0))) ⟨HA, KA0, KA1⟩ ?_
  clear HA KA0 KA1
  rintro W1 ⟨HB1, K1_0, K1_1⟩
  refine (spec_With.calls x0 x1 x2 x3 x4 x5 x6 x7 x8 x9 kind f0 f1 x0 x1 x2 x3 x4 x5 x6 x7 x8 x9 7 _ h1.out).mono ?_
  rintro e V1 ⟨rfl, hb⟩
  have HB := below_step HB1 hb
  have KB0 := blk_below K1_0 hb
  have KB1 := blk_below K1_1 hb
  clear hb HB1 K1_0 K1_1
  replace HB := Aside0.mk HB
  replace KB0 := Aside0.mk KB0
  replace KB1 := Aside0.mk KB1
  have c0_0 : V1.cell? ⟨w.heap.size, 0, none⟩ = some (.int .u64 x0) := (blk_cell KB0.out 0).trans rfl
  have c0_1 : V1.cell? ⟨w.heap.size, 1, none⟩ = some (.bool x1) := (blk_cell KB0.out 1).trans rfl
  have c0_2 : V1.cell? ⟨w.heap.size, 2, none⟩ = some (.int .u64 x2) := (blk_cell KB0.out 2).trans rfl
  have c0_3 : V1.cell? ⟨w.heap.size, 3, none⟩ = some (.bool x3) := (blk_cell KB0.out 3).trans rfl
  have c0_4 : V1.cell? ⟨w.heap.size, 4, none⟩ = some (.int .u64 x4) := (blk_cell KB0.out 4).trans rfl
  have c0_5 : V1.cell? ⟨w.heap.size, 5, none⟩ = some (.bool x5) := (blk_cell KB0.out 5).trans rfl
  have c0_6 : V1.cell? ⟨w.heap.size, 6, none⟩ = some (.int .u64 x6) := (blk_cell KB0.out 6).trans rfl
  have c0_7 : V1.cell? ⟨w.heap.size, 7, none⟩ = some (.bool x7) := (blk_cell KB0.out 7).trans rfl
  have c0_8 : V1.cell? ⟨w.heap.size, 8, none⟩ = some (.int .u64 x8) := (blk_cell KB0.out 8).trans rfl
  have c0_9 : V1.cell? ⟨w.heap.size, 9, none⟩ = some (.bool x9) := (blk_cell KB0.out 9).trans rfl
  have l0 := blk_lt KB0.out
  have c1_0 : V1.cell? ⟨w.heap.size + 1, 0, none⟩ = some (.int .u64 f0) := (blk_cell KB1.out 0).trans rfl
  have c1_1 : V1.cell? ⟨w.heap.size + 1, 1, none⟩ = some (.bool f1) := (blk_cell KB1.out 1).trans rfl
  have l1 := blk_lt KB1.out
  go_wp2_with fail
  clear c0_0 c0_1 c0_2 c0_3 c0_4 c0_5 c0_6 c0_7 c0_8 c0_9 l0 c1_0 c1_1 l1
  have HA := below_alloc HB.out (.cells #[.int .u64 x0, .bool x1, .int .u64 x2, .bool x3, .int .u64 x4, .bool x5, .int .u64 x6, .bool x7, .int .u64 x8, .bool x9] 26)
  have KA0 := blk_alloc KB0.out (.cells #[.int .u64 x0, .bool x1, .int .u64 x2, .bool x3, .int .u64 x4, .bool x5, .int .u64 x6, .bool x7, .int .u64 x8, .bool x9] 26)
  have KA1 := blk_alloc KB1.out (.cells #[.int .u64 x0, .bool x1, .int .u64 x2, .bool x3, .int .u64 x4, .bool x5, .int .u64 x6, .bool x7, .int .u64 x8, .bool x9] 26)
  have KA2 := blk_new V1 (.cells #[.int .u64 x0, .bool x1, .int .u64 x2, .bool x3, .int .u64 x4, .bool x5, .int .u64 x6, .bool x7, .int .u64 x8, .bool x9] 26)
  clear HB KB0 KB1
  refine Spc.gen (fun W => Below w.heap.size w W ∧ W.heap[w.heap.size]? = some (.cells #[.int .u64 x0, .bool x1, .int .u64 x2, .bool x3, .int .u64 x4, .bool x5, .int .u64 x6, .bool x7, .int .u64 x8, .bool x9] 26 (0, 0)) ∧ W.heap[w.heap.size + 1]? = some (.cells #[.int .u64 f0, .bool f1] 24 (0, 0)) ∧ W.heap[V1.heap.size]? = some (.cells #[.int .u64 x0, .bool x1, .int .u64 x2, .bool x3, .int .u64 x4, .bool x5, .int .u64 x6, .bool x7, .int .u64 x8, .bool x9] 26 (0, 0))) ⟨HA, KA0, KA1, KA2⟩ ?_
  clear HA KA0 KA1 KA2
  rintro W2 ⟨HB2, K2_0, K2_1, K2_2⟩
  refine (spec_Get.calls x0 x1 x2 x3 x4 x5 x6 x7 x8 x9 kind 0 false 7 _ h2.out).mono ?_
  rintro e V2 ⟨rfl, hb⟩
  have HB := below_step HB2 hb
  have KB0 := blk_below K2_0 hb
  have KB1 := blk_below K2_1 hb
  have KB2 := blk_below K2_2 hb
  clear hb HB2 K2_0 K2_1 K2_2
  replace HB := Aside0.mk HB
  replace KB0 := Aside0.mk KB0
  replace KB1 := Aside0.mk KB1
  replace KB2 := Aside0.mk KB2
  have c0_0 : V2.cell? ⟨w.heap.size, 0, none⟩ = some (.int .u64 x0) := (blk_cell KB0.out 0).trans rfl
  have c0_1 : V2.cell? ⟨w.heap.size, 1, none⟩ = some (.bool x1) := (blk_cell KB0.out 1).trans rfl
  have c0_2 : V2.cell? ⟨w.heap.size, 2, none⟩ = some (.int .u64 x2) := (blk_cell KB0.out 2).trans rfl
  have c0_3 : V2.cell? ⟨w.heap.size, 3, none⟩ = some (.bool x3) := (blk_cell KB0.out 3).trans rfl
  have c0_4 : V2.cell? ⟨w.heap.size, 4, none⟩ = some (.int .u64 x4) := (blk_cell KB0.out 4).trans rfl
  have c0_5 : V2.cell? ⟨w.heap.size, 5, none⟩ = some (.bool x5) := (blk_cell KB0.out 5).trans rfl
  have c0_6 : V2.cell? ⟨w.heap.size, 6, none⟩ = some (.int .u64 x6) := (blk_cell KB0.out 6).trans rfl
  have c0_7 : V2.cell? ⟨w.heap.size, 7, none⟩ = some (.bool x7) := (blk_cell KB0.out 7).trans rfl
  have c0_8 : V2.cell? ⟨w.heap.size, 8, none⟩ = some (.int .u64 x8) := (blk_cell KB0.out 8).trans rfl
  have c0_9 : V2.cell? ⟨w.heap.size, 9, none⟩ = some (.bool x9) := (blk_cell KB0.out 9).trans rfl
  have l0 := blk_lt KB0.out
  have c1_0 : V2.cell? ⟨w.heap.size + 1, 0, none⟩ = some (.int .u64 f0) := (blk_cell KB1.out 0).trans rfl
  have c1_1 : V2.cell? ⟨w.heap.size + 1, 1, none⟩ = some (.bool f1) := (blk_cell KB1.out 1).trans rfl
  have l1 := blk_lt KB1.out
  have c2_0 : V2.cell? ⟨V1.heap.size, 0, none⟩ = some (.int .u64 x0) := (blk_cell KB2.out 0).trans rfl
  have c2_1 : V2.cell? ⟨V1.heap.size, 1, none⟩ = some (.bool x1) := (blk_cell KB2.out 1).trans rfl
  have c2_2 : V2.cell? ⟨V1.heap.size, 2, none⟩ = some (.int .u64 x2) := (blk_cell KB2.out 2).trans rfl
  have c2_3 : V2.cell? ⟨V1.heap.size, 3, none⟩ = some (.bool x3) := (blk_cell KB2.out 3).trans rfl
  have c2_4 : V2.cell? ⟨V1.heap.size, 4, none⟩ = some (.int .u64 x4) := (blk_cell KB2.out 4).trans rfl
  have c2_5 : V2.cell? ⟨V1.heap.size, 5, none⟩ = some (.bool x5) := (blk_cell KB2.out 5).trans rfl
  have c2_6 : V2.cell? ⟨V1.heap.size, 6, none⟩ = some (.int .u64 x6) := (blk_cell KB2.out 6).trans rfl
  have c2_7 : V2.cell? ⟨V1.heap.size, 7, none⟩ = some (.bool x7) := (blk_cell KB2.out 7).trans rfl
  have c2_8 : V2.cell? ⟨V1.heap.size, 8, none⟩ = some (.int .u64 x8) := (blk_cell KB2.out 8).trans rfl
  have c2_9 : V2.cell? ⟨V1.heap.size, 9, none⟩ = some (.bool x9) := (blk_cell KB2.out 9).trans rfl
  have l2 := blk_lt KB2.out
  go_wp2_with fail
  go_ret
  exact ⟨rfl, by first | exact HB.out | exact below_alloc HB.out _⟩
set_option maxHeartbeats 8000000 in
set_option maxRecDepth 100000 in
theorem Spc.puts_lo (x0 : Int) (x1 : Bool) (x2 : Int) (x3 : Bool) (x4 : Int) (x5 : Bool) (x6 : Int) (x7 : Bool) (x8 : Int) (x9 : Bool) (kind other : Int) (f0 : Int) (f1 : Bool) (ka : 0 ≤ kind) (kb : kind ≤ 4) (y0 : Int) (y1 : Bool) (y2 : Int) (y3 : Bool) (y4 : Int) (y5 : Bool) (y6 : Int) (y7 : Bool) (y8 : Int) (y9 : Bool) (u0 : Int) (u1 : Bool) (h1 : spec_With.f x0 x1 x2 x3 x4 x5 x6 x7 x8 x9 kind f0 f1 = some (y0, y1, y2, y3, y4, y5, y6, y7, y8, y9, 0)) (h2 : spec_Get.f y0 y1 y2 y3 y4 y5 y6 y7 y8 y9 kind = some (f0, f1, 0)) (h3 : spec_Get.f x0 x1 x2 x3 x4 x5 x6 x7 x8 x9 kind = some (u0, u1, 0)) (h4 : spec_With.f y0 y1 y2 y3 y4 y5 y6 y7 y8 y9 kind u0 u1 = some (x0, x1, x2, x3, x4, x5, x6, x7, x8, x9, 0)) (ho : other < 0) (w : World) (hT : Tab w) : Calls Tryd.prog 6 #[.agg #[.int .u64 x0, .bool x1, .int .u64 x2, .bool x3, .int .u64 x4, .bool x5, .int .u64 x6, .bool x7, .int .u64 x8, .bool x9], .int .i64 kind, .int .i64 other, .agg #[.int .u64 f0, .bool f1]] w fun e w' => e = .returned (.bool true) ∧ Below w.heap.size w w' := by
  have o0 : other < 0 := ho
  clear ho
  have k0 : ¬ kind < 0 := by omega
  have k4 : ¬ 4 < kind := by omega
  replace ka := Lib.hid ka
  replace kb := Lib.hid kb
  replace h1 := Lib.hid h1
  replace h2 := Lib.hid h2
  replace h3 := Lib.hid h3
  replace h4 := Lib.hid h4
  have eqF := Spc.eqF
  have eqS := Spc.eqS
  replace hT := Aside0.mk hT
  have HA := below_alloc (below_alloc (Below.refl w.heap.size w) (.cells #[.int .u64 x0, .bool x1, .int .u64 x2, .bool x3, .int .u64 x4, .bool x5, .int .u64 x6, .bool x7, .int .u64 x8, .bool x9] 26)) (.cells #[.int .u64 f0, .bool f1] 24)
  have KA0 := blk_alloc (blk_new w (.cells #[.int .u64 x0, .bool x1, .int .u64 x2, .bool x3, .int .u64 x4, .bool x5, .int .u64 x6, .bool x7, .int .u64 x8, .bool x9] 26)) (.cells #[.int .u64 f0, .bool f1] 24)
  have KA1 : ((w.alloc (.cells #[.int .u64 x0, .bool x1, .int .u64 x2, .bool x3, .int .u64 x4, .bool x5, .int .u64 x6, .bool x7, .int .u64 x8, .bool x9] 26)).alloc (.cells #[.int .u64 f0, .bool f1] 24)).heap[w.heap.size + 1]? = some (.cells #[.int .u64 f0, .bool f1] 24 (0, 0)) := by
    have := heap_alloc_new (w.alloc (.cells #[.int .u64 x0, .bool x1, .int .u64 x2, .bool x3, .int .u64 x4, .bool x5, .int .u64 x6, .bool x7, .int .u64 x8, .bool x9] 26)) (.cells #[.int .u64 f0, .bool f1] 24)
    simpa using this
  go_enter Tryd.func6, Tryd.ntmps6
  go_wp2_with fail
  refine Spc.gen (fun W => Below w.heap.size w W ∧ W.heap[w.heap.size]? = some (.cells #[.int .u64 x0, .bool x1, .int .u64 x2, .bool x3, .int .u64 x4, .bool x5, .int .u64 x6, .bool x7, .int .u64 x8, .bool x9] 26 (0, 0)) ∧ W.heap[w.heap.size + 1]? = some (.cells #[.int .u64 f0, .bool f1] 24 (0, 0))) ⟨HA, KA0, KA1⟩ ?_
  clear HA KA0 KA1
  rintro W0 ⟨HB0, K0_0, K0_1⟩
  have hTk := hT.out.keep HB0
  refine (complinelaw19_works.calls true _ hTk rfl).mono ?_
  rintro e V0 ⟨rfl, hb⟩
  have HB := below_step HB0 hb
  clear hTk
  have KB0 := blk_below K0_0 hb
  have KB1 := blk_below K0_1 hb
  clear hb HB0 K0_0 K0_1
  replace HB := Aside0.mk HB
  replace KB0 := Aside0.mk KB0
  replace KB1 := Aside0.mk KB1
  have c0_0 : V0.cell? ⟨w.heap.size, 0, none⟩ = some (.int .u64 x0) := (blk_cell KB0.out 0).trans rfl
  have c0_1 : V0.cell? ⟨w.heap.size, 1, none⟩ = some (.bool x1) := (blk_cell KB0.out 1).trans rfl
  have c0_2 : V0.cell? ⟨w.heap.size, 2, none⟩ = some (.int .u64 x2) := (blk_cell KB0.out 2).trans rfl
  have c0_3 : V0.cell? ⟨w.heap.size, 3, none⟩ = some (.bool x3) := (blk_cell KB0.out 3).trans rfl
  have c0_4 : V0.cell? ⟨w.heap.size, 4, none⟩ = some (.int .u64 x4) := (blk_cell KB0.out 4).trans rfl
  have c0_5 : V0.cell? ⟨w.heap.size, 5, none⟩ = some (.bool x5) := (blk_cell KB0.out 5).trans rfl
  have c0_6 : V0.cell? ⟨w.heap.size, 6, none⟩ = some (.int .u64 x6) := (blk_cell KB0.out 6).trans rfl
  have c0_7 : V0.cell? ⟨w.heap.size, 7, none⟩ = some (.bool x7) := (blk_cell KB0.out 7).trans rfl
  have c0_8 : V0.cell? ⟨w.heap.size, 8, none⟩ = some (.int .u64 x8) := (blk_cell KB0.out 8).trans rfl
  have c0_9 : V0.cell? ⟨w.heap.size, 9, none⟩ = some (.bool x9) := (blk_cell KB0.out 9).trans rfl
  have l0 := blk_lt KB0.out
  have c1_0 : V0.cell? ⟨w.heap.size + 1, 0, none⟩ = some (.int .u64 f0) := (blk_cell KB1.out 0).trans rfl
  have c1_1 : V0.cell? ⟨w.heap.size + 1, 1, none⟩ = some (.bool f1) := (blk_cell KB1.out 1).trans rfl
  have l1 := blk_lt KB1.out
  go_wp2_with fail
  clear c0_0 c0_1 c0_2 c0_3 c0_4 c0_5 c0_6 c0_7 c0_8 c0_9 l0 c1_0 c1_1 l1
  have HA := HB.out
  have KA0 := KB0.out
  have KA1 := KB1.out
  clear HB KB0 KB1
  refine Spc.gen (fun W => Below w.heap.size w W ∧ W.heap[w.heap.size]? = some (.cells #[.int .u64 x0, .bool x1, .int .u64 x2, .bool x3, .int .u64 x4, .bool x5, .int .u64 x6, .bool x7, .int .u64 x8, .bool x9] 26 (0, 0)) ∧ W.heap[w.heap.size + 1]? = some (.cells #[.int .u64 f0, .bool f1] 24 (0, 0))) ⟨HA, KA0, KA1⟩ ?_
  clear HA KA0 KA1
  rintro W1 ⟨HB1, K1_0, K1_1⟩
  refine (spec_With.calls x0 x1 x2 x3 x4 x5 x6 x7 x8 x9 kind f0 f1 y0 y1 y2 y3 y4 y5 y6 y7 y8 y9 0 _ h1.out).mono ?_
  rintro e V1 ⟨rfl, hb⟩
  have HB := below_step HB1 hb
  have KB0 := blk_below K1_0 hb
  have KB1 := blk_below K1_1 hb
  clear hb HB1 K1_0 K1_1
  replace HB := Aside0.mk HB
  replace KB0 := Aside0.mk KB0
  replace KB1 := Aside0.mk KB1
  have c0_0 : V1.cell? ⟨w.heap.size, 0, none⟩ = some (.int .u64 x0) := (blk_cell KB0.out 0).trans rfl
  have c0_1 : V1.cell? ⟨w.heap.size, 1, none⟩ = some (.bool x1) := (blk_cell KB0.out 1).trans rfl
  have c0_2 : V1.cell? ⟨w.heap.size, 2, none⟩ = some (.int .u64 x2) := (blk_cell KB0.out 2).trans rfl
  have c0_3 : V1.cell? ⟨w.heap.size, 3, none⟩ = some (.bool x3) := (blk_cell KB0.out 3).trans rfl
  have c0_4 : V1.cell? ⟨w.heap.size, 4, none⟩ = some (.int .u64 x4) := (blk_cell KB0.out 4).trans rfl
  have c0_5 : V1.cell? ⟨w.heap.size, 5, none⟩ = some (.bool x5) := (blk_cell KB0.out 5).trans rfl
  have c0_6 : V1.cell? ⟨w.heap.size, 6, none⟩ = some (.int .u64 x6) := (blk_cell KB0.out 6).trans rfl
  have c0_7 : V1.cell? ⟨w.heap.size, 7, none⟩ = some (.bool x7) := (blk_cell KB0.out 7).trans rfl
  have c0_8 : V1.cell? ⟨w.heap.size, 8, none⟩ = some (.int .u64 x8) := (blk_cell KB0.out 8).trans rfl
  have c0_9 : V1.cell? ⟨w.heap.size, 9, none⟩ = some (.bool x9) := (blk_cell KB0.out 9).trans rfl
  have l0 := blk_lt KB0.out
  have c1_0 : V1.cell? ⟨w.heap.size + 1, 0, none⟩ = some (.int .u64 f0) := (blk_cell KB1.out 0).trans rfl
  have c1_1 : V1.cell? ⟨w.heap.size + 1, 1, none⟩ = some (.bool f1) := (blk_cell KB1.out 1).trans rfl
  have l1 := blk_lt KB1.out
  go_wp2_with fail
  clear c0_0 c0_1 c0_2 c0_3 c0_4 c0_5 c0_6 c0_7 c0_8 c0_9 l0 c1_0 c1_1 l1
  have HA := below_alloc HB.out (.cells #[.int .u64 y0, .bool y1, .int .u64 y2, .bool y3, .int .u64 y4, .bool y5, .int .u64 y6, .bool y7, .int .u64 y8, .bool y9] 26)
  have KA0 := blk_alloc KB0.out (.cells #[.int .u64 y0, .bool y1, .int .u64 y2, .bool y3, .int .u64 y4, .bool y5, .int .u64 y6, .bool y7, .int .u64 y8, .bool y9] 26)
  have KA1 := blk_alloc KB1.out (.cells #[.int .u64 y0, .bool y1, .int .u64 y2, .bool y3, .int .u64 y4, .bool y5, .int .u64 y6, .bool y7, .int .u64 y8, .bool y9] 26)
  have KA2 := blk_new V1 (.cells #[.int .u64 y0, .bool y1, .int .u64 y2, .bool y3, .int .u64 y4, .bool y5, .int .u64 y6, .bool y7, .int .u64 y8, .bool y9] 26)
  clear HB KB0 KB1
  refine Spc.gen (fun W => Below w.heap.size w W ∧ W.heap[w.heap.size]? = some (.cells #[.int .u64 x0, .bool x1, .int .u64 x2, .bool x3, .int .u64 x4, .bool x5, .int .u64 x6, .bool x7, .int .u64 x8, .bool x9] 26 (0, 0)) ∧ W.heap[w.heap.size + 1]? = some (.cells #[.int .u64 f0, .bool f1] 24 (0, 0)) ∧ W.heap[V1.heap.size]? = some (.cells #[.int .u64 y0, .bool y1, .int .u64 y2, .bool y3, .int .u64 y4, .bool y5, .int .u64 y6, .bool y7, .int .u64 y8, .bool y9] 26 (0, 0))) ⟨HA, KA0, KA1, KA2⟩ ?_
  clear HA KA0 KA1 KA2
  rintro W2 ⟨HB2, K2_0, K2_1, K2_2⟩
  refine (spec_Get.calls y0 y1 y2 y3 y4 y5 y6 y7 y8 y9 kind f0 f1 0 _ h2.out).mono ?_
  rintro e V2 ⟨rfl, hb⟩
  have HB := below_step HB2 hb
  have KB0 := blk_below K2_0 hb
  have KB1 := blk_below K2_1 hb
  have KB2 := blk_below K2_2 hb
  clear hb HB2 K2_0 K2_1 K2_2
  replace HB := Aside0.mk HB
  replace KB0 := Aside0.mk KB0
  replace KB1 := Aside0.mk KB1
  replace KB2 := Aside0.mk KB2
  have c0_0 : V2.cell? ⟨w.heap.size, 0, none⟩ = some (.int .u64 x0) := (blk_cell KB0.out 0).trans rfl
  have c0_1 : V2.cell? ⟨w.heap.size, 1, none⟩ = some (.bool x1) := (blk_cell KB0.out 1).trans rfl
  have c0_2 : V2.cell? ⟨w.heap.size, 2, none⟩ = some (.int .u64 x2) := (blk_cell KB0.out 2).trans rfl
  have c0_3 : V2.cell? ⟨w.heap.size, 3, none⟩ = some (.bool x3) := (blk_cell KB0.out 3).trans rfl
  have c0_4 : V2.cell? ⟨w.heap.size, 4, none⟩ = some (.int .u64 x4) := (blk_cell KB0.out 4).trans rfl
  have c0_5 : V2.cell? ⟨w.heap.size, 5, none⟩ = some (.bool x5) := (blk_cell KB0.out 5).trans rfl
  have c0_6 : V2.cell? ⟨w.heap.size, 6, none⟩ = some (.int .u64 x6) := (blk_cell KB0.out 6).trans rfl
  have c0_7 : V2.cell? ⟨w.heap.size, 7, none⟩ = some (.bool x7) := (blk_cell KB0.out 7).trans rfl
  have c0_8 : V2.cell? ⟨w.heap.size, 8, none⟩ = some (.int .u64 x8) := (blk_cell KB0.out 8).trans rfl
  have c0_9 : V2.cell? ⟨w.heap.size, 9, none⟩ = some (.bool x9) := (blk_cell KB0.out 9).trans rfl
  have l0 := blk_lt KB0.out
  have c1_0 : V2.cell? ⟨w.heap.size + 1, 0, none⟩ = some (.int .u64 f0) := (blk_cell KB1.out 0).trans rfl
  have c1_1 : V2.cell? ⟨w.heap.size + 1, 1, none⟩ = some (.bool f1) := (blk_cell KB1.out 1).trans rfl
  have l1 := blk_lt KB1.out
  have c2_0 : V2.cell? ⟨V1.heap.size, 0, none⟩ = some (.int .u64 y0) := (blk_cell KB2.out 0).trans rfl
  have c2_1 : V2.cell? ⟨V1.heap.size, 1, none⟩ = some (.bool y1) := (blk_cell KB2.out 1).trans rfl
  have c2_2 : V2.cell? ⟨V1.heap.size, 2, none⟩ = some (.int .u64 y2) := (blk_cell KB2.out 2).trans rfl
  have c2_3 : V2.cell? ⟨V1.heap.size, 3, none⟩ = some (.bool y3) := (blk_cell KB2.out 3).trans rfl
  have c2_4 : V2.cell? ⟨V1.heap.size, 4, none⟩ = some (.int .u64 y4) := (blk_cell KB2.out 4).trans rfl
  have c2_5 : V2.cell? ⟨V1.heap.size, 5, none⟩ = some (.bool y5) := (blk_cell KB2.out 5).trans rfl
  have c2_6 : V2.cell? ⟨V1.heap.size, 6, none⟩ = some (.int .u64 y6) := (blk_cell KB2.out 6).trans rfl
  have c2_7 : V2.cell? ⟨V1.heap.size, 7, none⟩ = some (.bool y7) := (blk_cell KB2.out 7).trans rfl
  have c2_8 : V2.cell? ⟨V1.heap.size, 8, none⟩ = some (.int .u64 y8) := (blk_cell KB2.out 8).trans rfl
  have c2_9 : V2.cell? ⟨V1.heap.size, 9, none⟩ = some (.bool y9) := (blk_cell KB2.out 9).trans rfl
  have l2 := blk_lt KB2.out
  go_wp2_with fail
  clear c0_0 c0_1 c0_2 c0_3 c0_4 c0_5 c0_6 c0_7 c0_8 c0_9 l0 c1_0 c1_1 l1 c2_0 c2_1 c2_2 c2_3 c2_4 c2_5 c2_6 c2_7 c2_8 c2_9 l2
  have HA := below_alloc HB.out (.cells #[.int .u64 f0, .bool f1] 24)
  have KA0 := blk_alloc KB0.out (.cells #[.int .u64 f0, .bool f1] 24)
  have KA1 := blk_alloc KB1.out (.cells #[.int .u64 f0, .bool f1] 24)
  have KA2 := blk_alloc KB2.out (.cells #[.int .u64 f0, .bool f1] 24)
  have KA3 := blk_new V2 (.cells #[.int .u64 f0, .bool f1] 24)
  clear HB KB0 KB1 KB2
  refine Spc.gen (fun W => Below w.heap.size w W ∧ W.heap[w.heap.size]? = some (.cells #[.int .u64 x0, .bool x1, .int .u64 x2, .bool x3, .int .u64 x4, .bool x5, .int .u64 x6, .bool x7, .int .u64 x8, .bool x9] 26 (0, 0)) ∧ W.heap[w.heap.size + 1]? = some (.cells #[.int .u64 f0, .bool f1] 24 (0, 0)) ∧ W.heap[V1.heap.size]? = some (.cells #[.int .u64 y0, .bool y1, .int .u64 y2, .bool y3, .int .u64 y4, .bool y5, .int .u64 y6, .bool y7, .int .u64 y8, .bool y9] 26 (0, 0)) ∧ W.heap[V2.heap.size]? = some (.cells #[.int .u64 f0, .bool f1] 24 (0, 0))) ⟨HA, KA0, KA1, KA2, KA3⟩ ?_
  clear HA KA0 KA1 KA2 KA3
  rintro W3 ⟨HB3, K3_0, K3_1, K3_2, K3_3⟩
  refine (spec_Get.calls x0 x1 x2 x3 x4 x5 x6 x7 x8 x9 kind u0 u1 0 _ h3.out).mono ?_
  rintro e V3 ⟨rfl, hb⟩
  have HB := below_step HB3 hb
  have KB0 := blk_below K3_0 hb
  have KB1 := blk_below K3_1 hb
  have KB2 := blk_below K3_2 hb
  have KB3 := blk_below K3_3 hb
  clear hb HB3 K3_0 K3_1 K3_2 K3_3
  replace HB := Aside0.mk HB
  replace KB0 := Aside0.mk KB0
  replace KB1 := Aside0.mk KB1
  replace KB2 := Aside0.mk KB2
  replace KB3 := Aside0.mk KB3
  have c0_0 : V3.cell? ⟨w.heap.size, 0, none⟩ = some (.int .u64 x0) := (blk_cell KB0.out 0).trans rfl
  have c0_1 : V3.cell? ⟨w.heap.size, 1, none⟩ = some (.bool x1) := (blk_cell KB0.out 1).trans rfl
  have c0_2 : V3.cell? ⟨w.heap.size, 2, none⟩ = some (.int .u64 x2) := (blk_cell KB0.out 2).trans rfl
  have c0_3 : V3.cell? ⟨w.heap.size, 3, none⟩ = some (.bool x3) := (blk_cell KB0.out 3).trans rfl
  have c0_4 : V3.cell? ⟨w.heap.size, 4, none⟩ = some (.int .u64 x4) := (blk_cell KB0.out 4).trans rfl
  have c0_5 : V3.cell? ⟨w.heap.size, 5, none⟩ = some (.bool x5) := (blk_cell KB0.out 5).trans rfl
  have c0_6 : V3.cell? ⟨w.heap.size, 6, none⟩ = some (.int .u64 x6) := (blk_cell KB0.out 6).trans rfl
  have c0_7 : V3.cell? ⟨w.heap.size, 7, none⟩ = some (.bool x7) := (blk_cell KB0.out 7).trans rfl
  have c0_8 : V3.cell? ⟨w.heap.size, 8, none⟩ = some (.int .u64 x8) := (blk_cell KB0.out 8).trans rfl
  have c0_9 : V3.cell? ⟨w.heap.size, 9, none⟩ = some (.bool x9) := (blk_cell KB0.out 9).trans rfl
  have l0 := blk_lt KB0.out
  have c1_0 : V3.cell? ⟨w.heap.size + 1, 0, none⟩ = some (.int .u64 f0) := (blk_cell KB1.out 0).trans rfl
  have c1_1 : V3.cell? ⟨w.heap.size + 1, 1, none⟩ = some (.bool f1) := (blk_cell KB1.out 1).trans rfl
  have l1 := blk_lt KB1.out
  have c2_0 : V3.cell? ⟨V1.heap.size, 0, none⟩ = some (.int .u64 y0) := (blk_cell KB2.out 0).trans rfl
  have c2_1 : V3.cell? ⟨V1.heap.size, 1, none⟩ = some (.bool y1) := (blk_cell KB2.out 1).trans rfl
  have c2_2 : V3.cell? ⟨V1.heap.size, 2, none⟩ = some (.int .u64 y2) := (blk_cell KB2.out 2).trans rfl
  have c2_3 : V3.cell? ⟨V1.heap.size, 3, none⟩ = some (.bool y3) := (blk_cell KB2.out 3).trans rfl
  have c2_4 : V3.cell? ⟨V1.heap.size, 4, none⟩ = some (.int .u64 y4) := (blk_cell KB2.out 4).trans rfl
  have c2_5 : V3.cell? ⟨V1.heap.size, 5, none⟩ = some (.bool y5) := (blk_cell KB2.out 5).trans rfl
  have c2_6 : V3.cell? ⟨V1.heap.size, 6, none⟩ = some (.int .u64 y6) := (blk_cell KB2.out 6).trans rfl
  have c2_7 : V3.cell? ⟨V1.heap.size, 7, none⟩ = some (.bool y7) := (blk_cell KB2.out 7).trans rfl
  have c2_8 : V3.cell? ⟨V1.heap.size, 8, none⟩ = some (.int .u64 y8) := (blk_cell KB2.out 8).trans rfl
  have c2_9 : V3.cell? ⟨V1.heap.size, 9, none⟩ = some (.bool y9) := (blk_cell KB2.out 9).trans rfl
  have l2 := blk_lt KB2.out
  have c3_0 : V3.cell? ⟨V2.heap.size, 0, none⟩ = some (.int .u64 f0) := (blk_cell KB3.out 0).trans rfl
  have c3_1 : V3.cell? ⟨V2.heap.size, 1, none⟩ = some (.bool f1) := (blk_cell KB3.out 1).trans rfl
  have l3 := blk_lt KB3.out
  go_wp2_with fail
  clear c0_0 c0_1 c0_2 c0_3 c0_4 c0_5 c0_6 c0_7 c0_8 c0_9 l0 c1_0 c1_1 l1 c2_0 c2_1 c2_2 c2_3 c2_4 c2_5 c2_6 c2_7 c2_8 c2_9 l2 c3_0 c3_1 l3
  have HA := below_alloc HB.out (.cells #[.int .u64 u0, .bool u1] 24)
  have KA0 := blk_alloc KB0.out (.cells #[.int .u64 u0, .bool u1] 24)
  have KA1 := blk_alloc KB1.out (.cells #[.int .u64 u0, .bool u1] 24)
  have KA2 := blk_alloc KB2.out (.cells #[.int .u64 u0, .bool u1] 24)
  have KA3 := blk_alloc KB3.out (.cells #[.int .u64 u0, .bool u1] 24)
  have KA4 := blk_new V3 (.cells #[.int .u64 u0, .bool u1] 24)
  clear HB KB0 KB1 KB2 KB3
  refine Spc.gen (fun W => Below w.heap.size w W ∧ W.heap[w.heap.size]? = some (.cells #[.int .u64 x0, .bool x1, .int .u64 x2, .bool x3, .int .u64 x4, .bool x5, .int .u64 x6, .bool x7, .int .u64 x8, .bool x9] 26 (0, 0)) ∧ W.heap[w.heap.size + 1]? = some (.cells #[.int .u64 f0, .bool f1] 24 (0, 0)) ∧ W.heap[V1.heap.size]? = some (.cells #[.int .u64 y0, .bool y1, .int .u64 y2, .bool y3, .int .u64 y4, .bool y5, .int .u64 y6, .bool y7, .int .u64 y8, .bool y9] 26 (0, 0)) ∧ W.heap[V2.heap.size]? = some (.cells #[.int .u64 f0, .bool f1] 24 (0, 0)) ∧ W.heap[V3.heap.size]? = some (.cells #[.int .u64 u0, .bool u1] 24 (0, 0))) ⟨HA, KA0, KA1, KA2, KA3, KA4⟩ ?_
  clear HA KA0 KA1 KA2 KA3 KA4
  rintro W4 ⟨HB4, K4_0, K4_1, K4_2, K4_3, K4_4⟩
  refine (spec_With.calls y0 y1 y2 y3 y4 y5 y6 y7 y8 y9 kind u0 u1 x0 x1 x2 x3 x4 x5 x6 x7 x8 x9 0 _ h4.out).mono ?_
  rintro e V4 ⟨rfl, hb⟩
  have HB := below_step HB4 hb
  have KB0 := blk_below K4_0 hb
  have KB1 := blk_below K4_1 hb
  have KB2 := blk_below K4_2 hb
  have KB3 := blk_below K4_3 hb
  have KB4 := blk_below K4_4 hb
  clear hb HB4 K4_0 K4_1 K4_2 K4_3 K4_4
  replace HB := Aside0.mk HB
  replace KB0 := Aside0.mk KB0
  replace KB1 := Aside0.mk KB1
  replace KB2 := Aside0.mk KB2
  replace KB3 := Aside0.mk KB3
  replace KB4 := Aside0.mk KB4
  have c0_0 : V4.cell? ⟨w.heap.size, 0, none⟩ = some (.int .u64 x0) := (blk_cell KB0.out 0).trans rfl
  have c0_1 : V4.cell? ⟨w.heap.size, 1, none⟩ = some (.bool x1) := (blk_cell KB0.out 1).trans rfl
  have c0_2 : V4.cell? ⟨w.heap.size, 2, none⟩ = some (.int .u64 x2) := (blk_cell KB0.out 2).trans rfl
  have c0_3 : V4.cell? ⟨w.heap.size, 3, none⟩ = some (.bool x3) := (blk_cell KB0.out 3).trans rfl
  have c0_4 : V4.cell? ⟨w.heap.size, 4, none⟩ = some (.int .u64 x4) := (blk_cell KB0.out 4).trans rfl
  have c0_5 : V4.cell? ⟨w.heap.size, 5, none⟩ = some (.bool x5) := (blk_cell KB0.out 5).trans rfl
  have c0_6 : V4.cell? ⟨w.heap.size, 6, none⟩ = some (.int .u64 x6) := (blk_cell KB0.out 6).trans rfl
  have c0_7 : V4.cell? ⟨w.heap.size, 7, none⟩ = some (.bool x7) := (blk_cell KB0.out 7).trans rfl
  have c0_8 : V4.cell? ⟨w.heap.size, 8, none⟩ = some (.int .u64 x8) := (blk_cell KB0.out 8).trans rfl
  have c0_9 : V4.cell? ⟨w.heap.size, 9, none⟩ = some (.bool x9) := (blk_cell KB0.out 9).trans rfl
  have l0 := blk_lt KB0.out
  have c1_0 : V4.cell? ⟨w.heap.size + 1, 0, none⟩ = some (.int .u64 f0) := (blk_cell KB1.out 0).trans rfl
  have c1_1 : V4.cell? ⟨w.heap.size + 1, 1, none⟩ = some (.bool f1) := (blk_cell KB1.out 1).trans rfl
  have l1 := blk_lt KB1.out
  have c2_0 : V4.cell? ⟨V1.heap.size, 0, none⟩ = some (.int .u64 y0) := (blk_cell KB2.out 0).trans rfl
  have c2_1 : V4.cell? ⟨V1.heap.size, 1, none⟩ = some (.bool y1) := (blk_cell KB2.out 1).trans rfl
  have c2_2 : V4.cell? ⟨V1.heap.size, 2, none⟩ = some (.int .u64 y2) := (blk_cell KB2.out 2).trans rfl
  have c2_3 : V4.cell? ⟨V1.heap.size, 3, none⟩ = some (.bool y3) := (blk_cell KB2.out 3).trans rfl
  have c2_4 : V4.cell? ⟨V1.heap.size, 4, none⟩ = some (.int .u64 y4) := (blk_cell KB2.out 4).trans rfl
  have c2_5 : V4.cell? ⟨V1.heap.size, 5, none⟩ = some (.bool y5) := (blk_cell KB2.out 5).trans rfl
  have c2_6 : V4.cell? ⟨V1.heap.size, 6, none⟩ = some (.int .u64 y6) := (blk_cell KB2.out 6).trans rfl
  have c2_7 : V4.cell? ⟨V1.heap.size, 7, none⟩ = some (.bool y7) := (blk_cell KB2.out 7).trans rfl
  have c2_8 : V4.cell? ⟨V1.heap.size, 8, none⟩ = some (.int .u64 y8) := (blk_cell KB2.out 8).trans rfl
  have c2_9 : V4.cell? ⟨V1.heap.size, 9, none⟩ = some (.bool y9) := (blk_cell KB2.out 9).trans rfl
  have l2 := blk_lt KB2.out
  have c3_0 : V4.cell? ⟨V2.heap.size, 0, none⟩ = some (.int .u64 f0) := (blk_cell KB3.out 0).trans rfl
  have c3_1 : V4.cell? ⟨V2.heap.size, 1, none⟩ = some (.bool f1) := (blk_cell KB3.out 1).trans rfl
  have l3 := blk_lt KB3.out
  have c4_0 : V4.cell? ⟨V3.heap.size, 0, none⟩ = some (.int .u64 u0) := (blk_cell KB4.out 0).trans rfl
  have c4_1 : V4.cell? ⟨V3.heap.size, 1, none⟩ = some (.bool u1) := (blk_cell KB4.out 1).trans rfl
  have l4 := blk_lt KB4.out
  go_wp2_with fail
  go_ret
  exact ⟨rfl, by first | exact HB.out | exact below_alloc HB.out _⟩
set_option maxHeartbeats 8000000 in
set_option maxRecDepth 100000 in
theorem Spc.puts_hi (x0 : Int) (x1 : Bool) (x2 : Int) (x3 : Bool) (x4 : Int) (x5 : Bool) (x6 : Int) (x7 : Bool) (x8 : Int) (x9 : Bool) (kind other : Int) (f0 : Int) (f1 : Bool) (ka : 0 ≤ kind) (kb : kind ≤ 4) (y0 : Int) (y1 : Bool) (y2 : Int) (y3 : Bool) (y4 : Int) (y5 : Bool) (y6 : Int) (y7 : Bool) (y8 : Int) (y9 : Bool) (u0 : Int) (u1 : Bool) (h1 : spec_With.f x0 x1 x2 x3 x4 x5 x6 x7 x8 x9 kind f0 f1 = some (y0, y1, y2, y3, y4, y5, y6, y7, y8, y9, 0)) (h2 : spec_Get.f y0 y1 y2 y3 y4 y5 y6 y7 y8 y9 kind = some (f0, f1, 0)) (h3 : spec_Get.f x0 x1 x2 x3 x4 x5 x6 x7 x8 x9 kind = some (u0, u1, 0)) (h4 : spec_With.f y0 y1 y2 y3 y4 y5 y6 y7 y8 y9 kind u0 u1 = some (x0, x1, x2, x3, x4, x5, x6, x7, x8, x9, 0)) (ho : 4 < other) (w : World) (hT : Tab w) : Calls Tryd.prog 6 #[.agg #[.int .u64 x0, .bool x1, .int .u64 x2, .bool x3, .int .u64 x4, .bool x5, .int .u64 x6, .bool x7, .int .u64 x8, .bool x9], .int .i64 kind, .int .i64 other, .agg #[.int .u64 f0, .bool f1]] w fun e w' => e = .returned (.bool true) ∧ Below w.heap.size w w' := by
  have o0 : ¬ other < 0 := by omega
  have o4 : 4 < other := ho
  clear ho
  have k0 : ¬ kind < 0 := by omega
  have k4 : ¬ 4 < kind := by omega
  replace ka := Lib.hid ka
  replace kb := Lib.hid kb
  replace h1 := Lib.hid h1
  replace h2 := Lib.hid h2
  replace h3 := Lib.hid h3
  replace h4 := Lib.hid h4
  have eqF := Spc.eqF
  have eqS := Spc.eqS
  replace hT := Aside0.mk hT
  have HA := below_alloc (below_alloc (Below.refl w.heap.size w) (.cells #[.int .u64 x0, .bool x1, .int .u64 x2, .bool x3, .int .u64 x4, .bool x5, .int .u64 x6, .bool x7, .int .u64 x8, .bool x9] 26)) (.cells #[.int .u64 f0, .bool f1] 24)
  have KA0 := blk_alloc (blk_new w (.cells #[.int .u64 x0, .bool x1, .int .u64 x2, .bool x3, .int .u64 x4, .bool x5, .int .u64 x6, .bool x7, .int .u64 x8, .bool x9] 26)) (.cells #[.int .u64 f0, .bool f1] 24)
  have KA1 : ((w.alloc (.cells #[.int .u64 x0, .bool x1, .int .u64 x2, .bool x3, .int .u64 x4, .bool x5, .int .u64 x6, .bool x7, .int .u64 x8, .bool x9] 26)).alloc (.cells #[.int .u64 f0, .bool f1] 24)).heap[w.heap.size + 1]? = some (.cells #[.int .u64 f0, .bool f1] 24 (0, 0)) := by
    have := heap_alloc_new (w.alloc (.cells #[.int .u64 x0, .bool x1, .int .u64 x2, .bool x3, .int .u64 x4, .bool x5, .int .u64 x6, .bool x7, .int .u64 x8, .bool x9] 26)) (.cells #[.int .u64 f0, .bool f1] 24)
    simpa using this
  go_enter Tryd.func6, Tryd.ntmps6
  go_wp2_with fail
  refine Spc.gen (fun W => Below w.heap.size w W ∧ W.heap[w.heap.size]? = some (.cells #[.int .u64 x0, .bool x1, .int .u64 x2, .bool x3, .int .u64 x4, .bool x5, .int .u64 x6, .bool x7, .int .u64 x8, .bool x9] 26 (0, 0)) ∧ W.heap[w.heap.size + 1]? = some (.cells #[.int .u64 f0, .bool f1] 24 (0, 0))) ⟨HA, KA0, KA1⟩ ?_
  clear HA KA0 KA1
  rintro W0 ⟨HB0, K0_0, K0_1⟩
  have hTk := hT.out.keep HB0
  refine (complinelaw19_works.calls true _ hTk rfl).mono ?_
  rintro e V0 ⟨rfl, hb⟩
  have HB := below_step HB0 hb
  clear hTk
  have KB0 := blk_below K0_0 hb
  have KB1 := blk_below K0_1 hb
  clear hb HB0 K0_0 K0_1
  replace HB := Aside0.mk HB
  replace KB0 := Aside0.mk KB0
  replace KB1 := Aside0.mk KB1
  have c0_0 : V0.cell? ⟨w.heap.size, 0, none⟩ = some (.int .u64 x0) := (blk_cell KB0.out 0).trans rfl
  have c0_1 : V0.cell? ⟨w.heap.size, 1, none⟩ = some (.bool x1) := (blk_cell KB0.out 1).trans rfl
  have c0_2 : V0.cell? ⟨w.heap.size, 2, none⟩ = some (.int .u64 x2) := (blk_cell KB0.out 2).trans rfl
  have c0_3 : V0.cell? ⟨w.heap.size, 3, none⟩ = some (.bool x3) := (blk_cell KB0.out 3).trans rfl
  have c0_4 : V0.cell? ⟨w.heap.size, 4, none⟩ = some (.int .u64 x4) := (blk_cell KB0.out 4).trans rfl
  have c0_5 : V0.cell? ⟨w.heap.size, 5, none⟩ = some (.bool x5) := (blk_cell KB0.out 5).trans rfl
  have c0_6 : V0.cell? ⟨w.heap.size, 6, none⟩ = some (.int .u64 x6) := (blk_cell KB0.out 6).trans rfl
  have c0_7 : V0.cell? ⟨w.heap.size, 7, none⟩ = some (.bool x7) := (blk_cell KB0.out 7).trans rfl
  have c0_8 : V0.cell? ⟨w.heap.size, 8, none⟩ = some (.int .u64 x8) := (blk_cell KB0.out 8).trans rfl
  have c0_9 : V0.cell? ⟨w.heap.size, 9, none⟩ = some (.bool x9) := (blk_cell KB0.out 9).trans rfl
  have l0 := blk_lt KB0.out
  have c1_0 : V0.cell? ⟨w.heap.size + 1, 0, none⟩ = some (.int .u64 f0) := (blk_cell KB1.out 0).trans rfl
  have c1_1 : V0.cell? ⟨w.heap.size + 1, 1, none⟩ = some (.bool f1) := (blk_cell KB1.out 1).trans rfl
  have l1 := blk_lt KB1.out
  go_wp2_with fail
  clear c0_0 c0_1 c0_2 c0_3 c0_4 c0_5 c0_6 c0_7 c0_8 c0_9 l0 c1_0 c1_1 l1
  have HA := HB.out
  have KA0 := KB0.out
  have KA1 := KB1.out
  clear HB KB0 KB1
  refine Spc.gen (fun W => Below w.heap.size w W ∧ W.heap[w.heap.size]? = some (.cells #[.int .u64 x0, .bool x1, .int .u64 x2, .bool x3, .int .u64 x4, .bool x5, .int .u64 x6, .bool x7, .int .u64 x8, .bool x9] 26 (0, 0)) ∧ W.heap[w.heap.size + 1]? = some (.cells #[.int .u64 f0, .bool f1] 24 (0, 0))) ⟨HA, KA0, KA1⟩ ?_
  clear HA KA0 KA1
  rintro W1 ⟨HB1, K1_0, K1_1⟩
  refine (spec_With.calls x0 x1 x2 x3 x4 x5 x6 x7 x8 x9 kind f0 f1 y0 y1 y2 y3 y4 y5 y6 y7 y8 y9 0 _ h1.out).mono ?_
  rintro e V1 ⟨rfl, hb⟩
  have HB := below_step HB1 hb
  have KB0 := blk_below K1_0 hb
  have KB1 := blk_below K1_1 hb
  clear hb HB1 K1_0 K1_1
  replace HB := Aside0.mk HB
  replace KB0 := Aside0.mk KB0
  replace KB1 := Aside0.mk KB1
  have c0_0 : V1.cell? ⟨w.heap.size, 0, none⟩ = some (.int .u64 x0) := (blk_cell KB0.out 0).trans rfl
  have c0_1 : V1.cell? ⟨w.heap.size, 1, none⟩ = some (.bool x1) := (blk_cell KB0.out 1).trans rfl
  have c0_2 : V1.cell? ⟨w.heap.size, 2, none⟩ = some (.int .u64 x2) := (blk_cell KB0.out 2).trans rfl
  have c0_3 : V1.cell? ⟨w.heap.size, 3, none⟩ = some (.bool x3) := (blk_cell KB0.out 3).trans rfl
  have c0_4 : V1.cell? ⟨w.heap.size, 4, none⟩ = some (.int .u64 x4) := (blk_cell KB0.out 4).trans rfl
  have c0_5 : V1.cell? ⟨w.heap.size, 5, none⟩ = some (.bool x5) := (blk_cell KB0.out 5).trans rfl
  have c0_6 : V1.cell? ⟨w.heap.size, 6, none⟩ = some (.int .u64 x6) := (blk_cell KB0.out 6).trans rfl
  have c0_7 : V1.cell? ⟨w.heap.size, 7, none⟩ = some (.bool x7) := (blk_cell KB0.out 7).trans rfl
  have c0_8 : V1.cell? ⟨w.heap.size, 8, none⟩ = some (.int .u64 x8) := (blk_cell KB0.out 8).trans rfl
  have c0_9 : V1.cell? ⟨w.heap.size, 9, none⟩ = some (.bool x9) := (blk_cell KB0.out 9).trans rfl
  have l0 := blk_lt KB0.out
  have c1_0 : V1.cell? ⟨w.heap.size + 1, 0, none⟩ = some (.int .u64 f0) := (blk_cell KB1.out 0).trans rfl
  have c1_1 : V1.cell? ⟨w.heap.size + 1, 1, none⟩ = some (.bool f1) := (blk_cell KB1.out 1).trans rfl
  have l1 := blk_lt KB1.out
  go_wp2_with fail
  clear c0_0 c0_1 c0_2 c0_3 c0_4 c0_5 c0_6 c0_7 c0_8 c0_9 l0 c1_0 c1_1 l1
  have HA := below_alloc HB.out (.cells #[.int .u64 y0, .bool y1, .int .u64 y2, .bool y3, .int .u64 y4, .bool y5, .int .u64 y6, .bool y7, .int .u64 y8, .bool y9] 26)
  have KA0 := blk_alloc KB0.out (.cells #[.int .u64 y0, .bool y1, .int .u64 y2, .bool y3, .int .u64 y4, .bool y5, .int .u64 y6, .bool y7, .int .u64 y8, .bool y9] 26)
  have KA1 := blk_alloc KB1.out (.cells #[.int .u64 y0, .bool y1, .int .u64 y2, .bool y3, .int .u64 y4, .bool y5, .int .u64 y6, .bool y7, .int .u64 y8, .bool y9] 26)
  have KA2 := blk_new V1 (.cells #[.int .u64 y0, .bool y1, .int .u64 y2, .bool y3, .int .u64 y4, .bool y5, .int .u64 y6, .bool y7, .int .u64 y8, .bool y9] 26)
  clear HB KB0 KB1
  refine Spc.gen (fun W => Below w.heap.size w W ∧ W.heap[w.heap.size]? = some (.cells #[.int .u64 x0, .bool x1, .int .u64 x2, .bool x3, .int .u64 x4, .bool x5, .int .u64 x6, .bool x7, .int .u64 x8, .bool x9] 26 (0, 0)) ∧ W.heap[w.heap.size + 1]? = some (.cells #[.int .u64 f0, .bool f1] 24 (0, 0)) ∧ W.heap[V1.heap.size]? = some (.cells #[.int .u64 y0, .bool y1, .int .u64 y2, .bool y3, .int .u64 y4, .bool y5, .int .u64 y6, .bool y7, .int .u64 y8, .bool y9] 26 (0, 0))) ⟨HA, KA0, KA1, KA2⟩ ?_
  clear HA KA0 KA1 KA2
  rintro W2 ⟨HB2, K2_0, K2_1, K2_2⟩
  refine (spec_Get.calls y0 y1 y2 y3 y4 y5 y6 y7 y8 y9 kind f0 f1 0 _ h2.out).mono ?_
  rintro e V2 ⟨rfl, hb⟩
  have HB := below_step HB2 hb
  have KB0 := blk_below K2_0 hb
  have KB1 := blk_below K2_1 hb
  have KB2 := blk_below K2_2 hb
  clear hb HB2 K2_0 K2_1 K2_2
  replace HB := Aside0.mk HB
  replace KB0 := Aside0.mk KB0
  replace KB1 := Aside0.mk KB1
  replace KB2 := Aside0.mk KB2
  have c0_0 : V2.cell? ⟨w.heap.size, 0, none⟩ = some (.int .u64 x0) := (blk_cell KB0.out 0).trans rfl
  have c0_1 : V2.cell? ⟨w.heap.size, 1, none⟩ = some (.bool x1) := (blk_cell KB0.out 1).trans rfl
  have c0_2 : V2.cell? ⟨w.heap.size, 2, none⟩ = some (.int .u64 x2) := (blk_cell KB0.out 2).trans rfl
  have c0_3 : V2.cell? ⟨w.heap.size, 3, none⟩ = some (.bool x3) := (blk_cell KB0.out 3).trans rfl
  have c0_4 : V2.cell? ⟨w.heap.size, 4, none⟩ = some (.int .u64 x4) := (blk_cell KB0.out 4).trans rfl
  have c0_5 : V2.cell? ⟨w.heap.size, 5, none⟩ = some (.bool x5) := (blk_cell KB0.out 5).trans rfl
  have c0_6 : V2.cell? ⟨w.heap.size, 6, none⟩ = some (.int .u64 x6) := (blk_cell KB0.out 6).trans rfl
  have c0_7 : V2.cell? ⟨w.heap.size, 7, none⟩ = some (.bool x7) := (blk_cell KB0.out 7).trans rfl
  have c0_8 : V2.cell? ⟨w.heap.size, 8, none⟩ = some (.int .u64 x8) := (blk_cell KB0.out 8).trans rfl
  have c0_9 : V2.cell? ⟨w.heap.size, 9, none⟩ = some (.bool x9) := (blk_cell KB0.out 9).trans rfl
  have l0 := blk_lt KB0.out
  have c1_0 : V2.cell? ⟨w.heap.size + 1, 0, none⟩ = some (.int .u64 f0) := (blk_cell KB1.out 0).trans rfl
  have c1_1 : V2.cell? ⟨w.heap.size + 1, 1, none⟩ = some (.bool f1) := (blk_cell KB1.out 1).trans rfl
  have l1 := blk_lt KB1.out
  have c2_0 : V2.cell? ⟨V1.heap.size, 0, none⟩ = some (.int .u64 y0) := (blk_cell KB2.out 0).trans rfl
  have c2_1 : V2.cell? ⟨V1.heap.size, 1, none⟩ = some (.bool y1) := (blk_cell KB2.out 1).trans rfl
  have c2_2 : V2.cell? ⟨V1.heap.size, 2, none⟩ = some (.int .u64 y2) := (blk_cell KB2.out 2).trans rfl
  have c2_3 : V2.cell? ⟨V1.heap.size, 3, none⟩ = some (.bool y3) := (blk_cell KB2.out 3).trans rfl
  have c2_4 : V2.cell? ⟨V1.heap.size, 4, none⟩ = some (.int .u64 y4) := (blk_cell KB2.out 4).trans rfl
  have c2_5 : V2.cell? ⟨V1.heap.size, 5, none⟩ = some (.bool y5) := (blk_cell KB2.out 5).trans rfl
  have c2_6 : V2.cell? ⟨V1.heap.size, 6, none⟩ = some (.int .u64 y6) := (blk_cell KB2.out 6).trans rfl
  have c2_7 : V2.cell? ⟨V1.heap.size, 7, none⟩ = some (.bool y7) := (blk_cell KB2.out 7).trans rfl
  have c2_8 : V2.cell? ⟨V1.heap.size, 8, none⟩ = some (.int .u64 y8) := (blk_cell KB2.out 8).trans rfl
  have c2_9 : V2.cell? ⟨V1.heap.size, 9, none⟩ = some (.bool y9) := (blk_cell KB2.out 9).trans rfl
  have l2 := blk_lt KB2.out
  go_wp2_with fail
  clear c0_0 c0_1 c0_2 c0_3 c0_4 c0_5 c0_6 c0_7 c0_8 c0_9 l0 c1_0 c1_1 l1 c2_0 c2_1 c2_2 c2_3 c2_4 c2_5 c2_6 c2_7 c2_8 c2_9 l2
  have HA := below_alloc HB.out (.cells #[.int .u64 f0, .bool f1] 24)
  have KA0 := blk_alloc KB0.out (.cells #[.int .u64 f0, .bool f1] 24)
  have KA1 := blk_alloc KB1.out (.cells #[.int .u64 f0, .bool f1] 24)
  have KA2 := blk_alloc KB2.out (.cells #[.int .u64 f0, .bool f1] 24)
  have KA3 := blk_new V2 (.cells #[.int .u64 f0, .bool f1] 24)
  clear HB KB0 KB1 KB2
  refine Spc.gen (fun W => Below w.heap.size w W ∧ W.heap[w.heap.size]? = some (.cells #[.int .u64 x0, .bool x1, .int .u64 x2, .bool x3, .int .u64 x4, .bool x5, .int .u64 x6, .bool x7, .int .u64 x8, .bool x9] 26 (0, 0)) ∧ W.heap[w.heap.size + 1]? = some (.cells #[.int .u64 f0, .bool f1] 24 (0, 0)) ∧ W.heap[V1.heap.size]? = some (.cells #[.int .u64 y0, .bool y1, .int .u64 y2, .bool y3, .int .u64 y4, .bool y5, .int .u64 y6, .bool y7, .int .u64 y8, .bool y9] 26 (0, 0)) ∧ W.heap[V2.heap.size]? = some (.cells #[.int .u64 f0, .bool f1] 24 (0, 0))) ⟨HA, KA0, KA1, KA2, KA3⟩ ?_
  clear HA KA0 KA1 KA2 KA3
  rintro W3 ⟨HB3, K3_0, K3_1, K3_2, K3_3⟩
  refine (spec_Get.calls x0 x1 x2 x3 x4 x5 x6 x7 x8 x9 kind u0 u1 0 _ h3.out).mono ?_
  rintro e V3 ⟨rfl, hb⟩
  have HB := below_step HB3 hb
  have KB0 := blk_below K3_0 hb
  have KB1 := blk_below K3_1 hb
  have KB2 := blk_below K3_2 hb
  have KB3 := blk_below K3_3 hb
  clear hb HB3 K3_0 K3_1 K3_2 K3_3
  replace HB := Aside0.mk HB
  replace KB0 := Aside0.mk KB0
  replace KB1 := Aside0.mk KB1
  replace KB2 := Aside0.mk KB2
  replace KB3 := Aside0.mk KB3
  have c0_0 : V3.cell? ⟨w.heap.size, 0, none⟩ = some (.int .u64 x0) := (blk_cell KB0.out 0).trans rfl
  have c0_1 : V3.cell? ⟨w.heap.size, 1, none⟩ = some (.bool x1) := (blk_cell KB0.out 1).trans rfl
  have c0_2 : V3.cell? ⟨w.heap.size, 2, none⟩ = some (.int .u64 x2) := (blk_cell KB0.out 2).trans rfl
  have c0_3 : V3.cell? ⟨w.heap.size, 3, none⟩ = some (.bool x3) := (blk_cell KB0.out 3).trans rfl
  have c0_4 : V3.cell? ⟨w.heap.size, 4, none⟩ = some (.int .u64 x4) := (blk_cell KB0.out 4).trans rfl
  have c0_5 : V3.cell? ⟨w.heap.size, 5, none⟩ = some (.bool x5) := (blk_cell KB0.out 5).trans rfl
  have c0_6 : V3.cell? ⟨w.heap.size, 6, none⟩ = some (.int .u64 x6) := (blk_cell KB0.out 6).trans rfl
  have c0_7 : V3.cell? ⟨w.heap.size, 7, none⟩ = some (.bool x7) := (blk_cell KB0.out 7).trans rfl
  have c0_8 : V3.cell? ⟨w.heap.size, 8, none⟩ = some (.int .u64 x8) := (blk_cell KB0.out 8).trans rfl
  have c0_9 : V3.cell? ⟨w.heap.size, 9, none⟩ = some (.bool x9) := (blk_cell KB0.out 9).trans rfl
  have l0 := blk_lt KB0.out
  have c1_0 : V3.cell? ⟨w.heap.size + 1, 0, none⟩ = some (.int .u64 f0) := (blk_cell KB1.out 0).trans rfl
  have c1_1 : V3.cell? ⟨w.heap.size + 1, 1, none⟩ = some (.bool f1) := (blk_cell KB1.out 1).trans rfl
  have l1 := blk_lt KB1.out
  have c2_0 : V3.cell? ⟨V1.heap.size, 0, none⟩ = some (.int .u64 y0) := (blk_cell KB2.out 0).trans rfl
  have c2_1 : V3.cell? ⟨V1.heap.size, 1, none⟩ = some (.bool y1) := (blk_cell KB2.out 1).trans rfl
  have c2_2 : V3.cell? ⟨V1.heap.size, 2, none⟩ = some (.int .u64 y2) := (blk_cell KB2.out 2).trans rfl
  have c2_3 : V3.cell? ⟨V1.heap.size, 3, none⟩ = some (.bool y3) := (blk_cell KB2.out 3).trans rfl
  have c2_4 : V3.cell? ⟨V1.heap.size, 4, none⟩ = some (.int .u64 y4) := (blk_cell KB2.out 4).trans rfl
  have c2_5 : V3.cell? ⟨V1.heap.size, 5, none⟩ = some (.bool y5) := (blk_cell KB2.out 5).trans rfl
  have c2_6 : V3.cell? ⟨V1.heap.size, 6, none⟩ = some (.int .u64 y6) := (blk_cell KB2.out 6).trans rfl
  have c2_7 : V3.cell? ⟨V1.heap.size, 7, none⟩ = some (.bool y7) := (blk_cell KB2.out 7).trans rfl
  have c2_8 : V3.cell? ⟨V1.heap.size, 8, none⟩ = some (.int .u64 y8) := (blk_cell KB2.out 8).trans rfl
  have c2_9 : V3.cell? ⟨V1.heap.size, 9, none⟩ = some (.bool y9) := (blk_cell KB2.out 9).trans rfl
  have l2 := blk_lt KB2.out
  have c3_0 : V3.cell? ⟨V2.heap.size, 0, none⟩ = some (.int .u64 f0) := (blk_cell KB3.out 0).trans rfl
  have c3_1 : V3.cell? ⟨V2.heap.size, 1, none⟩ = some (.bool f1) := (blk_cell KB3.out 1).trans rfl
  have l3 := blk_lt KB3.out
  go_wp2_with fail
  clear c0_0 c0_1 c0_2 c0_3 c0_4 c0_5 c0_6 c0_7 c0_8 c0_9 l0 c1_0 c1_1 l1 c2_0 c2_1 c2_2 c2_3 c2_4 c2_5 c2_6 c2_7 c2_8 c2_9 l2 c3_0 c3_1 l3
  have HA := below_alloc HB.out (.cells #[.int .u64 u0, .bool u1] 24)
  have KA0 := blk_alloc KB0.out (.cells #[.int .u64 u0, .bool u1] 24)
  have KA1 := blk_alloc KB1.out (.cells #[.int .u64 u0, .bool u1] 24)
  have KA2 := blk_alloc KB2.out (.cells #[.int .u64 u0, .bool u1] 24)
  have KA3 := blk_alloc KB3.out (.cells #[.int .u64 u0, .bool u1] 24)
  have KA4 := blk_new V3 (.cells #[.int .u64 u0, .bool u1] 24)
  clear HB KB0 KB1 KB2 KB3
  refine Spc.gen (fun W => Below w.heap.size w W ∧ W.heap[w.heap.size]? = some (.cells #[.int .u64 x0, .bool x1, .int .u64 x2, .bool x3, .int .u64 x4, .bool x5, .int .u64 x6, .bool x7, .int .u64 x8, .bool x9] 26 (0, 0)) ∧ W.heap[w.heap.size + 1]? = some (.cells #[.int .u64 f0, .bool f1] 24 (0, 0)) ∧ W.heap[V1.heap.size]? = some (.cells #[.int .u64 y0, .bool y1, .int .u64 y2, .bool y3, .int .u64 y4, .bool y5, .int .u64 y6, .bool y7, .int .u64 y8, .bool y9] 26 (0, 0)) ∧ W.heap[V2.heap.size]? = some (.cells #[.int .u64 f0, .bool f1] 24 (0, 0)) ∧ W.heap[V3.heap.size]? = some (.cells #[.int .u64 u0, .bool u1] 24 (0, 0))) ⟨HA, KA0, KA1, KA2, KA3, KA4⟩ ?_
  clear HA KA0 KA1 KA2 KA3 KA4
  rintro W4 ⟨HB4, K4_0, K4_1, K4_2, K4_3, K4_4⟩
  refine (spec_With.calls y0 y1 y2 y3 y4 y5 y6 y7 y8 y9 kind u0 u1 x0 x1 x2 x3 x4 x5 x6 x7 x8 x9 0 _ h4.out).mono ?_
  rintro e V4 ⟨rfl, hb⟩
  have HB := below_step HB4 hb
  have KB0 := blk_below K4_0 hb
  have KB1 := blk_below K4_1 hb
  have KB2 := blk_below K4_2 hb
  have KB3 := blk_below K4_3 hb
  have KB4 := blk_below K4_4 hb
  clear hb HB4 K4_0 K4_1 K4_2 K4_3 K4_4
  replace HB := Aside0.mk HB
  replace KB0 := Aside0.mk KB0
  replace KB1 := Aside0.mk KB1
  replace KB2 := Aside0.mk KB2
  replace KB3 := Aside0.mk KB3
  replace KB4 := Aside0.mk KB4
  have c0_0 : V4.cell? ⟨w.heap.size, 0, none⟩ = some (.int .u64 x0) := (blk_cell KB0.out 0).trans rfl
  have c0_1 : V4.cell? ⟨w.heap.size, 1, none⟩ = some (.bool x1) := (blk_cell KB0.out 1).trans rfl
  have c0_2 : V4.cell? ⟨w.heap.size, 2, none⟩ = some (.int .u64 x2) := (blk_cell KB0.out 2).trans rfl
  have c0_3 : V4.cell? ⟨w.heap.size, 3, none⟩ = some (.bool x3) := (blk_cell KB0.out 3).trans rfl
  have c0_4 : V4.cell? ⟨w.heap.size, 4, none⟩ = some (.int .u64 x4) := (blk_cell KB0.out 4).trans rfl
  have c0_5 : V4.cell? ⟨w.heap.size, 5, none⟩ = some (.bool x5) := (blk_cell KB0.out 5).trans rfl
  have c0_6 : V4.cell? ⟨w.heap.size, 6, none⟩ = some (.int .u64 x6) := (blk_cell KB0.out 6).trans rfl
  have c0_7 : V4.cell? ⟨w.heap.size, 7, none⟩ = some (.bool x7) := (blk_cell KB0.out 7).trans rfl
  have c0_8 : V4.cell? ⟨w.heap.size, 8, none⟩ = some (.int .u64 x8) := (blk_cell KB0.out 8).trans rfl
  have c0_9 : V4.cell? ⟨w.heap.size, 9, none⟩ = some (.bool x9) := (blk_cell KB0.out 9).trans rfl
  have l0 := blk_lt KB0.out
  have c1_0 : V4.cell? ⟨w.heap.size + 1, 0, none⟩ = some (.int .u64 f0) := (blk_cell KB1.out 0).trans rfl
  have c1_1 : V4.cell? ⟨w.heap.size + 1, 1, none⟩ = some (.bool f1) := (blk_cell KB1.out 1).trans rfl
  have l1 := blk_lt KB1.out
  have c2_0 : V4.cell? ⟨V1.heap.size, 0, none⟩ = some (.int .u64 y0) := (blk_cell KB2.out 0).trans rfl
  have c2_1 : V4.cell? ⟨V1.heap.size, 1, none⟩ = some (.bool y1) := (blk_cell KB2.out 1).trans rfl
  have c2_2 : V4.cell? ⟨V1.heap.size, 2, none⟩ = some (.int .u64 y2) := (blk_cell KB2.out 2).trans rfl
  have c2_3 : V4.cell? ⟨V1.heap.size, 3, none⟩ = some (.bool y3) := (blk_cell KB2.out 3).trans rfl
  have c2_4 : V4.cell? ⟨V1.heap.size, 4, none⟩ = some (.int .u64 y4) := (blk_cell KB2.out 4).trans rfl
  have c2_5 : V4.cell? ⟨V1.heap.size, 5, none⟩ = some (.bool y5) := (blk_cell KB2.out 5).trans rfl
  have c2_6 : V4.cell? ⟨V1.heap.size, 6, none⟩ = some (.int .u64 y6) := (blk_cell KB2.out 6).trans rfl
  have c2_7 : V4.cell? ⟨V1.heap.size, 7, none⟩ = some (.bool y7) := (blk_cell KB2.out 7).trans rfl
  have c2_8 : V4.cell? ⟨V1.heap.size, 8, none⟩ = some (.int .u64 y8) := (blk_cell KB2.out 8).trans rfl
  have c2_9 : V4.cell? ⟨V1.heap.size, 9, none⟩ = some (.bool y9) := (blk_cell KB2.out 9).trans rfl
  have l2 := blk_lt KB2.out
  have c3_0 : V4.cell? ⟨V2.heap.size, 0, none⟩ = some (.int .u64 f0) := (blk_cell KB3.out 0).trans rfl
  have c3_1 : V4.cell? ⟨V2.heap.size, 1, none⟩ = some (.bool f1) := (blk_cell KB3.out 1).trans rfl
  have l3 := blk_lt KB3.out
  have c4_0 : V4.cell? ⟨V3.heap.size, 0, none⟩ = some (.int .u64 u0) := (blk_cell KB4.out 0).trans rfl
  have c4_1 : V4.cell? ⟨V3.heap.size, 1, none⟩ = some (.bool u1) := (blk_cell KB4.out 1).trans rfl
  have l4 := blk_lt KB4.out
  go_wp2_with fail
  go_ret
  exact ⟨rfl, by first | exact HB.out | exact below_alloc HB.out _⟩
set_option maxHeartbeats 8000000 in
set_option maxRecDepth 100000 in
theorem Spc.puts_same (x0 : Int) (x1 : Bool) (x2 : Int) (x3 : Bool) (x4 : Int) (x5 : Bool) (x6 : Int) (x7 : Bool) (x8 : Int) (x9 : Bool) (kind other : Int) (f0 : Int) (f1 : Bool) (ka : 0 ≤ kind) (kb : kind ≤ 4) (y0 : Int) (y1 : Bool) (y2 : Int) (y3 : Bool) (y4 : Int) (y5 : Bool) (y6 : Int) (y7 : Bool) (y8 : Int) (y9 : Bool) (u0 : Int) (u1 : Bool) (h1 : spec_With.f x0 x1 x2 x3 x4 x5 x6 x7 x8 x9 kind f0 f1 = some (y0, y1, y2, y3, y4, y5, y6, y7, y8, y9, 0)) (h2 : spec_Get.f y0 y1 y2 y3 y4 y5 y6 y7 y8 y9 kind = some (f0, f1, 0)) (h3 : spec_Get.f x0 x1 x2 x3 x4 x5 x6 x7 x8 x9 kind = some (u0, u1, 0)) (h4 : spec_With.f y0 y1 y2 y3 y4 y5 y6 y7 y8 y9 kind u0 u1 = some (x0, x1, x2, x3, x4, x5, x6, x7, x8, x9, 0)) (ho : other = kind) (w : World) (hT : Tab w) : Calls Tryd.prog 6 #[.agg #[.int .u64 x0, .bool x1, .int .u64 x2, .bool x3, .int .u64 x4, .bool x5, .int .u64 x6, .bool x7, .int .u64 x8, .bool x9], .int .i64 kind, .int .i64 other, .agg #[.int .u64 f0, .bool f1]] w fun e w' => e = .returned (.bool true) ∧ Below w.heap.size w w' := by
  subst ho
  have k0 : ¬ other < 0 := by omega
  have k4 : ¬ 4 < other := by omega
  replace ka := Lib.hid ka
  replace kb := Lib.hid kb
  replace h1 := Lib.hid h1
  replace h2 := Lib.hid h2
  replace h3 := Lib.hid h3
  replace h4 := Lib.hid h4
  have eqF := Spc.eqF
  have eqS := Spc.eqS
  replace hT := Aside0.mk hT
  have HA := below_alloc (below_alloc (Below.refl w.heap.size w) (.cells #[.int .u64 x0, .bool x1, .int .u64 x2, .bool x3, .int .u64 x4, .bool x5, .int .u64 x6, .bool x7, .int .u64 x8, .bool x9] 26)) (.cells #[.int .u64 f0, .bool f1] 24)
  have KA0 := blk_alloc (blk_new w (.cells #[.int .u64 x0, .bool x1, .int .u64 x2, .bool x3, .int .u64 x4, .bool x5, .int .u64 x6, .bool x7, .int .u64 x8, .bool x9] 26)) (.cells #[.int .u64 f0, .bool f1] 24)
  have KA1 : ((w.alloc (.cells #[.int .u64 x0, .bool x1, .int .u64 x2, .bool x3, .int .u64 x4, .bool x5, .int .u64 x6, .bool x7, .int .u64 x8, .bool x9] 26)).alloc (.cells #[.int .u64 f0, .bool f1] 24)).heap[w.heap.size + 1]? = some (.cells #[.int .u64 f0, .bool f1] 24 (0, 0)) := by
    have := heap_alloc_new (w.alloc (.cells #[.int .u64 x0, .bool x1, .int .u64 x2, .bool x3, .int .u64 x4, .bool x5, .int .u64 x6, .bool x7, .int .u64 x8, .bool x9] 26)) (.cells #[.int .u64 f0, .bool f1] 24)
    simpa using this
  go_enter Tryd.func6, Tryd.ntmps6
  go_wp2_with fail
  refine Spc.gen (fun W => Below w.heap.size w W ∧ W.heap[w.heap.size]? = some (.cells #[.int .u64 x0, .bool x1, .int .u64 x2, .bool x3, .int .u64 x4, .bool x5, .int .u64 x6, .bool x7, .int .u64 x8, .bool x9] 26 (0, 0)) ∧ W.heap[w.heap.size + 1]? = some (.cells #[.int .u64 f0, .bool f1] 24 (0, 0))) ⟨HA, KA0, KA1⟩ ?_
  clear HA KA0 KA1
  rintro W0 ⟨HB0, K0_0, K0_1⟩
  have hTk := hT.out.keep HB0
  refine (complinelaw19_works.calls true _ hTk rfl).mono ?_
  rintro e V0 ⟨rfl, hb⟩
  have HB := below_step HB0 hb
  clear hTk
  have KB0 := blk_below K0_0 hb
  have KB1 := blk_below K0_1 hb
  clear hb HB0 K0_0 K0_1
  replace HB := Aside0.mk HB
  replace KB0 := Aside0.mk KB0
  replace KB1 := Aside0.mk KB1
  have c0_0 : V0.cell? ⟨w.heap.size, 0, none⟩ = some (.int .u64 x0) := (blk_cell KB0.out 0).trans rfl
  have c0_1 : V0.cell? ⟨w.heap.size, 1, none⟩ = some (.bool x1) := (blk_cell KB0.out 1).trans rfl
  have c0_2 : V0.cell? ⟨w.heap.size, 2, none⟩ = some (.int .u64 x2) := (blk_cell KB0.out 2).trans rfl
  have c0_3 : V0.cell? ⟨w.heap.size, 3, none⟩ = some (.bool x3) := (blk_cell KB0.out 3).trans rfl
  have c0_4 : V0.cell? ⟨w.heap.size, 4, none⟩ = some (.int .u64 x4) := (blk_cell KB0.out 4).trans rfl
  have c0_5 : V0.cell? ⟨w.heap.size, 5, none⟩ = some (.bool x5) := (blk_cell KB0.out 5).trans rfl
  have c0_6 : V0.cell? ⟨w.heap.size, 6, none⟩ = some (.int .u64 x6) := (blk_cell KB0.out 6).trans rfl
  have c0_7 : V0.cell? ⟨w.heap.size, 7, none⟩ = some (.bool x7) := (blk_cell KB0.out 7).trans rfl
  have c0_8 : V0.cell? ⟨w.heap.size, 8, none⟩ = some (.int .u64 x8) := (blk_cell KB0.out 8).trans rfl
  have c0_9 : V0.cell? ⟨w.heap.size, 9, none⟩ = some (.bool x9) := (blk_cell KB0.out 9).trans rfl
  have l0 := blk_lt KB0.out
  have c1_0 : V0.cell? ⟨w.heap.size + 1, 0, none⟩ = some (.int .u64 f0) := (blk_cell KB1.out 0).trans rfl
  have c1_1 : V0.cell? ⟨w.heap.size + 1, 1, none⟩ = some (.bool f1) := (blk_cell KB1.out 1).trans rfl
  have l1 := blk_lt KB1.out
  go_wp2_with fail
  clear c0_0 c0_1 c0_2 c0_3 c0_4 c0_5 c0_6 c0_7 c0_8 c0_9 l0 c1_0 c1_1 l1
  have HA := HB.out
  have KA0 := KB0.out
  have KA1 := KB1.out
  clear HB KB0 KB1
  refine Spc.gen (fun W => Below w.heap.size w W ∧ W.heap[w.heap.size]? = some (.cells #[.int .u64 x0, .bool x1, .int .u64 x2, .bool x3, .int .u64 x4, .bool x5, .int .u64 x6, .bool x7, .int .u64 x8, .bool x9] 26 (0, 0)) ∧ W.heap[w.heap.size + 1]? = some (.cells #[.int .u64 f0, .bool f1] 24 (0, 0))) ⟨HA, KA0, KA1⟩ ?_
  clear HA KA0 KA1
  rintro W1 ⟨HB1, K1_0, K1_1⟩
  refine (spec_With.calls x0 x1 x2 x3 x4 x5 x6 x7 x8 x9 other f0 f1 y0 y1 y2 y3 y4 y5 y6 y7 y8 y9 0 _ h1.out).mono ?_
  rintro e V1 ⟨rfl, hb⟩
  have HB := below_step HB1 hb
  have KB0 := blk_below K1_0 hb
  have KB1 := blk_below K1_1 hb
  clear hb HB1 K1_0 K1_1
  replace HB := Aside0.mk HB
  replace KB0 := Aside0.mk KB0
  replace KB1 := Aside0.mk KB1
  have c0_0 : V1.cell? ⟨w.heap.size, 0, none⟩ = some (.int .u64 x0) := (blk_cell KB0.out 0).trans rfl
  have c0_1 : V1.cell? ⟨w.heap.size, 1, none⟩ = some (.bool x1) := (blk_cell KB0.out 1).trans rfl
  have c0_2 : V1.cell? ⟨w.heap.size, 2, none⟩ = some (.int .u64 x2) := (blk_cell KB0.out 2).trans rfl
  have c0_3 : V1.cell? ⟨w.heap.size, 3, none⟩ = some (.bool x3) := (blk_cell KB0.out 3).trans rfl
  have c0_4 : V1.cell? ⟨w.heap.size, 4, none⟩ = some (.int .u64 x4) := (blk_cell KB0.out 4).trans rfl
  have c0_5 : V1.cell? ⟨w.heap.size, 5, none⟩ = some (.bool x5) := (blk_cell KB0.out 5).trans rfl
  have c0_6 : V1.cell? ⟨w.heap.size, 6, none⟩ = some (.int .u64 x6) := (blk_cell KB0.out 6).trans rfl
  have c0_7 : V1.cell? ⟨w.heap.size, 7, none⟩ = some (.bool x7) := (blk_cell KB0.out 7).trans rfl
  have c0_8 : V1.cell? ⟨w.heap.size, 8, none⟩ = some (.int .u64 x8) := (blk_cell KB0.out 8).trans rfl
  have c0_9 : V1.cell? ⟨w.heap.size, 9, none⟩ = some (.bool x9) := (blk_cell KB0.out 9).trans rfl
  have l0 := blk_lt KB0.out
  have c1_0 : V1.cell? ⟨w.heap.size + 1, 0, none⟩ = some (.int .u64 f0) := (blk_cell KB1.out 0).trans rfl
  have c1_1 : V1.cell? ⟨w.heap.size + 1, 1, none⟩ = some (.bool f1) := (blk_cell KB1.out 1).trans rfl
  have l1 := blk_lt KB1.out
  go_wp2_with fail
  clear c0_0 c0_1 c0_2 c0_3 c0_4 c0_5 c0_6 c0_7 c0_8 c0_9 l0 c1_0 c1_1 l1
  have HA := below_alloc HB.out (.cells #[.int .u64 y0, .bool y1, .int .u64 y2, .bool y3, .int .u64 y4, .bool y5, .int .u64 y6, .bool y7, .int .u64 y8, .bool y9] 26)
  have KA0 := blk_alloc KB0.out (.cells #[.int .u64 y0, .bool y1, .int .u64 y2, .bool y3, .int .u64 y4, .bool y5, .int .u64 y6, .bool y7, .int .u64 y8, .bool y9] 26)
  have KA1 := blk_alloc KB1.out (.cells #[.int .u64 y0, .bool y1, .int .u64 y2, .bool y3, .int .u64 y4, .bool y5, .int .u64 y6, .bool y7, .int .u64 y8, .bool y9] 26)
  have KA2 := blk_new V1 (.cells #[.int .u64 y0, .bool y1, .int .u64 y2, .bool y3, .int .u64 y4, .bool y5, .int .u64 y6, .bool y7, .int .u64 y8, .bool y9] 26)
  clear HB KB0 KB1
  refine Spc.gen (fun W => Below w.heap.size w W ∧ W.heap[w.heap.size]? = some (.cells #[.int .u64 x0, .bool x1, .int .u64 x2, .bool x3, .int .u64 x4, .bool x5, .int .u64 x6, .bool x7, .int .u64 x8, .bool x9] 26 (0, 0)) ∧ W.heap[w.heap.size + 1]? = some (.cells #[.int .u64 f0, .bool f1] 24 (0, 0)) ∧ W.heap[V1.heap.size]? = some (.cells #[.int .u64 y0, .bool y1, .int .u64 y2, .bool y3, .int .u64 y4, .bool y5, .int .u64 y6, .bool y7, .int .u64 y8, .bool y9] 26 (0, 0))) ⟨HA, KA0, KA1, KA2⟩ ?_
  clear HA KA0 KA1 KA2
  rintro W2 ⟨HB2, K2_0, K2_1, K2_2⟩
  refine (spec_Get.calls y0 y1 y2 y3 y4 y5 y6 y7 y8 y9 other f0 f1 0 _ h2.out).mono ?_
  rintro e V2 ⟨rfl, hb⟩
  have HB := below_step HB2 hb
  have KB0 := blk_below K2_0 hb
  have KB1 := blk_below K2_1 hb
  have KB2 := blk_below K2_2 hb
  clear hb HB2 K2_0 K2_1 K2_2
  replace HB := Aside0.mk HB
  replace KB0 := Aside0.mk KB0
  replace KB1 := Aside0.mk KB1
  replace KB2 := Aside0.mk KB2
  have c0_0 : V2.cell? ⟨w.heap.size, 0, none⟩ = some (.int .u64 x0) := (blk_cell KB0.out 0).trans rfl
  have c0_1 : V2.cell? ⟨w.heap.size, 1, none⟩ = some (.bool x1) := (blk_cell KB0.out 1).trans rfl
  have c0_2 : V2.cell? ⟨w.heap.size, 2, none⟩ = some (.int .u64 x2) := (blk_cell KB0.out 2).trans rfl
  have c0_3 : V2.cell? ⟨w.heap.size, 3, none⟩ = some (.bool x3) := (blk_cell KB0.out 3).trans rfl
  have c0_4 : V2.cell? ⟨w.heap.size, 4, none⟩ = some (.int .u64 x4) := (blk_cell KB0.out 4).trans rfl
  have c0_5 : V2.cell? ⟨w.heap.size, 5, none⟩ = some (.bool x5) := (blk_cell KB0.out 5).trans rfl
  have c0_6 : V2.cell? ⟨w.heap.size, 6, none⟩ = some (.int .u64 x6) := (blk_cell KB0.out 6).trans rfl
  have c0_7 : V2.cell? ⟨w.heap.size, 7, none⟩ = some (.bool x7) := (blk_cell KB0.out 7).trans rfl
  have c0_8 : V2.cell? ⟨w.heap.size, 8, none⟩ = some (.int .u64 x8) := (blk_cell KB0.out 8).trans rfl
  have c0_9 : V2.cell? ⟨w.heap.size, 9, none⟩ = some (.bool x9) := (blk_cell KB0.out 9).trans rfl
  have l0 := blk_lt KB0.out
  have c1_0 : V2.cell? ⟨w.heap.size + 1, 0, none⟩ = some (.int .u64 f0) := (blk_cell KB1.out 0).trans rfl
  have c1_1 : V2.cell? ⟨w.heap.size + 1, 1, none⟩ = some (.bool f1) := (blk_cell KB1.out 1).trans rfl
  have l1 := blk_lt KB1.out
  have c2_0 : V2.cell? ⟨V1.heap.size, 0, none⟩ = some (.int .u64 y0) := (blk_cell KB2.out 0).trans rfl
  have c2_1 : V2.cell? ⟨V1.heap.size, 1, none⟩ = some (.bool y1) := (blk_cell KB2.out 1).trans rfl
  have c2_2 : V2.cell? ⟨V1.heap.size, 2, none⟩ = some (.int .u64 y2) := (blk_cell KB2.out 2).trans rfl
  have c2_3 : V2.cell? ⟨V1.heap.size, 3, none⟩ = some (.bool y3) := (blk_cell KB2.out 3).trans rfl
  have c2_4 : V2.cell? ⟨V1.heap.size, 4, none⟩ = some (.int .u64 y4) := (blk_cell KB2.out 4).trans rfl
  have c2_5 : V2.cell? ⟨V1.heap.size, 5, none⟩ = some (.bool y5) := (blk_cell KB2.out 5).trans rfl
  have c2_6 : V2.cell? ⟨V1.heap.size, 6, none⟩ = some (.int .u64 y6) := (blk_cell KB2.out 6).trans rfl
  have c2_7 : V2.cell? ⟨V1.heap.size, 7, none⟩ = some (.bool y7) := (blk_cell KB2.out 7).trans rfl
  have c2_8 : V2.cell? ⟨V1.heap.size, 8, none⟩ = some (.int .u64 y8) := (blk_cell KB2.out 8).trans rfl
  have c2_9 : V2.cell? ⟨V1.heap.size, 9, none⟩ = some (.bool y9) := (blk_cell KB2.out 9).trans rfl
  have l2 := blk_lt KB2.out
  go_wp2_with fail
  clear c0_0 c0_1 c0_2 c0_3 c0_4 c0_5 c0_6 c0_7 c0_8 c0_9 l0 c1_0 c1_1 l1 c2_0 c2_1 c2_2 c2_3 c2_4 c2_5 c2_6 c2_7 c2_8 c2_9 l2
  have HA := below_alloc HB.out (.cells #[.int .u64 f0, .bool f1] 24)
  have KA0 := blk_alloc KB0.out (.cells #[.int .u64 f0, .bool f1] 24)
  have KA1 := blk_alloc KB1.out (.cells #[.int .u64 f0, .bool f1] 24)
  have KA2 := blk_alloc KB2.out (.cells #[.int .u64 f0, .bool f1] 24)
  have KA3 := blk_new V2 (.cells #[.int .u64 f0, .bool f1] 24)
  clear HB KB0 KB1 KB2
  refine Spc.gen (fun W => Below w.heap.size w W ∧ W.heap[w.heap.size]? = some (.cells #[.int .u64 x0, .bool x1, .int .u64 x2, .bool x3, .int .u64 x4, .bool x5, .int .u64 x6, .bool x7, .int .u64 x8, .bool x9] 26 (0, 0)) ∧ W.heap[w.heap.size + 1]? = some (.cells #[.int .u64 f0, .bool f1] 24 (0, 0)) ∧ W.heap[V1.heap.size]? = some (.cells #[.int .u64 y0, .bool y1, .int .u64 y2, .bool y3, .int .u64 y4, .bool y5, .int .u64 y6, .bool y7, .int .u64 y8, .bool y9] 26 (0, 0)) ∧ W.heap[V2.heap.size]? = some (.cells #[.int .u64 f0, .bool f1] 24 (0, 0))) ⟨HA, KA0, KA1, KA2, KA3⟩ ?_
  clear HA KA0 KA1 KA2 KA3
  rintro W3 ⟨HB3, K3_0, K3_1, K3_2, K3_3⟩
  refine (spec_Get.calls x0 x1 x2 x3 x4 x5 x6 x7 x8 x9 other u0 u1 0 _ h3.out).mono ?_
  rintro e V3 ⟨rfl, hb⟩
  have HB := below_step HB3 hb
  have KB0 := blk_below K3_0 hb
  have KB1 := blk_below K3_1 hb
  have KB2 := blk_below K3_2 hb
  have KB3 := blk_below K3_3 hb
  clear hb HB3 K3_0 K3_1 K3_2 K3_3
  replace HB := Aside0.mk HB
  replace KB0 := Aside0.mk KB0
  replace KB1 := Aside0.mk KB1
  replace KB2 := Aside0.mk KB2
  replace KB3 := Aside0.mk KB3
  have c0_0 : V3.cell? ⟨w.heap.size, 0, none⟩ = some (.int .u64 x0) := (blk_cell KB0.out 0).trans rfl
  have c0_1 : V3.cell? ⟨w.heap.size, 1, none⟩ = some (.bool x1) := (blk_cell KB0.out 1).trans rfl
  have c0_2 : V3.cell? ⟨w.heap.size, 2, none⟩ = some (.int .u64 x2) := (blk_cell KB0.out 2).trans rfl
  have c0_3 : V3.cell? ⟨w.heap.size, 3, none⟩ = some (.bool x3) := (blk_cell KB0.out 3).trans rfl
  have c0_4 : V3.cell? ⟨w.heap.size, 4, none⟩ = some (.int .u64 x4) := (blk_cell KB0.out 4).trans rfl
  have c0_5 : V3.cell? ⟨w.heap.size, 5, none⟩ = some (.bool x5) := (blk_cell KB0.out 5).trans rfl
  have c0_6 : V3.cell? ⟨w.heap.size, 6, none⟩ = some (.int .u64 x6) := (blk_cell KB0.out 6).trans rfl
  have c0_7 : V3.cell? ⟨w.heap.size, 7, none⟩ = some (.bool x7) := (blk_cell KB0.out 7).trans rfl
  have c0_8 : V3.cell? ⟨w.heap.size, 8, none⟩ = some (.int .u64 x8) := (blk_cell KB0.out 8).trans rfl
  have c0_9 : V3.cell? ⟨w.heap.size, 9, none⟩ = some (.bool x9) := (blk_cell KB0.out 9).trans rfl
  have l0 := blk_lt KB0.out
  have c1_0 : V3.cell? ⟨w.heap.size + 1, 0, none⟩ = some (.int .u64 f0) := (blk_cell KB1.out 0).trans rfl
  have c1_1 : V3.cell? ⟨w.heap.size + 1, 1, none⟩ = some (.bool f1) := (blk_cell KB1.out 1).trans rfl
  have l1 := blk_lt KB1.out
  have c2_0 : V3.cell? ⟨V1.heap.size, 0, none⟩ = some (.int .u64 y0) := (blk_cell KB2.out 0).trans rfl
  have c2_1 : V3.cell? ⟨V1.heap.size, 1, none⟩ = some (.bool y1) := (blk_cell KB2.out 1).trans rfl
  have c2_2 : V3.cell? ⟨V1.heap.size, 2, none⟩ = some (.int .u64 y2) := (blk_cell KB2.out 2).trans rfl
  have c2_3 : V3.cell? ⟨V1.heap.size, 3, none⟩ = some (.bool y3) := (blk_cell KB2.out 3).trans rfl
  have c2_4 : V3.cell? ⟨V1.heap.size, 4, none⟩ = some (.int .u64 y4) := (blk_cell KB2.out 4).trans rfl
  have c2_5 : V3.cell? ⟨V1.heap.size, 5, none⟩ = some (.bool y5) := (blk_cell KB2.out 5).trans rfl
  have c2_6 : V3.cell? ⟨V1.heap.size, 6, none⟩ = some (.int .u64 y6) := (blk_cell KB2.out 6).trans rfl
  have c2_7 : V3.cell? ⟨V1.heap.size, 7, none⟩ = some (.bool y7) := (blk_cell KB2.out 7).trans rfl
  have c2_8 : V3.cell? ⟨V1.heap.size, 8, none⟩ = some (.int .u64 y8) := (blk_cell KB2.out 8).trans rfl
  have c2_9 : V3.cell? ⟨V1.heap.size, 9, none⟩ = some (.bool y9) := (blk_cell KB2.out 9).trans rfl
  have l2 := blk_lt KB2.out
  have c3_0 : V3.cell? ⟨V2.heap.size, 0, none⟩ = some (.int .u64 f0) := (blk_cell KB3.out 0).trans rfl
  have c3_1 : V3.cell? ⟨V2.heap.size, 1, none⟩ = some (.bool f1) := (blk_cell KB3.out 1).trans rfl
  have l3 := blk_lt KB3.out
  go_wp2_with fail
  clear c0_0 c0_1 c0_2 c0_3 c0_4 c0_5 c0_6 c0_7 c0_8 c0_9 l0 c1_0 c1_1 l1 c2_0 c2_1 c2_2 c2_3 c2_4 c2_5 c2_6 c2_7 c2_8 c2_9 l2 c3_0 c3_1 l3
  have HA := below_alloc HB.out (.cells #[.int .u64 u0, .bool u1] 24)
  have KA0 := blk_alloc KB0.out (.cells #[.int .u64 u0, .bool u1] 24)
  have KA1 := blk_alloc KB1.out (.cells #[.int .u64 u0, .bool u1] 24)
  have KA2 := blk_alloc KB2.out (.cells #[.int .u64 u0, .bool u1] 24)
  have KA3 := blk_alloc KB3.out (.cells #[.int .u64 u0, .bool u1] 24)
  have KA4 := blk_new V3 (.cells #[.int .u64 u0, .bool u1] 24)
  clear HB KB0 KB1 KB2 KB3
  refine Spc.gen (fun W => Below w.heap.size w W ∧ W.heap[w.heap.size]? = some (.cells #[.int .u64 x0, .bool x1, .int .u64 x2, .bool x3, .int .u64 x4, .bool x5, .int .u64 x6, .bool x7, .int .u64 x8, .bool x9] 26 (0, 0)) ∧ W.heap[w.heap.size + 1]? = some (.cells #[.int .u64 f0, .bool f1] 24 (0, 0)) ∧ W.heap[V1.heap.size]? = some (.cells #[.int .u64 y0, .bool y1, .int .u64 y2, .bool y3, .int .u64 y4, .bool y5, .int .u64 y6, .bool y7, .int .u64 y8, .bool y9] 26 (0, 0)) ∧ W.heap[V2.heap.size]? = some (.cells #[.int .u64 f0, .bool f1] 24 (0, 0)) ∧ W.heap[V3.heap.size]? = some (.cells #[.int .u64 u0, .bool u1] 24 (0, 0))) ⟨HA, KA0, KA1, KA2, KA3, KA4⟩ ?_
  clear HA KA0 KA1 KA2 KA3 KA4
  rintro W4 ⟨HB4, K4_0, K4_1, K4_2, K4_3, K4_4⟩
  refine (spec_With.calls y0 y1 y2 y3 y4 y5 y6 y7 y8 y9 other u0 u1 x0 x1 x2 x3 x4 x5 x6 x7 x8 x9 0 _ h4.out).mono ?_
  rintro e V4 ⟨rfl, hb⟩
  have HB := below_step HB4 hb
  have KB0 := blk_below K4_0 hb
  have KB1 := blk_below K4_1 hb
  have KB2 := blk_below K4_2 hb
  have KB3 := blk_below K4_3 hb
  have KB4 := blk_below K4_4 hb
  clear hb HB4 K4_0 K4_1 K4_2 K4_3 K4_4
  replace HB := Aside0.mk HB
  replace KB0 := Aside0.mk KB0
  replace KB1 := Aside0.mk KB1
  replace KB2 := Aside0.mk KB2
  replace KB3 := Aside0.mk KB3
  replace KB4 := Aside0.mk KB4
  have c0_0 : V4.cell? ⟨w.heap.size, 0, none⟩ = some (.int .u64 x0) := (blk_cell KB0.out 0).trans rfl
  have c0_1 : V4.cell? ⟨w.heap.size, 1, none⟩ = some (.bool x1) := (blk_cell KB0.out 1).trans rfl
  have c0_2 : V4.cell? ⟨w.heap.size, 2, none⟩ = some (.int .u64 x2) := (blk_cell KB0.out 2).trans rfl
  have c0_3 : V4.cell? ⟨w.heap.size, 3, none⟩ = some (.bool x3) := (blk_cell KB0.out 3).trans rfl
  have c0_4 : V4.cell? ⟨w.heap.size, 4, none⟩ = some (.int .u64 x4) := (blk_cell KB0.out 4).trans rfl
  have c0_5 : V4.cell? ⟨w.heap.size, 5, none⟩ = some (.bool x5) := (blk_cell KB0.out 5).trans rfl
  have c0_6 : V4.cell? ⟨w.heap.size, 6, none⟩ = some (.int .u64 x6) := (blk_cell KB0.out 6).trans rfl
  have c0_7 : V4.cell? ⟨w.heap.size, 7, none⟩ = some (.bool x7) := (blk_cell KB0.out 7).trans rfl
  have c0_8 : V4.cell? ⟨w.heap.size, 8, none⟩ = some (.int .u64 x8) := (blk_cell KB0.out 8).trans rfl
  have c0_9 : V4.cell? ⟨w.heap.size, 9, none⟩ = some (.bool x9) := (blk_cell KB0.out 9).trans rfl
  have l0 := blk_lt KB0.out
  have c1_0 : V4.cell? ⟨w.heap.size + 1, 0, none⟩ = some (.int .u64 f0) := (blk_cell KB1.out 0).trans rfl
  have c1_1 : V4.cell? ⟨w.heap.size + 1, 1, none⟩ = some (.bool f1) := (blk_cell KB1.out 1).trans rfl
  have l1 := blk_lt KB1.out
  have c2_0 : V4.cell? ⟨V1.heap.size, 0, none⟩ = some (.int .u64 y0) := (blk_cell KB2.out 0).trans rfl
  have c2_1 : V4.cell? ⟨V1.heap.size, 1, none⟩ = some (.bool y1) := (blk_cell KB2.out 1).trans rfl
  have c2_2 : V4.cell? ⟨V1.heap.size, 2, none⟩ = some (.int .u64 y2) := (blk_cell KB2.out 2).trans rfl
  have c2_3 : V4.cell? ⟨V1.heap.size, 3, none⟩ = some (.bool y3) := (blk_cell KB2.out 3).trans rfl
  have c2_4 : V4.cell? ⟨V1.heap.size, 4, none⟩ = some (.int .u64 y4) := (blk_cell KB2.out 4).trans rfl
  have c2_5 : V4.cell? ⟨V1.heap.size, 5, none⟩ = some (.bool y5) := (blk_cell KB2.out 5).trans rfl
  have c2_6 : V4.cell? ⟨V1.heap.size, 6, none⟩ = some (.int .u64 y6) := (blk_cell KB2.out 6).trans rfl
  have c2_7 : V4.cell? ⟨V1.heap.size, 7, none⟩ = some (.bool y7) := (blk_cell KB2.out 7).trans rfl
  have c2_8 : V4.cell? ⟨V1.heap.size, 8, none⟩ = some (.int .u64 y8) := (blk_cell KB2.out 8).trans rfl
  have c2_9 : V4.cell? ⟨V1.heap.size, 9, none⟩ = some (.bool y9) := (blk_cell KB2.out 9).trans rfl
  have l2 := blk_lt KB2.out
  have c3_0 : V4.cell? ⟨V2.heap.size, 0, none⟩ = some (.int .u64 f0) := (blk_cell KB3.out 0).trans rfl
  have c3_1 : V4.cell? ⟨V2.heap.size, 1, none⟩ = some (.bool f1) := (blk_cell KB3.out 1).trans rfl
  have l3 := blk_lt KB3.out
  have c4_0 : V4.cell? ⟨V3.heap.size, 0, none⟩ = some (.int .u64 u0) := (blk_cell KB4.out 0).trans rfl
  have c4_1 : V4.cell? ⟨V3.heap.size, 1, none⟩ = some (.bool u1) := (blk_cell KB4.out 1).trans rfl
  have l4 := blk_lt KB4.out
  go_wp2_with fail
  go_ret
  exact ⟨rfl, by first | exact HB.out | exact below_alloc HB.out _⟩
set_option maxHeartbeats 8000000 in
set_option maxRecDepth 100000 in
theorem Spc.puts_full (x0 : Int) (x1 : Bool) (x2 : Int) (x3 : Bool) (x4 : Int) (x5 : Bool) (x6 : Int) (x7 : Bool) (x8 : Int) (x9 : Bool) (kind other : Int) (f0 : Int) (f1 : Bool) (ka : 0 ≤ kind) (kb : kind ≤ 4) (y0 : Int) (y1 : Bool) (y2 : Int) (y3 : Bool) (y4 : Int) (y5 : Bool) (y6 : Int) (y7 : Bool) (y8 : Int) (y9 : Bool) (u0 : Int) (u1 : Bool) (h1 : spec_With.f x0 x1 x2 x3 x4 x5 x6 x7 x8 x9 kind f0 f1 = some (y0, y1, y2, y3, y4, y5, y6, y7, y8, y9, 0)) (h2 : spec_Get.f y0 y1 y2 y3 y4 y5 y6 y7 y8 y9 kind = some (f0, f1, 0)) (h3 : spec_Get.f x0 x1 x2 x3 x4 x5 x6 x7 x8 x9 kind = some (u0, u1, 0)) (h4 : spec_With.f y0 y1 y2 y3 y4 y5 y6 y7 y8 y9 kind u0 u1 = some (x0, x1, x2, x3, x4, x5, x6, x7, x8, x9, 0)) (oa : 0 ≤ other) (ob : other ≤ 4) (hne : other ≠ kind) (v0 : Int) (v1 : Bool) (h5 : spec_Get.f y0 y1 y2 y3 y4 y5 y6 y7 y8 y9 other = some (v0, v1, 0)) (h6 : spec_Get.f x0 x1 x2 x3 x4 x5 x6 x7 x8 x9 other = some (v0, v1, 0)) (w : World) (hT : Tab w) : Calls Tryd.prog 6 #[.agg #[.int .u64 x0, .bool x1, .int .u64 x2, .bool x3, .int .u64 x4, .bool x5, .int .u64 x6, .bool x7, .int .u64 x8, .bool x9], .int .i64 kind, .int .i64 other, .agg #[.int .u64 f0, .bool f1]] w fun e w' => e = .returned (.bool true) ∧ Below w.heap.size w w' := by
  have o0 : ¬ other < 0 := by omega
  have o4 : ¬ 4 < other := by omega
  replace oa := Lib.hid oa
  replace ob := Lib.hid ob
  have qe : (other == kind) = false := by simpa using hne
  clear hne
  have k0 : ¬ kind < 0 := by omega
  have k4 : ¬ 4 < kind := by omega
  replace ka := Lib.hid ka
  replace kb := Lib.hid kb
  replace h1 := Lib.hid h1
  replace h2 := Lib.hid h2
  replace h3 := Lib.hid h3
  replace h4 := Lib.hid h4
  replace h5 := Lib.hid h5
  replace h6 := Lib.hid h6
  have eqF := Spc.eqF
  have eqS := Spc.eqS
  replace hT := Aside0.mk hT
  have HA := below_alloc (below_alloc (Below.refl w.heap.size w) (.cells #[.int .u64 x0, .bool x1, .int .u64 x2, .bool x3, .int .u64 x4, .bool x5, .int .u64 x6, .bool x7, .int .u64 x8, .bool x9] 26)) (.cells #[.int .u64 f0, .bool f1] 24)
  have KA0 := blk_alloc (blk_new w (.cells #[.int .u64 x0, .bool x1, .int .u64 x2, .bool x3, .int .u64 x4, .bool x5, .int .u64 x6, .bool x7, .int .u64 x8, .bool x9] 26)) (.cells #[.int .u64 f0, .bool f1] 24)
  have KA1 : ((w.alloc (.cells #[.int .u64 x0, .bool x1, .int .u64 x2, .bool x3, .int .u64 x4, .bool x5, .int .u64 x6, .bool x7, .int .u64 x8, .bool x9] 26)).alloc (.cells #[.int .u64 f0, .bool f1] 24)).heap[w.heap.size + 1]? = some (.cells #[.int .u64 f0, .bool f1] 24 (0, 0)) := by
    have := heap_alloc_new (w.alloc (.cells #[.int .u64 x0, .bool x1, .int .u64 x2, .bool x3, .int .u64 x4, .bool x5, .int .u64 x6, .bool x7, .int .u64 x8, .bool x9] 26)) (.cells #[.int .u64 f0, .bool f1] 24)
    simpa using this
  go_enter Tryd.func6, Tryd.ntmps6
  go_wp2_with fail
  refine Spc.gen (fun W => Below w.heap.size w W ∧ W.heap[w.heap.size]? = some (.cells #[.int .u64 x0, .bool x1, .int .u64 x2, .bool x3, .int .u64 x4, .bool x5, .int .u64 x6, .bool x7, .int .u64 x8, .bool x9] 26 (0, 0)) ∧ W.heap[w.heap.size + 1]? = some (.cells #[.int .u64 f0, .bool f1] 24 (0, 0))) ⟨HA, KA0, KA1⟩ ?_
  clear HA KA0 KA1
  rintro W0 ⟨HB0, K0_0, K0_1⟩
  have hTk := hT.out.keep HB0
  refine (complinelaw19_works.calls true _ hTk rfl).mono ?_
  rintro e V0 ⟨rfl, hb⟩
  have HB := below_step HB0 hb
  clear hTk
  have KB0 := blk_below K0_0 hb
  have KB1 := blk_below K0_1 hb
  clear hb HB0 K0_0 K0_1
  replace HB := Aside0.mk HB
  replace KB0 := Aside0.mk KB0
  replace KB1 := Aside0.mk KB1
  have c0_0 : V0.cell? ⟨w.heap.size, 0, none⟩ = some (.int .u64 x0) := (blk_cell KB0.out 0).trans rfl
  have c0_1 : V0.cell? ⟨w.heap.size, 1, none⟩ = some (.bool x1) := (blk_cell KB0.out 1).trans rfl
  have c0_2 : V0.cell? ⟨w.heap.size, 2, none⟩ = some (.int .u64 x2) := (blk_cell KB0.out 2).trans rfl
  have c0_3 : V0.cell? ⟨w.heap.size, 3, none⟩ = some (.bool x3) := (blk_cell KB0.out 3).trans rfl
  have c0_4 : V0.cell? ⟨w.heap.size, 4, none⟩ = some (.int .u64 x4) := (blk_cell KB0.out 4).trans rfl
  have c0_5 : V0.cell? ⟨w.heap.size, 5, none⟩ = some (.bool x5) := (blk_cell KB0.out 5).trans rfl
  have c0_6 : V0.cell? ⟨w.heap.size, 6, none⟩ = some (.int .u64 x6) := (blk_cell KB0.out 6).trans rfl
  have c0_7 : V0.cell? ⟨w.heap.size, 7, none⟩ = some (.bool x7) := (blk_cell KB0.out 7).trans rfl
  have c0_8 : V0.cell? ⟨w.heap.size, 8, none⟩ = some (.int .u64 x8) := (blk_cell KB0.out 8).trans rfl
  have c0_9 : V0.cell? ⟨w.heap.size, 9, none⟩ = some (.bool x9) := (blk_cell KB0.out 9).trans rfl
  have l0 := blk_lt KB0.out
  have c1_0 : V0.cell? ⟨w.heap.size + 1, 0, none⟩ = some (.int .u64 f0) := (blk_cell KB1.out 0).trans rfl
  have c1_1 : V0.cell? ⟨w.heap.size + 1, 1, none⟩ = some (.bool f1) := (blk_cell KB1.out 1).trans rfl
  have l1 := blk_lt KB1.out
  go_wp2_with fail
  clear c0_0 c0_1 c0_2 c0_3 c0_4 c0_5 c0_6 c0_7 c0_8 c0_9 l0 c1_0 c1_1 l1
  have HA := HB.out
  have KA0 := KB0.out
  have KA1 := KB1.out
  clear HB KB0 KB1
  refine Spc.gen (fun W => Below w.heap.size w W ∧ W.heap[w.heap.size]? = some (.cells #[.int .u64 x0, .bool x1, .int .u64 x2, .bool x3, .int .u64 x4, .bool x5, .int .u64 x6, .bool x7, .int .u64 x8, .bool x9] 26 (0, 0)) ∧ W.heap[w.heap.size + 1]? = some (.cells #[.int .u64 f0, .bool f1] 24 (0, 0))) ⟨HA, KA0, KA1⟩ ?_
  clear HA KA0 KA1
  rintro W1 ⟨HB1, K1_0, K1_1⟩
  refine (spec_With.calls x0 x1 x2 x3 x4 x5 x6 x7 x8 x9 kind f0 f1 y0 y1 y2 y3 y4 y5 y6 y7 y8 y9 0 _ h1.out).mono ?_
  rintro e V1 ⟨rfl, hb⟩
  have HB := below_step HB1 hb
  have KB0 := blk_below K1_0 hb
  have KB1 := blk_below K1_1 hb
  clear hb HB1 K1_0 K1_1
  replace HB := Aside0.mk HB
  replace KB0 := Aside0.mk KB0
  replace KB1 := Aside0.mk KB1
  have c0_0 : V1.cell? ⟨w.heap.size, 0, none⟩ = some (.int .u64 x0) := (blk_cell KB0.out 0).trans rfl
  have c0_1 : V1.cell? ⟨w.heap.size, 1, none⟩ = some (.bool x1) := (blk_cell KB0.out 1).trans rfl
  have c0_2 : V1.cell? ⟨w.heap.size, 2, none⟩ = some (.int .u64 x2) := (blk_cell KB0.out 2).trans rfl
  have c0_3 : V1.cell? ⟨w.heap.size, 3, none⟩ = some (.bool x3) := (blk_cell KB0.out 3).trans rfl
  have c0_4 : V1.cell? ⟨w.heap.size, 4, none⟩ = some (.int .u64 x4) := (blk_cell KB0.out 4).trans rfl
  have c0_5 : V1.cell? ⟨w.heap.size, 5, none⟩ = some (.bool x5) := (blk_cell KB0.out 5).trans rfl
  have c0_6 : V1.cell? ⟨w.heap.size, 6, none⟩ = some (.int .u64 x6) := (blk_cell KB0.out 6).trans rfl
  have c0_7 : V1.cell? ⟨w.heap.size, 7, none⟩ = some (.bool x7) := (blk_cell KB0.out 7).trans rfl
  have c0_8 : V1.cell? ⟨w.heap.size, 8, none⟩ = some (.int .u64 x8) := (blk_cell KB0.out 8).trans rfl
  have c0_9 : V1.cell? ⟨w.heap.size, 9, none⟩ = some (.bool x9) := (blk_cell KB0.out 9).trans rfl
  have l0 := blk_lt KB0.out
  have c1_0 : V1.cell? ⟨w.heap.size + 1, 0, none⟩ = some (.int .u64 f0) := (blk_cell KB1.out 0).trans rfl
  have c1_1 : V1.cell? ⟨w.heap.size + 1, 1, none⟩ = some (.bool f1) := (blk_cell KB1.out 1).trans rfl
  have l1 := blk_lt KB1.out
  go_wp2_with fail
  clear c0_0 c0_1 c0_2 c0_3 c0_4 c0_5 c0_6 c0_7 c0_8 c0_9 l0 c1_0 c1_1 l1
  have HA := below_alloc HB.out (.cells #[.int .u64 y0, .bool y1, .int .u64 y2, .bool y3, .int .u64 y4, .bool y5, .int .u64 y6, .bool y7, .int .u64 y8, .bool y9] 26)
  have KA0 := blk_alloc KB0.out (.cells #[.int .u64 y0, .bool y1, .int .u64 y2, .bool y3, .int .u64 y4, .bool y5, .int .u64 y6, .bool y7, .int .u64 y8, .bool y9] 26)
  have KA1 := blk_alloc KB1.out (.cells #[.int .u64 y0, .bool y1, .int .u64 y2, .bool y3, .int .u64 y4, .bool y5, .int .u64 y6, .bool y7, .int .u64 y8, .bool y9] 26)
  have KA2 := blk_new V1 (.cells #[.int .u64 y0, .bool y1, .int .u64 y2, .bool y3, .int .u64 y4, .bool y5, .int .u64 y6, .bool y7, .int .u64 y8, .bool y9] 26)
  clear HB KB0 KB1
  refine Spc.gen (fun W => Below w.heap.size w W ∧ W.heap[w.heap.size]? = some (.cells #[.int .u64 x0, .bool x1, .int .u64 x2, .bool x3, .int .u64 x4, .bool x5, .int .u64 x6, .bool x7, .int .u64 x8, .bool x9] 26 (0, 0)) ∧ W.heap[w.heap.size + 1]? = some (.cells #[.int .u64 f0, .bool f1] 24 (0, 0)) ∧ W.heap[V1.heap.size]? = some (.cells #[.int .u64 y0, .bool y1, .int .u64 y2, .bool y3, .int .u64 y4, .bool y5, .int .u64 y6, .bool y7, .int .u64 y8, .bool y9] 26 (0, 0))) ⟨HA, KA0, KA1, KA2⟩ ?_
  clear HA KA0 KA1 KA2
  rintro W2 ⟨HB2, K2_0, K2_1, K2_2⟩
  refine (spec_Get.calls y0 y1 y2 y3 y4 y5 y6 y7 y8 y9 kind f0 f1 0 _ h2.out).mono ?_
  rintro e V2 ⟨rfl, hb⟩
  have HB := below_step HB2 hb
  have KB0 := blk_below K2_0 hb
  have KB1 := blk_below K2_1 hb
  have KB2 := blk_below K2_2 hb
  clear hb HB2 K2_0 K2_1 K2_2
  replace HB := Aside0.mk HB
  replace KB0 := Aside0.mk KB0
  replace KB1 := Aside0.mk KB1
  replace KB2 := Aside0.mk KB2
  have c0_0 : V2.cell? ⟨w.heap.size, 0, none⟩ = some (.int .u64 x0) := (blk_cell KB0.out 0).trans rfl
  have c0_1 : V2.cell? ⟨w.heap.size, 1, none⟩ = some (.bool x1) := (blk_cell KB0.out 1).trans rfl
  have c0_2 : V2.cell? ⟨w.heap.size, 2, none⟩ = some (.int .u64 x2) := (blk_cell KB0.out 2).trans rfl
  have c0_3 : V2.cell? ⟨w.heap.size, 3, none⟩ = some (.bool x3) := (blk_cell KB0.out 3).trans rfl
  have c0_4 : V2.cell? ⟨w.heap.size, 4, none⟩ = some (.int .u64 x4) := (blk_cell KB0.out 4).trans rfl
  have c0_5 : V2.cell? ⟨w.heap.size, 5, none⟩ = some (.bool x5) := (blk_cell KB0.out 5).trans rfl
  have c0_6 : V2.cell? ⟨w.heap.size, 6, none⟩ = some (.int .u64 x6) := (blk_cell KB0.out 6).trans rfl
  have c0_7 : V2.cell? ⟨w.heap.size, 7, none⟩ = some (.bool x7) := (blk_cell KB0.out 7).trans rfl
  have c0_8 : V2.cell? ⟨w.heap.size, 8, none⟩ = some (.int .u64 x8) := (blk_cell KB0.out 8).trans rfl
  have c0_9 : V2.cell? ⟨w.heap.size, 9, none⟩ = some (.bool x9) := (blk_cell KB0.out 9).trans rfl
  have l0 := blk_lt KB0.out
  have c1_0 : V2.cell? ⟨w.heap.size + 1, 0, none⟩ = some (.int .u64 f0) := (blk_cell KB1.out 0).trans rfl
  have c1_1 : V2.cell? ⟨w.heap.size + 1, 1, none⟩ = some (.bool f1) := (blk_cell KB1.out 1).trans rfl
  have l1 := blk_lt KB1.out
  have c2_0 : V2.cell? ⟨V1.heap.size, 0, none⟩ = some (.int .u64 y0) := (blk_cell KB2.out 0).trans rfl
  have c2_1 : V2.cell? ⟨V1.heap.size, 1, none⟩ = some (.bool y1) := (blk_cell KB2.out 1).trans rfl
  have c2_2 : V2.cell? ⟨V1.heap.size, 2, none⟩ = some (.int .u64 y2) := (blk_cell KB2.out 2).trans rfl
  have c2_3 : V2.cell? ⟨V1.heap.size, 3, none⟩ = some (.bool y3) := (blk_cell KB2.out 3).trans rfl
  have c2_4 : V2.cell? ⟨V1.heap.size, 4, none⟩ = some (.int .u64 y4) := (blk_cell KB2.out 4).trans rfl
  have c2_5 : V2.cell? ⟨V1.heap.size, 5, none⟩ = some (.bool y5) := (blk_cell KB2.out 5).trans rfl
  have c2_6 : V2.cell? ⟨V1.heap.size, 6, none⟩ = some (.int .u64 y6) := (blk_cell KB2.out 6).trans rfl
  have c2_7 : V2.cell? ⟨V1.heap.size, 7, none⟩ = some (.bool y7) := (blk_cell KB2.out 7).trans rfl
  have c2_8 : V2.cell? ⟨V1.heap.size, 8, none⟩ = some (.int .u64 y8) := (blk_cell KB2.out 8).trans rfl
  have c2_9 : V2.cell? ⟨V1.heap.size, 9, none⟩ = some (.bool y9) := (blk_cell KB2.out 9).trans rfl
  have l2 := blk_lt KB2.out
  go_wp2_with fail
  clear c0_0 c0_1 c0_2 c0_3 c0_4 c0_5 c0_6 c0_7 c0_8 c0_9 l0 c1_0 c1_1 l1 c2_0 c2_1 c2_2 c2_3 c2_4 c2_5 c2_6 c2_7 c2_8 c2_9 l2
  have HA := below_alloc HB.out (.cells #[.int .u64 f0, .bool f1] 24)
  have KA0 := blk_alloc KB0.out (.cells #[.int .u64 f0, .bool f1] 24)
  have KA1 := blk_alloc KB1.out (.cells #[.int .u64 f0, .bool f1] 24)
  have KA2 := blk_alloc KB2.out (.cells #[.int .u64 f0, .bool f1] 24)
  have KA3 := blk_new V2 (.cells #[.int .u64 f0, .bool f1] 24)
  clear HB KB0 KB1 KB2
  refine Spc.gen (fun W => Below w.heap.size w W ∧ W.heap[w.heap.size]? = some (.cells #[.int .u64 x0, .bool x1, .int .u64 x2, .bool x3, .int .u64 x4, .bool x5, .int .u64 x6, .bool x7, .int .u64 x8, .bool x9] 26 (0, 0)) ∧ W.heap[w.heap.size + 1]? = some (.cells #[.int .u64 f0, .bool f1] 24 (0, 0)) ∧ W.heap[V1.heap.size]? = some (.cells #[.int .u64 y0, .bool y1, .int .u64 y2, .bool y3, .int .u64 y4, .bool y5, .int .u64 y6, .bool y7, .int .u64 y8, .bool y9] 26 (0, 0)) ∧ W.heap[V2.heap.size]? = some (.cells #[.int .u64 f0, .bool f1] 24 (0, 0))) ⟨HA, KA0, KA1, KA2, KA3⟩ ?_
  clear HA KA0 KA1 KA2 KA3
  rintro W3 ⟨HB3, K3_0, K3_1, K3_2, K3_3⟩
  refine (spec_Get.calls x0 x1 x2 x3 x4 x5 x6 x7 x8 x9 kind u0 u1 0 _ h3.out).mono ?_
  rintro e V3 ⟨rfl, hb⟩
  have HB := below_step HB3 hb
  have KB0 := blk_below K3_0 hb
  have KB1 := blk_below K3_1 hb
  have KB2 := blk_below K3_2 hb
  have KB3 := blk_below K3_3 hb
  clear hb HB3 K3_0 K3_1 K3_2 K3_3
  replace HB := Aside0.mk HB
  replace KB0 := Aside0.mk KB0
  replace KB1 := Aside0.mk KB1
  replace KB2 := Aside0.mk KB2
  replace KB3 := Aside0.mk KB3
  have c0_0 : V3.cell? ⟨w.heap.size, 0, none⟩ = some (.int .u64 x0) := (blk_cell KB0.out 0).trans rfl
  have c0_1 : V3.cell? ⟨w.heap.size, 1, none⟩ = some (.bool x1) := (blk_cell KB0.out 1).trans rfl
  have c0_2 : V3.cell? ⟨w.heap.size, 2, none⟩ = some (.int .u64 x2) := (blk_cell KB0.out 2).trans rfl
  have c0_3 : V3.cell? ⟨w.heap.size, 3, none⟩ = some (.bool x3) := (blk_cell KB0.out 3).trans rfl
  have c0_4 : V3.cell? ⟨w.heap.size, 4, none⟩ = some (.int .u64 x4) := (blk_cell KB0.out 4).trans rfl
  have c0_5 : V3.cell? ⟨w.heap.size, 5, none⟩ = some (.bool x5) := (blk_cell KB0.out 5).trans rfl
  have c0_6 : V3.cell? ⟨w.heap.size, 6, none⟩ = some (.int .u64 x6) := (blk_cell KB0.out 6).trans rfl
  have c0_7 : V3.cell? ⟨w.heap.size, 7, none⟩ = some (.bool x7) := (blk_cell KB0.out 7).trans rfl
  have c0_8 : V3.cell? ⟨w.heap.size, 8, none⟩ = some (.int .u64 x8) := (blk_cell KB0.out 8).trans rfl
  have c0_9 : V3.cell? ⟨w.heap.size, 9, none⟩ = some (.bool x9) := (blk_cell KB0.out 9).trans rfl
  have l0 := blk_lt KB0.out
  have c1_0 : V3.cell? ⟨w.heap.size + 1, 0, none⟩ = some (.int .u64 f0) := (blk_cell KB1.out 0).trans rfl
  have c1_1 : V3.cell? ⟨w.heap.size + 1, 1, none⟩ = some (.bool f1) := (blk_cell KB1.out 1).trans rfl
  have l1 := blk_lt KB1.out
  have c2_0 : V3.cell? ⟨V1.heap.size, 0, none⟩ = some (.int .u64 y0) := (blk_cell KB2.out 0).trans rfl
  have c2_1 : V3.cell? ⟨V1.heap.size, 1, none⟩ = some (.bool y1) := (blk_cell KB2.out 1).trans rfl
  have c2_2 : V3.cell? ⟨V1.heap.size, 2, none⟩ = some (.int .u64 y2) := (blk_cell KB2.out 2).trans rfl
  have c2_3 : V3.cell? ⟨V1.heap.size, 3, none⟩ = some (.bool y3) := (blk_cell KB2.out 3).trans rfl
  have c2_4 : V3.cell? ⟨V1.heap.size, 4, none⟩ = some (.int .u64 y4) := (blk_cell KB2.out 4).trans rfl
  have c2_5 : V3.cell? ⟨V1.heap.size, 5, none⟩ = some (.bool y5) := (blk_cell KB2.out 5).trans rfl
  have c2_6 : V3.cell? ⟨V1.heap.size, 6, none⟩ = some (.int .u64 y6) := (blk_cell KB2.out 6).trans rfl
  have c2_7 : V3.cell? ⟨V1.heap.size, 7, none⟩ = some (.bool y7) := (blk_cell KB2.out 7).trans rfl
  have c2_8 : V3.cell? ⟨V1.heap.size, 8, none⟩ = some (.int .u64 y8) := (blk_cell KB2.out 8).trans rfl
  have c2_9 : V3.cell? ⟨V1.heap.size, 9, none⟩ = some (.bool y9) := (blk_cell KB2.out 9).trans rfl
  have l2 := blk_lt KB2.out
  have c3_0 : V3.cell? ⟨V2.heap.size, 0, none⟩ = some (.int .u64 f0) := (blk_cell KB3.out 0).trans rfl
  have c3_1 : V3.cell? ⟨V2.heap.size, 1, none⟩ = some (.bool f1) := (blk_cell KB3.out 1).trans rfl
  have l3 := blk_lt KB3.out
  go_wp2_with fail
  clear c0_0 c0_1 c0_2 c0_3 c0_4 c0_5 c0_6 c0_7 c0_8 c0_9 l0 c1_0 c1_1 l1 c2_0 c2_1 c2_2 c2_3 c2_4 c2_5 c2_6 c2_7 c2_8 c2_9 l2 c3_0 c3_1 l3
  have HA := below_alloc HB.out (.cells #[.int .u64 u0, .bool u1] 24)
  have KA0 := blk_alloc KB0.out (.cells #[.int .u64 u0, .bool u1] 24)
  have KA1 := blk_alloc KB1.out (.cells #[.int .u64 u0, .bool u1] 24)
  have KA2 := blk_alloc KB2.out (.cells #[.int .u64 u0, .bool u1] 24)
  have KA3 := blk_alloc KB3.out (.cells #[.int .u64 u0, .bool u1] 24)
  have KA4 := blk_new V3 (.cells #[.int .u64 u0, .bool u1] 24)
  clear HB KB0 KB1 KB2 KB3
  refine Spc.gen (fun W => Below w.heap.size w W ∧ W.heap[w.heap.size]? = some (.cells #[.int .u64 x0, .bool x1, .int .u64 x2, .bool x3, .int .u64 x4, .bool x5, .int .u64 x6, .bool x7, .int .u64 x8, .bool x9] 26 (0, 0)) ∧ W.heap[w.heap.size + 1]? = some (.cells #[.int .u64 f0, .bool f1] 24 (0, 0)) ∧ W.heap[V1.heap.size]? = some (.cells #[.int .u64 y0, .bool y1, .int .u64 y2, .bool y3, .int .u64 y4, .bool y5, .int .u64 y6, .bool y7, .int .u64 y8, .bool y9] 26 (0, 0)) ∧ W.heap[V2.heap.size]? = some (.cells #[.int .u64 f0, .bool f1] 24 (0, 0)) ∧ W.heap[V3.heap.size]? = some (.cells #[.int .u64 u0, .bool u1] 24 (0, 0))) ⟨HA, KA0, KA1, KA2, KA3, KA4⟩ ?_
  clear HA KA0 KA1 KA2 KA3 KA4
  rintro W4 ⟨HB4, K4_0, K4_1, K4_2, K4_3, K4_4⟩
  refine (spec_With.calls y0 y1 y2 y3 y4 y5 y6 y7 y8 y9 kind u0 u1 x0 x1 x2 x3 x4 x5 x6 x7 x8 x9 0 _ h4.out).mono ?_
  rintro e V4 ⟨rfl, hb⟩
  have HB := below_step HB4 hb
  have KB0 := blk_below K4_0 hb
  have KB1 := blk_below K4_1 hb
  have KB2 := blk_below K4_2 hb
  have KB3 := blk_below K4_3 hb
  have KB4 := blk_below K4_4 hb
  clear hb HB4 K4_0 K4_1 K4_2 K4_3 K4_4
  replace HB := Aside0.mk HB
  replace KB0 := Aside0.mk KB0
  replace KB1 := Aside0.mk KB1
  replace KB2 := Aside0.mk KB2
  replace KB3 := Aside0.mk KB3
  replace KB4 := Aside0.mk KB4
  have c0_0 : V4.cell? ⟨w.heap.size, 0, none⟩ = some (.int .u64 x0) := (blk_cell KB0.out 0).trans rfl
  have c0_1 : V4.cell? ⟨w.heap.size, 1, none⟩ = some (.bool x1) := (blk_cell KB0.out 1).trans rfl
  have c0_2 : V4.cell? ⟨w.heap.size, 2, none⟩ = some (.int .u64 x2) := (blk_cell KB0.out 2).trans rfl
  have c0_3 : V4.cell? ⟨w.heap.size, 3, none⟩ = some (.bool x3) := (blk_cell KB0.out 3).trans rfl
  have c0_4 : V4.cell? ⟨w.heap.size, 4, none⟩ = some (.int .u64 x4) := (blk_cell KB0.out 4).trans rfl
  have c0_5 : V4.cell? ⟨w.heap.size, 5, none⟩ = some (.bool x5) := (blk_cell KB0.out 5).trans rfl
  have c0_6 : V4.cell? ⟨w.heap.size, 6, none⟩ = some (.int .u64 x6) := (blk_cell KB0.out 6).trans rfl
  have c0_7 : V4.cell? ⟨w.heap.size, 7, none⟩ = some (.bool x7) := (blk_cell KB0.out 7).trans rfl
  have c0_8 : V4.cell? ⟨w.heap.size, 8, none⟩ = some (.int .u64 x8) := (blk_cell KB0.out 8).trans rfl
  have c0_9 : V4.cell? ⟨w.heap.size, 9, none⟩ = some (.bool x9) := (blk_cell KB0.out 9).trans rfl
  have l0 := blk_lt KB0.out
  have c1_0 : V4.cell? ⟨w.heap.size + 1, 0, none⟩ = some (.int .u64 f0) := (blk_cell KB1.out 0).trans rfl
  have c1_1 : V4.cell? ⟨w.heap.size + 1, 1, none⟩ = some (.bool f1) := (blk_cell KB1.out 1).trans rfl
  have l1 := blk_lt KB1.out
  have c2_0 : V4.cell? ⟨V1.heap.size, 0, none⟩ = some (.int .u64 y0) := (blk_cell KB2.out 0).trans rfl
  have c2_1 : V4.cell? ⟨V1.heap.size, 1, none⟩ = some (.bool y1) := (blk_cell KB2.out 1).trans rfl
  have c2_2 : V4.cell? ⟨V1.heap.size, 2, none⟩ = some (.int .u64 y2) := (blk_cell KB2.out 2).trans rfl
  have c2_3 : V4.cell? ⟨V1.heap.size, 3, none⟩ = some (.bool y3) := (blk_cell KB2.out 3).trans rfl
  have c2_4 : V4.cell? ⟨V1.heap.size, 4, none⟩ = some (.int .u64 y4) := (blk_cell KB2.out 4).trans rfl
  have c2_5 : V4.cell? ⟨V1.heap.size, 5, none⟩ = some (.bool y5) := (blk_cell KB2.out 5).trans rfl
  have c2_6 : V4.cell? ⟨V1.heap.size, 6, none⟩ = some (.int .u64 y6) := (blk_cell KB2.out 6).trans rfl
  have c2_7 : V4.cell? ⟨V1.heap.size, 7, none⟩ = some (.bool y7) := (blk_cell KB2.out 7).trans rfl
  have c2_8 : V4.cell? ⟨V1.heap.size, 8, none⟩ = some (.int .u64 y8) := (blk_cell KB2.out 8).trans rfl
  have c2_9 : V4.cell? ⟨V1.heap.size, 9, none⟩ = some (.bool y9) := (blk_cell KB2.out 9).trans rfl
  have l2 := blk_lt KB2.out
  have c3_0 : V4.cell? ⟨V2.heap.size, 0, none⟩ = some (.int .u64 f0) := (blk_cell KB3.out 0).trans rfl
  have c3_1 : V4.cell? ⟨V2.heap.size, 1, none⟩ = some (.bool f1) := (blk_cell KB3.out 1).trans rfl
  have l3 := blk_lt KB3.out
  have c4_0 : V4.cell? ⟨V3.heap.size, 0, none⟩ = some (.int .u64 u0) := (blk_cell KB4.out 0).trans rfl
  have c4_1 : V4.cell? ⟨V3.heap.size, 1, none⟩ = some (.bool u1) := (blk_cell KB4.out 1).trans rfl
  have l4 := blk_lt KB4.out
  go_wp2_with fail
  clear c0_0 c0_1 c0_2 c0_3 c0_4 c0_5 c0_6 c0_7 c0_8 c0_9 l0 c1_0 c1_1 l1 c2_0 c2_1 c2_2 c2_3 c2_4 c2_5 c2_6 c2_7 c2_8 c2_9 l2 c3_0 c3_1 l3 c4_0 c4_1 l4
  have HA := below_alloc HB.out (.cells #[.int .u64 x0, .bool x1, .int .u64 x2, .bool x3, .int .u64 x4, .bool x5, .int .u64 x6, .bool x7, .int .u64 x8, .bool x9] 26)
  have KA0 := blk_alloc KB0.out (.cells #[.int .u64 x0, .bool x1, .int .u64 x2, .bool x3, .int .u64 x4, .bool x5, .int .u64 x6, .bool x7, .int .u64 x8, .bool x9] 26)
  have KA1 := blk_alloc KB1.out (.cells #[.int .u64 x0, .bool x1, .int .u64 x2, .bool x3, .int .u64 x4, .bool x5, .int .u64 x6, .bool x7, .int .u64 x8, .bool x9] 26)
  have KA2 := blk_alloc KB2.out (.cells #[.int .u64 x0, .bool x1, .int .u64 x2, .bool x3, .int .u64 x4, .bool x5, .int .u64 x6, .bool x7, .int .u64 x8, .bool x9] 26)
  have KA3 := blk_alloc KB3.out (.cells #[.int .u64 x0, .bool x1, .int .u64 x2, .bool x3, .int .u64 x4, .bool x5, .int .u64 x6, .bool x7, .int .u64 x8, .bool x9] 26)
  have KA4 := blk_alloc KB4.out (.cells #[.int .u64 x0, .bool x1, .int .u64 x2, .bool x3, .int .u64 x4, .bool x5, .int .u64 x6, .bool x7, .int .u64 x8, .bool x9] 26)
  have KA5 := blk_new V4 (.cells #[.int .u64 x0, .bool x1, .int .u64 x2, .bool x3, .int .u64 x4, .bool x5, .int .u64 x6, .bool x7, .int .u64 x8, .bool x9] 26)
  clear HB KB0 KB1 KB2 KB3 KB4
  refine Spc.gen (fun W => Below w.heap.size w W ∧ W.heap[w.heap.size]? = some (.cells #[.int .u64 x0, .bool x1, .int .u64 x2, .bool x3, .int .u64 x4, .bool x5, .int .u64 x6, .bool x7, .int .u64 x8, .bool x9] 26 (0, 0)) ∧ W.heap[w.heap.size + 1]? = some (.cells #[.int .u64 f0, .bool f1] 24 (0, 0)) ∧ W.heap[V1.heap.size]? = some (.cells #[.int .u64 y0, .bool y1, .int .u64 y2, .bool y3, .int .u64 y4, .bool y5, .int .u64 y6, .bool y7, .int .u64 y8, .bool y9] 26 (0, 0)) ∧ W.heap[V2.heap.size]? = some (.cells #[.int .u64 f0, .bool f1] 24 (0, 0)) ∧ W.heap[V3.heap.size]? = some (.cells #[.int .u64 u0, .bool u1] 24 (0, 0)) ∧ W.heap[V4.heap.size]? = some (.cells #[.int .u64 x0, .bool x1, .int .u64 x2, .bool x3, .int .u64 x4, .bool x5, .int .u64 x6, .bool x7, .int .u64 x8, .bool x9] 26 (0, 0))) ⟨HA, KA0, KA1, KA2, KA3, KA4, KA5⟩ ?_
  clear HA KA0 KA1 KA2 KA3 KA4 KA5
  rintro W5 ⟨HB5, K5_0, K5_1, K5_2, K5_3, K5_4, K5_5⟩
  refine (spec_Get.calls y0 y1 y2 y3 y4 y5 y6 y7 y8 y9 other v0 v1 0 _ h5.out).mono ?_
  rintro e V5 ⟨rfl, hb⟩
  have HB := below_step HB5 hb
  have KB0 := blk_below K5_0 hb
  have KB1 := blk_below K5_1 hb
  have KB2 := blk_below K5_2 hb
  have KB3 := blk_below K5_3 hb
  have KB4 := blk_below K5_4 hb
  have KB5 := blk_below K5_5 hb
  clear hb HB5 K5_0 K5_1 K5_2 K5_3 K5_4 K5_5
  replace HB := Aside0.mk HB
  replace KB0 := Aside0.mk KB0
  replace KB1 := Aside0.mk KB1
  replace KB2 := Aside0.mk KB2
  replace KB3 := Aside0.mk KB3
  replace KB4 := Aside0.mk KB4
  replace KB5 := Aside0.mk KB5
  have c0_0 : V5.cell? ⟨w.heap.size, 0, none⟩ = some (.int .u64 x0) := (blk_cell KB0.out 0).trans rfl
  have c0_1 : V5.cell? ⟨w.heap.size, 1, none⟩ = some (.bool x1) := (blk_cell KB0.out 1).trans rfl
  have c0_2 : V5.cell? ⟨w.heap.size, 2, none⟩ = some (.int .u64 x2) := (blk_cell KB0.out 2).trans rfl
  have c0_3 : V5.cell? ⟨w.heap.size, 3, none⟩ = some (.bool x3) := (blk_cell KB0.out 3).trans rfl
  have c0_4 : V5.cell? ⟨w.heap.size, 4, none⟩ = some (.int .u64 x4) := (blk_cell KB0.out 4).trans rfl
  have c0_5 : V5.cell? ⟨w.heap.size, 5, none⟩ = some (.bool x5) := (blk_cell KB0.out 5).trans rfl
  have c0_6 : V5.cell? ⟨w.heap.size, 6, none⟩ = some (.int .u64 x6) := (blk_cell KB0.out 6).trans rfl
  have c0_7 : V5.cell? ⟨w.heap.size, 7, none⟩ = some (.bool x7) := (blk_cell KB0.out 7).trans rfl
  have c0_8 : V5.cell? ⟨w.heap.size, 8, none⟩ = some (.int .u64 x8) := (blk_cell KB0.out 8).trans rfl
  have c0_9 : V5.cell? ⟨w.heap.size, 9, none⟩ = some (.bool x9) := (blk_cell KB0.out 9).trans rfl
  have l0 := blk_lt KB0.out
  have c1_0 : V5.cell? ⟨w.heap.size + 1, 0, none⟩ = some (.int .u64 f0) := (blk_cell KB1.out 0).trans rfl
  have c1_1 : V5.cell? ⟨w.heap.size + 1, 1, none⟩ = some (.bool f1) := (blk_cell KB1.out 1).trans rfl
  have l1 := blk_lt KB1.out
  have c2_0 : V5.cell? ⟨V1.heap.size, 0, none⟩ = some (.int .u64 y0) := (blk_cell KB2.out 0).trans rfl
  have c2_1 : V5.cell? ⟨V1.heap.size, 1, none⟩ = some (.bool y1) := (blk_cell KB2.out 1).trans rfl
  have c2_2 : V5.cell? ⟨V1.heap.size, 2, none⟩ = some (.int .u64 y2) := (blk_cell KB2.out 2).trans rfl
  have c2_3 : V5.cell? ⟨V1.heap.size, 3, none⟩ = some (.bool y3) := (blk_cell KB2.out 3).trans rfl
  have c2_4 : V5.cell? ⟨V1.heap.size, 4, none⟩ = some (.int .u64 y4) := (blk_cell KB2.out 4).trans rfl
  have c2_5 : V5.cell? ⟨V1.heap.size, 5, none⟩ = some (.bool y5) := (blk_cell KB2.out 5).trans rfl
  have c2_6 : V5.cell? ⟨V1.heap.size, 6, none⟩ = some (.int .u64 y6) := (blk_cell KB2.out 6).trans rfl
  have c2_7 : V5.cell? ⟨V1.heap.size, 7, none⟩ = some (.bool y7) := (blk_cell KB2.out 7).trans rfl
  have c2_8 : V5.cell? ⟨V1.heap.size, 8, none⟩ = some (.int .u64 y8) := (blk_cell KB2.out 8).trans rfl
  have c2_9 : V5.cell? ⟨V1.heap.size, 9, none⟩ = some (.bool y9) := (blk_cell KB2.out 9).trans rfl
  have l2 := blk_lt KB2.out
  have c3_0 : V5.cell? ⟨V2.heap.size, 0, none⟩ = some (.int .u64 f0) := (blk_cell KB3.out 0).trans rfl
  have c3_1 : V5.cell? ⟨V2.heap.size, 1, none⟩ = some (.bool f1) := (blk_cell KB3.out 1).trans rfl
  have l3 := blk_lt KB3.out
  have c4_0 : V5.cell? ⟨V3.heap.size, 0, none⟩ = some (.int .u64 u0) := (blk_cell KB4.out 0).trans rfl
  have c4_1 : V5.cell? ⟨V3.heap.size, 1, none⟩ = some (.bool u1) := (blk_cell KB4.out 1).trans rfl
  have l4 := blk_lt KB4.out
  have c5_0 : V5.cell? ⟨V4.heap.size, 0, none⟩ = some (.int .u64 x0) := (blk_cell KB5.out 0).trans rfl
  have c5_1 : V5.cell? ⟨V4.heap.size, 1, none⟩ = some (.bool x1) := (blk_cell KB5.out 1).trans rfl
  have c5_2 : V5.cell? ⟨V4.heap.size, 2, none⟩ = some (.int .u64 x2) := (blk_cell KB5.out 2).trans rfl
  have c5_3 : V5.cell? ⟨V4.heap.size, 3, none⟩ = some (.bool x3) := (blk_cell KB5.out 3).trans rfl
  have c5_4 : V5.cell? ⟨V4.heap.size, 4, none⟩ = some (.int .u64 x4) := (blk_cell KB5.out 4).trans rfl
  have c5_5 : V5.cell? ⟨V4.heap.size, 5, none⟩ = some (.bool x5) := (blk_cell KB5.out 5).trans rfl
  have c5_6 : V5.cell? ⟨V4.heap.size, 6, none⟩ = some (.int .u64 x6) := (blk_cell KB5.out 6).trans rfl
  have c5_7 : V5.cell? ⟨V4.heap.size, 7, none⟩ = some (.bool x7) := (blk_cell KB5.out 7).trans rfl
  have c5_8 : V5.cell? ⟨V4.heap.size, 8, none⟩ = some (.int .u64 x8) := (blk_cell KB5.out 8).trans rfl
  have c5_9 : V5.cell? ⟨V4.heap.size, 9, none⟩ = some (.bool x9) := (blk_cell KB5.out 9).trans rfl
  have l5 := blk_lt KB5.out
  go_wp2_with fail
  clear c0_0 c0_1 c0_2 c0_3 c0_4 c0_5 c0_6 c0_7 c0_8 c0_9 l0 c1_0 c1_1 l1 c2_0 c2_1 c2_2 c2_3 c2_4 c2_5 c2_6 c2_7 c2_8 c2_9 l2 c3_0 c3_1 l3 c4_0 c4_1 l4 c5_0 c5_1 c5_2 c5_3 c5_4 c5_5 c5_6 c5_7 c5_8 c5_9 l5
  have HA := below_alloc HB.out (.cells #[.int .u64 v0, .bool v1] 24)
  have KA0 := blk_alloc KB0.out (.cells #[.int .u64 v0, .bool v1] 24)
  have KA1 := blk_alloc KB1.out (.cells #[.int .u64 v0, .bool v1] 24)
  have KA2 := blk_alloc KB2.out (.cells #[.int .u64 v0, .bool v1] 24)
  have KA3 := blk_alloc KB3.out (.cells #[.int .u64 v0, .bool v1] 24)
  have KA4 := blk_alloc KB4.out (.cells #[.int .u64 v0, .bool v1] 24)
  have KA5 := blk_alloc KB5.out (.cells #[.int .u64 v0, .bool v1] 24)
  have KA6 := blk_new V5 (.cells #[.int .u64 v0, .bool v1] 24)
  clear HB KB0 KB1 KB2 KB3 KB4 KB5
  refine Spc.gen (fun W => Below w.heap.size w W ∧ W.heap[w.heap.size]? = some (.cells #[.int .u64 x0, .bool x1, .int .u64 x2, .bool x3, .int .u64 x4, .bool x5, .int .u64 x6, .bool x7, .int .u64 x8, .bool x9] 26 (0, 0)) ∧ W.heap[w.heap.size + 1]? = some (.cells #[.int .u64 f0, .bool f1] 24 (0, 0)) ∧ W.heap[V1.heap.size]? = some (.cells #[.int .u64 y0, .bool y1, .int .u64 y2, .bool y3, .int .u64 y4, .bool y5, .int .u64 y6, .bool y7, .int .u64 y8, .bool y9] 26 (0, 0)) ∧ W.heap[V2.heap.size]? = some (.cells #[.int .u64 f0, .bool f1] 24 (0, 0)) ∧ W.heap[V3.heap.size]? = some (.cells #[.int .u64 u0, .bool u1] 24 (0, 0)) ∧ W.heap[V4.heap.size]? = some (.cells #[.int .u64 x0, .bool x1, .int .u64 x2, .bool x3, .int .u64 x4, .bool x5, .int .u64 x6, .bool x7, .int .u64 x8, .bool x9] 26 (0, 0)) ∧ W.heap[V5.heap.size]? = some (.cells #[.int .u64 v0, .bool v1] 24 (0, 0))) ⟨HA, KA0, KA1, KA2, KA3, KA4, KA5, KA6⟩ ?_
  clear HA KA0 KA1 KA2 KA3 KA4 KA5 KA6
  rintro W6 ⟨HB6, K6_0, K6_1, K6_2, K6_3, K6_4, K6_5, K6_6⟩
  refine (spec_Get.calls x0 x1 x2 x3 x4 x5 x6 x7 x8 x9 other v0 v1 0 _ h6.out).mono ?_
  rintro e V6 ⟨rfl, hb⟩
  have HB := below_step HB6 hb
  have KB0 := blk_below K6_0 hb
  have KB1 := blk_below K6_1 hb
  have KB2 := blk_below K6_2 hb
  have KB3 := blk_below K6_3 hb
  have KB4 := blk_below K6_4 hb
  have KB5 := blk_below K6_5 hb
  have KB6 := blk_below K6_6 hb
  clear hb HB6 K6_0 K6_1 K6_2 K6_3 K6_4 K6_5 K6_6
  replace HB := Aside0.mk HB
  replace KB0 := Aside0.mk KB0
  replace KB1 := Aside0.mk KB1
  replace KB2 := Aside0.mk KB2
  replace KB3 := Aside0.mk KB3
  replace KB4 := Aside0.mk KB4
  replace KB5 := Aside0.mk KB5
  replace KB6 := Aside0.mk KB6
  have c0_0 : V6.cell? ⟨w.heap.size, 0, none⟩ = some (.int .u64 x0) := (blk_cell KB0.out 0).trans rfl
  have c0_1 : V6.cell? ⟨w.heap.size, 1, none⟩ = some (.bool x1) := (blk_cell KB0.out 1).trans rfl
  have c0_2 : V6.cell? ⟨w.heap.size, 2, none⟩ = some (.int .u64 x2) := (blk_cell KB0.out 2).trans rfl
  have c0_3 : V6.cell? ⟨w.heap.size, 3, none⟩ = some (.bool x3) := (blk_cell KB0.out 3).trans rfl
  have c0_4 : V6.cell? ⟨w.heap.size, 4, none⟩ = some (.int .u64 x4) := (blk_cell KB0.out 4).trans rfl
  have c0_5 : V6.cell? ⟨w.heap.size, 5, none⟩ = some (.bool x5) := (blk_cell KB0.out 5).trans rfl
  have c0_6 : V6.cell? ⟨w.heap.size, 6, none⟩ = some (.int .u64 x6) := (blk_cell KB0.out 6).trans rfl
  have c0_7 : V6.cell? ⟨w.heap.size, 7, none⟩ = some (.bool x7) := (blk_cell KB0.out 7).trans rfl
  have c0_8 : V6.cell? ⟨w.heap.size, 8, none⟩ = some (.int .u64 x8) := (blk_cell KB0.out 8).trans rfl
  have c0_9 : V6.cell? ⟨w.heap.size, 9, none⟩ = some (.bool x9) := (blk_cell KB0.out 9).trans rfl
  have l0 := blk_lt KB0.out
  have c1_0 : V6.cell? ⟨w.heap.size + 1, 0, none⟩ = some (.int .u64 f0) := (blk_cell KB1.out 0).trans rfl
  have c1_1 : V6.cell? ⟨w.heap.size + 1, 1, none⟩ = some (.bool f1) := (blk_cell KB1.out 1).trans rfl
  have l1 := blk_lt KB1.out
  have c2_0 : V6.cell? ⟨V1.heap.size, 0, none⟩ = some (.int .u64 y0) := (blk_cell KB2.out 0).trans rfl
  have c2_1 : V6.cell? ⟨V1.heap.size, 1, none⟩ = some (.bool y1) := (blk_cell KB2.out 1).trans rfl
  have c2_2 : V6.cell? ⟨V1.heap.size, 2, none⟩ = some (.int .u64 y2) := (blk_cell KB2.out 2).trans rfl
  have c2_3 : V6.cell? ⟨V1.heap.size, 3, none⟩ = some (.bool y3) := (blk_cell KB2.out 3).trans rfl
  have c2_4 : V6.cell? ⟨V1.heap.size, 4, none⟩ = some (.int .u64 y4) := (blk_cell KB2.out 4).trans rfl
  have c2_5 : V6.cell? ⟨V1.heap.size, 5, none⟩ = some (.bool y5) := (blk_cell KB2.out 5).trans rfl
  have c2_6 : V6.cell? ⟨V1.heap.size, 6, none⟩ = some (.int .u64 y6) := (blk_cell KB2.out 6).trans rfl
  have c2_7 : V6.cell? ⟨V1.heap.size, 7, none⟩ = some (.bool y7) := (blk_cell KB2.out 7).trans rfl
  have c2_8 : V6.cell? ⟨V1.heap.size, 8, none⟩ = some (.int .u64 y8) := (blk_cell KB2.out 8).trans rfl
  have c2_9 : V6.cell? ⟨V1.heap.size, 9, none⟩ = some (.bool y9) := (blk_cell KB2.out 9).trans rfl
  have l2 := blk_lt KB2.out
  have c3_0 : V6.cell? ⟨V2.heap.size, 0, none⟩ = some (.int .u64 f0) := (blk_cell KB3.out 0).trans rfl
  have c3_1 : V6.cell? ⟨V2.heap.size, 1, none⟩ = some (.bool f1) := (blk_cell KB3.out 1).trans rfl
  have l3 := blk_lt KB3.out
  have c4_0 : V6.cell? ⟨V3.heap.size, 0, none⟩ = some (.int .u64 u0) := (blk_cell KB4.out 0).trans rfl
  have c4_1 : V6.cell? ⟨V3.heap.size, 1, none⟩ = some (.bool u1) := (blk_cell KB4.out 1).trans rfl
  have l4 := blk_lt KB4.out
  have c5_0 : V6.cell? ⟨V4.heap.size, 0, none⟩ = some (.int .u64 x0) := (blk_cell KB5.out 0).trans rfl
  have c5_1 : V6.cell? ⟨V4.heap.size, 1, none⟩ = some (.bool x1) := (blk_cell KB5.out 1).trans rfl
  have c5_2 : V6.cell? ⟨V4.heap.size, 2, none⟩ = some (.int .u64 x2) := (blk_cell KB5.out 2).trans rfl
  have c5_3 : V6.cell? ⟨V4.heap.size, 3, none⟩ = some (.bool x3) := (blk_cell KB5.out 3).trans rfl
  have c5_4 : V6.cell? ⟨V4.heap.size, 4, none⟩ = some (.int .u64 x4) := (blk_cell KB5.out 4).trans rfl
  have c5_5 : V6.cell? ⟨V4.heap.size, 5, none⟩ = some (.bool x5) := (blk_cell KB5.out 5).trans rfl
  have c5_6 : V6.cell? ⟨V4.heap.size, 6, none⟩ = some (.int .u64 x6) := (blk_cell KB5.out 6).trans rfl
  have c5_7 : V6.cell? ⟨V4.heap.size, 7, none⟩ = some (.bool x7) := (blk_cell KB5.out 7).trans rfl
  have c5_8 : V6.cell? ⟨V4.heap.size, 8, none⟩ = some (.int .u64 x8) := (blk_cell KB5.out 8).trans rfl
  have c5_9 : V6.cell? ⟨V4.heap.size, 9, none⟩ = some (.bool x9) := (blk_cell KB5.out 9).trans rfl
  have l5 := blk_lt KB5.out
  have c6_0 : V6.cell? ⟨V5.heap.size, 0, none⟩ = some (.int .u64 v0) := (blk_cell KB6.out 0).trans rfl
  have c6_1 : V6.cell? ⟨V5.heap.size, 1, none⟩ = some (.bool v1) := (blk_cell KB6.out 1).trans rfl
  have l6 := blk_lt KB6.out
  go_wp2_with fail
  go_ret
  exact ⟨rfl, by first | exact HB.out | exact below_alloc HB.out _⟩
def complinelaw19_SpecPuts.f (a0_0 : Int) (a0_1 : Bool) (a0_2 : Int) (a0_3 : Bool) (a0_4 : Int) (a0_5 : Bool) (a0_6 : Int) (a0_7 : Bool) (a0_8 : Int) (a0_9 : Bool) (a1 : Int) (a2 : Int) (a3_0 : Int) (a3_1 : Bool) : Option (Bool) := some true
set_option maxHeartbeats 8000000 in
set_option maxRecDepth 100000 in
theorem complinelaw19_SpecPuts.calls (a0_0 : Int) (a0_1 : Bool) (a0_2 : Int) (a0_3 : Bool) (a0_4 : Int) (a0_5 : Bool) (a0_6 : Int) (a0_7 : Bool) (a0_8 : Int) (a0_9 : Bool) (a1 : Int) (a2 : Int) (a3_0 : Int) (a3_1 : Bool) (r : Bool) (w : World) (hT : Tab w) (h : complinelaw19_SpecPuts.f a0_0 a0_1 a0_2 a0_3 a0_4 a0_5 a0_6 a0_7 a0_8 a0_9 a1 a2 a3_0 a3_1 = some r) :
    Calls Tryd.prog 6 #[.agg #[.int .u64 a0_0, .bool a0_1, .int .u64 a0_2, .bool a0_3, .int .u64 a0_4, .bool a0_5, .int .u64 a0_6, .bool a0_7, .int .u64 a0_8, .bool a0_9], .int .i64 a1, .int .i64 a2, .agg #[.int .u64 a3_0, .bool a3_1]] w fun e w' => e = .returned (.bool r) ∧ Below w.heap.size w w' := by
  have HB := Aside0.mk (Below.refl w.heap.size w)
  obtain rfl : r = true := (Option.some.inj h).symm
  clear h
  by_cases n1 : a1 < 0
  · exact Spc.puts_neg a0_0 a0_1 a0_2 a0_3 a0_4 a0_5 a0_6 a0_7 a0_8 a0_9 a1 a2 a3_0 a3_1 n1 (by unfold spec_With.f; rw [if_neg (by omega), if_neg (by omega), if_neg (by omega), if_neg (by omega), if_neg (by omega)]) (by unfold spec_Get.f; rw [if_neg (by omega), if_neg (by omega), if_neg (by omega), if_neg (by omega), if_neg (by omega)]) w hT
  by_cases n2 : 4 < a1
  · exact Spc.puts_big a0_0 a0_1 a0_2 a0_3 a0_4 a0_5 a0_6 a0_7 a0_8 a0_9 a1 a2 a3_0 a3_1 n2 (by unfold spec_With.f; rw [if_neg (by omega), if_neg (by omega), if_neg (by omega), if_neg (by omega), if_neg (by omega)]) (by unfold spec_Get.f; rw [if_neg (by omega), if_neg (by omega), if_neg (by omega), if_neg (by omega), if_neg (by omega)]) w hT
  rcases (by omega : a1 = 0 ∨ a1 = 1 ∨ a1 = 2 ∨ a1 = 3 ∨ a1 = 4) with rfl | rfl | rfl | rfl | rfl
  · by_cases m1 : a2 < 0
    · exact Spc.puts_lo a0_0 a0_1 a0_2 a0_3 a0_4 a0_5 a0_6 a0_7 a0_8 a0_9 0 a2 a3_0 a3_1 (by decide) (by decide) a3_0 a3_1 a0_2 a0_3 a0_4 a0_5 a0_6 a0_7 a0_8 a0_9 a0_0 a0_1 rfl rfl rfl rfl m1 w hT
    by_cases m2 : 4 < a2
    · exact Spc.puts_hi a0_0 a0_1 a0_2 a0_3 a0_4 a0_5 a0_6 a0_7 a0_8 a0_9 0 a2 a3_0 a3_1 (by decide) (by decide) a3_0 a3_1 a0_2 a0_3 a0_4 a0_5 a0_6 a0_7 a0_8 a0_9 a0_0 a0_1 rfl rfl rfl rfl m2 w hT
    by_cases m3 : a2 = 0
    · exact Spc.puts_same a0_0 a0_1 a0_2 a0_3 a0_4 a0_5 a0_6 a0_7 a0_8 a0_9 0 a2 a3_0 a3_1 (by decide) (by decide) a3_0 a3_1 a0_2 a0_3 a0_4 a0_5 a0_6 a0_7 a0_8 a0_9 a0_0 a0_1 rfl rfl rfl rfl m3 w hT
    rcases (by omega : a2 = 1 ∨ a2 = 2 ∨ a2 = 3 ∨ a2 = 4) with rfl | rfl | rfl | rfl
    · exact Spc.puts_full a0_0 a0_1 a0_2 a0_3 a0_4 a0_5 a0_6 a0_7 a0_8 a0_9 0 1 a3_0 a3_1 (by decide) (by decide) a3_0 a3_1 a0_2 a0_3 a0_4 a0_5 a0_6 a0_7 a0_8 a0_9 a0_0 a0_1 rfl rfl rfl rfl (by decide) (by decide) (by decide) a0_2 a0_3 rfl rfl w hT
    · exact Spc.puts_full a0_0 a0_1 a0_2 a0_3 a0_4 a0_5 a0_6 a0_7 a0_8 a0_9 0 2 a3_0 a3_1 (by decide) (by decide) a3_0 a3_1 a0_2 a0_3 a0_4 a0_5 a0_6 a0_7 a0_8 a0_9 a0_0 a0_1 rfl rfl rfl rfl (by decide) (by decide) (by decide) a0_4 a0_5 rfl rfl w hT
    · exact Spc.puts_full a0_0 a0_1 a0_2 a0_3 a0_4 a0_5 a0_6 a0_7 a0_8 a0_9 0 3 a3_0 a3_1 (by decide) (by decide) a3_0 a3_1 a0_2 a0_3 a0_4 a0_5 a0_6 a0_7 a0_8 a0_9 a0_0 a0_1 rfl rfl rfl rfl (by decide) (by decide) (by decide) a0_6 a0_7 rfl rfl w hT
    · exact Spc.puts_full a0_0 a0_1 a0_2 a0_3 a0_4 a0_5 a0_6 a0_7 a0_8 a0_9 0 4 a3_0 a3_1 (by decide) (by decide) a3_0 a3_1 a0_2 a0_3 a0_4 a0_5 a0_6 a0_7 a0_8 a0_9 a0_0 a0_1 rfl rfl rfl rfl (by decide) (by decide) (by decide) a0_8 a0_9 rfl rfl w hT
  · by_cases m1 : a2 < 0
    · exact Spc.puts_lo a0_0 a0_1 a0_2 a0_3 a0_4 a0_5 a0_6 a0_7 a0_8 a0_9 1 a2 a3_0 a3_1 (by decide) (by decide) a0_0 a0_1 a3_0 a3_1 a0_4 a0_5 a0_6 a0_7 a0_8 a0_9 a0_2 a0_3 rfl rfl rfl rfl m1 w hT
    by_cases m2 : 4 < a2
    · exact Spc.puts_hi a0_0 a0_1 a0_2 a0_3 a0_4 a0_5 a0_6 a0_7 a0_8 a0_9 1 a2 a3_0 a3_1 (by decide) (by decide) a0_0 a0_1 a3_0 a3_1 a0_4 a0_5 a0_6 a0_7 a0_8 a0_9 a0_2 a0_3 rfl rfl rfl rfl m2 w hT
    by_cases m3 : a2 = 1
    · exact Spc.puts_same a0_0 a0_1 a0_2 a0_3 a0_4 a0_5 a0_6 a0_7 a0_8 a0_9 1 a2 a3_0 a3_1 (by decide) (by decide) a0_0 a0_1 a3_0 a3_1 a0_4 a0_5 a0_6 a0_7 a0_8 a0_9 a0_2 a0_3 rfl rfl rfl rfl m3 w hT
    rcases (by omega : a2 = 0 ∨ a2 = 2 ∨ a2 = 3 ∨ a2 = 4) with rfl | rfl | rfl | rfl
    · exact Spc.puts_full a0_0 a0_1 a0_2 a0_3 a0_4 a0_5 a0_6 a0_7 a0_8 a0_9 1 0 a3_0 a3_1 (by decide) (by decide) a0_0 a0_1 a3_0 a3_1 a0_4 a0_5 a0_6 a0_7 a0_8 a0_9 a0_2 a0_3 rfl rfl rfl rfl (by decide) (by decide) (by decide) a0_0 a0_1 rfl rfl w hT
    · exact Spc.puts_full a0_0 a0_1 a0_2 a0_3 a0_4 a0_5 a0_6 a0_7 a0_8 a0_9 1 2 a3_0 a3_1 (by decide) (by decide) a0_0 a0_1 a3_0 a3_1 a0_4 a0_5 a0_6 a0_7 a0_8 a0_9 a0_2 a0_3 rfl rfl rfl rfl (by decide) (by decide) (by decide) a0_4 a0_5 rfl rfl w hT
    · exact Spc.puts_full a0_0 a0_1 a0_2 a0_3 a0_4 a0_5 a0_6 a0_7 a0_8 a0_9 1 3 a3_0 a3_1 (by decide) (by decide) a0_0 a0_1 a3_0 a3_1 a0_4 a0_5 a0_6 a0_7 a0_8 a0_9 a0_2 a0_3 rfl rfl rfl rfl (by decide) (by decide) (by decide) a0_6 a0_7 rfl rfl w hT
    · exact Spc.puts_full a0_0 a0_1 a0_2 a0_3 a0_4 a0_5 a0_6 a0_7 a0_8 a0_9 1 4 a3_0 a3_1 (by decide) (by decide) a0_0 a0_1 a3_0 a3_1 a0_4 a0_5 a0_6 a0_7 a0_8 a0_9 a0_2 a0_3 rfl rfl rfl rfl (by decide) (by decide) (by decide) a0_8 a0_9 rfl rfl w hT
  · by_cases m1 : a2 < 0
    · exact Spc.puts_lo a0_0 a0_1 a0_2 a0_3 a0_4 a0_5 a0_6 a0_7 a0_8 a0_9 2 a2 a3_0 a3_1 (by decide) (by decide) a0_0 a0_1 a0_2 a0_3 a3_0 a3_1 a0_6 a0_7 a0_8 a0_9 a0_4 a0_5 rfl rfl rfl rfl m1 w hT
    by_cases m2 : 4 < a2
    · exact Spc.puts_hi a0_0 a0_1 a0_2 a0_3 a0_4 a0_5 a0_6 a0_7 a0_8 a0_9 2 a2 a3_0 a3_1 (by decide) (by decide) a0_0 a0_1 a0_2 a0_3 a3_0 a3_1 a0_6 a0_7 a0_8 a0_9 a0_4 a0_5 rfl rfl rfl rfl m2 w hT
    by_cases m3 : a2 = 2
    · exact Spc.puts_same a0_0 a0_1 a0_2 a0_3 a0_4 a0_5 a0_6 a0_7 a0_8 a0_9 2 a2 a3_0 a3_1 (by decide) (by decide) a0_0 a0_1 a0_2 a0_3 a3_0 a3_1 a0_6 a0_7 a0_8 a0_9 a0_4 a0_5 rfl rfl rfl rfl m3 w hT
    rcases (by omega : a2 = 0 ∨ a2 = 1 ∨ a2 = 3 ∨ a2 = 4) with rfl | rfl | rfl | rfl
    · exact Spc.puts_full a0_0 a0_1 a0_2 a0_3 a0_4 a0_5 a0_6 a0_7 a0_8 a0_9 2 0 a3_0 a3_1 (by decide) (by decide) a0_0 a0_1 a0_2 a0_3 a3_0 a3_1 a0_6 a0_7 a0_8 a0_9 a0_4 a0_5 rfl rfl rfl rfl (by decide) (by decide) (by decide) a0_0 a0_1 rfl rfl w hT
    · exact Spc.puts_full a0_0 a0_1 a0_2 a0_3 a0_4 a0_5 a0_6 a0_7 a0_8 a0_9 2 1 a3_0 a3_1 (by decide) (by decide) a0_0 a0_1 a0_2 a0_3 a3_0 a3_1 a0_6 a0_7 a0_8 a0_9 a0_4 a0_5 rfl rfl rfl rfl (by decide) (by decide) (by decide) a0_2 a0_3 rfl rfl w hT
    · exact Spc.puts_full a0_0 a0_1 a0_2 a0_3 a0_4 a0_5 a0_6 a0_7 a0_8 a0_9 2 3 a3_0 a3_1 (by decide) (by decide) a0_0 a0_1 a0_2 a0_3 a3_0 a3_1 a0_6 a0_7 a0_8 a0_9 a0_4 a0_5 rfl rfl rfl rfl (by decide) (by decide) (by decide) a0_6 a0_7 rfl rfl w hT
    · exact Spc.puts_full a0_0 a0_1 a0_2 a0_3 a0_4 a0_5 a0_6 a0_7 a0_8 a0_9 2 4 a3_0 a3_1 (by decide) (by decide) a0_0 a0_1 a0_2 a0_3 a3_0 a3_1 a0_6 a0_7 a0_8 a0_9 a0_4 a0_5 rfl rfl rfl rfl (by decide) (by decide) (by decide) a0_8 a0_9 rfl rfl w hT
  · by_cases m1 : a2 < 0
    · exact Spc.puts_lo a0_0 a0_1 a0_2 a0_3 a0_4 a0_5 a0_6 a0_7 a0_8 a0_9 3 a2 a3_0 a3_1 (by decide) (by decide) a0_0 a0_1 a0_2 a0_3 a0_4 a0_5 a3_0 a3_1 a0_8 a0_9 a0_6 a0_7 rfl rfl rfl rfl m1 w hT
    by_cases m2 : 4 < a2
    · exact Spc.puts_hi a0_0 a0_1 a0_2 a0_3 a0_4 a0_5 a0_6 a0_7 a0_8 a0_9 3 a2 a3_0 a3_1 (by decide) (by decide) a0_0 a0_1 a0_2 a0_3 a0_4 a0_5 a3_0 a3_1 a0_8 a0_9 a0_6 a0_7 rfl rfl rfl rfl m2 w hT
    by_cases m3 : a2 = 3
    · exact Spc.puts_same a0_0 a0_1 a0_2 a0_3 a0_4 a0_5 a0_6 a0_7 a0_8 a0_9 3 a2 a3_0 a3_1 (by decide) (by decide) a0_0 a0_1 a0_2 a0_3 a0_4 a0_5 a3_0 a3_1 a0_8 a0_9 a0_6 a0_7 rfl rfl rfl rfl m3 w hT
    rcases (by omega : a2 = 0 ∨ a2 = 1 ∨ a2 = 2 ∨ a2 = 4) with rfl | rfl | rfl | rfl
    · exact Spc.puts_full a0_0 a0_1 a0_2 a0_3 a0_4 a0_5 a0_6 a0_7 a0_8 a0_9 3 0 a3_0 a3_1 (by decide) (by decide) a0_0 a0_1 a0_2 a0_3 a0_4 a0_5 a3_0 a3_1 a0_8 a0_9 a0_6 a0_7 rfl rfl rfl rfl (by decide) (by decide) (by decide) a0_0 a0_1 rfl rfl w hT
    · exact Spc.puts_full a0_0 a0_1 a0_2 a0_3 a0_4 a0_5 a0_6 a0_7 a0_8 a0_9 3 1 a3_0 a3_1 (by decide) (by decide) a0_0 a0_1 a0_2 a0_3 a0_4 a0_5 a3_0 a3_1 a0_8 a0_9 a0_6 a0_7 rfl rfl rfl rfl (by decide) (by decide) (by decide) a0_2 a0_3 rfl rfl w hT
    · exact Spc.puts_full a0_0 a0_1 a0_2 a0_3 a0_4 a0_5 a0_6 a0_7 a0_8 a0_9 3 2 a3_0 a3_1 (by decide) (by decide) a0_0 a0_1 a0_2 a0_3 a0_4 a0_5 a3_0 a3_1 a0_8 a0_9 a0_6 a0_7 rfl rfl rfl rfl (by decide) (by decide) (by decide) a0_4 a0_5 rfl rfl w hT
    · exact Spc.puts_full a0_0 a0_1 a0_2 a0_3 a0_4 a0_5 a0_6 a0_7 a0_8 a0_9 3 4 a3_0 a3_1 (by decide) (by decide) a0_0 a0_1 a0_2 a0_3 a0_4 a0_5 a3_0 a3_1 a0_8 a0_9 a0_6 a0_7 rfl rfl rfl rfl (by decide) (by decide) (by decide) a0_8 a0_9 rfl rfl w hT
  · by_cases m1 : a2 < 0
    · exact Spc.puts_lo a0_0 a0_1 a0_2 a0_3 a0_4 a0_5 a0_6 a0_7 a0_8 a0_9 4 a2 a3_0 a3_1 (by decide) (by decide) a0_0 a0_1 a0_2 a0_3 a0_4 a0_5 a0_6 a0_7 a3_0 a3_1 a0_8 a0_9 rfl rfl rfl rfl m1 w hT
    by_cases m2 : 4 < a2
    · exact Spc.puts_hi a0_0 a0_1 a0_2 a0_3 a0_4 a0_5 a0_6 a0_7 a0_8 a0_9 4 a2 a3_0 a3_1 (by decide) (by decide) a0_0 a0_1 a0_2 a0_3 a0_4 a0_5 a0_6 a0_7 a3_0 a3_1 a0_8 a0_9 rfl rfl rfl rfl m2 w hT
    by_cases m3 : a2 = 4
    · exact Spc.puts_same a0_0 a0_1 a0_2 a0_3 a0_4 a0_5 a0_6 a0_7 a0_8 a0_9 4 a2 a3_0 a3_1 (by decide) (by decide) a0_0 a0_1 a0_2 a0_3 a0_4 a0_5 a0_6 a0_7 a3_0 a3_1 a0_8 a0_9 rfl rfl rfl rfl m3 w hT
    rcases (by omega : a2 = 0 ∨ a2 = 1 ∨ a2 = 2 ∨ a2 = 3) with rfl | rfl | rfl | rfl
    · exact Spc.puts_full a0_0 a0_1 a0_2 a0_3 a0_4 a0_5 a0_6 a0_7 a0_8 a0_9 4 0 a3_0 a3_1 (by decide) (by decide) a0_0 a0_1 a0_2 a0_3 a0_4 a0_5 a0_6 a0_7 a3_0 a3_1 a0_8 a0_9 rfl rfl rfl rfl (by decide) (by decide) (by decide) a0_0 a0_1 rfl rfl w hT
    · exact Spc.puts_full a0_0 a0_1 a0_2 a0_3 a0_4 a0_5 a0_6 a0_7 a0_8 a0_9 4 1 a3_0 a3_1 (by decide) (by decide) a0_0 a0_1 a0_2 a0_3 a0_4 a0_5 a0_6 a0_7 a3_0 a3_1 a0_8 a0_9 rfl rfl rfl rfl (by decide) (by decide) (by decide) a0_2 a0_3 rfl rfl w hT
    · exact Spc.puts_full a0_0 a0_1 a0_2 a0_3 a0_4 a0_5 a0_6 a0_7 a0_8 a0_9 4 2 a3_0 a3_1 (by decide) (by decide) a0_0 a0_1 a0_2 a0_3 a0_4 a0_5 a0_6 a0_7 a3_0 a3_1 a0_8 a0_9 rfl rfl rfl rfl (by decide) (by decide) (by decide) a0_4 a0_5 rfl rfl w hT
    · exact Spc.puts_full a0_0 a0_1 a0_2 a0_3 a0_4 a0_5 a0_6 a0_7 a0_8 a0_9 4 3 a3_0 a3_1 (by decide) (by decide) a0_0 a0_1 a0_2 a0_3 a0_4 a0_5 a0_6 a0_7 a3_0 a3_1 a0_8 a0_9 rfl rfl rfl rfl (by decide) (by decide) (by decide) a0_6 a0_7 rfl rfl w hT

end Go.Proofs.YtjddfpciblhpaaaDoor.PSpc
