-- Written by a program of this session (gprint.py) over the kit's print.
import Derived.Test.YtjddfpciblhpaaaGreatDoorPSppx0
import Derived.Test.YtjddfpciblhpaaaGreatDoorPSppx2
import Derived.Test.YtjddfpciblhpaaaGreatDoorPSppx5
namespace Go.Proofs.YtjddfpciblhpaaaGreatDoor.PSpp
open Go.RowKit Go.Proofs.YtjddfpciblhpaaaGreatDoorW.PrintWords Go.Proofs.YtjddfpciblhpaaaGreatDoorW.PrintLast Go.Proofs.YtjddfpciblhpaaaGreatDoorW.PrintMore
attribute [local go_sem] max2_int min2_int max_two min_two max_three min_three max_four min_four   -- for this text's walks alone
set_option linter.unusedVariables false
set_option linter.unusedSimpArgs false

/-! ### spec_known: function 18 -/
def spec_known.f (a0 : Int) : Option (Bool) := if a0 ≥ 0 then (some (decide (a0 ≤ 4))) else (some false)
set_option maxHeartbeats 8000000 in
set_option maxRecDepth 100000 in
theorem spec_known.calls (a0 : Int) (r : Bool) (w : World) (h : spec_known.f a0 = some r) :
  Calls Tryz.prog 18 #[.int .i64 a0] w fun e w' => e = .returned (.bool r) ∧ Drawn0 w w' := by
 have H : (if a0 ≥ 0 then (some (decide (a0 ≤ 4))) else (some false)) = some r := h
 clear h
 by_cases c2 : a0 ≥ 0
 ·rw [if_pos c2] at H
  have c2b0 : decide (0 ≤ a0) = true := decide_eq_true c2
  clear c2
  obtain rfl := Option.some.inj H
  go_enter Tryz.func18, Tryz.ntmps18
  go_wp2
  go_ret
  exact ⟨by first | rfl | (simp; done) | (simp [*]; done), by repeat (first | exact Drawn0.refl _ | apply Drawn0.step)⟩
 ·rw [if_neg c2] at H
  have c2b0 : decide (0 ≤ a0) = false := decide_eq_false c2
  clear c2
  obtain rfl := Option.some.inj H
  go_enter Tryz.func18, Tryz.ntmps18
  go_wp2
  go_ret
  exact ⟨by first | rfl | (simp; done) | (simp [*]; done), by repeat (first | exact Drawn0.refl _ | apply Drawn0.step)⟩

/-! ### spec_Get: function 7 -/
/-! This session's own: spec.Get, With. -/
set_option maxHeartbeats 8000000 in
set_option maxRecDepth 100000 in
theorem Spc.get_bad (b0 : Int) (s0 : Bool) (b1 : Int) (s1 : Bool) (b2 : Int) (s2 : Bool) (b3 : Int) (s3 : Bool) (b4 : Int) (s4 : Bool) (kind : Int) (h : kind < 0 ∨ 4 < kind) (w : World) : Calls Tryz.prog 7 #[.agg #[.int .u64 b0, .bool s0, .int .u64 b1, .bool s1, .int .u64 b2, .bool s2, .int .u64 b3, .bool s3, .int .u64 b4, .bool s4], .int .i64 kind] w fun e w' => e = .returned (.tuple #[.agg #[.int .u64 0, .bool false], .int .i64 7]) ∧ Below w.heap.size w w' := by
 have hk : Hid (spec_known.f kind = some false) := Lib.hid (by unfold spec_known.f; rcases h with h | h <;> (simp; omega))
 clear h
 go_enter Tryz.func7, Tryz.ntmps7
 go_wp2_with (go_at_call 18; refine (spec_known.calls _ _ _ hk.out).mono ?_; rintro e w' ⟨rfl, ⟨nd, rfl⟩⟩)
 refine bodyPost_ret (v := .tuple #[.agg #[.int .u64 0, .bool false], .int .i64 7]) (by simp [results, Tryz.results7, go_sem]) rfl ⟨rfl, ?_⟩
 have HB := Aside0.mk (Below.refl w.heap.size w)
 repeat (with_reducible first | exact HB.out | apply below_alloc | apply pw_below_drewN | apply below_drew1 | (refine below_set ?_ (by omega)) | exact HB.out)
set_option maxHeartbeats 8000000 in
set_option maxRecDepth 100000 in
theorem Spc.get0 (b0 : Int) (s0 : Bool) (b1 : Int) (s1 : Bool) (b2 : Int) (s2 : Bool) (b3 : Int) (s3 : Bool) (b4 : Int) (s4 : Bool) (w : World) : Calls Tryz.prog 7 #[.agg #[.int .u64 b0, .bool s0, .int .u64 b1, .bool s1, .int .u64 b2, .bool s2, .int .u64 b3, .bool s3, .int .u64 b4, .bool s4], .int .i64 0] w fun e w' => e = .returned (.tuple #[.agg #[.int .u64 b0, .bool s0], .int .i64 0]) ∧ Below w.heap.size w w' := by
 have hk : Hid (spec_known.f 0 = some true) := Lib.hid (by decide)
 have HR : Spc.Row (w.alloc (.cells #[.int .u64 b0, .bool s0, .int .u64 b1, .bool s1, .int .u64 b2, .bool s2, .int .u64 b3, .bool s3, .int .u64 b4, .bool s4] 27)) w.heap.size b0 s0 b1 s1 b2 s2 b3 s3 b4 s4 := blk_new w _
 have HB := below_alloc (Below.refl _ _) (.cells #[.int .u64 b0, .bool s0, .int .u64 b1, .bool s1, .int .u64 b2, .bool s2, .int .u64 b3, .bool s3, .int .u64 b4, .bool s4] 27) (w := w)
 replace HR := Aside0.mk HR
 replace HB := Aside0.mk HB
 go_enter Tryz.func7, Tryz.ntmps7
 go_wp2_with (go_at_call 18; refine (spec_known.calls _ _ _ hk.out).mono ?_; rintro e w' ⟨rfl, ⟨nd, rfl⟩⟩)
 refine Spc.gen (fun W => W.heap.size = w.heap.size + 2 ∧ Below w.heap.size w W ∧ Spc.Row W w.heap.size b0 s0 b1 s1 b2 s2 b3 s3 b4 s4 ∧ W.heap[w.heap.size + 1]? = some (.cells #[.int .u64 0, .bool false] 25 (0, 0))) ?_ ?_
 ·refine ⟨by simp, pw_below_drewN (below_alloc HB.out _) nd, blk_drewN (blk_alloc HR.out _) nd, ?_⟩
  have := heap_alloc_new (w.alloc (.cells #[.int .u64 b0, .bool s0, .int .u64 b1, .bool s1, .int .u64 b2, .bool s2, .int .u64 b3, .bool s3, .int .u64 b4, .bool s4] 27)) (.cells #[.int .u64 0, .bool false] 25)
  simpa using this
 clear HR HB
 rintro W ⟨hz, hB0, hR0, hf0⟩
 refine (Spc.fields_calls _ _).mono ?_
 rintro e V ⟨rfl, hX, hb⟩
 have HR2 : Spc.Row V w.heap.size b0 s0 b1 s1 b2 s2 b3 s3 b4 s4 := blk_below hR0 hb
 have HB2 := below_step hB0 hb
 have hf2 := blk_below hf0 hb
 rw [hz] at hX ⊢
 clear hB0 hR0 hf0 hb hz
 obtain ⟨c0, c1, c2, c3, c4, c5, c6, c7, c8, c9⟩ := HR2.cells
 have r0 : V.cell? ⟨w.heap.size + 1, 0, none⟩ = some (.int .u64 0) := (blk_cell hf2 0).trans rfl
 have r1 : V.cell? ⟨w.heap.size + 1, 1, none⟩ = some (.bool false) := (blk_cell hf2 1).trans rfl
 have z0 := blk_frozen hf2 0
 have z1 := blk_frozen hf2 1
 have ix := Spc.ix0 (w.heap.size + 2)
 replace HR2 := Aside0.mk HR2
 replace HB2 := Aside0.mk HB2
 replace hX := Aside0.mk hX
 replace hf2 := Aside0.mk hf2
 go_wp2_with (go_at_call 25; refine (Spc.at0 _ _ _ hX.out).mono ?_; rintro e w' ⟨rfl, rfl⟩)
 have hq := blk_put (blk_put hf2.out 0 (.int .u64 b0) rfl) 1 (.bool s0) rfl
 have g0 := (blk_cell hq 0).trans rfl
 have g1 := (blk_cell hq 1).trans rfl
 refine bodyPost_ret (v := .tuple #[.agg #[.int .u64 b0, .bool s0], .int .i64 0]) (by simp [results, Tryz.results7, go_sem, r0, r1]) rfl ⟨rfl, ?_⟩
 exact below_set (below_set HB2.out (by omega)) (by omega)
set_option maxHeartbeats 8000000 in
set_option maxRecDepth 100000 in
theorem Spc.get1 (b0 : Int) (s0 : Bool) (b1 : Int) (s1 : Bool) (b2 : Int) (s2 : Bool) (b3 : Int) (s3 : Bool) (b4 : Int) (s4 : Bool) (w : World) : Calls Tryz.prog 7 #[.agg #[.int .u64 b0, .bool s0, .int .u64 b1, .bool s1, .int .u64 b2, .bool s2, .int .u64 b3, .bool s3, .int .u64 b4, .bool s4], .int .i64 1] w fun e w' => e = .returned (.tuple #[.agg #[.int .u64 b1, .bool s1], .int .i64 0]) ∧ Below w.heap.size w w' := by
 have hk : Hid (spec_known.f 1 = some true) := Lib.hid (by decide)
 have HR : Spc.Row (w.alloc (.cells #[.int .u64 b0, .bool s0, .int .u64 b1, .bool s1, .int .u64 b2, .bool s2, .int .u64 b3, .bool s3, .int .u64 b4, .bool s4] 27)) w.heap.size b0 s0 b1 s1 b2 s2 b3 s3 b4 s4 := blk_new w _
 have HB := below_alloc (Below.refl _ _) (.cells #[.int .u64 b0, .bool s0, .int .u64 b1, .bool s1, .int .u64 b2, .bool s2, .int .u64 b3, .bool s3, .int .u64 b4, .bool s4] 27) (w := w)
 replace HR := Aside0.mk HR
 replace HB := Aside0.mk HB
 go_enter Tryz.func7, Tryz.ntmps7
 go_wp2_with (go_at_call 18; refine (spec_known.calls _ _ _ hk.out).mono ?_; rintro e w' ⟨rfl, ⟨nd, rfl⟩⟩)
 refine Spc.gen (fun W => W.heap.size = w.heap.size + 2 ∧ Below w.heap.size w W ∧ Spc.Row W w.heap.size b0 s0 b1 s1 b2 s2 b3 s3 b4 s4 ∧ W.heap[w.heap.size + 1]? = some (.cells #[.int .u64 0, .bool false] 25 (0, 0))) ?_ ?_
 ·refine ⟨by simp, pw_below_drewN (below_alloc HB.out _) nd, blk_drewN (blk_alloc HR.out _) nd, ?_⟩
  have := heap_alloc_new (w.alloc (.cells #[.int .u64 b0, .bool s0, .int .u64 b1, .bool s1, .int .u64 b2, .bool s2, .int .u64 b3, .bool s3, .int .u64 b4, .bool s4] 27)) (.cells #[.int .u64 0, .bool false] 25)
  simpa using this
 clear HR HB
 rintro W ⟨hz, hB0, hR0, hf0⟩
 refine (Spc.fields_calls _ _).mono ?_
 rintro e V ⟨rfl, hX, hb⟩
 have HR2 : Spc.Row V w.heap.size b0 s0 b1 s1 b2 s2 b3 s3 b4 s4 := blk_below hR0 hb
 have HB2 := below_step hB0 hb
 have hf2 := blk_below hf0 hb
 rw [hz] at hX ⊢
 clear hB0 hR0 hf0 hb hz
 obtain ⟨c0, c1, c2, c3, c4, c5, c6, c7, c8, c9⟩ := HR2.cells
 have r0 : V.cell? ⟨w.heap.size + 1, 0, none⟩ = some (.int .u64 0) := (blk_cell hf2 0).trans rfl
 have r1 : V.cell? ⟨w.heap.size + 1, 1, none⟩ = some (.bool false) := (blk_cell hf2 1).trans rfl
 have z0 := blk_frozen hf2 0
 have z1 := blk_frozen hf2 1
 have ix := Spc.ix1 (w.heap.size + 2)
 replace HR2 := Aside0.mk HR2
 replace HB2 := Aside0.mk HB2
 replace hX := Aside0.mk hX
 replace hf2 := Aside0.mk hf2
 go_wp2_with (go_at_call 26; refine (Spc.at1 _ _ _ hX.out).mono ?_; rintro e w' ⟨rfl, rfl⟩)
 have hq := blk_put (blk_put hf2.out 0 (.int .u64 b1) rfl) 1 (.bool s1) rfl
 have g0 := (blk_cell hq 0).trans rfl
 have g1 := (blk_cell hq 1).trans rfl
 refine bodyPost_ret (v := .tuple #[.agg #[.int .u64 b1, .bool s1], .int .i64 0]) (by simp [results, Tryz.results7, go_sem, r0, r1]) rfl ⟨rfl, ?_⟩
 exact below_set (below_set HB2.out (by omega)) (by omega)
set_option maxHeartbeats 8000000 in
set_option maxRecDepth 100000 in
theorem Spc.get2 (b0 : Int) (s0 : Bool) (b1 : Int) (s1 : Bool) (b2 : Int) (s2 : Bool) (b3 : Int) (s3 : Bool) (b4 : Int) (s4 : Bool) (w : World) : Calls Tryz.prog 7 #[.agg #[.int .u64 b0, .bool s0, .int .u64 b1, .bool s1, .int .u64 b2, .bool s2, .int .u64 b3, .bool s3, .int .u64 b4, .bool s4], .int .i64 2] w fun e w' => e = .returned (.tuple #[.agg #[.int .u64 b2, .bool s2], .int .i64 0]) ∧ Below w.heap.size w w' := by
 have hk : Hid (spec_known.f 2 = some true) := Lib.hid (by decide)
 have HR : Spc.Row (w.alloc (.cells #[.int .u64 b0, .bool s0, .int .u64 b1, .bool s1, .int .u64 b2, .bool s2, .int .u64 b3, .bool s3, .int .u64 b4, .bool s4] 27)) w.heap.size b0 s0 b1 s1 b2 s2 b3 s3 b4 s4 := blk_new w _
 have HB := below_alloc (Below.refl _ _) (.cells #[.int .u64 b0, .bool s0, .int .u64 b1, .bool s1, .int .u64 b2, .bool s2, .int .u64 b3, .bool s3, .int .u64 b4, .bool s4] 27) (w := w)
 replace HR := Aside0.mk HR
 replace HB := Aside0.mk HB
 go_enter Tryz.func7, Tryz.ntmps7
 go_wp2_with (go_at_call 18; refine (spec_known.calls _ _ _ hk.out).mono ?_; rintro e w' ⟨rfl, ⟨nd, rfl⟩⟩)
 refine Spc.gen (fun W => W.heap.size = w.heap.size + 2 ∧ Below w.heap.size w W ∧ Spc.Row W w.heap.size b0 s0 b1 s1 b2 s2 b3 s3 b4 s4 ∧ W.heap[w.heap.size + 1]? = some (.cells #[.int .u64 0, .bool false] 25 (0, 0))) ?_ ?_
 ·refine ⟨by simp, pw_below_drewN (below_alloc HB.out _) nd, blk_drewN (blk_alloc HR.out _) nd, ?_⟩
  have := heap_alloc_new (w.alloc (.cells #[.int .u64 b0, .bool s0, .int .u64 b1, .bool s1, .int .u64 b2, .bool s2, .int .u64 b3, .bool s3, .int .u64 b4, .bool s4] 27)) (.cells #[.int .u64 0, .bool false] 25)
  simpa using this
 clear HR HB
 rintro W ⟨hz, hB0, hR0, hf0⟩
 refine (Spc.fields_calls _ _).mono ?_
 rintro e V ⟨rfl, hX, hb⟩
 have HR2 : Spc.Row V w.heap.size b0 s0 b1 s1 b2 s2 b3 s3 b4 s4 := blk_below hR0 hb
 have HB2 := below_step hB0 hb
 have hf2 := blk_below hf0 hb
 rw [hz] at hX ⊢
 clear hB0 hR0 hf0 hb hz
 obtain ⟨c0, c1, c2, c3, c4, c5, c6, c7, c8, c9⟩ := HR2.cells
 have r0 : V.cell? ⟨w.heap.size + 1, 0, none⟩ = some (.int .u64 0) := (blk_cell hf2 0).trans rfl
 have r1 : V.cell? ⟨w.heap.size + 1, 1, none⟩ = some (.bool false) := (blk_cell hf2 1).trans rfl
 have z0 := blk_frozen hf2 0
 have z1 := blk_frozen hf2 1
 have ix := Spc.ix2 (w.heap.size + 2)
 replace HR2 := Aside0.mk HR2
 replace HB2 := Aside0.mk HB2
 replace hX := Aside0.mk hX
 replace hf2 := Aside0.mk hf2
 go_wp2_with (go_at_call 27; refine (Spc.at2 _ _ _ hX.out).mono ?_; rintro e w' ⟨rfl, rfl⟩)
 have hq := blk_put (blk_put hf2.out 0 (.int .u64 b2) rfl) 1 (.bool s2) rfl
 have g0 := (blk_cell hq 0).trans rfl
 have g1 := (blk_cell hq 1).trans rfl
 refine bodyPost_ret (v := .tuple #[.agg #[.int .u64 b2, .bool s2], .int .i64 0]) (by simp [results, Tryz.results7, go_sem, r0, r1]) rfl ⟨rfl, ?_⟩
 exact below_set (below_set HB2.out (by omega)) (by omega)
set_option maxHeartbeats 8000000 in
set_option maxRecDepth 100000 in
theorem Spc.get3 (b0 : Int) (s0 : Bool) (b1 : Int) (s1 : Bool) (b2 : Int) (s2 : Bool) (b3 : Int) (s3 : Bool) (b4 : Int) (s4 : Bool) (w : World) : Calls Tryz.prog 7 #[.agg #[.int .u64 b0, .bool s0, .int .u64 b1, .bool s1, .int .u64 b2, .bool s2, .int .u64 b3, .bool s3, .int .u64 b4, .bool s4], .int .i64 3] w fun e w' => e = .returned (.tuple #[.agg #[.int .u64 b3, .bool s3], .int .i64 0]) ∧ Below w.heap.size w w' := by
 have hk : Hid (spec_known.f 3 = some true) := Lib.hid (by decide)
 have HR : Spc.Row (w.alloc (.cells #[.int .u64 b0, .bool s0, .int .u64 b1, .bool s1, .int .u64 b2, .bool s2, .int .u64 b3, .bool s3, .int .u64 b4, .bool s4] 27)) w.heap.size b0 s0 b1 s1 b2 s2 b3 s3 b4 s4 := blk_new w _
 have HB := below_alloc (Below.refl _ _) (.cells #[.int .u64 b0, .bool s0, .int .u64 b1, .bool s1, .int .u64 b2, .bool s2, .int .u64 b3, .bool s3, .int .u64 b4, .bool s4] 27) (w := w)
 replace HR := Aside0.mk HR
 replace HB := Aside0.mk HB
 go_enter Tryz.func7, Tryz.ntmps7
 go_wp2_with (go_at_call 18; refine (spec_known.calls _ _ _ hk.out).mono ?_; rintro e w' ⟨rfl, ⟨nd, rfl⟩⟩)
 refine Spc.gen (fun W => W.heap.size = w.heap.size + 2 ∧ Below w.heap.size w W ∧ Spc.Row W w.heap.size b0 s0 b1 s1 b2 s2 b3 s3 b4 s4 ∧ W.heap[w.heap.size + 1]? = some (.cells #[.int .u64 0, .bool false] 25 (0, 0))) ?_ ?_
 ·refine ⟨by simp, pw_below_drewN (below_alloc HB.out _) nd, blk_drewN (blk_alloc HR.out _) nd, ?_⟩
  have := heap_alloc_new (w.alloc (.cells #[.int .u64 b0, .bool s0, .int .u64 b1, .bool s1, .int .u64 b2, .bool s2, .int .u64 b3, .bool s3, .int .u64 b4, .bool s4] 27)) (.cells #[.int .u64 0, .bool false] 25)
  simpa using this
 clear HR HB
 rintro W ⟨hz, hB0, hR0, hf0⟩
 refine (Spc.fields_calls _ _).mono ?_
 rintro e V ⟨rfl, hX, hb⟩
 have HR2 : Spc.Row V w.heap.size b0 s0 b1 s1 b2 s2 b3 s3 b4 s4 := blk_below hR0 hb
 have HB2 := below_step hB0 hb
 have hf2 := blk_below hf0 hb
 rw [hz] at hX ⊢
 clear hB0 hR0 hf0 hb hz
 obtain ⟨c0, c1, c2, c3, c4, c5, c6, c7, c8, c9⟩ := HR2.cells
 have r0 : V.cell? ⟨w.heap.size + 1, 0, none⟩ = some (.int .u64 0) := (blk_cell hf2 0).trans rfl
 have r1 : V.cell? ⟨w.heap.size + 1, 1, none⟩ = some (.bool false) := (blk_cell hf2 1).trans rfl
 have z0 := blk_frozen hf2 0
 have z1 := blk_frozen hf2 1
 have ix := Spc.ix3 (w.heap.size + 2)
 replace HR2 := Aside0.mk HR2
 replace HB2 := Aside0.mk HB2
 replace hX := Aside0.mk hX
 replace hf2 := Aside0.mk hf2
 go_wp2_with (go_at_call 28; refine (Spc.at3 _ _ _ hX.out).mono ?_; rintro e w' ⟨rfl, rfl⟩)
 have hq := blk_put (blk_put hf2.out 0 (.int .u64 b3) rfl) 1 (.bool s3) rfl
 have g0 := (blk_cell hq 0).trans rfl
 have g1 := (blk_cell hq 1).trans rfl
 refine bodyPost_ret (v := .tuple #[.agg #[.int .u64 b3, .bool s3], .int .i64 0]) (by simp [results, Tryz.results7, go_sem, r0, r1]) rfl ⟨rfl, ?_⟩
 exact below_set (below_set HB2.out (by omega)) (by omega)
set_option maxHeartbeats 8000000 in
set_option maxRecDepth 100000 in
theorem Spc.get4 (b0 : Int) (s0 : Bool) (b1 : Int) (s1 : Bool) (b2 : Int) (s2 : Bool) (b3 : Int) (s3 : Bool) (b4 : Int) (s4 : Bool) (w : World) : Calls Tryz.prog 7 #[.agg #[.int .u64 b0, .bool s0, .int .u64 b1, .bool s1, .int .u64 b2, .bool s2, .int .u64 b3, .bool s3, .int .u64 b4, .bool s4], .int .i64 4] w fun e w' => e = .returned (.tuple #[.agg #[.int .u64 b4, .bool s4], .int .i64 0]) ∧ Below w.heap.size w w' := by
 have hk : Hid (spec_known.f 4 = some true) := Lib.hid (by decide)
 have HR : Spc.Row (w.alloc (.cells #[.int .u64 b0, .bool s0, .int .u64 b1, .bool s1, .int .u64 b2, .bool s2, .int .u64 b3, .bool s3, .int .u64 b4, .bool s4] 27)) w.heap.size b0 s0 b1 s1 b2 s2 b3 s3 b4 s4 := blk_new w _
 have HB := below_alloc (Below.refl _ _) (.cells #[.int .u64 b0, .bool s0, .int .u64 b1, .bool s1, .int .u64 b2, .bool s2, .int .u64 b3, .bool s3, .int .u64 b4, .bool s4] 27) (w := w)
 replace HR := Aside0.mk HR
 replace HB := Aside0.mk HB
 go_enter Tryz.func7, Tryz.ntmps7
 go_wp2_with (go_at_call 18; refine (spec_known.calls _ _ _ hk.out).mono ?_; rintro e w' ⟨rfl, ⟨nd, rfl⟩⟩)
 refine Spc.gen (fun W => W.heap.size = w.heap.size + 2 ∧ Below w.heap.size w W ∧ Spc.Row W w.heap.size b0 s0 b1 s1 b2 s2 b3 s3 b4 s4 ∧ W.heap[w.heap.size + 1]? = some (.cells #[.int .u64 0, .bool false] 25 (0, 0))) ?_ ?_
 ·refine ⟨by simp, pw_below_drewN (below_alloc HB.out _) nd, blk_drewN (blk_alloc HR.out _) nd, ?_⟩
  have := heap_alloc_new (w.alloc (.cells #[.int .u64 b0, .bool s0, .int .u64 b1, .bool s1, .int .u64 b2, .bool s2, .int .u64 b3, .bool s3, .int .u64 b4, .bool s4] 27)) (.cells #[.int .u64 0, .bool false] 25)
  simpa using this
 clear HR HB
 rintro W ⟨hz, hB0, hR0, hf0⟩
 refine (Spc.fields_calls _ _).mono ?_
 rintro e V ⟨rfl, hX, hb⟩
 have HR2 : Spc.Row V w.heap.size b0 s0 b1 s1 b2 s2 b3 s3 b4 s4 := blk_below hR0 hb
 have HB2 := below_step hB0 hb
 have hf2 := blk_below hf0 hb
 rw [hz] at hX ⊢
 clear hB0 hR0 hf0 hb hz
 obtain ⟨c0, c1, c2, c3, c4, c5, c6, c7, c8, c9⟩ := HR2.cells
 have r0 : V.cell? ⟨w.heap.size + 1, 0, none⟩ = some (.int .u64 0) := (blk_cell hf2 0).trans rfl
 have r1 : V.cell? ⟨w.heap.size + 1, 1, none⟩ = some (.bool false) := (blk_cell hf2 1).trans rfl
 have z0 := blk_frozen hf2 0
 have z1 := blk_frozen hf2 1
 have ix := Spc.ix4 (w.heap.size + 2)
 replace HR2 := Aside0.mk HR2
 replace HB2 := Aside0.mk HB2
 replace hX := Aside0.mk hX
 replace hf2 := Aside0.mk hf2
 go_wp2_with (go_at_call 29; refine (Spc.at4 _ _ _ hX.out).mono ?_; rintro e w' ⟨rfl, rfl⟩)
 have hq := blk_put (blk_put hf2.out 0 (.int .u64 b4) rfl) 1 (.bool s4) rfl
 have g0 := (blk_cell hq 0).trans rfl
 have g1 := (blk_cell hq 1).trans rfl
 refine bodyPost_ret (v := .tuple #[.agg #[.int .u64 b4, .bool s4], .int .i64 0]) (by simp [results, Tryz.results7, go_sem, r0, r1]) rfl ⟨rfl, ?_⟩
 exact below_set (below_set HB2.out (by omega)) (by omega)
def spec_Get.f (a0_0 : Int) (a0_1 : Bool) (a0_2 : Int) (a0_3 : Bool) (a0_4 : Int) (a0_5 : Bool) (a0_6 : Int) (a0_7 : Bool) (a0_8 : Int) (a0_9 : Bool) (a1 : Int) : Option (Int × Bool × Int) := if a1 = 0 then some (a0_0, a0_1, 0) else if a1 = 1 then some (a0_2, a0_3, 0) else if a1 = 2 then some (a0_4, a0_5, 0) else if a1 = 3 then some (a0_6, a0_7, 0) else if a1 = 4 then some (a0_8, a0_9, 0) else some (0, false, 7)
set_option maxHeartbeats 8000000 in
set_option maxRecDepth 100000 in
theorem spec_Get.calls (a0_0 : Int) (a0_1 : Bool) (a0_2 : Int) (a0_3 : Bool) (a0_4 : Int) (a0_5 : Bool) (a0_6 : Int) (a0_7 : Bool) (a0_8 : Int) (a0_9 : Bool) (a1 : Int) (r1 : Int) (r2 : Bool) (r3 : Int) (w : World) (h : spec_Get.f a0_0 a0_1 a0_2 a0_3 a0_4 a0_5 a0_6 a0_7 a0_8 a0_9 a1 = some (r1, r2, r3)) :
  Calls Tryz.prog 7 #[.agg #[.int .u64 a0_0, .bool a0_1, .int .u64 a0_2, .bool a0_3, .int .u64 a0_4, .bool a0_5, .int .u64 a0_6, .bool a0_7, .int .u64 a0_8, .bool a0_9], .int .i64 a1] w fun e w' => e = .returned (.tuple #[.agg #[.int .u64 r1, .bool r2], .int .i64 r3]) ∧ Below w.heap.size w w' := by
 have H : _ = some (r1, r2, r3) := h
 clear h
 unfold spec_Get.f at H
 by_cases c0 : a1 = 0
 ·rw [if_pos c0] at H
  subst c0
  simp only [Option.some.injEq, Prod.mk.injEq] at H
  obtain ⟨rfl, rfl, rfl⟩ := H
  exact Spc.get0 a0_0 a0_1 a0_2 a0_3 a0_4 a0_5 a0_6 a0_7 a0_8 a0_9 w
 rw [if_neg c0] at H
 by_cases c1 : a1 = 1
 ·rw [if_pos c1] at H
  subst c1
  simp only [Option.some.injEq, Prod.mk.injEq] at H
  obtain ⟨rfl, rfl, rfl⟩ := H
  exact Spc.get1 a0_0 a0_1 a0_2 a0_3 a0_4 a0_5 a0_6 a0_7 a0_8 a0_9 w
 rw [if_neg c1] at H
 by_cases c2 : a1 = 2
 ·rw [if_pos c2] at H
  subst c2
  simp only [Option.some.injEq, Prod.mk.injEq] at H
  obtain ⟨rfl, rfl, rfl⟩ := H
  exact Spc.get2 a0_0 a0_1 a0_2 a0_3 a0_4 a0_5 a0_6 a0_7 a0_8 a0_9 w
 rw [if_neg c2] at H
 by_cases c3 : a1 = 3
 ·rw [if_pos c3] at H
  subst c3
  simp only [Option.some.injEq, Prod.mk.injEq] at H
  obtain ⟨rfl, rfl, rfl⟩ := H
  exact Spc.get3 a0_0 a0_1 a0_2 a0_3 a0_4 a0_5 a0_6 a0_7 a0_8 a0_9 w
 rw [if_neg c3] at H
 by_cases c4 : a1 = 4
 ·rw [if_pos c4] at H
  subst c4
  simp only [Option.some.injEq, Prod.mk.injEq] at H
  obtain ⟨rfl, rfl, rfl⟩ := H
  exact Spc.get4 a0_0 a0_1 a0_2 a0_3 a0_4 a0_5 a0_6 a0_7 a0_8 a0_9 w
 rw [if_neg c4] at H
 simp only [Option.some.injEq, Prod.mk.injEq] at H
 obtain ⟨rfl, rfl, rfl⟩ := H
 exact Spc.get_bad a0_0 a0_1 a0_2 a0_3 a0_4 a0_5 a0_6 a0_7 a0_8 a0_9 a1 (by omega) w

/-! ### spec_With: function 8 -/
set_option maxHeartbeats 8000000 in
set_option maxRecDepth 100000 in
theorem Spc.with_bad (b0 : Int) (s0 : Bool) (b1 : Int) (s1 : Bool) (b2 : Int) (s2 : Bool) (b3 : Int) (s3 : Bool) (b4 : Int) (s4 : Bool) (kind : Int) (fb : Int) (fs : Bool) (h : kind < 0 ∨ 4 < kind) (w : World) : Calls Tryz.prog 8 #[.agg #[.int .u64 b0, .bool s0, .int .u64 b1, .bool s1, .int .u64 b2, .bool s2, .int .u64 b3, .bool s3, .int .u64 b4, .bool s4], .int .i64 kind, .agg #[.int .u64 fb, .bool fs]] w fun e w' => e = .returned (.tuple #[.agg #[.int .u64 b0, .bool s0, .int .u64 b1, .bool s1, .int .u64 b2, .bool s2, .int .u64 b3, .bool s3, .int .u64 b4, .bool s4], .int .i64 7]) ∧ Below w.heap.size w w' := by
 have hk : Hid (spec_known.f kind = some false) := Lib.hid (by unfold spec_known.f; rcases h with h | h <;> (simp; omega))
 clear h
 go_enter Tryz.func8, Tryz.ntmps8
 go_wp2_with (go_at_call 18; refine (spec_known.calls _ _ _ hk.out).mono ?_; rintro e w' ⟨rfl, ⟨nd, rfl⟩⟩)
 refine bodyPost_ret (v := .tuple #[.agg #[.int .u64 b0, .bool s0, .int .u64 b1, .bool s1, .int .u64 b2, .bool s2, .int .u64 b3, .bool s3, .int .u64 b4, .bool s4], .int .i64 7]) (by simp [results, Tryz.results8, go_sem]) rfl ⟨rfl, ?_⟩
 have HB := Aside0.mk (Below.refl w.heap.size w)
 repeat (with_reducible first | exact HB.out | apply below_alloc | apply pw_below_drewN | apply below_drew1 | (refine below_set ?_ (by omega)) | exact HB.out)
set_option maxHeartbeats 8000000 in
set_option maxRecDepth 100000 in
theorem Spc.with0 (b0 : Int) (s0 : Bool) (b1 : Int) (s1 : Bool) (b2 : Int) (s2 : Bool) (b3 : Int) (s3 : Bool) (b4 : Int) (s4 : Bool) (fb : Int) (fs : Bool) (w : World) : Calls Tryz.prog 8 #[.agg #[.int .u64 b0, .bool s0, .int .u64 b1, .bool s1, .int .u64 b2, .bool s2, .int .u64 b3, .bool s3, .int .u64 b4, .bool s4], .int .i64 0, .agg #[.int .u64 fb, .bool fs]] w fun e w' => e = .returned (.tuple #[.agg #[.int .u64 fb, .bool fs, .int .u64 b1, .bool s1, .int .u64 b2, .bool s2, .int .u64 b3, .bool s3, .int .u64 b4, .bool s4], .int .i64 0]) ∧ Below w.heap.size w w' := by
 have hk : Hid (spec_known.f 0 = some true) := Lib.hid (by decide)
 go_enter Tryz.func8, Tryz.ntmps8
 go_wp2_with (go_at_call 18; refine (spec_known.calls _ _ _ hk.out).mono ?_; rintro e w' ⟨rfl, ⟨nd, rfl⟩⟩)
 refine Fld.genW (fun W => W.heap.size = w.heap.size + 3 ∧ Below w.heap.size w W ∧ Spc.Row W w.heap.size b0 s0 b1 s1 b2 s2 b3 s3 b4 s4 ∧ W.heap[w.heap.size + 1]? = some (.cells #[.int .u64 fb, .bool fs] 25 (0, 0)) ∧ W.heap[w.heap.size + 2]? = some (.cells #[.int .u64 0, .bool false, .int .u64 0, .bool false, .int .u64 0, .bool false, .int .u64 0, .bool false, .int .u64 0, .bool false] 27 (0, 0))) ?_ ?_
 ·refine ⟨by simp, pw_below_drewN (below_alloc (below_alloc (below_alloc (Below.refl _ _) _) _) _) nd, blk_drewN (blk_alloc (blk_alloc (blk_new w _) _) _) nd, ?_, ?_⟩
  ·have := heap_alloc_new (w.alloc (.cells #[.int .u64 b0, .bool s0, .int .u64 b1, .bool s1, .int .u64 b2, .bool s2, .int .u64 b3, .bool s3, .int .u64 b4, .bool s4] 27)) (.cells #[.int .u64 fb, .bool fs] 25)
   refine blk_drewN (blk_alloc ?_ _) nd
   simpa using this
  ·have := heap_alloc_new ((w.alloc (.cells #[.int .u64 b0, .bool s0, .int .u64 b1, .bool s1, .int .u64 b2, .bool s2, .int .u64 b3, .bool s3, .int .u64 b4, .bool s4] 27)).alloc (.cells #[.int .u64 fb, .bool fs] 25)) (.cells #[.int .u64 0, .bool false, .int .u64 0, .bool false, .int .u64 0, .bool false, .int .u64 0, .bool false, .int .u64 0, .bool false] 27)
   refine blk_drewN ?_ nd
   simpa using this
 rintro W ⟨hz, hB0, hR0, hF0, hT0⟩
 have f0 : W.cell? ⟨w.heap.size + 1, 0, none⟩ = some (.int .u64 fb) := (blk_cell hF0 0).trans rfl
 have f1 : W.cell? ⟨w.heap.size + 1, 1, none⟩ = some (.bool fs) := (blk_cell hF0 1).trans rfl
 have ix := Spc.ix0
 replace hB0 := Aside0.mk hB0
 replace hR0 := Aside0.mk hR0
 replace hF0 := Aside0.mk hF0
 replace hT0 := Aside0.mk hT0
 replace hz := Lib.hid hz
 go_region_with (first | (go_at_call 13; refine (Spc.fields_calls _ _).mono ?_; rintro e V ⟨rfl, hX, hb⟩; have hF1 := (hb.block (w.heap.size + 1) (blk_lt hF0.out)).trans hF0.out; have hR1 : Spc.Row V w.heap.size b0 s0 b1 s1 b2 s2 b3 s3 b4 s4 := (hb.block w.heap.size (blk_lt hR0.out)).trans hR0.out; have f0V : V.cell? ⟨w.heap.size + 1, 0, none⟩ = some (.int .u64 fb) := (blk_cell hF1 0).trans rfl; have f1V : V.cell? ⟨w.heap.size + 1, 1, none⟩ = some (.bool fs) := (blk_cell hF1 1).trans rfl; have c0V : V.cell? ⟨w.heap.size, 0, none⟩ = some (.int .u64 b0) := (blk_cell hR1 0).trans rfl; have c1V : V.cell? ⟨w.heap.size, 1, none⟩ = some (.bool s0) := (blk_cell hR1 1).trans rfl; have c2V : V.cell? ⟨w.heap.size, 2, none⟩ = some (.int .u64 b1) := (blk_cell hR1 2).trans rfl; have c3V : V.cell? ⟨w.heap.size, 3, none⟩ = some (.bool s1) := (blk_cell hR1 3).trans rfl; have c4V : V.cell? ⟨w.heap.size, 4, none⟩ = some (.int .u64 b2) := (blk_cell hR1 4).trans rfl; have c5V : V.cell? ⟨w.heap.size, 5, none⟩ = some (.bool s2) := (blk_cell hR1 5).trans rfl; have c6V : V.cell? ⟨w.heap.size, 6, none⟩ = some (.int .u64 b3) := (blk_cell hR1 6).trans rfl; have c7V : V.cell? ⟨w.heap.size, 7, none⟩ = some (.bool s3) := (blk_cell hR1 7).trans rfl; have c8V : V.cell? ⟨w.heap.size, 8, none⟩ = some (.int .u64 b4) := (blk_cell hR1 8).trans rfl; have c9V : V.cell? ⟨w.heap.size, 9, none⟩ = some (.bool s4) := (blk_cell hR1 9).trans rfl; have hT1 : V.heap[w.heap.size + 2]? = some (.cells #[.int .u64 0, .bool false, .int .u64 0, .bool false, .int .u64 0, .bool false, .int .u64 0, .bool false, .int .u64 0, .bool false] 27 (0, 0)) := (hb.block (w.heap.size + 2) (blk_lt hT0.out)).trans hT0.out; have t0V : V.cell? ⟨w.heap.size + 2, 0, none⟩ = some (.int .u64 0) := (blk_cell hT1 0).trans rfl; have t1V : V.cell? ⟨w.heap.size + 2, 1, none⟩ = some (.bool false) := (blk_cell hT1 1).trans rfl; have t2V : V.cell? ⟨w.heap.size + 2, 2, none⟩ = some (.int .u64 0) := (blk_cell hT1 2).trans rfl; have t3V : V.cell? ⟨w.heap.size + 2, 3, none⟩ = some (.bool false) := (blk_cell hT1 3).trans rfl; have t4V : V.cell? ⟨w.heap.size + 2, 4, none⟩ = some (.int .u64 0) := (blk_cell hT1 4).trans rfl; have t5V : V.cell? ⟨w.heap.size + 2, 5, none⟩ = some (.bool false) := (blk_cell hT1 5).trans rfl; have t6V : V.cell? ⟨w.heap.size + 2, 6, none⟩ = some (.int .u64 0) := (blk_cell hT1 6).trans rfl; have t7V : V.cell? ⟨w.heap.size + 2, 7, none⟩ = some (.bool false) := (blk_cell hT1 7).trans rfl; have t8V : V.cell? ⟨w.heap.size + 2, 8, none⟩ = some (.int .u64 0) := (blk_cell hT1 8).trans rfl; have t9V : V.cell? ⟨w.heap.size + 2, 9, none⟩ = some (.bool false) := (blk_cell hT1 9).trans rfl; have zR : ∀ j, V.frozen? ⟨w.heap.size, j, none⟩ = false := fun j => blk_frozen hR1 j; have zT : ∀ j, V.frozen? ⟨w.heap.size + 2, j, none⟩ = false := fun j => blk_frozen hT1 j; have hBV := Aside0.mk (below_step (by repeat (with_reducible first | exact hB0.out | apply below_drew1 | apply pw_below_drewN)) hb); have gR := Aside0.mk hR1; have gT := Aside0.mk hT1; clear hR1 hT1 hF1 hb) | (go_at_call 25; refine (Spc.at0 _ w.heap.size _ (by assumption)).mono ?_; rintro e w' ⟨rfl, rfl⟩))
 all_goals go_wp2_with fail
 all_goals refine bodyPost_ret (v := .tuple #[.agg #[.int .u64 fb, .bool fs, .int .u64 b1, .bool s1, .int .u64 b2, .bool s2, .int .u64 b3, .bool s3, .int .u64 b4, .bool s4], .int .i64 0]) (by simp [results, Tryz.results8, go_sem, *]) rfl ⟨rfl, ?_⟩
 all_goals repeat (first | (with_reducible first | exact hBV.out | apply below_drew1 | apply pw_below_drewN | (refine below_set ?_ (by omega))) | exact hBV.out)
set_option maxHeartbeats 8000000 in
set_option maxRecDepth 100000 in
theorem Spc.with1 (b0 : Int) (s0 : Bool) (b1 : Int) (s1 : Bool) (b2 : Int) (s2 : Bool) (b3 : Int) (s3 : Bool) (b4 : Int) (s4 : Bool) (fb : Int) (fs : Bool) (w : World) : Calls Tryz.prog 8 #[.agg #[.int .u64 b0, .bool s0, .int .u64 b1, .bool s1, .int .u64 b2, .bool s2, .int .u64 b3, .bool s3, .int .u64 b4, .bool s4], .int .i64 1, .agg #[.int .u64 fb, .bool fs]] w fun e w' => e = .returned (.tuple #[.agg #[.int .u64 b0, .bool s0, .int .u64 fb, .bool fs, .int .u64 b2, .bool s2, .int .u64 b3, .bool s3, .int .u64 b4, .bool s4], .int .i64 0]) ∧ Below w.heap.size w w' := by
 have hk : Hid (spec_known.f 1 = some true) := Lib.hid (by decide)
 go_enter Tryz.func8, Tryz.ntmps8
 go_wp2_with (go_at_call 18; refine (spec_known.calls _ _ _ hk.out).mono ?_; rintro e w' ⟨rfl, ⟨nd, rfl⟩⟩)
 refine Fld.genW (fun W => W.heap.size = w.heap.size + 3 ∧ Below w.heap.size w W ∧ Spc.Row W w.heap.size b0 s0 b1 s1 b2 s2 b3 s3 b4 s4 ∧ W.heap[w.heap.size + 1]? = some (.cells #[.int .u64 fb, .bool fs] 25 (0, 0)) ∧ W.heap[w.heap.size + 2]? = some (.cells #[.int .u64 0, .bool false, .int .u64 0, .bool false, .int .u64 0, .bool false, .int .u64 0, .bool false, .int .u64 0, .bool false] 27 (0, 0))) ?_ ?_
 ·refine ⟨by simp, pw_below_drewN (below_alloc (below_alloc (below_alloc (Below.refl _ _) _) _) _) nd, blk_drewN (blk_alloc (blk_alloc (blk_new w _) _) _) nd, ?_, ?_⟩
  ·have := heap_alloc_new (w.alloc (.cells #[.int .u64 b0, .bool s0, .int .u64 b1, .bool s1, .int .u64 b2, .bool s2, .int .u64 b3, .bool s3, .int .u64 b4, .bool s4] 27)) (.cells #[.int .u64 fb, .bool fs] 25)
   refine blk_drewN (blk_alloc ?_ _) nd
   simpa using this
  ·have := heap_alloc_new ((w.alloc (.cells #[.int .u64 b0, .bool s0, .int .u64 b1, .bool s1, .int .u64 b2, .bool s2, .int .u64 b3, .bool s3, .int .u64 b4, .bool s4] 27)).alloc (.cells #[.int .u64 fb, .bool fs] 25)) (.cells #[.int .u64 0, .bool false, .int .u64 0, .bool false, .int .u64 0, .bool false, .int .u64 0, .bool false, .int .u64 0, .bool false] 27)
   refine blk_drewN ?_ nd
   simpa using this
 rintro W ⟨hz, hB0, hR0, hF0, hT0⟩
 have f0 : W.cell? ⟨w.heap.size + 1, 0, none⟩ = some (.int .u64 fb) := (blk_cell hF0 0).trans rfl
 have f1 : W.cell? ⟨w.heap.size + 1, 1, none⟩ = some (.bool fs) := (blk_cell hF0 1).trans rfl
 have ix := Spc.ix1
 replace hB0 := Aside0.mk hB0
 replace hR0 := Aside0.mk hR0
 replace hF0 := Aside0.mk hF0
 replace hT0 := Aside0.mk hT0
 replace hz := Lib.hid hz
 go_region_with (first | (go_at_call 13; refine (Spc.fields_calls _ _).mono ?_; rintro e V ⟨rfl, hX, hb⟩; have hF1 := (hb.block (w.heap.size + 1) (blk_lt hF0.out)).trans hF0.out; have hR1 : Spc.Row V w.heap.size b0 s0 b1 s1 b2 s2 b3 s3 b4 s4 := (hb.block w.heap.size (blk_lt hR0.out)).trans hR0.out; have f0V : V.cell? ⟨w.heap.size + 1, 0, none⟩ = some (.int .u64 fb) := (blk_cell hF1 0).trans rfl; have f1V : V.cell? ⟨w.heap.size + 1, 1, none⟩ = some (.bool fs) := (blk_cell hF1 1).trans rfl; have c0V : V.cell? ⟨w.heap.size, 0, none⟩ = some (.int .u64 b0) := (blk_cell hR1 0).trans rfl; have c1V : V.cell? ⟨w.heap.size, 1, none⟩ = some (.bool s0) := (blk_cell hR1 1).trans rfl; have c2V : V.cell? ⟨w.heap.size, 2, none⟩ = some (.int .u64 b1) := (blk_cell hR1 2).trans rfl; have c3V : V.cell? ⟨w.heap.size, 3, none⟩ = some (.bool s1) := (blk_cell hR1 3).trans rfl; have c4V : V.cell? ⟨w.heap.size, 4, none⟩ = some (.int .u64 b2) := (blk_cell hR1 4).trans rfl; have c5V : V.cell? ⟨w.heap.size, 5, none⟩ = some (.bool s2) := (blk_cell hR1 5).trans rfl; have c6V : V.cell? ⟨w.heap.size, 6, none⟩ = some (.int .u64 b3) := (blk_cell hR1 6).trans rfl; have c7V : V.cell? ⟨w.heap.size, 7, none⟩ = some (.bool s3) := (blk_cell hR1 7).trans rfl; have c8V : V.cell? ⟨w.heap.size, 8, none⟩ = some (.int .u64 b4) := (blk_cell hR1 8).trans rfl; have c9V : V.cell? ⟨w.heap.size, 9, none⟩ = some (.bool s4) := (blk_cell hR1 9).trans rfl; have hT1 : V.heap[w.heap.size + 2]? = some (.cells #[.int .u64 0, .bool false, .int .u64 0, .bool false, .int .u64 0, .bool false, .int .u64 0, .bool false, .int .u64 0, .bool false] 27 (0, 0)) := (hb.block (w.heap.size + 2) (blk_lt hT0.out)).trans hT0.out; have t0V : V.cell? ⟨w.heap.size + 2, 0, none⟩ = some (.int .u64 0) := (blk_cell hT1 0).trans rfl; have t1V : V.cell? ⟨w.heap.size + 2, 1, none⟩ = some (.bool false) := (blk_cell hT1 1).trans rfl; have t2V : V.cell? ⟨w.heap.size + 2, 2, none⟩ = some (.int .u64 0) := (blk_cell hT1 2).trans rfl; have t3V : V.cell? ⟨w.heap.size + 2, 3, none⟩ = some (.bool false) := (blk_cell hT1 3).trans rfl; have t4V : V.cell? ⟨w.heap.size + 2, 4, none⟩ = some (.int .u64 0) := (blk_cell hT1 4).trans rfl; have t5V : V.cell? ⟨w.heap.size + 2, 5, none⟩ = some (.bool false) := (blk_cell hT1 5).trans rfl; have t6V : V.cell? ⟨w.heap.size + 2, 6, none⟩ = some (.int .u64 0) := (blk_cell hT1 6).trans rfl; have t7V : V.cell? ⟨w.heap.size + 2, 7, none⟩ = some (.bool false) := (blk_cell hT1 7).trans rfl; have t8V : V.cell? ⟨w.heap.size + 2, 8, none⟩ = some (.int .u64 0) := (blk_cell hT1 8).trans rfl; have t9V : V.cell? ⟨w.heap.size + 2, 9, none⟩ = some (.bool false) := (blk_cell hT1 9).trans rfl; have zR : ∀ j, V.frozen? ⟨w.heap.size, j, none⟩ = false := fun j => blk_frozen hR1 j; have zT : ∀ j, V.frozen? ⟨w.heap.size + 2, j, none⟩ = false := fun j => blk_frozen hT1 j; have hBV := Aside0.mk (below_step (by repeat (with_reducible first | exact hB0.out | apply below_drew1 | apply pw_below_drewN)) hb); have gR := Aside0.mk hR1; have gT := Aside0.mk hT1; clear hR1 hT1 hF1 hb) | (go_at_call 26; refine (Spc.at1 _ w.heap.size _ (by assumption)).mono ?_; rintro e w' ⟨rfl, rfl⟩))
 all_goals go_wp2_with fail
 all_goals refine bodyPost_ret (v := .tuple #[.agg #[.int .u64 b0, .bool s0, .int .u64 fb, .bool fs, .int .u64 b2, .bool s2, .int .u64 b3, .bool s3, .int .u64 b4, .bool s4], .int .i64 0]) (by simp [results, Tryz.results8, go_sem, *]) rfl ⟨rfl, ?_⟩
 all_goals repeat (first | (with_reducible first | exact hBV.out | apply below_drew1 | apply pw_below_drewN | (refine below_set ?_ (by omega))) | exact hBV.out)
set_option maxHeartbeats 8000000 in
set_option maxRecDepth 100000 in
theorem Spc.with2 (b0 : Int) (s0 : Bool) (b1 : Int) (s1 : Bool) (b2 : Int) (s2 : Bool) (b3 : Int) (s3 : Bool) (b4 : Int) (s4 : Bool) (fb : Int) (fs : Bool) (w : World) : Calls Tryz.prog 8 #[.agg #[.int .u64 b0, .bool s0, .int .u64 b1, .bool s1, .int .u64 b2, .bool s2, .int .u64 b3, .bool s3, .int .u64 b4, .bool s4], .int .i64 2, .agg #[.int .u64 fb, .bool fs]] w fun e w' => e = .returned (.tuple #[.agg #[.int .u64 b0, .bool s0, .int .u64 b1, .bool s1, .int .u64 fb, .bool fs, .int .u64 b3, .bool s3, .int .u64 b4, .bool s4], .int .i64 0]) ∧ Below w.heap.size w w' := by
 have hk : Hid (spec_known.f 2 = some true) := Lib.hid (by decide)
 go_enter Tryz.func8, Tryz.ntmps8
 go_wp2_with (go_at_call 18; refine (spec_known.calls _ _ _ hk.out).mono ?_; rintro e w' ⟨rfl, ⟨nd, rfl⟩⟩)
 refine Fld.genW (fun W => W.heap.size = w.heap.size + 3 ∧ Below w.heap.size w W ∧ Spc.Row W w.heap.size b0 s0 b1 s1 b2 s2 b3 s3 b4 s4 ∧ W.heap[w.heap.size + 1]? = some (.cells #[.int .u64 fb, .bool fs] 25 (0, 0)) ∧ W.heap[w.heap.size + 2]? = some (.cells #[.int .u64 0, .bool false, .int .u64 0, .bool false, .int .u64 0, .bool false, .int .u64 0, .bool false, .int .u64 0, .bool false] 27 (0, 0))) ?_ ?_
 ·refine ⟨by simp, pw_below_drewN (below_alloc (below_alloc (below_alloc (Below.refl _ _) _) _) _) nd, blk_drewN (blk_alloc (blk_alloc (blk_new w _) _) _) nd, ?_, ?_⟩
  ·have := heap_alloc_new (w.alloc (.cells #[.int .u64 b0, .bool s0, .int .u64 b1, .bool s1, .int .u64 b2, .bool s2, .int .u64 b3, .bool s3, .int .u64 b4, .bool s4] 27)) (.cells #[.int .u64 fb, .bool fs] 25)
   refine blk_drewN (blk_alloc ?_ _) nd
   simpa using this
  ·have := heap_alloc_new ((w.alloc (.cells #[.int .u64 b0, .bool s0, .int .u64 b1, .bool s1, .int .u64 b2, .bool s2, .int .u64 b3, .bool s3, .int .u64 b4, .bool s4] 27)).alloc (.cells #[.int .u64 fb, .bool fs] 25)) (.cells #[.int .u64 0, .bool false, .int .u64 0, .bool false, .int .u64 0, .bool false, .int .u64 0, .bool false, .int .u64 0, .bool false] 27)
   refine blk_drewN ?_ nd
   simpa using this
 rintro W ⟨hz, hB0, hR0, hF0, hT0⟩
 have f0 : W.cell? ⟨w.heap.size + 1, 0, none⟩ = some (.int .u64 fb) := (blk_cell hF0 0).trans rfl
 have f1 : W.cell? ⟨w.heap.size + 1, 1, none⟩ = some (.bool fs) := (blk_cell hF0 1).trans rfl
 have ix := Spc.ix2
 replace hB0 := Aside0.mk hB0
 replace hR0 := Aside0.mk hR0
 replace hF0 := Aside0.mk hF0
 replace hT0 := Aside0.mk hT0
 replace hz := Lib.hid hz
 go_region_with (first | (go_at_call 13; refine (Spc.fields_calls _ _).mono ?_; rintro e V ⟨rfl, hX, hb⟩; have hF1 := (hb.block (w.heap.size + 1) (blk_lt hF0.out)).trans hF0.out; have hR1 : Spc.Row V w.heap.size b0 s0 b1 s1 b2 s2 b3 s3 b4 s4 := (hb.block w.heap.size (blk_lt hR0.out)).trans hR0.out; have f0V : V.cell? ⟨w.heap.size + 1, 0, none⟩ = some (.int .u64 fb) := (blk_cell hF1 0).trans rfl; have f1V : V.cell? ⟨w.heap.size + 1, 1, none⟩ = some (.bool fs) := (blk_cell hF1 1).trans rfl; have c0V : V.cell? ⟨w.heap.size, 0, none⟩ = some (.int .u64 b0) := (blk_cell hR1 0).trans rfl; have c1V : V.cell? ⟨w.heap.size, 1, none⟩ = some (.bool s0) := (blk_cell hR1 1).trans rfl; have c2V : V.cell? ⟨w.heap.size, 2, none⟩ = some (.int .u64 b1) := (blk_cell hR1 2).trans rfl; have c3V : V.cell? ⟨w.heap.size, 3, none⟩ = some (.bool s1) := (blk_cell hR1 3).trans rfl; have c4V : V.cell? ⟨w.heap.size, 4, none⟩ = some (.int .u64 b2) := (blk_cell hR1 4).trans rfl; have c5V : V.cell? ⟨w.heap.size, 5, none⟩ = some (.bool s2) := (blk_cell hR1 5).trans rfl; have c6V : V.cell? ⟨w.heap.size, 6, none⟩ = some (.int .u64 b3) := (blk_cell hR1 6).trans rfl; have c7V : V.cell? ⟨w.heap.size, 7, none⟩ = some (.bool s3) := (blk_cell hR1 7).trans rfl; have c8V : V.cell? ⟨w.heap.size, 8, none⟩ = some (.int .u64 b4) := (blk_cell hR1 8).trans rfl; have c9V : V.cell? ⟨w.heap.size, 9, none⟩ = some (.bool s4) := (blk_cell hR1 9).trans rfl; have hT1 : V.heap[w.heap.size + 2]? = some (.cells #[.int .u64 0, .bool false, .int .u64 0, .bool false, .int .u64 0, .bool false, .int .u64 0, .bool false, .int .u64 0, .bool false] 27 (0, 0)) := (hb.block (w.heap.size + 2) (blk_lt hT0.out)).trans hT0.out; have t0V : V.cell? ⟨w.heap.size + 2, 0, none⟩ = some (.int .u64 0) := (blk_cell hT1 0).trans rfl; have t1V : V.cell? ⟨w.heap.size + 2, 1, none⟩ = some (.bool false) := (blk_cell hT1 1).trans rfl; have t2V : V.cell? ⟨w.heap.size + 2, 2, none⟩ = some (.int .u64 0) := (blk_cell hT1 2).trans rfl; have t3V : V.cell? ⟨w.heap.size + 2, 3, none⟩ = some (.bool false) := (blk_cell hT1 3).trans rfl; have t4V : V.cell? ⟨w.heap.size + 2, 4, none⟩ = some (.int .u64 0) := (blk_cell hT1 4).trans rfl; have t5V : V.cell? ⟨w.heap.size + 2, 5, none⟩ = some (.bool false) := (blk_cell hT1 5).trans rfl; have t6V : V.cell? ⟨w.heap.size + 2, 6, none⟩ = some (.int .u64 0) := (blk_cell hT1 6).trans rfl; have t7V : V.cell? ⟨w.heap.size + 2, 7, none⟩ = some (.bool false) := (blk_cell hT1 7).trans rfl; have t8V : V.cell? ⟨w.heap.size + 2, 8, none⟩ = some (.int .u64 0) := (blk_cell hT1 8).trans rfl; have t9V : V.cell? ⟨w.heap.size + 2, 9, none⟩ = some (.bool false) := (blk_cell hT1 9).trans rfl; have zR : ∀ j, V.frozen? ⟨w.heap.size, j, none⟩ = false := fun j => blk_frozen hR1 j; have zT : ∀ j, V.frozen? ⟨w.heap.size + 2, j, none⟩ = false := fun j => blk_frozen hT1 j; have hBV := Aside0.mk (below_step (by repeat (with_reducible first | exact hB0.out | apply below_drew1 | apply pw_below_drewN)) hb); have gR := Aside0.mk hR1; have gT := Aside0.mk hT1; clear hR1 hT1 hF1 hb) | (go_at_call 27; refine (Spc.at2 _ w.heap.size _ (by assumption)).mono ?_; rintro e w' ⟨rfl, rfl⟩))
 all_goals go_wp2_with fail
 all_goals refine bodyPost_ret (v := .tuple #[.agg #[.int .u64 b0, .bool s0, .int .u64 b1, .bool s1, .int .u64 fb, .bool fs, .int .u64 b3, .bool s3, .int .u64 b4, .bool s4], .int .i64 0]) (by simp [results, Tryz.results8, go_sem, *]) rfl ⟨rfl, ?_⟩
 all_goals repeat (first | (with_reducible first | exact hBV.out | apply below_drew1 | apply pw_below_drewN | (refine below_set ?_ (by omega))) | exact hBV.out)
set_option maxHeartbeats 8000000 in
set_option maxRecDepth 100000 in
theorem Spc.with3 (b0 : Int) (s0 : Bool) (b1 : Int) (s1 : Bool) (b2 : Int) (s2 : Bool) (b3 : Int) (s3 : Bool) (b4 : Int) (s4 : Bool) (fb : Int) (fs : Bool) (w : World) : Calls Tryz.prog 8 #[.agg #[.int .u64 b0, .bool s0, .int .u64 b1, .bool s1, .int .u64 b2, .bool s2, .int .u64 b3, .bool s3, .int .u64 b4, .bool s4], .int .i64 3, .agg #[.int .u64 fb, .bool fs]] w fun e w' => e = .returned (.tuple #[.agg #[.int .u64 b0, .bool s0, .int .u64 b1, .bool s1, .int .u64 b2, .bool s2, .int .u64 fb, .bool fs, .int .u64 b4, .bool s4], .int .i64 0]) ∧ Below w.heap.size w w' := by
 have hk : Hid (spec_known.f 3 = some true) := Lib.hid (by decide)
 go_enter Tryz.func8, Tryz.ntmps8
 go_wp2_with (go_at_call 18; refine (spec_known.calls _ _ _ hk.out).mono ?_; rintro e w' ⟨rfl, ⟨nd, rfl⟩⟩)
 refine Fld.genW (fun W => W.heap.size = w.heap.size + 3 ∧ Below w.heap.size w W ∧ Spc.Row W w.heap.size b0 s0 b1 s1 b2 s2 b3 s3 b4 s4 ∧ W.heap[w.heap.size + 1]? = some (.cells #[.int .u64 fb, .bool fs] 25 (0, 0)) ∧ W.heap[w.heap.size + 2]? = some (.cells #[.int .u64 0, .bool false, .int .u64 0, .bool false, .int .u64 0, .bool false, .int .u64 0, .bool false, .int .u64 0, .bool false] 27 (0, 0))) ?_ ?_
 ·refine ⟨by simp, pw_below_drewN (below_alloc (below_alloc (below_alloc (Below.refl _ _) _) _) _) nd, blk_drewN (blk_alloc (blk_alloc (blk_new w _) _) _) nd, ?_, ?_⟩
  ·have := heap_alloc_new (w.alloc (.cells #[.int .u64 b0, .bool s0, .int .u64 b1, .bool s1, .int .u64 b2, .bool s2, .int .u64 b3, .bool s3, .int .u64 b4, .bool s4] 27)) (.cells #[.int .u64 fb, .bool fs] 25)
   refine blk_drewN (blk_alloc ?_ _) nd
   simpa using this
  ·have := heap_alloc_new ((w.alloc (.cells #[.int .u64 b0, .bool s0, .int .u64 b1, .bool s1, .int .u64 b2, .bool s2, .int .u64 b3, .bool s3, .int .u64 b4, .bool s4] 27)).alloc (.cells #[.int .u64 fb, .bool fs] 25)) (.cells #[.int .u64 0, .bool false, .int .u64 0, .bool false, .int .u64 0, .bool false, .int .u64 0, .bool false, .int .u64 0, .bool false] 27)
   refine blk_drewN ?_ nd
   simpa using this
 rintro W ⟨hz, hB0, hR0, hF0, hT0⟩
 have f0 : W.cell? ⟨w.heap.size + 1, 0, none⟩ = some (.int .u64 fb) := (blk_cell hF0 0).trans rfl
 have f1 : W.cell? ⟨w.heap.size + 1, 1, none⟩ = some (.bool fs) := (blk_cell hF0 1).trans rfl
 have ix := Spc.ix3
 replace hB0 := Aside0.mk hB0
 replace hR0 := Aside0.mk hR0
 replace hF0 := Aside0.mk hF0
 replace hT0 := Aside0.mk hT0
 replace hz := Lib.hid hz
 go_region_with (first | (go_at_call 13; refine (Spc.fields_calls _ _).mono ?_; rintro e V ⟨rfl, hX, hb⟩; have hF1 := (hb.block (w.heap.size + 1) (blk_lt hF0.out)).trans hF0.out; have hR1 : Spc.Row V w.heap.size b0 s0 b1 s1 b2 s2 b3 s3 b4 s4 := (hb.block w.heap.size (blk_lt hR0.out)).trans hR0.out; have f0V : V.cell? ⟨w.heap.size + 1, 0, none⟩ = some (.int .u64 fb) := (blk_cell hF1 0).trans rfl; have f1V : V.cell? ⟨w.heap.size + 1, 1, none⟩ = some (.bool fs) := (blk_cell hF1 1).trans rfl; have c0V : V.cell? ⟨w.heap.size, 0, none⟩ = some (.int .u64 b0) := (blk_cell hR1 0).trans rfl; have c1V : V.cell? ⟨w.heap.size, 1, none⟩ = some (.bool s0) := (blk_cell hR1 1).trans rfl; have c2V : V.cell? ⟨w.heap.size, 2, none⟩ = some (.int .u64 b1) := (blk_cell hR1 2).trans rfl; have c3V : V.cell? ⟨w.heap.size, 3, none⟩ = some (.bool s1) := (blk_cell hR1 3).trans rfl; have c4V : V.cell? ⟨w.heap.size, 4, none⟩ = some (.int .u64 b2) := (blk_cell hR1 4).trans rfl; have c5V : V.cell? ⟨w.heap.size, 5, none⟩ = some (.bool s2) := (blk_cell hR1 5).trans rfl; have c6V : V.cell? ⟨w.heap.size, 6, none⟩ = some (.int .u64 b3) := (blk_cell hR1 6).trans rfl; have c7V : V.cell? ⟨w.heap.size, 7, none⟩ = some (.bool s3) := (blk_cell hR1 7).trans rfl; have c8V : V.cell? ⟨w.heap.size, 8, none⟩ = some (.int .u64 b4) := (blk_cell hR1 8).trans rfl; have c9V : V.cell? ⟨w.heap.size, 9, none⟩ = some (.bool s4) := (blk_cell hR1 9).trans rfl; have hT1 : V.heap[w.heap.size + 2]? = some (.cells #[.int .u64 0, .bool false, .int .u64 0, .bool false, .int .u64 0, .bool false, .int .u64 0, .bool false, .int .u64 0, .bool false] 27 (0, 0)) := (hb.block (w.heap.size + 2) (blk_lt hT0.out)).trans hT0.out; have t0V : V.cell? ⟨w.heap.size + 2, 0, none⟩ = some (.int .u64 0) := (blk_cell hT1 0).trans rfl; have t1V : V.cell? ⟨w.heap.size + 2, 1, none⟩ = some (.bool false) := (blk_cell hT1 1).trans rfl; have t2V : V.cell? ⟨w.heap.size + 2, 2, none⟩ = some (.int .u64 0) := (blk_cell hT1 2).trans rfl; have t3V : V.cell? ⟨w.heap.size + 2, 3, none⟩ = some (.bool false) := (blk_cell hT1 3).trans rfl; have t4V : V.cell? ⟨w.heap.size + 2, 4, none⟩ = some (.int .u64 0) := (blk_cell hT1 4).trans rfl; have t5V : V.cell? ⟨w.heap.size + 2, 5, none⟩ = some (.bool false) := (blk_cell hT1 5).trans rfl; have t6V : V.cell? ⟨w.heap.size + 2, 6, none⟩ = some (.int .u64 0) := (blk_cell hT1 6).trans rfl; have t7V : V.cell? ⟨w.heap.size + 2, 7, none⟩ = some (.bool false) := (blk_cell hT1 7).trans rfl; have t8V : V.cell? ⟨w.heap.size + 2, 8, none⟩ = some (.int .u64 0) := (blk_cell hT1 8).trans rfl; have t9V : V.cell? ⟨w.heap.size + 2, 9, none⟩ = some (.bool false) := (blk_cell hT1 9).trans rfl; have zR : ∀ j, V.frozen? ⟨w.heap.size, j, none⟩ = false := fun j => blk_frozen hR1 j; have zT : ∀ j, V.frozen? ⟨w.heap.size + 2, j, none⟩ = false := fun j => blk_frozen hT1 j; have hBV := Aside0.mk (below_step (by repeat (with_reducible first | exact hB0.out | apply below_drew1 | apply pw_below_drewN)) hb); have gR := Aside0.mk hR1; have gT := Aside0.mk hT1; clear hR1 hT1 hF1 hb) | (go_at_call 28; refine (Spc.at3 _ w.heap.size _ (by assumption)).mono ?_; rintro e w' ⟨rfl, rfl⟩))
 all_goals go_wp2_with fail
 all_goals refine bodyPost_ret (v := .tuple #[.agg #[.int .u64 b0, .bool s0, .int .u64 b1, .bool s1, .int .u64 b2, .bool s2, .int .u64 fb, .bool fs, .int .u64 b4, .bool s4], .int .i64 0]) (by simp [results, Tryz.results8, go_sem, *]) rfl ⟨rfl, ?_⟩
 all_goals repeat (first | (with_reducible first | exact hBV.out | apply below_drew1 | apply pw_below_drewN | (refine below_set ?_ (by omega))) | exact hBV.out)
set_option maxHeartbeats 8000000 in
set_option maxRecDepth 100000 in
theorem Spc.with4 (b0 : Int) (s0 : Bool) (b1 : Int) (s1 : Bool) (b2 : Int) (s2 : Bool) (b3 : Int) (s3 : Bool) (b4 : Int) (s4 : Bool) (fb : Int) (fs : Bool) (w : World) : Calls Tryz.prog 8 #[.agg #[.int .u64 b0, .bool s0, .int .u64 b1, .bool s1, .int .u64 b2, .bool s2, .int .u64 b3, .bool s3, .int .u64 b4, .bool s4], .int .i64 4, .agg #[.int .u64 fb, .bool fs]] w fun e w' => e = .returned (.tuple #[.agg #[.int .u64 b0, .bool s0, .int .u64 b1, .bool s1, .int .u64 b2, .bool s2, .int .u64 b3, .bool s3, .int .u64 fb, .bool fs], .int .i64 0]) ∧ Below w.heap.size w w' := by
 have hk : Hid (spec_known.f 4 = some true) := Lib.hid (by decide)
 go_enter Tryz.func8, Tryz.ntmps8
 go_wp2_with (go_at_call 18; refine (spec_known.calls _ _ _ hk.out).mono ?_; rintro e w' ⟨rfl, ⟨nd, rfl⟩⟩)
 refine Fld.genW (fun W => W.heap.size = w.heap.size + 3 ∧ Below w.heap.size w W ∧ Spc.Row W w.heap.size b0 s0 b1 s1 b2 s2 b3 s3 b4 s4 ∧ W.heap[w.heap.size + 1]? = some (.cells #[.int .u64 fb, .bool fs] 25 (0, 0)) ∧ W.heap[w.heap.size + 2]? = some (.cells #[.int .u64 0, .bool false, .int .u64 0, .bool false, .int .u64 0, .bool false, .int .u64 0, .bool false, .int .u64 0, .bool false] 27 (0, 0))) ?_ ?_
 ·refine ⟨by simp, pw_below_drewN (below_alloc (below_alloc (below_alloc (Below.refl _ _) _) _) _) nd, blk_drewN (blk_alloc (blk_alloc (blk_new w _) _) _) nd, ?_, ?_⟩
  ·have := heap_alloc_new (w.alloc (.cells #[.int .u64 b0, .bool s0, .int .u64 b1, .bool s1, .int .u64 b2, .bool s2, .int .u64 b3, .bool s3, .int .u64 b4, .bool s4] 27)) (.cells #[.int .u64 fb, .bool fs] 25)
   refine blk_drewN (blk_alloc ?_ _) nd
   simpa using this
  ·have := heap_alloc_new ((w.alloc (.cells #[.int .u64 b0, .bool s0, .int .u64 b1, .bool s1, .int .u64 b2, .bool s2, .int .u64 b3, .bool s3, .int .u64 b4, .bool s4] 27)).alloc (.cells #[.int .u64 fb, .bool fs] 25)) (.cells #[.int .u64 0, .bool false, .int .u64 0, .bool false, .int .u64 0, .bool false, .int .u64 0, .bool false, .int .u64 0, .bool false] 27)
   refine blk_drewN ?_ nd
   simpa using this
 rintro W ⟨hz, hB0, hR0, hF0, hT0⟩
 have f0 : W.cell? ⟨w.heap.size + 1, 0, none⟩ = some (.int .u64 fb) := (blk_cell hF0 0).trans rfl
 have f1 : W.cell? ⟨w.heap.size + 1, 1, none⟩ = some (.bool fs) := (blk_cell hF0 1).trans rfl
 have ix := Spc.ix4
 replace hB0 := Aside0.mk hB0
 replace hR0 := Aside0.mk hR0
 replace hF0 := Aside0.mk hF0
 replace hT0 := Aside0.mk hT0
 replace hz := Lib.hid hz
 go_region_with (first | (go_at_call 13; refine (Spc.fields_calls _ _).mono ?_; rintro e V ⟨rfl, hX, hb⟩; have hF1 := (hb.block (w.heap.size + 1) (blk_lt hF0.out)).trans hF0.out; have hR1 : Spc.Row V w.heap.size b0 s0 b1 s1 b2 s2 b3 s3 b4 s4 := (hb.block w.heap.size (blk_lt hR0.out)).trans hR0.out; have f0V : V.cell? ⟨w.heap.size + 1, 0, none⟩ = some (.int .u64 fb) := (blk_cell hF1 0).trans rfl; have f1V : V.cell? ⟨w.heap.size + 1, 1, none⟩ = some (.bool fs) := (blk_cell hF1 1).trans rfl; have c0V : V.cell? ⟨w.heap.size, 0, none⟩ = some (.int .u64 b0) := (blk_cell hR1 0).trans rfl; have c1V : V.cell? ⟨w.heap.size, 1, none⟩ = some (.bool s0) := (blk_cell hR1 1).trans rfl; have c2V : V.cell? ⟨w.heap.size, 2, none⟩ = some (.int .u64 b1) := (blk_cell hR1 2).trans rfl; have c3V : V.cell? ⟨w.heap.size, 3, none⟩ = some (.bool s1) := (blk_cell hR1 3).trans rfl; have c4V : V.cell? ⟨w.heap.size, 4, none⟩ = some (.int .u64 b2) := (blk_cell hR1 4).trans rfl; have c5V : V.cell? ⟨w.heap.size, 5, none⟩ = some (.bool s2) := (blk_cell hR1 5).trans rfl; have c6V : V.cell? ⟨w.heap.size, 6, none⟩ = some (.int .u64 b3) := (blk_cell hR1 6).trans rfl; have c7V : V.cell? ⟨w.heap.size, 7, none⟩ = some (.bool s3) := (blk_cell hR1 7).trans rfl; have c8V : V.cell? ⟨w.heap.size, 8, none⟩ = some (.int .u64 b4) := (blk_cell hR1 8).trans rfl; have c9V : V.cell? ⟨w.heap.size, 9, none⟩ = some (.bool s4) := (blk_cell hR1 9).trans rfl; have hT1 : V.heap[w.heap.size + 2]? = some (.cells #[.int .u64 0, .bool false, .int .u64 0, .bool false, .int .u64 0, .bool false, .int .u64 0, .bool false, .int .u64 0, .bool false] 27 (0, 0)) := (hb.block (w.heap.size + 2) (blk_lt hT0.out)).trans hT0.out; have t0V : V.cell? ⟨w.heap.size + 2, 0, none⟩ = some (.int .u64 0) := (blk_cell hT1 0).trans rfl; have t1V : V.cell? ⟨w.heap.size + 2, 1, none⟩ = some (.bool false) := (blk_cell hT1 1).trans rfl; have t2V : V.cell? ⟨w.heap.size + 2, 2, none⟩ = some (.int .u64 0) := (blk_cell hT1 2).trans rfl; have t3V : V.cell? ⟨w.heap.size + 2, 3, none⟩ = some (.bool false) := (blk_cell hT1 3).trans rfl; have t4V : V.cell? ⟨w.heap.size + 2, 4, none⟩ = some (.int .u64 0) := (blk_cell hT1 4).trans rfl; have t5V : V.cell? ⟨w.heap.size + 2, 5, none⟩ = some (.bool false) := (blk_cell hT1 5).trans rfl; have t6V : V.cell? ⟨w.heap.size + 2, 6, none⟩ = some (.int .u64 0) := (blk_cell hT1 6).trans rfl; have t7V : V.cell? ⟨w.heap.size + 2, 7, none⟩ = some (.bool false) := (blk_cell hT1 7).trans rfl; have t8V : V.cell? ⟨w.heap.size + 2, 8, none⟩ = some (.int .u64 0) := (blk_cell hT1 8).trans rfl; have t9V : V.cell? ⟨w.heap.size + 2, 9, none⟩ = some (.bool false) := (blk_cell hT1 9).trans rfl; have zR : ∀ j, V.frozen? ⟨w.heap.size, j, none⟩ = false := fun j => blk_frozen hR1 j; have zT : ∀ j, V.frozen? ⟨w.heap.size + 2, j, none⟩ = false := fun j => blk_frozen hT1 j; have hBV := Aside0.mk (below_step (by repeat (with_reducible first | exact hB0.out | apply below_drew1 | apply pw_below_drewN)) hb); have gR := Aside0.mk hR1; have gT := Aside0.mk hT1; clear hR1 hT1 hF1 hb) | (go_at_call 29; refine (Spc.at4 _ w.heap.size _ (by assumption)).mono ?_; rintro e w' ⟨rfl, rfl⟩))
 all_goals go_wp2_with fail
 all_goals refine bodyPost_ret (v := .tuple #[.agg #[.int .u64 b0, .bool s0, .int .u64 b1, .bool s1, .int .u64 b2, .bool s2, .int .u64 b3, .bool s3, .int .u64 fb, .bool fs], .int .i64 0]) (by simp [results, Tryz.results8, go_sem, *]) rfl ⟨rfl, ?_⟩
 all_goals repeat (first | (with_reducible first | exact hBV.out | apply below_drew1 | apply pw_below_drewN | (refine below_set ?_ (by omega))) | exact hBV.out)
def spec_With.f (a0_0 : Int) (a0_1 : Bool) (a0_2 : Int) (a0_3 : Bool) (a0_4 : Int) (a0_5 : Bool) (a0_6 : Int) (a0_7 : Bool) (a0_8 : Int) (a0_9 : Bool) (a1 : Int) (a2_0 : Int) (a2_1 : Bool) : Option (Int × Bool × Int × Bool × Int × Bool × Int × Bool × Int × Bool × Int) := if a1 = 0 then some (a2_0, a2_1, a0_2, a0_3, a0_4, a0_5, a0_6, a0_7, a0_8, a0_9, 0) else if a1 = 1 then some (a0_0, a0_1, a2_0, a2_1, a0_4, a0_5, a0_6, a0_7, a0_8, a0_9, 0) else if a1 = 2 then some (a0_0, a0_1, a0_2, a0_3, a2_0, a2_1, a0_6, a0_7, a0_8, a0_9, 0) else if a1 = 3 then some (a0_0, a0_1, a0_2, a0_3, a0_4, a0_5, a2_0, a2_1, a0_8, a0_9, 0) else if a1 = 4 then some (a0_0, a0_1, a0_2, a0_3, a0_4, a0_5, a0_6, a0_7, a2_0, a2_1, 0) else some (a0_0, a0_1, a0_2, a0_3, a0_4, a0_5, a0_6, a0_7, a0_8, a0_9, 7)
set_option maxHeartbeats 8000000 in
set_option maxRecDepth 100000 in
theorem spec_With.calls (a0_0 : Int) (a0_1 : Bool) (a0_2 : Int) (a0_3 : Bool) (a0_4 : Int) (a0_5 : Bool) (a0_6 : Int) (a0_7 : Bool) (a0_8 : Int) (a0_9 : Bool) (a1 : Int) (a2_0 : Int) (a2_1 : Bool) (r1 : Int) (r2 : Bool) (r3 : Int) (r4 : Bool) (r5 : Int) (r6 : Bool) (r7 : Int) (r8 : Bool) (r9 : Int) (r10 : Bool) (r11 : Int) (w : World) (h : spec_With.f a0_0 a0_1 a0_2 a0_3 a0_4 a0_5 a0_6 a0_7 a0_8 a0_9 a1 a2_0 a2_1 = some (r1, r2, r3, r4, r5, r6, r7, r8, r9, r10, r11)) :
  Calls Tryz.prog 8 #[.agg #[.int .u64 a0_0, .bool a0_1, .int .u64 a0_2, .bool a0_3, .int .u64 a0_4, .bool a0_5, .int .u64 a0_6, .bool a0_7, .int .u64 a0_8, .bool a0_9], .int .i64 a1, .agg #[.int .u64 a2_0, .bool a2_1]] w fun e w' => e = .returned (.tuple #[.agg #[.int .u64 r1, .bool r2, .int .u64 r3, .bool r4, .int .u64 r5, .bool r6, .int .u64 r7, .bool r8, .int .u64 r9, .bool r10], .int .i64 r11]) ∧ Below w.heap.size w w' := by
 have H : _ = some (r1, r2, r3, r4, r5, r6, r7, r8, r9, r10, r11) := h
 clear h
 unfold spec_With.f at H
 by_cases c0 : a1 = 0
 ·rw [if_pos c0] at H
  subst c0
  simp only [Option.some.injEq, Prod.mk.injEq] at H
  obtain ⟨rfl, rfl, rfl, rfl, rfl, rfl, rfl, rfl, rfl, rfl, rfl⟩ := H
  exact Spc.with0 a0_0 a0_1 a0_2 a0_3 a0_4 a0_5 a0_6 a0_7 a0_8 a0_9 a2_0 a2_1 w
 rw [if_neg c0] at H
 by_cases c1 : a1 = 1
 ·rw [if_pos c1] at H
  subst c1
  simp only [Option.some.injEq, Prod.mk.injEq] at H
  obtain ⟨rfl, rfl, rfl, rfl, rfl, rfl, rfl, rfl, rfl, rfl, rfl⟩ := H
  exact Spc.with1 a0_0 a0_1 a0_2 a0_3 a0_4 a0_5 a0_6 a0_7 a0_8 a0_9 a2_0 a2_1 w
 rw [if_neg c1] at H
 by_cases c2 : a1 = 2
 ·rw [if_pos c2] at H
  subst c2
  simp only [Option.some.injEq, Prod.mk.injEq] at H
  obtain ⟨rfl, rfl, rfl, rfl, rfl, rfl, rfl, rfl, rfl, rfl, rfl⟩ := H
  exact Spc.with2 a0_0 a0_1 a0_2 a0_3 a0_4 a0_5 a0_6 a0_7 a0_8 a0_9 a2_0 a2_1 w
 rw [if_neg c2] at H
 by_cases c3 : a1 = 3
 ·rw [if_pos c3] at H
  subst c3
  simp only [Option.some.injEq, Prod.mk.injEq] at H
  obtain ⟨rfl, rfl, rfl, rfl, rfl, rfl, rfl, rfl, rfl, rfl, rfl⟩ := H
  exact Spc.with3 a0_0 a0_1 a0_2 a0_3 a0_4 a0_5 a0_6 a0_7 a0_8 a0_9 a2_0 a2_1 w
 rw [if_neg c3] at H
 by_cases c4 : a1 = 4
 ·rw [if_pos c4] at H
  subst c4
  simp only [Option.some.injEq, Prod.mk.injEq] at H
  obtain ⟨rfl, rfl, rfl, rfl, rfl, rfl, rfl, rfl, rfl, rfl, rfl⟩ := H
  exact Spc.with4 a0_0 a0_1 a0_2 a0_3 a0_4 a0_5 a0_6 a0_7 a0_8 a0_9 a2_0 a2_1 w
 rw [if_neg c4] at H
 simp only [Option.some.injEq, Prod.mk.injEq] at H
 obtain ⟨rfl, rfl, rfl, rfl, rfl, rfl, rfl, rfl, rfl, rfl, rfl⟩ := H
 exact Spc.with_bad a0_0 a0_1 a0_2 a0_3 a0_4 a0_5 a0_6 a0_7 a0_8 a0_9 a1 a2_0 a2_1 (by omega) w

-- NOT PRINTED: function 13 (spec_fields)

/-! ### field_every: function 44 -/
def field_every.f (a0 : Int) (a1 : Int) : Option (Int) := if 0 ≤ (IntKind.u64.wrap (wrap64 (a1 + 1))) then (if 0 ≤ (IntKind.u64.wrap (a0)) then (some (IntKind.u64.wrap ((shl .u64 1 (IntKind.u64.wrap (wrap64 (a1 + 1)))) - (shl .u64 1 (IntKind.u64.wrap (a0)))))) else (none)) else (none)
set_option maxHeartbeats 8000000 in
set_option maxRecDepth 100000 in
theorem field_every.calls (a0 : Int) (a1 : Int) (r : Int) (w : World) (h : field_every.f a0 a1 = some r) :
  Calls Tryz.prog 44 #[.int .i64 a0, .int .i64 a1] w fun e w' => e = .returned (.int .u64 r) ∧ Drawn0 w w' := by
 have H : (if 0 ≤ (IntKind.u64.wrap (wrap64 (a1 + 1))) then (if 0 ≤ (IntKind.u64.wrap (a0)) then (some (IntKind.u64.wrap ((shl .u64 1 (IntKind.u64.wrap (wrap64 (a1 + 1)))) - (shl .u64 1 (IntKind.u64.wrap (a0)))))) else (none)) else (none)) = some r := h
 clear h
 obtain ⟨ji3, hji3⟩ : ∃ j_ : Int, (IntKind.u64.wrap (wrap64 (a1 + 1))) = j_ := ⟨_, rfl⟩
 replace H : (if 0 ≤ (ji3) then (if 0 ≤ (IntKind.u64.wrap (a0)) then (some (IntKind.u64.wrap ((shl .u64 1 (ji3)) - (shl .u64 1 (IntKind.u64.wrap (a0)))))) else (none)) else (none)) = some r := by first | (rw [hji3] at H; exact H) | (simp only [hji3] at H ⊢; exact H)
 by_cases c4 : 0 ≤ (ji3)
 ·rw [if_pos c4] at H
  have c4b0 := eq_true c4
  have c4b1 : decide (0 ≤ (ji3)) = true := decide_eq_true c4
  clear c4
  obtain ⟨ji5, hji5⟩ : ∃ j_ : Int, (shl .u64 1 (ji3)) = j_ := ⟨_, rfl⟩
  replace H : (if 0 ≤ (IntKind.u64.wrap (a0)) then (some (IntKind.u64.wrap ((ji5) - (shl .u64 1 (IntKind.u64.wrap (a0)))))) else (none)) = some r := by first | (rw [hji5] at H; exact H) | (simp only [hji5] at H ⊢; exact H)
  have hji5_ : (IntKind.u64.wrap (1 * 2 ^ min (ji3).toNat 64)) = ji5 := hji5
  have hji5z : (ji3) ≤ 64 → (IntKind.u64.wrap (1 * 2 ^ (ji3).toNat)) = ji5 := shl_small hji5
  have hji5u : (IntKind.u64.wrap (2 ^ min (ji3).toNat 64)) = ji5 := by have h_ := hji5_; rw [Int.one_mul] at h_; exact h_
  have hji5v : (ji3) ≤ 64 → (IntKind.u64.wrap (2 ^ (ji3).toNat)) = ji5 := fun hle_ => by have h_ := hji5z hle_; rw [Int.one_mul] at h_; exact h_
  obtain ⟨ji6, hji6⟩ : ∃ j_ : Int, (IntKind.u64.wrap (a0)) = j_ := ⟨_, rfl⟩
  replace H : (if 0 ≤ (ji6) then (some (IntKind.u64.wrap ((ji5) - (shl .u64 1 (ji6))))) else (none)) = some r := by first | (rw [hji6] at H; exact H) | (simp only [hji6] at H ⊢; exact H)
  by_cases c7 : 0 ≤ (ji6)
  ·rw [if_pos c7] at H
   have c7b0 := eq_true c7
   have c7b1 : decide (0 ≤ (ji6)) = true := decide_eq_true c7
   clear c7
   obtain ⟨ji8, hji8⟩ : ∃ j_ : Int, (shl .u64 1 (ji6)) = j_ := ⟨_, rfl⟩
   replace H : (some (IntKind.u64.wrap ((ji5) - (ji8)))) = some r := by first | (rw [hji8] at H; exact H) | (simp only [hji8] at H ⊢; exact H)
   have hji8_ : (IntKind.u64.wrap (1 * 2 ^ min (ji6).toNat 64)) = ji8 := hji8
   have hji8z : (ji6) ≤ 64 → (IntKind.u64.wrap (1 * 2 ^ (ji6).toNat)) = ji8 := shl_small hji8
   have hji8u : (IntKind.u64.wrap (2 ^ min (ji6).toNat 64)) = ji8 := by have h_ := hji8_; rw [Int.one_mul] at h_; exact h_
   have hji8v : (ji6) ≤ 64 → (IntKind.u64.wrap (2 ^ (ji6).toNat)) = ji8 := fun hle_ => by have h_ := hji8z hle_; rw [Int.one_mul] at h_; exact h_
   obtain rfl := Option.some.inj H
   go_enter Tryz.func44, Tryz.ntmps44
   go_wp2
   go_ret
   exact ⟨by first | rfl | (simp; done) | (simp only [← hji3, ← hji5, ← hji6, ← hji8] <;> (first | rfl | simp)) | (simp [*]; done), by repeat (first | exact Drawn0.refl _ | apply Drawn0.step)⟩
  ·rw [if_neg c7] at H
   exact absurd H (by simp)
 ·rw [if_neg c4] at H
  exact absurd H (by simp)

/-! ### field_Check: function 19 -/
def field_Check.f (a0_0 : Int) (a0_1 : Bool) (a1 : Int) : Option (Int) := (field_limits.f a1).bind fun bt107 => (if bt107.2.2 = 0 then ((field_every.f bt107.1 bt107.2.1).bind fun t110 => (if a0_0 = 0 then (some 2) else (if (Go.bits .andNot .u64 a0_0 t110) = 0 then (if a0_1 = true then (if a0_0 = t110 then (some 0) else (some 2)) else (some 0)) else (some 2)))) else (some bt107.2.2))
set_option maxHeartbeats 8000000 in
set_option maxRecDepth 100000 in
theorem field_Check.calls (a0_0 : Int) (a0_1 : Bool) (a1 : Int) (r : Int) (w : World) (h : field_Check.f a0_0 a0_1 a1 = some r) :
  Calls Tryz.prog 19 #[.agg #[.int .u64 a0_0, .bool a0_1], .int .i64 a1] w fun e w' => e = .returned (.int .i64 r) ∧ Below w.heap.size w w' := by
 have hu25 := Tryz.underlying25
 have HB := Aside0.mk (Below.refl w.heap.size w)
 have H : ((field_limits.f a1).bind fun bt107 => (if bt107.2.2 = 0 then ((field_every.f bt107.1 bt107.2.1).bind fun t110 => (if a0_0 = 0 then (some 2) else (if (Go.bits .andNot .u64 a0_0 t110) = 0 then (if a0_1 = true then (if a0_0 = t110 then (some 0) else (some 2)) else (some 0)) else (some 2)))) else (some bt107.2.2))) = some r := h
 clear h
 replace H := Option.bind_eq_some_iff.mp H
 obtain ⟨⟨t107, t108, t109⟩, A30, H⟩ := H
 replace H : (if t109 = 0 then ((field_every.f t107 t108).bind fun t110 => (if a0_0 = 0 then (some 2) else (if (Go.bits .andNot .u64 a0_0 t110) = 0 then (if a0_1 = true then (if a0_0 = t110 then (some 0) else (some 2)) else (some 0)) else (some 2)))) else (some t109)) = some r := H
 have A3 := Aside0.mk A30
 clear A30
 by_cases c4 : t109 = 0
 ·rw [if_pos c4] at H
  have c4b0 : (t109 == 0) = true := beq_iff_eq.mpr c4
  have c4b1 : (t109 != 0) = false := bne_eq_false_iff_eq.mpr c4
  clear c4
  replace H := Option.bind_eq_some_iff.mp H
  obtain ⟨t110, A50, H⟩ := H
  replace H : (if a0_0 = 0 then (some 2) else (if (Go.bits .andNot .u64 a0_0 t110) = 0 then (if a0_1 = true then (if a0_0 = t110 then (some 0) else (some 2)) else (some 0)) else (some 2))) = some r := H
  have A5 := Aside0.mk A50
  clear A50
  by_cases c6 : a0_0 = 0
  ·rw [if_pos c6] at H
   have c6b0 : (a0_0 == 0) = true := beq_iff_eq.mpr c6
   have c6b1 : (a0_0 != 0) = false := bne_eq_false_iff_eq.mpr c6
   clear c6
   obtain rfl := Option.some.inj H
   go_enter Tryz.func19, Tryz.ntmps19
   go_wp2_with (first | ((with_reducible refine gate_dst (N := 2) rfl ?_); refine box_event ?hg (N := 2) ?hd (cs := #[.int .u64 a0_0, .bool a0_1]) (t := 25) ?hr ?_; (case hd => rfl); (case hg => rfl); (case hr => first | (go_simp; done) | (go_simp; rfl)); intro gb106 hg w7 hbox hb; have n0_ := Aside0.mk (below_step (by repeat (first | (with_reducible first | exact HB.out | apply below_alloc | apply pw_below_drewN | apply below_drew1) | exact HB.out)) hb); have n1_ := Aside0.mk (hbox); have n2_ := Aside0.mk ((by rw [hg]; exact (below_size (by repeat (first | (with_reducible first | exact HB.out | apply below_alloc | apply pw_below_drewN | apply below_drew1) | exact HB.out))) : w.heap.size ≤ gb106)); have n3_ := Aside0.mk ((by rw [hg]; exact (below_size (by repeat (first | (with_reducible first | exact HB.out | apply below_alloc | apply pw_below_drewN | apply below_drew1) | exact HB.out))) : w.heap.size ≤ gb106)); clear HB; have HB := n0_; have BK106 := n1_; have GW106 := n2_; have GE106 := n3_; clear n0_ n1_ n2_ n3_; clear hb hbox hg) | ((with_reducible refine gate_callee (f := 30) rfl ?_); refine goesL_ (some 11) rfl rfl Tryz.func30 (by kernel_rfl) rfl #[.int .i64 a1] rfl (by (try simp only [List.map_toArray, List.map_cons, List.map_nil]); first | done | rfl | (simp only [List.length_drop, List.length_take]; rfl)) ?_; (with_reducible refine (field_limits.calls a1 t107 t108 t109 _ A3.out).mono ?_); rintro e w' ⟨rfl, ⟨nd, rfl⟩⟩; refine ⟨_, rfl, ?_⟩) | ((with_reducible refine gate_callee (f := 44) rfl ?_); refine goesL_ (some 20) rfl rfl Tryz.func44 (by kernel_rfl) rfl #[.int .i64 t107, .int .i64 t108] rfl (by (try simp only [List.map_toArray, List.map_cons, List.map_nil]); first | done | rfl | (simp only [List.length_drop, List.length_take]; rfl)) ?_; (with_reducible refine (field_every.calls t107 t108 t110 _ A5.out).mono ?_); rintro e w' ⟨rfl, ⟨nd, rfl⟩⟩; refine ⟨_, rfl, ?_⟩; have hcz8_0 : w7.cell? ⟨gb106, 0, none⟩ = some (.int .u64 a0_0) := (blk_cell BK106.out 0).trans rfl; have hcz8_1 : w7.cell? ⟨gb106, 1, none⟩ = some (.bool a0_1) := (blk_cell BK106.out 1).trans rfl; have hfz8_0 := blk_frozen BK106.out 0; have hfz8_1 := blk_frozen BK106.out 1))
   go_ret
   exact ⟨by first | rfl | (simp [errW_none, errW_some] <;> rfl) | (simp [*, errW_none, errW_some] <;> rfl), by repeat (first | (with_reducible first | exact HB.out | apply below_alloc | apply pw_below_drewN | apply below_drew1 | refine below_set ?_ GE106.out) | exact HB.out)⟩
  ·rw [if_neg c6] at H
   have c6b0 : (a0_0 == 0) = false := beq_eq_false_iff_ne.mpr c6
   have c6b1 : (a0_0 != 0) = true := bne_iff_ne.mpr c6
   by_cases c9 : (Go.bits .andNot .u64 a0_0 t110) = 0
   ·rw [if_pos c9] at H
    have c9b0 : ((Go.bits .andNot .u64 a0_0 t110) == 0) = true := beq_iff_eq.mpr c9
    have c9b1 : ((Go.bits .andNot .u64 a0_0 t110) != 0) = false := bne_eq_false_iff_eq.mpr c9
    clear c9
    by_cases c10 : a0_1 = true
    ·subst c10
     have H1 : (if a0_0 = t110 then (some 0) else (some 2)) = some r := by rw [if_pos rfl] at H; exact H
     clear H
     have H := H1
     clear H1
     by_cases c11 : a0_0 = t110
     ·rw [if_pos c11] at H
      have c11b0 : (a0_0 == t110) = true := beq_iff_eq.mpr c11
      have c11b1 : (a0_0 != t110) = false := bne_eq_false_iff_eq.mpr c11
      clear c11
      obtain rfl := Option.some.inj H
      go_enter Tryz.func19, Tryz.ntmps19
      go_wp2_with (first | ((with_reducible refine gate_dst (N := 2) rfl ?_); refine box_event ?hg (N := 2) ?hd (cs := #[.int .u64 a0_0, .bool true]) (t := 25) ?hr ?_; (case hd => rfl); (case hg => rfl); (case hr => first | (go_simp; done) | (go_simp; rfl)); intro gb106 hg w12 hbox hb; have n0_ := Aside0.mk (below_step (by repeat (first | (with_reducible first | exact HB.out | apply below_alloc | apply pw_below_drewN | apply below_drew1) | exact HB.out)) hb); have n1_ := Aside0.mk (hbox); have n2_ := Aside0.mk ((by rw [hg]; exact (below_size (by repeat (first | (with_reducible first | exact HB.out | apply below_alloc | apply pw_below_drewN | apply below_drew1) | exact HB.out))) : w.heap.size ≤ gb106)); have n3_ := Aside0.mk ((by rw [hg]; exact (below_size (by repeat (first | (with_reducible first | exact HB.out | apply below_alloc | apply pw_below_drewN | apply below_drew1) | exact HB.out))) : w.heap.size ≤ gb106)); clear HB; have HB := n0_; have BK106 := n1_; have GW106 := n2_; have GE106 := n3_; clear n0_ n1_ n2_ n3_; clear hb hbox hg) | ((with_reducible refine gate_callee (f := 30) rfl ?_); refine goesL_ (some 11) rfl rfl Tryz.func30 (by kernel_rfl) rfl #[.int .i64 a1] rfl (by (try simp only [List.map_toArray, List.map_cons, List.map_nil]); first | done | rfl | (simp only [List.length_drop, List.length_take]; rfl)) ?_; (with_reducible refine (field_limits.calls a1 t107 t108 t109 _ A3.out).mono ?_); rintro e w' ⟨rfl, ⟨nd, rfl⟩⟩; refine ⟨_, rfl, ?_⟩) | ((with_reducible refine gate_callee (f := 44) rfl ?_); refine goesL_ (some 20) rfl rfl Tryz.func44 (by kernel_rfl) rfl #[.int .i64 t107, .int .i64 t108] rfl (by (try simp only [List.map_toArray, List.map_cons, List.map_nil]); first | done | rfl | (simp only [List.length_drop, List.length_take]; rfl)) ?_; (with_reducible refine (field_every.calls t107 t108 t110 _ A5.out).mono ?_); rintro e w' ⟨rfl, ⟨nd, rfl⟩⟩; refine ⟨_, rfl, ?_⟩; have hcz13_0 : w12.cell? ⟨gb106, 0, none⟩ = some (.int .u64 a0_0) := (blk_cell BK106.out 0).trans rfl; have hcz13_1 : w12.cell? ⟨gb106, 1, none⟩ = some (.bool true) := (blk_cell BK106.out 1).trans rfl; have hfz13_0 := blk_frozen BK106.out 0; have hfz13_1 := blk_frozen BK106.out 1))
      go_ret
      exact ⟨by first | rfl | (simp [errW_none, errW_some] <;> rfl) | (simp [*, errW_none, errW_some] <;> rfl), by repeat (first | (with_reducible first | exact HB.out | apply below_alloc | apply pw_below_drewN | apply below_drew1 | refine below_set ?_ GE106.out) | exact HB.out)⟩
     ·rw [if_neg c11] at H
      have c11b0 : (a0_0 == t110) = false := beq_eq_false_iff_ne.mpr c11
      have c11b1 : (a0_0 != t110) = true := bne_iff_ne.mpr c11
      obtain rfl := Option.some.inj H
      go_enter Tryz.func19, Tryz.ntmps19
      go_wp2_with (first | ((with_reducible refine gate_dst (N := 2) rfl ?_); refine box_event ?hg (N := 2) ?hd (cs := #[.int .u64 a0_0, .bool true]) (t := 25) ?hr ?_; (case hd => rfl); (case hg => rfl); (case hr => first | (go_simp; done) | (go_simp; rfl)); intro gb106 hg w14 hbox hb; have n0_ := Aside0.mk (below_step (by repeat (first | (with_reducible first | exact HB.out | apply below_alloc | apply pw_below_drewN | apply below_drew1) | exact HB.out)) hb); have n1_ := Aside0.mk (hbox); have n2_ := Aside0.mk ((by rw [hg]; exact (below_size (by repeat (first | (with_reducible first | exact HB.out | apply below_alloc | apply pw_below_drewN | apply below_drew1) | exact HB.out))) : w.heap.size ≤ gb106)); have n3_ := Aside0.mk ((by rw [hg]; exact (below_size (by repeat (first | (with_reducible first | exact HB.out | apply below_alloc | apply pw_below_drewN | apply below_drew1) | exact HB.out))) : w.heap.size ≤ gb106)); clear HB; have HB := n0_; have BK106 := n1_; have GW106 := n2_; have GE106 := n3_; clear n0_ n1_ n2_ n3_; clear hb hbox hg) | ((with_reducible refine gate_callee (f := 30) rfl ?_); refine goesL_ (some 11) rfl rfl Tryz.func30 (by kernel_rfl) rfl #[.int .i64 a1] rfl (by (try simp only [List.map_toArray, List.map_cons, List.map_nil]); first | done | rfl | (simp only [List.length_drop, List.length_take]; rfl)) ?_; (with_reducible refine (field_limits.calls a1 t107 t108 t109 _ A3.out).mono ?_); rintro e w' ⟨rfl, ⟨nd, rfl⟩⟩; refine ⟨_, rfl, ?_⟩) | ((with_reducible refine gate_callee (f := 44) rfl ?_); refine goesL_ (some 20) rfl rfl Tryz.func44 (by kernel_rfl) rfl #[.int .i64 t107, .int .i64 t108] rfl (by (try simp only [List.map_toArray, List.map_cons, List.map_nil]); first | done | rfl | (simp only [List.length_drop, List.length_take]; rfl)) ?_; (with_reducible refine (field_every.calls t107 t108 t110 _ A5.out).mono ?_); rintro e w' ⟨rfl, ⟨nd, rfl⟩⟩; refine ⟨_, rfl, ?_⟩; have hcz15_0 : w14.cell? ⟨gb106, 0, none⟩ = some (.int .u64 a0_0) := (blk_cell BK106.out 0).trans rfl; have hcz15_1 : w14.cell? ⟨gb106, 1, none⟩ = some (.bool true) := (blk_cell BK106.out 1).trans rfl; have hfz15_0 := blk_frozen BK106.out 0; have hfz15_1 := blk_frozen BK106.out 1))
      go_ret
      exact ⟨by first | rfl | (simp [errW_none, errW_some] <;> rfl) | (simp [*, errW_none, errW_some] <;> rfl), by repeat (first | (with_reducible first | exact HB.out | apply below_alloc | apply pw_below_drewN | apply below_drew1 | refine below_set ?_ GE106.out) | exact HB.out)⟩
    ·replace c10 := Bool.eq_false_iff.mpr c10
     subst c10
     have H1 : (some 0) = some r := by rw [if_neg (show ¬ (false = true) by decide)] at H; exact H
     clear H
     have H := H1
     clear H1
     obtain rfl := Option.some.inj H
     go_enter Tryz.func19, Tryz.ntmps19
     go_wp2_with (first | ((with_reducible refine gate_dst (N := 2) rfl ?_); refine box_event ?hg (N := 2) ?hd (cs := #[.int .u64 a0_0, .bool false]) (t := 25) ?hr ?_; (case hd => rfl); (case hg => rfl); (case hr => first | (go_simp; done) | (go_simp; rfl)); intro gb106 hg w16 hbox hb; have n0_ := Aside0.mk (below_step (by repeat (first | (with_reducible first | exact HB.out | apply below_alloc | apply pw_below_drewN | apply below_drew1) | exact HB.out)) hb); have n1_ := Aside0.mk (hbox); have n2_ := Aside0.mk ((by rw [hg]; exact (below_size (by repeat (first | (with_reducible first | exact HB.out | apply below_alloc | apply pw_below_drewN | apply below_drew1) | exact HB.out))) : w.heap.size ≤ gb106)); have n3_ := Aside0.mk ((by rw [hg]; exact (below_size (by repeat (first | (with_reducible first | exact HB.out | apply below_alloc | apply pw_below_drewN | apply below_drew1) | exact HB.out))) : w.heap.size ≤ gb106)); clear HB; have HB := n0_; have BK106 := n1_; have GW106 := n2_; have GE106 := n3_; clear n0_ n1_ n2_ n3_; clear hb hbox hg) | ((with_reducible refine gate_callee (f := 30) rfl ?_); refine goesL_ (some 11) rfl rfl Tryz.func30 (by kernel_rfl) rfl #[.int .i64 a1] rfl (by (try simp only [List.map_toArray, List.map_cons, List.map_nil]); first | done | rfl | (simp only [List.length_drop, List.length_take]; rfl)) ?_; (with_reducible refine (field_limits.calls a1 t107 t108 t109 _ A3.out).mono ?_); rintro e w' ⟨rfl, ⟨nd, rfl⟩⟩; refine ⟨_, rfl, ?_⟩) | ((with_reducible refine gate_callee (f := 44) rfl ?_); refine goesL_ (some 20) rfl rfl Tryz.func44 (by kernel_rfl) rfl #[.int .i64 t107, .int .i64 t108] rfl (by (try simp only [List.map_toArray, List.map_cons, List.map_nil]); first | done | rfl | (simp only [List.length_drop, List.length_take]; rfl)) ?_; (with_reducible refine (field_every.calls t107 t108 t110 _ A5.out).mono ?_); rintro e w' ⟨rfl, ⟨nd, rfl⟩⟩; refine ⟨_, rfl, ?_⟩; have hcz17_0 : w16.cell? ⟨gb106, 0, none⟩ = some (.int .u64 a0_0) := (blk_cell BK106.out 0).trans rfl; have hcz17_1 : w16.cell? ⟨gb106, 1, none⟩ = some (.bool false) := (blk_cell BK106.out 1).trans rfl; have hfz17_0 := blk_frozen BK106.out 0; have hfz17_1 := blk_frozen BK106.out 1))
     go_ret
     exact ⟨by first | rfl | (simp [errW_none, errW_some] <;> rfl) | (simp [*, errW_none, errW_some] <;> rfl), by repeat (first | (with_reducible first | exact HB.out | apply below_alloc | apply pw_below_drewN | apply below_drew1 | refine below_set ?_ GE106.out) | exact HB.out)⟩
   ·rw [if_neg c9] at H
    have c9b0 : ((Go.bits .andNot .u64 a0_0 t110) == 0) = false := beq_eq_false_iff_ne.mpr c9
    have c9b1 : ((Go.bits .andNot .u64 a0_0 t110) != 0) = true := bne_iff_ne.mpr c9
    obtain rfl := Option.some.inj H
    go_enter Tryz.func19, Tryz.ntmps19
    go_wp2_with (first | ((with_reducible refine gate_dst (N := 2) rfl ?_); refine box_event ?hg (N := 2) ?hd (cs := #[.int .u64 a0_0, .bool a0_1]) (t := 25) ?hr ?_; (case hd => rfl); (case hg => rfl); (case hr => first | (go_simp; done) | (go_simp; rfl)); intro gb106 hg w18 hbox hb; have n0_ := Aside0.mk (below_step (by repeat (first | (with_reducible first | exact HB.out | apply below_alloc | apply pw_below_drewN | apply below_drew1) | exact HB.out)) hb); have n1_ := Aside0.mk (hbox); have n2_ := Aside0.mk ((by rw [hg]; exact (below_size (by repeat (first | (with_reducible first | exact HB.out | apply below_alloc | apply pw_below_drewN | apply below_drew1) | exact HB.out))) : w.heap.size ≤ gb106)); have n3_ := Aside0.mk ((by rw [hg]; exact (below_size (by repeat (first | (with_reducible first | exact HB.out | apply below_alloc | apply pw_below_drewN | apply below_drew1) | exact HB.out))) : w.heap.size ≤ gb106)); clear HB; have HB := n0_; have BK106 := n1_; have GW106 := n2_; have GE106 := n3_; clear n0_ n1_ n2_ n3_; clear hb hbox hg) | ((with_reducible refine gate_callee (f := 30) rfl ?_); refine goesL_ (some 11) rfl rfl Tryz.func30 (by kernel_rfl) rfl #[.int .i64 a1] rfl (by (try simp only [List.map_toArray, List.map_cons, List.map_nil]); first | done | rfl | (simp only [List.length_drop, List.length_take]; rfl)) ?_; (with_reducible refine (field_limits.calls a1 t107 t108 t109 _ A3.out).mono ?_); rintro e w' ⟨rfl, ⟨nd, rfl⟩⟩; refine ⟨_, rfl, ?_⟩) | ((with_reducible refine gate_callee (f := 44) rfl ?_); refine goesL_ (some 20) rfl rfl Tryz.func44 (by kernel_rfl) rfl #[.int .i64 t107, .int .i64 t108] rfl (by (try simp only [List.map_toArray, List.map_cons, List.map_nil]); first | done | rfl | (simp only [List.length_drop, List.length_take]; rfl)) ?_; (with_reducible refine (field_every.calls t107 t108 t110 _ A5.out).mono ?_); rintro e w' ⟨rfl, ⟨nd, rfl⟩⟩; refine ⟨_, rfl, ?_⟩; have hcz19_0 : w18.cell? ⟨gb106, 0, none⟩ = some (.int .u64 a0_0) := (blk_cell BK106.out 0).trans rfl; have hcz19_1 : w18.cell? ⟨gb106, 1, none⟩ = some (.bool a0_1) := (blk_cell BK106.out 1).trans rfl; have hfz19_0 := blk_frozen BK106.out 0; have hfz19_1 := blk_frozen BK106.out 1))
    go_ret
    exact ⟨by first | rfl | (simp [errW_none, errW_some] <;> rfl) | (simp [*, errW_none, errW_some] <;> rfl), by repeat (first | (with_reducible first | exact HB.out | apply below_alloc | apply pw_below_drewN | apply below_drew1 | refine below_set ?_ GE106.out) | exact HB.out)⟩
 ·rw [if_neg c4] at H
  have c4b0 : (t109 == 0) = false := beq_eq_false_iff_ne.mpr c4
  have c4b1 : (t109 != 0) = true := bne_iff_ne.mpr c4
  obtain rfl := Option.some.inj H
  go_enter Tryz.func19, Tryz.ntmps19
  go_wp2_with (first | ((with_reducible refine gate_dst (N := 2) rfl ?_); refine box_event ?hg (N := 2) ?hd (cs := #[.int .u64 a0_0, .bool a0_1]) (t := 25) ?hr ?_; (case hd => rfl); (case hg => rfl); (case hr => first | (go_simp; done) | (go_simp; rfl)); intro gb106 hg w20 hbox hb; have n0_ := Aside0.mk (below_step (by repeat (first | (with_reducible first | exact HB.out | apply below_alloc | apply pw_below_drewN | apply below_drew1) | exact HB.out)) hb); have n1_ := Aside0.mk (hbox); have n2_ := Aside0.mk ((by rw [hg]; exact (below_size (by repeat (first | (with_reducible first | exact HB.out | apply below_alloc | apply pw_below_drewN | apply below_drew1) | exact HB.out))) : w.heap.size ≤ gb106)); have n3_ := Aside0.mk ((by rw [hg]; exact (below_size (by repeat (first | (with_reducible first | exact HB.out | apply below_alloc | apply pw_below_drewN | apply below_drew1) | exact HB.out))) : w.heap.size ≤ gb106)); clear HB; have HB := n0_; have BK106 := n1_; have GW106 := n2_; have GE106 := n3_; clear n0_ n1_ n2_ n3_; clear hb hbox hg) | ((with_reducible refine gate_callee (f := 30) rfl ?_); refine goesL_ (some 11) rfl rfl Tryz.func30 (by kernel_rfl) rfl #[.int .i64 a1] rfl (by (try simp only [List.map_toArray, List.map_cons, List.map_nil]); first | done | rfl | (simp only [List.length_drop, List.length_take]; rfl)) ?_; (with_reducible refine (field_limits.calls a1 t107 t108 t109 _ A3.out).mono ?_); rintro e w' ⟨rfl, ⟨nd, rfl⟩⟩; refine ⟨_, rfl, ?_⟩))
  go_ret
  exact ⟨by first | rfl | (simp [errW_none, errW_some] <;> rfl) | (simp [*, errW_none, errW_some] <;> rfl), by repeat (first | (with_reducible first | exact HB.out | apply below_alloc | apply pw_below_drewN | apply below_drew1 | refine below_set ?_ GE106.out) | exact HB.out)⟩

end Go.Proofs.YtjddfpciblhpaaaGreatDoor.PSpp
