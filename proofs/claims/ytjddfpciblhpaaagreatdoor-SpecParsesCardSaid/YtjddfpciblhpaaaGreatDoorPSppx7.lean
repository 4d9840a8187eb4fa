-- Written by a program of this session (gprint.py) over the kit's print.
import Derived.Test.YtjddfpciblhpaaaGreatDoorPSppx0
import Derived.Test.YtjddfpciblhpaaaGreatDoorPSppx1
import Derived.Test.YtjddfpciblhpaaaGreatDoorPSppx2
import Derived.Test.YtjddfpciblhpaaaGreatDoorPSppx5
import Derived.Test.YtjddfpciblhpaaaGreatDoorPSppx6
namespace Go.Proofs.YtjddfpciblhpaaaGreatDoor.PSpp
open Go.RowKit Go.Proofs.YtjddfpciblhpaaaGreatDoorW.PrintWords Go.Proofs.YtjddfpciblhpaaaGreatDoorW.PrintLast Go.Proofs.YtjddfpciblhpaaaGreatDoorW.PrintMore
attribute [local go_sem] max2_int min2_int max_two min_two max_three min_three max_four min_four   -- for this text's walks alone
set_option linter.unusedVariables false
set_option linter.unusedSimpArgs false

attribute [local go_sem high] eqA27
/-! ### spec_Check: function 9 -/
/-! This session's own: spec.Check. -/
set_option maxHeartbeats 8000000 in
set_option maxRecDepth 100000 in
theorem Spc.check0 (b0 : Int) (s0 : Bool) (b1 : Int) (s1 : Bool) (b2 : Int) (s2 : Bool) (b3 : Int) (s3 : Bool) (b4 : Int) (s4 : Bool)  (E0 : Int) (he : E0 ≠ 0) (A0 : field_Check.f b0 s0 0 = some E0) (w : World) : Calls Tryz.prog 9 #[.agg #[.int .u64 b0, .bool s0, .int .u64 b1, .bool s1, .int .u64 b2, .bool s2, .int .u64 b3, .bool s3, .int .u64 b4, .bool s4]] w fun e w' => e = .returned (.tuple #[.int .i64 1, .int .i64 E0]) ∧ Below w.heap.size w w' := by
 have q1 : (E0 == 0) = false := by simpa using he
 have q2 : (E0 != 0) = true := by simpa using he
 replace he := Lib.hid he
 replace A0 := Lib.hid A0
 have HR := blk_new w (.cells #[.int .u64 b0, .bool s0, .int .u64 b1, .bool s1, .int .u64 b2, .bool s2, .int .u64 b3, .bool s3, .int .u64 b4, .bool s4] 27)
 have HB := below_alloc (Below.refl _ _) (.cells #[.int .u64 b0, .bool s0, .int .u64 b1, .bool s1, .int .u64 b2, .bool s2, .int .u64 b3, .bool s3, .int .u64 b4, .bool s4] 27) (w := w)
 replace HR := Aside0.mk HR
 replace HB := Aside0.mk HB
 go_enter Tryz.func9, Tryz.ntmps9
 go_wp2_with fail
 refine (Spc.fields_calls _ _).mono ?_
 rintro e V ⟨rfl, hX, hb⟩
 have HR2 : Spc.Row V w.heap.size b0 s0 b1 s1 b2 s2 b3 s3 b4 s4 := blk_below HR.out hb
 have HB2 := below_step HB.out hb
 clear HR HB hb
 obtain ⟨X, hX0⟩ : ∃ X, (w.alloc (.cells #[.int .u64 b0, .bool s0, .int .u64 b1, .bool s1, .int .u64 b2, .bool s2, .int .u64 b3, .bool s3, .int .u64 b4, .bool s4] 27)).heap.size = X := ⟨_, rfl⟩
 rw [hX0] at hX ⊢
 replace hX0 := Lib.hid hX0
 replace HR2 := Aside0.mk HR2
 replace HB2 := Aside0.mk HB2
 replace hX := Aside0.mk hX
 go_wp2_with fail
 refine wp_loop_rounds 1 ?_
 rw [rounds_succ]
 have ix := Spc.ix0 X
 obtain ⟨c0, c1, c2, c3, c4, c5, c6, c7, c8, c9⟩ := HR2.out.cells
 go_wp2_with (go_at_call 25; refine (Spc.at0 _ _ _ hX.out).mono ?_; rintro e w' ⟨rfl, rfl⟩)
 clear ix c0 c1 c2 c3 c4 c5 c6 c7 c8 c9
 refine (field_Check.calls b0 s0 0 E0 _ A0.out).mono ?_
 rintro e0 V0 ⟨rfl, hb⟩
 have HR3 : Spc.Row V0 w.heap.size b0 s0 b1 s1 b2 s2 b3 s3 b4 s4 := blk_below HR2.out hb
 have HB3 := below_step HB2.out hb
 have hX3 : Spc.Bx V0 X w.heap.size := blk_below hX.out hb
 clear HR2 HB2 hX hb
 have HR2 := Aside0.mk HR3
 have HB2 := Aside0.mk HB3
 have hX := Aside0.mk hX3
 clear HR3 HB3 hX3
 go_wp2_with fail
 go_ret2
 exact ⟨rfl, HB2.out⟩
set_option maxHeartbeats 8000000 in
set_option maxRecDepth 100000 in
theorem Spc.check1 (b0 : Int) (s0 : Bool) (b1 : Int) (s1 : Bool) (b2 : Int) (s2 : Bool) (b3 : Int) (s3 : Bool) (b4 : Int) (s4 : Bool) (A0 : field_Check.f b0 s0 0 = some 0) (E0 : Int) (he : E0 ≠ 0) (A1 : field_Check.f b1 s1 1 = some E0) (w : World) : Calls Tryz.prog 9 #[.agg #[.int .u64 b0, .bool s0, .int .u64 b1, .bool s1, .int .u64 b2, .bool s2, .int .u64 b3, .bool s3, .int .u64 b4, .bool s4]] w fun e w' => e = .returned (.tuple #[.int .i64 2, .int .i64 E0]) ∧ Below w.heap.size w w' := by
 have q1 : (E0 == 0) = false := by simpa using he
 have q2 : (E0 != 0) = true := by simpa using he
 replace he := Lib.hid he
 replace A0 := Lib.hid A0
 replace A1 := Lib.hid A1
 have HR := blk_new w (.cells #[.int .u64 b0, .bool s0, .int .u64 b1, .bool s1, .int .u64 b2, .bool s2, .int .u64 b3, .bool s3, .int .u64 b4, .bool s4] 27)
 have HB := below_alloc (Below.refl _ _) (.cells #[.int .u64 b0, .bool s0, .int .u64 b1, .bool s1, .int .u64 b2, .bool s2, .int .u64 b3, .bool s3, .int .u64 b4, .bool s4] 27) (w := w)
 replace HR := Aside0.mk HR
 replace HB := Aside0.mk HB
 go_enter Tryz.func9, Tryz.ntmps9
 go_wp2_with fail
 refine (Spc.fields_calls _ _).mono ?_
 rintro e V ⟨rfl, hX, hb⟩
 have HR2 : Spc.Row V w.heap.size b0 s0 b1 s1 b2 s2 b3 s3 b4 s4 := blk_below HR.out hb
 have HB2 := below_step HB.out hb
 clear HR HB hb
 obtain ⟨X, hX0⟩ : ∃ X, (w.alloc (.cells #[.int .u64 b0, .bool s0, .int .u64 b1, .bool s1, .int .u64 b2, .bool s2, .int .u64 b3, .bool s3, .int .u64 b4, .bool s4] 27)).heap.size = X := ⟨_, rfl⟩
 rw [hX0] at hX ⊢
 replace hX0 := Lib.hid hX0
 replace HR2 := Aside0.mk HR2
 replace HB2 := Aside0.mk HB2
 replace hX := Aside0.mk hX
 go_wp2_with fail
 refine wp_loop_rounds 2 ?_
 rw [rounds_succ]
 have ix := Spc.ix0 X
 obtain ⟨c0, c1, c2, c3, c4, c5, c6, c7, c8, c9⟩ := HR2.out.cells
 go_wp2_with (go_at_call 25; refine (Spc.at0 _ _ _ hX.out).mono ?_; rintro e w' ⟨rfl, rfl⟩)
 clear ix c0 c1 c2 c3 c4 c5 c6 c7 c8 c9
 refine (field_Check.calls b0 s0 0 0 _ A0.out).mono ?_
 rintro e0 V0 ⟨rfl, hb⟩
 have HR3 : Spc.Row V0 w.heap.size b0 s0 b1 s1 b2 s2 b3 s3 b4 s4 := blk_below HR2.out hb
 have HB3 := below_step HB2.out hb
 have hX3 : Spc.Bx V0 X w.heap.size := blk_below hX.out hb
 clear HR2 HB2 hX hb
 have HR2 := Aside0.mk HR3
 have HB2 := Aside0.mk HB3
 have hX := Aside0.mk hX3
 clear HR3 HB3 hX3
 go_wp2_with fail
 rw [rounds_succ]
 have ix := Spc.ix1 X
 obtain ⟨c0, c1, c2, c3, c4, c5, c6, c7, c8, c9⟩ := HR2.out.cells
 go_wp2_with (go_at_call 26; refine (Spc.at1 _ _ _ hX.out).mono ?_; rintro e w' ⟨rfl, rfl⟩)
 clear ix c0 c1 c2 c3 c4 c5 c6 c7 c8 c9
 refine (field_Check.calls b1 s1 1 E0 _ A1.out).mono ?_
 rintro e1 V1 ⟨rfl, hb⟩
 have HR3 : Spc.Row V1 w.heap.size b0 s0 b1 s1 b2 s2 b3 s3 b4 s4 := blk_below HR2.out hb
 have HB3 := below_step HB2.out hb
 have hX3 : Spc.Bx V1 X w.heap.size := blk_below hX.out hb
 clear HR2 HB2 hX hb
 have HR2 := Aside0.mk HR3
 have HB2 := Aside0.mk HB3
 have hX := Aside0.mk hX3
 clear HR3 HB3 hX3
 go_wp2_with fail
 go_ret2
 exact ⟨rfl, HB2.out⟩
set_option maxHeartbeats 8000000 in
set_option maxRecDepth 100000 in
theorem Spc.check2 (b0 : Int) (s0 : Bool) (b1 : Int) (s1 : Bool) (b2 : Int) (s2 : Bool) (b3 : Int) (s3 : Bool) (b4 : Int) (s4 : Bool) (A0 : field_Check.f b0 s0 0 = some 0) (A1 : field_Check.f b1 s1 1 = some 0) (E0 : Int) (he : E0 ≠ 0) (A2 : field_Check.f b2 s2 2 = some E0) (w : World) : Calls Tryz.prog 9 #[.agg #[.int .u64 b0, .bool s0, .int .u64 b1, .bool s1, .int .u64 b2, .bool s2, .int .u64 b3, .bool s3, .int .u64 b4, .bool s4]] w fun e w' => e = .returned (.tuple #[.int .i64 3, .int .i64 E0]) ∧ Below w.heap.size w w' := by
 have q1 : (E0 == 0) = false := by simpa using he
 have q2 : (E0 != 0) = true := by simpa using he
 replace he := Lib.hid he
 replace A0 := Lib.hid A0
 replace A1 := Lib.hid A1
 replace A2 := Lib.hid A2
 have HR := blk_new w (.cells #[.int .u64 b0, .bool s0, .int .u64 b1, .bool s1, .int .u64 b2, .bool s2, .int .u64 b3, .bool s3, .int .u64 b4, .bool s4] 27)
 have HB := below_alloc (Below.refl _ _) (.cells #[.int .u64 b0, .bool s0, .int .u64 b1, .bool s1, .int .u64 b2, .bool s2, .int .u64 b3, .bool s3, .int .u64 b4, .bool s4] 27) (w := w)
 replace HR := Aside0.mk HR
 replace HB := Aside0.mk HB
 go_enter Tryz.func9, Tryz.ntmps9
 go_wp2_with fail
 refine (Spc.fields_calls _ _).mono ?_
 rintro e V ⟨rfl, hX, hb⟩
 have HR2 : Spc.Row V w.heap.size b0 s0 b1 s1 b2 s2 b3 s3 b4 s4 := blk_below HR.out hb
 have HB2 := below_step HB.out hb
 clear HR HB hb
 obtain ⟨X, hX0⟩ : ∃ X, (w.alloc (.cells #[.int .u64 b0, .bool s0, .int .u64 b1, .bool s1, .int .u64 b2, .bool s2, .int .u64 b3, .bool s3, .int .u64 b4, .bool s4] 27)).heap.size = X := ⟨_, rfl⟩
 rw [hX0] at hX ⊢
 replace hX0 := Lib.hid hX0
 replace HR2 := Aside0.mk HR2
 replace HB2 := Aside0.mk HB2
 replace hX := Aside0.mk hX
 go_wp2_with fail
 refine wp_loop_rounds 3 ?_
 rw [rounds_succ]
 have ix := Spc.ix0 X
 obtain ⟨c0, c1, c2, c3, c4, c5, c6, c7, c8, c9⟩ := HR2.out.cells
 go_wp2_with (go_at_call 25; refine (Spc.at0 _ _ _ hX.out).mono ?_; rintro e w' ⟨rfl, rfl⟩)
 clear ix c0 c1 c2 c3 c4 c5 c6 c7 c8 c9
 refine (field_Check.calls b0 s0 0 0 _ A0.out).mono ?_
 rintro e0 V0 ⟨rfl, hb⟩
 have HR3 : Spc.Row V0 w.heap.size b0 s0 b1 s1 b2 s2 b3 s3 b4 s4 := blk_below HR2.out hb
 have HB3 := below_step HB2.out hb
 have hX3 : Spc.Bx V0 X w.heap.size := blk_below hX.out hb
 clear HR2 HB2 hX hb
 have HR2 := Aside0.mk HR3
 have HB2 := Aside0.mk HB3
 have hX := Aside0.mk hX3
 clear HR3 HB3 hX3
 go_wp2_with fail
 rw [rounds_succ]
 have ix := Spc.ix1 X
 obtain ⟨c0, c1, c2, c3, c4, c5, c6, c7, c8, c9⟩ := HR2.out.cells
 go_wp2_with (go_at_call 26; refine (Spc.at1 _ _ _ hX.out).mono ?_; rintro e w' ⟨rfl, rfl⟩)
 clear ix c0 c1 c2 c3 c4 c5 c6 c7 c8 c9
 refine (field_Check.calls b1 s1 1 0 _ A1.out).mono ?_
 rintro e1 V1 ⟨rfl, hb⟩
 have HR3 : Spc.Row V1 w.heap.size b0 s0 b1 s1 b2 s2 b3 s3 b4 s4 := blk_below HR2.out hb
 have HB3 := below_step HB2.out hb
 have hX3 : Spc.Bx V1 X w.heap.size := blk_below hX.out hb
 clear HR2 HB2 hX hb
 have HR2 := Aside0.mk HR3
 have HB2 := Aside0.mk HB3
 have hX := Aside0.mk hX3
 clear HR3 HB3 hX3
 go_wp2_with fail
 rw [rounds_succ]
 have ix := Spc.ix2 X
 obtain ⟨c0, c1, c2, c3, c4, c5, c6, c7, c8, c9⟩ := HR2.out.cells
 go_wp2_with (go_at_call 27; refine (Spc.at2 _ _ _ hX.out).mono ?_; rintro e w' ⟨rfl, rfl⟩)
 clear ix c0 c1 c2 c3 c4 c5 c6 c7 c8 c9
 refine (field_Check.calls b2 s2 2 E0 _ A2.out).mono ?_
 rintro e2 V2 ⟨rfl, hb⟩
 have HR3 : Spc.Row V2 w.heap.size b0 s0 b1 s1 b2 s2 b3 s3 b4 s4 := blk_below HR2.out hb
 have HB3 := below_step HB2.out hb
 have hX3 : Spc.Bx V2 X w.heap.size := blk_below hX.out hb
 clear HR2 HB2 hX hb
 have HR2 := Aside0.mk HR3
 have HB2 := Aside0.mk HB3
 have hX := Aside0.mk hX3
 clear HR3 HB3 hX3
 go_wp2_with fail
 go_ret2
 exact ⟨rfl, HB2.out⟩
set_option maxHeartbeats 8000000 in
set_option maxRecDepth 100000 in
theorem Spc.check3 (b0 : Int) (s0 : Bool) (b1 : Int) (s1 : Bool) (b2 : Int) (s2 : Bool) (b3 : Int) (s3 : Bool) (b4 : Int) (s4 : Bool) (A0 : field_Check.f b0 s0 0 = some 0) (A1 : field_Check.f b1 s1 1 = some 0) (A2 : field_Check.f b2 s2 2 = some 0) (E0 : Int) (he : E0 ≠ 0) (A3 : field_Check.f b3 s3 3 = some E0) (w : World) : Calls Tryz.prog 9 #[.agg #[.int .u64 b0, .bool s0, .int .u64 b1, .bool s1, .int .u64 b2, .bool s2, .int .u64 b3, .bool s3, .int .u64 b4, .bool s4]] w fun e w' => e = .returned (.tuple #[.int .i64 4, .int .i64 E0]) ∧ Below w.heap.size w w' := by
 have q1 : (E0 == 0) = false := by simpa using he
 have q2 : (E0 != 0) = true := by simpa using he
 replace he := Lib.hid he
 replace A0 := Lib.hid A0
 replace A1 := Lib.hid A1
 replace A2 := Lib.hid A2
 replace A3 := Lib.hid A3
 have HR := blk_new w (.cells #[.int .u64 b0, .bool s0, .int .u64 b1, .bool s1, .int .u64 b2, .bool s2, .int .u64 b3, .bool s3, .int .u64 b4, .bool s4] 27)
 have HB := below_alloc (Below.refl _ _) (.cells #[.int .u64 b0, .bool s0, .int .u64 b1, .bool s1, .int .u64 b2, .bool s2, .int .u64 b3, .bool s3, .int .u64 b4, .bool s4] 27) (w := w)
 replace HR := Aside0.mk HR
 replace HB := Aside0.mk HB
 go_enter Tryz.func9, Tryz.ntmps9
 go_wp2_with fail
 refine (Spc.fields_calls _ _).mono ?_
 rintro e V ⟨rfl, hX, hb⟩
 have HR2 : Spc.Row V w.heap.size b0 s0 b1 s1 b2 s2 b3 s3 b4 s4 := blk_below HR.out hb
 have HB2 := below_step HB.out hb
 clear HR HB hb
 obtain ⟨X, hX0⟩ : ∃ X, (w.alloc (.cells #[.int .u64 b0, .bool s0, .int .u64 b1, .bool s1, .int .u64 b2, .bool s2, .int .u64 b3, .bool s3, .int .u64 b4, .bool s4] 27)).heap.size = X := ⟨_, rfl⟩
 rw [hX0] at hX ⊢
 replace hX0 := Lib.hid hX0
 replace HR2 := Aside0.mk HR2
 replace HB2 := Aside0.mk HB2
 replace hX := Aside0.mk hX
 go_wp2_with fail
 refine wp_loop_rounds 4 ?_
 rw [rounds_succ]
 have ix := Spc.ix0 X
 obtain ⟨c0, c1, c2, c3, c4, c5, c6, c7, c8, c9⟩ := HR2.out.cells
 go_wp2_with (go_at_call 25; refine (Spc.at0 _ _ _ hX.out).mono ?_; rintro e w' ⟨rfl, rfl⟩)
 clear ix c0 c1 c2 c3 c4 c5 c6 c7 c8 c9
 refine (field_Check.calls b0 s0 0 0 _ A0.out).mono ?_
 rintro e0 V0 ⟨rfl, hb⟩
 have HR3 : Spc.Row V0 w.heap.size b0 s0 b1 s1 b2 s2 b3 s3 b4 s4 := blk_below HR2.out hb
 have HB3 := below_step HB2.out hb
 have hX3 : Spc.Bx V0 X w.heap.size := blk_below hX.out hb
 clear HR2 HB2 hX hb
 have HR2 := Aside0.mk HR3
 have HB2 := Aside0.mk HB3
 have hX := Aside0.mk hX3
 clear HR3 HB3 hX3
 go_wp2_with fail
 rw [rounds_succ]
 have ix := Spc.ix1 X
 obtain ⟨c0, c1, c2, c3, c4, c5, c6, c7, c8, c9⟩ := HR2.out.cells
 go_wp2_with (go_at_call 26; refine (Spc.at1 _ _ _ hX.out).mono ?_; rintro e w' ⟨rfl, rfl⟩)
 clear ix c0 c1 c2 c3 c4 c5 c6 c7 c8 c9
 refine (field_Check.calls b1 s1 1 0 _ A1.out).mono ?_
 rintro e1 V1 ⟨rfl, hb⟩
 have HR3 : Spc.Row V1 w.heap.size b0 s0 b1 s1 b2 s2 b3 s3 b4 s4 := blk_below HR2.out hb
 have HB3 := below_step HB2.out hb
 have hX3 : Spc.Bx V1 X w.heap.size := blk_below hX.out hb
 clear HR2 HB2 hX hb
 have HR2 := Aside0.mk HR3
 have HB2 := Aside0.mk HB3
 have hX := Aside0.mk hX3
 clear HR3 HB3 hX3
 go_wp2_with fail
 rw [rounds_succ]
 have ix := Spc.ix2 X
 obtain ⟨c0, c1, c2, c3, c4, c5, c6, c7, c8, c9⟩ := HR2.out.cells
 go_wp2_with (go_at_call 27; refine (Spc.at2 _ _ _ hX.out).mono ?_; rintro e w' ⟨rfl, rfl⟩)
 clear ix c0 c1 c2 c3 c4 c5 c6 c7 c8 c9
 refine (field_Check.calls b2 s2 2 0 _ A2.out).mono ?_
 rintro e2 V2 ⟨rfl, hb⟩
 have HR3 : Spc.Row V2 w.heap.size b0 s0 b1 s1 b2 s2 b3 s3 b4 s4 := blk_below HR2.out hb
 have HB3 := below_step HB2.out hb
 have hX3 : Spc.Bx V2 X w.heap.size := blk_below hX.out hb
 clear HR2 HB2 hX hb
 have HR2 := Aside0.mk HR3
 have HB2 := Aside0.mk HB3
 have hX := Aside0.mk hX3
 clear HR3 HB3 hX3
 go_wp2_with fail
 rw [rounds_succ]
 have ix := Spc.ix3 X
 obtain ⟨c0, c1, c2, c3, c4, c5, c6, c7, c8, c9⟩ := HR2.out.cells
 go_wp2_with (go_at_call 28; refine (Spc.at3 _ _ _ hX.out).mono ?_; rintro e w' ⟨rfl, rfl⟩)
 clear ix c0 c1 c2 c3 c4 c5 c6 c7 c8 c9
 refine (field_Check.calls b3 s3 3 E0 _ A3.out).mono ?_
 rintro e3 V3 ⟨rfl, hb⟩
 have HR3 : Spc.Row V3 w.heap.size b0 s0 b1 s1 b2 s2 b3 s3 b4 s4 := blk_below HR2.out hb
 have HB3 := below_step HB2.out hb
 have hX3 : Spc.Bx V3 X w.heap.size := blk_below hX.out hb
 clear HR2 HB2 hX hb
 have HR2 := Aside0.mk HR3
 have HB2 := Aside0.mk HB3
 have hX := Aside0.mk hX3
 clear HR3 HB3 hX3
 go_wp2_with fail
 go_ret2
 exact ⟨rfl, HB2.out⟩
set_option maxHeartbeats 8000000 in
set_option maxRecDepth 100000 in
theorem Spc.check4 (b0 : Int) (s0 : Bool) (b1 : Int) (s1 : Bool) (b2 : Int) (s2 : Bool) (b3 : Int) (s3 : Bool) (b4 : Int) (s4 : Bool) (A0 : field_Check.f b0 s0 0 = some 0) (A1 : field_Check.f b1 s1 1 = some 0) (A2 : field_Check.f b2 s2 2 = some 0) (A3 : field_Check.f b3 s3 3 = some 0) (E0 : Int) (he : E0 ≠ 0) (A4 : field_Check.f b4 s4 4 = some E0) (w : World) : Calls Tryz.prog 9 #[.agg #[.int .u64 b0, .bool s0, .int .u64 b1, .bool s1, .int .u64 b2, .bool s2, .int .u64 b3, .bool s3, .int .u64 b4, .bool s4]] w fun e w' => e = .returned (.tuple #[.int .i64 5, .int .i64 E0]) ∧ Below w.heap.size w w' := by
 have q1 : (E0 == 0) = false := by simpa using he
 have q2 : (E0 != 0) = true := by simpa using he
 replace he := Lib.hid he
 replace A0 := Lib.hid A0
 replace A1 := Lib.hid A1
 replace A2 := Lib.hid A2
 replace A3 := Lib.hid A3
 replace A4 := Lib.hid A4
 have HR := blk_new w (.cells #[.int .u64 b0, .bool s0, .int .u64 b1, .bool s1, .int .u64 b2, .bool s2, .int .u64 b3, .bool s3, .int .u64 b4, .bool s4] 27)
 have HB := below_alloc (Below.refl _ _) (.cells #[.int .u64 b0, .bool s0, .int .u64 b1, .bool s1, .int .u64 b2, .bool s2, .int .u64 b3, .bool s3, .int .u64 b4, .bool s4] 27) (w := w)
 replace HR := Aside0.mk HR
 replace HB := Aside0.mk HB
 go_enter Tryz.func9, Tryz.ntmps9
 go_wp2_with fail
 refine (Spc.fields_calls _ _).mono ?_
 rintro e V ⟨rfl, hX, hb⟩
 have HR2 : Spc.Row V w.heap.size b0 s0 b1 s1 b2 s2 b3 s3 b4 s4 := blk_below HR.out hb
 have HB2 := below_step HB.out hb
 clear HR HB hb
 obtain ⟨X, hX0⟩ : ∃ X, (w.alloc (.cells #[.int .u64 b0, .bool s0, .int .u64 b1, .bool s1, .int .u64 b2, .bool s2, .int .u64 b3, .bool s3, .int .u64 b4, .bool s4] 27)).heap.size = X := ⟨_, rfl⟩
 rw [hX0] at hX ⊢
 replace hX0 := Lib.hid hX0
 replace HR2 := Aside0.mk HR2
 replace HB2 := Aside0.mk HB2
 replace hX := Aside0.mk hX
 go_wp2_with fail
 refine wp_loop_rounds 5 ?_
 rw [rounds_succ]
 have ix := Spc.ix0 X
 obtain ⟨c0, c1, c2, c3, c4, c5, c6, c7, c8, c9⟩ := HR2.out.cells
 go_wp2_with (go_at_call 25; refine (Spc.at0 _ _ _ hX.out).mono ?_; rintro e w' ⟨rfl, rfl⟩)
 clear ix c0 c1 c2 c3 c4 c5 c6 c7 c8 c9
 refine (field_Check.calls b0 s0 0 0 _ A0.out).mono ?_
 rintro e0 V0 ⟨rfl, hb⟩
 have HR3 : Spc.Row V0 w.heap.size b0 s0 b1 s1 b2 s2 b3 s3 b4 s4 := blk_below HR2.out hb
 have HB3 := below_step HB2.out hb
 have hX3 : Spc.Bx V0 X w.heap.size := blk_below hX.out hb
 clear HR2 HB2 hX hb
 have HR2 := Aside0.mk HR3
 have HB2 := Aside0.mk HB3
 have hX := Aside0.mk hX3
 clear HR3 HB3 hX3
 go_wp2_with fail
 rw [rounds_succ]
 have ix := Spc.ix1 X
 obtain ⟨c0, c1, c2, c3, c4, c5, c6, c7, c8, c9⟩ := HR2.out.cells
 go_wp2_with (go_at_call 26; refine (Spc.at1 _ _ _ hX.out).mono ?_; rintro e w' ⟨rfl, rfl⟩)
 clear ix c0 c1 c2 c3 c4 c5 c6 c7 c8 c9
 refine (field_Check.calls b1 s1 1 0 _ A1.out).mono ?_
 rintro e1 V1 ⟨rfl, hb⟩
 have HR3 : Spc.Row V1 w.heap.size b0 s0 b1 s1 b2 s2 b3 s3 b4 s4 := blk_below HR2.out hb
 have HB3 := below_step HB2.out hb
 have hX3 : Spc.Bx V1 X w.heap.size := blk_below hX.out hb
 clear HR2 HB2 hX hb
 have HR2 := Aside0.mk HR3
 have HB2 := Aside0.mk HB3
 have hX := Aside0.mk hX3
 clear HR3 HB3 hX3
 go_wp2_with fail
 rw [rounds_succ]
 have ix := Spc.ix2 X
 obtain ⟨c0, c1, c2, c3, c4, c5, c6, c7, c8, c9⟩ := HR2.out.cells
 go_wp2_with (go_at_call 27; refine (Spc.at2 _ _ _ hX.out).mono ?_; rintro e w' ⟨rfl, rfl⟩)
 clear ix c0 c1 c2 c3 c4 c5 c6 c7 c8 c9
 refine (field_Check.calls b2 s2 2 0 _ A2.out).mono ?_
 rintro e2 V2 ⟨rfl, hb⟩
 have HR3 : Spc.Row V2 w.heap.size b0 s0 b1 s1 b2 s2 b3 s3 b4 s4 := blk_below HR2.out hb
 have HB3 := below_step HB2.out hb
 have hX3 : Spc.Bx V2 X w.heap.size := blk_below hX.out hb
 clear HR2 HB2 hX hb
 have HR2 := Aside0.mk HR3
 have HB2 := Aside0.mk HB3
 have hX := Aside0.mk hX3
 clear HR3 HB3 hX3
 go_wp2_with fail
 rw [rounds_succ]
 have ix := Spc.ix3 X
 obtain ⟨c0, c1, c2, c3, c4, c5, c6, c7, c8, c9⟩ := HR2.out.cells
 go_wp2_with (go_at_call 28; refine (Spc.at3 _ _ _ hX.out).mono ?_; rintro e w' ⟨rfl, rfl⟩)
 clear ix c0 c1 c2 c3 c4 c5 c6 c7 c8 c9
 refine (field_Check.calls b3 s3 3 0 _ A3.out).mono ?_
 rintro e3 V3 ⟨rfl, hb⟩
 have HR3 : Spc.Row V3 w.heap.size b0 s0 b1 s1 b2 s2 b3 s3 b4 s4 := blk_below HR2.out hb
 have HB3 := below_step HB2.out hb
 have hX3 : Spc.Bx V3 X w.heap.size := blk_below hX.out hb
 clear HR2 HB2 hX hb
 have HR2 := Aside0.mk HR3
 have HB2 := Aside0.mk HB3
 have hX := Aside0.mk hX3
 clear HR3 HB3 hX3
 go_wp2_with fail
 rw [rounds_succ]
 have ix := Spc.ix4 X
 obtain ⟨c0, c1, c2, c3, c4, c5, c6, c7, c8, c9⟩ := HR2.out.cells
 go_wp2_with (go_at_call 29; refine (Spc.at4 _ _ _ hX.out).mono ?_; rintro e w' ⟨rfl, rfl⟩)
 clear ix c0 c1 c2 c3 c4 c5 c6 c7 c8 c9
 refine (field_Check.calls b4 s4 4 E0 _ A4.out).mono ?_
 rintro e4 V4 ⟨rfl, hb⟩
 have HR3 : Spc.Row V4 w.heap.size b0 s0 b1 s1 b2 s2 b3 s3 b4 s4 := blk_below HR2.out hb
 have HB3 := below_step HB2.out hb
 have hX3 : Spc.Bx V4 X w.heap.size := blk_below hX.out hb
 clear HR2 HB2 hX hb
 have HR2 := Aside0.mk HR3
 have HB2 := Aside0.mk HB3
 have hX := Aside0.mk hX3
 clear HR3 HB3 hX3
 go_wp2_with fail
 go_ret2
 exact ⟨rfl, HB2.out⟩
set_option maxHeartbeats 8000000 in
set_option maxRecDepth 100000 in
theorem Spc.check5 (b0 : Int) (s0 : Bool) (b1 : Int) (s1 : Bool) (b2 : Int) (s2 : Bool) (b3 : Int) (s3 : Bool) (b4 : Int) (s4 : Bool) (A0 : field_Check.f b0 s0 0 = some 0) (A1 : field_Check.f b1 s1 1 = some 0) (A2 : field_Check.f b2 s2 2 = some 0) (A3 : field_Check.f b3 s3 3 = some 0) (A4 : field_Check.f b4 s4 4 = some 0) (w : World) : Calls Tryz.prog 9 #[.agg #[.int .u64 b0, .bool s0, .int .u64 b1, .bool s1, .int .u64 b2, .bool s2, .int .u64 b3, .bool s3, .int .u64 b4, .bool s4]] w fun e w' => e = .returned (.tuple #[.int .i64 0, .int .i64 0]) ∧ Below w.heap.size w w' := by
 replace A0 := Lib.hid A0
 replace A1 := Lib.hid A1
 replace A2 := Lib.hid A2
 replace A3 := Lib.hid A3
 replace A4 := Lib.hid A4
 have HR := blk_new w (.cells #[.int .u64 b0, .bool s0, .int .u64 b1, .bool s1, .int .u64 b2, .bool s2, .int .u64 b3, .bool s3, .int .u64 b4, .bool s4] 27)
 have HB := below_alloc (Below.refl _ _) (.cells #[.int .u64 b0, .bool s0, .int .u64 b1, .bool s1, .int .u64 b2, .bool s2, .int .u64 b3, .bool s3, .int .u64 b4, .bool s4] 27) (w := w)
 replace HR := Aside0.mk HR
 replace HB := Aside0.mk HB
 go_enter Tryz.func9, Tryz.ntmps9
 go_wp2_with fail
 refine (Spc.fields_calls _ _).mono ?_
 rintro e V ⟨rfl, hX, hb⟩
 have HR2 : Spc.Row V w.heap.size b0 s0 b1 s1 b2 s2 b3 s3 b4 s4 := blk_below HR.out hb
 have HB2 := below_step HB.out hb
 clear HR HB hb
 obtain ⟨X, hX0⟩ : ∃ X, (w.alloc (.cells #[.int .u64 b0, .bool s0, .int .u64 b1, .bool s1, .int .u64 b2, .bool s2, .int .u64 b3, .bool s3, .int .u64 b4, .bool s4] 27)).heap.size = X := ⟨_, rfl⟩
 rw [hX0] at hX ⊢
 replace hX0 := Lib.hid hX0
 replace HR2 := Aside0.mk HR2
 replace HB2 := Aside0.mk HB2
 replace hX := Aside0.mk hX
 go_wp2_with fail
 refine wp_loop_rounds 6 ?_
 rw [rounds_succ]
 have ix := Spc.ix0 X
 obtain ⟨c0, c1, c2, c3, c4, c5, c6, c7, c8, c9⟩ := HR2.out.cells
 go_wp2_with (go_at_call 25; refine (Spc.at0 _ _ _ hX.out).mono ?_; rintro e w' ⟨rfl, rfl⟩)
 clear ix c0 c1 c2 c3 c4 c5 c6 c7 c8 c9
 refine (field_Check.calls b0 s0 0 0 _ A0.out).mono ?_
 rintro e0 V0 ⟨rfl, hb⟩
 have HR3 : Spc.Row V0 w.heap.size b0 s0 b1 s1 b2 s2 b3 s3 b4 s4 := blk_below HR2.out hb
 have HB3 := below_step HB2.out hb
 have hX3 : Spc.Bx V0 X w.heap.size := blk_below hX.out hb
 clear HR2 HB2 hX hb
 have HR2 := Aside0.mk HR3
 have HB2 := Aside0.mk HB3
 have hX := Aside0.mk hX3
 clear HR3 HB3 hX3
 go_wp2_with fail
 rw [rounds_succ]
 have ix := Spc.ix1 X
 obtain ⟨c0, c1, c2, c3, c4, c5, c6, c7, c8, c9⟩ := HR2.out.cells
 go_wp2_with (go_at_call 26; refine (Spc.at1 _ _ _ hX.out).mono ?_; rintro e w' ⟨rfl, rfl⟩)
 clear ix c0 c1 c2 c3 c4 c5 c6 c7 c8 c9
 refine (field_Check.calls b1 s1 1 0 _ A1.out).mono ?_
 rintro e1 V1 ⟨rfl, hb⟩
 have HR3 : Spc.Row V1 w.heap.size b0 s0 b1 s1 b2 s2 b3 s3 b4 s4 := blk_below HR2.out hb
 have HB3 := below_step HB2.out hb
 have hX3 : Spc.Bx V1 X w.heap.size := blk_below hX.out hb
 clear HR2 HB2 hX hb
 have HR2 := Aside0.mk HR3
 have HB2 := Aside0.mk HB3
 have hX := Aside0.mk hX3
 clear HR3 HB3 hX3
 go_wp2_with fail
 rw [rounds_succ]
 have ix := Spc.ix2 X
 obtain ⟨c0, c1, c2, c3, c4, c5, c6, c7, c8, c9⟩ := HR2.out.cells
 go_wp2_with (go_at_call 27; refine (Spc.at2 _ _ _ hX.out).mono ?_; rintro e w' ⟨rfl, rfl⟩)
 clear ix c0 c1 c2 c3 c4 c5 c6 c7 c8 c9
 refine (field_Check.calls b2 s2 2 0 _ A2.out).mono ?_
 rintro e2 V2 ⟨rfl, hb⟩
 have HR3 : Spc.Row V2 w.heap.size b0 s0 b1 s1 b2 s2 b3 s3 b4 s4 := blk_below HR2.out hb
 have HB3 := below_step HB2.out hb
 have hX3 : Spc.Bx V2 X w.heap.size := blk_below hX.out hb
 clear HR2 HB2 hX hb
 have HR2 := Aside0.mk HR3
 have HB2 := Aside0.mk HB3
 have hX := Aside0.mk hX3
 clear HR3 HB3 hX3
 go_wp2_with fail
 rw [rounds_succ]
 have ix := Spc.ix3 X
 obtain ⟨c0, c1, c2, c3, c4, c5, c6, c7, c8, c9⟩ := HR2.out.cells
 go_wp2_with (go_at_call 28; refine (Spc.at3 _ _ _ hX.out).mono ?_; rintro e w' ⟨rfl, rfl⟩)
 clear ix c0 c1 c2 c3 c4 c5 c6 c7 c8 c9
 refine (field_Check.calls b3 s3 3 0 _ A3.out).mono ?_
 rintro e3 V3 ⟨rfl, hb⟩
 have HR3 : Spc.Row V3 w.heap.size b0 s0 b1 s1 b2 s2 b3 s3 b4 s4 := blk_below HR2.out hb
 have HB3 := below_step HB2.out hb
 have hX3 : Spc.Bx V3 X w.heap.size := blk_below hX.out hb
 clear HR2 HB2 hX hb
 have HR2 := Aside0.mk HR3
 have HB2 := Aside0.mk HB3
 have hX := Aside0.mk hX3
 clear HR3 HB3 hX3
 go_wp2_with fail
 rw [rounds_succ]
 have ix := Spc.ix4 X
 obtain ⟨c0, c1, c2, c3, c4, c5, c6, c7, c8, c9⟩ := HR2.out.cells
 go_wp2_with (go_at_call 29; refine (Spc.at4 _ _ _ hX.out).mono ?_; rintro e w' ⟨rfl, rfl⟩)
 clear ix c0 c1 c2 c3 c4 c5 c6 c7 c8 c9
 refine (field_Check.calls b4 s4 4 0 _ A4.out).mono ?_
 rintro e4 V4 ⟨rfl, hb⟩
 have HR3 : Spc.Row V4 w.heap.size b0 s0 b1 s1 b2 s2 b3 s3 b4 s4 := blk_below HR2.out hb
 have HB3 := below_step HB2.out hb
 have hX3 : Spc.Bx V4 X w.heap.size := blk_below hX.out hb
 clear HR2 HB2 hX hb
 have HR2 := Aside0.mk HR3
 have HB2 := Aside0.mk HB3
 have hX := Aside0.mk hX3
 clear HR3 HB3 hX3
 go_wp2_with fail
 rw [rounds_succ]
 go_wp2_with fail
 go_ret2
 exact ⟨rfl, HB2.out⟩
def spec_Check.f (a0_0 : Int) (a0_1 : Bool) (a0_2 : Int) (a0_3 : Bool) (a0_4 : Int) (a0_5 : Bool) (a0_6 : Int) (a0_7 : Bool) (a0_8 : Int) (a0_9 : Bool) : Option (Int × Int) := (field_Check.f a0_0 a0_1 0).bind fun e0 => if e0 ≠ 0 then some (1, e0) else (field_Check.f a0_2 a0_3 1).bind fun e1 => if e1 ≠ 0 then some (2, e1) else (field_Check.f a0_4 a0_5 2).bind fun e2 => if e2 ≠ 0 then some (3, e2) else (field_Check.f a0_6 a0_7 3).bind fun e3 => if e3 ≠ 0 then some (4, e3) else (field_Check.f a0_8 a0_9 4).bind fun e4 => if e4 ≠ 0 then some (5, e4) else some (0, 0)
set_option maxHeartbeats 8000000 in
set_option maxRecDepth 100000 in
theorem spec_Check.calls (a0_0 : Int) (a0_1 : Bool) (a0_2 : Int) (a0_3 : Bool) (a0_4 : Int) (a0_5 : Bool) (a0_6 : Int) (a0_7 : Bool) (a0_8 : Int) (a0_9 : Bool) (r1 : Int) (r2 : Int) (w : World) (h : spec_Check.f a0_0 a0_1 a0_2 a0_3 a0_4 a0_5 a0_6 a0_7 a0_8 a0_9 = some (r1, r2)) :
  Calls Tryz.prog 9 #[.agg #[.int .u64 a0_0, .bool a0_1, .int .u64 a0_2, .bool a0_3, .int .u64 a0_4, .bool a0_5, .int .u64 a0_6, .bool a0_7, .int .u64 a0_8, .bool a0_9]] w fun e w' => e = .returned (.tuple #[.int .i64 r1, .int .i64 r2]) ∧ Below w.heap.size w w' := by
 have H : _ = some (r1, r2) := h
 clear h
 obtain ⟨e0, A0, H⟩ := Option.bind_eq_some_iff.1 H
 by_cases c0 : e0 ≠ 0
 ·rw [if_pos c0] at H
  obtain ⟨rfl, rfl⟩ := Prod.mk.inj (Option.some.inj H)
  exact Spc.check0 a0_0 a0_1 a0_2 a0_3 a0_4 a0_5 a0_6 a0_7 a0_8 a0_9  _ c0 A0 w
 rw [if_neg c0] at H
 obtain rfl : e0 = 0 := by simpa using c0
 obtain ⟨e1, A1, H⟩ := Option.bind_eq_some_iff.1 H
 by_cases c1 : e1 ≠ 0
 ·rw [if_pos c1] at H
  obtain ⟨rfl, rfl⟩ := Prod.mk.inj (Option.some.inj H)
  exact Spc.check1 a0_0 a0_1 a0_2 a0_3 a0_4 a0_5 a0_6 a0_7 a0_8 a0_9 A0 _ c1 A1 w
 rw [if_neg c1] at H
 obtain rfl : e1 = 0 := by simpa using c1
 obtain ⟨e2, A2, H⟩ := Option.bind_eq_some_iff.1 H
 by_cases c2 : e2 ≠ 0
 ·rw [if_pos c2] at H
  obtain ⟨rfl, rfl⟩ := Prod.mk.inj (Option.some.inj H)
  exact Spc.check2 a0_0 a0_1 a0_2 a0_3 a0_4 a0_5 a0_6 a0_7 a0_8 a0_9 A0 A1 _ c2 A2 w
 rw [if_neg c2] at H
 obtain rfl : e2 = 0 := by simpa using c2
 obtain ⟨e3, A3, H⟩ := Option.bind_eq_some_iff.1 H
 by_cases c3 : e3 ≠ 0
 ·rw [if_pos c3] at H
  obtain ⟨rfl, rfl⟩ := Prod.mk.inj (Option.some.inj H)
  exact Spc.check3 a0_0 a0_1 a0_2 a0_3 a0_4 a0_5 a0_6 a0_7 a0_8 a0_9 A0 A1 A2 _ c3 A3 w
 rw [if_neg c3] at H
 obtain rfl : e3 = 0 := by simpa using c3
 obtain ⟨e4, A4, H⟩ := Option.bind_eq_some_iff.1 H
 by_cases c4 : e4 ≠ 0
 ·rw [if_pos c4] at H
  obtain ⟨rfl, rfl⟩ := Prod.mk.inj (Option.some.inj H)
  exact Spc.check4 a0_0 a0_1 a0_2 a0_3 a0_4 a0_5 a0_6 a0_7 a0_8 a0_9 A0 A1 A2 A3 _ c4 A4 w
 rw [if_neg c4] at H
 obtain rfl : e4 = 0 := by simpa using c4
 obtain ⟨rfl, rfl⟩ := Prod.mk.inj (Option.some.inj H)
 exact Spc.check5 a0_0 a0_1 a0_2 a0_3 a0_4 a0_5 a0_6 a0_7 a0_8 a0_9 A0 A1 A2 A3 A4 w

/-! ### field_All: function 20 -/
def field_All.f (a0 : Int) : Option (Int × Bool × Int) := (field_limits.f a0).bind fun bt112 => (if bt112.2.2 = 0 then ((field_every.f bt112.1 bt112.2.1).bind fun t115 => (some (t115, true, 0))) else (some (0, false, bt112.2.2)))
set_option maxHeartbeats 8000000 in
set_option maxRecDepth 100000 in
theorem field_All.calls (a0 : Int) (r1 : Int) (r2 : Bool) (r3 : Int) (w : World) (h : field_All.f a0 = some (r1, r2, r3)) :
  Calls Tryz.prog 20 #[.int .i64 a0] w fun e w' => e = .returned (.tuple #[.agg #[.int .u64 r1, .bool r2], .int .i64 r3]) ∧ Below w.heap.size w w' := by
 have hu25 := Tryz.underlying25
 have HB := Aside0.mk (Below.refl w.heap.size w)
 have H : ((field_limits.f a0).bind fun bt112 => (if bt112.2.2 = 0 then ((field_every.f bt112.1 bt112.2.1).bind fun t115 => (some (t115, true, 0))) else (some (0, false, bt112.2.2)))) = some (r1, r2, r3) := h
 clear h
 replace H := Option.bind_eq_some_iff.mp H
 obtain ⟨⟨t112, t113, t114⟩, A20, H⟩ := H
 replace H : (if t114 = 0 then ((field_every.f t112 t113).bind fun t115 => (some (t115, true, 0))) else (some (0, false, t114))) = some (r1, r2, r3) := H
 have A2 := Aside0.mk A20
 clear A20
 by_cases c3 : t114 = 0
 ·rw [if_pos c3] at H
  have c3b0 : (t114 == 0) = true := beq_iff_eq.mpr c3
  have c3b1 : (t114 != 0) = false := bne_eq_false_iff_eq.mpr c3
  clear c3
  replace H := Option.bind_eq_some_iff.mp H
  obtain ⟨t115, A40, H⟩ := H
  replace H : (some (t115, true, 0)) = some (r1, r2, r3) := H
  have A4 := Aside0.mk A40
  clear A40
  simp only [Option.some.injEq, Prod.mk.injEq] at H
  obtain ⟨rfl, rfl, rfl⟩ := H
  go_enter Tryz.func20, Tryz.ntmps20
  go_wp2_with (first | ((with_reducible refine gate_dst (N := 2) rfl ?_); refine box_event ?hg (N := 2) ?hd (cs := #[.int .u64 0, .bool false]) (t := 25) ?hr ?_; (case hd => rfl); (case hg => rfl); (case hr => first | (go_simp; done) | (go_simp; rfl)); intro gb111 hg w5 hbox hb; have n0_ := Aside0.mk (below_step (by repeat (first | (with_reducible first | exact HB.out | apply below_alloc | apply pw_below_drewN | apply below_drew1) | exact HB.out)) hb); have n1_ := Aside0.mk (hbox); have n2_ := Aside0.mk ((by rw [hg]; exact (below_size (by repeat (first | (with_reducible first | exact HB.out | apply below_alloc | apply pw_below_drewN | apply below_drew1) | exact HB.out))) : w.heap.size ≤ gb111)); have n3_ := Aside0.mk ((by rw [hg]; exact (below_size (by repeat (first | (with_reducible first | exact HB.out | apply below_alloc | apply pw_below_drewN | apply below_drew1) | exact HB.out))) : w.heap.size ≤ gb111)); clear HB; have HB := n0_; have BK111 := n1_; have GW111 := n2_; have GE111 := n3_; clear n0_ n1_ n2_ n3_; clear hb hbox hg) | ((with_reducible refine gate_callee (f := 30) rfl ?_); refine goesL_ (some 9) rfl rfl Tryz.func30 (by kernel_rfl) rfl #[.int .i64 a0] rfl (by (try simp only [List.map_toArray, List.map_cons, List.map_nil]); first | done | rfl | (simp only [List.length_drop, List.length_take]; rfl)) ?_; (with_reducible refine (field_limits.calls a0 t112 t113 t114 _ A2.out).mono ?_); rintro e w' ⟨rfl, ⟨nd, rfl⟩⟩; refine ⟨_, rfl, ?_⟩; (try (rw [drewN_self w5]; generalize hq_ : World.drewN w5 _ = w5; have n0_ : Aside0 (w5.heap[gb111]? = some (.cells #[.int .u64 0, .bool false] 25 (0, 0))) := ⟨by rw [← hq_]; exact (by (with_reducible repeat (first | refine blk_drewN ?_ _ | refine blk_drew ?_ | refine blk_alloc ?_ _)); exact BK111.out)⟩; have n1_ : Aside0 (Below w.heap.size w w5) := ⟨by rw [← hq_]; exact (by repeat (first | (with_reducible first | exact HB.out | apply below_alloc | apply pw_below_drewN | apply below_drew1 | refine below_set ?_ GE111.out) | exact HB.out))⟩; clear BK111 HB hq_; have BK111 := n0_; have HB := n1_; clear n0_ n1_))) | ((with_reducible refine gate_callee (f := 44) rfl ?_); refine goesL_ (some 19) rfl rfl Tryz.func44 (by kernel_rfl) rfl #[.int .i64 t112, .int .i64 t113] rfl (by (try simp only [List.map_toArray, List.map_cons, List.map_nil]); first | done | rfl | (simp only [List.length_drop, List.length_take]; rfl)) ?_; (with_reducible refine (field_every.calls t112 t113 t115 _ A4.out).mono ?_); rintro e w' ⟨rfl, ⟨nd, rfl⟩⟩; refine ⟨_, rfl, ?_⟩; (try (rw [drewN_self w5]; generalize hq_ : World.drewN w5 _ = w5; have n0_ : Aside0 (w5.heap[gb111]? = some (.cells #[.int .u64 0, .bool false] 25 (0, 0))) := ⟨by rw [← hq_]; exact (by (with_reducible repeat (first | refine blk_drewN ?_ _ | refine blk_drew ?_ | refine blk_alloc ?_ _)); exact BK111.out)⟩; have n1_ : Aside0 (Below w.heap.size w w5) := ⟨by rw [← hq_]; exact (by repeat (first | (with_reducible first | exact HB.out | apply below_alloc | apply pw_below_drewN | apply below_drew1 | refine below_set ?_ GE111.out) | exact HB.out))⟩; clear BK111 HB hq_; have BK111 := n0_; have HB := n1_; clear n0_ n1_)); have hcz6_0 : w5.cell? ⟨gb111, 0, none⟩ = some (.int .u64 0) := (blk_cell BK111.out 0).trans rfl; have hcz6_1 : w5.cell? ⟨gb111, 1, none⟩ = some (.bool false) := (blk_cell BK111.out 1).trans rfl; have hfz6_0 := blk_frozen BK111.out 0; have hfz6_1 := blk_frozen BK111.out 1))
  refine bodyPost_ret (results_ct rfl _ _ gb111 25 #[.int .u64 t115, .bool true] (0, 0) _ rfl (by (with_reducible repeat (first | refine blk_drewN ?_ _ | refine blk_drew ?_ | refine blk_alloc ?_ _)); refine blk_put (cs := #[.int .u64 t115, .bool false]) ?_ 1 _ rfl; (with_reducible repeat (first | refine blk_drewN ?_ _ | refine blk_drew ?_ | refine blk_alloc ?_ _)); refine blk_put (cs := #[.int .u64 0, .bool false]) ?_ 0 _ rfl; (with_reducible repeat (first | refine blk_drewN ?_ _ | refine blk_drew ?_ | refine blk_alloc ?_ _)); exact BK111.out) Tryz.underlying25 rfl (by kernel_rfl)) rfl ?_
  exact ⟨by first | rfl | (simp [errW_none, errW_some] <;> rfl) | (simp [*, errW_none, errW_some] <;> rfl), by repeat (first | (with_reducible first | exact HB.out | apply below_alloc | apply pw_below_drewN | apply below_drew1 | refine below_set ?_ GE111.out) | exact HB.out)⟩
 ·rw [if_neg c3] at H
  have c3b0 : (t114 == 0) = false := beq_eq_false_iff_ne.mpr c3
  have c3b1 : (t114 != 0) = true := bne_iff_ne.mpr c3
  simp only [Option.some.injEq, Prod.mk.injEq] at H
  obtain ⟨rfl, rfl, rfl⟩ := H
  go_enter Tryz.func20, Tryz.ntmps20
  go_wp2_with (first | ((with_reducible refine gate_dst (N := 2) rfl ?_); refine box_event ?hg (N := 2) ?hd (cs := #[.int .u64 0, .bool false]) (t := 25) ?hr ?_; (case hd => rfl); (case hg => rfl); (case hr => first | (go_simp; done) | (go_simp; rfl)); intro gb111 hg w7 hbox hb; have n0_ := Aside0.mk (below_step (by repeat (first | (with_reducible first | exact HB.out | apply below_alloc | apply pw_below_drewN | apply below_drew1) | exact HB.out)) hb); have n1_ := Aside0.mk (hbox); have n2_ := Aside0.mk ((by rw [hg]; exact (below_size (by repeat (first | (with_reducible first | exact HB.out | apply below_alloc | apply pw_below_drewN | apply below_drew1) | exact HB.out))) : w.heap.size ≤ gb111)); have n3_ := Aside0.mk ((by rw [hg]; exact (below_size (by repeat (first | (with_reducible first | exact HB.out | apply below_alloc | apply pw_below_drewN | apply below_drew1) | exact HB.out))) : w.heap.size ≤ gb111)); clear HB; have HB := n0_; have BK111 := n1_; have GW111 := n2_; have GE111 := n3_; clear n0_ n1_ n2_ n3_; clear hb hbox hg) | ((with_reducible refine gate_callee (f := 30) rfl ?_); refine goesL_ (some 9) rfl rfl Tryz.func30 (by kernel_rfl) rfl #[.int .i64 a0] rfl (by (try simp only [List.map_toArray, List.map_cons, List.map_nil]); first | done | rfl | (simp only [List.length_drop, List.length_take]; rfl)) ?_; (with_reducible refine (field_limits.calls a0 t112 t113 t114 _ A2.out).mono ?_); rintro e w' ⟨rfl, ⟨nd, rfl⟩⟩; refine ⟨_, rfl, ?_⟩; (try (rw [drewN_self w7]; generalize hq_ : World.drewN w7 _ = w7; have n0_ : Aside0 (w7.heap[gb111]? = some (.cells #[.int .u64 0, .bool false] 25 (0, 0))) := ⟨by rw [← hq_]; exact (by (with_reducible repeat (first | refine blk_drewN ?_ _ | refine blk_drew ?_ | refine blk_alloc ?_ _)); exact BK111.out)⟩; have n1_ : Aside0 (Below w.heap.size w w7) := ⟨by rw [← hq_]; exact (by repeat (first | (with_reducible first | exact HB.out | apply below_alloc | apply pw_below_drewN | apply below_drew1 | refine below_set ?_ GE111.out) | exact HB.out))⟩; clear BK111 HB hq_; have BK111 := n0_; have HB := n1_; clear n0_ n1_)); have hcz8_0 : w7.cell? ⟨gb111, 0, none⟩ = some (.int .u64 0) := (blk_cell BK111.out 0).trans rfl; have hcz8_1 : w7.cell? ⟨gb111, 1, none⟩ = some (.bool false) := (blk_cell BK111.out 1).trans rfl; have hfz8_0 := blk_frozen BK111.out 0; have hfz8_1 := blk_frozen BK111.out 1))
  refine bodyPost_ret (results_ct rfl _ _ gb111 25 #[.int .u64 0, .bool false] (0, 0) _ rfl (by (with_reducible repeat (first | refine blk_drewN ?_ _ | refine blk_drew ?_ | refine blk_alloc ?_ _)); refine blk_put (cs := #[.int .u64 0, .bool false]) ?_ 1 _ rfl; (with_reducible repeat (first | refine blk_drewN ?_ _ | refine blk_drew ?_ | refine blk_alloc ?_ _)); refine blk_put (cs := #[.int .u64 0, .bool false]) ?_ 0 _ rfl; (with_reducible repeat (first | refine blk_drewN ?_ _ | refine blk_drew ?_ | refine blk_alloc ?_ _)); exact BK111.out) Tryz.underlying25 rfl (by kernel_rfl)) rfl ?_
  exact ⟨by first | rfl | (simp [errW_none, errW_some] <;> rfl) | (simp [*, errW_none, errW_some] <;> rfl), by repeat (first | (with_reducible first | exact HB.out | apply below_alloc | apply pw_below_drewN | apply below_drew1 | refine below_set ?_ GE111.out) | exact HB.out)⟩

/-! ### spec_Stars: function 10 -/
/-! This session's own: spec.Stars. -/
set_option maxHeartbeats 8000000 in
set_option maxRecDepth 100000 in
theorem Spc.stars (w : World) : Calls Tryz.prog 10 #[] w fun e w' => e = .returned (.agg #[.int .u64 1152921504606846975, .bool true, .int .u64 16777215, .bool true, .int .u64 4294967294, .bool true, .int .u64 8190, .bool true, .int .u64 127, .bool true]) ∧ Below w.heap.size w w' := by
 have HT := blk_alloc (blk_new w (.cells #[.int .u64 0, .bool false, .int .u64 0, .bool false, .int .u64 0, .bool false, .int .u64 0, .bool false, .int .u64 0, .bool false] 27)) (.cells #[.int .u64 0, .bool false, .int .u64 0, .bool false, .int .u64 0, .bool false, .int .u64 0, .bool false, .int .u64 0, .bool false] 27)
 have HR : Spc.Row ((w.alloc (.cells #[.int .u64 0, .bool false, .int .u64 0, .bool false, .int .u64 0, .bool false, .int .u64 0, .bool false, .int .u64 0, .bool false] 27)).alloc (.cells #[.int .u64 0, .bool false, .int .u64 0, .bool false, .int .u64 0, .bool false, .int .u64 0, .bool false, .int .u64 0, .bool false] 27)) (w.heap.size + 1) 0 false 0 false 0 false 0 false 0 false := by
  have := heap_alloc_new (w.alloc (.cells #[.int .u64 0, .bool false, .int .u64 0, .bool false, .int .u64 0, .bool false, .int .u64 0, .bool false, .int .u64 0, .bool false] 27)) (.cells #[.int .u64 0, .bool false, .int .u64 0, .bool false, .int .u64 0, .bool false, .int .u64 0, .bool false, .int .u64 0, .bool false] 27)
  unfold Spc.Row
  simpa using this
 have HB := below_alloc (below_alloc (Below.refl _ _) (.cells #[.int .u64 0, .bool false, .int .u64 0, .bool false, .int .u64 0, .bool false, .int .u64 0, .bool false, .int .u64 0, .bool false] 27) (w := w)) (.cells #[.int .u64 0, .bool false, .int .u64 0, .bool false, .int .u64 0, .bool false, .int .u64 0, .bool false, .int .u64 0, .bool false] 27)
 replace HT := Aside0.mk HT
 replace HR := Aside0.mk HR
 replace HB := Aside0.mk HB
 go_enter Tryz.func10, Tryz.ntmps10
 go_wp2_with fail
 refine (Spc.fields_calls _ _).mono ?_
 rintro e V ⟨rfl, hX, hb⟩
 obtain ⟨X, hX0⟩ : ∃ X, ((w.alloc (.cells #[.int .u64 0, .bool false, .int .u64 0, .bool false, .int .u64 0, .bool false, .int .u64 0, .bool false, .int .u64 0, .bool false] 27)).alloc (.cells #[.int .u64 0, .bool false, .int .u64 0, .bool false, .int .u64 0, .bool false, .int .u64 0, .bool false, .int .u64 0, .bool false] 27)).heap.size = X := ⟨_, rfl⟩
 have hXn : X = w.heap.size + 2 := by rw [← hX0]; simp
 rw [hX0] at hX ⊢
 have HB2 := below_step HB.out hb
 have HT2 := blk_below HT.out hb
 have HR2 : Spc.Row V (w.heap.size + 1) 0 false 0 false 0 false 0 false 0 false := blk_below HR.out hb
 clear HB HT HR hb hX0
 replace HB2 := Aside0.mk HB2
 replace HT2 := Aside0.mk HT2
 replace HR2 := Aside0.mk HR2
 replace hX := Aside0.mk hX
 replace hXn := Lib.hid hXn
 go_wp2_with fail
 refine wp_loop_rounds 6 ?_
 refine Fld.genR (fun W => Below w.heap.size w W ∧ W.heap[w.heap.size]? = some (.cells #[.int .u64 0, .bool false, .int .u64 0, .bool false, .int .u64 0, .bool false, .int .u64 0, .bool false, .int .u64 0, .bool false] 27 (0, 0)) ∧ Spc.Row W (w.heap.size + 1) 0 false 0 false 0 false 0 false 0 false ∧ Spc.Bx W X (w.heap.size + 1)) ⟨HB2.out, HT2.out, HR2.out, hX.out⟩ ?_
 clear HB2 HT2 HR2 hX
 rintro W0 ⟨HB2, HT2, HR2, hX⟩
 replace HB2 := Aside0.mk HB2
 replace HT2 := Aside0.mk HT2
 replace HR2 := Aside0.mk HR2
 replace hX := Aside0.mk hX
 rw [rounds_succ]
 have ix := Spc.ix0 X
 go_wp2_with (go_at_call 25; refine (Spc.at0 _ _ _ hX.out).mono ?_; rintro e w' ⟨rfl, rfl⟩)
 clear ix
 refine (field_All.calls 0 1152921504606846975 true 0 _ (by decide +kernel)).mono ?_
 rintro e V0 ⟨rfl, hb⟩
 have HB3 := below_step HB2.out hb
 have HT3 := blk_below HT2.out hb
 have HR3 : Spc.Row V0 (w.heap.size + 1) 0 false 0 false 0 false 0 false 0 false := blk_below HR2.out hb
 have hX3 : Spc.Bx V0 X (w.heap.size + 1) := blk_below hX.out hb
 clear HB2 HT2 HR2 hX hb
 have c0 : V0.cell? ⟨w.heap.size + 1, 0, none⟩ = some (.int .u64 0) := (blk_cell HR3 0).trans rfl
 have c1 : V0.cell? ⟨w.heap.size + 1, 1, none⟩ = some (.bool false) := (blk_cell HR3 1).trans rfl
 have z0 := blk_frozen HR3 0
 have z1 := blk_frozen HR3 1
 have HB2 := Aside0.mk HB3
 have HT2 := Aside0.mk HT3
 have HR2 := Aside0.mk HR3
 have hX := Aside0.mk hX3
 clear HB3 HT3 HR3 hX3
 go_wp2_with fail
 clear c0 c1 z0 z1
 refine Fld.genR (fun W => Below w.heap.size w W ∧ W.heap[w.heap.size]? = some (.cells #[.int .u64 0, .bool false, .int .u64 0, .bool false, .int .u64 0, .bool false, .int .u64 0, .bool false, .int .u64 0, .bool false] 27 (0, 0)) ∧ Spc.Row W (w.heap.size + 1) 1152921504606846975 true 0 false 0 false 0 false 0 false ∧ Spc.Bx W X (w.heap.size + 1)) ⟨below_set (below_set HB2.out (by omega)) (by omega), Spc.far HT2.out (by omega) _ _ _ _, blk_put (blk_put HR2.out 0 _ rfl) 1 _ rfl, Spc.far hX.out (by have := hXn.out; omega) _ _ _ _⟩ ?_
 clear HB2 HT2 HR2 hX
 rintro W1 ⟨HB2, HT2, HR2, hX⟩
 replace HB2 := Aside0.mk HB2
 replace HT2 := Aside0.mk HT2
 replace HR2 := Aside0.mk HR2
 replace hX := Aside0.mk hX
 rw [rounds_succ]
 have ix := Spc.ix1 X
 go_wp2_with (go_at_call 26; refine (Spc.at1 _ _ _ hX.out).mono ?_; rintro e w' ⟨rfl, rfl⟩)
 clear ix
 refine (field_All.calls 1 16777215 true 0 _ (by decide +kernel)).mono ?_
 rintro e V1 ⟨rfl, hb⟩
 have HB3 := below_step HB2.out hb
 have HT3 := blk_below HT2.out hb
 have HR3 : Spc.Row V1 (w.heap.size + 1) 1152921504606846975 true 0 false 0 false 0 false 0 false := blk_below HR2.out hb
 have hX3 : Spc.Bx V1 X (w.heap.size + 1) := blk_below hX.out hb
 clear HB2 HT2 HR2 hX hb
 have c0 : V1.cell? ⟨w.heap.size + 1, 2, none⟩ = some (.int .u64 0) := (blk_cell HR3 2).trans rfl
 have c1 : V1.cell? ⟨w.heap.size + 1, 3, none⟩ = some (.bool false) := (blk_cell HR3 3).trans rfl
 have z0 := blk_frozen HR3 2
 have z1 := blk_frozen HR3 3
 have HB2 := Aside0.mk HB3
 have HT2 := Aside0.mk HT3
 have HR2 := Aside0.mk HR3
 have hX := Aside0.mk hX3
 clear HB3 HT3 HR3 hX3
 go_wp2_with fail
 clear c0 c1 z0 z1
 refine Fld.genR (fun W => Below w.heap.size w W ∧ W.heap[w.heap.size]? = some (.cells #[.int .u64 0, .bool false, .int .u64 0, .bool false, .int .u64 0, .bool false, .int .u64 0, .bool false, .int .u64 0, .bool false] 27 (0, 0)) ∧ Spc.Row W (w.heap.size + 1) 1152921504606846975 true 16777215 true 0 false 0 false 0 false ∧ Spc.Bx W X (w.heap.size + 1)) ⟨below_set (below_set HB2.out (by omega)) (by omega), Spc.far HT2.out (by omega) _ _ _ _, blk_put (blk_put HR2.out 2 _ rfl) 3 _ rfl, Spc.far hX.out (by have := hXn.out; omega) _ _ _ _⟩ ?_
 clear HB2 HT2 HR2 hX
 rintro W2 ⟨HB2, HT2, HR2, hX⟩
 replace HB2 := Aside0.mk HB2
 replace HT2 := Aside0.mk HT2
 replace HR2 := Aside0.mk HR2
 replace hX := Aside0.mk hX
 rw [rounds_succ]
 have ix := Spc.ix2 X
 go_wp2_with (go_at_call 27; refine (Spc.at2 _ _ _ hX.out).mono ?_; rintro e w' ⟨rfl, rfl⟩)
 clear ix
 refine (field_All.calls 2 4294967294 true 0 _ (by decide +kernel)).mono ?_
 rintro e V2 ⟨rfl, hb⟩
 have HB3 := below_step HB2.out hb
 have HT3 := blk_below HT2.out hb
 have HR3 : Spc.Row V2 (w.heap.size + 1) 1152921504606846975 true 16777215 true 0 false 0 false 0 false := blk_below HR2.out hb
 have hX3 : Spc.Bx V2 X (w.heap.size + 1) := blk_below hX.out hb
 clear HB2 HT2 HR2 hX hb
 have c0 : V2.cell? ⟨w.heap.size + 1, 4, none⟩ = some (.int .u64 0) := (blk_cell HR3 4).trans rfl
 have c1 : V2.cell? ⟨w.heap.size + 1, 5, none⟩ = some (.bool false) := (blk_cell HR3 5).trans rfl
 have z0 := blk_frozen HR3 4
 have z1 := blk_frozen HR3 5
 have HB2 := Aside0.mk HB3
 have HT2 := Aside0.mk HT3
 have HR2 := Aside0.mk HR3
 have hX := Aside0.mk hX3
 clear HB3 HT3 HR3 hX3
 go_wp2_with fail
 clear c0 c1 z0 z1
 refine Fld.genR (fun W => Below w.heap.size w W ∧ W.heap[w.heap.size]? = some (.cells #[.int .u64 0, .bool false, .int .u64 0, .bool false, .int .u64 0, .bool false, .int .u64 0, .bool false, .int .u64 0, .bool false] 27 (0, 0)) ∧ Spc.Row W (w.heap.size + 1) 1152921504606846975 true 16777215 true 4294967294 true 0 false 0 false ∧ Spc.Bx W X (w.heap.size + 1)) ⟨below_set (below_set HB2.out (by omega)) (by omega), Spc.far HT2.out (by omega) _ _ _ _, blk_put (blk_put HR2.out 4 _ rfl) 5 _ rfl, Spc.far hX.out (by have := hXn.out; omega) _ _ _ _⟩ ?_
 clear HB2 HT2 HR2 hX
 rintro W3 ⟨HB2, HT2, HR2, hX⟩
 replace HB2 := Aside0.mk HB2
 replace HT2 := Aside0.mk HT2
 replace HR2 := Aside0.mk HR2
 replace hX := Aside0.mk hX
 rw [rounds_succ]
 have ix := Spc.ix3 X
 go_wp2_with (go_at_call 28; refine (Spc.at3 _ _ _ hX.out).mono ?_; rintro e w' ⟨rfl, rfl⟩)
 clear ix
 refine (field_All.calls 3 8190 true 0 _ (by decide +kernel)).mono ?_
 rintro e V3 ⟨rfl, hb⟩
 have HB3 := below_step HB2.out hb
 have HT3 := blk_below HT2.out hb
 have HR3 : Spc.Row V3 (w.heap.size + 1) 1152921504606846975 true 16777215 true 4294967294 true 0 false 0 false := blk_below HR2.out hb
 have hX3 : Spc.Bx V3 X (w.heap.size + 1) := blk_below hX.out hb
 clear HB2 HT2 HR2 hX hb
 have c0 : V3.cell? ⟨w.heap.size + 1, 6, none⟩ = some (.int .u64 0) := (blk_cell HR3 6).trans rfl
 have c1 : V3.cell? ⟨w.heap.size + 1, 7, none⟩ = some (.bool false) := (blk_cell HR3 7).trans rfl
 have z0 := blk_frozen HR3 6
 have z1 := blk_frozen HR3 7
 have HB2 := Aside0.mk HB3
 have HT2 := Aside0.mk HT3
 have HR2 := Aside0.mk HR3
 have hX := Aside0.mk hX3
 clear HB3 HT3 HR3 hX3
 go_wp2_with fail
 clear c0 c1 z0 z1
 refine Fld.genR (fun W => Below w.heap.size w W ∧ W.heap[w.heap.size]? = some (.cells #[.int .u64 0, .bool false, .int .u64 0, .bool false, .int .u64 0, .bool false, .int .u64 0, .bool false, .int .u64 0, .bool false] 27 (0, 0)) ∧ Spc.Row W (w.heap.size + 1) 1152921504606846975 true 16777215 true 4294967294 true 8190 true 0 false ∧ Spc.Bx W X (w.heap.size + 1)) ⟨below_set (below_set HB2.out (by omega)) (by omega), Spc.far HT2.out (by omega) _ _ _ _, blk_put (blk_put HR2.out 6 _ rfl) 7 _ rfl, Spc.far hX.out (by have := hXn.out; omega) _ _ _ _⟩ ?_
 clear HB2 HT2 HR2 hX
 rintro W4 ⟨HB2, HT2, HR2, hX⟩
 replace HB2 := Aside0.mk HB2
 replace HT2 := Aside0.mk HT2
 replace HR2 := Aside0.mk HR2
 replace hX := Aside0.mk hX
 rw [rounds_succ]
 have ix := Spc.ix4 X
 go_wp2_with (go_at_call 29; refine (Spc.at4 _ _ _ hX.out).mono ?_; rintro e w' ⟨rfl, rfl⟩)
 clear ix
 refine (field_All.calls 4 127 true 0 _ (by decide +kernel)).mono ?_
 rintro e V4 ⟨rfl, hb⟩
 have HB3 := below_step HB2.out hb
 have HT3 := blk_below HT2.out hb
 have HR3 : Spc.Row V4 (w.heap.size + 1) 1152921504606846975 true 16777215 true 4294967294 true 8190 true 0 false := blk_below HR2.out hb
 have hX3 : Spc.Bx V4 X (w.heap.size + 1) := blk_below hX.out hb
 clear HB2 HT2 HR2 hX hb
 have c0 : V4.cell? ⟨w.heap.size + 1, 8, none⟩ = some (.int .u64 0) := (blk_cell HR3 8).trans rfl
 have c1 : V4.cell? ⟨w.heap.size + 1, 9, none⟩ = some (.bool false) := (blk_cell HR3 9).trans rfl
 have z0 := blk_frozen HR3 8
 have z1 := blk_frozen HR3 9
 have HB2 := Aside0.mk HB3
 have HT2 := Aside0.mk HT3
 have HR2 := Aside0.mk HR3
 have hX := Aside0.mk hX3
 clear HB3 HT3 HR3 hX3
 go_wp2_with fail
 clear c0 c1 z0 z1
 refine Fld.genR (fun W => Below w.heap.size w W ∧ W.heap[w.heap.size]? = some (.cells #[.int .u64 0, .bool false, .int .u64 0, .bool false, .int .u64 0, .bool false, .int .u64 0, .bool false, .int .u64 0, .bool false] 27 (0, 0)) ∧ Spc.Row W (w.heap.size + 1) 1152921504606846975 true 16777215 true 4294967294 true 8190 true 127 true ∧ Spc.Bx W X (w.heap.size + 1)) ⟨below_set (below_set HB2.out (by omega)) (by omega), Spc.far HT2.out (by omega) _ _ _ _, blk_put (blk_put HR2.out 8 _ rfl) 9 _ rfl, Spc.far hX.out (by have := hXn.out; omega) _ _ _ _⟩ ?_
 clear HB2 HT2 HR2 hX
 rintro W5 ⟨HB2, HT2, HR2, hX⟩
 rw [rounds_succ]
 have d0 : W5.cell? ⟨w.heap.size + 1, 0, none⟩ = some (.int .u64 1152921504606846975) := (blk_cell HR2 0).trans rfl
 have d1 : W5.cell? ⟨w.heap.size + 1, 1, none⟩ = some (.bool true) := (blk_cell HR2 1).trans rfl
 have d2 : W5.cell? ⟨w.heap.size + 1, 2, none⟩ = some (.int .u64 16777215) := (blk_cell HR2 2).trans rfl
 have d3 : W5.cell? ⟨w.heap.size + 1, 3, none⟩ = some (.bool true) := (blk_cell HR2 3).trans rfl
 have d4 : W5.cell? ⟨w.heap.size + 1, 4, none⟩ = some (.int .u64 4294967294) := (blk_cell HR2 4).trans rfl
 have d5 : W5.cell? ⟨w.heap.size + 1, 5, none⟩ = some (.bool true) := (blk_cell HR2 5).trans rfl
 have d6 : W5.cell? ⟨w.heap.size + 1, 6, none⟩ = some (.int .u64 8190) := (blk_cell HR2 6).trans rfl
 have d7 : W5.cell? ⟨w.heap.size + 1, 7, none⟩ = some (.bool true) := (blk_cell HR2 7).trans rfl
 have d8 : W5.cell? ⟨w.heap.size + 1, 8, none⟩ = some (.int .u64 127) := (blk_cell HR2 8).trans rfl
 have d9 : W5.cell? ⟨w.heap.size + 1, 9, none⟩ = some (.bool true) := (blk_cell HR2 9).trans rfl
 have t0 : W5.cell? ⟨w.heap.size, 0, none⟩ = some (.int .u64 0) := (blk_cell HT2 0).trans rfl
 have t1 : W5.cell? ⟨w.heap.size, 1, none⟩ = some (.bool false) := (blk_cell HT2 1).trans rfl
 have t2 : W5.cell? ⟨w.heap.size, 2, none⟩ = some (.int .u64 0) := (blk_cell HT2 2).trans rfl
 have t3 : W5.cell? ⟨w.heap.size, 3, none⟩ = some (.bool false) := (blk_cell HT2 3).trans rfl
 have t4 : W5.cell? ⟨w.heap.size, 4, none⟩ = some (.int .u64 0) := (blk_cell HT2 4).trans rfl
 have t5 : W5.cell? ⟨w.heap.size, 5, none⟩ = some (.bool false) := (blk_cell HT2 5).trans rfl
 have t6 : W5.cell? ⟨w.heap.size, 6, none⟩ = some (.int .u64 0) := (blk_cell HT2 6).trans rfl
 have t7 : W5.cell? ⟨w.heap.size, 7, none⟩ = some (.bool false) := (blk_cell HT2 7).trans rfl
 have t8 : W5.cell? ⟨w.heap.size, 8, none⟩ = some (.int .u64 0) := (blk_cell HT2 8).trans rfl
 have t9 : W5.cell? ⟨w.heap.size, 9, none⟩ = some (.bool false) := (blk_cell HT2 9).trans rfl
 have zT : ∀ j, W5.frozen? ⟨w.heap.size, j, none⟩ = false := fun j => blk_frozen HT2 j
 replace HB2 := Aside0.mk HB2
 clear HT2 HR2 hX
 go_wp2_with fail
 refine bodyPost_ret (v := .agg #[.int .u64 1152921504606846975, .bool true, .int .u64 16777215, .bool true, .int .u64 4294967294, .bool true, .int .u64 8190, .bool true, .int .u64 127, .bool true]) (by simp [results, Tryz.results10, go_sem, *]) rfl ⟨rfl, ?_⟩
 repeat (first | (with_reducible first | exact HB2.out | (refine below_set ?_ (by omega))) | exact HB2.out)
def spec_Stars.f  : Option (Int × Bool × Int × Bool × Int × Bool × Int × Bool × Int × Bool) := some (1152921504606846975, true, 16777215, true, 4294967294, true, 8190, true, 127, true)
set_option maxHeartbeats 8000000 in
set_option maxRecDepth 100000 in
theorem spec_Stars.calls  (r1 : Int) (r2 : Bool) (r3 : Int) (r4 : Bool) (r5 : Int) (r6 : Bool) (r7 : Int) (r8 : Bool) (r9 : Int) (r10 : Bool) (w : World) (h : spec_Stars.f  = some (r1, r2, r3, r4, r5, r6, r7, r8, r9, r10)) :
  Calls Tryz.prog 10 #[] w fun e w' => e = .returned (.agg #[.int .u64 r1, .bool r2, .int .u64 r3, .bool r4, .int .u64 r5, .bool r6, .int .u64 r7, .bool r8, .int .u64 r9, .bool r10]) ∧ Below w.heap.size w w' := by
 have H := Option.some.inj h
 simp only [Prod.mk.injEq] at H
 obtain ⟨rfl, rfl, rfl, rfl, rfl, rfl, rfl, rfl, rfl, rfl⟩ := H
 exact Spc.stars w

/-! ### spec_Same: function 11 -/
def spec_Same.f (a0_0 : Int) (a0_1 : Bool) (a0_2 : Int) (a0_3 : Bool) (a0_4 : Int) (a0_5 : Bool) (a0_6 : Int) (a0_7 : Bool) (a0_8 : Int) (a0_9 : Bool) (a1_0 : Int) (a1_1 : Bool) (a1_2 : Int) (a1_3 : Bool) (a1_4 : Int) (a1_5 : Bool) (a1_6 : Int) (a1_7 : Bool) (a1_8 : Int) (a1_9 : Bool) : Option (Bool) := some ((a0_0 == a1_0 && (a0_1 == a1_1)) && ((a0_2 == a1_2 && (a0_3 == a1_3)) && ((a0_4 == a1_4 && (a0_5 == a1_5)) && ((a0_6 == a1_6 && (a0_7 == a1_7)) && ((a0_8 == a1_8 && (a0_9 == a1_9)))))))
set_option maxHeartbeats 8000000 in
set_option maxRecDepth 100000 in
theorem spec_Same.calls (a0_0 : Int) (a0_1 : Bool) (a0_2 : Int) (a0_3 : Bool) (a0_4 : Int) (a0_5 : Bool) (a0_6 : Int) (a0_7 : Bool) (a0_8 : Int) (a0_9 : Bool) (a1_0 : Int) (a1_1 : Bool) (a1_2 : Int) (a1_3 : Bool) (a1_4 : Int) (a1_5 : Bool) (a1_6 : Int) (a1_7 : Bool) (a1_8 : Int) (a1_9 : Bool) (r : Bool) (w : World) (h : spec_Same.f a0_0 a0_1 a0_2 a0_3 a0_4 a0_5 a0_6 a0_7 a0_8 a0_9 a1_0 a1_1 a1_2 a1_3 a1_4 a1_5 a1_6 a1_7 a1_8 a1_9 = some r) :
  Calls Tryz.prog 11 #[.agg #[.int .u64 a0_0, .bool a0_1, .int .u64 a0_2, .bool a0_3, .int .u64 a0_4, .bool a0_5, .int .u64 a0_6, .bool a0_7, .int .u64 a0_8, .bool a0_9], .agg #[.int .u64 a1_0, .bool a1_1, .int .u64 a1_2, .bool a1_3, .int .u64 a1_4, .bool a1_5, .int .u64 a1_6, .bool a1_7, .int .u64 a1_8, .bool a1_9]] w fun e w' => e = .returned (.bool r) ∧ Below w.heap.size w w' := by
 have hu27 := Tryz.underlying27
 have HB := Aside0.mk (Below.refl w.heap.size w)
 have H : (some ((a0_0 == a1_0 && (a0_1 == a1_1)) && ((a0_2 == a1_2 && (a0_3 == a1_3)) && ((a0_4 == a1_4 && (a0_5 == a1_5)) && ((a0_6 == a1_6 && (a0_7 == a1_7)) && ((a0_8 == a1_8 && (a0_9 == a1_9)))))))) = some r := h
 clear h
 obtain rfl := Option.some.inj H
 go_enter Tryz.func11, Tryz.ntmps11
 go_wp2_with (first | ((with_reducible refine gate_dst (N := 2) rfl ?_); refine box_event ?hg (N := 2) ?hd (cs := #[.int .u64 a0_0, .bool a0_1, .int .u64 a0_2, .bool a0_3, .int .u64 a0_4, .bool a0_5, .int .u64 a0_6, .bool a0_7, .int .u64 a0_8, .bool a0_9]) (t := 27) ?hr ?_; (case hd => rfl); (case hg => rfl); (case hr => first | (go_simp; done) | (go_simp; rfl)); intro gb116 hg w3 hbox hb; have n0_ := Aside0.mk (below_step (by repeat (first | (with_reducible first | exact HB.out | apply below_alloc | apply pw_below_drewN | apply below_drew1) | exact HB.out)) hb); have n1_ := Aside0.mk (hbox); have n2_ := Aside0.mk ((by rw [hg]; exact (below_size (by repeat (first | (with_reducible first | exact HB.out | apply below_alloc | apply pw_below_drewN | apply below_drew1) | exact HB.out))) : w.heap.size ≤ gb116)); have n3_ := Aside0.mk ((by rw [hg]; exact (below_size (by repeat (first | (with_reducible first | exact HB.out | apply below_alloc | apply pw_below_drewN | apply below_drew1) | exact HB.out))) : w.heap.size ≤ gb116)); clear HB; have HB := n0_; have BK116 := n1_; have GW116 := n2_; have GE116 := n3_; clear n0_ n1_ n2_ n3_; clear hb hbox hg) | ((with_reducible refine gate_dst (N := 3) rfl ?_); refine box_event ?hg (N := 3) ?hd (cs := #[.int .u64 a1_0, .bool a1_1, .int .u64 a1_2, .bool a1_3, .int .u64 a1_4, .bool a1_5, .int .u64 a1_6, .bool a1_7, .int .u64 a1_8, .bool a1_9]) (t := 27) ?hr ?_; (case hd => rfl); (case hg => rfl); (case hr => first | (go_simp; done) | (go_simp; rfl)); intro gb117 hg w4 hbox hb; have n0_ := Aside0.mk (blk_below (g := gb116) (o := .cells #[.int .u64 a0_0, .bool a0_1, .int .u64 a0_2, .bool a0_3, .int .u64 a0_4, .bool a0_5, .int .u64 a0_6, .bool a0_7, .int .u64 a0_8, .bool a0_9] 27 (0, 0)) (by (with_reducible repeat (first | refine blk_drewN ?_ _ | refine blk_drew ?_ | refine blk_alloc ?_ _)); exact BK116.out) hb); have n1_ := Aside0.mk (below_step (by repeat (first | (with_reducible first | exact HB.out | apply below_alloc | apply pw_below_drewN | apply below_drew1 | refine below_set ?_ GE116.out) | exact HB.out)) hb); have n2_ := Aside0.mk (hbox); have n3_ := Aside0.mk ((by rw [hg]; exact (below_size (by repeat (first | (with_reducible first | exact HB.out | apply below_alloc | apply pw_below_drewN | apply below_drew1 | refine below_set ?_ GE116.out) | exact HB.out))) : w.heap.size ≤ gb117)); have n4_ := Aside0.mk ((by rw [hg]; exact (below_size (by repeat (first | (with_reducible first | exact HB.out | apply below_alloc | apply pw_below_drewN | apply below_drew1 | refine below_set ?_ GE116.out) | exact HB.out))) : w.heap.size ≤ gb117)); have n5_ := Aside0.mk ((by rw [hg]; exact Nat.ne_of_lt (blk_lt (g := gb116) (o := .cells #[.int .u64 a0_0, .bool a0_1, .int .u64 a0_2, .bool a0_3, .int .u64 a0_4, .bool a0_5, .int .u64 a0_6, .bool a0_7, .int .u64 a0_8, .bool a0_9] 27 (0, 0)) (by (with_reducible repeat (first | refine blk_drewN ?_ _ | refine blk_drew ?_ | refine blk_alloc ?_ _)); exact BK116.out)) : gb116 ≠ gb117)); have n6_ := Aside0.mk ((by rw [hg]; exact Nat.ne_of_gt (blk_lt (g := gb116) (o := .cells #[.int .u64 a0_0, .bool a0_1, .int .u64 a0_2, .bool a0_3, .int .u64 a0_4, .bool a0_5, .int .u64 a0_6, .bool a0_7, .int .u64 a0_8, .bool a0_9] 27 (0, 0)) (by (with_reducible repeat (first | refine blk_drewN ?_ _ | refine blk_drew ?_ | refine blk_alloc ?_ _)); exact BK116.out)) : gb117 ≠ gb116)); clear BK116; clear HB; have BK116 := n0_; have HB := n1_; have BK117 := n2_; have GW117 := n3_; have GE117 := n4_; have NB116_117 := n5_; have NB117_116 := n6_; clear n0_ n1_ n2_ n3_ n4_ n5_ n6_; clear hb hbox hg; have hnb5 := NB116_117.out; have hnc5 := NB117_116.out; have hcz6_0 : w4.cell? ⟨gb116, 0, none⟩ = some (.int .u64 a0_0) := (blk_cell BK116.out 0).trans rfl; have hcz6_1 : w4.cell? ⟨gb116, 1, none⟩ = some (.bool a0_1) := (blk_cell BK116.out 1).trans rfl; have hcz6_2 : w4.cell? ⟨gb116, 2, none⟩ = some (.int .u64 a0_2) := (blk_cell BK116.out 2).trans rfl; have hcz6_3 : w4.cell? ⟨gb116, 3, none⟩ = some (.bool a0_3) := (blk_cell BK116.out 3).trans rfl; have hcz6_4 : w4.cell? ⟨gb116, 4, none⟩ = some (.int .u64 a0_4) := (blk_cell BK116.out 4).trans rfl; have hcz6_5 : w4.cell? ⟨gb116, 5, none⟩ = some (.bool a0_5) := (blk_cell BK116.out 5).trans rfl; have hcz6_6 : w4.cell? ⟨gb116, 6, none⟩ = some (.int .u64 a0_6) := (blk_cell BK116.out 6).trans rfl; have hcz6_7 : w4.cell? ⟨gb116, 7, none⟩ = some (.bool a0_7) := (blk_cell BK116.out 7).trans rfl; have hcz6_8 : w4.cell? ⟨gb116, 8, none⟩ = some (.int .u64 a0_8) := (blk_cell BK116.out 8).trans rfl; have hcz6_9 : w4.cell? ⟨gb116, 9, none⟩ = some (.bool a0_9) := (blk_cell BK116.out 9).trans rfl; have hfz6_0 := blk_frozen BK116.out 0; have hfz6_1 := blk_frozen BK116.out 1; have hfz6_2 := blk_frozen BK116.out 2; have hfz6_3 := blk_frozen BK116.out 3; have hfz6_4 := blk_frozen BK116.out 4; have hfz6_5 := blk_frozen BK116.out 5; have hfz6_6 := blk_frozen BK116.out 6; have hfz6_7 := blk_frozen BK116.out 7; have hfz6_8 := blk_frozen BK116.out 8; have hfz6_9 := blk_frozen BK116.out 9; have hcz7_0 : w4.cell? ⟨gb117, 0, none⟩ = some (.int .u64 a1_0) := (blk_cell BK117.out 0).trans rfl; have hcz7_1 : w4.cell? ⟨gb117, 1, none⟩ = some (.bool a1_1) := (blk_cell BK117.out 1).trans rfl; have hcz7_2 : w4.cell? ⟨gb117, 2, none⟩ = some (.int .u64 a1_2) := (blk_cell BK117.out 2).trans rfl; have hcz7_3 : w4.cell? ⟨gb117, 3, none⟩ = some (.bool a1_3) := (blk_cell BK117.out 3).trans rfl; have hcz7_4 : w4.cell? ⟨gb117, 4, none⟩ = some (.int .u64 a1_4) := (blk_cell BK117.out 4).trans rfl; have hcz7_5 : w4.cell? ⟨gb117, 5, none⟩ = some (.bool a1_5) := (blk_cell BK117.out 5).trans rfl; have hcz7_6 : w4.cell? ⟨gb117, 6, none⟩ = some (.int .u64 a1_6) := (blk_cell BK117.out 6).trans rfl; have hcz7_7 : w4.cell? ⟨gb117, 7, none⟩ = some (.bool a1_7) := (blk_cell BK117.out 7).trans rfl; have hcz7_8 : w4.cell? ⟨gb117, 8, none⟩ = some (.int .u64 a1_8) := (blk_cell BK117.out 8).trans rfl; have hcz7_9 : w4.cell? ⟨gb117, 9, none⟩ = some (.bool a1_9) := (blk_cell BK117.out 9).trans rfl; have hfz7_0 := blk_frozen BK117.out 0; have hfz7_1 := blk_frozen BK117.out 1; have hfz7_2 := blk_frozen BK117.out 2; have hfz7_3 := blk_frozen BK117.out 3; have hfz7_4 := blk_frozen BK117.out 4; have hfz7_5 := blk_frozen BK117.out 5; have hfz7_6 := blk_frozen BK117.out 6; have hfz7_7 := blk_frozen BK117.out 7; have hfz7_8 := blk_frozen BK117.out 8; have hfz7_9 := blk_frozen BK117.out 9))
 go_ret
 exact ⟨by first | rfl | (simp [errW_none, errW_some] <;> rfl) | (simp [*, errW_none, errW_some] <;> rfl), by repeat (first | (with_reducible first | exact HB.out | apply below_alloc | apply pw_below_drewN | apply below_drew1 | refine below_set ?_ GE116.out | refine below_set ?_ GE117.out) | exact HB.out)⟩

end Go.Proofs.YtjddfpciblhpaaaGreatDoor.PSpp
