-- Written by a program of this session (gprint.py) over the kit's print.
import Derived.Test.YtcmmmlenaahaeaaGreatDoorPShwx0
import Derived.Test.YtcmmmlenaahaeaaGreatDoorPShwx3
namespace Go.Proofs.YtcmmmlenaahaeaaGreatDoor.PShw
open Go.RowKit Go.Proofs.YtcmmmlenaahaeaaGreatDoorW.PrintWords Go.Proofs.YtcmmmlenaahaeaaGreatDoorW.PrintLast Go.Proofs.YtcmmmlenaahaeaaGreatDoorW.PrintMore
attribute [local go_sem] max2_int min2_int max_two min_two max_three min_three max_four min_four
set_option linter.unusedVariables false
set_option linter.unusedSimpArgs false
-- NOT PRINTED: function 43 (spec_fields)
/-! This session's own: spec's five fields, as pointers. -/
def Spc.Row (w:World)(g:Nat)(b0:Int)(s0:Bool)(b1:Int)(s1:Bool)(b2:Int)(s2:Bool)(b3:Int)(s3:Bool)(b4:Int)(s4:Bool):Prop:=w.heap[g]?=some (.cells #[.int .u64 b0,.bool s0,.int .u64 b1,.bool s1,.int .u64 b2,.bool s2,.int .u64 b3,.bool s3,.int .u64 b4,.bool s4] 31 (0,0))
def Spc.Bx (w:World)(bx g:Nat):Prop:=w.heap[bx]?=some (.cells #[.pointer (some ⟨g,0,none⟩)] 88 (0,0))
theorem Spc.Row.cells {w:World}{g:Nat}{b0 b1 b2 b3 b4:Int}{s0 s1 s2 s3 s4:Bool}(h:Spc.Row w g b0 s0 b1 s1 b2 s2 b3 s3 b4 s4) :
  w.cell? ⟨g,0,none⟩=some (.int .u64 b0)∧w.cell? ⟨g,1,none⟩=some (.bool s0)∧w.cell? ⟨g,2,none⟩=some (.int .u64 b1)∧w.cell? ⟨g,3,none⟩=some (.bool s1)∧w.cell? ⟨g,4,none⟩=some (.int .u64 b2)∧w.cell? ⟨g,5,none⟩=some (.bool s2)∧w.cell? ⟨g,6,none⟩=some (.int .u64 b3)∧w.cell? ⟨g,7,none⟩=some (.bool s3)∧w.cell? ⟨g,8,none⟩=some (.int .u64 b4)∧w.cell? ⟨g,9,none⟩=some (.bool s4):=
 ⟨(blk_cell h 0).trans rfl,(blk_cell h 1).trans rfl,(blk_cell h 2).trans rfl,(blk_cell h 3).trans rfl,(blk_cell h 4).trans rfl,(blk_cell h 5).trans rfl,(blk_cell h 6).trans rfl,(blk_cell h 7).trans rfl,(blk_cell h 8).trans rfl,(blk_cell h 9).trans rfl⟩
set_option maxHeartbeats 4000000 in
theorem Spc.fields_calls (g:Nat)(w:World):Calls Tryz.prog 43 #[.pointer (some ⟨g,0,none⟩)] w fun e w'=>e=.returned (.agg #[.func (.func 71) #[] #[.pointer (some ⟨w.heap.size,0,none⟩)],.func (.func 72) #[] #[.pointer (some ⟨w.heap.size,0,none⟩)],.func (.func 73) #[] #[.pointer (some ⟨w.heap.size,0,none⟩)],.func (.func 74) #[] #[.pointer (some ⟨w.heap.size,0,none⟩)],.func (.func 75) #[] #[.pointer (some ⟨w.heap.size,0,none⟩)]])∧Spc.Bx w' w.heap.size g∧Below w.heap.size w w':=by
 go_enter Tryz.func43,Tryz.ntmps43
 go_wp2
 refine bodyPost_ret (v:=.agg #[.func (.func 71) #[] #[.pointer (some ⟨w.heap.size,0,none⟩)],.func (.func 72) #[] #[.pointer (some ⟨w.heap.size,0,none⟩)],.func (.func 73) #[] #[.pointer (some ⟨w.heap.size,0,none⟩)],.func (.func 74) #[] #[.pointer (some ⟨w.heap.size,0,none⟩)],.func (.func 75) #[] #[.pointer (some ⟨w.heap.size,0,none⟩)]]) (by simp [results,Tryz.results43,go_sem]) rfl ⟨rfl,?_,?_⟩
 ·exact blk_alloc (blk_new w _) _
 ·exact below_alloc (below_alloc (Below.refl _ _) _) _
theorem Spc.at0 (bx g:Nat)(w:World)(h:Spc.Bx w bx g):Calls Tryz.prog 71 #[.pointer (some ⟨bx,0,none⟩)] w fun e w'=>e=.returned (.pointer (some ⟨g,0,none⟩))∧w'=w:=by
 have hc:w.cell? ⟨bx,0,none⟩=some (.pointer (some ⟨g,0,none⟩)):=(blk_cell h 0).trans rfl
 clear h
 go_enter Tryz.func71,Tryz.ntmps71
 go_wp2
 go_ret
 exact ⟨rfl,rfl⟩
theorem Spc.at1 (bx g:Nat)(w:World)(h:Spc.Bx w bx g):Calls Tryz.prog 72 #[.pointer (some ⟨bx,0,none⟩)] w fun e w'=>e=.returned (.pointer (some ⟨g,2,none⟩))∧w'=w:=by
 have hc:w.cell? ⟨bx,0,none⟩=some (.pointer (some ⟨g,0,none⟩)):=(blk_cell h 0).trans rfl
 clear h
 go_enter Tryz.func72,Tryz.ntmps72
 go_wp2
 go_ret
 exact ⟨rfl,rfl⟩
theorem Spc.at2 (bx g:Nat)(w:World)(h:Spc.Bx w bx g):Calls Tryz.prog 73 #[.pointer (some ⟨bx,0,none⟩)] w fun e w'=>e=.returned (.pointer (some ⟨g,4,none⟩))∧w'=w:=by
 have hc:w.cell? ⟨bx,0,none⟩=some (.pointer (some ⟨g,0,none⟩)):=(blk_cell h 0).trans rfl
 clear h
 go_enter Tryz.func73,Tryz.ntmps73
 go_wp2
 go_ret
 exact ⟨rfl,rfl⟩
theorem Spc.at3 (bx g:Nat)(w:World)(h:Spc.Bx w bx g):Calls Tryz.prog 74 #[.pointer (some ⟨bx,0,none⟩)] w fun e w'=>e=.returned (.pointer (some ⟨g,6,none⟩))∧w'=w:=by
 have hc:w.cell? ⟨bx,0,none⟩=some (.pointer (some ⟨g,0,none⟩)):=(blk_cell h 0).trans rfl
 clear h
 go_enter Tryz.func74,Tryz.ntmps74
 go_wp2
 go_ret
 exact ⟨rfl,rfl⟩
theorem Spc.at4 (bx g:Nat)(w:World)(h:Spc.Bx w bx g):Calls Tryz.prog 75 #[.pointer (some ⟨bx,0,none⟩)] w fun e w'=>e=.returned (.pointer (some ⟨g,8,none⟩))∧w'=w:=by
 have hc:w.cell? ⟨bx,0,none⟩=some (.pointer (some ⟨g,0,none⟩)):=(blk_cell h 0).trans rfl
 clear h
 go_enter Tryz.func75,Tryz.ntmps75
 go_wp2
 go_ret
 exact ⟨rfl,rfl⟩
theorem Spc.ix0 (X:Nat)(W:World):(Instr.index 86 (.agg #[.func (.func 71) #[] #[.pointer (some ⟨X,0,none⟩)],.func (.func 72) #[] #[.pointer (some ⟨X,0,none⟩)],.func (.func 73) #[] #[.pointer (some ⟨X,0,none⟩)],.func (.func 74) #[] #[.pointer (some ⟨X,0,none⟩)],.func (.func 75) #[] #[.pointer (some ⟨X,0,none⟩)]]) (.int .i64 0)).run Tryz.prog W=.ok (.func (.func 71) #[] #[.pointer (some ⟨X,0,none⟩)]) W:=by
 have hu:=run_underlying Tryz.underlying86
 simp [Instr.index,hu,go_sem]
theorem Spc.ix1 (X:Nat)(W:World):(Instr.index 86 (.agg #[.func (.func 71) #[] #[.pointer (some ⟨X,0,none⟩)],.func (.func 72) #[] #[.pointer (some ⟨X,0,none⟩)],.func (.func 73) #[] #[.pointer (some ⟨X,0,none⟩)],.func (.func 74) #[] #[.pointer (some ⟨X,0,none⟩)],.func (.func 75) #[] #[.pointer (some ⟨X,0,none⟩)]]) (.int .i64 1)).run Tryz.prog W=.ok (.func (.func 72) #[] #[.pointer (some ⟨X,0,none⟩)]) W:=by
 have hu:=run_underlying Tryz.underlying86
 simp [Instr.index,hu,go_sem]
theorem Spc.ix2 (X:Nat)(W:World):(Instr.index 86 (.agg #[.func (.func 71) #[] #[.pointer (some ⟨X,0,none⟩)],.func (.func 72) #[] #[.pointer (some ⟨X,0,none⟩)],.func (.func 73) #[] #[.pointer (some ⟨X,0,none⟩)],.func (.func 74) #[] #[.pointer (some ⟨X,0,none⟩)],.func (.func 75) #[] #[.pointer (some ⟨X,0,none⟩)]]) (.int .i64 2)).run Tryz.prog W=.ok (.func (.func 73) #[] #[.pointer (some ⟨X,0,none⟩)]) W:=by
 have hu:=run_underlying Tryz.underlying86
 simp [Instr.index,hu,go_sem]
theorem Spc.ix3 (X:Nat)(W:World):(Instr.index 86 (.agg #[.func (.func 71) #[] #[.pointer (some ⟨X,0,none⟩)],.func (.func 72) #[] #[.pointer (some ⟨X,0,none⟩)],.func (.func 73) #[] #[.pointer (some ⟨X,0,none⟩)],.func (.func 74) #[] #[.pointer (some ⟨X,0,none⟩)],.func (.func 75) #[] #[.pointer (some ⟨X,0,none⟩)]]) (.int .i64 3)).run Tryz.prog W=.ok (.func (.func 74) #[] #[.pointer (some ⟨X,0,none⟩)]) W:=by
 have hu:=run_underlying Tryz.underlying86
 simp [Instr.index,hu,go_sem]
theorem Spc.ix4 (X:Nat)(W:World):(Instr.index 86 (.agg #[.func (.func 71) #[] #[.pointer (some ⟨X,0,none⟩)],.func (.func 72) #[] #[.pointer (some ⟨X,0,none⟩)],.func (.func 73) #[] #[.pointer (some ⟨X,0,none⟩)],.func (.func 74) #[] #[.pointer (some ⟨X,0,none⟩)],.func (.func 75) #[] #[.pointer (some ⟨X,0,none⟩)]]) (.int .i64 4)).run Tryz.prog W=.ok (.func (.func 75) #[] #[.pointer (some ⟨X,0,none⟩)]) W:=by
 have hu:=run_underlying Tryz.underlying86
 simp [Instr.index,hu,go_sem]
/-! This session's own: spec.Check. -/
set_option maxHeartbeats 8000000 in
set_option maxRecDepth 100000 in
theorem Spc.check0 (b0:Int)(s0:Bool)(b1:Int)(s1:Bool)(b2:Int)(s2:Bool)(b3:Int)(s3:Bool)(b4:Int)(s4:Bool)  (E0:Int) (he:E0≠0) (A0:field_Check.f b0 s0 0=some E0) (w:World):Calls Tryz.prog 29 #[.agg #[.int .u64 b0,.bool s0,.int .u64 b1,.bool s1,.int .u64 b2,.bool s2,.int .u64 b3,.bool s3,.int .u64 b4,.bool s4]] w fun e w'=>e=.returned (.tuple #[.int .i64 1,.int .i64 E0])∧Below w.heap.size w w':=by
 have q1:(E0 == 0)=false:=by simpa using he
 have q2:(E0 != 0)=true:=by simpa using he
 replace he:=Lib.hid he
 replace A0:=Lib.hid A0
 have HR:=blk_new w (.cells #[.int .u64 b0,.bool s0,.int .u64 b1,.bool s1,.int .u64 b2,.bool s2,.int .u64 b3,.bool s3,.int .u64 b4,.bool s4] 31)
 have HB:=below_alloc (Below.refl _ _) (.cells #[.int .u64 b0,.bool s0,.int .u64 b1,.bool s1,.int .u64 b2,.bool s2,.int .u64 b3,.bool s3,.int .u64 b4,.bool s4] 31) (w:=w)
 replace HR:=Aside0.mk HR
 replace HB:=Aside0.mk HB
 go_enter Tryz.func29,Tryz.ntmps29
 go_wp2_with fail
 refine (Spc.fields_calls _ _).mono ?_
 rintro e V ⟨rfl,hX,hb⟩
 have HR2:Spc.Row V w.heap.size b0 s0 b1 s1 b2 s2 b3 s3 b4 s4:=blk_below HR.out hb
 have HB2:=below_step HB.out hb
 clear HR HB hb
 obtain ⟨X,hX0⟩:∃ X,(w.alloc (.cells #[.int .u64 b0,.bool s0,.int .u64 b1,.bool s1,.int .u64 b2,.bool s2,.int .u64 b3,.bool s3,.int .u64 b4,.bool s4] 31)).heap.size=X:=⟨_,rfl⟩
 rw [hX0] at hX ⊢
 replace hX0:=Lib.hid hX0
 replace HR2:=Aside0.mk HR2
 replace HB2:=Aside0.mk HB2
 replace hX:=Aside0.mk hX
 go_wp2_with fail
 refine wp_loop_rounds 1 ?_
 rw [rounds_succ]
 have ix:=Spc.ix0 X
 obtain ⟨c0,c1,c2,c3,c4,c5,c6,c7,c8,c9⟩ :=HR2.out.cells
 go_wp2_with (go_at_call 71; refine (Spc.at0 _ _ _ hX.out).mono ?_; rintro e w' ⟨rfl,rfl⟩)
 clear ix c0 c1 c2 c3 c4 c5 c6 c7 c8 c9
 refine (field_Check.calls b0 s0 0 E0 _ A0.out).mono ?_
 rintro e0 V0 ⟨rfl,hb⟩
 have HR3:Spc.Row V0 w.heap.size b0 s0 b1 s1 b2 s2 b3 s3 b4 s4:=blk_below HR2.out hb
 have HB3:=below_step HB2.out hb
 have hX3:Spc.Bx V0 X w.heap.size:=blk_below hX.out hb
 clear HR2 HB2 hX hb
 have HR2:=Aside0.mk HR3
 have HB2:=Aside0.mk HB3
 have hX:=Aside0.mk hX3
 clear HR3 HB3 hX3
 go_wp2_with fail
 go_ret2
 exact ⟨rfl,HB2.out⟩
set_option maxHeartbeats 8000000 in
set_option maxRecDepth 100000 in
theorem Spc.check1 (b0:Int)(s0:Bool)(b1:Int)(s1:Bool)(b2:Int)(s2:Bool)(b3:Int)(s3:Bool)(b4:Int)(s4:Bool)(A0:field_Check.f b0 s0 0=some 0)(E0:Int)(he:E0≠0)(A1:field_Check.f b1 s1 1=some E0)(w:World):Calls Tryz.prog 29 #[.agg #[.int .u64 b0,.bool s0,.int .u64 b1,.bool s1,.int .u64 b2,.bool s2,.int .u64 b3,.bool s3,.int .u64 b4,.bool s4]] w fun e w'=>e=.returned (.tuple #[.int .i64 2,.int .i64 E0])∧Below w.heap.size w w':=by
 have q1:(E0 == 0)=false:=by simpa using he
 have q2:(E0 != 0)=true:=by simpa using he
 replace he:=Lib.hid he
 replace A0:=Lib.hid A0
 replace A1:=Lib.hid A1
 have HR:=blk_new w (.cells #[.int .u64 b0,.bool s0,.int .u64 b1,.bool s1,.int .u64 b2,.bool s2,.int .u64 b3,.bool s3,.int .u64 b4,.bool s4] 31)
 have HB:=below_alloc (Below.refl _ _) (.cells #[.int .u64 b0,.bool s0,.int .u64 b1,.bool s1,.int .u64 b2,.bool s2,.int .u64 b3,.bool s3,.int .u64 b4,.bool s4] 31) (w:=w)
 replace HR:=Aside0.mk HR
 replace HB:=Aside0.mk HB
 go_enter Tryz.func29,Tryz.ntmps29
 go_wp2_with fail
 refine (Spc.fields_calls _ _).mono ?_
 rintro e V ⟨rfl,hX,hb⟩
 have HR2:Spc.Row V w.heap.size b0 s0 b1 s1 b2 s2 b3 s3 b4 s4:=blk_below HR.out hb
 have HB2:=below_step HB.out hb
 clear HR HB hb
 obtain ⟨X,hX0⟩:∃ X,(w.alloc (.cells #[.int .u64 b0,.bool s0,.int .u64 b1,.bool s1,.int .u64 b2,.bool s2,.int .u64 b3,.bool s3,.int .u64 b4,.bool s4] 31)).heap.size=X:=⟨_,rfl⟩
 rw [hX0] at hX ⊢
 replace hX0:=Lib.hid hX0
 replace HR2:=Aside0.mk HR2
 replace HB2:=Aside0.mk HB2
 replace hX:=Aside0.mk hX
 go_wp2_with fail
 refine wp_loop_rounds 2 ?_
 rw [rounds_succ]
 have ix:=Spc.ix0 X
 obtain ⟨c0,c1,c2,c3,c4,c5,c6,c7,c8,c9⟩ :=HR2.out.cells
 go_wp2_with (go_at_call 71; refine (Spc.at0 _ _ _ hX.out).mono ?_; rintro e w' ⟨rfl,rfl⟩)
 clear ix c0 c1 c2 c3 c4 c5 c6 c7 c8 c9
 refine (field_Check.calls b0 s0 0 0 _ A0.out).mono ?_
 rintro e0 V0 ⟨rfl,hb⟩
 have HR3:Spc.Row V0 w.heap.size b0 s0 b1 s1 b2 s2 b3 s3 b4 s4:=blk_below HR2.out hb
 have HB3:=below_step HB2.out hb
 have hX3:Spc.Bx V0 X w.heap.size:=blk_below hX.out hb
 clear HR2 HB2 hX hb
 have HR2:=Aside0.mk HR3
 have HB2:=Aside0.mk HB3
 have hX:=Aside0.mk hX3
 clear HR3 HB3 hX3
 go_wp2_with fail
 rw [rounds_succ]
 have ix:=Spc.ix1 X
 obtain ⟨c0,c1,c2,c3,c4,c5,c6,c7,c8,c9⟩ :=HR2.out.cells
 go_wp2_with (go_at_call 72; refine (Spc.at1 _ _ _ hX.out).mono ?_; rintro e w' ⟨rfl,rfl⟩)
 clear ix c0 c1 c2 c3 c4 c5 c6 c7 c8 c9
 refine (field_Check.calls b1 s1 1 E0 _ A1.out).mono ?_
 rintro e1 V1 ⟨rfl,hb⟩
 have HR3:Spc.Row V1 w.heap.size b0 s0 b1 s1 b2 s2 b3 s3 b4 s4:=blk_below HR2.out hb
 have HB3:=below_step HB2.out hb
 have hX3:Spc.Bx V1 X w.heap.size:=blk_below hX.out hb
 clear HR2 HB2 hX hb
 have HR2:=Aside0.mk HR3
 have HB2:=Aside0.mk HB3
 have hX:=Aside0.mk hX3
 clear HR3 HB3 hX3
 go_wp2_with fail
 go_ret2
 exact ⟨rfl,HB2.out⟩
set_option maxHeartbeats 8000000 in
set_option maxRecDepth 100000 in
theorem Spc.check2 (b0:Int)(s0:Bool)(b1:Int)(s1:Bool)(b2:Int)(s2:Bool)(b3:Int)(s3:Bool)(b4:Int)(s4:Bool)(A0:field_Check.f b0 s0 0=some 0)(A1:field_Check.f b1 s1 1=some 0)(E0:Int)(he:E0≠0)(A2:field_Check.f b2 s2 2=some E0)(w:World):Calls Tryz.prog 29 #[.agg #[.int .u64 b0,.bool s0,.int .u64 b1,.bool s1,.int .u64 b2,.bool s2,.int .u64 b3,.bool s3,.int .u64 b4,.bool s4]] w fun e w'=>e=.returned (.tuple #[.int .i64 3,.int .i64 E0])∧Below w.heap.size w w':=by
 have q1:(E0 == 0)=false:=by simpa using he
 have q2:(E0 != 0)=true:=by simpa using he
 replace he:=Lib.hid he
 replace A0:=Lib.hid A0
 replace A1:=Lib.hid A1
 replace A2:=Lib.hid A2
 have HR:=blk_new w (.cells #[.int .u64 b0,.bool s0,.int .u64 b1,.bool s1,.int .u64 b2,.bool s2,.int .u64 b3,.bool s3,.int .u64 b4,.bool s4] 31)
 have HB:=below_alloc (Below.refl _ _) (.cells #[.int .u64 b0,.bool s0,.int .u64 b1,.bool s1,.int .u64 b2,.bool s2,.int .u64 b3,.bool s3,.int .u64 b4,.bool s4] 31) (w:=w)
 replace HR:=Aside0.mk HR
 replace HB:=Aside0.mk HB
 go_enter Tryz.func29,Tryz.ntmps29
 go_wp2_with fail
 refine (Spc.fields_calls _ _).mono ?_
 rintro e V ⟨rfl,hX,hb⟩
 have HR2:Spc.Row V w.heap.size b0 s0 b1 s1 b2 s2 b3 s3 b4 s4:=blk_below HR.out hb
 have HB2:=below_step HB.out hb
 clear HR HB hb
 obtain ⟨X,hX0⟩:∃ X,(w.alloc (.cells #[.int .u64 b0,.bool s0,.int .u64 b1,.bool s1,.int .u64 b2,.bool s2,.int .u64 b3,.bool s3,.int .u64 b4,.bool s4] 31)).heap.size=X:=⟨_,rfl⟩
 rw [hX0] at hX ⊢
 replace hX0:=Lib.hid hX0
 replace HR2:=Aside0.mk HR2
 replace HB2:=Aside0.mk HB2
 replace hX:=Aside0.mk hX
 go_wp2_with fail
 refine wp_loop_rounds 3 ?_
 rw [rounds_succ]
 have ix:=Spc.ix0 X
 obtain ⟨c0,c1,c2,c3,c4,c5,c6,c7,c8,c9⟩ :=HR2.out.cells
 go_wp2_with (go_at_call 71; refine (Spc.at0 _ _ _ hX.out).mono ?_; rintro e w' ⟨rfl,rfl⟩)
 clear ix c0 c1 c2 c3 c4 c5 c6 c7 c8 c9
 refine (field_Check.calls b0 s0 0 0 _ A0.out).mono ?_
 rintro e0 V0 ⟨rfl,hb⟩
 have HR3:Spc.Row V0 w.heap.size b0 s0 b1 s1 b2 s2 b3 s3 b4 s4:=blk_below HR2.out hb
 have HB3:=below_step HB2.out hb
 have hX3:Spc.Bx V0 X w.heap.size:=blk_below hX.out hb
 clear HR2 HB2 hX hb
 have HR2:=Aside0.mk HR3
 have HB2:=Aside0.mk HB3
 have hX:=Aside0.mk hX3
 clear HR3 HB3 hX3
 go_wp2_with fail
 rw [rounds_succ]
 have ix:=Spc.ix1 X
 obtain ⟨c0,c1,c2,c3,c4,c5,c6,c7,c8,c9⟩ :=HR2.out.cells
 go_wp2_with (go_at_call 72; refine (Spc.at1 _ _ _ hX.out).mono ?_; rintro e w' ⟨rfl,rfl⟩)
 clear ix c0 c1 c2 c3 c4 c5 c6 c7 c8 c9
 refine (field_Check.calls b1 s1 1 0 _ A1.out).mono ?_
 rintro e1 V1 ⟨rfl,hb⟩
 have HR3:Spc.Row V1 w.heap.size b0 s0 b1 s1 b2 s2 b3 s3 b4 s4:=blk_below HR2.out hb
 have HB3:=below_step HB2.out hb
 have hX3:Spc.Bx V1 X w.heap.size:=blk_below hX.out hb
 clear HR2 HB2 hX hb
 have HR2:=Aside0.mk HR3
 have HB2:=Aside0.mk HB3
 have hX:=Aside0.mk hX3
 clear HR3 HB3 hX3
 go_wp2_with fail
 rw [rounds_succ]
 have ix:=Spc.ix2 X
 obtain ⟨c0,c1,c2,c3,c4,c5,c6,c7,c8,c9⟩ :=HR2.out.cells
 go_wp2_with (go_at_call 73; refine (Spc.at2 _ _ _ hX.out).mono ?_; rintro e w' ⟨rfl,rfl⟩)
 clear ix c0 c1 c2 c3 c4 c5 c6 c7 c8 c9
 refine (field_Check.calls b2 s2 2 E0 _ A2.out).mono ?_
 rintro e2 V2 ⟨rfl,hb⟩
 have HR3:Spc.Row V2 w.heap.size b0 s0 b1 s1 b2 s2 b3 s3 b4 s4:=blk_below HR2.out hb
 have HB3:=below_step HB2.out hb
 have hX3:Spc.Bx V2 X w.heap.size:=blk_below hX.out hb
 clear HR2 HB2 hX hb
 have HR2:=Aside0.mk HR3
 have HB2:=Aside0.mk HB3
 have hX:=Aside0.mk hX3
 clear HR3 HB3 hX3
 go_wp2_with fail
 go_ret2
 exact ⟨rfl,HB2.out⟩
set_option maxHeartbeats 8000000 in
set_option maxRecDepth 100000 in
theorem Spc.check3 (b0:Int)(s0:Bool)(b1:Int)(s1:Bool)(b2:Int)(s2:Bool)(b3:Int)(s3:Bool)(b4:Int)(s4:Bool)(A0:field_Check.f b0 s0 0=some 0)(A1:field_Check.f b1 s1 1=some 0)(A2:field_Check.f b2 s2 2=some 0)(E0:Int)(he:E0≠0)(A3:field_Check.f b3 s3 3=some E0)(w:World):Calls Tryz.prog 29 #[.agg #[.int .u64 b0,.bool s0,.int .u64 b1,.bool s1,.int .u64 b2,.bool s2,.int .u64 b3,.bool s3,.int .u64 b4,.bool s4]] w fun e w'=>e=.returned (.tuple #[.int .i64 4,.int .i64 E0])∧Below w.heap.size w w':=by
 have q1:(E0 == 0)=false:=by simpa using he
 have q2:(E0 != 0)=true:=by simpa using he
 replace he:=Lib.hid he
 replace A0:=Lib.hid A0
 replace A1:=Lib.hid A1
 replace A2:=Lib.hid A2
 replace A3:=Lib.hid A3
 have HR:=blk_new w (.cells #[.int .u64 b0,.bool s0,.int .u64 b1,.bool s1,.int .u64 b2,.bool s2,.int .u64 b3,.bool s3,.int .u64 b4,.bool s4] 31)
 have HB:=below_alloc (Below.refl _ _) (.cells #[.int .u64 b0,.bool s0,.int .u64 b1,.bool s1,.int .u64 b2,.bool s2,.int .u64 b3,.bool s3,.int .u64 b4,.bool s4] 31) (w:=w)
 replace HR:=Aside0.mk HR
 replace HB:=Aside0.mk HB
 go_enter Tryz.func29,Tryz.ntmps29
 go_wp2_with fail
 refine (Spc.fields_calls _ _).mono ?_
 rintro e V ⟨rfl,hX,hb⟩
 have HR2:Spc.Row V w.heap.size b0 s0 b1 s1 b2 s2 b3 s3 b4 s4:=blk_below HR.out hb
 have HB2:=below_step HB.out hb
 clear HR HB hb
 obtain ⟨X,hX0⟩:∃ X,(w.alloc (.cells #[.int .u64 b0,.bool s0,.int .u64 b1,.bool s1,.int .u64 b2,.bool s2,.int .u64 b3,.bool s3,.int .u64 b4,.bool s4] 31)).heap.size=X:=⟨_,rfl⟩
 rw [hX0] at hX ⊢
 replace hX0:=Lib.hid hX0
 replace HR2:=Aside0.mk HR2
 replace HB2:=Aside0.mk HB2
 replace hX:=Aside0.mk hX
 go_wp2_with fail
 refine wp_loop_rounds 4 ?_
 rw [rounds_succ]
 have ix:=Spc.ix0 X
 obtain ⟨c0,c1,c2,c3,c4,c5,c6,c7,c8,c9⟩ :=HR2.out.cells
 go_wp2_with (go_at_call 71; refine (Spc.at0 _ _ _ hX.out).mono ?_; rintro e w' ⟨rfl,rfl⟩)
 clear ix c0 c1 c2 c3 c4 c5 c6 c7 c8 c9
 refine (field_Check.calls b0 s0 0 0 _ A0.out).mono ?_
 rintro e0 V0 ⟨rfl,hb⟩
 have HR3:Spc.Row V0 w.heap.size b0 s0 b1 s1 b2 s2 b3 s3 b4 s4:=blk_below HR2.out hb
 have HB3:=below_step HB2.out hb
 have hX3:Spc.Bx V0 X w.heap.size:=blk_below hX.out hb
 clear HR2 HB2 hX hb
 have HR2:=Aside0.mk HR3
 have HB2:=Aside0.mk HB3
 have hX:=Aside0.mk hX3
 clear HR3 HB3 hX3
 go_wp2_with fail
 rw [rounds_succ]
 have ix:=Spc.ix1 X
 obtain ⟨c0,c1,c2,c3,c4,c5,c6,c7,c8,c9⟩ :=HR2.out.cells
 go_wp2_with (go_at_call 72; refine (Spc.at1 _ _ _ hX.out).mono ?_; rintro e w' ⟨rfl,rfl⟩)
 clear ix c0 c1 c2 c3 c4 c5 c6 c7 c8 c9
 refine (field_Check.calls b1 s1 1 0 _ A1.out).mono ?_
 rintro e1 V1 ⟨rfl,hb⟩
 have HR3:Spc.Row V1 w.heap.size b0 s0 b1 s1 b2 s2 b3 s3 b4 s4:=blk_below HR2.out hb
 have HB3:=below_step HB2.out hb
 have hX3:Spc.Bx V1 X w.heap.size:=blk_below hX.out hb
 clear HR2 HB2 hX hb
 have HR2:=Aside0.mk HR3
 have HB2:=Aside0.mk HB3
 have hX:=Aside0.mk hX3
 clear HR3 HB3 hX3
 go_wp2_with fail
 rw [rounds_succ]
 have ix:=Spc.ix2 X
 obtain ⟨c0,c1,c2,c3,c4,c5,c6,c7,c8,c9⟩ :=HR2.out.cells
 go_wp2_with (go_at_call 73; refine (Spc.at2 _ _ _ hX.out).mono ?_; rintro e w' ⟨rfl,rfl⟩)
 clear ix c0 c1 c2 c3 c4 c5 c6 c7 c8 c9
 refine (field_Check.calls b2 s2 2 0 _ A2.out).mono ?_
 rintro e2 V2 ⟨rfl,hb⟩
 have HR3:Spc.Row V2 w.heap.size b0 s0 b1 s1 b2 s2 b3 s3 b4 s4:=blk_below HR2.out hb
 have HB3:=below_step HB2.out hb
 have hX3:Spc.Bx V2 X w.heap.size:=blk_below hX.out hb
 clear HR2 HB2 hX hb
 have HR2:=Aside0.mk HR3
 have HB2:=Aside0.mk HB3
 have hX:=Aside0.mk hX3
 clear HR3 HB3 hX3
 go_wp2_with fail
 rw [rounds_succ]
 have ix:=Spc.ix3 X
 obtain ⟨c0,c1,c2,c3,c4,c5,c6,c7,c8,c9⟩ :=HR2.out.cells
 go_wp2_with (go_at_call 74; refine (Spc.at3 _ _ _ hX.out).mono ?_; rintro e w' ⟨rfl,rfl⟩)
 clear ix c0 c1 c2 c3 c4 c5 c6 c7 c8 c9
 refine (field_Check.calls b3 s3 3 E0 _ A3.out).mono ?_
 rintro e3 V3 ⟨rfl,hb⟩
 have HR3:Spc.Row V3 w.heap.size b0 s0 b1 s1 b2 s2 b3 s3 b4 s4:=blk_below HR2.out hb
 have HB3:=below_step HB2.out hb
 have hX3:Spc.Bx V3 X w.heap.size:=blk_below hX.out hb
 clear HR2 HB2 hX hb
 have HR2:=Aside0.mk HR3
 have HB2:=Aside0.mk HB3
 have hX:=Aside0.mk hX3
 clear HR3 HB3 hX3
 go_wp2_with fail
 go_ret2
 exact ⟨rfl,HB2.out⟩
set_option maxHeartbeats 8000000 in
set_option maxRecDepth 100000 in
theorem Spc.check4 (b0:Int)(s0:Bool)(b1:Int)(s1:Bool)(b2:Int)(s2:Bool)(b3:Int)(s3:Bool)(b4:Int)(s4:Bool)(A0:field_Check.f b0 s0 0=some 0)(A1:field_Check.f b1 s1 1=some 0)(A2:field_Check.f b2 s2 2=some 0)(A3:field_Check.f b3 s3 3=some 0)(E0:Int)(he:E0≠0)(A4:field_Check.f b4 s4 4=some E0)(w:World):Calls Tryz.prog 29 #[.agg #[.int .u64 b0,.bool s0,.int .u64 b1,.bool s1,.int .u64 b2,.bool s2,.int .u64 b3,.bool s3,.int .u64 b4,.bool s4]] w fun e w'=>e=.returned (.tuple #[.int .i64 5,.int .i64 E0])∧Below w.heap.size w w':=by
 have q1:(E0 == 0)=false:=by simpa using he
 have q2:(E0 != 0)=true:=by simpa using he
 replace he:=Lib.hid he
 replace A0:=Lib.hid A0
 replace A1:=Lib.hid A1
 replace A2:=Lib.hid A2
 replace A3:=Lib.hid A3
 replace A4:=Lib.hid A4
 have HR:=blk_new w (.cells #[.int .u64 b0,.bool s0,.int .u64 b1,.bool s1,.int .u64 b2,.bool s2,.int .u64 b3,.bool s3,.int .u64 b4,.bool s4] 31)
 have HB:=below_alloc (Below.refl _ _) (.cells #[.int .u64 b0,.bool s0,.int .u64 b1,.bool s1,.int .u64 b2,.bool s2,.int .u64 b3,.bool s3,.int .u64 b4,.bool s4] 31) (w:=w)
 replace HR:=Aside0.mk HR
 replace HB:=Aside0.mk HB
 go_enter Tryz.func29,Tryz.ntmps29
 go_wp2_with fail
 refine (Spc.fields_calls _ _).mono ?_
 rintro e V ⟨rfl,hX,hb⟩
 have HR2:Spc.Row V w.heap.size b0 s0 b1 s1 b2 s2 b3 s3 b4 s4:=blk_below HR.out hb
 have HB2:=below_step HB.out hb
 clear HR HB hb
 obtain ⟨X,hX0⟩:∃ X,(w.alloc (.cells #[.int .u64 b0,.bool s0,.int .u64 b1,.bool s1,.int .u64 b2,.bool s2,.int .u64 b3,.bool s3,.int .u64 b4,.bool s4] 31)).heap.size=X:=⟨_,rfl⟩
 rw [hX0] at hX ⊢
 replace hX0:=Lib.hid hX0
 replace HR2:=Aside0.mk HR2
 replace HB2:=Aside0.mk HB2
 replace hX:=Aside0.mk hX
 go_wp2_with fail
 refine wp_loop_rounds 5 ?_
 rw [rounds_succ]
 have ix:=Spc.ix0 X
 obtain ⟨c0,c1,c2,c3,c4,c5,c6,c7,c8,c9⟩ :=HR2.out.cells
 go_wp2_with (go_at_call 71; refine (Spc.at0 _ _ _ hX.out).mono ?_; rintro e w' ⟨rfl,rfl⟩)
 clear ix c0 c1 c2 c3 c4 c5 c6 c7 c8 c9
 refine (field_Check.calls b0 s0 0 0 _ A0.out).mono ?_
 rintro e0 V0 ⟨rfl,hb⟩
 have HR3:Spc.Row V0 w.heap.size b0 s0 b1 s1 b2 s2 b3 s3 b4 s4:=blk_below HR2.out hb
 have HB3:=below_step HB2.out hb
 have hX3:Spc.Bx V0 X w.heap.size:=blk_below hX.out hb
 clear HR2 HB2 hX hb
 have HR2:=Aside0.mk HR3
 have HB2:=Aside0.mk HB3
 have hX:=Aside0.mk hX3
 clear HR3 HB3 hX3
 go_wp2_with fail
 rw [rounds_succ]
 have ix:=Spc.ix1 X
 obtain ⟨c0,c1,c2,c3,c4,c5,c6,c7,c8,c9⟩ :=HR2.out.cells
 go_wp2_with (go_at_call 72; refine (Spc.at1 _ _ _ hX.out).mono ?_; rintro e w' ⟨rfl,rfl⟩)
 clear ix c0 c1 c2 c3 c4 c5 c6 c7 c8 c9
 refine (field_Check.calls b1 s1 1 0 _ A1.out).mono ?_
 rintro e1 V1 ⟨rfl,hb⟩
 have HR3:Spc.Row V1 w.heap.size b0 s0 b1 s1 b2 s2 b3 s3 b4 s4:=blk_below HR2.out hb
 have HB3:=below_step HB2.out hb
 have hX3:Spc.Bx V1 X w.heap.size:=blk_below hX.out hb
 clear HR2 HB2 hX hb
 have HR2:=Aside0.mk HR3
 have HB2:=Aside0.mk HB3
 have hX:=Aside0.mk hX3
 clear HR3 HB3 hX3
 go_wp2_with fail
 rw [rounds_succ]
 have ix:=Spc.ix2 X
 obtain ⟨c0,c1,c2,c3,c4,c5,c6,c7,c8,c9⟩ :=HR2.out.cells
 go_wp2_with (go_at_call 73; refine (Spc.at2 _ _ _ hX.out).mono ?_; rintro e w' ⟨rfl,rfl⟩)
 clear ix c0 c1 c2 c3 c4 c5 c6 c7 c8 c9
 refine (field_Check.calls b2 s2 2 0 _ A2.out).mono ?_
 rintro e2 V2 ⟨rfl,hb⟩
 have HR3:Spc.Row V2 w.heap.size b0 s0 b1 s1 b2 s2 b3 s3 b4 s4:=blk_below HR2.out hb
 have HB3:=below_step HB2.out hb
 have hX3:Spc.Bx V2 X w.heap.size:=blk_below hX.out hb
 clear HR2 HB2 hX hb
 have HR2:=Aside0.mk HR3
 have HB2:=Aside0.mk HB3
 have hX:=Aside0.mk hX3
 clear HR3 HB3 hX3
 go_wp2_with fail
 rw [rounds_succ]
 have ix:=Spc.ix3 X
 obtain ⟨c0,c1,c2,c3,c4,c5,c6,c7,c8,c9⟩ :=HR2.out.cells
 go_wp2_with (go_at_call 74; refine (Spc.at3 _ _ _ hX.out).mono ?_; rintro e w' ⟨rfl,rfl⟩)
 clear ix c0 c1 c2 c3 c4 c5 c6 c7 c8 c9
 refine (field_Check.calls b3 s3 3 0 _ A3.out).mono ?_
 rintro e3 V3 ⟨rfl,hb⟩
 have HR3:Spc.Row V3 w.heap.size b0 s0 b1 s1 b2 s2 b3 s3 b4 s4:=blk_below HR2.out hb
 have HB3:=below_step HB2.out hb
 have hX3:Spc.Bx V3 X w.heap.size:=blk_below hX.out hb
 clear HR2 HB2 hX hb
 have HR2:=Aside0.mk HR3
 have HB2:=Aside0.mk HB3
 have hX:=Aside0.mk hX3
 clear HR3 HB3 hX3
 go_wp2_with fail
 rw [rounds_succ]
 have ix:=Spc.ix4 X
 obtain ⟨c0,c1,c2,c3,c4,c5,c6,c7,c8,c9⟩ :=HR2.out.cells
 go_wp2_with (go_at_call 75; refine (Spc.at4 _ _ _ hX.out).mono ?_; rintro e w' ⟨rfl,rfl⟩)
 clear ix c0 c1 c2 c3 c4 c5 c6 c7 c8 c9
 refine (field_Check.calls b4 s4 4 E0 _ A4.out).mono ?_
 rintro e4 V4 ⟨rfl,hb⟩
 have HR3:Spc.Row V4 w.heap.size b0 s0 b1 s1 b2 s2 b3 s3 b4 s4:=blk_below HR2.out hb
 have HB3:=below_step HB2.out hb
 have hX3:Spc.Bx V4 X w.heap.size:=blk_below hX.out hb
 clear HR2 HB2 hX hb
 have HR2:=Aside0.mk HR3
 have HB2:=Aside0.mk HB3
 have hX:=Aside0.mk hX3
 clear HR3 HB3 hX3
 go_wp2_with fail
 go_ret2
 exact ⟨rfl,HB2.out⟩
set_option maxHeartbeats 8000000 in
set_option maxRecDepth 100000 in
theorem Spc.check5 (b0:Int)(s0:Bool)(b1:Int)(s1:Bool)(b2:Int)(s2:Bool)(b3:Int)(s3:Bool)(b4:Int)(s4:Bool)(A0:field_Check.f b0 s0 0=some 0)(A1:field_Check.f b1 s1 1=some 0)(A2:field_Check.f b2 s2 2=some 0)(A3:field_Check.f b3 s3 3=some 0)(A4:field_Check.f b4 s4 4=some 0)(w:World):Calls Tryz.prog 29 #[.agg #[.int .u64 b0,.bool s0,.int .u64 b1,.bool s1,.int .u64 b2,.bool s2,.int .u64 b3,.bool s3,.int .u64 b4,.bool s4]] w fun e w'=>e=.returned (.tuple #[.int .i64 0,.int .i64 0])∧Below w.heap.size w w':=by
 replace A0:=Lib.hid A0
 replace A1:=Lib.hid A1
 replace A2:=Lib.hid A2
 replace A3:=Lib.hid A3
 replace A4:=Lib.hid A4
 have HR:=blk_new w (.cells #[.int .u64 b0,.bool s0,.int .u64 b1,.bool s1,.int .u64 b2,.bool s2,.int .u64 b3,.bool s3,.int .u64 b4,.bool s4] 31)
 have HB:=below_alloc (Below.refl _ _) (.cells #[.int .u64 b0,.bool s0,.int .u64 b1,.bool s1,.int .u64 b2,.bool s2,.int .u64 b3,.bool s3,.int .u64 b4,.bool s4] 31) (w:=w)
 replace HR:=Aside0.mk HR
 replace HB:=Aside0.mk HB
 go_enter Tryz.func29,Tryz.ntmps29
 go_wp2_with fail
 refine (Spc.fields_calls _ _).mono ?_
 rintro e V ⟨rfl,hX,hb⟩
 have HR2:Spc.Row V w.heap.size b0 s0 b1 s1 b2 s2 b3 s3 b4 s4:=blk_below HR.out hb
 have HB2:=below_step HB.out hb
 clear HR HB hb
 obtain ⟨X,hX0⟩:∃ X,(w.alloc (.cells #[.int .u64 b0,.bool s0,.int .u64 b1,.bool s1,.int .u64 b2,.bool s2,.int .u64 b3,.bool s3,.int .u64 b4,.bool s4] 31)).heap.size=X:=⟨_,rfl⟩
 rw [hX0] at hX ⊢
 replace hX0:=Lib.hid hX0
 replace HR2:=Aside0.mk HR2
 replace HB2:=Aside0.mk HB2
 replace hX:=Aside0.mk hX
 go_wp2_with fail
 refine wp_loop_rounds 6 ?_
 rw [rounds_succ]
 have ix:=Spc.ix0 X
 obtain ⟨c0,c1,c2,c3,c4,c5,c6,c7,c8,c9⟩ :=HR2.out.cells
 go_wp2_with (go_at_call 71; refine (Spc.at0 _ _ _ hX.out).mono ?_; rintro e w' ⟨rfl,rfl⟩)
 clear ix c0 c1 c2 c3 c4 c5 c6 c7 c8 c9
 refine (field_Check.calls b0 s0 0 0 _ A0.out).mono ?_
 rintro e0 V0 ⟨rfl,hb⟩
 have HR3:Spc.Row V0 w.heap.size b0 s0 b1 s1 b2 s2 b3 s3 b4 s4:=blk_below HR2.out hb
 have HB3:=below_step HB2.out hb
 have hX3:Spc.Bx V0 X w.heap.size:=blk_below hX.out hb
 clear HR2 HB2 hX hb
 have HR2:=Aside0.mk HR3
 have HB2:=Aside0.mk HB3
 have hX:=Aside0.mk hX3
 clear HR3 HB3 hX3
 go_wp2_with fail
 rw [rounds_succ]
 have ix:=Spc.ix1 X
 obtain ⟨c0,c1,c2,c3,c4,c5,c6,c7,c8,c9⟩ :=HR2.out.cells
 go_wp2_with (go_at_call 72; refine (Spc.at1 _ _ _ hX.out).mono ?_; rintro e w' ⟨rfl,rfl⟩)
 clear ix c0 c1 c2 c3 c4 c5 c6 c7 c8 c9
 refine (field_Check.calls b1 s1 1 0 _ A1.out).mono ?_
 rintro e1 V1 ⟨rfl,hb⟩
 have HR3:Spc.Row V1 w.heap.size b0 s0 b1 s1 b2 s2 b3 s3 b4 s4:=blk_below HR2.out hb
 have HB3:=below_step HB2.out hb
 have hX3:Spc.Bx V1 X w.heap.size:=blk_below hX.out hb
 clear HR2 HB2 hX hb
 have HR2:=Aside0.mk HR3
 have HB2:=Aside0.mk HB3
 have hX:=Aside0.mk hX3
 clear HR3 HB3 hX3
 go_wp2_with fail
 rw [rounds_succ]
 have ix:=Spc.ix2 X
 obtain ⟨c0,c1,c2,c3,c4,c5,c6,c7,c8,c9⟩ :=HR2.out.cells
 go_wp2_with (go_at_call 73; refine (Spc.at2 _ _ _ hX.out).mono ?_; rintro e w' ⟨rfl,rfl⟩)
 clear ix c0 c1 c2 c3 c4 c5 c6 c7 c8 c9
 refine (field_Check.calls b2 s2 2 0 _ A2.out).mono ?_
 rintro e2 V2 ⟨rfl,hb⟩
 have HR3:Spc.Row V2 w.heap.size b0 s0 b1 s1 b2 s2 b3 s3 b4 s4:=blk_below HR2.out hb
 have HB3:=below_step HB2.out hb
 have hX3:Spc.Bx V2 X w.heap.size:=blk_below hX.out hb
 clear HR2 HB2 hX hb
 have HR2:=Aside0.mk HR3
 have HB2:=Aside0.mk HB3
 have hX:=Aside0.mk hX3
 clear HR3 HB3 hX3
 go_wp2_with fail
 rw [rounds_succ]
 have ix:=Spc.ix3 X
 obtain ⟨c0,c1,c2,c3,c4,c5,c6,c7,c8,c9⟩ :=HR2.out.cells
 go_wp2_with (go_at_call 74; refine (Spc.at3 _ _ _ hX.out).mono ?_; rintro e w' ⟨rfl,rfl⟩)
 clear ix c0 c1 c2 c3 c4 c5 c6 c7 c8 c9
 refine (field_Check.calls b3 s3 3 0 _ A3.out).mono ?_
 rintro e3 V3 ⟨rfl,hb⟩
 have HR3:Spc.Row V3 w.heap.size b0 s0 b1 s1 b2 s2 b3 s3 b4 s4:=blk_below HR2.out hb
 have HB3:=below_step HB2.out hb
 have hX3:Spc.Bx V3 X w.heap.size:=blk_below hX.out hb
 clear HR2 HB2 hX hb
 have HR2:=Aside0.mk HR3
 have HB2:=Aside0.mk HB3
 have hX:=Aside0.mk hX3
 clear HR3 HB3 hX3
 go_wp2_with fail
 rw [rounds_succ]
 have ix:=Spc.ix4 X
 obtain ⟨c0,c1,c2,c3,c4,c5,c6,c7,c8,c9⟩ :=HR2.out.cells
 go_wp2_with (go_at_call 75; refine (Spc.at4 _ _ _ hX.out).mono ?_; rintro e w' ⟨rfl,rfl⟩)
 clear ix c0 c1 c2 c3 c4 c5 c6 c7 c8 c9
 refine (field_Check.calls b4 s4 4 0 _ A4.out).mono ?_
 rintro e4 V4 ⟨rfl,hb⟩
 have HR3:Spc.Row V4 w.heap.size b0 s0 b1 s1 b2 s2 b3 s3 b4 s4:=blk_below HR2.out hb
 have HB3:=below_step HB2.out hb
 have hX3:Spc.Bx V4 X w.heap.size:=blk_below hX.out hb
 clear HR2 HB2 hX hb
 have HR2:=Aside0.mk HR3
 have HB2:=Aside0.mk HB3
 have hX:=Aside0.mk hX3
 clear HR3 HB3 hX3
 go_wp2_with fail
 rw [rounds_succ]
 go_wp2_with fail
 go_ret2
 exact ⟨rfl,HB2.out⟩
def spec_Check.f (a0_0:Int)(a0_1:Bool)(a0_2:Int)(a0_3:Bool)(a0_4:Int)(a0_5:Bool)(a0_6:Int)(a0_7:Bool)(a0_8:Int)(a0_9:Bool):Option (Int × Int):=(field_Check.f a0_0 a0_1 0).bind fun e0=>if e0≠0 then some (1,e0) else (field_Check.f a0_2 a0_3 1).bind fun e1=>if e1≠0 then some (2,e1) else (field_Check.f a0_4 a0_5 2).bind fun e2=>if e2≠0 then some (3,e2) else (field_Check.f a0_6 a0_7 3).bind fun e3=>if e3≠0 then some (4,e3) else (field_Check.f a0_8 a0_9 4).bind fun e4=>if e4≠0 then some (5,e4) else some (0,0)
set_option maxHeartbeats 8000000 in
set_option maxRecDepth 100000 in
theorem spec_Check.calls (a0_0:Int)(a0_1:Bool)(a0_2:Int)(a0_3:Bool)(a0_4:Int)(a0_5:Bool)(a0_6:Int)(a0_7:Bool)(a0_8:Int)(a0_9:Bool)(r1:Int)(r2:Int)(w:World)(h:spec_Check.f a0_0 a0_1 a0_2 a0_3 a0_4 a0_5 a0_6 a0_7 a0_8 a0_9=some (r1,r2)) :
  Calls Tryz.prog 29 #[.agg #[.int .u64 a0_0,.bool a0_1,.int .u64 a0_2,.bool a0_3,.int .u64 a0_4,.bool a0_5,.int .u64 a0_6,.bool a0_7,.int .u64 a0_8,.bool a0_9]] w fun e w'=>e=.returned (.tuple #[.int .i64 r1,.int .i64 r2])∧Below w.heap.size w w':=by
 have H:_=some (r1,r2):=h
 clear h
 obtain ⟨e0,A0,H⟩ :=Option.bind_eq_some_iff.1 H
 by_cases c0:e0≠0
 ·rw [if_pos c0] at H
  obtain ⟨rfl,rfl⟩ :=Prod.mk.inj (Option.some.inj H)
  exact Spc.check0 a0_0 a0_1 a0_2 a0_3 a0_4 a0_5 a0_6 a0_7 a0_8 a0_9  _ c0 A0 w
 rw [if_neg c0] at H
 obtain rfl:e0=0:=by simpa using c0
 obtain ⟨e1,A1,H⟩ :=Option.bind_eq_some_iff.1 H
 by_cases c1:e1≠0
 ·rw [if_pos c1] at H
  obtain ⟨rfl,rfl⟩ :=Prod.mk.inj (Option.some.inj H)
  exact Spc.check1 a0_0 a0_1 a0_2 a0_3 a0_4 a0_5 a0_6 a0_7 a0_8 a0_9 A0 _ c1 A1 w
 rw [if_neg c1] at H
 obtain rfl:e1=0:=by simpa using c1
 obtain ⟨e2,A2,H⟩ :=Option.bind_eq_some_iff.1 H
 by_cases c2:e2≠0
 ·rw [if_pos c2] at H
  obtain ⟨rfl,rfl⟩ :=Prod.mk.inj (Option.some.inj H)
  exact Spc.check2 a0_0 a0_1 a0_2 a0_3 a0_4 a0_5 a0_6 a0_7 a0_8 a0_9 A0 A1 _ c2 A2 w
 rw [if_neg c2] at H
 obtain rfl:e2=0:=by simpa using c2
 obtain ⟨e3,A3,H⟩ :=Option.bind_eq_some_iff.1 H
 by_cases c3:e3≠0
 ·rw [if_pos c3] at H
  obtain ⟨rfl,rfl⟩ :=Prod.mk.inj (Option.some.inj H)
  exact Spc.check3 a0_0 a0_1 a0_2 a0_3 a0_4 a0_5 a0_6 a0_7 a0_8 a0_9 A0 A1 A2 _ c3 A3 w
 rw [if_neg c3] at H
 obtain rfl:e3=0:=by simpa using c3
 obtain ⟨e4,A4,H⟩ :=Option.bind_eq_some_iff.1 H
 by_cases c4:e4≠0
 ·rw [if_pos c4] at H
  obtain ⟨rfl,rfl⟩ :=Prod.mk.inj (Option.some.inj H)
  exact Spc.check4 a0_0 a0_1 a0_2 a0_3 a0_4 a0_5 a0_6 a0_7 a0_8 a0_9 A0 A1 A2 A3 _ c4 A4 w
 rw [if_neg c4] at H
 obtain rfl:e4=0:=by simpa using c4
 obtain ⟨rfl,rfl⟩ :=Prod.mk.inj (Option.some.inj H)
 exact Spc.check5 a0_0 a0_1 a0_2 a0_3 a0_4 a0_5 a0_6 a0_7 a0_8 a0_9 A0 A1 A2 A3 A4 w
def spec_known.f (a0:Int):Option (Bool):=if a0≥0 then (some (decide (a0≤4))) else (some false)
set_option maxHeartbeats 8000000 in
set_option maxRecDepth 100000 in
theorem spec_known.calls (a0:Int)(r:Bool)(w:World)(h:spec_known.f a0=some r) :
  Calls Tryz.prog 54 #[.int .i64 a0] w fun e w'=>e=.returned (.bool r)∧Drawn0 w w':=by
 have H:(if a0≥0 then (some (decide (a0≤4))) else (some false))=some r:=h
 clear h
 by_cases c2:a0≥0
 ·rw [if_pos c2] at H
  have c2b0:decide (0≤a0)=true:=decide_eq_true c2
  clear c2
  obtain rfl:=Option.some.inj H
  go_enter Tryz.func54,Tryz.ntmps54
  go_wp2
  go_ret
  exact ⟨by first | rfl | (simp; done) | (simp [*]; done),by repeat (first | exact Drawn0.refl _ | apply Drawn0.step)⟩
 ·rw [if_neg c2] at H
  have c2b0:decide (0≤a0)=false:=decide_eq_false c2
  clear c2
  obtain rfl:=Option.some.inj H
  go_enter Tryz.func54,Tryz.ntmps54
  go_wp2
  go_ret
  exact ⟨by first | rfl | (simp; done) | (simp [*]; done),by repeat (first | exact Drawn0.refl _ | apply Drawn0.step)⟩
theorem Fld.genR {P:Program}{c:Code}{Q:Exit→Act→World→Prop}{n:Nat}{a:Act}{W:World}(F:World→Prop)(h:F W)(k:∀ W1,F W1→Code.rounds P c Q n a W1):Code.rounds P c Q n a W:=k W h
theorem Spc.far {W:World}{g h:Nat}{cs:Array Value}{t:TypeId}(H:W.heap[g]?=some (.cells cs t (0,0)))(hn:g≠h)(i j:Nat)(u v:Value):((W.setCell ⟨h,i,none⟩ u).setCell ⟨h,j,none⟩ v).heap[g]?=some (.cells cs t (0,0)):=blk_far (p:=⟨h,j,none⟩) (blk_far (p:=⟨h,i,none⟩) H hn u) hn v
theorem Spc.gen {P:Program}{f:FuncId}{args:Array Value}{W:World}{Q:Ending→World→Prop}(F:World→Prop)(h:F W)(k:∀ W1,F W1→Calls P f args W1 Q):Calls P f args W Q:=k W h
/-! This session's own: spec.Get, With. -/
set_option maxHeartbeats 8000000 in
set_option maxRecDepth 100000 in
theorem Spc.get_bad (b0:Int)(s0:Bool)(b1:Int)(s1:Bool)(b2:Int)(s2:Bool)(b3:Int)(s3:Bool)(b4:Int)(s4:Bool)(kind:Int)(h:kind < 0∨4 < kind)(w:World):Calls Tryz.prog 30 #[.agg #[.int .u64 b0,.bool s0,.int .u64 b1,.bool s1,.int .u64 b2,.bool s2,.int .u64 b3,.bool s3,.int .u64 b4,.bool s4],.int .i64 kind] w fun e w'=>e=.returned (.tuple #[.agg #[.int .u64 0,.bool false],.int .i64 7])∧Below w.heap.size w w':=by
 have hk:Hid (spec_known.f kind=some false):=Lib.hid (by unfold spec_known.f; rcases h with h | h <;> (simp; omega))
 clear h
 go_enter Tryz.func30,Tryz.ntmps30
 go_wp2_with (go_at_call 54; refine (spec_known.calls _ _ _ hk.out).mono ?_; rintro e w' ⟨rfl,⟨nd,rfl⟩⟩)
 refine bodyPost_ret (v:=.tuple #[.agg #[.int .u64 0,.bool false],.int .i64 7]) (by simp [results,Tryz.results30,go_sem]) rfl ⟨rfl,?_⟩
 have HB:=Aside0.mk (Below.refl w.heap.size w)
 repeat (with_reducible first | exact HB.out | apply below_alloc | apply pw_below_drewN | apply below_drew1 | (refine below_set ?_ (by omega)) | exact HB.out)
set_option maxHeartbeats 8000000 in
set_option maxRecDepth 100000 in
theorem Spc.get0 (b0:Int)(s0:Bool)(b1:Int)(s1:Bool)(b2:Int)(s2:Bool)(b3:Int)(s3:Bool)(b4:Int)(s4:Bool)(w:World):Calls Tryz.prog 30 #[.agg #[.int .u64 b0,.bool s0,.int .u64 b1,.bool s1,.int .u64 b2,.bool s2,.int .u64 b3,.bool s3,.int .u64 b4,.bool s4],.int .i64 0] w fun e w'=>e=.returned (.tuple #[.agg #[.int .u64 b0,.bool s0],.int .i64 0])∧Below w.heap.size w w':=by
 have hk:Hid (spec_known.f 0=some true):=Lib.hid (by decide)
 have HR:Spc.Row (w.alloc (.cells #[.int .u64 b0,.bool s0,.int .u64 b1,.bool s1,.int .u64 b2,.bool s2,.int .u64 b3,.bool s3,.int .u64 b4,.bool s4] 31)) w.heap.size b0 s0 b1 s1 b2 s2 b3 s3 b4 s4:=blk_new w _
 have HB:=below_alloc (Below.refl _ _) (.cells #[.int .u64 b0,.bool s0,.int .u64 b1,.bool s1,.int .u64 b2,.bool s2,.int .u64 b3,.bool s3,.int .u64 b4,.bool s4] 31) (w:=w)
 replace HR:=Aside0.mk HR
 replace HB:=Aside0.mk HB
 go_enter Tryz.func30,Tryz.ntmps30
 go_wp2_with (go_at_call 54; refine (spec_known.calls _ _ _ hk.out).mono ?_; rintro e w' ⟨rfl,⟨nd,rfl⟩⟩)
 refine Spc.gen (fun W=>W.heap.size=w.heap.size+2∧Below w.heap.size w W∧Spc.Row W w.heap.size b0 s0 b1 s1 b2 s2 b3 s3 b4 s4∧W.heap[w.heap.size+1]?=some (.cells #[.int .u64 0,.bool false] 24 (0,0))) ?_ ?_
 ·refine ⟨by simp,pw_below_drewN (below_alloc HB.out _) nd,blk_drewN (blk_alloc HR.out _) nd,?_⟩
  have:=heap_alloc_new (w.alloc (.cells #[.int .u64 b0,.bool s0,.int .u64 b1,.bool s1,.int .u64 b2,.bool s2,.int .u64 b3,.bool s3,.int .u64 b4,.bool s4] 31)) (.cells #[.int .u64 0,.bool false] 24)
  simpa using this
 clear HR HB
 rintro W ⟨hz,hB0,hR0,hf0⟩
 refine (Spc.fields_calls _ _).mono ?_
 rintro e V ⟨rfl,hX,hb⟩
 have HR2:Spc.Row V w.heap.size b0 s0 b1 s1 b2 s2 b3 s3 b4 s4:=blk_below hR0 hb
 have HB2:=below_step hB0 hb
 have hf2:=blk_below hf0 hb
 rw [hz] at hX ⊢
 clear hB0 hR0 hf0 hb hz
 obtain ⟨c0,c1,c2,c3,c4,c5,c6,c7,c8,c9⟩ :=HR2.cells
 have r0:V.cell? ⟨w.heap.size+1,0,none⟩=some (.int .u64 0):=(blk_cell hf2 0).trans rfl
 have r1:V.cell? ⟨w.heap.size+1,1,none⟩=some (.bool false):=(blk_cell hf2 1).trans rfl
 have z0:=blk_frozen hf2 0
 have z1:=blk_frozen hf2 1
 have ix:=Spc.ix0 (w.heap.size+2)
 replace HR2:=Aside0.mk HR2
 replace HB2:=Aside0.mk HB2
 replace hX:=Aside0.mk hX
 replace hf2:=Aside0.mk hf2
 go_wp2_with (go_at_call 71; refine (Spc.at0 _ _ _ hX.out).mono ?_; rintro e w' ⟨rfl,rfl⟩)
 have hq:=blk_put (blk_put hf2.out 0 (.int .u64 b0) rfl) 1 (.bool s0) rfl
 have g0:=(blk_cell hq 0).trans rfl
 have g1:=(blk_cell hq 1).trans rfl
 refine bodyPost_ret (v:=.tuple #[.agg #[.int .u64 b0,.bool s0],.int .i64 0]) (by simp [results,Tryz.results30,go_sem,r0,r1]) rfl ⟨rfl,?_⟩
 exact below_set (below_set HB2.out (by omega)) (by omega)
set_option maxHeartbeats 8000000 in
set_option maxRecDepth 100000 in
theorem Spc.get1 (b0:Int)(s0:Bool)(b1:Int)(s1:Bool)(b2:Int)(s2:Bool)(b3:Int)(s3:Bool)(b4:Int)(s4:Bool)(w:World):Calls Tryz.prog 30 #[.agg #[.int .u64 b0,.bool s0,.int .u64 b1,.bool s1,.int .u64 b2,.bool s2,.int .u64 b3,.bool s3,.int .u64 b4,.bool s4],.int .i64 1] w fun e w'=>e=.returned (.tuple #[.agg #[.int .u64 b1,.bool s1],.int .i64 0])∧Below w.heap.size w w':=by
 have hk:Hid (spec_known.f 1=some true):=Lib.hid (by decide)
 have HR:Spc.Row (w.alloc (.cells #[.int .u64 b0,.bool s0,.int .u64 b1,.bool s1,.int .u64 b2,.bool s2,.int .u64 b3,.bool s3,.int .u64 b4,.bool s4] 31)) w.heap.size b0 s0 b1 s1 b2 s2 b3 s3 b4 s4:=blk_new w _
 have HB:=below_alloc (Below.refl _ _) (.cells #[.int .u64 b0,.bool s0,.int .u64 b1,.bool s1,.int .u64 b2,.bool s2,.int .u64 b3,.bool s3,.int .u64 b4,.bool s4] 31) (w:=w)
 replace HR:=Aside0.mk HR
 replace HB:=Aside0.mk HB
 go_enter Tryz.func30,Tryz.ntmps30
 go_wp2_with (go_at_call 54; refine (spec_known.calls _ _ _ hk.out).mono ?_; rintro e w' ⟨rfl,⟨nd,rfl⟩⟩)
 refine Spc.gen (fun W=>W.heap.size=w.heap.size+2∧Below w.heap.size w W∧Spc.Row W w.heap.size b0 s0 b1 s1 b2 s2 b3 s3 b4 s4∧W.heap[w.heap.size+1]?=some (.cells #[.int .u64 0,.bool false] 24 (0,0))) ?_ ?_
 ·refine ⟨by simp,pw_below_drewN (below_alloc HB.out _) nd,blk_drewN (blk_alloc HR.out _) nd,?_⟩
  have:=heap_alloc_new (w.alloc (.cells #[.int .u64 b0,.bool s0,.int .u64 b1,.bool s1,.int .u64 b2,.bool s2,.int .u64 b3,.bool s3,.int .u64 b4,.bool s4] 31)) (.cells #[.int .u64 0,.bool false] 24)
  simpa using this
 clear HR HB
 rintro W ⟨hz,hB0,hR0,hf0⟩
 refine (Spc.fields_calls _ _).mono ?_
 rintro e V ⟨rfl,hX,hb⟩
 have HR2:Spc.Row V w.heap.size b0 s0 b1 s1 b2 s2 b3 s3 b4 s4:=blk_below hR0 hb
 have HB2:=below_step hB0 hb
 have hf2:=blk_below hf0 hb
 rw [hz] at hX ⊢
 clear hB0 hR0 hf0 hb hz
 obtain ⟨c0,c1,c2,c3,c4,c5,c6,c7,c8,c9⟩ :=HR2.cells
 have r0:V.cell? ⟨w.heap.size+1,0,none⟩=some (.int .u64 0):=(blk_cell hf2 0).trans rfl
 have r1:V.cell? ⟨w.heap.size+1,1,none⟩=some (.bool false):=(blk_cell hf2 1).trans rfl
 have z0:=blk_frozen hf2 0
 have z1:=blk_frozen hf2 1
 have ix:=Spc.ix1 (w.heap.size+2)
 replace HR2:=Aside0.mk HR2
 replace HB2:=Aside0.mk HB2
 replace hX:=Aside0.mk hX
 replace hf2:=Aside0.mk hf2
 go_wp2_with (go_at_call 72; refine (Spc.at1 _ _ _ hX.out).mono ?_; rintro e w' ⟨rfl,rfl⟩)
 have hq:=blk_put (blk_put hf2.out 0 (.int .u64 b1) rfl) 1 (.bool s1) rfl
 have g0:=(blk_cell hq 0).trans rfl
 have g1:=(blk_cell hq 1).trans rfl
 refine bodyPost_ret (v:=.tuple #[.agg #[.int .u64 b1,.bool s1],.int .i64 0]) (by simp [results,Tryz.results30,go_sem,r0,r1]) rfl ⟨rfl,?_⟩
 exact below_set (below_set HB2.out (by omega)) (by omega)
set_option maxHeartbeats 8000000 in
set_option maxRecDepth 100000 in
theorem Spc.get2 (b0:Int)(s0:Bool)(b1:Int)(s1:Bool)(b2:Int)(s2:Bool)(b3:Int)(s3:Bool)(b4:Int)(s4:Bool)(w:World):Calls Tryz.prog 30 #[.agg #[.int .u64 b0,.bool s0,.int .u64 b1,.bool s1,.int .u64 b2,.bool s2,.int .u64 b3,.bool s3,.int .u64 b4,.bool s4],.int .i64 2] w fun e w'=>e=.returned (.tuple #[.agg #[.int .u64 b2,.bool s2],.int .i64 0])∧Below w.heap.size w w':=by
 have hk:Hid (spec_known.f 2=some true):=Lib.hid (by decide)
 have HR:Spc.Row (w.alloc (.cells #[.int .u64 b0,.bool s0,.int .u64 b1,.bool s1,.int .u64 b2,.bool s2,.int .u64 b3,.bool s3,.int .u64 b4,.bool s4] 31)) w.heap.size b0 s0 b1 s1 b2 s2 b3 s3 b4 s4:=blk_new w _
 have HB:=below_alloc (Below.refl _ _) (.cells #[.int .u64 b0,.bool s0,.int .u64 b1,.bool s1,.int .u64 b2,.bool s2,.int .u64 b3,.bool s3,.int .u64 b4,.bool s4] 31) (w:=w)
 replace HR:=Aside0.mk HR
 replace HB:=Aside0.mk HB
 go_enter Tryz.func30,Tryz.ntmps30
 go_wp2_with (go_at_call 54; refine (spec_known.calls _ _ _ hk.out).mono ?_; rintro e w' ⟨rfl,⟨nd,rfl⟩⟩)
 refine Spc.gen (fun W=>W.heap.size=w.heap.size+2∧Below w.heap.size w W∧Spc.Row W w.heap.size b0 s0 b1 s1 b2 s2 b3 s3 b4 s4∧W.heap[w.heap.size+1]?=some (.cells #[.int .u64 0,.bool false] 24 (0,0))) ?_ ?_
 ·refine ⟨by simp,pw_below_drewN (below_alloc HB.out _) nd,blk_drewN (blk_alloc HR.out _) nd,?_⟩
  have:=heap_alloc_new (w.alloc (.cells #[.int .u64 b0,.bool s0,.int .u64 b1,.bool s1,.int .u64 b2,.bool s2,.int .u64 b3,.bool s3,.int .u64 b4,.bool s4] 31)) (.cells #[.int .u64 0,.bool false] 24)
  simpa using this
 clear HR HB
 rintro W ⟨hz,hB0,hR0,hf0⟩
 refine (Spc.fields_calls _ _).mono ?_
 rintro e V ⟨rfl,hX,hb⟩
 have HR2:Spc.Row V w.heap.size b0 s0 b1 s1 b2 s2 b3 s3 b4 s4:=blk_below hR0 hb
 have HB2:=below_step hB0 hb
 have hf2:=blk_below hf0 hb
 rw [hz] at hX ⊢
 clear hB0 hR0 hf0 hb hz
 obtain ⟨c0,c1,c2,c3,c4,c5,c6,c7,c8,c9⟩ :=HR2.cells
 have r0:V.cell? ⟨w.heap.size+1,0,none⟩=some (.int .u64 0):=(blk_cell hf2 0).trans rfl
 have r1:V.cell? ⟨w.heap.size+1,1,none⟩=some (.bool false):=(blk_cell hf2 1).trans rfl
 have z0:=blk_frozen hf2 0
 have z1:=blk_frozen hf2 1
 have ix:=Spc.ix2 (w.heap.size+2)
 replace HR2:=Aside0.mk HR2
 replace HB2:=Aside0.mk HB2
 replace hX:=Aside0.mk hX
 replace hf2:=Aside0.mk hf2
 go_wp2_with (go_at_call 73; refine (Spc.at2 _ _ _ hX.out).mono ?_; rintro e w' ⟨rfl,rfl⟩)
 have hq:=blk_put (blk_put hf2.out 0 (.int .u64 b2) rfl) 1 (.bool s2) rfl
 have g0:=(blk_cell hq 0).trans rfl
 have g1:=(blk_cell hq 1).trans rfl
 refine bodyPost_ret (v:=.tuple #[.agg #[.int .u64 b2,.bool s2],.int .i64 0]) (by simp [results,Tryz.results30,go_sem,r0,r1]) rfl ⟨rfl,?_⟩
 exact below_set (below_set HB2.out (by omega)) (by omega)
set_option maxHeartbeats 8000000 in
set_option maxRecDepth 100000 in
theorem Spc.get3 (b0:Int)(s0:Bool)(b1:Int)(s1:Bool)(b2:Int)(s2:Bool)(b3:Int)(s3:Bool)(b4:Int)(s4:Bool)(w:World):Calls Tryz.prog 30 #[.agg #[.int .u64 b0,.bool s0,.int .u64 b1,.bool s1,.int .u64 b2,.bool s2,.int .u64 b3,.bool s3,.int .u64 b4,.bool s4],.int .i64 3] w fun e w'=>e=.returned (.tuple #[.agg #[.int .u64 b3,.bool s3],.int .i64 0])∧Below w.heap.size w w':=by
 have hk:Hid (spec_known.f 3=some true):=Lib.hid (by decide)
 have HR:Spc.Row (w.alloc (.cells #[.int .u64 b0,.bool s0,.int .u64 b1,.bool s1,.int .u64 b2,.bool s2,.int .u64 b3,.bool s3,.int .u64 b4,.bool s4] 31)) w.heap.size b0 s0 b1 s1 b2 s2 b3 s3 b4 s4:=blk_new w _
 have HB:=below_alloc (Below.refl _ _) (.cells #[.int .u64 b0,.bool s0,.int .u64 b1,.bool s1,.int .u64 b2,.bool s2,.int .u64 b3,.bool s3,.int .u64 b4,.bool s4] 31) (w:=w)
 replace HR:=Aside0.mk HR
 replace HB:=Aside0.mk HB
 go_enter Tryz.func30,Tryz.ntmps30
 go_wp2_with (go_at_call 54; refine (spec_known.calls _ _ _ hk.out).mono ?_; rintro e w' ⟨rfl,⟨nd,rfl⟩⟩)
 refine Spc.gen (fun W=>W.heap.size=w.heap.size+2∧Below w.heap.size w W∧Spc.Row W w.heap.size b0 s0 b1 s1 b2 s2 b3 s3 b4 s4∧W.heap[w.heap.size+1]?=some (.cells #[.int .u64 0,.bool false] 24 (0,0))) ?_ ?_
 ·refine ⟨by simp,pw_below_drewN (below_alloc HB.out _) nd,blk_drewN (blk_alloc HR.out _) nd,?_⟩
  have:=heap_alloc_new (w.alloc (.cells #[.int .u64 b0,.bool s0,.int .u64 b1,.bool s1,.int .u64 b2,.bool s2,.int .u64 b3,.bool s3,.int .u64 b4,.bool s4] 31)) (.cells #[.int .u64 0,.bool false] 24)
  simpa using this
 clear HR HB
 rintro W ⟨hz,hB0,hR0,hf0⟩
 refine (Spc.fields_calls _ _).mono ?_
 rintro e V ⟨rfl,hX,hb⟩
 have HR2:Spc.Row V w.heap.size b0 s0 b1 s1 b2 s2 b3 s3 b4 s4:=blk_below hR0 hb
 have HB2:=below_step hB0 hb
 have hf2:=blk_below hf0 hb
 rw [hz] at hX ⊢
 clear hB0 hR0 hf0 hb hz
 obtain ⟨c0,c1,c2,c3,c4,c5,c6,c7,c8,c9⟩ :=HR2.cells
 have r0:V.cell? ⟨w.heap.size+1,0,none⟩=some (.int .u64 0):=(blk_cell hf2 0).trans rfl
 have r1:V.cell? ⟨w.heap.size+1,1,none⟩=some (.bool false):=(blk_cell hf2 1).trans rfl
 have z0:=blk_frozen hf2 0
 have z1:=blk_frozen hf2 1
 have ix:=Spc.ix3 (w.heap.size+2)
 replace HR2:=Aside0.mk HR2
 replace HB2:=Aside0.mk HB2
 replace hX:=Aside0.mk hX
 replace hf2:=Aside0.mk hf2
 go_wp2_with (go_at_call 74; refine (Spc.at3 _ _ _ hX.out).mono ?_; rintro e w' ⟨rfl,rfl⟩)
 have hq:=blk_put (blk_put hf2.out 0 (.int .u64 b3) rfl) 1 (.bool s3) rfl
 have g0:=(blk_cell hq 0).trans rfl
 have g1:=(blk_cell hq 1).trans rfl
 refine bodyPost_ret (v:=.tuple #[.agg #[.int .u64 b3,.bool s3],.int .i64 0]) (by simp [results,Tryz.results30,go_sem,r0,r1]) rfl ⟨rfl,?_⟩
 exact below_set (below_set HB2.out (by omega)) (by omega)
set_option maxHeartbeats 8000000 in
set_option maxRecDepth 100000 in
theorem Spc.get4 (b0:Int)(s0:Bool)(b1:Int)(s1:Bool)(b2:Int)(s2:Bool)(b3:Int)(s3:Bool)(b4:Int)(s4:Bool)(w:World):Calls Tryz.prog 30 #[.agg #[.int .u64 b0,.bool s0,.int .u64 b1,.bool s1,.int .u64 b2,.bool s2,.int .u64 b3,.bool s3,.int .u64 b4,.bool s4],.int .i64 4] w fun e w'=>e=.returned (.tuple #[.agg #[.int .u64 b4,.bool s4],.int .i64 0])∧Below w.heap.size w w':=by
 have hk:Hid (spec_known.f 4=some true):=Lib.hid (by decide)
 have HR:Spc.Row (w.alloc (.cells #[.int .u64 b0,.bool s0,.int .u64 b1,.bool s1,.int .u64 b2,.bool s2,.int .u64 b3,.bool s3,.int .u64 b4,.bool s4] 31)) w.heap.size b0 s0 b1 s1 b2 s2 b3 s3 b4 s4:=blk_new w _
 have HB:=below_alloc (Below.refl _ _) (.cells #[.int .u64 b0,.bool s0,.int .u64 b1,.bool s1,.int .u64 b2,.bool s2,.int .u64 b3,.bool s3,.int .u64 b4,.bool s4] 31) (w:=w)
 replace HR:=Aside0.mk HR
 replace HB:=Aside0.mk HB
 go_enter Tryz.func30,Tryz.ntmps30
 go_wp2_with (go_at_call 54; refine (spec_known.calls _ _ _ hk.out).mono ?_; rintro e w' ⟨rfl,⟨nd,rfl⟩⟩)
 refine Spc.gen (fun W=>W.heap.size=w.heap.size+2∧Below w.heap.size w W∧Spc.Row W w.heap.size b0 s0 b1 s1 b2 s2 b3 s3 b4 s4∧W.heap[w.heap.size+1]?=some (.cells #[.int .u64 0,.bool false] 24 (0,0))) ?_ ?_
 ·refine ⟨by simp,pw_below_drewN (below_alloc HB.out _) nd,blk_drewN (blk_alloc HR.out _) nd,?_⟩
  have:=heap_alloc_new (w.alloc (.cells #[.int .u64 b0,.bool s0,.int .u64 b1,.bool s1,.int .u64 b2,.bool s2,.int .u64 b3,.bool s3,.int .u64 b4,.bool s4] 31)) (.cells #[.int .u64 0,.bool false] 24)
  simpa using this
 clear HR HB
 rintro W ⟨hz,hB0,hR0,hf0⟩
 refine (Spc.fields_calls _ _).mono ?_
 rintro e V ⟨rfl,hX,hb⟩
 have HR2:Spc.Row V w.heap.size b0 s0 b1 s1 b2 s2 b3 s3 b4 s4:=blk_below hR0 hb
 have HB2:=below_step hB0 hb
 have hf2:=blk_below hf0 hb
 rw [hz] at hX ⊢
 clear hB0 hR0 hf0 hb hz
 obtain ⟨c0,c1,c2,c3,c4,c5,c6,c7,c8,c9⟩ :=HR2.cells
 have r0:V.cell? ⟨w.heap.size+1,0,none⟩=some (.int .u64 0):=(blk_cell hf2 0).trans rfl
 have r1:V.cell? ⟨w.heap.size+1,1,none⟩=some (.bool false):=(blk_cell hf2 1).trans rfl
 have z0:=blk_frozen hf2 0
 have z1:=blk_frozen hf2 1
 have ix:=Spc.ix4 (w.heap.size+2)
 replace HR2:=Aside0.mk HR2
 replace HB2:=Aside0.mk HB2
 replace hX:=Aside0.mk hX
 replace hf2:=Aside0.mk hf2
 go_wp2_with (go_at_call 75; refine (Spc.at4 _ _ _ hX.out).mono ?_; rintro e w' ⟨rfl,rfl⟩)
 have hq:=blk_put (blk_put hf2.out 0 (.int .u64 b4) rfl) 1 (.bool s4) rfl
 have g0:=(blk_cell hq 0).trans rfl
 have g1:=(blk_cell hq 1).trans rfl
 refine bodyPost_ret (v:=.tuple #[.agg #[.int .u64 b4,.bool s4],.int .i64 0]) (by simp [results,Tryz.results30,go_sem,r0,r1]) rfl ⟨rfl,?_⟩
 exact below_set (below_set HB2.out (by omega)) (by omega)
def spec_Get.f (a0_0:Int)(a0_1:Bool)(a0_2:Int)(a0_3:Bool)(a0_4:Int)(a0_5:Bool)(a0_6:Int)(a0_7:Bool)(a0_8:Int)(a0_9:Bool)(a1:Int):Option (Int × Bool × Int):=if a1=0 then some (a0_0,a0_1,0) else if a1=1 then some (a0_2,a0_3,0) else if a1=2 then some (a0_4,a0_5,0) else if a1=3 then some (a0_6,a0_7,0) else if a1=4 then some (a0_8,a0_9,0) else some (0,false,7)
set_option maxHeartbeats 8000000 in
set_option maxRecDepth 100000 in
theorem spec_Get.calls (a0_0:Int)(a0_1:Bool)(a0_2:Int)(a0_3:Bool)(a0_4:Int)(a0_5:Bool)(a0_6:Int)(a0_7:Bool)(a0_8:Int)(a0_9:Bool)(a1:Int)(r1:Int)(r2:Bool)(r3:Int)(w:World)(h:spec_Get.f a0_0 a0_1 a0_2 a0_3 a0_4 a0_5 a0_6 a0_7 a0_8 a0_9 a1=some (r1,r2,r3)) :
  Calls Tryz.prog 30 #[.agg #[.int .u64 a0_0,.bool a0_1,.int .u64 a0_2,.bool a0_3,.int .u64 a0_4,.bool a0_5,.int .u64 a0_6,.bool a0_7,.int .u64 a0_8,.bool a0_9],.int .i64 a1] w fun e w'=>e=.returned (.tuple #[.agg #[.int .u64 r1,.bool r2],.int .i64 r3])∧Below w.heap.size w w':=by
 have H:_=some (r1,r2,r3):=h
 clear h
 unfold spec_Get.f at H
 by_cases c0:a1=0
 ·rw [if_pos c0] at H
  subst c0
  simp only [Option.some.injEq,Prod.mk.injEq] at H
  obtain ⟨rfl,rfl,rfl⟩ :=H
  exact Spc.get0 a0_0 a0_1 a0_2 a0_3 a0_4 a0_5 a0_6 a0_7 a0_8 a0_9 w
 rw [if_neg c0] at H
 by_cases c1:a1=1
 ·rw [if_pos c1] at H
  subst c1
  simp only [Option.some.injEq,Prod.mk.injEq] at H
  obtain ⟨rfl,rfl,rfl⟩ :=H
  exact Spc.get1 a0_0 a0_1 a0_2 a0_3 a0_4 a0_5 a0_6 a0_7 a0_8 a0_9 w
 rw [if_neg c1] at H
 by_cases c2:a1=2
 ·rw [if_pos c2] at H
  subst c2
  simp only [Option.some.injEq,Prod.mk.injEq] at H
  obtain ⟨rfl,rfl,rfl⟩ :=H
  exact Spc.get2 a0_0 a0_1 a0_2 a0_3 a0_4 a0_5 a0_6 a0_7 a0_8 a0_9 w
 rw [if_neg c2] at H
 by_cases c3:a1=3
 ·rw [if_pos c3] at H
  subst c3
  simp only [Option.some.injEq,Prod.mk.injEq] at H
  obtain ⟨rfl,rfl,rfl⟩ :=H
  exact Spc.get3 a0_0 a0_1 a0_2 a0_3 a0_4 a0_5 a0_6 a0_7 a0_8 a0_9 w
 rw [if_neg c3] at H
 by_cases c4:a1=4
 ·rw [if_pos c4] at H
  subst c4
  simp only [Option.some.injEq,Prod.mk.injEq] at H
  obtain ⟨rfl,rfl,rfl⟩ :=H
  exact Spc.get4 a0_0 a0_1 a0_2 a0_3 a0_4 a0_5 a0_6 a0_7 a0_8 a0_9 w
 rw [if_neg c4] at H
 simp only [Option.some.injEq,Prod.mk.injEq] at H
 obtain ⟨rfl,rfl,rfl⟩ :=H
 exact Spc.get_bad a0_0 a0_1 a0_2 a0_3 a0_4 a0_5 a0_6 a0_7 a0_8 a0_9 a1 (by omega) w
end Go.Proofs.YtcmmmlenaahaeaaGreatDoor.PShw
