-- Written by a program of this session (gprint.py) over the kit's print.
import Derived.Test.YtepflnfnkfkldaaDoorPReax0
import Derived.Test.YtepflnfnkfkldaaDoorPReax3
import Derived.Test.YtepflnfnkfkldaaDoorPReax4
import Derived.Test.YtepflnfnkfkldaaDoorPReax5
import Derived.Test.YtepflnfnkfkldaaDoorPReax10
namespace Go.Proofs.YtepflnfnkfkldaaDoor.PRea
open Go.RowKit Go.Proofs.YtepflnfnkfkldaaDoorW.PrintWords Go.Proofs.YtepflnfnkfkldaaDoorW.PrintLast Go.Proofs.YtepflnfnkfkldaaDoorW.PrintMore
attribute [local go_sem] max2_int min2_int max_two min_two max_three min_three max_four min_four
set_option linter.unusedVariables false
set_option linter.unusedSimpArgs false
theorem Fld.genR {P:Program}{c:Code}{Q:Exit→Act→World→Prop}{n:Nat}{a:Act}{W:World}(F:World→Prop)(h:F W)(k:∀ W1,F W1→Code.rounds P c Q n a W1):Code.rounds P c Q n a W:=k W h
theorem Spc.far {W:World}{g h:Nat}{cs:Array Value}{t:TypeId}(H:W.heap[g]?=some (.cells cs t (0,0)))(hn:g≠h)(i j:Nat)(u v:Value):((W.setCell ⟨h,i,none⟩ u).setCell ⟨h,j,none⟩ v).heap[g]?=some (.cells cs t (0,0)):=blk_far (p:=⟨h,j,none⟩) (blk_far (p:=⟨h,i,none⟩) H hn u) hn v
/-! This session's own: spec.Stars. -/
set_option maxHeartbeats 8000000 in
set_option maxRecDepth 100000 in
theorem Spc.stars (w:World):Calls Tryd.prog 20 #[] w fun e w'=>e=.returned (.agg #[.int .u64 1152921504606846975,.bool true,.int .u64 16777215,.bool true,.int .u64 4294967294,.bool true,.int .u64 8190,.bool true,.int .u64 127,.bool true])∧Below w.heap.size w w':=by
 have HT:=blk_alloc (blk_new w (.cells #[.int .u64 0,.bool false,.int .u64 0,.bool false,.int .u64 0,.bool false,.int .u64 0,.bool false,.int .u64 0,.bool false] 26)) (.cells #[.int .u64 0,.bool false,.int .u64 0,.bool false,.int .u64 0,.bool false,.int .u64 0,.bool false,.int .u64 0,.bool false] 26)
 have HR:Spc.Row ((w.alloc (.cells #[.int .u64 0,.bool false,.int .u64 0,.bool false,.int .u64 0,.bool false,.int .u64 0,.bool false,.int .u64 0,.bool false] 26)).alloc (.cells #[.int .u64 0,.bool false,.int .u64 0,.bool false,.int .u64 0,.bool false,.int .u64 0,.bool false,.int .u64 0,.bool false] 26)) (w.heap.size+1) 0 false 0 false 0 false 0 false 0 false:=by
  have:=heap_alloc_new (w.alloc (.cells #[.int .u64 0,.bool false,.int .u64 0,.bool false,.int .u64 0,.bool false,.int .u64 0,.bool false,.int .u64 0,.bool false] 26)) (.cells #[.int .u64 0,.bool false,.int .u64 0,.bool false,.int .u64 0,.bool false,.int .u64 0,.bool false,.int .u64 0,.bool false] 26)
  unfold Spc.Row
  simpa using this
 have HB:=below_alloc (below_alloc (Below.refl _ _) (.cells #[.int .u64 0,.bool false,.int .u64 0,.bool false,.int .u64 0,.bool false,.int .u64 0,.bool false,.int .u64 0,.bool false] 26) (w:=w)) (.cells #[.int .u64 0,.bool false,.int .u64 0,.bool false,.int .u64 0,.bool false,.int .u64 0,.bool false,.int .u64 0,.bool false] 26)
 replace HT:=Aside0.mk HT
 replace HR:=Aside0.mk HR
 replace HB:=Aside0.mk HB
 go_enter Tryd.func20,Tryd.ntmps20
 go_wp2_with fail
 refine (Spc.fields_calls _ _).mono ?_
 rintro e V ⟨rfl,hX,hb⟩
 obtain ⟨X,hX0⟩:∃ X,((w.alloc (.cells #[.int .u64 0,.bool false,.int .u64 0,.bool false,.int .u64 0,.bool false,.int .u64 0,.bool false,.int .u64 0,.bool false] 26)).alloc (.cells #[.int .u64 0,.bool false,.int .u64 0,.bool false,.int .u64 0,.bool false,.int .u64 0,.bool false,.int .u64 0,.bool false] 26)).heap.size=X:=⟨_,rfl⟩
 have hXn:X=w.heap.size+2:=by rw [← hX0]; simp
 rw [hX0] at hX ⊢
 have HB2:=below_step HB.out hb
 have HT2:=blk_below HT.out hb
 have HR2:Spc.Row V (w.heap.size+1) 0 false 0 false 0 false 0 false 0 false:=blk_below HR.out hb
 clear HB HT HR hb hX0
 replace HB2:=Aside0.mk HB2
 replace HT2:=Aside0.mk HT2
 replace HR2:=Aside0.mk HR2
 replace hX:=Aside0.mk hX
 replace hXn:=Lib.hid hXn
 go_wp2_with fail
 refine wp_loop_rounds 6 ?_
 refine Fld.genR (fun W=>Below w.heap.size w W∧W.heap[w.heap.size]?=some (.cells #[.int .u64 0,.bool false,.int .u64 0,.bool false,.int .u64 0,.bool false,.int .u64 0,.bool false,.int .u64 0,.bool false] 26 (0,0))∧Spc.Row W (w.heap.size+1) 0 false 0 false 0 false 0 false 0 false∧Spc.Bx W X (w.heap.size+1)) ⟨HB2.out,HT2.out,HR2.out,hX.out⟩ ?_
 clear HB2 HT2 HR2 hX
 rintro W0 ⟨HB2,HT2,HR2,hX⟩
 replace HB2:=Aside0.mk HB2
 replace HT2:=Aside0.mk HT2
 replace HR2:=Aside0.mk HR2
 replace hX:=Aside0.mk hX
 rw [rounds_succ]
 have ix:=Spc.ix0 X
 go_wp2_with (go_at_call 72; refine (Spc.at0 _ _ _ hX.out).mono ?_; rintro e w' ⟨rfl,rfl⟩)
 clear ix
 refine (field_All.calls 0 1152921504606846975 true 0 _ (by decide +kernel)).mono ?_
 rintro e V0 ⟨rfl,hb⟩
 have HB3:=below_step HB2.out hb
 have HT3:=blk_below HT2.out hb
 have HR3:Spc.Row V0 (w.heap.size+1) 0 false 0 false 0 false 0 false 0 false:=blk_below HR2.out hb
 have hX3:Spc.Bx V0 X (w.heap.size+1):=blk_below hX.out hb
 clear HB2 HT2 HR2 hX hb
 have c0:V0.cell? ⟨w.heap.size+1,0,none⟩=some (.int .u64 0):=(blk_cell HR3 0).trans rfl
 have c1:V0.cell? ⟨w.heap.size+1,1,none⟩=some (.bool false):=(blk_cell HR3 1).trans rfl
 have z0:=blk_frozen HR3 0
 have z1:=blk_frozen HR3 1
 have HB2:=Aside0.mk HB3
 have HT2:=Aside0.mk HT3
 have HR2:=Aside0.mk HR3
 have hX:=Aside0.mk hX3
 clear HB3 HT3 HR3 hX3
 go_wp2_with fail
 clear c0 c1 z0 z1
 refine Fld.genR (fun W=>Below w.heap.size w W∧W.heap[w.heap.size]?=some (.cells #[.int .u64 0,.bool false,.int .u64 0,.bool false,.int .u64 0,.bool false,.int .u64 0,.bool false,.int .u64 0,.bool false] 26 (0,0))∧Spc.Row W (w.heap.size+1) 1152921504606846975 true 0 false 0 false 0 false 0 false∧Spc.Bx W X (w.heap.size+1)) ⟨below_set (below_set HB2.out (by omega)) (by omega),Spc.far HT2.out (by omega) _ _ _ _,blk_put (blk_put HR2.out 0 _ rfl) 1 _ rfl,Spc.far hX.out (by have:=hXn.out; omega) _ _ _ _⟩ ?_
 clear HB2 HT2 HR2 hX
 rintro W1 ⟨HB2,HT2,HR2,hX⟩
 replace HB2:=Aside0.mk HB2
 replace HT2:=Aside0.mk HT2
 replace HR2:=Aside0.mk HR2
 replace hX:=Aside0.mk hX
 rw [rounds_succ]
 have ix:=Spc.ix1 X
 go_wp2_with (go_at_call 73; refine (Spc.at1 _ _ _ hX.out).mono ?_; rintro e w' ⟨rfl,rfl⟩)
 clear ix
 refine (field_All.calls 1 16777215 true 0 _ (by decide +kernel)).mono ?_
 rintro e V1 ⟨rfl,hb⟩
 have HB3:=below_step HB2.out hb
 have HT3:=blk_below HT2.out hb
 have HR3:Spc.Row V1 (w.heap.size+1) 1152921504606846975 true 0 false 0 false 0 false 0 false:=blk_below HR2.out hb
 have hX3:Spc.Bx V1 X (w.heap.size+1):=blk_below hX.out hb
 clear HB2 HT2 HR2 hX hb
 have c0:V1.cell? ⟨w.heap.size+1,2,none⟩=some (.int .u64 0):=(blk_cell HR3 2).trans rfl
 have c1:V1.cell? ⟨w.heap.size+1,3,none⟩=some (.bool false):=(blk_cell HR3 3).trans rfl
 have z0:=blk_frozen HR3 2
 have z1:=blk_frozen HR3 3
 have HB2:=Aside0.mk HB3
 have HT2:=Aside0.mk HT3
 have HR2:=Aside0.mk HR3
 have hX:=Aside0.mk hX3
 clear HB3 HT3 HR3 hX3
 go_wp2_with fail
 clear c0 c1 z0 z1
 refine Fld.genR (fun W=>Below w.heap.size w W∧W.heap[w.heap.size]?=some (.cells #[.int .u64 0,.bool false,.int .u64 0,.bool false,.int .u64 0,.bool false,.int .u64 0,.bool false,.int .u64 0,.bool false] 26 (0,0))∧Spc.Row W (w.heap.size+1) 1152921504606846975 true 16777215 true 0 false 0 false 0 false∧Spc.Bx W X (w.heap.size+1)) ⟨below_set (below_set HB2.out (by omega)) (by omega),Spc.far HT2.out (by omega) _ _ _ _,blk_put (blk_put HR2.out 2 _ rfl) 3 _ rfl,Spc.far hX.out (by have:=hXn.out; omega) _ _ _ _⟩ ?_
 clear HB2 HT2 HR2 hX
 rintro W2 ⟨HB2,HT2,HR2,hX⟩
 replace HB2:=Aside0.mk HB2
 replace HT2:=Aside0.mk HT2
 replace HR2:=Aside0.mk HR2
 replace hX:=Aside0.mk hX
 rw [rounds_succ]
 have ix:=Spc.ix2 X
 go_wp2_with (go_at_call 74; refine (Spc.at2 _ _ _ hX.out).mono ?_; rintro e w' ⟨rfl,rfl⟩)
 clear ix
 refine (field_All.calls 2 4294967294 true 0 _ (by decide +kernel)).mono ?_
 rintro e V2 ⟨rfl,hb⟩
 have HB3:=below_step HB2.out hb
 have HT3:=blk_below HT2.out hb
 have HR3:Spc.Row V2 (w.heap.size+1) 1152921504606846975 true 16777215 true 0 false 0 false 0 false:=blk_below HR2.out hb
 have hX3:Spc.Bx V2 X (w.heap.size+1):=blk_below hX.out hb
 clear HB2 HT2 HR2 hX hb
 have c0:V2.cell? ⟨w.heap.size+1,4,none⟩=some (.int .u64 0):=(blk_cell HR3 4).trans rfl
 have c1:V2.cell? ⟨w.heap.size+1,5,none⟩=some (.bool false):=(blk_cell HR3 5).trans rfl
 have z0:=blk_frozen HR3 4
 have z1:=blk_frozen HR3 5
 have HB2:=Aside0.mk HB3
 have HT2:=Aside0.mk HT3
 have HR2:=Aside0.mk HR3
 have hX:=Aside0.mk hX3
 clear HB3 HT3 HR3 hX3
 go_wp2_with fail
 clear c0 c1 z0 z1
 refine Fld.genR (fun W=>Below w.heap.size w W∧W.heap[w.heap.size]?=some (.cells #[.int .u64 0,.bool false,.int .u64 0,.bool false,.int .u64 0,.bool false,.int .u64 0,.bool false,.int .u64 0,.bool false] 26 (0,0))∧Spc.Row W (w.heap.size+1) 1152921504606846975 true 16777215 true 4294967294 true 0 false 0 false∧Spc.Bx W X (w.heap.size+1)) ⟨below_set (below_set HB2.out (by omega)) (by omega),Spc.far HT2.out (by omega) _ _ _ _,blk_put (blk_put HR2.out 4 _ rfl) 5 _ rfl,Spc.far hX.out (by have:=hXn.out; omega) _ _ _ _⟩ ?_
 clear HB2 HT2 HR2 hX
 rintro W3 ⟨HB2,HT2,HR2,hX⟩
 replace HB2:=Aside0.mk HB2
 replace HT2:=Aside0.mk HT2
 replace HR2:=Aside0.mk HR2
 replace hX:=Aside0.mk hX
 rw [rounds_succ]
 have ix:=Spc.ix3 X
 go_wp2_with (go_at_call 75; refine (Spc.at3 _ _ _ hX.out).mono ?_; rintro e w' ⟨rfl,rfl⟩)
 clear ix
 refine (field_All.calls 3 8190 true 0 _ (by decide +kernel)).mono ?_
 rintro e V3 ⟨rfl,hb⟩
 have HB3:=below_step HB2.out hb
 have HT3:=blk_below HT2.out hb
 have HR3:Spc.Row V3 (w.heap.size+1) 1152921504606846975 true 16777215 true 4294967294 true 0 false 0 false:=blk_below HR2.out hb
 have hX3:Spc.Bx V3 X (w.heap.size+1):=blk_below hX.out hb
 clear HB2 HT2 HR2 hX hb
 have c0:V3.cell? ⟨w.heap.size+1,6,none⟩=some (.int .u64 0):=(blk_cell HR3 6).trans rfl
 have c1:V3.cell? ⟨w.heap.size+1,7,none⟩=some (.bool false):=(blk_cell HR3 7).trans rfl
 have z0:=blk_frozen HR3 6
 have z1:=blk_frozen HR3 7
 have HB2:=Aside0.mk HB3
 have HT2:=Aside0.mk HT3
 have HR2:=Aside0.mk HR3
 have hX:=Aside0.mk hX3
 clear HB3 HT3 HR3 hX3
 go_wp2_with fail
 clear c0 c1 z0 z1
 refine Fld.genR (fun W=>Below w.heap.size w W∧W.heap[w.heap.size]?=some (.cells #[.int .u64 0,.bool false,.int .u64 0,.bool false,.int .u64 0,.bool false,.int .u64 0,.bool false,.int .u64 0,.bool false] 26 (0,0))∧Spc.Row W (w.heap.size+1) 1152921504606846975 true 16777215 true 4294967294 true 8190 true 0 false∧Spc.Bx W X (w.heap.size+1)) ⟨below_set (below_set HB2.out (by omega)) (by omega),Spc.far HT2.out (by omega) _ _ _ _,blk_put (blk_put HR2.out 6 _ rfl) 7 _ rfl,Spc.far hX.out (by have:=hXn.out; omega) _ _ _ _⟩ ?_
 clear HB2 HT2 HR2 hX
 rintro W4 ⟨HB2,HT2,HR2,hX⟩
 replace HB2:=Aside0.mk HB2
 replace HT2:=Aside0.mk HT2
 replace HR2:=Aside0.mk HR2
 replace hX:=Aside0.mk hX
 rw [rounds_succ]
 have ix:=Spc.ix4 X
 go_wp2_with (go_at_call 76; refine (Spc.at4 _ _ _ hX.out).mono ?_; rintro e w' ⟨rfl,rfl⟩)
 clear ix
 refine (field_All.calls 4 127 true 0 _ (by decide +kernel)).mono ?_
 rintro e V4 ⟨rfl,hb⟩
 have HB3:=below_step HB2.out hb
 have HT3:=blk_below HT2.out hb
 have HR3:Spc.Row V4 (w.heap.size+1) 1152921504606846975 true 16777215 true 4294967294 true 8190 true 0 false:=blk_below HR2.out hb
 have hX3:Spc.Bx V4 X (w.heap.size+1):=blk_below hX.out hb
 clear HB2 HT2 HR2 hX hb
 have c0:V4.cell? ⟨w.heap.size+1,8,none⟩=some (.int .u64 0):=(blk_cell HR3 8).trans rfl
 have c1:V4.cell? ⟨w.heap.size+1,9,none⟩=some (.bool false):=(blk_cell HR3 9).trans rfl
 have z0:=blk_frozen HR3 8
 have z1:=blk_frozen HR3 9
 have HB2:=Aside0.mk HB3
 have HT2:=Aside0.mk HT3
 have HR2:=Aside0.mk HR3
 have hX:=Aside0.mk hX3
 clear HB3 HT3 HR3 hX3
 go_wp2_with fail
 clear c0 c1 z0 z1
 refine Fld.genR (fun W=>Below w.heap.size w W∧W.heap[w.heap.size]?=some (.cells #[.int .u64 0,.bool false,.int .u64 0,.bool false,.int .u64 0,.bool false,.int .u64 0,.bool false,.int .u64 0,.bool false] 26 (0,0))∧Spc.Row W (w.heap.size+1) 1152921504606846975 true 16777215 true 4294967294 true 8190 true 127 true∧Spc.Bx W X (w.heap.size+1)) ⟨below_set (below_set HB2.out (by omega)) (by omega),Spc.far HT2.out (by omega) _ _ _ _,blk_put (blk_put HR2.out 8 _ rfl) 9 _ rfl,Spc.far hX.out (by have:=hXn.out; omega) _ _ _ _⟩ ?_
 clear HB2 HT2 HR2 hX
 rintro W5 ⟨HB2,HT2,HR2,hX⟩
 rw [rounds_succ]
 have d0:W5.cell? ⟨w.heap.size+1,0,none⟩=some (.int .u64 1152921504606846975):=(blk_cell HR2 0).trans rfl
 have d1:W5.cell? ⟨w.heap.size+1,1,none⟩=some (.bool true):=(blk_cell HR2 1).trans rfl
 have d2:W5.cell? ⟨w.heap.size+1,2,none⟩=some (.int .u64 16777215):=(blk_cell HR2 2).trans rfl
 have d3:W5.cell? ⟨w.heap.size+1,3,none⟩=some (.bool true):=(blk_cell HR2 3).trans rfl
 have d4:W5.cell? ⟨w.heap.size+1,4,none⟩=some (.int .u64 4294967294):=(blk_cell HR2 4).trans rfl
 have d5:W5.cell? ⟨w.heap.size+1,5,none⟩=some (.bool true):=(blk_cell HR2 5).trans rfl
 have d6:W5.cell? ⟨w.heap.size+1,6,none⟩=some (.int .u64 8190):=(blk_cell HR2 6).trans rfl
 have d7:W5.cell? ⟨w.heap.size+1,7,none⟩=some (.bool true):=(blk_cell HR2 7).trans rfl
 have d8:W5.cell? ⟨w.heap.size+1,8,none⟩=some (.int .u64 127):=(blk_cell HR2 8).trans rfl
 have d9:W5.cell? ⟨w.heap.size+1,9,none⟩=some (.bool true):=(blk_cell HR2 9).trans rfl
 have t0:W5.cell? ⟨w.heap.size,0,none⟩=some (.int .u64 0):=(blk_cell HT2 0).trans rfl
 have t1:W5.cell? ⟨w.heap.size,1,none⟩=some (.bool false):=(blk_cell HT2 1).trans rfl
 have t2:W5.cell? ⟨w.heap.size,2,none⟩=some (.int .u64 0):=(blk_cell HT2 2).trans rfl
 have t3:W5.cell? ⟨w.heap.size,3,none⟩=some (.bool false):=(blk_cell HT2 3).trans rfl
 have t4:W5.cell? ⟨w.heap.size,4,none⟩=some (.int .u64 0):=(blk_cell HT2 4).trans rfl
 have t5:W5.cell? ⟨w.heap.size,5,none⟩=some (.bool false):=(blk_cell HT2 5).trans rfl
 have t6:W5.cell? ⟨w.heap.size,6,none⟩=some (.int .u64 0):=(blk_cell HT2 6).trans rfl
 have t7:W5.cell? ⟨w.heap.size,7,none⟩=some (.bool false):=(blk_cell HT2 7).trans rfl
 have t8:W5.cell? ⟨w.heap.size,8,none⟩=some (.int .u64 0):=(blk_cell HT2 8).trans rfl
 have t9:W5.cell? ⟨w.heap.size,9,none⟩=some (.bool false):=(blk_cell HT2 9).trans rfl
 have zT:∀ j,W5.frozen? ⟨w.heap.size,j,none⟩=false:=fun j=>blk_frozen HT2 j
 replace HB2:=Aside0.mk HB2
 clear HT2 HR2 hX
 go_wp2_with fail
 refine bodyPost_ret (v:=.agg #[.int .u64 1152921504606846975,.bool true,.int .u64 16777215,.bool true,.int .u64 4294967294,.bool true,.int .u64 8190,.bool true,.int .u64 127,.bool true]) (by simp [results,Tryd.results20,go_sem, *]) rfl ⟨rfl,?_⟩
 repeat (first | (with_reducible first | exact HB2.out | (refine below_set ?_ (by omega))) | exact HB2.out)
def spec_Stars.f :Option (Int × Bool × Int × Bool × Int × Bool × Int × Bool × Int × Bool):=some (1152921504606846975,true,16777215,true,4294967294,true,8190,true,127,true)
set_option maxHeartbeats 8000000 in
set_option maxRecDepth 100000 in
theorem spec_Stars.calls  (r1:Int) (r2:Bool) (r3:Int) (r4:Bool) (r5:Int) (r6:Bool) (r7:Int) (r8:Bool) (r9:Int) (r10:Bool) (w:World) (h:spec_Stars.f =some (r1,r2,r3,r4,r5,r6,r7,r8,r9,r10)) :
  Calls Tryd.prog 20 #[] w fun e w'=>e=.returned (.agg #[.int .u64 r1,.bool r2,.int .u64 r3,.bool r4,.int .u64 r5,.bool r6,.int .u64 r7,.bool r8,.int .u64 r9,.bool r10])∧Below w.heap.size w w':=by
 have H:=Option.some.inj h
 simp only [Prod.mk.injEq] at H
 obtain ⟨rfl,rfl,rfl,rfl,rfl,rfl,rfl,rfl,rfl,rfl⟩ :=H
 exact Spc.stars w
/-! This session's own: the document's examples of rearm, walked. -/
structure Rea.WK (w:World) (g0 g1:Nat) (W:World):Prop where
 b:Below w.heap.size w W
 x:Rea.Row W g0 1 10 3 0 false 0 false 0 false 0 false 0 false
 q:Rea.Row W g1 1 10 2 0 false 0 false 0 false 0 false 0 false
theorem Rea.wk_step {w:World}{g0 g1:Nat}{W W':World}(h:Aside0 (Rea.WK w g0 g1 W))(hb:Below W.heap.size W W'):Aside0 (Rea.WK w g0 g1 W'):=⟨⟨below_step h.out.b hb,blk_below h.out.x hb,blk_below h.out.q hb⟩⟩
theorem Rea.wk0:rearm_Again.f 1 10 3 0 false 0 false 0 false 0 false 0 false 20 47=some (50,1,10,2,0,false,0,false,0,false,0,false,0,false,2,0):=by kernel_rfl
theorem Rea.wk1:rearm_First.f 2 0 0 1152921504606846975 true 16777215 true 4294967294 true 8190 true 127 true 61 9=some (120,0):=by kernel_rfl
theorem Rea.wk2:rearm_First.f 0 0 0 0 false 0 false 0 false 0 false 0 false 5 18446744073709551615=some (18446744073709551615,0):=by kernel_rfl
theorem Rea.wk3:rearm_Again.f 0 0 0 0 false 0 false 0 false 0 false 0 false 5 5=some (0,0,0,0,0,false,0,false,0,false,0,false,0,false,0,5):=by kernel_rfl
theorem Rea.wk4:rearm_Minute.f 119=some (1,true):=by kernel_rfl
theorem Rea.wk5:rearm_Check.f 100 1 0 0 0 false 0 false 0 false 0 false 0 false=some 10:=by kernel_rfl
theorem Rea.wk6:rearm_Check.f 100 1 10 3 0 false 0 false 0 false 0 false 0 false=some 0:=by kernel_rfl
def complinelaw23_works.f :Option (Bool):=some true
set_option maxHeartbeats 8000000 in
set_option maxRecDepth 100000 in
theorem complinelaw23_works.calls  (r:Bool) (w:World) (hT:Tab w) (h:complinelaw23_works.f =some r) :
  Calls Tryd.prog 9 #[] w fun e w'=>e=.returned (.bool r)∧Below w.heap.size w w':=by
 have HB:=Aside0.mk (Below.refl w.heap.size w)
 obtain rfl:r=true:=(Option.some.inj h).symm
 clear h HB
 have hu28:=Tryd.underlying28
 go_enter Tryd.func9,Tryd.ntmps9
 go_wp2_with fail
 have A1:=Aside0.mk (show Below w.heap.size w (w.alloc (.cells #[.int .i64 1,.int .u64 10,.int .i64 3,.int .u64 0,.bool false,.int .u64 0,.bool false,.int .u64 0,.bool false,.int .u64 0,.bool false,.int .u64 0,.bool false] 28))∧Rea.Row (w.alloc (.cells #[.int .i64 1,.int .u64 10,.int .i64 3,.int .u64 0,.bool false,.int .u64 0,.bool false,.int .u64 0,.bool false,.int .u64 0,.bool false,.int .u64 0,.bool false] 28)) w.heap.size 1 10 3 0 false 0 false 0 false 0 false 0 false from ⟨below_alloc (Below.refl _ _) _,blk_new _ _⟩)
 obtain ⟨g0,hg⟩:∃ g,w.heap.size=g:=⟨_,rfl⟩
 have hg0:=Lib.hid hg
 rw [hg] at A1 ⊢
 generalize w.alloc (.cells #[.int .i64 1,.int .u64 10,.int .i64 3,.int .u64 0,.bool false,.int .u64 0,.bool false,.int .u64 0,.bool false,.int .u64 0,.bool false,.int .u64 0,.bool false] 28)=W1 at A1 ⊢
 clear hg
 refine (rearm_Again.calls 1 10 3 0 false 0 false 0 false 0 false 0 false 20 47 50 1 10 2 0 false 0 false 0 false 0 false 0 false 2 0 _ (hT.keep (by have:=A1.out.1; rwa [← hg0.out] at this)) Rea.wk0).mono ?_
 rintro e V1 ⟨rfl,hb⟩
 have B1:=Aside0.mk (show Below w.heap.size w V1∧Rea.Row V1 g0 1 10 3 0 false 0 false 0 false 0 false 0 false from ⟨by have:=A1.out.1; rw [← hg0.out] at this; exact below_step this hb,blk_below A1.out.2 hb⟩)
 clear hb A1
 go_wp2_with fail
 have A2:=Aside0.mk (show Below w.heap.size w (V1.alloc (.cells #[.int .i64 1,.int .u64 10,.int .i64 2,.int .u64 0,.bool false,.int .u64 0,.bool false,.int .u64 0,.bool false,.int .u64 0,.bool false,.int .u64 0,.bool false] 28))∧Rea.Row (V1.alloc (.cells #[.int .i64 1,.int .u64 10,.int .i64 2,.int .u64 0,.bool false,.int .u64 0,.bool false,.int .u64 0,.bool false,.int .u64 0,.bool false,.int .u64 0,.bool false] 28)) g0 1 10 3 0 false 0 false 0 false 0 false 0 false∧Rea.Row (V1.alloc (.cells #[.int .i64 1,.int .u64 10,.int .i64 2,.int .u64 0,.bool false,.int .u64 0,.bool false,.int .u64 0,.bool false,.int .u64 0,.bool false,.int .u64 0,.bool false] 28)) V1.heap.size 1 10 2 0 false 0 false 0 false 0 false 0 false from ⟨below_alloc B1.out.1 _,blk_alloc B1.out.2 _,blk_new _ _⟩)
 obtain ⟨g1,hg⟩:∃ g,V1.heap.size=g:=⟨_,rfl⟩
 rw [hg] at A2 ⊢
 generalize V1.alloc (.cells #[.int .i64 1,.int .u64 10,.int .i64 2,.int .u64 0,.bool false,.int .u64 0,.bool false,.int .u64 0,.bool false,.int .u64 0,.bool false,.int .u64 0,.bool false] 28)=W2 at A2 ⊢
 clear hg B1
 have H0:Aside0 (Rea.WK w g0 g1 W2):=⟨⟨A2.out.1,A2.out.2.1,A2.out.2.2⟩⟩
 clear A2 hg0
 refine (spec_Stars.calls 1152921504606846975 true 16777215 true 4294967294 true 8190 true 127 true _ rfl).mono ?_
 rintro e V2 ⟨rfl,hb⟩
 have H1:=Rea.wk_step H0 hb
 clear H0 hb
 go_wp2_with fail
 have H2:=Rea.wk_step H1 (below_alloc (Below.refl _ _) (.cells #[.int .i64 2,.int .u64 0,.int .i64 0,.int .u64 1152921504606846975,.bool true,.int .u64 16777215,.bool true,.int .u64 4294967294,.bool true,.int .u64 8190,.bool true,.int .u64 127,.bool true] 28))
 generalize V2.alloc (.cells #[.int .i64 2,.int .u64 0,.int .i64 0,.int .u64 1152921504606846975,.bool true,.int .u64 16777215,.bool true,.int .u64 4294967294,.bool true,.int .u64 8190,.bool true,.int .u64 127,.bool true] 28)=W3 at H2 ⊢
 clear H1
 refine (rearm_First.calls 2 0 0 1152921504606846975 true 16777215 true 4294967294 true 8190 true 127 true 61 9 120 0 _ (hT.keep H2.out.b) Rea.wk1).mono ?_
 rintro e V3 ⟨rfl,hb⟩
 have H3:=Rea.wk_step H2 hb
 clear H2 hb
 go_wp2_with fail
 refine (rearm_First.calls 0 0 0 0 false 0 false 0 false 0 false 0 false 5 18446744073709551615 18446744073709551615 0 _ (hT.keep H3.out.b) Rea.wk2).mono ?_
 rintro e V4 ⟨rfl,hb⟩
 have H4:=Rea.wk_step H3 hb
 clear H3 hb
 go_wp2_with fail
 refine (rearm_Again.calls 0 0 0 0 false 0 false 0 false 0 false 0 false 5 5 0 0 0 0 0 false 0 false 0 false 0 false 0 false 0 5 _ (hT.keep H4.out.b) Rea.wk3).mono ?_
 rintro e V5 ⟨rfl,hb⟩
 have H5:=Rea.wk_step H4 hb
 clear H4 hb
 go_wp2_with fail
 have H6:=Rea.wk_step H5 (below_alloc (Below.refl _ _) (.cells #[.int .i64 0,.int .u64 0,.int .i64 0,.int .u64 0,.bool false,.int .u64 0,.bool false,.int .u64 0,.bool false,.int .u64 0,.bool false,.int .u64 0,.bool false] 28))
 generalize V5.alloc (.cells #[.int .i64 0,.int .u64 0,.int .i64 0,.int .u64 0,.bool false,.int .u64 0,.bool false,.int .u64 0,.bool false,.int .u64 0,.bool false,.int .u64 0,.bool false] 28)=W6 at H6 ⊢
 clear H5
 refine (rearm_Minute.calls 119 1 true _ Rea.wk4).mono ?_
 rintro e V7 ⟨rfl,hb⟩
 have H7:=Rea.wk_step H6 hb.below
 clear H6 hb
 obtain ⟨k0,k1,k2,k3,k4,k5,k6,k7,k8,k9,k10,k11,k12⟩ :=H7.out.x.cells
 obtain ⟨l0,l1,l2,l3,l4,l5,l6,l7,l8,l9,l10,l11,l12⟩ :=H7.out.q.cells
 go_wp2_with fail
 clear k0 k1 k2 k3 k4 k5 k6 k7 k8 k9 k10 k11 k12 l0 l1 l2 l3 l4 l5 l6 l7 l8 l9 l10 l11 l12
 refine (rearm_Check.calls 100 1 0 0 0 false 0 false 0 false 0 false 0 false 10 _ Rea.wk5).mono ?_
 rintro e V8 ⟨rfl,hb⟩
 have H8:=Rea.wk_step H7 hb
 clear H7 hb
 obtain ⟨k0,k1,k2,k3,k4,k5,k6,k7,k8,k9,k10,k11,k12⟩ :=H8.out.x.cells
 go_wp2_with fail
 clear k0 k1 k2 k3 k4 k5 k6 k7 k8 k9 k10 k11 k12
 refine (rearm_Check.calls 100 1 10 3 0 false 0 false 0 false 0 false 0 false 0 _ Rea.wk6).mono ?_
 rintro e V9 ⟨rfl,hb⟩
 have H9:=Rea.wk_step H8 hb
 clear H8 hb
 go_wp2_with fail
 go_ret
 exact ⟨rfl,H9.out.b⟩
end Go.Proofs.YtepflnfnkfkldaaDoor.PRea
