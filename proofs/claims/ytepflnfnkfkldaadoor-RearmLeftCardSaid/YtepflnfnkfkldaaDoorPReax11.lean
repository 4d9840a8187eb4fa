-- Written by a program of this session (gprint.py) over the kit's print.
import Derived.Test.YtepflnfnkfkldaaDoorPReax0
import Derived.Test.YtepflnfnkfkldaaDoorPReax3
import Derived.Test.YtepflnfnkfkldaaDoorPReax4
import Derived.Test.YtepflnfnkfkldaaDoorPReax5
import Derived.Test.YtepflnfnkfkldaaDoorPReax10
namespace Go.Proofs.YtepflnfnkfkldaaDoor.PRea
open Go.RowKit Go.Proofs.YtepflnfnkfkldaaDoorW.PrintWords Go.Proofs.YtepflnfnkfkldaaDoorW.PrintLast Go.Proofs.YtepflnfnkfkldaaDoorW.PrintMore
attribute [local go_sem] max2_int min2_int max_two min_two max_three min_three max_four min_four
set_option linter.unusedVariables false
set_option linter.unusedSimpArgs false
theorem Fld.genR {P:Program}{c:Code}{Q:Exit→Act→World→Prop}{n:Nat}{a:Act}{W:World}(F:World→Prop)(h:F W)(k:∀ W1,F W1→Code.rounds P c Q n a W1):Code.rounds P c Q n a W:=k W h
theorem Spc.far {W:World}{g h:Nat}{cs:Array Value}{t:TypeId}(H:W.heap[g]?=some (.cells cs t (0,0)))(hn:g≠h)(i j:Nat)(u v:Value):((W.setCell ⟨h,i,none⟩ u).setCell ⟨h,j,none⟩ v).heap[g]?=some (.cells cs t (0,0)):=blk_far (p:=⟨h,j,none⟩) (blk_far (p:=⟨h,i,none⟩) H hn u) hn v
/-! This session's own: spec.Stars. -/
set_option maxHeartbeats 8000000 in
set_option maxRecDepth 100000 in
theorem Spc.stars (w:World):Calls Tryd.prog 20 #[] w fun e w'=>e=.returned (.agg #[.int .u64 1152921504606846975,.bool true,.int .u64 16777215,.bool true,.int .u64 4294967294,.bool true,.int .u64 8190,.bool true,.int .u64 127,.bool true])∧Below w.heap.size w w':=by
 have HT:=blk_alloc (blk_new w (.cells #[.int .u64 0,.bool false,.int .u64 0,.bool false,.int .u64 0,.bool false,.int .u64 0,.bool false,.int .u64 0,.bool false] 26)) (.cells #[.int .u64 0,.bool false,.int .u64 0,.bool false,.int .u64 0,.bool false,.int .u64 0,.bool false,.int .u64 0,.bool false] 26)
 have HR:Spc.Row ((w.alloc (.cells #[.int .u64 0,.bool false,.int .u64 0,.bool false,.int .u64 0,.bool false,.int .u64 0,.bool false,.int .u64 0,.bool false] 26)).alloc (.cells #[.int .u64 0,.bool false,.int .u64 0,.bool false,.int .u64 0,.bool false,.int .u64 0,.bool false,.int .u64 0,.bool false] 26)) (w.heap.size+1) 0 false 0 false 0 false 0 false 0 false:=by
  have:=heap_alloc_new (w.alloc (.cells #[.int .u64 0,.bool false,.int .u64 0,.bool false,.int .u64 0,.bool false,.int .u64 0,.bool false,.int .u64 0,.bool false] 26)) (.cells #[.int .u64 0,.bool false,.int .u64 0,.bool false,.int .u64 0,.bool false,.int .u64 0,.bool false,.int .u64 0,.bool false] 26)
  unfold Spc.Row
  simpa using this
 have HB:=below_alloc (below_alloc (Below.refl _ _) (.cells #[.int .u64 0,.bool false,.int .u64 0,.bool false,.int .u64 0,.bool false,.int .u64 0,.bool false,.int .u64 0,.bool false] 26) (w:=w)) (.cells #[.int .u64 0,.bool false,.int .u64 0,.bool false,.int .u64 0,.bool false,.int .u64 0,.bool false,.int .u64 0,.bool false] 26)
 replace HT:=Aside0.mk HT
 replace HR:=Aside0.mk HR
 replace HB:=Aside0.mk HB
 go_enter Tryd.func20,Tryd.ntmps20
 go_wp2_with fail
 refine (Spc.fields_calls _ _).mono ?_
 rintro e V ⟨rfl,hX,hb⟩
 obtain ⟨X,hX0⟩:∃ X,((w.alloc (.cells #[.int .u64 0,.bool false,.int .u64 0,.bool false,.int .u64 0,.bool false,.int .u64 0,.bool false,.int .u64 0,.bool false] 26)).alloc (.cells #[.int .u64 0,.bool false,.int .u64 0,.bool false,.int .u64 0,.bool false,.int .u64 0,.bool false,.int .u64 0,.bool false] 26)).heap.size=X:=⟨_,rfl⟩
 have hXn:X=w.heap.size+2:=by rw [← hX0]; simp
 rw [hX0] at hX ⊢
 have HB2:=below_step HB.out hb
 have HT2:=blk_below HT.out hb
 have HR2:Spc.Row V (w.heap.size+1) 0 false 0 false 0 false 0 false 0 false:=blk_below HR.out hb
 clear HB HT HR hb hX0
 replace HB2:=Aside0.mk HB2
 replace HT2:=Aside0.mk HT2
 replace HR2:=Aside0.mk HR2
 replace hX:=Aside0.mk hX
 replace hXn:=Lib.hid hXn
 go_wp2_with fail
 refine wp_loop_rounds 6 ?_
 refine Fld.genR (fun W=>Below w.heap.size w W∧W.heap[w.heap.size]?=some (.cells #[.int .u64 0,.bool false,.int .u64 0,.bool false,.int .u64 0,.bool false,.int .u64 0,.bool false,.int .u64 0,.bool false] 26 (0,0))∧Spc.Row W (w.heap.size+1) 0 false 0 false 0 false 0 false 0 false∧Spc.Bx W X (w.heap.size+1)) ⟨HB2.out,HT2.out,HR2.out,hX.out⟩ ?_
 clear HB2 HT2 HR2 hX
 rintro W0 ⟨HB2,HT2,HR2,hX⟩
 replace HB2:=Aside0.mk HB2
 replace HT2:=Aside0.mk HT2
 replace HR2:=Aside0.mk HR2
 replace hX:=Aside0.mk hX
 rw [rounds_succ]
 have ix:=Spc.ix0 X
 go_wp2_with (go_at_call 72; refine (Spc.at0 _ _ _ hX.out).mono ?_; rintro e w' ⟨rfl,rfl⟩)
 clear ix
 refine (field_All.calls 0 1152921504606846975 true 0 _ (by decide +kernel)).mono ?_
 rintro e V0 ⟨rfl,hb⟩
 have HB3:=below_step HB2.out hb
 have HT3:=blk_below HT2.out hb
 have HR3:Spc.Row V0 (w.heap.size+1) 0 false 0 false 0 false 0 false 0 false:=blk_below HR2.out hb
 have hX3:Spc.Bx V0 X (w.heap.size+1):=blk_below hX.out hb
 clear HB2 HT2 HR2 hX hb
 have c0:V0.cell? ⟨w.heap.size+1,0,none⟩=some (.int .u64 0):=(blk_cell HR3 0).trans rfl
 have c1:V0.cell? ⟨w.heap.size+1,1,none⟩=some (.bool false):=(blk_cell HR3 1).trans rfl
 have z0:=blk_frozen HR3 0
 have z1:=blk_frozen HR3 1
 have HB2:=Aside0.mk HB3
 have HT2:=Aside0.mk HT3
 have HR2:=Aside0.mk HR3
 have hX:=Aside0.mk hX3
 clear HB3 HT3 HR3 hX3
 go_wp2_with fail
 clear c0 c1 z0 z1
 refine Fld.genR (fun W=>Below w.heap.size w W∧W.heap[w.heap.size]?=some (.cells #[.int .u64 0,.bool false,.int .u64 0,.bool false,.int .u64 0,.bool false,.int .u64 0,.bool false,.int .u64 0,.bool false] 26 (0,0))∧Spc.Row W (w.heap.size+1) 1152921504606846975 true 0 false 0 false 0 false 0 false∧Spc.Bx W X (w.heap.size+1)) ⟨below_set (below_set HB2.out (by omega)) (by omega),Spc.far HT2.out (by omega) _ _ _ _,blk_put (blk_put HR2.out 0 _ rfl) 1 _ rfl,Spc.far hX.out (by have:=hXn.out; omega) _ _ _ _⟩ ?_
 clear HB2 HT2 HR2 hX
 rintro W1 ⟨HB2,HT2,HR2,hX⟩
 replace HB2:=Aside0.mk HB2
 replace HT2:=Aside0.mk HT2
 replace HR2:=Aside0.mk HR2
 replace hX:=Aside0.mk hX
 rw [rounds_succ]
 have ix:=Spc.ix1 X
 go_wp2_with (go_at_call 73; refine (Spc.at1 _ _ _ hX.out).mono ?_; rintro e w' ⟨rfl,rfl⟩)
 clear ix
 refine (field_All.calls 1 16777215 true 0 _ (by decide +kernel)).mono ?_
 rintro e V1 ⟨rfl,hb⟩
 have HB3:=below_step HB2.out hb
 have HT3:=blk_below HT2.out hb
 have HR3:Spc.Row V1 (w.heap.size+1) 1152921504606846975 true 0 false 0 false 0 false 0 false:=blk_below HR2.out hb
 have hX3:Spc.Bx V1 X (w.heap.size+1):=blk_below hX.out hb
 clear HB2 HT2 HR2 hX hb
 have c0:V1.cell? ⟨w.heap.size+1,2,none⟩=some (.int .u64 0):=(blk_cell HR3 2).trans rfl
 have c1:V1.cell? ⟨w.heap.size+1,3,none⟩=some (.bool false):=(blk_cell HR3 3).trans rfl
 have z0:=blk_frozen HR3 2
 have z1:=blk_frozen HR3 3
 have HB2:=Aside0.mk HB3
 have HT2:=Aside0.mk HT3
 have HR2:=Aside0.mk HR3
 have hX:=Aside0.mk hX3
 clear HB3 HT3 HR3 hX3
 go_wp2_with fail
 clear c0 c1 z0 z1
 refine Fld.genR (fun W=>Below w.heap.size w W∧W.heap[w.heap.size]?=some (.cells #[.int .u64 0,.bool false,.int .u64 0,.bool false,.int .u64 0,.bool false,.int .u64 0,.bool false,.int .u64 0,.bool false] 26 (0,0))∧Spc.Row W (w.heap.size+1) 1152921504606846975 true 16777215 true 0 false 0 false 0 false∧Spc.Bx W X (w.heap.size+1)) ⟨below_set (below_set HB2.out (by omega)) (by omega),Spc.far HT2.out (by omega) _ _ _ _,blk_put (blk_put HR2.out 2 _ rfl) 3 _ rfl,Spc.far hX.out (by have:=hXn.out; omega) _ _ _ _⟩ ?_
 clear HB2 HT2 HR2 hX
 rintro W2 ⟨HB2,HT2,HR2,hX⟩
 replace HB2:=Aside0.mk HB2
 replace HT2:=Aside0.mk HT2
 replace HR2:=Aside0.mk HR2
 replace hX:=Aside0.mk hX
 rw [rounds_succ]
 have ix:=Spc.ix2 X
 go_wp2_with (go_at_call 74; refine (Spc.at2 _ _ _ hX.out).mono ?_; rintro e w' ⟨rfl,rfl⟩)
 clear ix
 refine (field_All.calls 2 4294967294 true 0 _ (by decide +kernel)).mono ?_
 rintro e V2 ⟨rfl,hb⟩
 have HB3:=below_step HB2.out hb
 have HT3:=blk_below HT2.out hb
 have HR3:Spc.Row V2 (w.heap.size+1) 1152921504606846975 true 16777215 true 0 false 0 false 0 false:=blk_below HR2.out hb
 have hX3:Spc.Bx V2 X (w.heap.size+1):=blk_below hX.out hb
 clear HB2 HT2 HR2 hX hb
 have c0:V2.cell? ⟨w.heap.size+1,4,none⟩=some (.int .u64 0):=(blk_cell HR3 4).trans rfl
 have c1:V2.cell? ⟨w.heap.size+1,5,none⟩=some (.bool false):=(blk_cell HR3 5).trans rfl
 have z0:=blk_frozen HR3 4
 have z1:=blk_frozen HR3 5
 have HB2:=Aside0.mk HB3
 have HT2:=Aside0.mk HT3
 have HR2:=Aside0.mk HR3
 have hX:=Aside0.mk hX3
 clear HB3 HT3 HR3 hX3
 go_wp2_with fail
 clear c0 c1 z0 z1
 refine Fld.genR (fun W=>Below w.heap.size w W∧W.heap[w.heap.size]?=some (.cells #[.int .u64 0,.bool false,.int .u64 0,.bool false,.int .u64 0,.bool false,.int .u64 0,.bool false,.int .u64 0,.bool false] 26 (0,0))∧Spc.Row W (w.heap.size+1) 1152921504606846975 true 16777215 true 4294967294 true 0 false 0 false∧Spc.Bx W X (w.heap.size+1)) ⟨below_set (below_set HB2.out (by omega)) (by omega),Spc.far HT2.out (by omega) _ _ _ _,blk_put (blk_put HR2.out 4 _ rfl) 5 _ rfl,Spc.far hX.out (by have:=hXn.out; omega) _ _ _ _⟩ ?_
 clear HB2 HT2 HR2 hX
 rintro W3 ⟨HB2,HT2,HR2,hX⟩
 replace HB2:=Aside0.mk HB2
 replace HT2:=Aside0.mk HT2
 replace HR2:=Aside0.mk HR2
 replace hX:=Aside0.mk hX
 rw [rounds_succ]
 have ix:=Spc.ix3 X
 go_wp2_with (go_at_call 75; refine (Spc.at3 _ _ _ hX.out).mono ?_; rintro e w' ⟨rfl,rfl⟩)
 clear ix
 refine (field_All.calls 3 8190 true 0 _ (by decide +kernel)).mono ?_
 rintro e V3 ⟨rfl,hb⟩
 have HB3:=below_step HB2.out hb
 have HT3:=blk_below HT2.out hb
 have HR3:Spc.Row V3 (w.heap.size+1) 1152921504606846975 true 16777215 true 4294967294 true 0 false 0 false:=blk_below HR2.out hb
 have hX3:Spc.Bx V3 X (w.heap.size+1):=blk_below hX.out hb
 clear HB2 HT2 HR2 hX hb
 have c0:V3.cell? ⟨w.heap.size+1,6,none⟩=some (.int .u64 0):=(blk_cell HR3 6).trans rfl
 have c1:V3.cell? ⟨w.heap.size+1,7,none⟩=some (.bool false):=(blk_cell HR3 7).trans rfl
 have z0:=blk_frozen HR3 6
 have z1:=blk_frozen HR3 7
 have HB2:=Aside0.mk HB3
 have HT2:=Aside0.mk HT3
 have HR2:=Aside0.mk HR3
 have hX:=Aside0.mk hX3
 clear HB3 HT3 HR3 hX3
 go_wp2_with fail
 clear c0 c1 z0 z1
 refine Fld.genR (fun W=>Below w.heap.size w W∧W.heap[w.heap.size]?=some (.cells #[.int .u64 0,.bool false,.int .u64 0,.bool false,.int .u64 0,.bool false,.int .u64 0,.bool false,.int .u64 0,.bool false] 26 (0,0))∧Spc.Row W (w.heap.size+1) 1152921504606846975 true 16777215 true 4294967294 true 8190 true 0 false∧Spc.Bx W X (w.heap.size+1)) ⟨below_set (below_set HB2.out (by omega)) (by omega),Spc.far HT2.out (by omega) _ _ _ _,blk_put (blk_put HR2.out 6 _ rfl) 7 _ rfl,Spc.far hX.out (by have:=hXn.out; omega) _ _ _ _⟩ ?_
 clear HB2 HT2 HR2 hX
 rintro W4 ⟨HB2,HT2,HR2,hX⟩
 replace HB2:=Aside0.mk HB2
 replace HT2:=Aside0.mk HT2
 replace HR2:=Aside0.mk HR2
 replace hX:=Aside0.mk hX
 rw [rounds_succ]
 have ix:=Spc.ix4 X
 go_wp2_with (go_at_call 76; refine (Spc.at4 _ _ _ hX.out).mono ?_; rintro e w' ⟨rfl,rfl⟩)
 clear ix
 refine (field_All.calls 4 127 true 0 _ (by decide +kernel)).mono ?_
 rintro e V4 ⟨rfl,hb⟩
 have HB3:=below_step HB2.out hb
 have HT3:=blk_below HT2.out hb
 have HR3:Spc.Row V4 (w.heap.size+1) 1152921504606846975 true 16777215 true 4294967294 true 8190 true 0 false:=blk_below HR2.out hb
 have hX3:Spc.Bx V4 X (w.heap.size+1):=blk_below hX.out hb
 clear HB2 HT2 HR2 hX hb
 have c0:V4.cell? ⟨w.heap.size+1,8,none⟩=some (.int .u64 0):=(blk_cell HR3 8).trans rfl
 have c1:V4.cell? ⟨w.heap.size+1,9,none⟩=some (.bool false):=(blk_cell HR3 9).trans rfl
 have z0:=blk_frozen HR3 8
 have z1:=blk_frozen HR3 9
 have HB2:=Aside0.mk HB3
 have HT2:=Aside0.mk HT3
 have HR2:=Aside0.mk HR3
 have hX:=Aside0.mk hX3
 clear HB3 HT3 HR3 hX3
 go_wp2_with fail
 clear c0 c1 z0 z1
 refine Fld.genR (fun W=>Below w.heap.size w W∧W.heap[w.heap.size]?=some (.cells #[.int .u64 0,.bool false,.int .u64 0,.bool false,.int .u64 0,.bool false,.int .u64 0,.bool false,.int .u64 0,.bool false] 26 (0,0))∧Spc.Row W (w.heap.size+1) 1152921504606846975 true 16777215 true 4294967294 true 8190 true 127 true∧Spc.Bx W X (w.heap.size+1)) ⟨below_set (below_set HB2.out (by omega)) (by omega),Spc.far HT2.out (by omega) _ _ _ _,blk_put (blk_put HR2.out 8 _ rfl) 9 _ rfl,Spc.far hX.out (by have:=hXn.out; omega) _ _ _ _⟩ ?_
 clear HB2 HT2 HR2 hX
 rintro W5 ⟨HB2,HT2,HR2,hX⟩
 rw [rounds_succ]
 have d0:W5.cell? ⟨w.heap.size+1,0,none⟩=some (.int .u64 1152921504606846975):=(blk_cell HR2 0).trans rfl
 have d1:W5.cell? ⟨w.heap.size+1,1,none⟩=some (.bool true):=(blk_cell HR2 1).trans rfl
 have d2:W5.cell? ⟨w.heap.size+1,2,none⟩=some (.int .u64 16777215):=(blk_cell HR2 2).trans rfl
 have d3:W5.cell? ⟨w.heap.size+1,3,none⟩=some (.bool true):=(blk_cell HR2 3).trans rfl
 have d4:W5.cell? ⟨w.heap.size+1,4,none⟩=some (.int .u64 4294967294):=(blk_cell HR2 4).trans rfl
 have d5:W5.cell? ⟨w.heap.size+1,5,none⟩=some (.bool true):=(blk_cell HR2 5).trans rfl
 have d6:W5.cell? ⟨w.heap.size+1,6,none⟩=some (.int .u64 8190):=(blk_cell HR2 6).trans rfl
 have d7:W5.cell? ⟨w.heap.size+1,7,none⟩=some (.bool true):=(blk_cell HR2 7).trans rfl
 have d8:W5.cell? ⟨w.heap.size+1,8,none⟩=some (.int .u64 127):=(blk_cell HR2 8).trans rfl
 have d9:W5.cell? ⟨w.heap.size+1,9,none⟩=some (.bool true):=(blk_cell HR2 9).trans rfl
 have t0:W5.cell? ⟨w.heap.size,0,none⟩=some (.int .u64 0):=(blk_cell HT2 0).trans rfl
 have t1:W5.cell? ⟨w.heap.size,1,none⟩=some (.bool false):=(blk_cell HT2 1).trans rfl
 have t2:W5.cell? ⟨w.heap.size,2,none⟩=some (.int .u64 0):=(blk_cell HT2 2).trans rfl
 have t3:W5.cell? ⟨w.heap.size,3,none⟩=some (.bool false):=(blk_cell HT2 3).trans rfl
 have t4:W5.cell? ⟨w.heap.size,4,none⟩=some (.int .u64 0):=(blk_cell HT2 4).trans rfl
 have t5:W5.cell? ⟨w.heap.size,5,none⟩=some (.bool false):=(blk_cell HT2 5).trans rfl
 have t6:W5.cell? ⟨w.heap.size,6,none⟩=some (.int .u64 0):=(blk_cell HT2 6).trans rfl
 have t7:W5.cell? ⟨w.heap.size,7,none⟩=some (.bool false):=(blk_cell HT2 7).trans rfl
 have t8:W5.cell? ⟨w.heap.size,8,none⟩=some (.int .u64 0):=(blk_cell HT2 8).trans rfl
 have t9:W5.cell? ⟨w.heap.size,9,none⟩=some (.bool false):=(blk_cell HT2 9).trans rfl
 have zT:∀ j,W5.frozen? ⟨w.heap.size,j,none⟩=false:=fun j=>blk_frozen HT2 j
 replace HB2:=Aside0.mk HB2
 clear HT2 HR2 hX
 go_wp2_with fail
 refine bodyPost_ret (v:=.agg #[.int .u64 1152921504606846975,.bool true,.int .u64 16777215,.bool true,.int .u64 4294967294,.bool true,.int .u64 8190,.bool true,.int .u64 127,.bool true]) (by simp [results,Tryd.results20,go_sem, *]) rfl ⟨rfl,?_⟩
 repeat (first | (with_reducible first | exact HB2.out | (refine below_set ?_ (by omega))) | exact HB2.out)
def spec_Stars.f :Option (Int × Bool × Int × Bool × Int × Bool × Int × Bool × Int × Bool):=some (1152921504606846975,true,16777215,true,4294967294,true,8190,true,127,true)
set_option maxHeartbeats 8000000 in
set_option maxRecDepth 100000 in
theorem spec_Stars.calls  (r1:Int) (r2:Bool) (r3:Int) (r4:Bool) (r5:Int) (r6:Bool) (r7:Int) (r8:Bool) (r9:Int) (r10:Bool) (w:World) (h:spec_Stars.f =some (r1,r2,r3,r4,r5,r6,r7,r8,r9,r10)) :
  Calls Tryd.prog 20 #[] w fun e w'=>e=.returned (.agg #[.int .u64 r1,.bool r2,.int .u64 r3,.bool r4,.int .u64 r5,.bool r6,.int .u64 r7,.bool r8,.int .u64 r9,.bool r10])∧Below w.heap.size w w':=by
 have H:=Option.some.inj h
 simp only [Prod.mk.injEq] at H
 obtain ⟨rfl,rfl,rfl,rfl,rfl,rfl,rfl,rfl,rfl,rfl⟩ :=H
 exact Spc.stars w
/-! This session's own: the document's examples of rearm, walked. -/
structure Rea.WK (w:World) (g0 g1:Nat) (W:World):Prop where
 b:Below w.heap.size w W
 x:Rea.Row W g0 1 10 3 0 false 0 false 0 false 0 false 0 false
 q:Rea.Row W g1 1 10 2 0 false 0 false 0 false 0 false 0 false
theorem Rea.wk_step {w:World}{g0 g1:Nat}{W W':World}(h:Aside0 (Rea.WK w g0 g1 W))(hb:Below W.heap.size W W'):Aside0 (Rea.WK w g0 g1 W'):=⟨⟨below_step h.out.b hb,blk_below h.out.x hb,blk_below h.out.q hb⟩⟩
theorem Rea.wk0:rearm_Again.f 1 10 3 0 false 0 false 0 false 0 false 0 false 20 47=some (50,1,10,2,0,false,0,false,0,false,0,false,0,false,2,0):=by kernel_rfl
theorem Rea.wk1:rearm_First.f 2 0 0 1152921504606846975 true 16777215 true 4294967294 true 8190 true 127 true 61 9=some (120,0):=by kernel_rfl
theorem Rea.wk2:rearm_First.f 0 0 0 0 false 0 false 0 false 0 false 0 false 5 18446744073709551615=some (18446744073709551615,0):=by kernel_rfl
theorem Rea.wk3:rearm_Again.f 0 0 0 0 false 0 false 0 false 0 false 0 false 5 5=some (0,0,0,0,0,false,0,false,0,false,0,false,0,false,0,5):=by kernel_rfl
theorem Rea.wk4:rearm_Minute.f 119=some (1,true):=by kernel_rfl
theorem Rea.wk5:rearm_Check.f 100 1 0 0 0 false 0 false 0 false 0 false 0 false=some 10:=by kernel_rfl
theorem Rea.wk6:rearm_Check.f 100 1 10 3 0 false 0 false 0 false 0 false 0 false=some 0:=by kernel_rfl
def complinelaw23_works.f :Option (Bool):=some true
set_option maxHeartbeats 8000000 in
set_option maxRecDepth 100000 in
theorem complinelaw23_works.calls  (r:Bool) (w:World) (hT:Tab w) (h:complinelaw23_works.f =some r) :
  Calls Tryd.prog 9 #[] w fun e w'=>e=.returned (.bool r)∧Below w.heap.size w w':=by
 have HB:=Aside0.mk (Below.refl w.heap.size w)
 obtain rfl:r=true:=(Option.some.inj h).symm
 clear h HB
 have hu28:=Tryd.underlying28
 go_enter Tryd.func9,Tryd.ntmps9
 go_wp2_with fail
 have A1:=Aside0.mk (show Below w.heap.size w (w.alloc (.cells #[.int .i64 1,.int .u64 10,.int .i64 3,.int .u64 0,.bool false,.int .u64 0,.bool false,.int .u64 0,.bool false,.int .u64 0,.bool false,.int .u64 0,.bool false] 28))∧Rea.Row (w.alloc (.cells #[.int .i64 1,.int .u64 10,.int .i64 3,.int .u64 0,.bool false,.int .u64 0,.bool false,.int .u64 0,.bool false,.int .u64 0,.bool false,.int .u64 0,.bool false] 28)) w.heap.size 1 10 3 0 false 0 false 0 false 0 false 0 false from ⟨below_alloc (Below.refl _ _) _,blk_new _ _⟩)
 obtain ⟨g0,hg⟩:∃ g,w.heap.size=g:=⟨_,rfl⟩
 have hg0:=Lib.hid hg
 rw [hg] at A1 ⊢
 generalize w.alloc (.cells #[.int .i64 1,.int .u64 10,.int .i64 3,.int .u64 0,.bool false,.int .u64 0,.bool false,.int .u64 0,.bool false,.int .u64 0,.bool false,.int .u64 0,.bool false] 28)=W1 at A1 ⊢
 clear hg
 refine (rearm_Again.calls 1 10 3 0 false 0 false 0 false 0 false 0 false 20 47 50 1 10 2 0 false 0 false 0 false 0 false 0 false 2 0 _ (hT.keep (by have:=A1.out.1; rwa [← hg0.out] at this)) Rea.wk0).mono ?_
 rintro e V1 ⟨rfl,hb⟩
 have B1:=Aside0.mk (show Below w.heap.size w V1∧Rea.Row V1 g0 1 10 3 0 false 0 false 0 false 0 false 0 false from ⟨by have:=A1.out.1; rw [← hg0.out] at this; exact below_step this hb,blk_below A1.out.2 hb⟩)
 clear hb A1
 go_wp2_with fail
 have A2:=Aside0.mk (show Below w.heap.size w (V1.alloc (.cells #[.int .i64 1,.int .u64 10,.int .i64 2,.int .u64 0,.bool false,.int .u64 0,.bool false,.int .u64 0,.bool false,.int .u64 0,.bool false,.int .u64 0,.bool false] 28))∧Rea.Row (V1.alloc (.cells #[.int .i64 1,.int .u64 10,.int .i64 2,.int .u64 0,.bool false,.int .u64 0,.bool false,.int .u64 0,.bool false,.int .u64 0,.bool false,.int .u64 0,.bool false] 28)) g0 1 10 3 0 false 0 false 0 false 0 false 0 false∧Rea.Row (V1.alloc (.cells #[.int .i64 1,.int .u64 10,.int .i64 2,.int .u64 0,.bool false,.int .u64 0,.bool false,.int .u64 0,.bool false,.int .u64 0,.bool false,.int .u64 0,.bool false] 28)) V1.heap.size 1 10 2 0 false 0 false 0 false 0 false 0 false from ⟨below_alloc B1.out.1 _,blk_alloc B1.out.2 _,blk_new _ _⟩)
 obtain ⟨g1,hg⟩:∃ g,V1.heap.size=g:=⟨_,rfl⟩
 rw [hg] at A2 ⊢
 generalize V1.alloc (.cells #[.int .i64 1,.int .u64 10,.int .i64 2,.int .u64 0,.bool false,.int .u64 0,.bool false,.int .u64 0,.bool false,.int .u64 0,.bool false,.int .u64 0,.bool false] 28)=W2 at A2 ⊢
 clear hg B1
 have H0:Aside0 (Rea.WK w g0 g1 W2):=⟨⟨A2.out.1,A2.out.2.1,A2.out.2.2⟩⟩
 clear A2 hg0
 refine (spec_Stars.calls 1152921504606846975 true 16777215 true 4294967294 true 8190 true 127 true _ rfl).mono ?_
 rintro e V2 ⟨rfl,hb⟩
 have H1:=Rea.wk_step H0 hb
 clear H0 hb
 go_wp2_with fail
 have H2:=Rea.wk_step H1 (below_alloc (Below.refl _ _) (.cells #[.int .i64 2,.int .u64 0,.int .i64 0,.int .u64 1152921504606846975,.bool true,.int .u64 16777215,.bool true,.int .u64 4294967294,.bool true,.int .u64 8190,.bool true,.int .u64 127,.bool true] 28))
 generalize V2.alloc (.cells #[.int .i64 2,.int .u64 0,.int .i64 0,.int .u64 1152921504606846975,.bool true,.int .u64 16777215,.bool true,.int .u64 4294967294,.bool true,.int .u64 8190,.bool true,.int .u64 127,.bool true] 28)=W3 at H2 ⊢
 clear H1
 refine (rearm_First.calls 2 0 0 1152921504606846975 true 16777215 true 4294967294 true 8190 true 127 true 61 9 120 0 _ (hT.keep H2.out.b) Rea.wk1).mono ?_
 rintro e V3 ⟨rfl,hb⟩
 have H3:=Rea.wk_step H2 hb
 clear H2 hb
 go_wp2_with fail
 refine (rearm_First.calls 0 0 0 0 false 0 false 0 false 0 false 0 false 5 18446744073709551615 18446744073709551615 0 _ (hT.keep H3.out.b) Rea.wk2).mono ?_
 rintro e V4 ⟨rfl,hb⟩
 have H4:=Rea.wk_step H3 hb
 clear H3 hb
 go_wp2_with fail
 refine (rearm_Again.calls 0 0 0 0 false 0 false 0 false 0 false 0 false 5 5 0 0 0 0 0 false 0 false 0 false 0 false 0 false 0 5 _ (hT.keep H4.out.b) Rea.wk3).mono ?_
 rintro e V5 ⟨rfl,hb⟩
 have H5:=Rea.wk_step H4 hb
 clear H4 hb
 go_wp2_with fail
 have H6:=Rea.wk_step H5 (below_alloc (Below.refl _ _) (.cells #[.int .i64 0,.int .u64 0,.int .i64 0,.int .u64 0,.bool false,.int .u64 0,.bool false,.int .u64 0,.bool false,.int .u64 0,.bool false,.int .u64 0,.bool false] 28))
 generalize V5.alloc (.cells #[.int .i64 0,.int .u64 0,.int .i64 0,.int .u64 0,.bool false,.int .u64 0,.bool false,.int .u64 0,.bool false,.int .u64 0,.bool false,.int .u64 0,.bool false] 28)=W6 at H6 ⊢
 clear H5
 refine (rearm_Minute.calls 119 1 true _ Rea.wk4).mono ?_
 rintro e V7 ⟨rfl,hb⟩
 have H7:=Rea.wk_step H6 hb.below
 clear H6 hb
 obtain ⟨k0,k1,k2,k3,k4,k5,k6,k7,k8,k9,k10,k11,k12⟩ :=H7.out.x.cells
 obtain ⟨l0,l1,l2,l3,l4,l5,l6,l7,l8,l9,l10,l11,l12⟩ :=H7.out.q.cells
 go_wp2_with fail
 clear k0 k1 k2 k3 k4 k5 k6 k7 k8 k9 k10 k11 k12 l0 l1 l2 l3 l4 l5 l6 l7 l8 l9 l10 l11 l12
 refine (rearm_Check.calls 100 1 0 0 0 false 0 false 0 false 0 false 0 false 10 _ Rea.wk5).mono ?_
 rintro e V8 ⟨rfl,hb⟩
 have H8:=Rea.wk_step H7 hb
 clear H7 hb
 obtain ⟨k0,k1,k2,k3,k4,k5,k6,k7,k8,k9,k10,k11,k12⟩ :=H8.out.x.cells
 go_wp2_with fail
 clear k0 k1 k2 k3 k4 k5 k6 k7 k8 k9 k10 k11 k12
 refine (rearm_Check.calls 100 1 10 3 0 false 0 false 0 false 0 false 0 false 0 _ Rea.wk6).mono ?_
 rintro e V9 ⟨rfl,hb⟩
 have H9:=Rea.wk_step H8 hb
 clear H8 hb
 go_wp2_with fail
 go_ret
 exact ⟨rfl,H9.out.b⟩
def complineref23_Minute.f (a0:Int):Option (Int × Bool):=if (IntKind.u64.wrap (Int.tdiv a0 60)) > 541727999 then (some (0,false)) else (some (wrap64 (IntKind.u64.wrap (Int.tdiv a0 60)),true))
set_option maxHeartbeats 8000000 in
set_option maxRecDepth 100000 in
theorem complineref23_Minute.calls (a0:Int)(r1:Int)(r2:Bool)(w:World)(h:complineref23_Minute.f a0=some (r1,r2)) :
  Calls Tryd.prog 13 #[.int .u64 a0] w fun e w'=>e=.returned (.tuple #[.int .i64 r1,.bool r2])∧Drawn0 w w':=by
 have H:(if (IntKind.u64.wrap (Int.tdiv a0 60)) > 541727999 then (some (0,false)) else (some (wrap64 (IntKind.u64.wrap (Int.tdiv a0 60)),true)))=some (r1,r2):=h
 clear h
 by_cases c2:(IntKind.u64.wrap (Int.tdiv a0 60)) > 541727999
 ·rw [if_pos c2] at H
  have c2b0:decide (541727999 < (IntKind.u64.wrap (Int.tdiv a0 60)))=true:=decide_eq_true c2
  clear c2
  simp only [Option.some.injEq,Prod.mk.injEq] at H
  obtain ⟨rfl,rfl⟩ :=H
  go_enter Tryd.func13,Tryd.ntmps13
  go_wp2
  go_ret2
  exact ⟨by first | rfl | (simp; done) | (simp [*]; done),by repeat (first | exact Drawn0.refl _ | apply Drawn0.step)⟩
 ·rw [if_neg c2] at H
  have c2b0:decide (541727999 < (IntKind.u64.wrap (Int.tdiv a0 60)))=false:=decide_eq_false c2
  clear c2
  simp only [Option.some.injEq,Prod.mk.injEq] at H
  obtain ⟨rfl,rfl⟩ :=H
  go_enter Tryd.func13,Tryd.ntmps13
  go_wp2
  go_ret2
  exact ⟨by first | rfl | (simp; done) | (simp [*]; done),by repeat (first | exact Drawn0.refl _ | apply Drawn0.step)⟩
def complineref19_Fields.f (a0_0:Int)(a0_1:Bool)(a0_2:Int)(a0_3:Bool)(a0_4:Int)(a0_5:Bool)(a0_6:Int)(a0_7:Bool)(a0_8:Int)(a0_9:Bool):Option ((List (S24))):=some (([(⟨a0_0,a0_1⟩:S24),(⟨a0_2,a0_3⟩:S24),(⟨a0_4,a0_5⟩:S24),(⟨a0_6,a0_7⟩:S24),(⟨a0_8,a0_9⟩:S24)]:List (S24)))
set_option maxHeartbeats 8000000 in
set_option maxRecDepth 100000 in
theorem complineref19_Fields.calls (a0_0:Int)(a0_1:Bool)(a0_2:Int)(a0_3:Bool)(a0_4:Int)(a0_5:Bool)(a0_6:Int)(a0_7:Bool)(a0_8:Int)(a0_9:Bool)(r:List (S24))(w:World)(h:complineref19_Fields.f a0_0 a0_1 a0_2 a0_3 a0_4 a0_5 a0_6 a0_7 a0_8 a0_9=some r) :
  Calls Tryd.prog 54 #[.agg #[.int .u64 a0_0,.bool a0_1,.int .u64 a0_2,.bool a0_3,.int .u64 a0_4,.bool a0_5,.int .u64 a0_6,.bool a0_7,.int .u64 a0_8,.bool a0_9]] w fun e w'=>∃ v0_:Value,e=.returned (v0_)∧Kd.R k24 24 w' w.heap.size (fun _=>True) v0_ r∧Below w.heap.size w w':=by
 have hu26:=Tryd.underlying26
 have hu24:=Tryd.underlying24
 have HB:=Aside0.mk (Below.refl w.heap.size w)
 have H:(some (([(⟨a0_0,a0_1⟩:S24),(⟨a0_2,a0_3⟩:S24),(⟨a0_4,a0_5⟩:S24),(⟨a0_6,a0_7⟩:S24),(⟨a0_8,a0_9⟩:S24)]:List (S24))))=some r:=h
 clear h
 obtain ⟨y165,hy165⟩:∃ y_:List (S24),y_=(([(⟨a0_0,a0_1⟩:S24),(⟨a0_2,a0_3⟩:S24),(⟨a0_4,a0_5⟩:S24),(⟨a0_6,a0_7⟩:S24),(⟨a0_8,a0_9⟩:S24)]:List (S24))):=⟨_,rfl⟩
 replace H:(some y165)=some r:=by first | (rw [hy165]; with_reducible exact H) | (have H2_:=(Option.bind_some _ _).symm.trans H; rw [hy165]; with_reducible exact H2_) | (have H2_:=(Option.bind_some _ _).symm.trans H; with_reducible exact H2_) | with_reducible exact H | (rw [hy165]; exact H) | exact H
 have Ny165:=Aside0.mk hy165
 clear hy165
 obtain rfl:=Option.some.inj H
 go_enter Tryd.func54,Tryd.ntmps54
 go_wp2_with (first | ((with_reducible refine gate_dst (N:=1) rfl ?_); refine box_event ?hg (N:=1) ?hd (cs:=#[.int .u64 a0_0,.bool a0_1,.int .u64 a0_2,.bool a0_3,.int .u64 a0_4,.bool a0_5,.int .u64 a0_6,.bool a0_7,.int .u64 a0_8,.bool a0_9]) (t:=26) ?hr ?_; (case hd=>rfl); (case hg=>rfl); (case hr=>first | (go_simp; done) | (go_simp; rfl)); intro gb164 hg w2 hbox hb; have n0_:=Aside0.mk (below_step (by repeat (first | (with_reducible first | exact HB.out | apply below_alloc | apply pw_below_drewN | apply below_drew1) | exact HB.out)) hb); have n1_:=Aside0.mk (hbox); have n2_:=Aside0.mk ((by rw [hg]; exact (below_size (by repeat (first | (with_reducible first | exact HB.out | apply below_alloc | apply pw_below_drewN | apply below_drew1) | exact HB.out))):w.heap.size≤gb164)); have n3_:=Aside0.mk ((by rw [hg]; exact (below_size (by repeat (first | (with_reducible first | exact HB.out | apply below_alloc | apply pw_below_drewN | apply below_drew1) | exact HB.out))):w.heap.size≤gb164)); clear HB; have HB:=n0_; have BK164:=n1_; have GW164:=n2_; have GE164:=n3_; clear n0_ n1_ n2_ n3_; clear hb hbox hg; have hcz3_0:w2.cell? ⟨gb164,0,none⟩=some (.int .u64 a0_0):=(blk_cell BK164.out 0).trans rfl; have hcz3_1:w2.cell? ⟨gb164,1,none⟩=some (.bool a0_1):=(blk_cell BK164.out 1).trans rfl; have hcz3_2:w2.cell? ⟨gb164,2,none⟩=some (.int .u64 a0_2):=(blk_cell BK164.out 2).trans rfl; have hcz3_3:w2.cell? ⟨gb164,3,none⟩=some (.bool a0_3):=(blk_cell BK164.out 3).trans rfl; have hcz3_4:w2.cell? ⟨gb164,4,none⟩=some (.int .u64 a0_4):=(blk_cell BK164.out 4).trans rfl; have hcz3_5:w2.cell? ⟨gb164,5,none⟩=some (.bool a0_5):=(blk_cell BK164.out 5).trans rfl; have hcz3_6:w2.cell? ⟨gb164,6,none⟩=some (.int .u64 a0_6):=(blk_cell BK164.out 6).trans rfl; have hcz3_7:w2.cell? ⟨gb164,7,none⟩=some (.bool a0_7):=(blk_cell BK164.out 7).trans rfl; have hcz3_8:w2.cell? ⟨gb164,8,none⟩=some (.int .u64 a0_8):=(blk_cell BK164.out 8).trans rfl; have hcz3_9:w2.cell? ⟨gb164,9,none⟩=some (.bool a0_9):=(blk_cell BK164.out 9).trans rfl; have hfz3_0:=blk_frozen BK164.out 0; have hfz3_1:=blk_frozen BK164.out 1; have hfz3_2:=blk_frozen BK164.out 2; have hfz3_3:=blk_frozen BK164.out 3; have hfz3_4:=blk_frozen BK164.out 4; have hfz3_5:=blk_frozen BK164.out 5; have hfz3_6:=blk_frozen BK164.out 6; have hfz3_7:=blk_frozen BK164.out 7; have hfz3_8:=blk_frozen BK164.out 8; have hfz3_9:=blk_frozen BK164.out 9) | ((with_reducible refine gate_dst (N:=13) rfl ?_); refine Kd.R_lit k24 _ 24 ?hg (N:=13) ?hd (xs:=([(⟨a0_0,a0_1⟩:S24),(⟨a0_2,a0_3⟩:S24),(⟨a0_4,a0_5⟩:S24),(⟨a0_6,a0_7⟩:S24),(⟨a0_8,a0_9⟩:S24)]:List (S24))) (inner:=[.int .u64 a0_0,.bool a0_1,.int .u64 a0_2,.bool a0_3,.int .u64 a0_4,.bool a0_5,.int .u64 a0_6,.bool a0_7,.int .u64 a0_8,.bool a0_9]) (ok:=fun _=>True) (okp:=fun _=>True) ?hr ?hp (fun _ hk=>hk) trivial (Below.refl _ _) (Nat.le_refl _) (by simp) ?_; (case hd=>rfl); (case hg=>rfl); (case hr=>first | (go_simp; done) | (go_simp; rfl)); (case hp=>exact (Reps.c2 (show Kd.M k24 _ _ _ (⟨a0_0,a0_1⟩:S24) [.int .u64 a0_0,.bool a0_1] from (k24_mkM _ _ _ (⟨a0_0,a0_1⟩:S24) )) (Reps.c2 (show Kd.M k24 _ _ _ (⟨a0_2,a0_3⟩:S24) [.int .u64 a0_2,.bool a0_3] from (k24_mkM _ _ _ (⟨a0_2,a0_3⟩:S24) )) (Reps.c2 (show Kd.M k24 _ _ _ (⟨a0_4,a0_5⟩:S24) [.int .u64 a0_4,.bool a0_5] from (k24_mkM _ _ _ (⟨a0_4,a0_5⟩:S24) )) (Reps.c2 (show Kd.M k24 _ _ _ (⟨a0_6,a0_7⟩:S24) [.int .u64 a0_6,.bool a0_7] from (k24_mkM _ _ _ (⟨a0_6,a0_7⟩:S24) )) (Reps.c2 (show Kd.M k24 _ _ _ (⟨a0_8,a0_9⟩:S24) [.int .u64 a0_8,.bool a0_9] from (k24_mkM _ _ _ (⟨a0_8,a0_9⟩:S24) )) (Reps.none _ _))))))); intro v166 w4 ho5 hb hg_ hnew_; clear hg_ hnew_; (first | rw [← Ny165.out] at ho5 | (simp only [Int.reduceToNat] at ho5; rw [← Ny165.out] at ho5)); have n0_:=Aside0.mk (Kd.R_lower ho5 (below_size (by repeat (first | (with_reducible first | exact HB.out | apply below_alloc | apply pw_below_drewN | apply below_drew1 | refine below_set ?_ GE164.out) | exact HB.out)))); have n1_:=Aside0.mk (blk_below (g:=gb164) (o:=.cells #[.int .u64 a0_0,.bool a0_1,.int .u64 a0_2,.bool a0_3,.int .u64 a0_4,.bool a0_5,.int .u64 a0_6,.bool a0_7,.int .u64 a0_8,.bool a0_9] 26 (0,0)) (by (with_reducible repeat (first | refine blk_drewN ?_ _ | refine blk_drew ?_ | refine blk_alloc ?_ _)); exact BK164.out) hb); have n2_:=Aside0.mk (below_step (by repeat (first | (with_reducible first | exact HB.out | apply below_alloc | apply pw_below_drewN | apply below_drew1 | refine below_set ?_ GE164.out) | exact HB.out)) hb); clear BK164; clear HB; have HO167:=n0_; have BK164:=n1_; have HB:=n2_; clear n0_ n1_ n2_; clear hb ho5))
 go_ret
 exact ⟨_,by first | rfl | (simp [errW_none,errW_some] <;> rfl) | (simp [*,errW_none,errW_some] <;> rfl),by (with_reducible repeat (first | apply Kd.R_alloc | apply Kd.R_drewN | apply Kd.R_drew)); exact HO167.out,by repeat (first | (with_reducible first | exact HB.out | apply below_alloc | apply pw_below_drewN | apply below_drew1 | refine below_set ?_ GE164.out) | exact HB.out)⟩
mutual
def complineref18_Has.j0:Nat→Int→Bool→Int→Bool→Option (Bool)
 | 0,_,_,_,_=>none
 | k+1,x1,x12,x169000,x169001=>if x12=true then (some false) else (complineref18_Has.l0 k x1 x169000 0)
def complineref18_Has.l0:Nat→Int→Int→Int→Option (Bool)
 | 0,_,_,_=>none
 | k+1,x1,x5,x6=>if x6 < x1 then (complineref18_Has.l0 k x1 (IntKind.u64.wrap (Int.tdiv x5 2)) (wrap64 (x6+1))) else (some ((Int.tmod x5 2) == 1))
end
def complineref18_Has.f (k:Nat)(a0_0:Int)(a0_1:Bool)(a1:Int):Option (Bool):=if a1 < 0 then (complineref18_Has.j0 k a1 true a0_0 a0_1) else (complineref18_Has.j0 k a1 (decide (a1 > 63)) a0_0 a0_1)
theorem complineref18_Has.mono_l:∀ k,(∀ y0 y1 y2 y3,LeO (complineref18_Has.j0 k y0 y1 y2 y3) (complineref18_Has.j0 (k+1) y0 y1 y2 y3))∧(∀ y0 y1 y2,LeO (complineref18_Has.l0 k y0 y1 y2) (complineref18_Has.l0 (k+1) y0 y1 y2))
 | 0=>⟨fun _ _ _ _ r h=>by simp [complineref18_Has.j0] at h,fun _ _ _ r h=>by simp [complineref18_Has.l0] at h⟩
 | k+1=>by
  obtain ⟨ih0,ih1⟩ :=complineref18_Has.mono_l k
  refine ⟨?_,?_⟩
  ·intro y0 y1 y2 y3
   unfold complineref18_Has.j0
   repeat' first
   | (with_reducible exact ih0 _ _ _ _)
   | (with_reducible exact ih1 _ _ _)
   | (with_reducible exact LeO.refl _)
   | (with_reducible exact LeO.none _)
   | (with_reducible refine LeO.ite ?_ ?_)
   | (with_reducible refine LeO.bind ?_ (fun _=>?_))
   | exact ih0 _ _ _ _
   | exact ih1 _ _ _
   | exact LeO.none _
   | refine LeO.ite ?_ ?_
   | refine LeO.bind ?_ (fun _=>?_)
  ·intro y0 y1 y2
   unfold complineref18_Has.l0
   repeat' first
   | (with_reducible exact ih0 _ _ _ _)
   | (with_reducible exact ih1 _ _ _)
   | (with_reducible exact LeO.refl _)
   | (with_reducible exact LeO.none _)
   | (with_reducible refine LeO.ite ?_ ?_)
   | (with_reducible refine LeO.bind ?_ (fun _=>?_))
   | exact ih0 _ _ _ _
   | exact ih1 _ _ _
   | exact LeO.none _
   | refine LeO.ite ?_ ?_
   | refine LeO.bind ?_ (fun _=>?_)
theorem complineref18_Has.mono:∀ a0 a1 a2 k,LeO (complineref18_Has.f k a0 a1 a2) (complineref18_Has.f (k+1) a0 a1 a2):=by
 intro a0 a1 a2 k
 obtain ⟨ih0,ih1⟩ :=complineref18_Has.mono_l k
 unfold complineref18_Has.f
 repeat' first
   | (with_reducible exact ih0 _ _ _ _)
   | (with_reducible exact ih1 _ _ _)
   | (with_reducible exact LeO.refl _)
   | (with_reducible exact LeO.none _)
   | (with_reducible refine LeO.ite ?_ ?_)
   | (with_reducible refine LeO.bind ?_ (fun _=>?_))
   | exact ih0 _ _ _ _
   | exact ih1 _ _ _
   | exact LeO.none _
   | refine LeO.ite ?_ ?_
   | refine LeO.bind ?_ (fun _=>?_)
set_option maxHeartbeats 8000000 in
set_option maxRecDepth 100000 in
theorem complineref18_Has.calls (k:Nat)(a0_0:Int)(a0_1:Bool)(a1:Int)(r:Bool)(w:World)(h:complineref18_Has.f k a0_0 a0_1 a1=some r) :
  Calls Tryd.prog 83 #[.agg #[.int .u64 a0_0,.bool a0_1],.int .i64 a1] w fun e w'=>e=.returned (.bool r)∧Below w.heap.size w w':=by
 have hu24:=Tryd.underlying24
 have HB:=Aside0.mk (Below.refl w.heap.size w)
 have H:(if a1 < 0 then (complineref18_Has.j0 k a1 true a0_0 a0_1) else (complineref18_Has.j0 k a1 (decide (a1 > 63)) a0_0 a0_1))=some r:=h
 clear h
 have HC3:=Aside0.mk H
 clear H
 go_enter Tryd.func83,Tryd.ntmps83
 go_upto_region 1 with (first | ((with_reducible refine gate_dst (N:=2) rfl ?_); refine box_event ?hg (N:=2) ?hd (cs:=#[.int .u64 a0_0,.bool a0_1]) (t:=24) ?hr ?_; (case hd=>rfl); (case hg=>rfl); (case hr=>first | (go_simp; done) | (go_simp; rfl)); intro gb168 hg w4 hbox hb; have n0_:=Aside0.mk (below_step (by repeat (first | (with_reducible first | exact HB.out | apply below_alloc | apply pw_below_drewN | apply below_drew1) | exact HB.out)) hb); have n1_:=Aside0.mk (hbox); have n2_:=Aside0.mk ((by rw [hg]; exact (below_size (by repeat (first | (with_reducible first | exact HB.out | apply below_alloc | apply pw_below_drewN | apply below_drew1) | exact HB.out))):w.heap.size≤gb168)); have n3_:=Aside0.mk ((by rw [hg]; exact (below_size (by repeat (first | (with_reducible first | exact HB.out | apply below_alloc | apply pw_below_drewN | apply below_drew1) | exact HB.out))):w.heap.size≤gb168)); clear HB; have HB:=n0_; have BK168:=n1_; have GW168:=n2_; have GE168:=n3_; clear n0_ n1_ n2_ n3_; clear hb hbox hg))
 (try simp only [Act.put,List.setIfInBounds_toArray,List.set_cons_zero,List.set_cons_succ])
 go_cut [12] (fun v12 wc=>∃ (kq:Nat) (x12_2:Bool),v12=.bool x12_2∧Aside0 (complineref18_Has.j0 kq a1 x12_2 a0_0 a0_1=some r)∧Aside0 (kq≤k)∧Aside0 (wc.heap[gb168]?=some (.cells #[.int .u64 a0_0,.bool a0_1] 24 (0,0)))∧Aside0 (Below w.heap.size w wc))
 case first=>
  have H:=HC3.out
  clear HC3
  by_cases c5:a1 < 0
  ·rw [if_pos c5] at H
   have c5b0:decide (a1 < 0)=true:=decide_eq_true c5
   clear c5
   (first | rw [c5b0] | (simp only [i64_w,i32_w]; rw [c5b0]) | skip)
   have H':=Aside0.mk H
   clear H
   go_wp2
   go_meet
   case rel=>exact ⟨_,(true),(by first | rfl | (simp; done) | (simp [*]; done)),H',⟨by first | omega | exact Nat.le_refl _⟩,⟨by (with_reducible repeat (first | refine blk_drewN ?_ _ | refine blk_drew ?_ | refine blk_alloc ?_ _)); exact BK168.out⟩,⟨by repeat (first | (with_reducible first | exact HB.out | apply below_alloc | apply pw_below_drewN | apply below_drew1 | refine below_set ?_ GE168.out) | exact HB.out)⟩⟩
  ·rw [if_neg c5] at H
   have c5b0:decide (a1 < 0)=false:=decide_eq_false c5
   clear c5
   (first | rw [c5b0] | (simp only [i64_w,i32_w]; rw [c5b0]) | skip)
   have H':=Aside0.mk H
   clear H
   go_wp2
   go_meet
   case rel=>exact ⟨_,(decide (a1 > 63)),(by first | rfl | (simp; done) | (simp [*]; done)),H',⟨by first | omega | exact Nat.le_refl _⟩,⟨by (with_reducible repeat (first | refine blk_drewN ?_ _ | refine blk_drew ?_ | refine blk_alloc ?_ _)); exact BK168.out⟩,⟨by repeat (first | (with_reducible first | exact HB.out | apply below_alloc | apply pw_below_drewN | apply below_drew1 | refine below_set ?_ GE168.out) | exact HB.out)⟩⟩
 case rest=>
  clear HC3
  try clear p2
  try clear c5
  try clear c5b0
  obtain ⟨kq,x12_2,rfl,HA,HJ2,BK168,HB⟩ :=hcut
  cases kq with
  | zero=>exact absurd HA.out (by simp [complineref18_Has.j0])
  | succ kj2=>
   have H:=HA.out
   clear HA
   simp only [complineref18_Has.j0] at H
   by_cases c6:x12_2=true
   ·subst c6
    have H1:(some false)=some r:=by rw [if_pos rfl] at H; exact H
    clear H
    have H:=H1
    clear H1
    obtain rfl:=Option.some.inj H
    go_wp2
    go_ret
    exact ⟨by first | rfl | (simp [errW_none,errW_some] <;> rfl) | (simp [*,errW_none,errW_some] <;> rfl),by repeat (first | (with_reducible first | exact HB.out | apply below_alloc | apply pw_below_drewN | apply below_drew1 | refine below_set ?_ GE168.out) | exact HB.out)⟩
   ·replace c6:=Bool.eq_false_iff.mpr c6
    subst c6
    have H1:(complineref18_Has.l0 kj2 a1 a0_0 0)=some r:=by rw [if_neg (show ¬ (false=true) by decide)] at H; exact H
    clear H
    have H:=H1
    clear H1
    have H':=Aside0.mk H
    clear H
    have hcz7_0:wc.cell? ⟨gb168,0,none⟩=some (.int .u64 a0_0):=(blk_cell BK168.out 0).trans rfl
    have hcz7_1:wc.cell? ⟨gb168,1,none⟩=some (.bool a0_1):=(blk_cell BK168.out 1).trans rfl
    have hfz7_0:=blk_frozen BK168.out 0
    have hfz7_1:=blk_frozen BK168.out 1
    go_wp2
    go_loopg [5,6] kj2 (fun kq v5 v6 w'=>∃ (x5_2:Int) (x6_2:Int),v5=.int .u64 x5_2∧v6=.int .i64 x6_2∧Aside0 (complineref18_Has.l0 kq a1 x5_2 x6_2=some r)∧Aside0 (kq≤kj2)∧Aside0 (w'.heap[gb168]?=some (.cells #[.int .u64 a0_0,.bool a0_1] 24 (0,0)))∧Aside0 (Below w.heap.size w w'))
    case atStart=>exact ⟨(a0_0),(0),(by first | rfl | (simp; done) | (simp [*]; done)),(by first | rfl | (simp; done) | (simp [*]; done)),H',⟨Nat.le_refl _⟩,⟨by (with_reducible repeat (first | refine blk_drewN ?_ _ | refine blk_drew ?_ | refine blk_alloc ?_ _)); exact BK168.out⟩,⟨by repeat (first | (with_reducible first | exact HB.out | apply below_alloc | apply pw_below_drewN | apply below_drew1 | refine below_set ?_ GE168.out) | exact HB.out)⟩⟩
    case round=>
     clear H'
     try clear p2
     try clear c5
     try clear c5b0
     try clear c6
     try clear hcz7_0
     try clear hcz7_1
     try clear hfz7_0
     try clear hfz7_1
     try clear p2
     obtain ⟨x5_2,x6_2,rfl,rfl,HA,HK2,BK168,HB⟩ :=hrel
     cases gk with
     | zero=>exact absurd HA.out (by simp [complineref18_Has.l0])
     | succ k2=>
      have H:=HA.out
      clear HA
      simp only [complineref18_Has.l0] at H
      by_cases c8:x6_2 < a1
      ·rw [if_pos c8] at H
       have c8b0:decide (x6_2 < a1)=true:=decide_eq_true c8
       clear c8
       have H':=Aside0.mk H
       clear H
       go_wp2
       go_roundg k2
       case measure=>have:=HJ2.out; have:=HK2.out; omega
       case rel=>exact ⟨(IntKind.u64.wrap (Int.tdiv x5_2 2)),(wrap64 (x6_2+1)),(by first | rfl | (simp; done) | (simp [*]; done)),(by first | rfl | (simp; done) | (simp [*]; done)),H',⟨by have:=HJ2.out; have:=HK2.out; omega⟩,⟨by (with_reducible repeat (first | refine blk_drewN ?_ _ | refine blk_drew ?_ | refine blk_alloc ?_ _)); exact BK168.out⟩,⟨by repeat (first | (with_reducible first | exact HB.out | apply below_alloc | apply pw_below_drewN | apply below_drew1 | refine below_set ?_ GE168.out) | exact HB.out)⟩⟩
      ·rw [if_neg c8] at H
       have c8b0:decide (x6_2 < a1)=false:=decide_eq_false c8
       clear c8
       obtain rfl:=Option.some.inj H
       go_wp2
       go_ret
       exact ⟨by first | rfl | (simp [errW_none,errW_some] <;> rfl) | (simp [*,errW_none,errW_some] <;> rfl),by repeat (first | (with_reducible first | exact HB.out | apply below_alloc | apply pw_below_drewN | apply below_drew1 | refine below_set ?_ GE168.out) | exact HB.out)⟩
def complineref17_Limits.f (a0:Int):Option (Int × Int × Int):=if a0=0 then (some (0,59,0)) else (if a0=1 then (some (0,23,0)) else (if a0=2 then (some (1,31,0)) else (if a0=3 then (some (1,12,0)) else (if a0=4 then (some (0,7,0)) else (some (0,0,7))))))
set_option maxHeartbeats 8000000 in
set_option maxRecDepth 100000 in
theorem complineref17_Limits.calls (a0:Int)(r1:Int)(r2:Int)(r3:Int)(w:World)(h:complineref17_Limits.f a0=some (r1,r2,r3)) :
  Calls Tryd.prog 98 #[.int .i64 a0] w fun e w'=>e=.returned (.tuple #[.int .i64 r1,.int .i64 r2,.int .i64 r3])∧Drawn0 w w':=by
 have H:(if a0=0 then (some (0,59,0)) else (if a0=1 then (some (0,23,0)) else (if a0=2 then (some (1,31,0)) else (if a0=3 then (some (1,12,0)) else (if a0=4 then (some (0,7,0)) else (some (0,0,7)))))))=some (r1,r2,r3):=h
 clear h
 by_cases c2:a0=0
 ·rw [if_pos c2] at H
  have c2b0:(a0 == 0)=true:=beq_iff_eq.mpr c2
  have c2b1:(a0 != 0)=false:=bne_eq_false_iff_eq.mpr c2
  clear c2
  simp only [Option.some.injEq,Prod.mk.injEq] at H
  obtain ⟨rfl,rfl,rfl⟩ :=H
  go_enter Tryd.func98,Tryd.ntmps98
  go_wp2
  go_ret3
  exact ⟨by first | rfl | (simp; done) | (simp [*]; done),by repeat (first | exact Drawn0.refl _ | apply Drawn0.step)⟩
 ·rw [if_neg c2] at H
  have c2b0:(a0 == 0)=false:=beq_eq_false_iff_ne.mpr c2
  have c2b1:(a0 != 0)=true:=bne_iff_ne.mpr c2
  by_cases c3:a0=1
  ·rw [if_pos c3] at H
   have c3b0:(a0 == 1)=true:=beq_iff_eq.mpr c3
   have c3b1:(a0 != 1)=false:=bne_eq_false_iff_eq.mpr c3
   clear c3
   simp only [Option.some.injEq,Prod.mk.injEq] at H
   obtain ⟨rfl,rfl,rfl⟩ :=H
   go_enter Tryd.func98,Tryd.ntmps98
   go_wp2
   go_ret3
   exact ⟨by first | rfl | (simp; done) | (simp [*]; done),by repeat (first | exact Drawn0.refl _ | apply Drawn0.step)⟩
  ·rw [if_neg c3] at H
   have c3b0:(a0 == 1)=false:=beq_eq_false_iff_ne.mpr c3
   have c3b1:(a0 != 1)=true:=bne_iff_ne.mpr c3
   by_cases c4:a0=2
   ·rw [if_pos c4] at H
    have c4b0:(a0 == 2)=true:=beq_iff_eq.mpr c4
    have c4b1:(a0 != 2)=false:=bne_eq_false_iff_eq.mpr c4
    clear c4
    simp only [Option.some.injEq,Prod.mk.injEq] at H
    obtain ⟨rfl,rfl,rfl⟩ :=H
    go_enter Tryd.func98,Tryd.ntmps98
    go_wp2
    go_ret3
    exact ⟨by first | rfl | (simp; done) | (simp [*]; done),by repeat (first | exact Drawn0.refl _ | apply Drawn0.step)⟩
   ·rw [if_neg c4] at H
    have c4b0:(a0 == 2)=false:=beq_eq_false_iff_ne.mpr c4
    have c4b1:(a0 != 2)=true:=bne_iff_ne.mpr c4
    by_cases c5:a0=3
    ·rw [if_pos c5] at H
     have c5b0:(a0 == 3)=true:=beq_iff_eq.mpr c5
     have c5b1:(a0 != 3)=false:=bne_eq_false_iff_eq.mpr c5
     clear c5
     simp only [Option.some.injEq,Prod.mk.injEq] at H
     obtain ⟨rfl,rfl,rfl⟩ :=H
     go_enter Tryd.func98,Tryd.ntmps98
     go_wp2
     go_ret3
     exact ⟨by first | rfl | (simp; done) | (simp [*]; done),by repeat (first | exact Drawn0.refl _ | apply Drawn0.step)⟩
    ·rw [if_neg c5] at H
     have c5b0:(a0 == 3)=false:=beq_eq_false_iff_ne.mpr c5
     have c5b1:(a0 != 3)=true:=bne_iff_ne.mpr c5
     by_cases c6:a0=4
     ·rw [if_pos c6] at H
      have c6b0:(a0 == 4)=true:=beq_iff_eq.mpr c6
      have c6b1:(a0 != 4)=false:=bne_eq_false_iff_eq.mpr c6
      clear c6
      simp only [Option.some.injEq,Prod.mk.injEq] at H
      obtain ⟨rfl,rfl,rfl⟩ :=H
      go_enter Tryd.func98,Tryd.ntmps98
      go_wp2
      go_ret3
      exact ⟨by first | rfl | (simp; done) | (simp [*]; done),by repeat (first | exact Drawn0.refl _ | apply Drawn0.step)⟩
     ·rw [if_neg c6] at H
      have c6b0:(a0 == 4)=false:=beq_eq_false_iff_ne.mpr c6
      have c6b1:(a0 != 4)=true:=bne_iff_ne.mpr c6
      simp only [Option.some.injEq,Prod.mk.injEq] at H
      obtain ⟨rfl,rfl,rfl⟩ :=H
      go_enter Tryd.func98,Tryd.ntmps98
      go_wp2
      go_ret3
      exact ⟨by first | rfl | (simp; done) | (simp [*]; done),by repeat (first | exact Drawn0.refl _ | apply Drawn0.step)⟩
def complineref18_limits.f (a0:Int):Option (Int × Int × Int):=(complineref17_Limits.f a0).bind fun bt169=>(if a0=4 then (some (bt169.1,6,bt169.2.2)) else (some (bt169.1,bt169.2.1,bt169.2.2)))
set_option maxHeartbeats 8000000 in
set_option maxRecDepth 100000 in
theorem complineref18_limits.calls (a0:Int)(r1:Int)(r2:Int)(r3:Int)(w:World)(h:complineref18_limits.f a0=some (r1,r2,r3)) :
  Calls Tryd.prog 85 #[.int .i64 a0] w fun e w'=>e=.returned (.tuple #[.int .i64 r1,.int .i64 r2,.int .i64 r3])∧Drawn0 w w':=by
 have H:((complineref17_Limits.f a0).bind fun bt169=>(if a0=4 then (some (bt169.1,6,bt169.2.2)) else (some (bt169.1,bt169.2.1,bt169.2.2))))=some (r1,r2,r3):=h
 clear h
 replace H:=Option.bind_eq_some_iff.mp H
 obtain ⟨⟨t169,t170,t171⟩,A20,H⟩ :=H
 replace H:(if a0=4 then (some (t169,6,t171)) else (some (t169,t170,t171)))=some (r1,r2,r3):=H
 have A2:=Aside0.mk A20
 clear A20
 by_cases c3:a0=4
 ·rw [if_pos c3] at H
  have c3b0:(a0 == 4)=true:=beq_iff_eq.mpr c3
  have c3b1:(a0 != 4)=false:=bne_eq_false_iff_eq.mpr c3
  clear c3
  simp only [Option.some.injEq,Prod.mk.injEq] at H
  obtain ⟨rfl,rfl,rfl⟩ :=H
  go_enter Tryd.func85,Tryd.ntmps85
  go_wp2_with (first | ((with_reducible refine gate_callee (f:=98) rfl ?_); refine goesL_ (some 10) rfl rfl Tryd.func98 (by kernel_rfl) rfl #[.int .i64 a0] rfl (by (try simp only [List.map_toArray,List.map_cons,List.map_nil]); first | done | rfl | (simp only [List.length_drop,List.length_take]; rfl)) ?_; (with_reducible refine (complineref17_Limits.calls a0 t169 t170 t171 _ A2.out).mono ?_); rintro e w' ⟨rfl,⟨nd,rfl⟩⟩; refine ⟨_,rfl,?_⟩))
  go_ret3
  exact ⟨by first | rfl | (simp; done) | (simp [*]; done),by repeat (first | exact Drawn0.refl _ | apply Drawn0.step)⟩
 ·rw [if_neg c3] at H
  have c3b0:(a0 == 4)=false:=beq_eq_false_iff_ne.mpr c3
  have c3b1:(a0 != 4)=true:=bne_iff_ne.mpr c3
  simp only [Option.some.injEq,Prod.mk.injEq] at H
  obtain ⟨rfl,rfl,rfl⟩ :=H
  go_enter Tryd.func85,Tryd.ntmps85
  go_wp2_with (first | ((with_reducible refine gate_callee (f:=98) rfl ?_); refine goesL_ (some 10) rfl rfl Tryd.func98 (by kernel_rfl) rfl #[.int .i64 a0] rfl (by (try simp only [List.map_toArray,List.map_cons,List.map_nil]); first | done | rfl | (simp only [List.length_drop,List.length_take]; rfl)) ?_; (with_reducible refine (complineref17_Limits.calls a0 t169 t170 t171 _ A2.out).mono ?_); rintro e w' ⟨rfl,⟨nd,rfl⟩⟩; refine ⟨_,rfl,?_⟩))
  go_ret3
  exact ⟨by first | rfl | (simp; done) | (simp [*]; done),by repeat (first | exact Drawn0.refl _ | apply Drawn0.step)⟩
end Go.Proofs.YtepflnfnkfkldaaDoor.PRea
