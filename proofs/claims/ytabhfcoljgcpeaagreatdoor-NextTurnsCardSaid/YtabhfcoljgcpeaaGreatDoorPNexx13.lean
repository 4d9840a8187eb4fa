-- Written by a program of this session (gprint.py) over the kit's print.
import Derived.Test.YtabhfcoljgcpeaaGreatDoorNexLib
import Derived.Test.YtabhfcoljgcpeaaGreatDoorPNexx0
import Derived.Test.YtabhfcoljgcpeaaGreatDoorPNexx1
import Derived.Test.YtabhfcoljgcpeaaGreatDoorPNexx5
import Derived.Test.YtabhfcoljgcpeaaGreatDoorPNexx6
import Derived.Test.YtabhfcoljgcpeaaGreatDoorPNexx8
import Derived.Test.YtabhfcoljgcpeaaGreatDoorPNexx12
namespace Go.Proofs.YtabhfcoljgcpeaaGreatDoor.PNex
open Go.RowKit Go.Proofs.YtabhfcoljgcpeaaGreatDoorW.PrintWords Go.Proofs.YtabhfcoljgcpeaaGreatDoorW.PrintLast Go.Proofs.YtabhfcoljgcpeaaGreatDoorW.PrintMore
attribute [local go_sem] max2_int min2_int max_two min_two max_three min_three max_four min_four
set_option linter.unusedVariables false
set_option linter.unusedSimpArgs false
/-! This session's own: the document's examples of next, walked. -/
structure Nx.WK (w : World) (g0 g1 g2 : Nat) (W : World) : Prop where
 b : Below w.heap.size w W
 x : Spc.Row W g0 1073741824 false 64 false 536870912 false 4 false 127 true
 y : Spc.Row W g1 1 false 1 false 1073741824 false 4 false 127 true
 z : Spc.Row W g2 35185445863425 false 16777215 true 4294967294 true 8190 true 127 true
theorem Nx.wk_step {w : World} {g0 g1 g2 : Nat} {W W' : World} (h : Aside0 (Nx.WK w g0 g1 g2 W)) (hb : Below W.heap.size W W') : Aside0 (Nx.WK w g0 g1 g2 W') := ⟨⟨below_step h.out.b hb, blk_below h.out.x hb, blk_below h.out.y hb, blk_below h.out.z hb⟩⟩
def complinelaw22_works.f  : Option (Bool) := some true
set_option maxHeartbeats 8000000 in
set_option maxRecDepth 100000 in
theorem complinelaw22_works.calls  (r : Bool) (w : World) (hT : Tab w) (h : complinelaw22_works.f  = some r) :
  Calls Tryz.prog 10 #[] w fun e w' => e = .returned (.bool r) ∧ Below w.heap.size w w' := by
 have HB := Aside0.mk (Below.refl w.heap.size w)
 obtain rfl : r = true := (Option.some.inj h).symm
 clear h
 go_enter Tryz.func10, Tryz.ntmps10
 go_wp2_with fail
 refine (spec_Parse.calls ⟨#[51, 48, 32, 54, 32, 50, 57, 32, 50, 32, 42]⟩ 1073741824 false 64 false 536870912 false 4 false 127 true 0 0 _ (hT.keep (Below.refl _ _)) (by kernel_rfl)).mono ?_
 rintro e V0 ⟨rfl, hb⟩
 have B0 := Aside0.mk (show Below w.heap.size w V0 from hb)
 clear hb
 go_wp2_with fail
 have A1 := Aside0.mk (show Below w.heap.size w (V0.alloc (.cells #[.int .u64 1073741824, .bool false, .int .u64 64, .bool false, .int .u64 536870912, .bool false, .int .u64 4, .bool false, .int .u64 127, .bool true] 26)) ∧ Spc.Row (V0.alloc (.cells #[.int .u64 1073741824, .bool false, .int .u64 64, .bool false, .int .u64 536870912, .bool false, .int .u64 4, .bool false, .int .u64 127, .bool true] 26)) V0.heap.size 1073741824 false 64 false 536870912 false 4 false 127 true from ⟨below_alloc B0.out _, blk_new _ _⟩)
 obtain ⟨g0, hg⟩ : ∃ g, V0.heap.size = g := ⟨_, rfl⟩
 rw [hg] at A1 ⊢
 generalize V0.alloc (.cells #[.int .u64 1073741824, .bool false, .int .u64 64, .bool false, .int .u64 536870912, .bool false, .int .u64 4, .bool false, .int .u64 127, .bool true] 26) = W1 at A1 ⊢
 clear B0 hg
 refine (spec_Parse.calls ⟨#[48, 32, 48, 32, 51, 48, 32, 50, 32, 42]⟩ 1 false 1 false 1073741824 false 4 false 127 true 0 0 _ (hT.keep A1.out.1) (by kernel_rfl)).mono ?_
 rintro e V1 ⟨rfl, hb⟩
 have B1 := Aside0.mk (show Below w.heap.size w V1 ∧ Spc.Row V1 g0 1073741824 false 64 false 536870912 false 4 false 127 true from ⟨below_step A1.out.1 hb, blk_below A1.out.2 hb⟩)
 clear hb A1
 go_wp2_with fail
 have A2 := Aside0.mk (show Below w.heap.size w (V1.alloc (.cells #[.int .u64 1, .bool false, .int .u64 1, .bool false, .int .u64 1073741824, .bool false, .int .u64 4, .bool false, .int .u64 127, .bool true] 26)) ∧ Spc.Row (V1.alloc (.cells #[.int .u64 1, .bool false, .int .u64 1, .bool false, .int .u64 1073741824, .bool false, .int .u64 4, .bool false, .int .u64 127, .bool true] 26)) g0 1073741824 false 64 false 536870912 false 4 false 127 true ∧ Spc.Row (V1.alloc (.cells #[.int .u64 1, .bool false, .int .u64 1, .bool false, .int .u64 1073741824, .bool false, .int .u64 4, .bool false, .int .u64 127, .bool true] 26)) V1.heap.size 1 false 1 false 1073741824 false 4 false 127 true from ⟨below_alloc B1.out.1 _, blk_alloc B1.out.2 _, blk_new _ _⟩)
 obtain ⟨g1, hg⟩ : ∃ g, V1.heap.size = g := ⟨_, rfl⟩
 rw [hg] at A2 ⊢
 generalize V1.alloc (.cells #[.int .u64 1, .bool false, .int .u64 1, .bool false, .int .u64 1073741824, .bool false, .int .u64 4, .bool false, .int .u64 127, .bool true] 26) = W2 at A2 ⊢
 clear B1 hg
 refine (spec_Parse.calls ⟨#[42, 47, 49, 53, 32, 42, 32, 42, 32, 42, 32, 42]⟩ 35185445863425 false 16777215 true 4294967294 true 8190 true 127 true 0 0 _ (hT.keep A2.out.1) (by kernel_rfl)).mono ?_
 rintro e V2 ⟨rfl, hb⟩
 have B2 := Aside0.mk (show Below w.heap.size w V2 ∧ Spc.Row V2 g0 1073741824 false 64 false 536870912 false 4 false 127 true ∧ Spc.Row V2 g1 1 false 1 false 1073741824 false 4 false 127 true from ⟨below_step A2.out.1 hb, blk_below A2.out.2.1 hb, blk_below A2.out.2.2 hb⟩)
 clear hb A2
 have A3' := Aside0.mk (blk_alloc B2.out.2.1 (.cells #[.int .u64 35185445863425, .bool false, .int .u64 16777215, .bool true, .int .u64 4294967294, .bool true, .int .u64 8190, .bool true, .int .u64 127, .bool true] 26))
 have J : Spc.Row (V2.alloc (.cells #[.int .u64 35185445863425, .bool false, .int .u64 16777215, .bool true, .int .u64 4294967294, .bool true, .int .u64 8190, .bool true, .int .u64 127, .bool true] 26)) g0 1073741824 false 64 false 536870912 false 4 false 127 true := A3'.out
 obtain ⟨k0, k1, k2, k3, k4, k5, k6, k7, k8, k9⟩ := J.cells
 clear J A3'
 go_wp2_with fail
 clear k0 k1 k2 k3 k4 k5 k6 k7 k8 k9
 have A3 := Aside0.mk (show Below w.heap.size w (V2.alloc (.cells #[.int .u64 35185445863425, .bool false, .int .u64 16777215, .bool true, .int .u64 4294967294, .bool true, .int .u64 8190, .bool true, .int .u64 127, .bool true] 26)) ∧ Spc.Row (V2.alloc (.cells #[.int .u64 35185445863425, .bool false, .int .u64 16777215, .bool true, .int .u64 4294967294, .bool true, .int .u64 8190, .bool true, .int .u64 127, .bool true] 26)) g0 1073741824 false 64 false 536870912 false 4 false 127 true ∧ Spc.Row (V2.alloc (.cells #[.int .u64 35185445863425, .bool false, .int .u64 16777215, .bool true, .int .u64 4294967294, .bool true, .int .u64 8190, .bool true, .int .u64 127, .bool true] 26)) g1 1 false 1 false 1073741824 false 4 false 127 true ∧ Spc.Row (V2.alloc (.cells #[.int .u64 35185445863425, .bool false, .int .u64 16777215, .bool true, .int .u64 4294967294, .bool true, .int .u64 8190, .bool true, .int .u64 127, .bool true] 26)) V2.heap.size 35185445863425 false 16777215 true 4294967294 true 8190 true 127 true from ⟨below_alloc B2.out.1 _, blk_alloc B2.out.2.1 _, blk_alloc B2.out.2.2 _, blk_new _ _⟩)
 obtain ⟨g2, hg⟩ : ∃ g, V2.heap.size = g := ⟨_, rfl⟩
 rw [hg] at A3 ⊢
 generalize V2.alloc (.cells #[.int .u64 35185445863425, .bool false, .int .u64 16777215, .bool true, .int .u64 4294967294, .bool true, .int .u64 8190, .bool true, .int .u64 127, .bool true] 26) = W3 at A3 ⊢
 clear B2 hg
 have H0 : Aside0 (Nx.WK w g0 g1 g2 W3) := ⟨⟨A3.out.1, A3.out.2.1, A3.out.2.2.1, A3.out.2.2.2⟩⟩
 clear A3
 refine (next_Next.calls 1073741824 false 64 false 536870912 false 4 false 127 true 29911680 30590310 0 _ (hT.keep H0.out.b) Nx.wk0).mono ?_
 rintro e U0 ⟨rfl, hb⟩
 have H1 := Nx.wk_step H0 hb
 clear H0 hb
 obtain ⟨k0, k1, k2, k3, k4, k5, k6, k7, k8, k9⟩ := H1.out.x.cells
 go_wp2_with fail
 clear k0 k1 k2 k3 k4 k5 k6 k7 k8 k9
 refine (next_Next.calls 1073741824 false 64 false 536870912 false 4 false 127 true 30590310 32694150 0 _ (hT.keep H1.out.b) Nx.wk1).mono ?_
 rintro e U1 ⟨rfl, hb⟩
 have H2 := Nx.wk_step H1 hb
 clear H1 hb
 obtain ⟨k0, k1, k2, k3, k4, k5, k6, k7, k8, k9⟩ := H2.out.y.cells
 go_wp2_with fail
 clear k0 k1 k2 k3 k4 k5 k6 k7 k8 k9
 refine (next_Next.calls 1 false 1 false 1073741824 false 4 false 127 true 0 0 11 _ (hT.keep H2.out.b) Nx.wk2).mono ?_
 rintro e U2 ⟨rfl, hb⟩
 have H3 := Nx.wk_step H2 hb
 clear H2 hb
 obtain ⟨k0, k1, k2, k3, k4, k5, k6, k7, k8, k9⟩ := H3.out.z.cells
 go_wp2_with fail
 clear k0 k1 k2 k3 k4 k5 k6 k7 k8 k9
 refine (next_Next.calls 35185445863425 false 16777215 true 4294967294 true 8190 true 127 true 14 15 0 _ (hT.keep H3.out.b) Nx.wk3).mono ?_
 rintro e U3 ⟨rfl, hb⟩
 have H4 := Nx.wk_step H3 hb
 clear H3 hb
 obtain ⟨k0, k1, k2, k3, k4, k5, k6, k7, k8, k9⟩ := H4.out.z.cells
 go_wp2_with fail
 clear k0 k1 k2 k3 k4 k5 k6 k7 k8 k9
 refine (next_Prev.calls 35185445863425 false 16777215 true 4294967294 true 8190 true 127 true 15 0 0 _ (hT.keep H4.out.b) Nx.wk4).mono ?_
 rintro e U4 ⟨rfl, hb⟩
 have H5 := Nx.wk_step H4 hb
 clear H4 hb
 obtain ⟨k0, k1, k2, k3, k4, k5, k6, k7, k8, k9⟩ := H5.out.z.cells
 go_wp2_with fail
 clear k0 k1 k2 k3 k4 k5 k6 k7 k8 k9
 refine (next_Count.calls 35185445863425 false 16777215 true 4294967294 true 8190 true 127 true 0 1440 96 0 _ (hT.keep H5.out.b) Nx.wk5).mono ?_
 rintro e U5 ⟨rfl, hb⟩
 have H6 := Nx.wk_step H5 hb
 clear H5 hb
 go_wp2_with fail
 go_ret
 exact ⟨rfl, H6.out.b⟩
end Go.Proofs.YtabhfcoljgcpeaaGreatDoor.PNex
