/- SoB: walks of the slab's functions. -/
import Derived.Test.YtppbdjoikdldiaaSoA
namespace Go.Proofs.Ytppbdjoikdldiaa.PSlabOf
open Go.RowKit Go.Proofs.YtppbdjoikdldiaaW.PrintWords Go.Proofs.YtppbdjoikdldiaaW.PrintLast Go.Proofs.YtppbdjoikdldiaaW.PrintMore
set_option linter.unusedVariables false
set_option linter.unusedSimpArgs false
attribute [local go_sem high] eqA30
set_option maxHeartbeats 4000000 in
set_option maxRecDepth 100000 in
theorem works_calls (w : World) : Calls Try.prog 9 #[] w fun e w' => e = .returned (.bool true) ∧ Below w.heap.size w w' := by
  letI : Own := ⟨fun _ => True, 0, fun _ _ => trivial⟩
  have hu30 := Try.underlying30
  go_enter Try.func9, Try.ntmps9
  go_upto_region 4 with (first | (go_at_call 10; refine (new_ok w.heap.size 2 2 _ (by decide) (by decide) (by decide) (by decide) (Nat.zero_le _)).mono ?_; rintro e w1 ⟨g, rfl, hg, hs, hb⟩; have HS := Aside0.mk hs; have HB := Aside0.mk hb; have HG := Aside0.mk hg; clear hs hb hg))
  go_upto_region 5 with (first | (go_at_call 13; refine (take_fresh w.heap.size g 2 2 0 _ _ [] _ HS.out (by decide) (by decide) (by decide) (by decide) HB.out.size).mono ?_; rintro e w2 ⟨rfl, ⟨vp2, hs⟩, hb, hst, hsz⟩; have HS2 := Aside0.mk hs; have HB2 := Aside0.mk (HB.out.trans hb); clear hs hb hst hsz))
  have A1 := Aside0.mk (heap_alloc_new w2 (Obj.cells #[Value.int IntKind.i64 0, Value.int IntKind.i64 1] 30))
  have HS3 := Aside0.mk (Slab.below HS2.out (below_alloc (Below.refl _ _) (Obj.cells #[Value.int IntKind.i64 0, Value.int IntKind.i64 1] 30)))
  have HB3 := Aside0.mk (Below.alloc HB2.out HB2.out.size (Obj.cells #[Value.int IntKind.i64 0, Value.int IntKind.i64 1] 30))
  obtain ⟨a, ha⟩ : ∃ a, w2.heap.size = a := ⟨_, rfl⟩
  rw [ha] at A1 ⊢
  generalize (w2.alloc (Obj.cells #[Value.int IntKind.i64 0, Value.int IntKind.i64 1] 30)) = w3 at A1 HS3 HB3 ⊢
  go_upto_region 6 with (first | (go_at_call 13; refine (take_fresh w.heap.size g 2 2 1 _ _ [⟨1, true⟩] _ HS3.out (by decide) (by decide) (by decide) (by decide) HB3.out.size).mono ?_; rintro e w4 ⟨rfl, ⟨vp4, hs⟩, hb, hst, hsz⟩; have HS4 := Aside0.mk hs; have HB4 := Aside0.mk (HB3.out.trans hb); have A2 := Aside0.mk (hst _ _ _ _ A1.out (by decide) (by decide) (by decide)); clear hs hb hst hsz))
  have B1 := Aside0.mk (heap_alloc_new w4 (Obj.cells #[Value.int IntKind.i64 1, Value.int IntKind.i64 1] 30))
  have A3 := Aside0.mk (blk_alloc A2.out (Obj.cells #[Value.int IntKind.i64 1, Value.int IntKind.i64 1] 30))
  have HS5 := Aside0.mk (Slab.below HS4.out (below_alloc (Below.refl _ _) (Obj.cells #[Value.int IntKind.i64 1, Value.int IntKind.i64 1] 30)))
  have HB5 := Aside0.mk (Below.alloc HB4.out HB4.out.size (Obj.cells #[Value.int IntKind.i64 1, Value.int IntKind.i64 1] 30))
  obtain ⟨b, hbb⟩ : ∃ b, w4.heap.size = b := ⟨_, rfl⟩
  rw [hbb] at B1 ⊢
  generalize (w4.alloc (Obj.cells #[Value.int IntKind.i64 1, Value.int IntKind.i64 1] 30)) = w5 at B1 A3 HS5 HB5 ⊢
  go_upto_region 7 with (first | (go_at_call 13; refine (take_full w.heap.size g 2 2 2 _ _ [⟨1, true⟩, ⟨1, true⟩] _ HS5.out rfl HB5.out.size).mono ?_; rintro e w6 ⟨rfl, hs, hb, hst, hsz⟩; have HS6 := Aside0.mk hs; have HB6 := Aside0.mk (HB5.out.trans hb); have A4 := Aside0.mk (hst _ _ _ _ A3.out (by decide) (by decide) (by decide)); have B2 := Aside0.mk (hst _ _ _ _ B1.out (by decide) (by decide) (by decide)); clear hs hb hst hsz))
  have A5 := Aside0.mk (blk_alloc A4.out (Obj.cells #[Value.int IntKind.i64 0, Value.int IntKind.i64 0] 30))
  have B3 := Aside0.mk (blk_alloc B2.out (Obj.cells #[Value.int IntKind.i64 0, Value.int IntKind.i64 0] 30))
  have HS7 := Aside0.mk (Slab.below HS6.out (below_alloc (Below.refl _ _) (Obj.cells #[Value.int IntKind.i64 0, Value.int IntKind.i64 0] 30)))
  have HB7 := Aside0.mk (Below.alloc HB6.out HB6.out.size (Obj.cells #[Value.int IntKind.i64 0, Value.int IntKind.i64 0] 30))
  generalize (w6.alloc (Obj.cells #[Value.int IntKind.i64 0, Value.int IntKind.i64 0] 30)) = w7 at A5 B3 HS7 HB7 ⊢
  have za := (blk_cell A5.out 0).trans (show _ = some (Value.int .i64 0) from rfl)
  have zb := (blk_cell A5.out 1).trans (show _ = some (Value.int .i64 1) from rfl)
  have zc := (blk_cell B3.out 0).trans (show _ = some (Value.int .i64 1) from rfl)
  have zd := (blk_cell B3.out 1).trans (show _ = some (Value.int .i64 1) from rfl)
  go_upto_region 8 with (first | (go_at_call 14; refine (alive_calls w.heap.size g 2 2 2 _ _ [⟨1, true⟩, ⟨1, true⟩] [] _ 0 1 HS7.out).mono ?_; rintro e w8 ⟨rfl, hb⟩; have HS8 := Aside0.mk (Slab.below HS7.out hb); have HB8 := Aside0.mk (below_step HB7.out hb); have A6 := Aside0.mk ((hb.block _ (blk_lt A5.out)).trans A5.out); have B4 := Aside0.mk ((hb.block _ (blk_lt B3.out)).trans B3.out); clear hb) | (go_at_call 15; refine (len_calls w.heap.size g 2 2 2 _ _ [⟨1, true⟩, ⟨1, true⟩] [] _ HS8.out).mono ?_; rintro e w9 ⟨rfl, ⟨nd, rfl⟩⟩))
  have za := (blk_cell A6.out 0).trans (show _ = some (Value.int .i64 0) from rfl)
  have zb := (blk_cell A6.out 1).trans (show _ = some (Value.int .i64 1) from rfl)
  have zc := (blk_cell B4.out 0).trans (show _ = some (Value.int .i64 1) from rfl)
  have zd := (blk_cell B4.out 1).trans (show _ = some (Value.int .i64 1) from rfl)
  have HD8 := Aside0.mk (pw_below_drewN HB8.out (nd+1))
  have HT8 := Aside0.mk (blk_drewN B4.out (nd+1))
  have HF1 := Aside0.mk (free_back w.heap.size g 2 2 2 _ _ [⟨1, true⟩, ⟨1, true⟩] [] (w8.drewN (nd + 1)) 0 1 (Slab.drewN HS8.out _) (by decide) (by decide) rfl rfl (by decide) (by decide) (by decide) (by decide) HD8.out.size)
  go_region_with (first | (go_at_call_of 11 (Value.int IntKind.i64 0); refine HF1.out.mono ?_; rintro e w9 ⟨rfl, ⟨vf9, hs⟩, hb, hst, hsz⟩; have HS9 := Aside0.mk (show Slab w.heap.size w9 g 2 2 _ vf9 [⟨1, false⟩, ⟨1, true⟩] [0] 1 from hs); have HB9 := Aside0.mk (HD8.out.trans hb); have B5 := Aside0.mk (hst _ _ _ _ HT8.out (by decide) (by decide) (by decide)); have zc := (blk_cell B5.out 0).trans (show _ = some (Value.int .i64 1) from rfl); have zd := (blk_cell B5.out 1).trans (show _ = some (Value.int .i64 1) from rfl); clear hs hb hst hsz) | (go_at_call 11; refine (free_back w.heap.size g 2 2 1 _ _ [⟨1, false⟩, ⟨1, true⟩] [0] _ 1 1 HS9.out (by decide) (by decide) rfl rfl (by decide) (by decide) (by decide) (by decide) HB9.out.size).mono ?_; rintro e w10 ⟨rfl, ⟨vf10, hs⟩, hb, hst, hsz⟩; have HS10 := Aside0.mk (show Slab w.heap.size w10 g 2 2 _ vf10 [⟨1, false⟩, ⟨1, false⟩] [0, 1] 0 from hs); have HB10 := Aside0.mk (HB9.out.trans hb); have B6 := Aside0.mk (hst _ _ _ _ B5.out (by decide) (by decide) (by decide)); clear hs hb hst hsz))
  all_goals (
    clear HS9 HB9 B5 za zb
    go_upto_region 10 with (first | (go_at_call 13; refine (take_pop w.heap.size g 2 2 0 _ _ [⟨1, false⟩, ⟨1, false⟩] [0, 1] _ 1 HS10.out (by decide) (by decide) rfl (by decide) (by decide) (by decide) (by decide) (by decide) (by decide) (by decide) HB10.out.size).mono ?_; rintro e w11 ⟨rfl, ⟨vf11, hs⟩, hb, hst, hsz⟩; have HS11 := Aside0.mk (show Slab w.heap.size w11 g 2 2 _ vf11 [⟨1, false⟩, ⟨2, true⟩] [0] 1 from hs); have HB11 := Aside0.mk (HB10.out.trans hb); have B7 := Aside0.mk (hst _ _ _ _ B6.out (by decide) (by decide) (by decide)); clear hs hb hst hsz))
    have C1 := Aside0.mk (heap_alloc_new w11 (Obj.cells #[Value.int IntKind.i64 1, Value.int IntKind.i64 2] 30))
    have B8 := Aside0.mk (blk_alloc B7.out (Obj.cells #[Value.int IntKind.i64 1, Value.int IntKind.i64 2] 30))
    have HS12 := Aside0.mk (Slab.below HS11.out (below_alloc (Below.refl _ _) (Obj.cells #[Value.int IntKind.i64 1, Value.int IntKind.i64 2] 30)))
    have HB12 := Aside0.mk (Below.alloc HB11.out HB11.out.size (Obj.cells #[Value.int IntKind.i64 1, Value.int IntKind.i64 2] 30))
    clear B6 B7 HS11 HB11 HS10 HB10
    obtain ⟨c, hcc⟩ : ∃ c, w11.heap.size = c := ⟨_, rfl⟩
    have e1 : (Value.int IntKind.i64 ((rd_T64 [⟨1, false⟩, ⟨1, false⟩] 1).f0 + 1)) = Value.int .i64 2 := rfl
    rw [e1] at *
    rw [hcc] at C1 ⊢
    generalize (w11.alloc (Obj.cells #[Value.int IntKind.i64 1, Value.int IntKind.i64 2] 30)) = w12 at C1 B8 HS12 HB12 ⊢
    have za := (blk_cell C1.out 0).trans (show _ = some (Value.int .i64 1) from rfl)
    have zb := (blk_cell C1.out 1).trans (show _ = some (Value.int .i64 2) from rfl)
    have zc := (blk_cell B8.out 0).trans (show _ = some (Value.int .i64 1) from rfl)
    have zd := (blk_cell B8.out 1).trans (show _ = some (Value.int .i64 1) from rfl)
    go_upto_region 11 with (first | (go_at_call 14; refine (alive_calls w.heap.size g 2 2 1 _ _ [⟨1, false⟩, ⟨2, true⟩] [0] _ 1 1 HS12.out).mono ?_; rintro e w13 ⟨rfl, hb⟩; have HS13 := Aside0.mk (Slab.below HS12.out hb); have HB13 := Aside0.mk (below_step HB12.out hb); have C2 := Aside0.mk ((hb.block _ (blk_lt C1.out)).trans C1.out); clear hb) | (go_at_call 16; refine (left_lit w.heap.size g 2 2 1 _ _ [⟨1, false⟩, ⟨2, true⟩] [0] _ 1 HS13.out (by kernel_rfl)).mono ?_; rintro e w9 ⟨rfl, ⟨nd2, rfl⟩⟩) | (go_at_call 17; refine (worn_lit w.heap.size g 2 2 1 _ _ [⟨1, false⟩, ⟨2, true⟩] [0] _ 0 (Slab.drewN HS13.out _) (by kernel_rfl)).mono ?_; rintro e w9 ⟨rfl, ⟨nd3, rfl⟩⟩))
    clear za zb zc zd HS12 HB12 C1 B8
    have za := (blk_cell C2.out 0).trans (show _ = some (Value.int .i64 1) from rfl)
    have zb := (blk_cell C2.out 1).trans (show _ = some (Value.int .i64 2) from rfl)
    go_upto_region 12 with (first | (go_at_call 11; refine (free_worn w.heap.size g 2 2 1 _ _ [⟨1, false⟩, ⟨2, true⟩] [0] _ 1 2 (Slab.drewN HS13.out (nd2 + nd3)) (by decide) (by decide) rfl rfl (by decide) (by decide) (by decide) (pw_below_drewN HB13.out (nd2 + nd3)).size).mono ?_; rintro e w14 ⟨rfl, hs, hb, hst, hsz⟩; have HS14 := Aside0.mk (show Slab w.heap.size w14 g 2 2 _ vf11 [⟨1, false⟩, ⟨2, false⟩] [0] 0 from hs); have HB14 := Aside0.mk ((pw_below_drewN HB13.out (nd2 + nd3)).trans hb); have C3 := Aside0.mk (hst _ _ _ _ (blk_drewN C2.out (nd2 + nd3)) (by decide) (by decide) (by decide)); clear hs hb hst hsz))
    clear za zb HS13 HB13 C2
    go_upto_region 13 with (first | (go_at_call 24; refine (at_free w.heap.size g 2 2 0 _ _ [⟨1, false⟩, ⟨2, false⟩] [0] _ 1 HS14.out).mono ?_; rintro e w15 ⟨rfl, hb⟩; have HS15 := Aside0.mk (Slab.below HS14.out hb); have HB15 := Aside0.mk (below_step HB14.out hb); have C4 := Aside0.mk ((hb.block _ (blk_lt C3.out)).trans C3.out); clear hb))
    clear HS14 HB14 C3
    have C5 := Aside0.mk (blk_alloc C4.out (Obj.cells #[Value.int IntKind.i64 0, Value.int IntKind.i64 0] 30))
    have D1 := Aside0.mk (heap_alloc_new w15 (Obj.cells #[Value.int IntKind.i64 0, Value.int IntKind.i64 0] 30))
    have HS16 := Aside0.mk (Slab.below HS15.out (below_alloc (Below.refl _ _) (Obj.cells #[Value.int IntKind.i64 0, Value.int IntKind.i64 0] 30)))
    have HB16 := Aside0.mk (Below.alloc HB15.out HB15.out.size (Obj.cells #[Value.int IntKind.i64 0, Value.int IntKind.i64 0] 30))
    obtain ⟨d, hdd⟩ : ∃ d, w15.heap.size = d := ⟨_, rfl⟩
    rw [hdd] at D1 ⊢
    generalize (w15.alloc (Obj.cells #[Value.int IntKind.i64 0, Value.int IntKind.i64 0] 30)) = w16 at C5 D1 HS16 HB16 ⊢
    have za := (blk_cell C5.out 0).trans (show _ = some (Value.int .i64 1) from rfl)
    have zb := (blk_cell C5.out 1).trans (show _ = some (Value.int .i64 2) from rfl)
    have zc := (blk_cell D1.out 0).trans (show _ = some (Value.int .i64 0) from rfl)
    have zd := (blk_cell D1.out 1).trans (show _ = some (Value.int .i64 0) from rfl)
    clear HS15 HB15 C4
    go_wp2_with (first | (go_at_call 17; refine (worn_lit w.heap.size g 2 2 0 _ _ [⟨1, false⟩, ⟨2, false⟩] [0] _ 1 HS16.out (by kernel_rfl)).mono ?_; rintro e w17 ⟨rfl, ⟨nd4, rfl⟩⟩) | (go_at_call 11; refine (free_none w.heap.size g 2 2 0 _ _ [⟨1, false⟩, ⟨2, false⟩] [0] _ 1 2 (Slab.drewN HS16.out nd4) (by decide)).mono ?_; rintro e w18 ⟨rfl, hb⟩; have HB18 := Aside0.mk (below_step (pw_below_drewN HB16.out nd4) hb); clear hb))
    go_ret
    exact ⟨rfl, HB18.out⟩)
end Go.Proofs.Ytppbdjoikdldiaa.PSlabOf
