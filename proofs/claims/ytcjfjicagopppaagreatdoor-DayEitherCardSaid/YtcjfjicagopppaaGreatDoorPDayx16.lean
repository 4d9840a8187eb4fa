-- Written by a program of this session (gprint.py) over the kit's print.
import Derived.Test.YtcjfjicagopppaaGreatDoorPDayx0
import Derived.Test.YtcjfjicagopppaaGreatDoorPDayx1
import Derived.Test.YtcjfjicagopppaaGreatDoorPDayx2
import Derived.Test.YtcjfjicagopppaaGreatDoorPDayx4
import Derived.Test.YtcjfjicagopppaaGreatDoorPDayx8
import Derived.Test.YtcjfjicagopppaaGreatDoorPDayx9
namespace Go.Proofs.YtcjfjicagopppaaGreatDoor.PDay
open Go.RowKit Go.Proofs.YtcjfjicagopppaaGreatDoorW.PrintWords Go.Proofs.YtcjfjicagopppaaGreatDoorW.PrintLast Go.Proofs.YtcjfjicagopppaaGreatDoorW.PrintMore
attribute [local go_sem] max2_int min2_int max_two min_two max_three min_three max_four min_four   -- for this text's walks alone
set_option linter.unusedVariables false
set_option linter.unusedSimpArgs false

/-! ### complinelaw21_DayWeeks: function 7 -/
def complinelaw21_DayWeeks.f (a0_0 : Int) (a0_1 : Bool) (a0_2 : Int) (a0_3 : Bool) (a0_4 : Int) (a0_5 : Bool) (a0_6 : Int) (a0_7 : Bool) (a0_8 : Int) (a0_9 : Bool) (a1 : Int) (a2 : Int) (a3 : Int) : Option (Bool) := (complinelaw21_works.f).bind fun t232 => (if t232 = true then ((day_Mask.f a0_0 a0_1 a0_2 a0_3 a0_4 a0_5 a0_6 a0_7 a0_8 a0_9 a1 a2).bind fun bt233 => (if bt233.2 = 0 then (if a0_5 = true then (if a3 < 1 then (some t232) else (if a3 > 24 then (some t232) else ((civil_Length.f a1 a2).bind fun t235 => (if (wrap64 (a3 + 7)) > t235 then (some t232) else (if 0 ≤ (IntKind.u64.wrap (a3)) then (if 0 ≤ (IntKind.u64.wrap (wrap64 (a3 + 7))) then (some ((Go.bits .and .u32 (shr .u32 bt233.1 (IntKind.u64.wrap (a3))) 1) == (Go.bits .and .u32 (shr .u32 bt233.1 (IntKind.u64.wrap (wrap64 (a3 + 7)))) 1))) else (none)) else (none)))))) else (some t232)) else (some t232))) else (some false))
set_option maxHeartbeats 8000000 in
set_option maxRecDepth 100000 in
theorem complinelaw21_DayWeeks.calls (a0_0 : Int) (a0_1 : Bool) (a0_2 : Int) (a0_3 : Bool) (a0_4 : Int) (a0_5 : Bool) (a0_6 : Int) (a0_7 : Bool) (a0_8 : Int) (a0_9 : Bool) (a1 : Int) (a2 : Int) (a3 : Int) (r : Bool) (w : World) (hT : Tab w) (h : complinelaw21_DayWeeks.f a0_0 a0_1 a0_2 a0_3 a0_4 a0_5 a0_6 a0_7 a0_8 a0_9 a1 a2 a3 = some r) :
  Calls Tryz.prog 7 #[.agg #[.int .u64 a0_0, .bool a0_1, .int .u64 a0_2, .bool a0_3, .int .u64 a0_4, .bool a0_5, .int .u64 a0_6, .bool a0_7, .int .u64 a0_8, .bool a0_9], .int .i64 a1, .int .i64 a2, .int .i64 a3] w fun e w' => e = .returned (.bool r) ∧ Below w.heap.size w w' := by
 have hu26 := Tryz.underlying26
 have HB := Aside0.mk (Below.refl w.heap.size w)
 have H : ((complinelaw21_works.f).bind fun t232 => (if t232 = true then ((day_Mask.f a0_0 a0_1 a0_2 a0_3 a0_4 a0_5 a0_6 a0_7 a0_8 a0_9 a1 a2).bind fun bt233 => (if bt233.2 = 0 then (if a0_5 = true then (if a3 < 1 then (some t232) else (if a3 > 24 then (some t232) else ((civil_Length.f a1 a2).bind fun t235 => (if (wrap64 (a3 + 7)) > t235 then (some t232) else (if 0 ≤ (IntKind.u64.wrap (a3)) then (if 0 ≤ (IntKind.u64.wrap (wrap64 (a3 + 7))) then (some ((Go.bits .and .u32 (shr .u32 bt233.1 (IntKind.u64.wrap (a3))) 1) == (Go.bits .and .u32 (shr .u32 bt233.1 (IntKind.u64.wrap (wrap64 (a3 + 7)))) 1))) else (none)) else (none)))))) else (some t232)) else (some t232))) else (some false))) = some r := h
 clear h
 replace H := Option.bind_eq_some_iff.mp H
 obtain ⟨t232, A50, H⟩ := H
 replace H : (if t232 = true then ((day_Mask.f a0_0 a0_1 a0_2 a0_3 a0_4 a0_5 a0_6 a0_7 a0_8 a0_9 a1 a2).bind fun bt233 => (if bt233.2 = 0 then (if a0_5 = true then (if a3 < 1 then (some t232) else (if a3 > 24 then (some t232) else ((civil_Length.f a1 a2).bind fun t235 => (if (wrap64 (a3 + 7)) > t235 then (some t232) else (if 0 ≤ (IntKind.u64.wrap (a3)) then (if 0 ≤ (IntKind.u64.wrap (wrap64 (a3 + 7))) then (some ((Go.bits .and .u32 (shr .u32 bt233.1 (IntKind.u64.wrap (a3))) 1) == (Go.bits .and .u32 (shr .u32 bt233.1 (IntKind.u64.wrap (wrap64 (a3 + 7)))) 1))) else (none)) else (none)))))) else (some t232)) else (some t232))) else (some false)) = some r := H
 have A5 := Aside0.mk A50
 clear A50
 by_cases c6 : t232 = true
 ·subst c6
  have H1 : ((day_Mask.f a0_0 a0_1 a0_2 a0_3 a0_4 a0_5 a0_6 a0_7 a0_8 a0_9 a1 a2).bind fun bt233 => (if bt233.2 = 0 then (if a0_5 = true then (if a3 < 1 then (some true) else (if a3 > 24 then (some true) else ((civil_Length.f a1 a2).bind fun t235 => (if (wrap64 (a3 + 7)) > t235 then (some true) else (if 0 ≤ (IntKind.u64.wrap (a3)) then (if 0 ≤ (IntKind.u64.wrap (wrap64 (a3 + 7))) then (some ((Go.bits .and .u32 (shr .u32 bt233.1 (IntKind.u64.wrap (a3))) 1) == (Go.bits .and .u32 (shr .u32 bt233.1 (IntKind.u64.wrap (wrap64 (a3 + 7)))) 1))) else (none)) else (none)))))) else (some true)) else (some true))) = some r := by rw [if_pos rfl] at H; exact H
  clear H
  have H := H1
  clear H1
  replace H := Option.bind_eq_some_iff.mp H
  obtain ⟨⟨t233, t234⟩, A70, H⟩ := H
  replace H : (if t234 = 0 then (if a0_5 = true then (if a3 < 1 then (some true) else (if a3 > 24 then (some true) else ((civil_Length.f a1 a2).bind fun t235 => (if (wrap64 (a3 + 7)) > t235 then (some true) else (if 0 ≤ (IntKind.u64.wrap (a3)) then (if 0 ≤ (IntKind.u64.wrap (wrap64 (a3 + 7))) then (some ((Go.bits .and .u32 (shr .u32 t233 (IntKind.u64.wrap (a3))) 1) == (Go.bits .and .u32 (shr .u32 t233 (IntKind.u64.wrap (wrap64 (a3 + 7)))) 1))) else (none)) else (none)))))) else (some true)) else (some true)) = some r := H
  have A7 := Aside0.mk A70
  clear A70
  by_cases c8 : t234 = 0
  ·rw [if_pos c8] at H
   have c8b0 : (t234 == 0) = true := beq_iff_eq.mpr c8
   have c8b1 : (t234 != 0) = false := bne_eq_false_iff_eq.mpr c8
   clear c8
   by_cases c9 : a0_5 = true
   ·subst c9
    have H1 : (if a3 < 1 then (some true) else (if a3 > 24 then (some true) else ((civil_Length.f a1 a2).bind fun t235 => (if (wrap64 (a3 + 7)) > t235 then (some true) else (if 0 ≤ (IntKind.u64.wrap (a3)) then (if 0 ≤ (IntKind.u64.wrap (wrap64 (a3 + 7))) then (some ((Go.bits .and .u32 (shr .u32 t233 (IntKind.u64.wrap (a3))) 1) == (Go.bits .and .u32 (shr .u32 t233 (IntKind.u64.wrap (wrap64 (a3 + 7)))) 1))) else (none)) else (none)))))) = some r := by rw [if_pos rfl] at H; exact H
    clear H
    have H := H1
    clear H1
    by_cases c10 : a3 < 1
    ·rw [if_pos c10] at H
     have c10b0 : decide (a3 < 1) = true := decide_eq_true c10
     clear c10
     obtain rfl := Option.some.inj H
     go_enter Tryz.func7, Tryz.ntmps7
     go_wp2_with (first | ((with_reducible refine gate_dst (N := 4) rfl ?_); refine box_event ?hg (N := 4) ?hd (cs := #[.int .u64 a0_0, .bool a0_1, .int .u64 a0_2, .bool a0_3, .int .u64 a0_4, .bool true, .int .u64 a0_6, .bool a0_7, .int .u64 a0_8, .bool a0_9]) (t := 26) ?hr ?_; (case hd => rfl); (case hg => rfl); (case hr => first | (go_simp; done) | (go_simp; rfl)); intro gb231 hg w11 hbox hb; have n0_ := Aside0.mk (below_step (by repeat (first | (with_reducible first | exact HB.out | apply below_alloc | apply pw_below_drewN | apply below_drew1) | exact HB.out)) hb); have n1_ := Aside0.mk (hbox); have n2_ := Aside0.mk ((by rw [hg]; exact (below_size (by repeat (first | (with_reducible first | exact HB.out | apply below_alloc | apply pw_below_drewN | apply below_drew1) | exact HB.out))) : w.heap.size ≤ gb231)); have n3_ := Aside0.mk ((by rw [hg]; exact (below_size (by repeat (first | (with_reducible first | exact HB.out | apply below_alloc | apply pw_below_drewN | apply below_drew1) | exact HB.out))) : w.heap.size ≤ gb231)); clear HB; have HB := n0_; have BK231 := n1_; have GW231 := n2_; have GE231 := n3_; clear n0_ n1_ n2_ n3_; clear hb hbox hg) | ((with_reducible refine gate_callee (f := 9) rfl ?_); refine goesL_ (some 12) rfl rfl Tryz.func9 (by kernel_rfl) rfl #[] rfl (by (try simp only [List.map_toArray, List.map_cons, List.map_nil]); first | done | rfl | (simp only [List.length_drop, List.length_take]; rfl)) ?_; (with_reducible refine (complinelaw21_works.calls  true _ (hT.keep (by repeat (first | (with_reducible first | exact HB.out | apply below_alloc | apply pw_below_drewN | apply below_drew1 | refine below_set ?_ GE231.out) | exact HB.out))) A5.out).mono ?_); rintro e w12 ⟨rfl, hb⟩; refine ⟨_, rfl, ?_⟩; have n0_ := Aside0.mk (blk_below (g := gb231) (o := .cells #[.int .u64 a0_0, .bool a0_1, .int .u64 a0_2, .bool a0_3, .int .u64 a0_4, .bool true, .int .u64 a0_6, .bool a0_7, .int .u64 a0_8, .bool a0_9] 26 (0, 0)) (by (with_reducible repeat (first | refine blk_drewN ?_ _ | refine blk_drew ?_ | refine blk_alloc ?_ _)); exact BK231.out) hb); have n1_ := Aside0.mk (below_step (by repeat (first | (with_reducible first | exact HB.out | apply below_alloc | apply pw_below_drewN | apply below_drew1 | refine below_set ?_ GE231.out) | exact HB.out)) hb); clear BK231; clear HB; have BK231 := n0_; have HB := n1_; clear n0_ n1_; (try clear hb); (try clear hb2); (try clear hk); (try clear hi); have hcz13_0 : w12.cell? ⟨gb231, 0, none⟩ = some (.int .u64 a0_0) := (blk_cell BK231.out 0).trans rfl; have hcz13_1 : w12.cell? ⟨gb231, 1, none⟩ = some (.bool a0_1) := (blk_cell BK231.out 1).trans rfl; have hcz13_2 : w12.cell? ⟨gb231, 2, none⟩ = some (.int .u64 a0_2) := (blk_cell BK231.out 2).trans rfl; have hcz13_3 : w12.cell? ⟨gb231, 3, none⟩ = some (.bool a0_3) := (blk_cell BK231.out 3).trans rfl; have hcz13_4 : w12.cell? ⟨gb231, 4, none⟩ = some (.int .u64 a0_4) := (blk_cell BK231.out 4).trans rfl; have hcz13_5 : w12.cell? ⟨gb231, 5, none⟩ = some (.bool true) := (blk_cell BK231.out 5).trans rfl; have hcz13_6 : w12.cell? ⟨gb231, 6, none⟩ = some (.int .u64 a0_6) := (blk_cell BK231.out 6).trans rfl; have hcz13_7 : w12.cell? ⟨gb231, 7, none⟩ = some (.bool a0_7) := (blk_cell BK231.out 7).trans rfl; have hcz13_8 : w12.cell? ⟨gb231, 8, none⟩ = some (.int .u64 a0_8) := (blk_cell BK231.out 8).trans rfl; have hcz13_9 : w12.cell? ⟨gb231, 9, none⟩ = some (.bool a0_9) := (blk_cell BK231.out 9).trans rfl; have hfz13_0 := blk_frozen BK231.out 0; have hfz13_1 := blk_frozen BK231.out 1; have hfz13_2 := blk_frozen BK231.out 2; have hfz13_3 := blk_frozen BK231.out 3; have hfz13_4 := blk_frozen BK231.out 4; have hfz13_5 := blk_frozen BK231.out 5; have hfz13_6 := blk_frozen BK231.out 6; have hfz13_7 := blk_frozen BK231.out 7; have hfz13_8 := blk_frozen BK231.out 8; have hfz13_9 := blk_frozen BK231.out 9) | ((with_reducible refine gate_callee (f := 10) rfl ?_); refine goesL_ (some 19) rfl rfl Tryz.func10 (by kernel_rfl) rfl #[.agg #[.int .u64 a0_0, .bool a0_1, .int .u64 a0_2, .bool a0_3, .int .u64 a0_4, .bool true, .int .u64 a0_6, .bool a0_7, .int .u64 a0_8, .bool a0_9], .int .i64 a1, .int .i64 a2] rfl (by (try simp only [List.map_toArray, List.map_cons, List.map_nil]); first | done | rfl | (simp only [List.length_drop, List.length_take]; rfl)) ?_; (with_reducible refine (day_Mask.calls a0_0 a0_1 a0_2 a0_3 a0_4 true a0_6 a0_7 a0_8 a0_9 a1 a2 t233 t234 _ A7.out).mono ?_); rintro e w14 ⟨rfl, hb⟩; refine ⟨_, rfl, ?_⟩; have n0_ := Aside0.mk (blk_below (g := gb231) (o := .cells #[.int .u64 a0_0, .bool a0_1, .int .u64 a0_2, .bool a0_3, .int .u64 a0_4, .bool true, .int .u64 a0_6, .bool a0_7, .int .u64 a0_8, .bool a0_9] 26 (0, 0)) (by (with_reducible repeat (first | refine blk_drewN ?_ _ | refine blk_drew ?_ | refine blk_alloc ?_ _)); exact BK231.out) hb); have n1_ := Aside0.mk (below_step (by repeat (first | (with_reducible first | exact HB.out | apply below_alloc | apply pw_below_drewN | apply below_drew1 | refine below_set ?_ GE231.out) | exact HB.out)) hb); clear BK231; clear HB; have BK231 := n0_; have HB := n1_; clear n0_ n1_; (try clear hb); (try clear hb2); (try clear hk); (try clear hi); have hcz15_0 : w14.cell? ⟨gb231, 0, none⟩ = some (.int .u64 a0_0) := (blk_cell BK231.out 0).trans rfl; have hcz15_1 : w14.cell? ⟨gb231, 1, none⟩ = some (.bool a0_1) := (blk_cell BK231.out 1).trans rfl; have hcz15_2 : w14.cell? ⟨gb231, 2, none⟩ = some (.int .u64 a0_2) := (blk_cell BK231.out 2).trans rfl; have hcz15_3 : w14.cell? ⟨gb231, 3, none⟩ = some (.bool a0_3) := (blk_cell BK231.out 3).trans rfl; have hcz15_4 : w14.cell? ⟨gb231, 4, none⟩ = some (.int .u64 a0_4) := (blk_cell BK231.out 4).trans rfl; have hcz15_5 : w14.cell? ⟨gb231, 5, none⟩ = some (.bool true) := (blk_cell BK231.out 5).trans rfl; have hcz15_6 : w14.cell? ⟨gb231, 6, none⟩ = some (.int .u64 a0_6) := (blk_cell BK231.out 6).trans rfl; have hcz15_7 : w14.cell? ⟨gb231, 7, none⟩ = some (.bool a0_7) := (blk_cell BK231.out 7).trans rfl; have hcz15_8 : w14.cell? ⟨gb231, 8, none⟩ = some (.int .u64 a0_8) := (blk_cell BK231.out 8).trans rfl; have hcz15_9 : w14.cell? ⟨gb231, 9, none⟩ = some (.bool a0_9) := (blk_cell BK231.out 9).trans rfl; have hfz15_0 := blk_frozen BK231.out 0; have hfz15_1 := blk_frozen BK231.out 1; have hfz15_2 := blk_frozen BK231.out 2; have hfz15_3 := blk_frozen BK231.out 3; have hfz15_4 := blk_frozen BK231.out 4; have hfz15_5 := blk_frozen BK231.out 5; have hfz15_6 := blk_frozen BK231.out 6; have hfz15_7 := blk_frozen BK231.out 7; have hfz15_8 := blk_frozen BK231.out 8; have hfz15_9 := blk_frozen BK231.out 9))
     go_ret
     exact ⟨by first | rfl | (simp [errW_none, errW_some] <;> rfl) | (simp [*, errW_none, errW_some] <;> rfl), by repeat (first | (with_reducible first | exact HB.out | apply below_alloc | apply pw_below_drewN | apply below_drew1 | refine below_set ?_ GE231.out) | exact HB.out)⟩
    ·rw [if_neg c10] at H
     have c10b0 : decide (a3 < 1) = false := decide_eq_false c10
     clear c10
     by_cases c16 : a3 > 24
     ·rw [if_pos c16] at H
      have c16b0 : decide (24 < a3) = true := decide_eq_true c16
      clear c16
      obtain rfl := Option.some.inj H
      go_enter Tryz.func7, Tryz.ntmps7
      go_wp2_with (first | ((with_reducible refine gate_dst (N := 4) rfl ?_); refine box_event ?hg (N := 4) ?hd (cs := #[.int .u64 a0_0, .bool a0_1, .int .u64 a0_2, .bool a0_3, .int .u64 a0_4, .bool true, .int .u64 a0_6, .bool a0_7, .int .u64 a0_8, .bool a0_9]) (t := 26) ?hr ?_; (case hd => rfl); (case hg => rfl); (case hr => first | (go_simp; done) | (go_simp; rfl)); intro gb231 hg w17 hbox hb; have n0_ := Aside0.mk (below_step (by repeat (first | (with_reducible first | exact HB.out | apply below_alloc | apply pw_below_drewN | apply below_drew1) | exact HB.out)) hb); have n1_ := Aside0.mk (hbox); have n2_ := Aside0.mk ((by rw [hg]; exact (below_size (by repeat (first | (with_reducible first | exact HB.out | apply below_alloc | apply pw_below_drewN | apply below_drew1) | exact HB.out))) : w.heap.size ≤ gb231)); have n3_ := Aside0.mk ((by rw [hg]; exact (below_size (by repeat (first | (with_reducible first | exact HB.out | apply below_alloc | apply pw_below_drewN | apply below_drew1) | exact HB.out))) : w.heap.size ≤ gb231)); clear HB; have HB := n0_; have BK231 := n1_; have GW231 := n2_; have GE231 := n3_; clear n0_ n1_ n2_ n3_; clear hb hbox hg) | ((with_reducible refine gate_callee (f := 9) rfl ?_); refine goesL_ (some 12) rfl rfl Tryz.func9 (by kernel_rfl) rfl #[] rfl (by (try simp only [List.map_toArray, List.map_cons, List.map_nil]); first | done | rfl | (simp only [List.length_drop, List.length_take]; rfl)) ?_; (with_reducible refine (complinelaw21_works.calls  true _ (hT.keep (by repeat (first | (with_reducible first | exact HB.out | apply below_alloc | apply pw_below_drewN | apply below_drew1 | refine below_set ?_ GE231.out) | exact HB.out))) A5.out).mono ?_); rintro e w18 ⟨rfl, hb⟩; refine ⟨_, rfl, ?_⟩; have n0_ := Aside0.mk (blk_below (g := gb231) (o := .cells #[.int .u64 a0_0, .bool a0_1, .int .u64 a0_2, .bool a0_3, .int .u64 a0_4, .bool true, .int .u64 a0_6, .bool a0_7, .int .u64 a0_8, .bool a0_9] 26 (0, 0)) (by (with_reducible repeat (first | refine blk_drewN ?_ _ | refine blk_drew ?_ | refine blk_alloc ?_ _)); exact BK231.out) hb); have n1_ := Aside0.mk (below_step (by repeat (first | (with_reducible first | exact HB.out | apply below_alloc | apply pw_below_drewN | apply below_drew1 | refine below_set ?_ GE231.out) | exact HB.out)) hb); clear BK231; clear HB; have BK231 := n0_; have HB := n1_; clear n0_ n1_; (try clear hb); (try clear hb2); (try clear hk); (try clear hi); have hcz19_0 : w18.cell? ⟨gb231, 0, none⟩ = some (.int .u64 a0_0) := (blk_cell BK231.out 0).trans rfl; have hcz19_1 : w18.cell? ⟨gb231, 1, none⟩ = some (.bool a0_1) := (blk_cell BK231.out 1).trans rfl; have hcz19_2 : w18.cell? ⟨gb231, 2, none⟩ = some (.int .u64 a0_2) := (blk_cell BK231.out 2).trans rfl; have hcz19_3 : w18.cell? ⟨gb231, 3, none⟩ = some (.bool a0_3) := (blk_cell BK231.out 3).trans rfl; have hcz19_4 : w18.cell? ⟨gb231, 4, none⟩ = some (.int .u64 a0_4) := (blk_cell BK231.out 4).trans rfl; have hcz19_5 : w18.cell? ⟨gb231, 5, none⟩ = some (.bool true) := (blk_cell BK231.out 5).trans rfl; have hcz19_6 : w18.cell? ⟨gb231, 6, none⟩ = some (.int .u64 a0_6) := (blk_cell BK231.out 6).trans rfl; have hcz19_7 : w18.cell? ⟨gb231, 7, none⟩ = some (.bool a0_7) := (blk_cell BK231.out 7).trans rfl; have hcz19_8 : w18.cell? ⟨gb231, 8, none⟩ = some (.int .u64 a0_8) := (blk_cell BK231.out 8).trans rfl; have hcz19_9 : w18.cell? ⟨gb231, 9, none⟩ = some (.bool a0_9) := (blk_cell BK231.out 9).trans rfl; have hfz19_0 := blk_frozen BK231.out 0; have hfz19_1 := blk_frozen BK231.out 1; have hfz19_2 := blk_frozen BK231.out 2; have hfz19_3 := blk_frozen BK231.out 3; have hfz19_4 := blk_frozen BK231.out 4; have hfz19_5 := blk_frozen BK231.out 5; have hfz19_6 := blk_frozen BK231.out 6; have hfz19_7 := blk_frozen BK231.out 7; have hfz19_8 := blk_frozen BK231.out 8; have hfz19_9 := blk_frozen BK231.out 9) | ((with_reducible refine gate_callee (f := 10) rfl ?_); refine goesL_ (some 19) rfl rfl Tryz.func10 (by kernel_rfl) rfl #[.agg #[.int .u64 a0_0, .bool a0_1, .int .u64 a0_2, .bool a0_3, .int .u64 a0_4, .bool true, .int .u64 a0_6, .bool a0_7, .int .u64 a0_8, .bool a0_9], .int .i64 a1, .int .i64 a2] rfl (by (try simp only [List.map_toArray, List.map_cons, List.map_nil]); first | done | rfl | (simp only [List.length_drop, List.length_take]; rfl)) ?_; (with_reducible refine (day_Mask.calls a0_0 a0_1 a0_2 a0_3 a0_4 true a0_6 a0_7 a0_8 a0_9 a1 a2 t233 t234 _ A7.out).mono ?_); rintro e w20 ⟨rfl, hb⟩; refine ⟨_, rfl, ?_⟩; have n0_ := Aside0.mk (blk_below (g := gb231) (o := .cells #[.int .u64 a0_0, .bool a0_1, .int .u64 a0_2, .bool a0_3, .int .u64 a0_4, .bool true, .int .u64 a0_6, .bool a0_7, .int .u64 a0_8, .bool a0_9] 26 (0, 0)) (by (with_reducible repeat (first | refine blk_drewN ?_ _ | refine blk_drew ?_ | refine blk_alloc ?_ _)); exact BK231.out) hb); have n1_ := Aside0.mk (below_step (by repeat (first | (with_reducible first | exact HB.out | apply below_alloc | apply pw_below_drewN | apply below_drew1 | refine below_set ?_ GE231.out) | exact HB.out)) hb); clear BK231; clear HB; have BK231 := n0_; have HB := n1_; clear n0_ n1_; (try clear hb); (try clear hb2); (try clear hk); (try clear hi); have hcz21_0 : w20.cell? ⟨gb231, 0, none⟩ = some (.int .u64 a0_0) := (blk_cell BK231.out 0).trans rfl; have hcz21_1 : w20.cell? ⟨gb231, 1, none⟩ = some (.bool a0_1) := (blk_cell BK231.out 1).trans rfl; have hcz21_2 : w20.cell? ⟨gb231, 2, none⟩ = some (.int .u64 a0_2) := (blk_cell BK231.out 2).trans rfl; have hcz21_3 : w20.cell? ⟨gb231, 3, none⟩ = some (.bool a0_3) := (blk_cell BK231.out 3).trans rfl; have hcz21_4 : w20.cell? ⟨gb231, 4, none⟩ = some (.int .u64 a0_4) := (blk_cell BK231.out 4).trans rfl; have hcz21_5 : w20.cell? ⟨gb231, 5, none⟩ = some (.bool true) := (blk_cell BK231.out 5).trans rfl; have hcz21_6 : w20.cell? ⟨gb231, 6, none⟩ = some (.int .u64 a0_6) := (blk_cell BK231.out 6).trans rfl; have hcz21_7 : w20.cell? ⟨gb231, 7, none⟩ = some (.bool a0_7) := (blk_cell BK231.out 7).trans rfl; have hcz21_8 : w20.cell? ⟨gb231, 8, none⟩ = some (.int .u64 a0_8) := (blk_cell BK231.out 8).trans rfl; have hcz21_9 : w20.cell? ⟨gb231, 9, none⟩ = some (.bool a0_9) := (blk_cell BK231.out 9).trans rfl; have hfz21_0 := blk_frozen BK231.out 0; have hfz21_1 := blk_frozen BK231.out 1; have hfz21_2 := blk_frozen BK231.out 2; have hfz21_3 := blk_frozen BK231.out 3; have hfz21_4 := blk_frozen BK231.out 4; have hfz21_5 := blk_frozen BK231.out 5; have hfz21_6 := blk_frozen BK231.out 6; have hfz21_7 := blk_frozen BK231.out 7; have hfz21_8 := blk_frozen BK231.out 8; have hfz21_9 := blk_frozen BK231.out 9))
      go_ret
      exact ⟨by first | rfl | (simp [errW_none, errW_some] <;> rfl) | (simp [*, errW_none, errW_some] <;> rfl), by repeat (first | (with_reducible first | exact HB.out | apply below_alloc | apply pw_below_drewN | apply below_drew1 | refine below_set ?_ GE231.out) | exact HB.out)⟩
     ·rw [if_neg c16] at H
      have c16b0 : decide (24 < a3) = false := decide_eq_false c16
      clear c16
      replace H := Option.bind_eq_some_iff.mp H
      obtain ⟨t235, A220, H⟩ := H
      replace H : (if (wrap64 (a3 + 7)) > t235 then (some true) else (if 0 ≤ (IntKind.u64.wrap (a3)) then (if 0 ≤ (IntKind.u64.wrap (wrap64 (a3 + 7))) then (some ((Go.bits .and .u32 (shr .u32 t233 (IntKind.u64.wrap (a3))) 1) == (Go.bits .and .u32 (shr .u32 t233 (IntKind.u64.wrap (wrap64 (a3 + 7)))) 1))) else (none)) else (none))) = some r := H
      have A22 := Aside0.mk A220
      clear A220
      by_cases c23 : (wrap64 (a3 + 7)) > t235
      ·rw [if_pos c23] at H
       have c23b0 : decide (t235 < (wrap64 (a3 + 7))) = true := decide_eq_true c23
       clear c23
       obtain rfl := Option.some.inj H
       go_enter Tryz.func7, Tryz.ntmps7
       go_wp2_with (first | ((with_reducible refine gate_dst (N := 4) rfl ?_); refine box_event ?hg (N := 4) ?hd (cs := #[.int .u64 a0_0, .bool a0_1, .int .u64 a0_2, .bool a0_3, .int .u64 a0_4, .bool true, .int .u64 a0_6, .bool a0_7, .int .u64 a0_8, .bool a0_9]) (t := 26) ?hr ?_; (case hd => rfl); (case hg => rfl); (case hr => first | (go_simp; done) | (go_simp; rfl)); intro gb231 hg w24 hbox hb; have n0_ := Aside0.mk (below_step (by repeat (first | (with_reducible first | exact HB.out | apply below_alloc | apply pw_below_drewN | apply below_drew1) | exact HB.out)) hb); have n1_ := Aside0.mk (hbox); have n2_ := Aside0.mk ((by rw [hg]; exact (below_size (by repeat (first | (with_reducible first | exact HB.out | apply below_alloc | apply pw_below_drewN | apply below_drew1) | exact HB.out))) : w.heap.size ≤ gb231)); have n3_ := Aside0.mk ((by rw [hg]; exact (below_size (by repeat (first | (with_reducible first | exact HB.out | apply below_alloc | apply pw_below_drewN | apply below_drew1) | exact HB.out))) : w.heap.size ≤ gb231)); clear HB; have HB := n0_; have BK231 := n1_; have GW231 := n2_; have GE231 := n3_; clear n0_ n1_ n2_ n3_; clear hb hbox hg) | ((with_reducible refine gate_callee (f := 9) rfl ?_); refine goesL_ (some 12) rfl rfl Tryz.func9 (by kernel_rfl) rfl #[] rfl (by (try simp only [List.map_toArray, List.map_cons, List.map_nil]); first | done | rfl | (simp only [List.length_drop, List.length_take]; rfl)) ?_; (with_reducible refine (complinelaw21_works.calls  true _ (hT.keep (by repeat (first | (with_reducible first | exact HB.out | apply below_alloc | apply pw_below_drewN | apply below_drew1 | refine below_set ?_ GE231.out) | exact HB.out))) A5.out).mono ?_); rintro e w25 ⟨rfl, hb⟩; refine ⟨_, rfl, ?_⟩; have n0_ := Aside0.mk (blk_below (g := gb231) (o := .cells #[.int .u64 a0_0, .bool a0_1, .int .u64 a0_2, .bool a0_3, .int .u64 a0_4, .bool true, .int .u64 a0_6, .bool a0_7, .int .u64 a0_8, .bool a0_9] 26 (0, 0)) (by (with_reducible repeat (first | refine blk_drewN ?_ _ | refine blk_drew ?_ | refine blk_alloc ?_ _)); exact BK231.out) hb); have n1_ := Aside0.mk (below_step (by repeat (first | (with_reducible first | exact HB.out | apply below_alloc | apply pw_below_drewN | apply below_drew1 | refine below_set ?_ GE231.out) | exact HB.out)) hb); clear BK231; clear HB; have BK231 := n0_; have HB := n1_; clear n0_ n1_; (try clear hb); (try clear hb2); (try clear hk); (try clear hi); have hcz26_0 : w25.cell? ⟨gb231, 0, none⟩ = some (.int .u64 a0_0) := (blk_cell BK231.out 0).trans rfl; have hcz26_1 : w25.cell? ⟨gb231, 1, none⟩ = some (.bool a0_1) := (blk_cell BK231.out 1).trans rfl; have hcz26_2 : w25.cell? ⟨gb231, 2, none⟩ = some (.int .u64 a0_2) := (blk_cell BK231.out 2).trans rfl; have hcz26_3 : w25.cell? ⟨gb231, 3, none⟩ = some (.bool a0_3) := (blk_cell BK231.out 3).trans rfl; have hcz26_4 : w25.cell? ⟨gb231, 4, none⟩ = some (.int .u64 a0_4) := (blk_cell BK231.out 4).trans rfl; have hcz26_5 : w25.cell? ⟨gb231, 5, none⟩ = some (.bool true) := (blk_cell BK231.out 5).trans rfl; have hcz26_6 : w25.cell? ⟨gb231, 6, none⟩ = some (.int .u64 a0_6) := (blk_cell BK231.out 6).trans rfl; have hcz26_7 : w25.cell? ⟨gb231, 7, none⟩ = some (.bool a0_7) := (blk_cell BK231.out 7).trans rfl; have hcz26_8 : w25.cell? ⟨gb231, 8, none⟩ = some (.int .u64 a0_8) := (blk_cell BK231.out 8).trans rfl; have hcz26_9 : w25.cell? ⟨gb231, 9, none⟩ = some (.bool a0_9) := (blk_cell BK231.out 9).trans rfl; have hfz26_0 := blk_frozen BK231.out 0; have hfz26_1 := blk_frozen BK231.out 1; have hfz26_2 := blk_frozen BK231.out 2; have hfz26_3 := blk_frozen BK231.out 3; have hfz26_4 := blk_frozen BK231.out 4; have hfz26_5 := blk_frozen BK231.out 5; have hfz26_6 := blk_frozen BK231.out 6; have hfz26_7 := blk_frozen BK231.out 7; have hfz26_8 := blk_frozen BK231.out 8; have hfz26_9 := blk_frozen BK231.out 9) | ((with_reducible refine gate_callee (f := 10) rfl ?_); refine goesL_ (some 19) rfl rfl Tryz.func10 (by kernel_rfl) rfl #[.agg #[.int .u64 a0_0, .bool a0_1, .int .u64 a0_2, .bool a0_3, .int .u64 a0_4, .bool true, .int .u64 a0_6, .bool a0_7, .int .u64 a0_8, .bool a0_9], .int .i64 a1, .int .i64 a2] rfl (by (try simp only [List.map_toArray, List.map_cons, List.map_nil]); first | done | rfl | (simp only [List.length_drop, List.length_take]; rfl)) ?_; (with_reducible refine (day_Mask.calls a0_0 a0_1 a0_2 a0_3 a0_4 true a0_6 a0_7 a0_8 a0_9 a1 a2 t233 t234 _ A7.out).mono ?_); rintro e w27 ⟨rfl, hb⟩; refine ⟨_, rfl, ?_⟩; have n0_ := Aside0.mk (blk_below (g := gb231) (o := .cells #[.int .u64 a0_0, .bool a0_1, .int .u64 a0_2, .bool a0_3, .int .u64 a0_4, .bool true, .int .u64 a0_6, .bool a0_7, .int .u64 a0_8, .bool a0_9] 26 (0, 0)) (by (with_reducible repeat (first | refine blk_drewN ?_ _ | refine blk_drew ?_ | refine blk_alloc ?_ _)); exact BK231.out) hb); have n1_ := Aside0.mk (below_step (by repeat (first | (with_reducible first | exact HB.out | apply below_alloc | apply pw_below_drewN | apply below_drew1 | refine below_set ?_ GE231.out) | exact HB.out)) hb); clear BK231; clear HB; have BK231 := n0_; have HB := n1_; clear n0_ n1_; (try clear hb); (try clear hb2); (try clear hk); (try clear hi); have hcz28_0 : w27.cell? ⟨gb231, 0, none⟩ = some (.int .u64 a0_0) := (blk_cell BK231.out 0).trans rfl; have hcz28_1 : w27.cell? ⟨gb231, 1, none⟩ = some (.bool a0_1) := (blk_cell BK231.out 1).trans rfl; have hcz28_2 : w27.cell? ⟨gb231, 2, none⟩ = some (.int .u64 a0_2) := (blk_cell BK231.out 2).trans rfl; have hcz28_3 : w27.cell? ⟨gb231, 3, none⟩ = some (.bool a0_3) := (blk_cell BK231.out 3).trans rfl; have hcz28_4 : w27.cell? ⟨gb231, 4, none⟩ = some (.int .u64 a0_4) := (blk_cell BK231.out 4).trans rfl; have hcz28_5 : w27.cell? ⟨gb231, 5, none⟩ = some (.bool true) := (blk_cell BK231.out 5).trans rfl; have hcz28_6 : w27.cell? ⟨gb231, 6, none⟩ = some (.int .u64 a0_6) := (blk_cell BK231.out 6).trans rfl; have hcz28_7 : w27.cell? ⟨gb231, 7, none⟩ = some (.bool a0_7) := (blk_cell BK231.out 7).trans rfl; have hcz28_8 : w27.cell? ⟨gb231, 8, none⟩ = some (.int .u64 a0_8) := (blk_cell BK231.out 8).trans rfl; have hcz28_9 : w27.cell? ⟨gb231, 9, none⟩ = some (.bool a0_9) := (blk_cell BK231.out 9).trans rfl; have hfz28_0 := blk_frozen BK231.out 0; have hfz28_1 := blk_frozen BK231.out 1; have hfz28_2 := blk_frozen BK231.out 2; have hfz28_3 := blk_frozen BK231.out 3; have hfz28_4 := blk_frozen BK231.out 4; have hfz28_5 := blk_frozen BK231.out 5; have hfz28_6 := blk_frozen BK231.out 6; have hfz28_7 := blk_frozen BK231.out 7; have hfz28_8 := blk_frozen BK231.out 8; have hfz28_9 := blk_frozen BK231.out 9) | (go_at_call 18; (with_reducible refine (civil_Length.calls a1 a2 t235 _ A22.out).mono ?_); rintro e w' ⟨rfl, ⟨nd, rfl⟩⟩))
       go_ret
       exact ⟨by first | rfl | (simp [errW_none, errW_some] <;> rfl) | (simp [*, errW_none, errW_some] <;> rfl), by repeat (first | (with_reducible first | exact HB.out | apply below_alloc | apply pw_below_drewN | apply below_drew1 | refine below_set ?_ GE231.out) | exact HB.out)⟩
      ·rw [if_neg c23] at H
       have c23b0 : decide (t235 < (wrap64 (a3 + 7))) = false := decide_eq_false c23
       clear c23
       obtain ⟨ji29, hji29⟩ : ∃ j_ : Int, (IntKind.u64.wrap (a3)) = j_ := ⟨_, rfl⟩
       replace H : (if 0 ≤ (ji29) then (if 0 ≤ (IntKind.u64.wrap (wrap64 (a3 + 7))) then (some ((Go.bits .and .u32 (shr .u32 t233 (ji29)) 1) == (Go.bits .and .u32 (shr .u32 t233 (IntKind.u64.wrap (wrap64 (a3 + 7)))) 1))) else (none)) else (none)) = some r := by first | (rw [hji29] at H; exact H) | (simp only [hji29] at H ⊢; exact H)
       (try rw [hji29] at A5)
       (try rw [hji29] at A7)
       (try rw [hji29] at A22)
       by_cases c30 : 0 ≤ (ji29)
       ·rw [if_pos c30] at H
        have c30b0 := eq_true c30
        have c30b1 : decide (0 ≤ (ji29)) = true := decide_eq_true c30
        clear c30
        obtain ⟨ji31, hji31⟩ : ∃ j_ : Int, (shr .u32 t233 (ji29)) = j_ := ⟨_, rfl⟩
        replace H : (if 0 ≤ (IntKind.u64.wrap (wrap64 (a3 + 7))) then (some ((Go.bits .and .u32 (ji31) 1) == (Go.bits .and .u32 (shr .u32 t233 (IntKind.u64.wrap (wrap64 (a3 + 7)))) 1))) else (none)) = some r := by first | (rw [hji31] at H; exact H) | (simp only [hji31] at H ⊢; exact H)
        (try rw [hji31] at A5)
        (try rw [hji31] at A7)
        (try rw [hji31] at A22)
        have hji31_ : (t233 / 2 ^ min (ji29).toNat 32) = ji31 := hji31
        have hji31z : (ji29) ≤ 32 → (t233 / 2 ^ (ji29).toNat) = ji31 := shr_small hji31
        obtain ⟨ji32, hji32⟩ : ∃ j_ : Int, (IntKind.u64.wrap (wrap64 (a3 + 7))) = j_ := ⟨_, rfl⟩
        replace H : (if 0 ≤ (ji32) then (some ((Go.bits .and .u32 (ji31) 1) == (Go.bits .and .u32 (shr .u32 t233 (ji32)) 1))) else (none)) = some r := by first | (rw [hji32] at H; exact H) | (simp only [hji32] at H ⊢; exact H)
        (try rw [hji32] at A5)
        (try rw [hji32] at A7)
        (try rw [hji32] at A22)
        by_cases c33 : 0 ≤ (ji32)
        ·rw [if_pos c33] at H
         have c33b0 := eq_true c33
         have c33b1 : decide (0 ≤ (ji32)) = true := decide_eq_true c33
         clear c33
         obtain ⟨ji34, hji34⟩ : ∃ j_ : Int, (shr .u32 t233 (ji32)) = j_ := ⟨_, rfl⟩
         replace H : (some ((Go.bits .and .u32 (ji31) 1) == (Go.bits .and .u32 (ji34) 1))) = some r := by first | (rw [hji34] at H; exact H) | (simp only [hji34] at H ⊢; exact H)
         (try rw [hji34] at A5)
         (try rw [hji34] at A7)
         (try rw [hji34] at A22)
         have hji34_ : (t233 / 2 ^ min (ji32).toNat 32) = ji34 := hji34
         have hji34z : (ji32) ≤ 32 → (t233 / 2 ^ (ji32).toNat) = ji34 := shr_small hji34
         obtain rfl := Option.some.inj H
         go_enter Tryz.func7, Tryz.ntmps7
         go_wp2_with (first | ((with_reducible refine gate_dst (N := 4) rfl ?_); refine box_event ?hg (N := 4) ?hd (cs := #[.int .u64 a0_0, .bool a0_1, .int .u64 a0_2, .bool a0_3, .int .u64 a0_4, .bool true, .int .u64 a0_6, .bool a0_7, .int .u64 a0_8, .bool a0_9]) (t := 26) ?hr ?_; (case hd => rfl); (case hg => rfl); (case hr => first | (go_simp; done) | (go_simp; rfl)); intro gb231 hg w35 hbox hb; have n0_ := Aside0.mk (below_step (by repeat (first | (with_reducible first | exact HB.out | apply below_alloc | apply pw_below_drewN | apply below_drew1) | exact HB.out)) hb); have n1_ := Aside0.mk (hbox); have n2_ := Aside0.mk ((by rw [hg]; exact (below_size (by repeat (first | (with_reducible first | exact HB.out | apply below_alloc | apply pw_below_drewN | apply below_drew1) | exact HB.out))) : w.heap.size ≤ gb231)); have n3_ := Aside0.mk ((by rw [hg]; exact (below_size (by repeat (first | (with_reducible first | exact HB.out | apply below_alloc | apply pw_below_drewN | apply below_drew1) | exact HB.out))) : w.heap.size ≤ gb231)); clear HB; have HB := n0_; have BK231 := n1_; have GW231 := n2_; have GE231 := n3_; clear n0_ n1_ n2_ n3_; clear hb hbox hg) | ((with_reducible refine gate_callee (f := 9) rfl ?_); refine goesL_ (some 12) rfl rfl Tryz.func9 (by kernel_rfl) rfl #[] rfl (by (try simp only [List.map_toArray, List.map_cons, List.map_nil]); first | done | rfl | (simp only [List.length_drop, List.length_take]; rfl)) ?_; (with_reducible refine (complinelaw21_works.calls  true _ (hT.keep (by repeat (first | (with_reducible first | exact HB.out | apply below_alloc | apply pw_below_drewN | apply below_drew1 | refine below_set ?_ GE231.out) | exact HB.out))) A5.out).mono ?_); rintro e w36 ⟨rfl, hb⟩; refine ⟨_, rfl, ?_⟩; have n0_ := Aside0.mk (blk_below (g := gb231) (o := .cells #[.int .u64 a0_0, .bool a0_1, .int .u64 a0_2, .bool a0_3, .int .u64 a0_4, .bool true, .int .u64 a0_6, .bool a0_7, .int .u64 a0_8, .bool a0_9] 26 (0, 0)) (by (with_reducible repeat (first | refine blk_drewN ?_ _ | refine blk_drew ?_ | refine blk_alloc ?_ _)); exact BK231.out) hb); have n1_ := Aside0.mk (below_step (by repeat (first | (with_reducible first | exact HB.out | apply below_alloc | apply pw_below_drewN | apply below_drew1 | refine below_set ?_ GE231.out) | exact HB.out)) hb); clear BK231; clear HB; have BK231 := n0_; have HB := n1_; clear n0_ n1_; (try clear hb); (try clear hb2); (try clear hk); (try clear hi); have hcz37_0 : w36.cell? ⟨gb231, 0, none⟩ = some (.int .u64 a0_0) := (blk_cell BK231.out 0).trans rfl; have hcz37_1 : w36.cell? ⟨gb231, 1, none⟩ = some (.bool a0_1) := (blk_cell BK231.out 1).trans rfl; have hcz37_2 : w36.cell? ⟨gb231, 2, none⟩ = some (.int .u64 a0_2) := (blk_cell BK231.out 2).trans rfl; have hcz37_3 : w36.cell? ⟨gb231, 3, none⟩ = some (.bool a0_3) := (blk_cell BK231.out 3).trans rfl; have hcz37_4 : w36.cell? ⟨gb231, 4, none⟩ = some (.int .u64 a0_4) := (blk_cell BK231.out 4).trans rfl; have hcz37_5 : w36.cell? ⟨gb231, 5, none⟩ = some (.bool true) := (blk_cell BK231.out 5).trans rfl; have hcz37_6 : w36.cell? ⟨gb231, 6, none⟩ = some (.int .u64 a0_6) := (blk_cell BK231.out 6).trans rfl; have hcz37_7 : w36.cell? ⟨gb231, 7, none⟩ = some (.bool a0_7) := (blk_cell BK231.out 7).trans rfl; have hcz37_8 : w36.cell? ⟨gb231, 8, none⟩ = some (.int .u64 a0_8) := (blk_cell BK231.out 8).trans rfl; have hcz37_9 : w36.cell? ⟨gb231, 9, none⟩ = some (.bool a0_9) := (blk_cell BK231.out 9).trans rfl; have hfz37_0 := blk_frozen BK231.out 0; have hfz37_1 := blk_frozen BK231.out 1; have hfz37_2 := blk_frozen BK231.out 2; have hfz37_3 := blk_frozen BK231.out 3; have hfz37_4 := blk_frozen BK231.out 4; have hfz37_5 := blk_frozen BK231.out 5; have hfz37_6 := blk_frozen BK231.out 6; have hfz37_7 := blk_frozen BK231.out 7; have hfz37_8 := blk_frozen BK231.out 8; have hfz37_9 := blk_frozen BK231.out 9) | ((with_reducible refine gate_callee (f := 10) rfl ?_); refine goesL_ (some 19) rfl rfl Tryz.func10 (by kernel_rfl) rfl #[.agg #[.int .u64 a0_0, .bool a0_1, .int .u64 a0_2, .bool a0_3, .int .u64 a0_4, .bool true, .int .u64 a0_6, .bool a0_7, .int .u64 a0_8, .bool a0_9], .int .i64 a1, .int .i64 a2] rfl (by (try simp only [List.map_toArray, List.map_cons, List.map_nil]); first | done | rfl | (simp only [List.length_drop, List.length_take]; rfl)) ?_; (with_reducible refine (day_Mask.calls a0_0 a0_1 a0_2 a0_3 a0_4 true a0_6 a0_7 a0_8 a0_9 a1 a2 t233 t234 _ A7.out).mono ?_); rintro e w38 ⟨rfl, hb⟩; refine ⟨_, rfl, ?_⟩; have n0_ := Aside0.mk (blk_below (g := gb231) (o := .cells #[.int .u64 a0_0, .bool a0_1, .int .u64 a0_2, .bool a0_3, .int .u64 a0_4, .bool true, .int .u64 a0_6, .bool a0_7, .int .u64 a0_8, .bool a0_9] 26 (0, 0)) (by (with_reducible repeat (first | refine blk_drewN ?_ _ | refine blk_drew ?_ | refine blk_alloc ?_ _)); exact BK231.out) hb); have n1_ := Aside0.mk (below_step (by repeat (first | (with_reducible first | exact HB.out | apply below_alloc | apply pw_below_drewN | apply below_drew1 | refine below_set ?_ GE231.out) | exact HB.out)) hb); clear BK231; clear HB; have BK231 := n0_; have HB := n1_; clear n0_ n1_; (try clear hb); (try clear hb2); (try clear hk); (try clear hi); have hcz39_0 : w38.cell? ⟨gb231, 0, none⟩ = some (.int .u64 a0_0) := (blk_cell BK231.out 0).trans rfl; have hcz39_1 : w38.cell? ⟨gb231, 1, none⟩ = some (.bool a0_1) := (blk_cell BK231.out 1).trans rfl; have hcz39_2 : w38.cell? ⟨gb231, 2, none⟩ = some (.int .u64 a0_2) := (blk_cell BK231.out 2).trans rfl; have hcz39_3 : w38.cell? ⟨gb231, 3, none⟩ = some (.bool a0_3) := (blk_cell BK231.out 3).trans rfl; have hcz39_4 : w38.cell? ⟨gb231, 4, none⟩ = some (.int .u64 a0_4) := (blk_cell BK231.out 4).trans rfl; have hcz39_5 : w38.cell? ⟨gb231, 5, none⟩ = some (.bool true) := (blk_cell BK231.out 5).trans rfl; have hcz39_6 : w38.cell? ⟨gb231, 6, none⟩ = some (.int .u64 a0_6) := (blk_cell BK231.out 6).trans rfl; have hcz39_7 : w38.cell? ⟨gb231, 7, none⟩ = some (.bool a0_7) := (blk_cell BK231.out 7).trans rfl; have hcz39_8 : w38.cell? ⟨gb231, 8, none⟩ = some (.int .u64 a0_8) := (blk_cell BK231.out 8).trans rfl; have hcz39_9 : w38.cell? ⟨gb231, 9, none⟩ = some (.bool a0_9) := (blk_cell BK231.out 9).trans rfl; have hfz39_0 := blk_frozen BK231.out 0; have hfz39_1 := blk_frozen BK231.out 1; have hfz39_2 := blk_frozen BK231.out 2; have hfz39_3 := blk_frozen BK231.out 3; have hfz39_4 := blk_frozen BK231.out 4; have hfz39_5 := blk_frozen BK231.out 5; have hfz39_6 := blk_frozen BK231.out 6; have hfz39_7 := blk_frozen BK231.out 7; have hfz39_8 := blk_frozen BK231.out 8; have hfz39_9 := blk_frozen BK231.out 9) | (go_at_call 18; (with_reducible refine (civil_Length.calls a1 a2 t235 _ A22.out).mono ?_); rintro e w' ⟨rfl, ⟨nd, rfl⟩⟩))
         go_ret
         exact ⟨by first | rfl | (simp [errW_none, errW_some] <;> rfl) | (simp only [← hji29, ← hji31, ← hji32, ← hji34]; first | rfl | (simp [errW_none, errW_some] <;> rfl)) | (simp [*, errW_none, errW_some] <;> rfl), by repeat (first | (with_reducible first | exact HB.out | apply below_alloc | apply pw_below_drewN | apply below_drew1 | refine below_set ?_ GE231.out) | exact HB.out)⟩
        ·rw [if_neg c33] at H
         exact absurd H (by simp)
       ·rw [if_neg c30] at H
        exact absurd H (by simp)
   ·replace c9 := Bool.eq_false_iff.mpr c9
    subst c9
    have H1 : (some true) = some r := by rw [if_neg (show ¬ (false = true) by decide)] at H; exact H
    clear H
    have H := H1
    clear H1
    obtain rfl := Option.some.inj H
    go_enter Tryz.func7, Tryz.ntmps7
    go_wp2_with (first | ((with_reducible refine gate_dst (N := 4) rfl ?_); refine box_event ?hg (N := 4) ?hd (cs := #[.int .u64 a0_0, .bool a0_1, .int .u64 a0_2, .bool a0_3, .int .u64 a0_4, .bool false, .int .u64 a0_6, .bool a0_7, .int .u64 a0_8, .bool a0_9]) (t := 26) ?hr ?_; (case hd => rfl); (case hg => rfl); (case hr => first | (go_simp; done) | (go_simp; rfl)); intro gb231 hg w40 hbox hb; have n0_ := Aside0.mk (below_step (by repeat (first | (with_reducible first | exact HB.out | apply below_alloc | apply pw_below_drewN | apply below_drew1) | exact HB.out)) hb); have n1_ := Aside0.mk (hbox); have n2_ := Aside0.mk ((by rw [hg]; exact (below_size (by repeat (first | (with_reducible first | exact HB.out | apply below_alloc | apply pw_below_drewN | apply below_drew1) | exact HB.out))) : w.heap.size ≤ gb231)); have n3_ := Aside0.mk ((by rw [hg]; exact (below_size (by repeat (first | (with_reducible first | exact HB.out | apply below_alloc | apply pw_below_drewN | apply below_drew1) | exact HB.out))) : w.heap.size ≤ gb231)); clear HB; have HB := n0_; have BK231 := n1_; have GW231 := n2_; have GE231 := n3_; clear n0_ n1_ n2_ n3_; clear hb hbox hg) | ((with_reducible refine gate_callee (f := 9) rfl ?_); refine goesL_ (some 12) rfl rfl Tryz.func9 (by kernel_rfl) rfl #[] rfl (by (try simp only [List.map_toArray, List.map_cons, List.map_nil]); first | done | rfl | (simp only [List.length_drop, List.length_take]; rfl)) ?_; (with_reducible refine (complinelaw21_works.calls  true _ (hT.keep (by repeat (first | (with_reducible first | exact HB.out | apply below_alloc | apply pw_below_drewN | apply below_drew1 | refine below_set ?_ GE231.out) | exact HB.out))) A5.out).mono ?_); rintro e w41 ⟨rfl, hb⟩; refine ⟨_, rfl, ?_⟩; have n0_ := Aside0.mk (blk_below (g := gb231) (o := .cells #[.int .u64 a0_0, .bool a0_1, .int .u64 a0_2, .bool a0_3, .int .u64 a0_4, .bool false, .int .u64 a0_6, .bool a0_7, .int .u64 a0_8, .bool a0_9] 26 (0, 0)) (by (with_reducible repeat (first | refine blk_drewN ?_ _ | refine blk_drew ?_ | refine blk_alloc ?_ _)); exact BK231.out) hb); have n1_ := Aside0.mk (below_step (by repeat (first | (with_reducible first | exact HB.out | apply below_alloc | apply pw_below_drewN | apply below_drew1 | refine below_set ?_ GE231.out) | exact HB.out)) hb); clear BK231; clear HB; have BK231 := n0_; have HB := n1_; clear n0_ n1_; (try clear hb); (try clear hb2); (try clear hk); (try clear hi); have hcz42_0 : w41.cell? ⟨gb231, 0, none⟩ = some (.int .u64 a0_0) := (blk_cell BK231.out 0).trans rfl; have hcz42_1 : w41.cell? ⟨gb231, 1, none⟩ = some (.bool a0_1) := (blk_cell BK231.out 1).trans rfl; have hcz42_2 : w41.cell? ⟨gb231, 2, none⟩ = some (.int .u64 a0_2) := (blk_cell BK231.out 2).trans rfl; have hcz42_3 : w41.cell? ⟨gb231, 3, none⟩ = some (.bool a0_3) := (blk_cell BK231.out 3).trans rfl; have hcz42_4 : w41.cell? ⟨gb231, 4, none⟩ = some (.int .u64 a0_4) := (blk_cell BK231.out 4).trans rfl; have hcz42_5 : w41.cell? ⟨gb231, 5, none⟩ = some (.bool false) := (blk_cell BK231.out 5).trans rfl; have hcz42_6 : w41.cell? ⟨gb231, 6, none⟩ = some (.int .u64 a0_6) := (blk_cell BK231.out 6).trans rfl; have hcz42_7 : w41.cell? ⟨gb231, 7, none⟩ = some (.bool a0_7) := (blk_cell BK231.out 7).trans rfl; have hcz42_8 : w41.cell? ⟨gb231, 8, none⟩ = some (.int .u64 a0_8) := (blk_cell BK231.out 8).trans rfl; have hcz42_9 : w41.cell? ⟨gb231, 9, none⟩ = some (.bool a0_9) := (blk_cell BK231.out 9).trans rfl; have hfz42_0 := blk_frozen BK231.out 0; have hfz42_1 := blk_frozen BK231.out 1; have hfz42_2 := blk_frozen BK231.out 2; have hfz42_3 := blk_frozen BK231.out 3; have hfz42_4 := blk_frozen BK231.out 4; have hfz42_5 := blk_frozen BK231.out 5; have hfz42_6 := blk_frozen BK231.out 6; have hfz42_7 := blk_frozen BK231.out 7; have hfz42_8 := blk_frozen BK231.out 8; have hfz42_9 := blk_frozen BK231.out 9) | ((with_reducible refine gate_callee (f := 10) rfl ?_); refine goesL_ (some 19) rfl rfl Tryz.func10 (by kernel_rfl) rfl #[.agg #[.int .u64 a0_0, .bool a0_1, .int .u64 a0_2, .bool a0_3, .int .u64 a0_4, .bool false, .int .u64 a0_6, .bool a0_7, .int .u64 a0_8, .bool a0_9], .int .i64 a1, .int .i64 a2] rfl (by (try simp only [List.map_toArray, List.map_cons, List.map_nil]); first | done | rfl | (simp only [List.length_drop, List.length_take]; rfl)) ?_; (with_reducible refine (day_Mask.calls a0_0 a0_1 a0_2 a0_3 a0_4 false a0_6 a0_7 a0_8 a0_9 a1 a2 t233 t234 _ A7.out).mono ?_); rintro e w43 ⟨rfl, hb⟩; refine ⟨_, rfl, ?_⟩; have n0_ := Aside0.mk (blk_below (g := gb231) (o := .cells #[.int .u64 a0_0, .bool a0_1, .int .u64 a0_2, .bool a0_3, .int .u64 a0_4, .bool false, .int .u64 a0_6, .bool a0_7, .int .u64 a0_8, .bool a0_9] 26 (0, 0)) (by (with_reducible repeat (first | refine blk_drewN ?_ _ | refine blk_drew ?_ | refine blk_alloc ?_ _)); exact BK231.out) hb); have n1_ := Aside0.mk (below_step (by repeat (first | (with_reducible first | exact HB.out | apply below_alloc | apply pw_below_drewN | apply below_drew1 | refine below_set ?_ GE231.out) | exact HB.out)) hb); clear BK231; clear HB; have BK231 := n0_; have HB := n1_; clear n0_ n1_; (try clear hb); (try clear hb2); (try clear hk); (try clear hi); have hcz44_0 : w43.cell? ⟨gb231, 0, none⟩ = some (.int .u64 a0_0) := (blk_cell BK231.out 0).trans rfl; have hcz44_1 : w43.cell? ⟨gb231, 1, none⟩ = some (.bool a0_1) := (blk_cell BK231.out 1).trans rfl; have hcz44_2 : w43.cell? ⟨gb231, 2, none⟩ = some (.int .u64 a0_2) := (blk_cell BK231.out 2).trans rfl; have hcz44_3 : w43.cell? ⟨gb231, 3, none⟩ = some (.bool a0_3) := (blk_cell BK231.out 3).trans rfl; have hcz44_4 : w43.cell? ⟨gb231, 4, none⟩ = some (.int .u64 a0_4) := (blk_cell BK231.out 4).trans rfl; have hcz44_5 : w43.cell? ⟨gb231, 5, none⟩ = some (.bool false) := (blk_cell BK231.out 5).trans rfl; have hcz44_6 : w43.cell? ⟨gb231, 6, none⟩ = some (.int .u64 a0_6) := (blk_cell BK231.out 6).trans rfl; have hcz44_7 : w43.cell? ⟨gb231, 7, none⟩ = some (.bool a0_7) := (blk_cell BK231.out 7).trans rfl; have hcz44_8 : w43.cell? ⟨gb231, 8, none⟩ = some (.int .u64 a0_8) := (blk_cell BK231.out 8).trans rfl; have hcz44_9 : w43.cell? ⟨gb231, 9, none⟩ = some (.bool a0_9) := (blk_cell BK231.out 9).trans rfl; have hfz44_0 := blk_frozen BK231.out 0; have hfz44_1 := blk_frozen BK231.out 1; have hfz44_2 := blk_frozen BK231.out 2; have hfz44_3 := blk_frozen BK231.out 3; have hfz44_4 := blk_frozen BK231.out 4; have hfz44_5 := blk_frozen BK231.out 5; have hfz44_6 := blk_frozen BK231.out 6; have hfz44_7 := blk_frozen BK231.out 7; have hfz44_8 := blk_frozen BK231.out 8; have hfz44_9 := blk_frozen BK231.out 9))
    go_ret
    exact ⟨by first | rfl | (simp [errW_none, errW_some] <;> rfl) | (simp [*, errW_none, errW_some] <;> rfl), by repeat (first | (with_reducible first | exact HB.out | apply below_alloc | apply pw_below_drewN | apply below_drew1 | refine below_set ?_ GE231.out) | exact HB.out)⟩
  ·rw [if_neg c8] at H
   have c8b0 : (t234 == 0) = false := beq_eq_false_iff_ne.mpr c8
   have c8b1 : (t234 != 0) = true := bne_iff_ne.mpr c8
   obtain rfl := Option.some.inj H
   go_enter Tryz.func7, Tryz.ntmps7
   go_wp2_with (first | ((with_reducible refine gate_dst (N := 4) rfl ?_); refine box_event ?hg (N := 4) ?hd (cs := #[.int .u64 a0_0, .bool a0_1, .int .u64 a0_2, .bool a0_3, .int .u64 a0_4, .bool a0_5, .int .u64 a0_6, .bool a0_7, .int .u64 a0_8, .bool a0_9]) (t := 26) ?hr ?_; (case hd => rfl); (case hg => rfl); (case hr => first | (go_simp; done) | (go_simp; rfl)); intro gb231 hg w45 hbox hb; have n0_ := Aside0.mk (below_step (by repeat (first | (with_reducible first | exact HB.out | apply below_alloc | apply pw_below_drewN | apply below_drew1) | exact HB.out)) hb); have n1_ := Aside0.mk (hbox); have n2_ := Aside0.mk ((by rw [hg]; exact (below_size (by repeat (first | (with_reducible first | exact HB.out | apply below_alloc | apply pw_below_drewN | apply below_drew1) | exact HB.out))) : w.heap.size ≤ gb231)); have n3_ := Aside0.mk ((by rw [hg]; exact (below_size (by repeat (first | (with_reducible first | exact HB.out | apply below_alloc | apply pw_below_drewN | apply below_drew1) | exact HB.out))) : w.heap.size ≤ gb231)); clear HB; have HB := n0_; have BK231 := n1_; have GW231 := n2_; have GE231 := n3_; clear n0_ n1_ n2_ n3_; clear hb hbox hg) | ((with_reducible refine gate_callee (f := 9) rfl ?_); refine goesL_ (some 12) rfl rfl Tryz.func9 (by kernel_rfl) rfl #[] rfl (by (try simp only [List.map_toArray, List.map_cons, List.map_nil]); first | done | rfl | (simp only [List.length_drop, List.length_take]; rfl)) ?_; (with_reducible refine (complinelaw21_works.calls  true _ (hT.keep (by repeat (first | (with_reducible first | exact HB.out | apply below_alloc | apply pw_below_drewN | apply below_drew1 | refine below_set ?_ GE231.out) | exact HB.out))) A5.out).mono ?_); rintro e w46 ⟨rfl, hb⟩; refine ⟨_, rfl, ?_⟩; have n0_ := Aside0.mk (blk_below (g := gb231) (o := .cells #[.int .u64 a0_0, .bool a0_1, .int .u64 a0_2, .bool a0_3, .int .u64 a0_4, .bool a0_5, .int .u64 a0_6, .bool a0_7, .int .u64 a0_8, .bool a0_9] 26 (0, 0)) (by (with_reducible repeat (first | refine blk_drewN ?_ _ | refine blk_drew ?_ | refine blk_alloc ?_ _)); exact BK231.out) hb); have n1_ := Aside0.mk (below_step (by repeat (first | (with_reducible first | exact HB.out | apply below_alloc | apply pw_below_drewN | apply below_drew1 | refine below_set ?_ GE231.out) | exact HB.out)) hb); clear BK231; clear HB; have BK231 := n0_; have HB := n1_; clear n0_ n1_; (try clear hb); (try clear hb2); (try clear hk); (try clear hi); have hcz47_0 : w46.cell? ⟨gb231, 0, none⟩ = some (.int .u64 a0_0) := (blk_cell BK231.out 0).trans rfl; have hcz47_1 : w46.cell? ⟨gb231, 1, none⟩ = some (.bool a0_1) := (blk_cell BK231.out 1).trans rfl; have hcz47_2 : w46.cell? ⟨gb231, 2, none⟩ = some (.int .u64 a0_2) := (blk_cell BK231.out 2).trans rfl; have hcz47_3 : w46.cell? ⟨gb231, 3, none⟩ = some (.bool a0_3) := (blk_cell BK231.out 3).trans rfl; have hcz47_4 : w46.cell? ⟨gb231, 4, none⟩ = some (.int .u64 a0_4) := (blk_cell BK231.out 4).trans rfl; have hcz47_5 : w46.cell? ⟨gb231, 5, none⟩ = some (.bool a0_5) := (blk_cell BK231.out 5).trans rfl; have hcz47_6 : w46.cell? ⟨gb231, 6, none⟩ = some (.int .u64 a0_6) := (blk_cell BK231.out 6).trans rfl; have hcz47_7 : w46.cell? ⟨gb231, 7, none⟩ = some (.bool a0_7) := (blk_cell BK231.out 7).trans rfl; have hcz47_8 : w46.cell? ⟨gb231, 8, none⟩ = some (.int .u64 a0_8) := (blk_cell BK231.out 8).trans rfl; have hcz47_9 : w46.cell? ⟨gb231, 9, none⟩ = some (.bool a0_9) := (blk_cell BK231.out 9).trans rfl; have hfz47_0 := blk_frozen BK231.out 0; have hfz47_1 := blk_frozen BK231.out 1; have hfz47_2 := blk_frozen BK231.out 2; have hfz47_3 := blk_frozen BK231.out 3; have hfz47_4 := blk_frozen BK231.out 4; have hfz47_5 := blk_frozen BK231.out 5; have hfz47_6 := blk_frozen BK231.out 6; have hfz47_7 := blk_frozen BK231.out 7; have hfz47_8 := blk_frozen BK231.out 8; have hfz47_9 := blk_frozen BK231.out 9) | ((with_reducible refine gate_callee (f := 10) rfl ?_); refine goesL_ (some 19) rfl rfl Tryz.func10 (by kernel_rfl) rfl #[.agg #[.int .u64 a0_0, .bool a0_1, .int .u64 a0_2, .bool a0_3, .int .u64 a0_4, .bool a0_5, .int .u64 a0_6, .bool a0_7, .int .u64 a0_8, .bool a0_9], .int .i64 a1, .int .i64 a2] rfl (by (try simp only [List.map_toArray, List.map_cons, List.map_nil]); first | done | rfl | (simp only [List.length_drop, List.length_take]; rfl)) ?_; (with_reducible refine (day_Mask.calls a0_0 a0_1 a0_2 a0_3 a0_4 a0_5 a0_6 a0_7 a0_8 a0_9 a1 a2 t233 t234 _ A7.out).mono ?_); rintro e w48 ⟨rfl, hb⟩; refine ⟨_, rfl, ?_⟩; have n0_ := Aside0.mk (blk_below (g := gb231) (o := .cells #[.int .u64 a0_0, .bool a0_1, .int .u64 a0_2, .bool a0_3, .int .u64 a0_4, .bool a0_5, .int .u64 a0_6, .bool a0_7, .int .u64 a0_8, .bool a0_9] 26 (0, 0)) (by (with_reducible repeat (first | refine blk_drewN ?_ _ | refine blk_drew ?_ | refine blk_alloc ?_ _)); exact BK231.out) hb); have n1_ := Aside0.mk (below_step (by repeat (first | (with_reducible first | exact HB.out | apply below_alloc | apply pw_below_drewN | apply below_drew1 | refine below_set ?_ GE231.out) | exact HB.out)) hb); clear BK231; clear HB; have BK231 := n0_; have HB := n1_; clear n0_ n1_; (try clear hb); (try clear hb2); (try clear hk); (try clear hi)))
   go_ret
   exact ⟨by first | rfl | (simp [errW_none, errW_some] <;> rfl) | (simp [*, errW_none, errW_some] <;> rfl), by repeat (first | (with_reducible first | exact HB.out | apply below_alloc | apply pw_below_drewN | apply below_drew1 | refine below_set ?_ GE231.out) | exact HB.out)⟩
 ·replace c6 := Bool.eq_false_iff.mpr c6
  subst c6
  have H1 : (some false) = some r := by rw [if_neg (show ¬ (false = true) by decide)] at H; exact H
  clear H
  have H := H1
  clear H1
  obtain rfl := Option.some.inj H
  go_enter Tryz.func7, Tryz.ntmps7
  go_wp2_with (first | ((with_reducible refine gate_dst (N := 4) rfl ?_); refine box_event ?hg (N := 4) ?hd (cs := #[.int .u64 a0_0, .bool a0_1, .int .u64 a0_2, .bool a0_3, .int .u64 a0_4, .bool a0_5, .int .u64 a0_6, .bool a0_7, .int .u64 a0_8, .bool a0_9]) (t := 26) ?hr ?_; (case hd => rfl); (case hg => rfl); (case hr => first | (go_simp; done) | (go_simp; rfl)); intro gb231 hg w49 hbox hb; have n0_ := Aside0.mk (below_step (by repeat (first | (with_reducible first | exact HB.out | apply below_alloc | apply pw_below_drewN | apply below_drew1) | exact HB.out)) hb); have n1_ := Aside0.mk (hbox); have n2_ := Aside0.mk ((by rw [hg]; exact (below_size (by repeat (first | (with_reducible first | exact HB.out | apply below_alloc | apply pw_below_drewN | apply below_drew1) | exact HB.out))) : w.heap.size ≤ gb231)); have n3_ := Aside0.mk ((by rw [hg]; exact (below_size (by repeat (first | (with_reducible first | exact HB.out | apply below_alloc | apply pw_below_drewN | apply below_drew1) | exact HB.out))) : w.heap.size ≤ gb231)); clear HB; have HB := n0_; have BK231 := n1_; have GW231 := n2_; have GE231 := n3_; clear n0_ n1_ n2_ n3_; clear hb hbox hg) | ((with_reducible refine gate_callee (f := 9) rfl ?_); refine goesL_ (some 12) rfl rfl Tryz.func9 (by kernel_rfl) rfl #[] rfl (by (try simp only [List.map_toArray, List.map_cons, List.map_nil]); first | done | rfl | (simp only [List.length_drop, List.length_take]; rfl)) ?_; (with_reducible refine (complinelaw21_works.calls  false _ (hT.keep (by repeat (first | (with_reducible first | exact HB.out | apply below_alloc | apply pw_below_drewN | apply below_drew1 | refine below_set ?_ GE231.out) | exact HB.out))) A5.out).mono ?_); rintro e w50 ⟨rfl, hb⟩; refine ⟨_, rfl, ?_⟩; have n0_ := Aside0.mk (blk_below (g := gb231) (o := .cells #[.int .u64 a0_0, .bool a0_1, .int .u64 a0_2, .bool a0_3, .int .u64 a0_4, .bool a0_5, .int .u64 a0_6, .bool a0_7, .int .u64 a0_8, .bool a0_9] 26 (0, 0)) (by (with_reducible repeat (first | refine blk_drewN ?_ _ | refine blk_drew ?_ | refine blk_alloc ?_ _)); exact BK231.out) hb); have n1_ := Aside0.mk (below_step (by repeat (first | (with_reducible first | exact HB.out | apply below_alloc | apply pw_below_drewN | apply below_drew1 | refine below_set ?_ GE231.out) | exact HB.out)) hb); clear BK231; clear HB; have BK231 := n0_; have HB := n1_; clear n0_ n1_; (try clear hb); (try clear hb2); (try clear hk); (try clear hi)))
  go_ret
  exact ⟨by first | rfl | (simp [errW_none, errW_some] <;> rfl) | (simp [*, errW_none, errW_some] <;> rfl), by repeat (first | (with_reducible first | exact HB.out | apply below_alloc | apply pw_below_drewN | apply below_drew1 | refine below_set ?_ GE231.out) | exact HB.out)⟩

/-! ### field_All: function 44 -/
def field_All.f (a0 : Int) : Option (Int × Bool × Int) := (field_limits.f a0).bind fun bt237 => (if bt237.2.2 = 0 then ((field_every.f bt237.1 bt237.2.1).bind fun t240 => (some (t240, true, 0))) else (some (0, false, bt237.2.2)))
set_option maxHeartbeats 8000000 in
set_option maxRecDepth 100000 in
theorem field_All.calls (a0 : Int) (r1 : Int) (r2 : Bool) (r3 : Int) (w : World) (h : field_All.f a0 = some (r1, r2, r3)) :
  Calls Tryz.prog 44 #[.int .i64 a0] w fun e w' => e = .returned (.tuple #[.agg #[.int .u64 r1, .bool r2], .int .i64 r3]) ∧ Below w.heap.size w w' := by
 have hu24 := Tryz.underlying24
 have HB := Aside0.mk (Below.refl w.heap.size w)
 have H : ((field_limits.f a0).bind fun bt237 => (if bt237.2.2 = 0 then ((field_every.f bt237.1 bt237.2.1).bind fun t240 => (some (t240, true, 0))) else (some (0, false, bt237.2.2)))) = some (r1, r2, r3) := h
 clear h
 replace H := Option.bind_eq_some_iff.mp H
 obtain ⟨⟨t237, t238, t239⟩, A20, H⟩ := H
 replace H : (if t239 = 0 then ((field_every.f t237 t238).bind fun t240 => (some (t240, true, 0))) else (some (0, false, t239))) = some (r1, r2, r3) := H
 have A2 := Aside0.mk A20
 clear A20
 by_cases c3 : t239 = 0
 ·rw [if_pos c3] at H
  have c3b0 : (t239 == 0) = true := beq_iff_eq.mpr c3
  have c3b1 : (t239 != 0) = false := bne_eq_false_iff_eq.mpr c3
  clear c3
  replace H := Option.bind_eq_some_iff.mp H
  obtain ⟨t240, A40, H⟩ := H
  replace H : (some (t240, true, 0)) = some (r1, r2, r3) := H
  have A4 := Aside0.mk A40
  clear A40
  simp only [Option.some.injEq, Prod.mk.injEq] at H
  obtain ⟨rfl, rfl, rfl⟩ := H
  go_enter Tryz.func44, Tryz.ntmps44
  go_wp2_with (first | ((with_reducible refine gate_dst (N := 2) rfl ?_); refine box_event ?hg (N := 2) ?hd (cs := #[.int .u64 0, .bool false]) (t := 24) ?hr ?_; (case hd => rfl); (case hg => rfl); (case hr => first | (go_simp; done) | (go_simp; rfl)); intro gb236 hg w5 hbox hb; have n0_ := Aside0.mk (below_step (by repeat (first | (with_reducible first | exact HB.out | apply below_alloc | apply pw_below_drewN | apply below_drew1) | exact HB.out)) hb); have n1_ := Aside0.mk (hbox); have n2_ := Aside0.mk ((by rw [hg]; exact (below_size (by repeat (first | (with_reducible first | exact HB.out | apply below_alloc | apply pw_below_drewN | apply below_drew1) | exact HB.out))) : w.heap.size ≤ gb236)); have n3_ := Aside0.mk ((by rw [hg]; exact (below_size (by repeat (first | (with_reducible first | exact HB.out | apply below_alloc | apply pw_below_drewN | apply below_drew1) | exact HB.out))) : w.heap.size ≤ gb236)); clear HB; have HB := n0_; have BK236 := n1_; have GW236 := n2_; have GE236 := n3_; clear n0_ n1_ n2_ n3_; clear hb hbox hg) | ((with_reducible refine gate_callee (f := 68) rfl ?_); refine goesL_ (some 9) rfl rfl Tryz.func68 (by kernel_rfl) rfl #[.int .i64 a0] rfl (by (try simp only [List.map_toArray, List.map_cons, List.map_nil]); first | done | rfl | (simp only [List.length_drop, List.length_take]; rfl)) ?_; (with_reducible refine (field_limits.calls a0 t237 t238 t239 _ A2.out).mono ?_); rintro e w' ⟨rfl, ⟨nd, rfl⟩⟩; refine ⟨_, rfl, ?_⟩; (try (rw [drewN_self w5]; generalize hq_ : World.drewN w5 _ = w5; have n0_ : Aside0 (w5.heap[gb236]? = some (.cells #[.int .u64 0, .bool false] 24 (0, 0))) := ⟨by rw [← hq_]; exact (by (with_reducible repeat (first | refine blk_drewN ?_ _ | refine blk_drew ?_ | refine blk_alloc ?_ _)); exact BK236.out)⟩; have n1_ : Aside0 (Below w.heap.size w w5) := ⟨by rw [← hq_]; exact (by repeat (first | (with_reducible first | exact HB.out | apply below_alloc | apply pw_below_drewN | apply below_drew1 | refine below_set ?_ GE236.out) | exact HB.out))⟩; clear BK236 HB hq_; have BK236 := n0_; have HB := n1_; clear n0_ n1_))) | ((with_reducible refine gate_callee (f := 69) rfl ?_); refine goesL_ (some 19) rfl rfl Tryz.func69 (by kernel_rfl) rfl #[.int .i64 t237, .int .i64 t238] rfl (by (try simp only [List.map_toArray, List.map_cons, List.map_nil]); first | done | rfl | (simp only [List.length_drop, List.length_take]; rfl)) ?_; (with_reducible refine (field_every.calls t237 t238 t240 _ A4.out).mono ?_); rintro e w' ⟨rfl, ⟨nd, rfl⟩⟩; refine ⟨_, rfl, ?_⟩; (try (rw [drewN_self w5]; generalize hq_ : World.drewN w5 _ = w5; have n0_ : Aside0 (w5.heap[gb236]? = some (.cells #[.int .u64 0, .bool false] 24 (0, 0))) := ⟨by rw [← hq_]; exact (by (with_reducible repeat (first | refine blk_drewN ?_ _ | refine blk_drew ?_ | refine blk_alloc ?_ _)); exact BK236.out)⟩; have n1_ : Aside0 (Below w.heap.size w w5) := ⟨by rw [← hq_]; exact (by repeat (first | (with_reducible first | exact HB.out | apply below_alloc | apply pw_below_drewN | apply below_drew1 | refine below_set ?_ GE236.out) | exact HB.out))⟩; clear BK236 HB hq_; have BK236 := n0_; have HB := n1_; clear n0_ n1_)); have hcz6_0 : w5.cell? ⟨gb236, 0, none⟩ = some (.int .u64 0) := (blk_cell BK236.out 0).trans rfl; have hcz6_1 : w5.cell? ⟨gb236, 1, none⟩ = some (.bool false) := (blk_cell BK236.out 1).trans rfl; have hfz6_0 := blk_frozen BK236.out 0; have hfz6_1 := blk_frozen BK236.out 1))
  refine bodyPost_ret (results_ct rfl _ _ gb236 24 #[.int .u64 t240, .bool true] (0, 0) _ rfl (by (with_reducible repeat (first | refine blk_drewN ?_ _ | refine blk_drew ?_ | refine blk_alloc ?_ _)); refine blk_put (cs := #[.int .u64 t240, .bool false]) ?_ 1 _ rfl; (with_reducible repeat (first | refine blk_drewN ?_ _ | refine blk_drew ?_ | refine blk_alloc ?_ _)); refine blk_put (cs := #[.int .u64 0, .bool false]) ?_ 0 _ rfl; (with_reducible repeat (first | refine blk_drewN ?_ _ | refine blk_drew ?_ | refine blk_alloc ?_ _)); exact BK236.out) Tryz.underlying24 rfl (by kernel_rfl)) rfl ?_
  exact ⟨by first | rfl | (simp [errW_none, errW_some] <;> rfl) | (simp [*, errW_none, errW_some] <;> rfl), by repeat (first | (with_reducible first | exact HB.out | apply below_alloc | apply pw_below_drewN | apply below_drew1 | refine below_set ?_ GE236.out) | exact HB.out)⟩
 ·rw [if_neg c3] at H
  have c3b0 : (t239 == 0) = false := beq_eq_false_iff_ne.mpr c3
  have c3b1 : (t239 != 0) = true := bne_iff_ne.mpr c3
  simp only [Option.some.injEq, Prod.mk.injEq] at H
  obtain ⟨rfl, rfl, rfl⟩ := H
  go_enter Tryz.func44, Tryz.ntmps44
  go_wp2_with (first | ((with_reducible refine gate_dst (N := 2) rfl ?_); refine box_event ?hg (N := 2) ?hd (cs := #[.int .u64 0, .bool false]) (t := 24) ?hr ?_; (case hd => rfl); (case hg => rfl); (case hr => first | (go_simp; done) | (go_simp; rfl)); intro gb236 hg w7 hbox hb; have n0_ := Aside0.mk (below_step (by repeat (first | (with_reducible first | exact HB.out | apply below_alloc | apply pw_below_drewN | apply below_drew1) | exact HB.out)) hb); have n1_ := Aside0.mk (hbox); have n2_ := Aside0.mk ((by rw [hg]; exact (below_size (by repeat (first | (with_reducible first | exact HB.out | apply below_alloc | apply pw_below_drewN | apply below_drew1) | exact HB.out))) : w.heap.size ≤ gb236)); have n3_ := Aside0.mk ((by rw [hg]; exact (below_size (by repeat (first | (with_reducible first | exact HB.out | apply below_alloc | apply pw_below_drewN | apply below_drew1) | exact HB.out))) : w.heap.size ≤ gb236)); clear HB; have HB := n0_; have BK236 := n1_; have GW236 := n2_; have GE236 := n3_; clear n0_ n1_ n2_ n3_; clear hb hbox hg) | ((with_reducible refine gate_callee (f := 68) rfl ?_); refine goesL_ (some 9) rfl rfl Tryz.func68 (by kernel_rfl) rfl #[.int .i64 a0] rfl (by (try simp only [List.map_toArray, List.map_cons, List.map_nil]); first | done | rfl | (simp only [List.length_drop, List.length_take]; rfl)) ?_; (with_reducible refine (field_limits.calls a0 t237 t238 t239 _ A2.out).mono ?_); rintro e w' ⟨rfl, ⟨nd, rfl⟩⟩; refine ⟨_, rfl, ?_⟩; (try (rw [drewN_self w7]; generalize hq_ : World.drewN w7 _ = w7; have n0_ : Aside0 (w7.heap[gb236]? = some (.cells #[.int .u64 0, .bool false] 24 (0, 0))) := ⟨by rw [← hq_]; exact (by (with_reducible repeat (first | refine blk_drewN ?_ _ | refine blk_drew ?_ | refine blk_alloc ?_ _)); exact BK236.out)⟩; have n1_ : Aside0 (Below w.heap.size w w7) := ⟨by rw [← hq_]; exact (by repeat (first | (with_reducible first | exact HB.out | apply below_alloc | apply pw_below_drewN | apply below_drew1 | refine below_set ?_ GE236.out) | exact HB.out))⟩; clear BK236 HB hq_; have BK236 := n0_; have HB := n1_; clear n0_ n1_)); have hcz8_0 : w7.cell? ⟨gb236, 0, none⟩ = some (.int .u64 0) := (blk_cell BK236.out 0).trans rfl; have hcz8_1 : w7.cell? ⟨gb236, 1, none⟩ = some (.bool false) := (blk_cell BK236.out 1).trans rfl; have hfz8_0 := blk_frozen BK236.out 0; have hfz8_1 := blk_frozen BK236.out 1))
  refine bodyPost_ret (results_ct rfl _ _ gb236 24 #[.int .u64 0, .bool false] (0, 0) _ rfl (by (with_reducible repeat (first | refine blk_drewN ?_ _ | refine blk_drew ?_ | refine blk_alloc ?_ _)); refine blk_put (cs := #[.int .u64 0, .bool false]) ?_ 1 _ rfl; (with_reducible repeat (first | refine blk_drewN ?_ _ | refine blk_drew ?_ | refine blk_alloc ?_ _)); refine blk_put (cs := #[.int .u64 0, .bool false]) ?_ 0 _ rfl; (with_reducible repeat (first | refine blk_drewN ?_ _ | refine blk_drew ?_ | refine blk_alloc ?_ _)); exact BK236.out) Tryz.underlying24 rfl (by kernel_rfl)) rfl ?_
  exact ⟨by first | rfl | (simp [errW_none, errW_some] <;> rfl) | (simp [*, errW_none, errW_some] <;> rfl), by repeat (first | (with_reducible first | exact HB.out | apply below_alloc | apply pw_below_drewN | apply below_drew1 | refine below_set ?_ GE236.out) | exact HB.out)⟩

/-! ### spec_Stars: function 19 -/
/-! This session's own: spec.Stars. -/
set_option maxHeartbeats 8000000 in
set_option maxRecDepth 100000 in
theorem Spc.stars (w : World) : Calls Tryz.prog 19 #[] w fun e w' => e = .returned (.agg #[.int .u64 1152921504606846975, .bool true, .int .u64 16777215, .bool true, .int .u64 4294967294, .bool true, .int .u64 8190, .bool true, .int .u64 127, .bool true]) ∧ Below w.heap.size w w' := by
 have HT := blk_alloc (blk_new w (.cells #[.int .u64 0, .bool false, .int .u64 0, .bool false, .int .u64 0, .bool false, .int .u64 0, .bool false, .int .u64 0, .bool false] 26)) (.cells #[.int .u64 0, .bool false, .int .u64 0, .bool false, .int .u64 0, .bool false, .int .u64 0, .bool false, .int .u64 0, .bool false] 26)
 have HR : Spc.Row ((w.alloc (.cells #[.int .u64 0, .bool false, .int .u64 0, .bool false, .int .u64 0, .bool false, .int .u64 0, .bool false, .int .u64 0, .bool false] 26)).alloc (.cells #[.int .u64 0, .bool false, .int .u64 0, .bool false, .int .u64 0, .bool false, .int .u64 0, .bool false, .int .u64 0, .bool false] 26)) (w.heap.size + 1) 0 false 0 false 0 false 0 false 0 false := by
  have := heap_alloc_new (w.alloc (.cells #[.int .u64 0, .bool false, .int .u64 0, .bool false, .int .u64 0, .bool false, .int .u64 0, .bool false, .int .u64 0, .bool false] 26)) (.cells #[.int .u64 0, .bool false, .int .u64 0, .bool false, .int .u64 0, .bool false, .int .u64 0, .bool false, .int .u64 0, .bool false] 26)
  unfold Spc.Row
  simpa using this
 have HB := below_alloc (below_alloc (Below.refl _ _) (.cells #[.int .u64 0, .bool false, .int .u64 0, .bool false, .int .u64 0, .bool false, .int .u64 0, .bool false, .int .u64 0, .bool false] 26) (w := w)) (.cells #[.int .u64 0, .bool false, .int .u64 0, .bool false, .int .u64 0, .bool false, .int .u64 0, .bool false, .int .u64 0, .bool false] 26)
 replace HT := Aside0.mk HT
 replace HR := Aside0.mk HR
 replace HB := Aside0.mk HB
 go_enter Tryz.func19, Tryz.ntmps19
 go_wp2_with fail
 refine (Spc.fields_calls _ _).mono ?_
 rintro e V ⟨rfl, hX, hb⟩
 obtain ⟨X, hX0⟩ : ∃ X, ((w.alloc (.cells #[.int .u64 0, .bool false, .int .u64 0, .bool false, .int .u64 0, .bool false, .int .u64 0, .bool false, .int .u64 0, .bool false] 26)).alloc (.cells #[.int .u64 0, .bool false, .int .u64 0, .bool false, .int .u64 0, .bool false, .int .u64 0, .bool false, .int .u64 0, .bool false] 26)).heap.size = X := ⟨_, rfl⟩
 have hXn : X = w.heap.size + 2 := by rw [← hX0]; simp
 rw [hX0] at hX ⊢
 have HB2 := below_step HB.out hb
 have HT2 := blk_below HT.out hb
 have HR2 : Spc.Row V (w.heap.size + 1) 0 false 0 false 0 false 0 false 0 false := blk_below HR.out hb
 clear HB HT HR hb hX0
 replace HB2 := Aside0.mk HB2
 replace HT2 := Aside0.mk HT2
 replace HR2 := Aside0.mk HR2
 replace hX := Aside0.mk hX
 replace hXn := Lib.hid hXn
 go_wp2_with fail
 refine wp_loop_rounds 6 ?_
 refine Fld.genR (fun W => Below w.heap.size w W ∧ W.heap[w.heap.size]? = some (.cells #[.int .u64 0, .bool false, .int .u64 0, .bool false, .int .u64 0, .bool false, .int .u64 0, .bool false, .int .u64 0, .bool false] 26 (0, 0)) ∧ Spc.Row W (w.heap.size + 1) 0 false 0 false 0 false 0 false 0 false ∧ Spc.Bx W X (w.heap.size + 1)) ⟨HB2.out, HT2.out, HR2.out, hX.out⟩ ?_
 clear HB2 HT2 HR2 hX
 rintro W0 ⟨HB2, HT2, HR2, hX⟩
 replace HB2 := Aside0.mk HB2
 replace HT2 := Aside0.mk HT2
 replace HR2 := Aside0.mk HR2
 replace hX := Aside0.mk hX
 rw [rounds_succ]
 have ix := Spc.ix0 X
 go_wp2_with (go_at_call 63; refine (Spc.at0 _ _ _ hX.out).mono ?_; rintro e w' ⟨rfl, rfl⟩)
 clear ix
 refine (field_All.calls 0 1152921504606846975 true 0 _ (by decide +kernel)).mono ?_
 rintro e V0 ⟨rfl, hb⟩
 have HB3 := below_step HB2.out hb
 have HT3 := blk_below HT2.out hb
 have HR3 : Spc.Row V0 (w.heap.size + 1) 0 false 0 false 0 false 0 false 0 false := blk_below HR2.out hb
 have hX3 : Spc.Bx V0 X (w.heap.size + 1) := blk_below hX.out hb
 clear HB2 HT2 HR2 hX hb
 have c0 : V0.cell? ⟨w.heap.size + 1, 0, none⟩ = some (.int .u64 0) := (blk_cell HR3 0).trans rfl
 have c1 : V0.cell? ⟨w.heap.size + 1, 1, none⟩ = some (.bool false) := (blk_cell HR3 1).trans rfl
 have z0 := blk_frozen HR3 0
 have z1 := blk_frozen HR3 1
 have HB2 := Aside0.mk HB3
 have HT2 := Aside0.mk HT3
 have HR2 := Aside0.mk HR3
 have hX := Aside0.mk hX3
 clear HB3 HT3 HR3 hX3
 go_wp2_with fail
 clear c0 c1 z0 z1
 refine Fld.genR (fun W => Below w.heap.size w W ∧ W.heap[w.heap.size]? = some (.cells #[.int .u64 0, .bool false, .int .u64 0, .bool false, .int .u64 0, .bool false, .int .u64 0, .bool false, .int .u64 0, .bool false] 26 (0, 0)) ∧ Spc.Row W (w.heap.size + 1) 1152921504606846975 true 0 false 0 false 0 false 0 false ∧ Spc.Bx W X (w.heap.size + 1)) ⟨below_set (below_set HB2.out (by omega)) (by omega), Spc.far HT2.out (by omega) _ _ _ _, blk_put (blk_put HR2.out 0 _ rfl) 1 _ rfl, Spc.far hX.out (by have := hXn.out; omega) _ _ _ _⟩ ?_
 clear HB2 HT2 HR2 hX
 rintro W1 ⟨HB2, HT2, HR2, hX⟩
 replace HB2 := Aside0.mk HB2
 replace HT2 := Aside0.mk HT2
 replace HR2 := Aside0.mk HR2
 replace hX := Aside0.mk hX
 rw [rounds_succ]
 have ix := Spc.ix1 X
 go_wp2_with (go_at_call 64; refine (Spc.at1 _ _ _ hX.out).mono ?_; rintro e w' ⟨rfl, rfl⟩)
 clear ix
 refine (field_All.calls 1 16777215 true 0 _ (by decide +kernel)).mono ?_
 rintro e V1 ⟨rfl, hb⟩
 have HB3 := below_step HB2.out hb
 have HT3 := blk_below HT2.out hb
 have HR3 : Spc.Row V1 (w.heap.size + 1) 1152921504606846975 true 0 false 0 false 0 false 0 false := blk_below HR2.out hb
 have hX3 : Spc.Bx V1 X (w.heap.size + 1) := blk_below hX.out hb
 clear HB2 HT2 HR2 hX hb
 have c0 : V1.cell? ⟨w.heap.size + 1, 2, none⟩ = some (.int .u64 0) := (blk_cell HR3 2).trans rfl
 have c1 : V1.cell? ⟨w.heap.size + 1, 3, none⟩ = some (.bool false) := (blk_cell HR3 3).trans rfl
 have z0 := blk_frozen HR3 2
 have z1 := blk_frozen HR3 3
 have HB2 := Aside0.mk HB3
 have HT2 := Aside0.mk HT3
 have HR2 := Aside0.mk HR3
 have hX := Aside0.mk hX3
 clear HB3 HT3 HR3 hX3
 go_wp2_with fail
 clear c0 c1 z0 z1
 refine Fld.genR (fun W => Below w.heap.size w W ∧ W.heap[w.heap.size]? = some (.cells #[.int .u64 0, .bool false, .int .u64 0, .bool false, .int .u64 0, .bool false, .int .u64 0, .bool false, .int .u64 0, .bool false] 26 (0, 0)) ∧ Spc.Row W (w.heap.size + 1) 1152921504606846975 true 16777215 true 0 false 0 false 0 false ∧ Spc.Bx W X (w.heap.size + 1)) ⟨below_set (below_set HB2.out (by omega)) (by omega), Spc.far HT2.out (by omega) _ _ _ _, blk_put (blk_put HR2.out 2 _ rfl) 3 _ rfl, Spc.far hX.out (by have := hXn.out; omega) _ _ _ _⟩ ?_
 clear HB2 HT2 HR2 hX
 rintro W2 ⟨HB2, HT2, HR2, hX⟩
 replace HB2 := Aside0.mk HB2
 replace HT2 := Aside0.mk HT2
 replace HR2 := Aside0.mk HR2
 replace hX := Aside0.mk hX
 rw [rounds_succ]
 have ix := Spc.ix2 X
 go_wp2_with (go_at_call 65; refine (Spc.at2 _ _ _ hX.out).mono ?_; rintro e w' ⟨rfl, rfl⟩)
 clear ix
 refine (field_All.calls 2 4294967294 true 0 _ (by decide +kernel)).mono ?_
 rintro e V2 ⟨rfl, hb⟩
 have HB3 := below_step HB2.out hb
 have HT3 := blk_below HT2.out hb
 have HR3 : Spc.Row V2 (w.heap.size + 1) 1152921504606846975 true 16777215 true 0 false 0 false 0 false := blk_below HR2.out hb
 have hX3 : Spc.Bx V2 X (w.heap.size + 1) := blk_below hX.out hb
 clear HB2 HT2 HR2 hX hb
 have c0 : V2.cell? ⟨w.heap.size + 1, 4, none⟩ = some (.int .u64 0) := (blk_cell HR3 4).trans rfl
 have c1 : V2.cell? ⟨w.heap.size + 1, 5, none⟩ = some (.bool false) := (blk_cell HR3 5).trans rfl
 have z0 := blk_frozen HR3 4
 have z1 := blk_frozen HR3 5
 have HB2 := Aside0.mk HB3
 have HT2 := Aside0.mk HT3
 have HR2 := Aside0.mk HR3
 have hX := Aside0.mk hX3
 clear HB3 HT3 HR3 hX3
 go_wp2_with fail
 clear c0 c1 z0 z1
 refine Fld.genR (fun W => Below w.heap.size w W ∧ W.heap[w.heap.size]? = some (.cells #[.int .u64 0, .bool false, .int .u64 0, .bool false, .int .u64 0, .bool false, .int .u64 0, .bool false, .int .u64 0, .bool false] 26 (0, 0)) ∧ Spc.Row W (w.heap.size + 1) 1152921504606846975 true 16777215 true 4294967294 true 0 false 0 false ∧ Spc.Bx W X (w.heap.size + 1)) ⟨below_set (below_set HB2.out (by omega)) (by omega), Spc.far HT2.out (by omega) _ _ _ _, blk_put (blk_put HR2.out 4 _ rfl) 5 _ rfl, Spc.far hX.out (by have := hXn.out; omega) _ _ _ _⟩ ?_
 clear HB2 HT2 HR2 hX
 rintro W3 ⟨HB2, HT2, HR2, hX⟩
 replace HB2 := Aside0.mk HB2
 replace HT2 := Aside0.mk HT2
 replace HR2 := Aside0.mk HR2
 replace hX := Aside0.mk hX
 rw [rounds_succ]
 have ix := Spc.ix3 X
 go_wp2_with (go_at_call 66; refine (Spc.at3 _ _ _ hX.out).mono ?_; rintro e w' ⟨rfl, rfl⟩)
 clear ix
 refine (field_All.calls 3 8190 true 0 _ (by decide +kernel)).mono ?_
 rintro e V3 ⟨rfl, hb⟩
 have HB3 := below_step HB2.out hb
 have HT3 := blk_below HT2.out hb
 have HR3 : Spc.Row V3 (w.heap.size + 1) 1152921504606846975 true 16777215 true 4294967294 true 0 false 0 false := blk_below HR2.out hb
 have hX3 : Spc.Bx V3 X (w.heap.size + 1) := blk_below hX.out hb
 clear HB2 HT2 HR2 hX hb
 have c0 : V3.cell? ⟨w.heap.size + 1, 6, none⟩ = some (.int .u64 0) := (blk_cell HR3 6).trans rfl
 have c1 : V3.cell? ⟨w.heap.size + 1, 7, none⟩ = some (.bool false) := (blk_cell HR3 7).trans rfl
 have z0 := blk_frozen HR3 6
 have z1 := blk_frozen HR3 7
 have HB2 := Aside0.mk HB3
 have HT2 := Aside0.mk HT3
 have HR2 := Aside0.mk HR3
 have hX := Aside0.mk hX3
 clear HB3 HT3 HR3 hX3
 go_wp2_with fail
 clear c0 c1 z0 z1
 refine Fld.genR (fun W => Below w.heap.size w W ∧ W.heap[w.heap.size]? = some (.cells #[.int .u64 0, .bool false, .int .u64 0, .bool false, .int .u64 0, .bool false, .int .u64 0, .bool false, .int .u64 0, .bool false] 26 (0, 0)) ∧ Spc.Row W (w.heap.size + 1) 1152921504606846975 true 16777215 true 4294967294 true 8190 true 0 false ∧ Spc.Bx W X (w.heap.size + 1)) ⟨below_set (below_set HB2.out (by omega)) (by omega), Spc.far HT2.out (by omega) _ _ _ _, blk_put (blk_put HR2.out 6 _ rfl) 7 _ rfl, Spc.far hX.out (by have := hXn.out; omega) _ _ _ _⟩ ?_
 clear HB2 HT2 HR2 hX
 rintro W4 ⟨HB2, HT2, HR2, hX⟩
 replace HB2 := Aside0.mk HB2
 replace HT2 := Aside0.mk HT2
 replace HR2 := Aside0.mk HR2
 replace hX := Aside0.mk hX
 rw [rounds_succ]
 have ix := Spc.ix4 X
 go_wp2_with (go_at_call 67; refine (Spc.at4 _ _ _ hX.out).mono ?_; rintro e w' ⟨rfl, rfl⟩)
 clear ix
 refine (field_All.calls 4 127 true 0 _ (by decide +kernel)).mono ?_
 rintro e V4 ⟨rfl, hb⟩
 have HB3 := below_step HB2.out hb
 have HT3 := blk_below HT2.out hb
 have HR3 : Spc.Row V4 (w.heap.size + 1) 1152921504606846975 true 16777215 true 4294967294 true 8190 true 0 false := blk_below HR2.out hb
 have hX3 : Spc.Bx V4 X (w.heap.size + 1) := blk_below hX.out hb
 clear HB2 HT2 HR2 hX hb
 have c0 : V4.cell? ⟨w.heap.size + 1, 8, none⟩ = some (.int .u64 0) := (blk_cell HR3 8).trans rfl
 have c1 : V4.cell? ⟨w.heap.size + 1, 9, none⟩ = some (.bool false) := (blk_cell HR3 9).trans rfl
 have z0 := blk_frozen HR3 8
 have z1 := blk_frozen HR3 9
 have HB2 := Aside0.mk HB3
 have HT2 := Aside0.mk HT3
 have HR2 := Aside0.mk HR3
 have hX := Aside0.mk hX3
 clear HB3 HT3 HR3 hX3
 go_wp2_with fail
 clear c0 c1 z0 z1
 refine Fld.genR (fun W => Below w.heap.size w W ∧ W.heap[w.heap.size]? = some (.cells #[.int .u64 0, .bool false, .int .u64 0, .bool false, .int .u64 0, .bool false, .int .u64 0, .bool false, .int .u64 0, .bool false] 26 (0, 0)) ∧ Spc.Row W (w.heap.size + 1) 1152921504606846975 true 16777215 true 4294967294 true 8190 true 127 true ∧ Spc.Bx W X (w.heap.size + 1)) ⟨below_set (below_set HB2.out (by omega)) (by omega), Spc.far HT2.out (by omega) _ _ _ _, blk_put (blk_put HR2.out 8 _ rfl) 9 _ rfl, Spc.far hX.out (by have := hXn.out; omega) _ _ _ _⟩ ?_
 clear HB2 HT2 HR2 hX
 rintro W5 ⟨HB2, HT2, HR2, hX⟩
 rw [rounds_succ]
 have d0 : W5.cell? ⟨w.heap.size + 1, 0, none⟩ = some (.int .u64 1152921504606846975) := (blk_cell HR2 0).trans rfl
 have d1 : W5.cell? ⟨w.heap.size + 1, 1, none⟩ = some (.bool true) := (blk_cell HR2 1).trans rfl
 have d2 : W5.cell? ⟨w.heap.size + 1, 2, none⟩ = some (.int .u64 16777215) := (blk_cell HR2 2).trans rfl
 have d3 : W5.cell? ⟨w.heap.size + 1, 3, none⟩ = some (.bool true) := (blk_cell HR2 3).trans rfl
 have d4 : W5.cell? ⟨w.heap.size + 1, 4, none⟩ = some (.int .u64 4294967294) := (blk_cell HR2 4).trans rfl
 have d5 : W5.cell? ⟨w.heap.size + 1, 5, none⟩ = some (.bool true) := (blk_cell HR2 5).trans rfl
 have d6 : W5.cell? ⟨w.heap.size + 1, 6, none⟩ = some (.int .u64 8190) := (blk_cell HR2 6).trans rfl
 have d7 : W5.cell? ⟨w.heap.size + 1, 7, none⟩ = some (.bool true) := (blk_cell HR2 7).trans rfl
 have d8 : W5.cell? ⟨w.heap.size + 1, 8, none⟩ = some (.int .u64 127) := (blk_cell HR2 8).trans rfl
 have d9 : W5.cell? ⟨w.heap.size + 1, 9, none⟩ = some (.bool true) := (blk_cell HR2 9).trans rfl
 have t0 : W5.cell? ⟨w.heap.size, 0, none⟩ = some (.int .u64 0) := (blk_cell HT2 0).trans rfl
 have t1 : W5.cell? ⟨w.heap.size, 1, none⟩ = some (.bool false) := (blk_cell HT2 1).trans rfl
 have t2 : W5.cell? ⟨w.heap.size, 2, none⟩ = some (.int .u64 0) := (blk_cell HT2 2).trans rfl
 have t3 : W5.cell? ⟨w.heap.size, 3, none⟩ = some (.bool false) := (blk_cell HT2 3).trans rfl
 have t4 : W5.cell? ⟨w.heap.size, 4, none⟩ = some (.int .u64 0) := (blk_cell HT2 4).trans rfl
 have t5 : W5.cell? ⟨w.heap.size, 5, none⟩ = some (.bool false) := (blk_cell HT2 5).trans rfl
 have t6 : W5.cell? ⟨w.heap.size, 6, none⟩ = some (.int .u64 0) := (blk_cell HT2 6).trans rfl
 have t7 : W5.cell? ⟨w.heap.size, 7, none⟩ = some (.bool false) := (blk_cell HT2 7).trans rfl
 have t8 : W5.cell? ⟨w.heap.size, 8, none⟩ = some (.int .u64 0) := (blk_cell HT2 8).trans rfl
 have t9 : W5.cell? ⟨w.heap.size, 9, none⟩ = some (.bool false) := (blk_cell HT2 9).trans rfl
 have zT : ∀ j, W5.frozen? ⟨w.heap.size, j, none⟩ = false := fun j => blk_frozen HT2 j
 replace HB2 := Aside0.mk HB2
 clear HT2 HR2 hX
 go_wp2_with fail
 refine bodyPost_ret (v := .agg #[.int .u64 1152921504606846975, .bool true, .int .u64 16777215, .bool true, .int .u64 4294967294, .bool true, .int .u64 8190, .bool true, .int .u64 127, .bool true]) (by simp [results, Tryz.results19, go_sem, *]) rfl ⟨rfl, ?_⟩
 repeat (first | (with_reducible first | exact HB2.out | (refine below_set ?_ (by omega))) | exact HB2.out)
def spec_Stars.f  : Option (Int × Bool × Int × Bool × Int × Bool × Int × Bool × Int × Bool) := some (1152921504606846975, true, 16777215, true, 4294967294, true, 8190, true, 127, true)
set_option maxHeartbeats 8000000 in
set_option maxRecDepth 100000 in
theorem spec_Stars.calls  (r1 : Int) (r2 : Bool) (r3 : Int) (r4 : Bool) (r5 : Int) (r6 : Bool) (r7 : Int) (r8 : Bool) (r9 : Int) (r10 : Bool) (w : World) (h : spec_Stars.f  = some (r1, r2, r3, r4, r5, r6, r7, r8, r9, r10)) :
  Calls Tryz.prog 19 #[] w fun e w' => e = .returned (.agg #[.int .u64 r1, .bool r2, .int .u64 r3, .bool r4, .int .u64 r5, .bool r6, .int .u64 r7, .bool r8, .int .u64 r9, .bool r10]) ∧ Below w.heap.size w w' := by
 have H := Option.some.inj h
 simp only [Prod.mk.injEq] at H
 obtain ⟨rfl, rfl, rfl, rfl, rfl, rfl, rfl, rfl, rfl, rfl⟩ := H
 exact Spc.stars w

/-! ### spec_known: function 45 -/
def spec_known.f (a0 : Int) : Option (Bool) := if a0 ≥ 0 then (some (decide (a0 ≤ 4))) else (some false)
set_option maxHeartbeats 8000000 in
set_option maxRecDepth 100000 in
theorem spec_known.calls (a0 : Int) (r : Bool) (w : World) (h : spec_known.f a0 = some r) :
  Calls Tryz.prog 45 #[.int .i64 a0] w fun e w' => e = .returned (.bool r) ∧ Drawn0 w w' := by
 have H : (if a0 ≥ 0 then (some (decide (a0 ≤ 4))) else (some false)) = some r := h
 clear h
 by_cases c2 : a0 ≥ 0
 ·rw [if_pos c2] at H
  have c2b0 : decide (0 ≤ a0) = true := decide_eq_true c2
  clear c2
  obtain rfl := Option.some.inj H
  go_enter Tryz.func45, Tryz.ntmps45
  go_wp2
  go_ret
  exact ⟨by first | rfl | (simp; done) | (simp [*]; done), by repeat (first | exact Drawn0.refl _ | apply Drawn0.step)⟩
 ·rw [if_neg c2] at H
  have c2b0 : decide (0 ≤ a0) = false := decide_eq_false c2
  clear c2
  obtain rfl := Option.some.inj H
  go_enter Tryz.func45, Tryz.ntmps45
  go_wp2
  go_ret
  exact ⟨by first | rfl | (simp; done) | (simp [*]; done), by repeat (first | exact Drawn0.refl _ | apply Drawn0.step)⟩

/-! ### spec_With: function 20 -/
set_option maxHeartbeats 8000000 in
set_option maxRecDepth 100000 in
theorem Spc.with_bad (b0 : Int) (s0 : Bool) (b1 : Int) (s1 : Bool) (b2 : Int) (s2 : Bool) (b3 : Int) (s3 : Bool) (b4 : Int) (s4 : Bool) (kind : Int) (fb : Int) (fs : Bool) (h : kind < 0 ∨ 4 < kind) (w : World) : Calls Tryz.prog 20 #[.agg #[.int .u64 b0, .bool s0, .int .u64 b1, .bool s1, .int .u64 b2, .bool s2, .int .u64 b3, .bool s3, .int .u64 b4, .bool s4], .int .i64 kind, .agg #[.int .u64 fb, .bool fs]] w fun e w' => e = .returned (.tuple #[.agg #[.int .u64 b0, .bool s0, .int .u64 b1, .bool s1, .int .u64 b2, .bool s2, .int .u64 b3, .bool s3, .int .u64 b4, .bool s4], .int .i64 7]) ∧ Below w.heap.size w w' := by
 have hk : Hid (spec_known.f kind = some false) := Lib.hid (by unfold spec_known.f; rcases h with h | h <;> (simp; omega))
 clear h
 go_enter Tryz.func20, Tryz.ntmps20
 go_wp2_with (go_at_call 45; refine (spec_known.calls _ _ _ hk.out).mono ?_; rintro e w' ⟨rfl, ⟨nd, rfl⟩⟩)
 refine bodyPost_ret (v := .tuple #[.agg #[.int .u64 b0, .bool s0, .int .u64 b1, .bool s1, .int .u64 b2, .bool s2, .int .u64 b3, .bool s3, .int .u64 b4, .bool s4], .int .i64 7]) (by simp [results, Tryz.results20, go_sem]) rfl ⟨rfl, ?_⟩
 have HB := Aside0.mk (Below.refl w.heap.size w)
 repeat (with_reducible first | exact HB.out | apply below_alloc | apply pw_below_drewN | apply below_drew1 | (refine below_set ?_ (by omega)) | exact HB.out)
set_option maxHeartbeats 8000000 in
set_option maxRecDepth 100000 in
theorem Spc.with0 (b0 : Int) (s0 : Bool) (b1 : Int) (s1 : Bool) (b2 : Int) (s2 : Bool) (b3 : Int) (s3 : Bool) (b4 : Int) (s4 : Bool) (fb : Int) (fs : Bool) (w : World) : Calls Tryz.prog 20 #[.agg #[.int .u64 b0, .bool s0, .int .u64 b1, .bool s1, .int .u64 b2, .bool s2, .int .u64 b3, .bool s3, .int .u64 b4, .bool s4], .int .i64 0, .agg #[.int .u64 fb, .bool fs]] w fun e w' => e = .returned (.tuple #[.agg #[.int .u64 fb, .bool fs, .int .u64 b1, .bool s1, .int .u64 b2, .bool s2, .int .u64 b3, .bool s3, .int .u64 b4, .bool s4], .int .i64 0]) ∧ Below w.heap.size w w' := by
 have hk : Hid (spec_known.f 0 = some true) := Lib.hid (by decide)
 go_enter Tryz.func20, Tryz.ntmps20
 go_wp2_with (go_at_call 45; refine (spec_known.calls _ _ _ hk.out).mono ?_; rintro e w' ⟨rfl, ⟨nd, rfl⟩⟩)
 refine Fld.genW (fun W => W.heap.size = w.heap.size + 3 ∧ Below w.heap.size w W ∧ Spc.Row W w.heap.size b0 s0 b1 s1 b2 s2 b3 s3 b4 s4 ∧ W.heap[w.heap.size + 1]? = some (.cells #[.int .u64 fb, .bool fs] 24 (0, 0)) ∧ W.heap[w.heap.size + 2]? = some (.cells #[.int .u64 0, .bool false, .int .u64 0, .bool false, .int .u64 0, .bool false, .int .u64 0, .bool false, .int .u64 0, .bool false] 26 (0, 0))) ?_ ?_
 ·refine ⟨by simp, pw_below_drewN (below_alloc (below_alloc (below_alloc (Below.refl _ _) _) _) _) nd, blk_drewN (blk_alloc (blk_alloc (blk_new w _) _) _) nd, ?_, ?_⟩
  ·have := heap_alloc_new (w.alloc (.cells #[.int .u64 b0, .bool s0, .int .u64 b1, .bool s1, .int .u64 b2, .bool s2, .int .u64 b3, .bool s3, .int .u64 b4, .bool s4] 26)) (.cells #[.int .u64 fb, .bool fs] 24)
   refine blk_drewN (blk_alloc ?_ _) nd
   simpa using this
  ·have := heap_alloc_new ((w.alloc (.cells #[.int .u64 b0, .bool s0, .int .u64 b1, .bool s1, .int .u64 b2, .bool s2, .int .u64 b3, .bool s3, .int .u64 b4, .bool s4] 26)).alloc (.cells #[.int .u64 fb, .bool fs] 24)) (.cells #[.int .u64 0, .bool false, .int .u64 0, .bool false, .int .u64 0, .bool false, .int .u64 0, .bool false, .int .u64 0, .bool false] 26)
   refine blk_drewN ?_ nd
   simpa using this
 rintro W ⟨hz, hB0, hR0, hF0, hT0⟩
 have f0 : W.cell? ⟨w.heap.size + 1, 0, none⟩ = some (.int .u64 fb) := (blk_cell hF0 0).trans rfl
 have f1 : W.cell? ⟨w.heap.size + 1, 1, none⟩ = some (.bool fs) := (blk_cell hF0 1).trans rfl
 have ix := Spc.ix0
 replace hB0 := Aside0.mk hB0
 replace hR0 := Aside0.mk hR0
 replace hF0 := Aside0.mk hF0
 replace hT0 := Aside0.mk hT0
 replace hz := Lib.hid hz
 go_region_with (first | (go_at_call 43; refine (Spc.fields_calls _ _).mono ?_; rintro e V ⟨rfl, hX, hb⟩; have hF1 := (hb.block (w.heap.size + 1) (blk_lt hF0.out)).trans hF0.out; have hR1 : Spc.Row V w.heap.size b0 s0 b1 s1 b2 s2 b3 s3 b4 s4 := (hb.block w.heap.size (blk_lt hR0.out)).trans hR0.out; have f0V : V.cell? ⟨w.heap.size + 1, 0, none⟩ = some (.int .u64 fb) := (blk_cell hF1 0).trans rfl; have f1V : V.cell? ⟨w.heap.size + 1, 1, none⟩ = some (.bool fs) := (blk_cell hF1 1).trans rfl; have c0V : V.cell? ⟨w.heap.size, 0, none⟩ = some (.int .u64 b0) := (blk_cell hR1 0).trans rfl; have c1V : V.cell? ⟨w.heap.size, 1, none⟩ = some (.bool s0) := (blk_cell hR1 1).trans rfl; have c2V : V.cell? ⟨w.heap.size, 2, none⟩ = some (.int .u64 b1) := (blk_cell hR1 2).trans rfl; have c3V : V.cell? ⟨w.heap.size, 3, none⟩ = some (.bool s1) := (blk_cell hR1 3).trans rfl; have c4V : V.cell? ⟨w.heap.size, 4, none⟩ = some (.int .u64 b2) := (blk_cell hR1 4).trans rfl; have c5V : V.cell? ⟨w.heap.size, 5, none⟩ = some (.bool s2) := (blk_cell hR1 5).trans rfl; have c6V : V.cell? ⟨w.heap.size, 6, none⟩ = some (.int .u64 b3) := (blk_cell hR1 6).trans rfl; have c7V : V.cell? ⟨w.heap.size, 7, none⟩ = some (.bool s3) := (blk_cell hR1 7).trans rfl; have c8V : V.cell? ⟨w.heap.size, 8, none⟩ = some (.int .u64 b4) := (blk_cell hR1 8).trans rfl; have c9V : V.cell? ⟨w.heap.size, 9, none⟩ = some (.bool s4) := (blk_cell hR1 9).trans rfl; have hT1 : V.heap[w.heap.size + 2]? = some (.cells #[.int .u64 0, .bool false, .int .u64 0, .bool false, .int .u64 0, .bool false, .int .u64 0, .bool false, .int .u64 0, .bool false] 26 (0, 0)) := (hb.block (w.heap.size + 2) (blk_lt hT0.out)).trans hT0.out; have t0V : V.cell? ⟨w.heap.size + 2, 0, none⟩ = some (.int .u64 0) := (blk_cell hT1 0).trans rfl; have t1V : V.cell? ⟨w.heap.size + 2, 1, none⟩ = some (.bool false) := (blk_cell hT1 1).trans rfl; have t2V : V.cell? ⟨w.heap.size + 2, 2, none⟩ = some (.int .u64 0) := (blk_cell hT1 2).trans rfl; have t3V : V.cell? ⟨w.heap.size + 2, 3, none⟩ = some (.bool false) := (blk_cell hT1 3).trans rfl; have t4V : V.cell? ⟨w.heap.size + 2, 4, none⟩ = some (.int .u64 0) := (blk_cell hT1 4).trans rfl; have t5V : V.cell? ⟨w.heap.size + 2, 5, none⟩ = some (.bool false) := (blk_cell hT1 5).trans rfl; have t6V : V.cell? ⟨w.heap.size + 2, 6, none⟩ = some (.int .u64 0) := (blk_cell hT1 6).trans rfl; have t7V : V.cell? ⟨w.heap.size + 2, 7, none⟩ = some (.bool false) := (blk_cell hT1 7).trans rfl; have t8V : V.cell? ⟨w.heap.size + 2, 8, none⟩ = some (.int .u64 0) := (blk_cell hT1 8).trans rfl; have t9V : V.cell? ⟨w.heap.size + 2, 9, none⟩ = some (.bool false) := (blk_cell hT1 9).trans rfl; have zR : ∀ j, V.frozen? ⟨w.heap.size, j, none⟩ = false := fun j => blk_frozen hR1 j; have zT : ∀ j, V.frozen? ⟨w.heap.size + 2, j, none⟩ = false := fun j => blk_frozen hT1 j; have hBV := Aside0.mk (below_step (by repeat (with_reducible first | exact hB0.out | apply below_drew1 | apply pw_below_drewN)) hb); have gR := Aside0.mk hR1; have gT := Aside0.mk hT1; clear hR1 hT1 hF1 hb) | (go_at_call 63; refine (Spc.at0 _ w.heap.size _ (by assumption)).mono ?_; rintro e w' ⟨rfl, rfl⟩))
 all_goals go_wp2_with fail
 all_goals refine bodyPost_ret (v := .tuple #[.agg #[.int .u64 fb, .bool fs, .int .u64 b1, .bool s1, .int .u64 b2, .bool s2, .int .u64 b3, .bool s3, .int .u64 b4, .bool s4], .int .i64 0]) (by simp [results, Tryz.results20, go_sem, *]) rfl ⟨rfl, ?_⟩
 all_goals repeat (first | (with_reducible first | exact hBV.out | apply below_drew1 | apply pw_below_drewN | (refine below_set ?_ (by omega))) | exact hBV.out)
set_option maxHeartbeats 8000000 in
set_option maxRecDepth 100000 in
theorem Spc.with1 (b0 : Int) (s0 : Bool) (b1 : Int) (s1 : Bool) (b2 : Int) (s2 : Bool) (b3 : Int) (s3 : Bool) (b4 : Int) (s4 : Bool) (fb : Int) (fs : Bool) (w : World) : Calls Tryz.prog 20 #[.agg #[.int .u64 b0, .bool s0, .int .u64 b1, .bool s1, .int .u64 b2, .bool s2, .int .u64 b3, .bool s3, .int .u64 b4, .bool s4], .int .i64 1, .agg #[.int .u64 fb, .bool fs]] w fun e w' => e = .returned (.tuple #[.agg #[.int .u64 b0, .bool s0, .int .u64 fb, .bool fs, .int .u64 b2, .bool s2, .int .u64 b3, .bool s3, .int .u64 b4, .bool s4], .int .i64 0]) ∧ Below w.heap.size w w' := by
 have hk : Hid (spec_known.f 1 = some true) := Lib.hid (by decide)
 go_enter Tryz.func20, Tryz.ntmps20
 go_wp2_with (go_at_call 45; refine (spec_known.calls _ _ _ hk.out).mono ?_; rintro e w' ⟨rfl, ⟨nd, rfl⟩⟩)
 refine Fld.genW (fun W => W.heap.size = w.heap.size + 3 ∧ Below w.heap.size w W ∧ Spc.Row W w.heap.size b0 s0 b1 s1 b2 s2 b3 s3 b4 s4 ∧ W.heap[w.heap.size + 1]? = some (.cells #[.int .u64 fb, .bool fs] 24 (0, 0)) ∧ W.heap[w.heap.size + 2]? = some (.cells #[.int .u64 0, .bool false, .int .u64 0, .bool false, .int .u64 0, .bool false, .int .u64 0, .bool false, .int .u64 0, .bool false] 26 (0, 0))) ?_ ?_
 ·refine ⟨by simp, pw_below_drewN (below_alloc (below_alloc (below_alloc (Below.refl _ _) _) _) _) nd, blk_drewN (blk_alloc (blk_alloc (blk_new w _) _) _) nd, ?_, ?_⟩
  ·have := heap_alloc_new (w.alloc (.cells #[.int .u64 b0, .bool s0, .int .u64 b1, .bool s1, .int .u64 b2, .bool s2, .int .u64 b3, .bool s3, .int .u64 b4, .bool s4] 26)) (.cells #[.int .u64 fb, .bool fs] 24)
   refine blk_drewN (blk_alloc ?_ _) nd
   simpa using this
  ·have := heap_alloc_new ((w.alloc (.cells #[.int .u64 b0, .bool s0, .int .u64 b1, .bool s1, .int .u64 b2, .bool s2, .int .u64 b3, .bool s3, .int .u64 b4, .bool s4] 26)).alloc (.cells #[.int .u64 fb, .bool fs] 24)) (.cells #[.int .u64 0, .bool false, .int .u64 0, .bool false, .int .u64 0, .bool false, .int .u64 0, .bool false, .int .u64 0, .bool false] 26)
   refine blk_drewN ?_ nd
   simpa using this
 rintro W ⟨hz, hB0, hR0, hF0, hT0⟩
 have f0 : W.cell? ⟨w.heap.size + 1, 0, none⟩ = some (.int .u64 fb) := (blk_cell hF0 0).trans rfl
 have f1 : W.cell? ⟨w.heap.size + 1, 1, none⟩ = some (.bool fs) := (blk_cell hF0 1).trans rfl
 have ix := Spc.ix1
 replace hB0 := Aside0.mk hB0
 replace hR0 := Aside0.mk hR0
 replace hF0 := Aside0.mk hF0
 replace hT0 := Aside0.mk hT0
 replace hz := Lib.hid hz
 go_region_with (first | (go_at_call 43; refine (Spc.fields_calls _ _).mono ?_; rintro e V ⟨rfl, hX, hb⟩; have hF1 := (hb.block (w.heap.size + 1) (blk_lt hF0.out)).trans hF0.out; have hR1 : Spc.Row V w.heap.size b0 s0 b1 s1 b2 s2 b3 s3 b4 s4 := (hb.block w.heap.size (blk_lt hR0.out)).trans hR0.out; have f0V : V.cell? ⟨w.heap.size + 1, 0, none⟩ = some (.int .u64 fb) := (blk_cell hF1 0).trans rfl; have f1V : V.cell? ⟨w.heap.size + 1, 1, none⟩ = some (.bool fs) := (blk_cell hF1 1).trans rfl; have c0V : V.cell? ⟨w.heap.size, 0, none⟩ = some (.int .u64 b0) := (blk_cell hR1 0).trans rfl; have c1V : V.cell? ⟨w.heap.size, 1, none⟩ = some (.bool s0) := (blk_cell hR1 1).trans rfl; have c2V : V.cell? ⟨w.heap.size, 2, none⟩ = some (.int .u64 b1) := (blk_cell hR1 2).trans rfl; have c3V : V.cell? ⟨w.heap.size, 3, none⟩ = some (.bool s1) := (blk_cell hR1 3).trans rfl; have c4V : V.cell? ⟨w.heap.size, 4, none⟩ = some (.int .u64 b2) := (blk_cell hR1 4).trans rfl; have c5V : V.cell? ⟨w.heap.size, 5, none⟩ = some (.bool s2) := (blk_cell hR1 5).trans rfl; have c6V : V.cell? ⟨w.heap.size, 6, none⟩ = some (.int .u64 b3) := (blk_cell hR1 6).trans rfl; have c7V : V.cell? ⟨w.heap.size, 7, none⟩ = some (.bool s3) := (blk_cell hR1 7).trans rfl; have c8V : V.cell? ⟨w.heap.size, 8, none⟩ = some (.int .u64 b4) := (blk_cell hR1 8).trans rfl; have c9V : V.cell? ⟨w.heap.size, 9, none⟩ = some (.bool s4) := (blk_cell hR1 9).trans rfl; have hT1 : V.heap[w.heap.size + 2]? = some (.cells #[.int .u64 0, .bool false, .int .u64 0, .bool false, .int .u64 0, .bool false, .int .u64 0, .bool false, .int .u64 0, .bool false] 26 (0, 0)) := (hb.block (w.heap.size + 2) (blk_lt hT0.out)).trans hT0.out; have t0V : V.cell? ⟨w.heap.size + 2, 0, none⟩ = some (.int .u64 0) := (blk_cell hT1 0).trans rfl; have t1V : V.cell? ⟨w.heap.size + 2, 1, none⟩ = some (.bool false) := (blk_cell hT1 1).trans rfl; have t2V : V.cell? ⟨w.heap.size + 2, 2, none⟩ = some (.int .u64 0) := (blk_cell hT1 2).trans rfl; have t3V : V.cell? ⟨w.heap.size + 2, 3, none⟩ = some (.bool false) := (blk_cell hT1 3).trans rfl; have t4V : V.cell? ⟨w.heap.size + 2, 4, none⟩ = some (.int .u64 0) := (blk_cell hT1 4).trans rfl; have t5V : V.cell? ⟨w.heap.size + 2, 5, none⟩ = some (.bool false) := (blk_cell hT1 5).trans rfl; have t6V : V.cell? ⟨w.heap.size + 2, 6, none⟩ = some (.int .u64 0) := (blk_cell hT1 6).trans rfl; have t7V : V.cell? ⟨w.heap.size + 2, 7, none⟩ = some (.bool false) := (blk_cell hT1 7).trans rfl; have t8V : V.cell? ⟨w.heap.size + 2, 8, none⟩ = some (.int .u64 0) := (blk_cell hT1 8).trans rfl; have t9V : V.cell? ⟨w.heap.size + 2, 9, none⟩ = some (.bool false) := (blk_cell hT1 9).trans rfl; have zR : ∀ j, V.frozen? ⟨w.heap.size, j, none⟩ = false := fun j => blk_frozen hR1 j; have zT : ∀ j, V.frozen? ⟨w.heap.size + 2, j, none⟩ = false := fun j => blk_frozen hT1 j; have hBV := Aside0.mk (below_step (by repeat (with_reducible first | exact hB0.out | apply below_drew1 | apply pw_below_drewN)) hb); have gR := Aside0.mk hR1; have gT := Aside0.mk hT1; clear hR1 hT1 hF1 hb) | (go_at_call 64; refine (Spc.at1 _ w.heap.size _ (by assumption)).mono ?_; rintro e w' ⟨rfl, rfl⟩))
 all_goals go_wp2_with fail
 all_goals refine bodyPost_ret (v := .tuple #[.agg #[.int .u64 b0, .bool s0, .int .u64 fb, .bool fs, .int .u64 b2, .bool s2, .int .u64 b3, .bool s3, .int .u64 b4, .bool s4], .int .i64 0]) (by simp [results, Tryz.results20, go_sem, *]) rfl ⟨rfl, ?_⟩
 all_goals repeat (first | (with_reducible first | exact hBV.out | apply below_drew1 | apply pw_below_drewN | (refine below_set ?_ (by omega))) | exact hBV.out)
set_option maxHeartbeats 8000000 in
set_option maxRecDepth 100000 in
theorem Spc.with2 (b0 : Int) (s0 : Bool) (b1 : Int) (s1 : Bool) (b2 : Int) (s2 : Bool) (b3 : Int) (s3 : Bool) (b4 : Int) (s4 : Bool) (fb : Int) (fs : Bool) (w : World) : Calls Tryz.prog 20 #[.agg #[.int .u64 b0, .bool s0, .int .u64 b1, .bool s1, .int .u64 b2, .bool s2, .int .u64 b3, .bool s3, .int .u64 b4, .bool s4], .int .i64 2, .agg #[.int .u64 fb, .bool fs]] w fun e w' => e = .returned (.tuple #[.agg #[.int .u64 b0, .bool s0, .int .u64 b1, .bool s1, .int .u64 fb, .bool fs, .int .u64 b3, .bool s3, .int .u64 b4, .bool s4], .int .i64 0]) ∧ Below w.heap.size w w' := by
 have hk : Hid (spec_known.f 2 = some true) := Lib.hid (by decide)
 go_enter Tryz.func20, Tryz.ntmps20
 go_wp2_with (go_at_call 45; refine (spec_known.calls _ _ _ hk.out).mono ?_; rintro e w' ⟨rfl, ⟨nd, rfl⟩⟩)
 refine Fld.genW (fun W => W.heap.size = w.heap.size + 3 ∧ Below w.heap.size w W ∧ Spc.Row W w.heap.size b0 s0 b1 s1 b2 s2 b3 s3 b4 s4 ∧ W.heap[w.heap.size + 1]? = some (.cells #[.int .u64 fb, .bool fs] 24 (0, 0)) ∧ W.heap[w.heap.size + 2]? = some (.cells #[.int .u64 0, .bool false, .int .u64 0, .bool false, .int .u64 0, .bool false, .int .u64 0, .bool false, .int .u64 0, .bool false] 26 (0, 0))) ?_ ?_
 ·refine ⟨by simp, pw_below_drewN (below_alloc (below_alloc (below_alloc (Below.refl _ _) _) _) _) nd, blk_drewN (blk_alloc (blk_alloc (blk_new w _) _) _) nd, ?_, ?_⟩
  ·have := heap_alloc_new (w.alloc (.cells #[.int .u64 b0, .bool s0, .int .u64 b1, .bool s1, .int .u64 b2, .bool s2, .int .u64 b3, .bool s3, .int .u64 b4, .bool s4] 26)) (.cells #[.int .u64 fb, .bool fs] 24)
   refine blk_drewN (blk_alloc ?_ _) nd
   simpa using this
  ·have := heap_alloc_new ((w.alloc (.cells #[.int .u64 b0, .bool s0, .int .u64 b1, .bool s1, .int .u64 b2, .bool s2, .int .u64 b3, .bool s3, .int .u64 b4, .bool s4] 26)).alloc (.cells #[.int .u64 fb, .bool fs] 24)) (.cells #[.int .u64 0, .bool false, .int .u64 0, .bool false, .int .u64 0, .bool false, .int .u64 0, .bool false, .int .u64 0, .bool false] 26)
   refine blk_drewN ?_ nd
   simpa using this
 rintro W ⟨hz, hB0, hR0, hF0, hT0⟩
 have f0 : W.cell? ⟨w.heap.size + 1, 0, none⟩ = some (.int .u64 fb) := (blk_cell hF0 0).trans rfl
 have f1 : W.cell? ⟨w.heap.size + 1, 1, none⟩ = some (.bool fs) := (blk_cell hF0 1).trans rfl
 have ix := Spc.ix2
 replace hB0 := Aside0.mk hB0
 replace hR0 := Aside0.mk hR0
 replace hF0 := Aside0.mk hF0
 replace hT0 := Aside0.mk hT0
 replace hz := Lib.hid hz
 go_region_with (first | (go_at_call 43; refine (Spc.fields_calls _ _).mono ?_; rintro e V ⟨rfl, hX, hb⟩; have hF1 := (hb.block (w.heap.size + 1) (blk_lt hF0.out)).trans hF0.out; have hR1 : Spc.Row V w.heap.size b0 s0 b1 s1 b2 s2 b3 s3 b4 s4 := (hb.block w.heap.size (blk_lt hR0.out)).trans hR0.out; have f0V : V.cell? ⟨w.heap.size + 1, 0, none⟩ = some (.int .u64 fb) := (blk_cell hF1 0).trans rfl; have f1V : V.cell? ⟨w.heap.size + 1, 1, none⟩ = some (.bool fs) := (blk_cell hF1 1).trans rfl; have c0V : V.cell? ⟨w.heap.size, 0, none⟩ = some (.int .u64 b0) := (blk_cell hR1 0).trans rfl; have c1V : V.cell? ⟨w.heap.size, 1, none⟩ = some (.bool s0) := (blk_cell hR1 1).trans rfl; have c2V : V.cell? ⟨w.heap.size, 2, none⟩ = some (.int .u64 b1) := (blk_cell hR1 2).trans rfl; have c3V : V.cell? ⟨w.heap.size, 3, none⟩ = some (.bool s1) := (blk_cell hR1 3).trans rfl; have c4V : V.cell? ⟨w.heap.size, 4, none⟩ = some (.int .u64 b2) := (blk_cell hR1 4).trans rfl; have c5V : V.cell? ⟨w.heap.size, 5, none⟩ = some (.bool s2) := (blk_cell hR1 5).trans rfl; have c6V : V.cell? ⟨w.heap.size, 6, none⟩ = some (.int .u64 b3) := (blk_cell hR1 6).trans rfl; have c7V : V.cell? ⟨w.heap.size, 7, none⟩ = some (.bool s3) := (blk_cell hR1 7).trans rfl; have c8V : V.cell? ⟨w.heap.size, 8, none⟩ = some (.int .u64 b4) := (blk_cell hR1 8).trans rfl; have c9V : V.cell? ⟨w.heap.size, 9, none⟩ = some (.bool s4) := (blk_cell hR1 9).trans rfl; have hT1 : V.heap[w.heap.size + 2]? = some (.cells #[.int .u64 0, .bool false, .int .u64 0, .bool false, .int .u64 0, .bool false, .int .u64 0, .bool false, .int .u64 0, .bool false] 26 (0, 0)) := (hb.block (w.heap.size + 2) (blk_lt hT0.out)).trans hT0.out; have t0V : V.cell? ⟨w.heap.size + 2, 0, none⟩ = some (.int .u64 0) := (blk_cell hT1 0).trans rfl; have t1V : V.cell? ⟨w.heap.size + 2, 1, none⟩ = some (.bool false) := (blk_cell hT1 1).trans rfl; have t2V : V.cell? ⟨w.heap.size + 2, 2, none⟩ = some (.int .u64 0) := (blk_cell hT1 2).trans rfl; have t3V : V.cell? ⟨w.heap.size + 2, 3, none⟩ = some (.bool false) := (blk_cell hT1 3).trans rfl; have t4V : V.cell? ⟨w.heap.size + 2, 4, none⟩ = some (.int .u64 0) := (blk_cell hT1 4).trans rfl; have t5V : V.cell? ⟨w.heap.size + 2, 5, none⟩ = some (.bool false) := (blk_cell hT1 5).trans rfl; have t6V : V.cell? ⟨w.heap.size + 2, 6, none⟩ = some (.int .u64 0) := (blk_cell hT1 6).trans rfl; have t7V : V.cell? ⟨w.heap.size + 2, 7, none⟩ = some (.bool false) := (blk_cell hT1 7).trans rfl; have t8V : V.cell? ⟨w.heap.size + 2, 8, none⟩ = some (.int .u64 0) := (blk_cell hT1 8).trans rfl; have t9V : V.cell? ⟨w.heap.size + 2, 9, none⟩ = some (.bool false) := (blk_cell hT1 9).trans rfl; have zR : ∀ j, V.frozen? ⟨w.heap.size, j, none⟩ = false := fun j => blk_frozen hR1 j; have zT : ∀ j, V.frozen? ⟨w.heap.size + 2, j, none⟩ = false := fun j => blk_frozen hT1 j; have hBV := Aside0.mk (below_step (by repeat (with_reducible first | exact hB0.out | apply below_drew1 | apply pw_below_drewN)) hb); have gR := Aside0.mk hR1; have gT := Aside0.mk hT1; clear hR1 hT1 hF1 hb) | (go_at_call 65; refine (Spc.at2 _ w.heap.size _ (by assumption)).mono ?_; rintro e w' ⟨rfl, rfl⟩))
 all_goals go_wp2_with fail
 all_goals refine bodyPost_ret (v := .tuple #[.agg #[.int .u64 b0, .bool s0, .int .u64 b1, .bool s1, .int .u64 fb, .bool fs, .int .u64 b3, .bool s3, .int .u64 b4, .bool s4], .int .i64 0]) (by simp [results, Tryz.results20, go_sem, *]) rfl ⟨rfl, ?_⟩
 all_goals repeat (first | (with_reducible first | exact hBV.out | apply below_drew1 | apply pw_below_drewN | (refine below_set ?_ (by omega))) | exact hBV.out)
set_option maxHeartbeats 8000000 in
set_option maxRecDepth 100000 in
theorem Spc.with3 (b0 : Int) (s0 : Bool) (b1 : Int) (s1 : Bool) (b2 : Int) (s2 : Bool) (b3 : Int) (s3 : Bool) (b4 : Int) (s4 : Bool) (fb : Int) (fs : Bool) (w : World) : Calls Tryz.prog 20 #[.agg #[.int .u64 b0, .bool s0, .int .u64 b1, .bool s1, .int .u64 b2, .bool s2, .int .u64 b3, .bool s3, .int .u64 b4, .bool s4], .int .i64 3, .agg #[.int .u64 fb, .bool fs]] w fun e w' => e = .returned (.tuple #[.agg #[.int .u64 b0, .bool s0, .int .u64 b1, .bool s1, .int .u64 b2, .bool s2, .int .u64 fb, .bool fs, .int .u64 b4, .bool s4], .int .i64 0]) ∧ Below w.heap.size w w' := by
 have hk : Hid (spec_known.f 3 = some true) := Lib.hid (by decide)
 go_enter Tryz.func20, Tryz.ntmps20
 go_wp2_with (go_at_call 45; refine (spec_known.calls _ _ _ hk.out).mono ?_; rintro e w' ⟨rfl, ⟨nd, rfl⟩⟩)
 refine Fld.genW (fun W => W.heap.size = w.heap.size + 3 ∧ Below w.heap.size w W ∧ Spc.Row W w.heap.size b0 s0 b1 s1 b2 s2 b3 s3 b4 s4 ∧ W.heap[w.heap.size + 1]? = some (.cells #[.int .u64 fb, .bool fs] 24 (0, 0)) ∧ W.heap[w.heap.size + 2]? = some (.cells #[.int .u64 0, .bool false, .int .u64 0, .bool false, .int .u64 0, .bool false, .int .u64 0, .bool false, .int .u64 0, .bool false] 26 (0, 0))) ?_ ?_
 ·refine ⟨by simp, pw_below_drewN (below_alloc (below_alloc (below_alloc (Below.refl _ _) _) _) _) nd, blk_drewN (blk_alloc (blk_alloc (blk_new w _) _) _) nd, ?_, ?_⟩
  ·have := heap_alloc_new (w.alloc (.cells #[.int .u64 b0, .bool s0, .int .u64 b1, .bool s1, .int .u64 b2, .bool s2, .int .u64 b3, .bool s3, .int .u64 b4, .bool s4] 26)) (.cells #[.int .u64 fb, .bool fs] 24)
   refine blk_drewN (blk_alloc ?_ _) nd
   simpa using this
  ·have := heap_alloc_new ((w.alloc (.cells #[.int .u64 b0, .bool s0, .int .u64 b1, .bool s1, .int .u64 b2, .bool s2, .int .u64 b3, .bool s3, .int .u64 b4, .bool s4] 26)).alloc (.cells #[.int .u64 fb, .bool fs] 24)) (.cells #[.int .u64 0, .bool false, .int .u64 0, .bool false, .int .u64 0, .bool false, .int .u64 0, .bool false, .int .u64 0, .bool false] 26)
   refine blk_drewN ?_ nd
   simpa using this
 rintro W ⟨hz, hB0, hR0, hF0, hT0⟩
 have f0 : W.cell? ⟨w.heap.size + 1, 0, none⟩ = some (.int .u64 fb) := (blk_cell hF0 0).trans rfl
 have f1 : W.cell? ⟨w.heap.size + 1, 1, none⟩ = some (.bool fs) := (blk_cell hF0 1).trans rfl
 have ix := Spc.ix3
 replace hB0 := Aside0.mk hB0
 replace hR0 := Aside0.mk hR0
 replace hF0 := Aside0.mk hF0
 replace hT0 := Aside0.mk hT0
 replace hz := Lib.hid hz
 go_region_with (first | (go_at_call 43; refine (Spc.fields_calls _ _).mono ?_; rintro e V ⟨rfl, hX, hb⟩; have hF1 := (hb.block (w.heap.size + 1) (blk_lt hF0.out)).trans hF0.out; have hR1 : Spc.Row V w.heap.size b0 s0 b1 s1 b2 s2 b3 s3 b4 s4 := (hb.block w.heap.size (blk_lt hR0.out)).trans hR0.out; have f0V : V.cell? ⟨w.heap.size + 1, 0, none⟩ = some (.int .u64 fb) := (blk_cell hF1 0).trans rfl; have f1V : V.cell? ⟨w.heap.size + 1, 1, none⟩ = some (.bool fs) := (blk_cell hF1 1).trans rfl; have c0V : V.cell? ⟨w.heap.size, 0, none⟩ = some (.int .u64 b0) := (blk_cell hR1 0).trans rfl; have c1V : V.cell? ⟨w.heap.size, 1, none⟩ = some (.bool s0) := (blk_cell hR1 1).trans rfl; have c2V : V.cell? ⟨w.heap.size, 2, none⟩ = some (.int .u64 b1) := (blk_cell hR1 2).trans rfl; have c3V : V.cell? ⟨w.heap.size, 3, none⟩ = some (.bool s1) := (blk_cell hR1 3).trans rfl; have c4V : V.cell? ⟨w.heap.size, 4, none⟩ = some (.int .u64 b2) := (blk_cell hR1 4).trans rfl; have c5V : V.cell? ⟨w.heap.size, 5, none⟩ = some (.bool s2) := (blk_cell hR1 5).trans rfl; have c6V : V.cell? ⟨w.heap.size, 6, none⟩ = some (.int .u64 b3) := (blk_cell hR1 6).trans rfl; have c7V : V.cell? ⟨w.heap.size, 7, none⟩ = some (.bool s3) := (blk_cell hR1 7).trans rfl; have c8V : V.cell? ⟨w.heap.size, 8, none⟩ = some (.int .u64 b4) := (blk_cell hR1 8).trans rfl; have c9V : V.cell? ⟨w.heap.size, 9, none⟩ = some (.bool s4) := (blk_cell hR1 9).trans rfl; have hT1 : V.heap[w.heap.size + 2]? = some (.cells #[.int .u64 0, .bool false, .int .u64 0, .bool false, .int .u64 0, .bool false, .int .u64 0, .bool false, .int .u64 0, .bool false] 26 (0, 0)) := (hb.block (w.heap.size + 2) (blk_lt hT0.out)).trans hT0.out; have t0V : V.cell? ⟨w.heap.size + 2, 0, none⟩ = some (.int .u64 0) := (blk_cell hT1 0).trans rfl; have t1V : V.cell? ⟨w.heap.size + 2, 1, none⟩ = some (.bool false) := (blk_cell hT1 1).trans rfl; have t2V : V.cell? ⟨w.heap.size + 2, 2, none⟩ = some (.int .u64 0) := (blk_cell hT1 2).trans rfl; have t3V : V.cell? ⟨w.heap.size + 2, 3, none⟩ = some (.bool false) := (blk_cell hT1 3).trans rfl; have t4V : V.cell? ⟨w.heap.size + 2, 4, none⟩ = some (.int .u64 0) := (blk_cell hT1 4).trans rfl; have t5V : V.cell? ⟨w.heap.size + 2, 5, none⟩ = some (.bool false) := (blk_cell hT1 5).trans rfl; have t6V : V.cell? ⟨w.heap.size + 2, 6, none⟩ = some (.int .u64 0) := (blk_cell hT1 6).trans rfl; have t7V : V.cell? ⟨w.heap.size + 2, 7, none⟩ = some (.bool false) := (blk_cell hT1 7).trans rfl; have t8V : V.cell? ⟨w.heap.size + 2, 8, none⟩ = some (.int .u64 0) := (blk_cell hT1 8).trans rfl; have t9V : V.cell? ⟨w.heap.size + 2, 9, none⟩ = some (.bool false) := (blk_cell hT1 9).trans rfl; have zR : ∀ j, V.frozen? ⟨w.heap.size, j, none⟩ = false := fun j => blk_frozen hR1 j; have zT : ∀ j, V.frozen? ⟨w.heap.size + 2, j, none⟩ = false := fun j => blk_frozen hT1 j; have hBV := Aside0.mk (below_step (by repeat (with_reducible first | exact hB0.out | apply below_drew1 | apply pw_below_drewN)) hb); have gR := Aside0.mk hR1; have gT := Aside0.mk hT1; clear hR1 hT1 hF1 hb) | (go_at_call 66; refine (Spc.at3 _ w.heap.size _ (by assumption)).mono ?_; rintro e w' ⟨rfl, rfl⟩))
 all_goals go_wp2_with fail
 all_goals refine bodyPost_ret (v := .tuple #[.agg #[.int .u64 b0, .bool s0, .int .u64 b1, .bool s1, .int .u64 b2, .bool s2, .int .u64 fb, .bool fs, .int .u64 b4, .bool s4], .int .i64 0]) (by simp [results, Tryz.results20, go_sem, *]) rfl ⟨rfl, ?_⟩
 all_goals repeat (first | (with_reducible first | exact hBV.out | apply below_drew1 | apply pw_below_drewN | (refine below_set ?_ (by omega))) | exact hBV.out)
set_option maxHeartbeats 8000000 in
set_option maxRecDepth 100000 in
theorem Spc.with4 (b0 : Int) (s0 : Bool) (b1 : Int) (s1 : Bool) (b2 : Int) (s2 : Bool) (b3 : Int) (s3 : Bool) (b4 : Int) (s4 : Bool) (fb : Int) (fs : Bool) (w : World) : Calls Tryz.prog 20 #[.agg #[.int .u64 b0, .bool s0, .int .u64 b1, .bool s1, .int .u64 b2, .bool s2, .int .u64 b3, .bool s3, .int .u64 b4, .bool s4], .int .i64 4, .agg #[.int .u64 fb, .bool fs]] w fun e w' => e = .returned (.tuple #[.agg #[.int .u64 b0, .bool s0, .int .u64 b1, .bool s1, .int .u64 b2, .bool s2, .int .u64 b3, .bool s3, .int .u64 fb, .bool fs], .int .i64 0]) ∧ Below w.heap.size w w' := by
 have hk : Hid (spec_known.f 4 = some true) := Lib.hid (by decide)
 go_enter Tryz.func20, Tryz.ntmps20
 go_wp2_with (go_at_call 45; refine (spec_known.calls _ _ _ hk.out).mono ?_; rintro e w' ⟨rfl, ⟨nd, rfl⟩⟩)
 refine Fld.genW (fun W => W.heap.size = w.heap.size + 3 ∧ Below w.heap.size w W ∧ Spc.Row W w.heap.size b0 s0 b1 s1 b2 s2 b3 s3 b4 s4 ∧ W.heap[w.heap.size + 1]? = some (.cells #[.int .u64 fb, .bool fs] 24 (0, 0)) ∧ W.heap[w.heap.size + 2]? = some (.cells #[.int .u64 0, .bool false, .int .u64 0, .bool false, .int .u64 0, .bool false, .int .u64 0, .bool false, .int .u64 0, .bool false] 26 (0, 0))) ?_ ?_
 ·refine ⟨by simp, pw_below_drewN (below_alloc (below_alloc (below_alloc (Below.refl _ _) _) _) _) nd, blk_drewN (blk_alloc (blk_alloc (blk_new w _) _) _) nd, ?_, ?_⟩
  ·have := heap_alloc_new (w.alloc (.cells #[.int .u64 b0, .bool s0, .int .u64 b1, .bool s1, .int .u64 b2, .bool s2, .int .u64 b3, .bool s3, .int .u64 b4, .bool s4] 26)) (.cells #[.int .u64 fb, .bool fs] 24)
   refine blk_drewN (blk_alloc ?_ _) nd
   simpa using this
  ·have := heap_alloc_new ((w.alloc (.cells #[.int .u64 b0, .bool s0, .int .u64 b1, .bool s1, .int .u64 b2, .bool s2, .int .u64 b3, .bool s3, .int .u64 b4, .bool s4] 26)).alloc (.cells #[.int .u64 fb, .bool fs] 24)) (.cells #[.int .u64 0, .bool false, .int .u64 0, .bool false, .int .u64 0, .bool false, .int .u64 0, .bool false, .int .u64 0, .bool false] 26)
   refine blk_drewN ?_ nd
   simpa using this
 rintro W ⟨hz, hB0, hR0, hF0, hT0⟩
 have f0 : W.cell? ⟨w.heap.size + 1, 0, none⟩ = some (.int .u64 fb) := (blk_cell hF0 0).trans rfl
 have f1 : W.cell? ⟨w.heap.size + 1, 1, none⟩ = some (.bool fs) := (blk_cell hF0 1).trans rfl
 have ix := Spc.ix4
 replace hB0 := Aside0.mk hB0
 replace hR0 := Aside0.mk hR0
 replace hF0 := Aside0.mk hF0
 replace hT0 := Aside0.mk hT0
 replace hz := Lib.hid hz
 go_region_with (first | (go_at_call 43; refine (Spc.fields_calls _ _).mono ?_; rintro e V ⟨rfl, hX, hb⟩; have hF1 := (hb.block (w.heap.size + 1) (blk_lt hF0.out)).trans hF0.out; have hR1 : Spc.Row V w.heap.size b0 s0 b1 s1 b2 s2 b3 s3 b4 s4 := (hb.block w.heap.size (blk_lt hR0.out)).trans hR0.out; have f0V : V.cell? ⟨w.heap.size + 1, 0, none⟩ = some (.int .u64 fb) := (blk_cell hF1 0).trans rfl; have f1V : V.cell? ⟨w.heap.size + 1, 1, none⟩ = some (.bool fs) := (blk_cell hF1 1).trans rfl; have c0V : V.cell? ⟨w.heap.size, 0, none⟩ = some (.int .u64 b0) := (blk_cell hR1 0).trans rfl; have c1V : V.cell? ⟨w.heap.size, 1, none⟩ = some (.bool s0) := (blk_cell hR1 1).trans rfl; have c2V : V.cell? ⟨w.heap.size, 2, none⟩ = some (.int .u64 b1) := (blk_cell hR1 2).trans rfl; have c3V : V.cell? ⟨w.heap.size, 3, none⟩ = some (.bool s1) := (blk_cell hR1 3).trans rfl; have c4V : V.cell? ⟨w.heap.size, 4, none⟩ = some (.int .u64 b2) := (blk_cell hR1 4).trans rfl; have c5V : V.cell? ⟨w.heap.size, 5, none⟩ = some (.bool s2) := (blk_cell hR1 5).trans rfl; have c6V : V.cell? ⟨w.heap.size, 6, none⟩ = some (.int .u64 b3) := (blk_cell hR1 6).trans rfl; have c7V : V.cell? ⟨w.heap.size, 7, none⟩ = some (.bool s3) := (blk_cell hR1 7).trans rfl; have c8V : V.cell? ⟨w.heap.size, 8, none⟩ = some (.int .u64 b4) := (blk_cell hR1 8).trans rfl; have c9V : V.cell? ⟨w.heap.size, 9, none⟩ = some (.bool s4) := (blk_cell hR1 9).trans rfl; have hT1 : V.heap[w.heap.size + 2]? = some (.cells #[.int .u64 0, .bool false, .int .u64 0, .bool false, .int .u64 0, .bool false, .int .u64 0, .bool false, .int .u64 0, .bool false] 26 (0, 0)) := (hb.block (w.heap.size + 2) (blk_lt hT0.out)).trans hT0.out; have t0V : V.cell? ⟨w.heap.size + 2, 0, none⟩ = some (.int .u64 0) := (blk_cell hT1 0).trans rfl; have t1V : V.cell? ⟨w.heap.size + 2, 1, none⟩ = some (.bool false) := (blk_cell hT1 1).trans rfl; have t2V : V.cell? ⟨w.heap.size + 2, 2, none⟩ = some (.int .u64 0) := (blk_cell hT1 2).trans rfl; have t3V : V.cell? ⟨w.heap.size + 2, 3, none⟩ = some (.bool false) := (blk_cell hT1 3).trans rfl; have t4V : V.cell? ⟨w.heap.size + 2, 4, none⟩ = some (.int .u64 0) := (blk_cell hT1 4).trans rfl; have t5V : V.cell? ⟨w.heap.size + 2, 5, none⟩ = some (.bool false) := (blk_cell hT1 5).trans rfl; have t6V : V.cell? ⟨w.heap.size + 2, 6, none⟩ = some (.int .u64 0) := (blk_cell hT1 6).trans rfl; have t7V : V.cell? ⟨w.heap.size + 2, 7, none⟩ = some (.bool false) := (blk_cell hT1 7).trans rfl; have t8V : V.cell? ⟨w.heap.size + 2, 8, none⟩ = some (.int .u64 0) := (blk_cell hT1 8).trans rfl; have t9V : V.cell? ⟨w.heap.size + 2, 9, none⟩ = some (.bool false) := (blk_cell hT1 9).trans rfl; have zR : ∀ j, V.frozen? ⟨w.heap.size, j, none⟩ = false := fun j => blk_frozen hR1 j; have zT : ∀ j, V.frozen? ⟨w.heap.size + 2, j, none⟩ = false := fun j => blk_frozen hT1 j; have hBV := Aside0.mk (below_step (by repeat (with_reducible first | exact hB0.out | apply below_drew1 | apply pw_below_drewN)) hb); have gR := Aside0.mk hR1; have gT := Aside0.mk hT1; clear hR1 hT1 hF1 hb) | (go_at_call 67; refine (Spc.at4 _ w.heap.size _ (by assumption)).mono ?_; rintro e w' ⟨rfl, rfl⟩))
 all_goals go_wp2_with fail
 all_goals refine bodyPost_ret (v := .tuple #[.agg #[.int .u64 b0, .bool s0, .int .u64 b1, .bool s1, .int .u64 b2, .bool s2, .int .u64 b3, .bool s3, .int .u64 fb, .bool fs], .int .i64 0]) (by simp [results, Tryz.results20, go_sem, *]) rfl ⟨rfl, ?_⟩
 all_goals repeat (first | (with_reducible first | exact hBV.out | apply below_drew1 | apply pw_below_drewN | (refine below_set ?_ (by omega))) | exact hBV.out)
def spec_With.f (a0_0 : Int) (a0_1 : Bool) (a0_2 : Int) (a0_3 : Bool) (a0_4 : Int) (a0_5 : Bool) (a0_6 : Int) (a0_7 : Bool) (a0_8 : Int) (a0_9 : Bool) (a1 : Int) (a2_0 : Int) (a2_1 : Bool) : Option (Int × Bool × Int × Bool × Int × Bool × Int × Bool × Int × Bool × Int) := if a1 = 0 then some (a2_0, a2_1, a0_2, a0_3, a0_4, a0_5, a0_6, a0_7, a0_8, a0_9, 0) else if a1 = 1 then some (a0_0, a0_1, a2_0, a2_1, a0_4, a0_5, a0_6, a0_7, a0_8, a0_9, 0) else if a1 = 2 then some (a0_0, a0_1, a0_2, a0_3, a2_0, a2_1, a0_6, a0_7, a0_8, a0_9, 0) else if a1 = 3 then some (a0_0, a0_1, a0_2, a0_3, a0_4, a0_5, a2_0, a2_1, a0_8, a0_9, 0) else if a1 = 4 then some (a0_0, a0_1, a0_2, a0_3, a0_4, a0_5, a0_6, a0_7, a2_0, a2_1, 0) else some (a0_0, a0_1, a0_2, a0_3, a0_4, a0_5, a0_6, a0_7, a0_8, a0_9, 7)
set_option maxHeartbeats 8000000 in
set_option maxRecDepth 100000 in
theorem spec_With.calls (a0_0 : Int) (a0_1 : Bool) (a0_2 : Int) (a0_3 : Bool) (a0_4 : Int) (a0_5 : Bool) (a0_6 : Int) (a0_7 : Bool) (a0_8 : Int) (a0_9 : Bool) (a1 : Int) (a2_0 : Int) (a2_1 : Bool) (r1 : Int) (r2 : Bool) (r3 : Int) (r4 : Bool) (r5 : Int) (r6 : Bool) (r7 : Int) (r8 : Bool) (r9 : Int) (r10 : Bool) (r11 : Int) (w : World) (h : spec_With.f a0_0 a0_1 a0_2 a0_3 a0_4 a0_5 a0_6 a0_7 a0_8 a0_9 a1 a2_0 a2_1 = some (r1, r2, r3, r4, r5, r6, r7, r8, r9, r10, r11)) :
  Calls Tryz.prog 20 #[.agg #[.int .u64 a0_0, .bool a0_1, .int .u64 a0_2, .bool a0_3, .int .u64 a0_4, .bool a0_5, .int .u64 a0_6, .bool a0_7, .int .u64 a0_8, .bool a0_9], .int .i64 a1, .agg #[.int .u64 a2_0, .bool a2_1]] w fun e w' => e = .returned (.tuple #[.agg #[.int .u64 r1, .bool r2, .int .u64 r3, .bool r4, .int .u64 r5, .bool r6, .int .u64 r7, .bool r8, .int .u64 r9, .bool r10], .int .i64 r11]) ∧ Below w.heap.size w w' := by
 have H : _ = some (r1, r2, r3, r4, r5, r6, r7, r8, r9, r10, r11) := h
 clear h
 unfold spec_With.f at H
 by_cases c0 : a1 = 0
 ·rw [if_pos c0] at H
  subst c0
  simp only [Option.some.injEq, Prod.mk.injEq] at H
  obtain ⟨rfl, rfl, rfl, rfl, rfl, rfl, rfl, rfl, rfl, rfl, rfl⟩ := H
  exact Spc.with0 a0_0 a0_1 a0_2 a0_3 a0_4 a0_5 a0_6 a0_7 a0_8 a0_9 a2_0 a2_1 w
 rw [if_neg c0] at H
 by_cases c1 : a1 = 1
 ·rw [if_pos c1] at H
  subst c1
  simp only [Option.some.injEq, Prod.mk.injEq] at H
  obtain ⟨rfl, rfl, rfl, rfl, rfl, rfl, rfl, rfl, rfl, rfl, rfl⟩ := H
  exact Spc.with1 a0_0 a0_1 a0_2 a0_3 a0_4 a0_5 a0_6 a0_7 a0_8 a0_9 a2_0 a2_1 w
 rw [if_neg c1] at H
 by_cases c2 : a1 = 2
 ·rw [if_pos c2] at H
  subst c2
  simp only [Option.some.injEq, Prod.mk.injEq] at H
  obtain ⟨rfl, rfl, rfl, rfl, rfl, rfl, rfl, rfl, rfl, rfl, rfl⟩ := H
  exact Spc.with2 a0_0 a0_1 a0_2 a0_3 a0_4 a0_5 a0_6 a0_7 a0_8 a0_9 a2_0 a2_1 w
 rw [if_neg c2] at H
 by_cases c3 : a1 = 3
 ·rw [if_pos c3] at H
  subst c3
  simp only [Option.some.injEq, Prod.mk.injEq] at H
  obtain ⟨rfl, rfl, rfl, rfl, rfl, rfl, rfl, rfl, rfl, rfl, rfl⟩ := H
  exact Spc.with3 a0_0 a0_1 a0_2 a0_3 a0_4 a0_5 a0_6 a0_7 a0_8 a0_9 a2_0 a2_1 w
 rw [if_neg c3] at H
 by_cases c4 : a1 = 4
 ·rw [if_pos c4] at H
  subst c4
  simp only [Option.some.injEq, Prod.mk.injEq] at H
  obtain ⟨rfl, rfl, rfl, rfl, rfl, rfl, rfl, rfl, rfl, rfl, rfl⟩ := H
  exact Spc.with4 a0_0 a0_1 a0_2 a0_3 a0_4 a0_5 a0_6 a0_7 a0_8 a0_9 a2_0 a2_1 w
 rw [if_neg c4] at H
 simp only [Option.some.injEq, Prod.mk.injEq] at H
 obtain ⟨rfl, rfl, rfl, rfl, rfl, rfl, rfl, rfl, rfl, rfl, rfl⟩ := H
 exact Spc.with_bad a0_0 a0_1 a0_2 a0_3 a0_4 a0_5 a0_6 a0_7 a0_8 a0_9 a1 a2_0 a2_1 (by omega) w

end Go.Proofs.YtcjfjicagopppaaGreatDoor.PDay
