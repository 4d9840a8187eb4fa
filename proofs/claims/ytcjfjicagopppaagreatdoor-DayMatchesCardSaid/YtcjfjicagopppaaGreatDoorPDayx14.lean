-- Written by a program of this session (gprint.py) over the kit's print.
import Derived.Test.YtcjfjicagopppaaGreatDoorPDayx0
import Derived.Test.YtcjfjicagopppaaGreatDoorPDayx5
import Derived.Test.YtcjfjicagopppaaGreatDoorPDayx9
import Derived.Test.YtcjfjicagopppaaGreatDoorPDayx13
namespace Go.Proofs.YtcjfjicagopppaaGreatDoor.PDay
open Go.RowKit Go.Proofs.YtcjfjicagopppaaGreatDoorW.PrintWords Go.Proofs.YtcjfjicagopppaaGreatDoorW.PrintLast Go.Proofs.YtcjfjicagopppaaGreatDoorW.PrintMore
attribute [local go_sem] max2_int min2_int max_two min_two max_three min_three max_four min_four   -- for this text's walks alone
set_option linter.unusedVariables false
set_option linter.unusedSimpArgs false

/-! ### complinelaw21_DayMatches: function 4 -/
def complinelaw21_DayMatches.f (k : Nat) (a0_0 : Int) (a0_1 : Bool) (a0_2 : Int) (a0_3 : Bool) (a0_4 : Int) (a0_5 : Bool) (a0_6 : Int) (a0_7 : Bool) (a0_8 : Int) (a0_9 : Bool) (a1 : Int) : Option (Bool) := (complinelaw21_works.f).bind fun t200 => (if t200 = true then ((day_Match.f a0_0 a0_1 a0_2 a0_3 a0_4 a0_5 a0_6 a0_7 a0_8 a0_9 a1).bind fun bt201 => ((complineref21_Match.f k a0_0 a0_1 a0_2 a0_3 a0_4 a0_5 a0_6 a0_7 a0_8 a0_9 a1).bind fun bt203 => ((day_Minutes.f a0_0 a0_1 a0_2 a0_3 a0_4 a0_5 a0_6 a0_7 a0_8 a0_9).bind fun bt205 => ((complineref18_Count.f k a0_2 a0_3).bind fun t207 => ((complineref18_Count.f k a0_0 a0_1).bind fun t208 => (if bt205.2 = 0 then (if (bt201.1 == bt203.1) = true then (if bt201.2 = bt203.2 then (if bt205.1 = (wrap64 (t207 * t208)) then (some (bt201.2 != 2)) else (some false)) else (some false)) else (some false)) else (if (bt201.1 == bt203.1) = true then (if bt201.2 = bt203.2 then (if bt205.1 = 0 then (if bt201.2 = 2 then (some (bt205.2 == 2)) else (some false)) else (some false)) else (some false)) else (some false)))))))) else (some false))
theorem complinelaw21_DayMatches.mono : ∀ a0 a1 a2 a3 a4 a5 a6 a7 a8 a9 a10 k, LeO (complinelaw21_DayMatches.f k a0 a1 a2 a3 a4 a5 a6 a7 a8 a9 a10) (complinelaw21_DayMatches.f (k + 1) a0 a1 a2 a3 a4 a5 a6 a7 a8 a9 a10) := by
 intro a0 a1 a2 a3 a4 a5 a6 a7 a8 a9 a10 k
 unfold complinelaw21_DayMatches.f
 repeat' first
   | (with_reducible exact complineref18_Count.mono _ _ _)
   | (with_reducible exact complineref21_Match.mono _ _ _ _ _ _ _ _ _ _ _ _)
   | (with_reducible exact LeO.refl _)
   | (with_reducible exact LeO.none _)
   | (with_reducible refine LeO.ite ?_ ?_)
   | (with_reducible refine LeO.bind ?_ (fun _ => ?_))
   | exact complineref18_Count.mono _ _ _
   | exact complineref21_Match.mono _ _ _ _ _ _ _ _ _ _ _ _
   | exact LeO.none _
   | refine LeO.ite ?_ ?_
   | refine LeO.bind ?_ (fun _ => ?_)
def complinelaw21_DayMatches.T7 : Bool × List (List Nat × List Nat) := (true, [([], []), ([0], [0]), ([1], [1]), ([], []), ([3], [3]), ([4, 2], [4]), ([2, 5], [2, 5]), ([6, 5, 0, 1, 2, 3, 4, 5, 6], [6])])
def complinelaw21_DayMatches.B7 : List Nat := [0, 1, 3, 0, 8, 31, 63, 127]
theorem complinelaw21_DayMatches.tab7 : rtab .any (opsOf Tryz.f4 7) = complinelaw21_DayMatches.T7 := by kernel_rfl
theorem complinelaw21_DayMatches.bits7 : waitsOk complinelaw21_DayMatches.T7.2 complinelaw21_DayMatches.B7 = true := by kernel_rfl
set_option maxHeartbeats 8000000 in
set_option maxRecDepth 100000 in
theorem complinelaw21_DayMatches.calls (k : Nat) (a0_0 : Int) (a0_1 : Bool) (a0_2 : Int) (a0_3 : Bool) (a0_4 : Int) (a0_5 : Bool) (a0_6 : Int) (a0_7 : Bool) (a0_8 : Int) (a0_9 : Bool) (a1 : Int) (r : Bool) (w : World) (hT : Tab w) (h : complinelaw21_DayMatches.f k a0_0 a0_1 a0_2 a0_3 a0_4 a0_5 a0_6 a0_7 a0_8 a0_9 a1 = some r) :
  Calls Tryz.prog 4 #[.agg #[.int .u64 a0_0, .bool a0_1, .int .u64 a0_2, .bool a0_3, .int .u64 a0_4, .bool a0_5, .int .u64 a0_6, .bool a0_7, .int .u64 a0_8, .bool a0_9], .int .i64 a1] w fun e w' => e = .returned (.bool r) ∧ Below w.heap.size w w' := by
 have hu26 := Tryz.underlying26
 have hu24 := Tryz.underlying24
 have HB := Aside0.mk (Below.refl w.heap.size w)
 have H : ((complinelaw21_works.f).bind fun t200 => (if t200 = true then ((day_Match.f a0_0 a0_1 a0_2 a0_3 a0_4 a0_5 a0_6 a0_7 a0_8 a0_9 a1).bind fun bt201 => ((complineref21_Match.f k a0_0 a0_1 a0_2 a0_3 a0_4 a0_5 a0_6 a0_7 a0_8 a0_9 a1).bind fun bt203 => ((day_Minutes.f a0_0 a0_1 a0_2 a0_3 a0_4 a0_5 a0_6 a0_7 a0_8 a0_9).bind fun bt205 => ((complineref18_Count.f k a0_2 a0_3).bind fun t207 => ((complineref18_Count.f k a0_0 a0_1).bind fun t208 => (if bt205.2 = 0 then (if (bt201.1 == bt203.1) = true then (if bt201.2 = bt203.2 then (if bt205.1 = (wrap64 (t207 * t208)) then (some (bt201.2 != 2)) else (some false)) else (some false)) else (some false)) else (if (bt201.1 == bt203.1) = true then (if bt201.2 = bt203.2 then (if bt205.1 = 0 then (if bt201.2 = 2 then (some (bt205.2 == 2)) else (some false)) else (some false)) else (some false)) else (some false)))))))) else (some false))) = some r := h
 clear h
 replace H := Option.bind_eq_some_iff.mp H
 obtain ⟨t200, A30, H⟩ := H
 replace H : (if t200 = true then ((day_Match.f a0_0 a0_1 a0_2 a0_3 a0_4 a0_5 a0_6 a0_7 a0_8 a0_9 a1).bind fun bt201 => ((complineref21_Match.f k a0_0 a0_1 a0_2 a0_3 a0_4 a0_5 a0_6 a0_7 a0_8 a0_9 a1).bind fun bt203 => ((day_Minutes.f a0_0 a0_1 a0_2 a0_3 a0_4 a0_5 a0_6 a0_7 a0_8 a0_9).bind fun bt205 => ((complineref18_Count.f k a0_2 a0_3).bind fun t207 => ((complineref18_Count.f k a0_0 a0_1).bind fun t208 => (if bt205.2 = 0 then (if (bt201.1 == bt203.1) = true then (if bt201.2 = bt203.2 then (if bt205.1 = (wrap64 (t207 * t208)) then (some (bt201.2 != 2)) else (some false)) else (some false)) else (some false)) else (if (bt201.1 == bt203.1) = true then (if bt201.2 = bt203.2 then (if bt205.1 = 0 then (if bt201.2 = 2 then (some (bt205.2 == 2)) else (some false)) else (some false)) else (some false)) else (some false)))))))) else (some false)) = some r := H
 have A3 := Aside0.mk A30
 clear A30
 by_cases c4 : t200 = true
 ·subst c4
  have H1 : ((day_Match.f a0_0 a0_1 a0_2 a0_3 a0_4 a0_5 a0_6 a0_7 a0_8 a0_9 a1).bind fun bt201 => ((complineref21_Match.f k a0_0 a0_1 a0_2 a0_3 a0_4 a0_5 a0_6 a0_7 a0_8 a0_9 a1).bind fun bt203 => ((day_Minutes.f a0_0 a0_1 a0_2 a0_3 a0_4 a0_5 a0_6 a0_7 a0_8 a0_9).bind fun bt205 => ((complineref18_Count.f k a0_2 a0_3).bind fun t207 => ((complineref18_Count.f k a0_0 a0_1).bind fun t208 => (if bt205.2 = 0 then (if (bt201.1 == bt203.1) = true then (if bt201.2 = bt203.2 then (if bt205.1 = (wrap64 (t207 * t208)) then (some (bt201.2 != 2)) else (some false)) else (some false)) else (some false)) else (if (bt201.1 == bt203.1) = true then (if bt201.2 = bt203.2 then (if bt205.1 = 0 then (if bt201.2 = 2 then (some (bt205.2 == 2)) else (some false)) else (some false)) else (some false)) else (some false)))))))) = some r := by rw [if_pos rfl] at H; exact H
  clear H
  have H := H1
  clear H1
  replace H := Option.bind_eq_some_iff.mp H
  obtain ⟨⟨t201, t202⟩, A50, H⟩ := H
  replace H : ((complineref21_Match.f k a0_0 a0_1 a0_2 a0_3 a0_4 a0_5 a0_6 a0_7 a0_8 a0_9 a1).bind fun bt203 => ((day_Minutes.f a0_0 a0_1 a0_2 a0_3 a0_4 a0_5 a0_6 a0_7 a0_8 a0_9).bind fun bt205 => ((complineref18_Count.f k a0_2 a0_3).bind fun t207 => ((complineref18_Count.f k a0_0 a0_1).bind fun t208 => (if bt205.2 = 0 then (if (t201 == bt203.1) = true then (if t202 = bt203.2 then (if bt205.1 = (wrap64 (t207 * t208)) then (some (t202 != 2)) else (some false)) else (some false)) else (some false)) else (if (t201 == bt203.1) = true then (if t202 = bt203.2 then (if bt205.1 = 0 then (if t202 = 2 then (some (bt205.2 == 2)) else (some false)) else (some false)) else (some false)) else (some false))))))) = some r := H
  have A5 := Aside0.mk A50
  clear A50
  replace H := Option.bind_eq_some_iff.mp H
  obtain ⟨⟨t203, t204⟩, A60, H⟩ := H
  replace H : ((day_Minutes.f a0_0 a0_1 a0_2 a0_3 a0_4 a0_5 a0_6 a0_7 a0_8 a0_9).bind fun bt205 => ((complineref18_Count.f k a0_2 a0_3).bind fun t207 => ((complineref18_Count.f k a0_0 a0_1).bind fun t208 => (if bt205.2 = 0 then (if (t201 == t203) = true then (if t202 = t204 then (if bt205.1 = (wrap64 (t207 * t208)) then (some (t202 != 2)) else (some false)) else (some false)) else (some false)) else (if (t201 == t203) = true then (if t202 = t204 then (if bt205.1 = 0 then (if t202 = 2 then (some (bt205.2 == 2)) else (some false)) else (some false)) else (some false)) else (some false)))))) = some r := H
  have A6 := Aside0.mk A60
  clear A60
  replace H := Option.bind_eq_some_iff.mp H
  obtain ⟨⟨t205, t206⟩, A70, H⟩ := H
  replace H : ((complineref18_Count.f k a0_2 a0_3).bind fun t207 => ((complineref18_Count.f k a0_0 a0_1).bind fun t208 => (if t206 = 0 then (if (t201 == t203) = true then (if t202 = t204 then (if t205 = (wrap64 (t207 * t208)) then (some (t202 != 2)) else (some false)) else (some false)) else (some false)) else (if (t201 == t203) = true then (if t202 = t204 then (if t205 = 0 then (if t202 = 2 then (some (t206 == 2)) else (some false)) else (some false)) else (some false)) else (some false))))) = some r := H
  have A7 := Aside0.mk A70
  clear A70
  replace H := Option.bind_eq_some_iff.mp H
  obtain ⟨t207, A80, H⟩ := H
  replace H : ((complineref18_Count.f k a0_0 a0_1).bind fun t208 => (if t206 = 0 then (if (t201 == t203) = true then (if t202 = t204 then (if t205 = (wrap64 (t207 * t208)) then (some (t202 != 2)) else (some false)) else (some false)) else (some false)) else (if (t201 == t203) = true then (if t202 = t204 then (if t205 = 0 then (if t202 = 2 then (some (t206 == 2)) else (some false)) else (some false)) else (some false)) else (some false)))) = some r := H
  have A8 := Aside0.mk A80
  clear A80
  replace H := Option.bind_eq_some_iff.mp H
  obtain ⟨t208, A90, H⟩ := H
  replace H : (if t206 = 0 then (if (t201 == t203) = true then (if t202 = t204 then (if t205 = (wrap64 (t207 * t208)) then (some (t202 != 2)) else (some false)) else (some false)) else (some false)) else (if (t201 == t203) = true then (if t202 = t204 then (if t205 = 0 then (if t202 = 2 then (some (t206 == 2)) else (some false)) else (some false)) else (some false)) else (some false))) = some r := H
  have A9 := Aside0.mk A90
  clear A90
  by_cases c10 : t206 = 0
  ·rw [if_pos c10] at H
   have c10b0 : (t206 == 0) = true := beq_iff_eq.mpr c10
   have c10b1 : (t206 != 0) = false := bne_eq_false_iff_eq.mpr c10
   clear c10
   by_cases c11 : (t201 == t203) = true
   ·rw [if_pos c11] at H
    have c11b0 : (t201 == t203) = true := c11
    (try (have c11b1 : decide (t201 = t203) = true := by simpa using c11))
    (try (have c11b2 : (t201 == t203) = true := by simpa using c11))
    clear c11
    by_cases c12 : t202 = t204
    ·rw [if_pos c12] at H
     have c12b0 : (t202 == t204) = true := beq_iff_eq.mpr c12
     have c12b1 : (t202 != t204) = false := bne_eq_false_iff_eq.mpr c12
     clear c12
     by_cases c13 : t205 = (wrap64 (t207 * t208))
     ·rw [if_pos c13] at H
      have c13b0 : (t205 == (wrap64 (t207 * t208))) = true := beq_iff_eq.mpr c13
      have c13b1 : (t205 != (wrap64 (t207 * t208))) = false := bne_eq_false_iff_eq.mpr c13
      clear c13
      obtain rfl := Option.some.inj H
      go_enter Tryz.func4, Tryz.ntmps4
      try go_wp2_with (first | ((with_reducible refine gate_dst (N := 2) rfl ?_); refine box_event ?hg (N := 2) ?hd (cs := #[.int .u64 a0_0, .bool a0_1, .int .u64 a0_2, .bool a0_3, .int .u64 a0_4, .bool a0_5, .int .u64 a0_6, .bool a0_7, .int .u64 a0_8, .bool a0_9]) (t := 26) ?hr ?_; (case hd => rfl); (case hg => rfl); (case hr => first | (go_simp; done) | (go_simp; rfl)); intro gb199 hg w14 hbox hb; have n0_ := Aside0.mk (below_step (by repeat (first | (with_reducible first | exact HB.out | apply below_alloc | apply pw_below_drewN | apply below_drew1) | exact HB.out)) hb); have n1_ := Aside0.mk (hbox); have n2_ := Aside0.mk ((by rw [hg]; exact (below_size (by repeat (first | (with_reducible first | exact HB.out | apply below_alloc | apply pw_below_drewN | apply below_drew1) | exact HB.out))) : w.heap.size ≤ gb199)); have n3_ := Aside0.mk ((by rw [hg]; exact (below_size (by repeat (first | (with_reducible first | exact HB.out | apply below_alloc | apply pw_below_drewN | apply below_drew1) | exact HB.out))) : w.heap.size ≤ gb199)); clear HB; have HB := n0_; have BK199 := n1_; have GW199 := n2_; have GE199 := n3_; clear n0_ n1_ n2_ n3_; clear hb hbox hg) | ((with_reducible refine gate_callee (f := 9) rfl ?_); refine goesL_ (some 13) rfl rfl Tryz.func9 (by kernel_rfl) rfl #[] rfl (by (try simp only [List.map_toArray, List.map_cons, List.map_nil]); first | done | rfl | (simp only [List.length_drop, List.length_take]; rfl)) ?_; (with_reducible refine (complinelaw21_works.calls  true _ (hT.keep (by repeat (first | (with_reducible first | exact HB.out | apply below_alloc | apply pw_below_drewN | apply below_drew1 | refine below_set ?_ GE199.out) | exact HB.out))) A3.out).mono ?_); rintro e w15 ⟨rfl, hb⟩; refine ⟨_, rfl, ?_⟩; have n0_ := Aside0.mk (blk_below (g := gb199) (o := .cells #[.int .u64 a0_0, .bool a0_1, .int .u64 a0_2, .bool a0_3, .int .u64 a0_4, .bool a0_5, .int .u64 a0_6, .bool a0_7, .int .u64 a0_8, .bool a0_9] 26 (0, 0)) (by (with_reducible repeat (first | refine blk_drewN ?_ _ | refine blk_drew ?_ | refine blk_alloc ?_ _)); exact BK199.out) hb); have n1_ := Aside0.mk (below_step (by repeat (first | (with_reducible first | exact HB.out | apply below_alloc | apply pw_below_drewN | apply below_drew1 | refine below_set ?_ GE199.out) | exact HB.out)) hb); clear BK199; clear HB; have BK199 := n0_; have HB := n1_; clear n0_ n1_; (try clear hb); (try clear hb2); (try clear hk); (try clear hi); have hcz16_0 : w15.cell? ⟨gb199, 0, none⟩ = some (.int .u64 a0_0) := (blk_cell BK199.out 0).trans rfl; have hcz16_1 : w15.cell? ⟨gb199, 1, none⟩ = some (.bool a0_1) := (blk_cell BK199.out 1).trans rfl; have hcz16_2 : w15.cell? ⟨gb199, 2, none⟩ = some (.int .u64 a0_2) := (blk_cell BK199.out 2).trans rfl; have hcz16_3 : w15.cell? ⟨gb199, 3, none⟩ = some (.bool a0_3) := (blk_cell BK199.out 3).trans rfl; have hcz16_4 : w15.cell? ⟨gb199, 4, none⟩ = some (.int .u64 a0_4) := (blk_cell BK199.out 4).trans rfl; have hcz16_5 : w15.cell? ⟨gb199, 5, none⟩ = some (.bool a0_5) := (blk_cell BK199.out 5).trans rfl; have hcz16_6 : w15.cell? ⟨gb199, 6, none⟩ = some (.int .u64 a0_6) := (blk_cell BK199.out 6).trans rfl; have hcz16_7 : w15.cell? ⟨gb199, 7, none⟩ = some (.bool a0_7) := (blk_cell BK199.out 7).trans rfl; have hcz16_8 : w15.cell? ⟨gb199, 8, none⟩ = some (.int .u64 a0_8) := (blk_cell BK199.out 8).trans rfl; have hcz16_9 : w15.cell? ⟨gb199, 9, none⟩ = some (.bool a0_9) := (blk_cell BK199.out 9).trans rfl; have hfz16_0 := blk_frozen BK199.out 0; have hfz16_1 := blk_frozen BK199.out 1; have hfz16_2 := blk_frozen BK199.out 2; have hfz16_3 := blk_frozen BK199.out 3; have hfz16_4 := blk_frozen BK199.out 4; have hfz16_5 := blk_frozen BK199.out 5; have hfz16_6 := blk_frozen BK199.out 6; have hfz16_7 := blk_frozen BK199.out 7; have hfz16_8 := blk_frozen BK199.out 8; have hfz16_9 := blk_frozen BK199.out 9) | ((with_reducible refine gate_callee (f := 12) rfl ?_); refine goesL_ (some 19) rfl rfl Tryz.func12 (by kernel_rfl) rfl #[.agg #[.int .u64 a0_0, .bool a0_1, .int .u64 a0_2, .bool a0_3, .int .u64 a0_4, .bool a0_5, .int .u64 a0_6, .bool a0_7, .int .u64 a0_8, .bool a0_9], .int .i64 a1] rfl (by (try simp only [List.map_toArray, List.map_cons, List.map_nil]); first | done | rfl | (simp only [List.length_drop, List.length_take]; rfl)) ?_; (with_reducible refine (day_Match.calls a0_0 a0_1 a0_2 a0_3 a0_4 a0_5 a0_6 a0_7 a0_8 a0_9 a1 t201 t202 _ A5.out).mono ?_); rintro e w17 ⟨rfl, hb⟩; refine ⟨_, rfl, ?_⟩; have n0_ := Aside0.mk (blk_below (g := gb199) (o := .cells #[.int .u64 a0_0, .bool a0_1, .int .u64 a0_2, .bool a0_3, .int .u64 a0_4, .bool a0_5, .int .u64 a0_6, .bool a0_7, .int .u64 a0_8, .bool a0_9] 26 (0, 0)) (by (with_reducible repeat (first | refine blk_drewN ?_ _ | refine blk_drew ?_ | refine blk_alloc ?_ _)); exact BK199.out) hb); have n1_ := Aside0.mk (below_step (by repeat (first | (with_reducible first | exact HB.out | apply below_alloc | apply pw_below_drewN | apply below_drew1 | refine below_set ?_ GE199.out) | exact HB.out)) hb); clear BK199; clear HB; have BK199 := n0_; have HB := n1_; clear n0_ n1_; (try clear hb); (try clear hb2); (try clear hk); (try clear hi); have hcz18_0 : w17.cell? ⟨gb199, 0, none⟩ = some (.int .u64 a0_0) := (blk_cell BK199.out 0).trans rfl; have hcz18_1 : w17.cell? ⟨gb199, 1, none⟩ = some (.bool a0_1) := (blk_cell BK199.out 1).trans rfl; have hcz18_2 : w17.cell? ⟨gb199, 2, none⟩ = some (.int .u64 a0_2) := (blk_cell BK199.out 2).trans rfl; have hcz18_3 : w17.cell? ⟨gb199, 3, none⟩ = some (.bool a0_3) := (blk_cell BK199.out 3).trans rfl; have hcz18_4 : w17.cell? ⟨gb199, 4, none⟩ = some (.int .u64 a0_4) := (blk_cell BK199.out 4).trans rfl; have hcz18_5 : w17.cell? ⟨gb199, 5, none⟩ = some (.bool a0_5) := (blk_cell BK199.out 5).trans rfl; have hcz18_6 : w17.cell? ⟨gb199, 6, none⟩ = some (.int .u64 a0_6) := (blk_cell BK199.out 6).trans rfl; have hcz18_7 : w17.cell? ⟨gb199, 7, none⟩ = some (.bool a0_7) := (blk_cell BK199.out 7).trans rfl; have hcz18_8 : w17.cell? ⟨gb199, 8, none⟩ = some (.int .u64 a0_8) := (blk_cell BK199.out 8).trans rfl; have hcz18_9 : w17.cell? ⟨gb199, 9, none⟩ = some (.bool a0_9) := (blk_cell BK199.out 9).trans rfl; have hfz18_0 := blk_frozen BK199.out 0; have hfz18_1 := blk_frozen BK199.out 1; have hfz18_2 := blk_frozen BK199.out 2; have hfz18_3 := blk_frozen BK199.out 3; have hfz18_4 := blk_frozen BK199.out 4; have hfz18_5 := blk_frozen BK199.out 5; have hfz18_6 := blk_frozen BK199.out 6; have hfz18_7 := blk_frozen BK199.out 7; have hfz18_8 := blk_frozen BK199.out 8; have hfz18_9 := blk_frozen BK199.out 9) | ((with_reducible refine gate_callee (f := 13) rfl ?_); refine goesL_ (some 25) rfl rfl Tryz.func13 (by kernel_rfl) rfl #[.agg #[.int .u64 a0_0, .bool a0_1, .int .u64 a0_2, .bool a0_3, .int .u64 a0_4, .bool a0_5, .int .u64 a0_6, .bool a0_7, .int .u64 a0_8, .bool a0_9], .int .i64 a1] rfl (by (try simp only [List.map_toArray, List.map_cons, List.map_nil]); first | done | rfl | (simp only [List.length_drop, List.length_take]; rfl)) ?_; (with_reducible refine (complineref21_Match.calls k a0_0 a0_1 a0_2 a0_3 a0_4 a0_5 a0_6 a0_7 a0_8 a0_9 a1 t203 t204 _ A6.out).mono ?_); rintro e w19 ⟨rfl, hb⟩; refine ⟨_, rfl, ?_⟩; have n0_ := Aside0.mk (blk_below (g := gb199) (o := .cells #[.int .u64 a0_0, .bool a0_1, .int .u64 a0_2, .bool a0_3, .int .u64 a0_4, .bool a0_5, .int .u64 a0_6, .bool a0_7, .int .u64 a0_8, .bool a0_9] 26 (0, 0)) (by (with_reducible repeat (first | refine blk_drewN ?_ _ | refine blk_drew ?_ | refine blk_alloc ?_ _)); exact BK199.out) hb); have n1_ := Aside0.mk (below_step (by repeat (first | (with_reducible first | exact HB.out | apply below_alloc | apply pw_below_drewN | apply below_drew1 | refine below_set ?_ GE199.out) | exact HB.out)) hb); clear BK199; clear HB; have BK199 := n0_; have HB := n1_; clear n0_ n1_; (try clear hb); (try clear hb2); (try clear hk); (try clear hi); have hcz20_0 : w19.cell? ⟨gb199, 0, none⟩ = some (.int .u64 a0_0) := (blk_cell BK199.out 0).trans rfl; have hcz20_1 : w19.cell? ⟨gb199, 1, none⟩ = some (.bool a0_1) := (blk_cell BK199.out 1).trans rfl; have hcz20_2 : w19.cell? ⟨gb199, 2, none⟩ = some (.int .u64 a0_2) := (blk_cell BK199.out 2).trans rfl; have hcz20_3 : w19.cell? ⟨gb199, 3, none⟩ = some (.bool a0_3) := (blk_cell BK199.out 3).trans rfl; have hcz20_4 : w19.cell? ⟨gb199, 4, none⟩ = some (.int .u64 a0_4) := (blk_cell BK199.out 4).trans rfl; have hcz20_5 : w19.cell? ⟨gb199, 5, none⟩ = some (.bool a0_5) := (blk_cell BK199.out 5).trans rfl; have hcz20_6 : w19.cell? ⟨gb199, 6, none⟩ = some (.int .u64 a0_6) := (blk_cell BK199.out 6).trans rfl; have hcz20_7 : w19.cell? ⟨gb199, 7, none⟩ = some (.bool a0_7) := (blk_cell BK199.out 7).trans rfl; have hcz20_8 : w19.cell? ⟨gb199, 8, none⟩ = some (.int .u64 a0_8) := (blk_cell BK199.out 8).trans rfl; have hcz20_9 : w19.cell? ⟨gb199, 9, none⟩ = some (.bool a0_9) := (blk_cell BK199.out 9).trans rfl; have hfz20_0 := blk_frozen BK199.out 0; have hfz20_1 := blk_frozen BK199.out 1; have hfz20_2 := blk_frozen BK199.out 2; have hfz20_3 := blk_frozen BK199.out 3; have hfz20_4 := blk_frozen BK199.out 4; have hfz20_5 := blk_frozen BK199.out 5; have hfz20_6 := blk_frozen BK199.out 6; have hfz20_7 := blk_frozen BK199.out 7; have hfz20_8 := blk_frozen BK199.out 8; have hfz20_9 := blk_frozen BK199.out 9) | ((with_reducible refine gate_callee (f := 14) rfl ?_); refine goesL_ (some 30) rfl rfl Tryz.func14 (by kernel_rfl) rfl #[.agg #[.int .u64 a0_0, .bool a0_1, .int .u64 a0_2, .bool a0_3, .int .u64 a0_4, .bool a0_5, .int .u64 a0_6, .bool a0_7, .int .u64 a0_8, .bool a0_9]] rfl (by (try simp only [List.map_toArray, List.map_cons, List.map_nil]); first | done | rfl | (simp only [List.length_drop, List.length_take]; rfl)) ?_; (with_reducible refine (day_Minutes.calls a0_0 a0_1 a0_2 a0_3 a0_4 a0_5 a0_6 a0_7 a0_8 a0_9 t205 t206 _ A7.out).mono ?_); rintro e w21 ⟨rfl, hb⟩; refine ⟨_, rfl, ?_⟩; have n0_ := Aside0.mk (blk_below (g := gb199) (o := .cells #[.int .u64 a0_0, .bool a0_1, .int .u64 a0_2, .bool a0_3, .int .u64 a0_4, .bool a0_5, .int .u64 a0_6, .bool a0_7, .int .u64 a0_8, .bool a0_9] 26 (0, 0)) (by (with_reducible repeat (first | refine blk_drewN ?_ _ | refine blk_drew ?_ | refine blk_alloc ?_ _)); exact BK199.out) hb); have n1_ := Aside0.mk (below_step (by repeat (first | (with_reducible first | exact HB.out | apply below_alloc | apply pw_below_drewN | apply below_drew1 | refine below_set ?_ GE199.out) | exact HB.out)) hb); clear BK199; clear HB; have BK199 := n0_; have HB := n1_; clear n0_ n1_; (try clear hb); (try clear hb2); (try clear hk); (try clear hi)))
      have n0_ := Aside0.mk (blk_drew BK199.out)
      have n1_ := Aside0.mk (below_drew1 HB.out)
      clear BK199
      clear HB
      have BK199 := n0_
      have HB := n1_
      clear n0_ n1_
      refine start_ (n := 8) (S := fun w' => w'.cell? ⟨gb199, 0, none⟩ = some (.int .u64 a0_0) ∧ w'.cell? ⟨gb199, 1, none⟩ = some (.bool a0_1) ∧ w'.cell? ⟨gb199, 2, none⟩ = some (.int .u64 a0_2) ∧ w'.cell? ⟨gb199, 3, none⟩ = some (.bool a0_3) ∧ w'.cell? ⟨gb199, 4, none⟩ = some (.int .u64 a0_4) ∧ w'.cell? ⟨gb199, 5, none⟩ = some (.bool a0_5) ∧ w'.cell? ⟨gb199, 6, none⟩ = some (.int .u64 a0_6) ∧ w'.cell? ⟨gb199, 7, none⟩ = some (.bool a0_7) ∧ w'.cell? ⟨gb199, 8, none⟩ = some (.int .u64 a0_8) ∧ w'.cell? ⟨gb199, 9, none⟩ = some (.bool a0_9)) (ds := []) #[false, false, false, false, false, false, false, false] (by kernel_rfl) rfl rfl ⟨(blk_cell BK199.out 0).trans rfl, (blk_cell BK199.out 1).trans rfl, (blk_cell BK199.out 2).trans rfl, (blk_cell BK199.out 3).trans rfl, (blk_cell BK199.out 4).trans rfl, (blk_cell BK199.out 5).trans rfl, (blk_cell BK199.out 6).trans rfl, (blk_cell BK199.out 7).trans rfl, (blk_cell BK199.out 8).trans rfl, (blk_cell BK199.out 9).trans rfl⟩ (fun hHeld => ?_); refine with_tabW complinelaw21_DayMatches.tab7 complinelaw21_DayMatches.bits7 (fun HT_ HW_ => ?_)
      generalize w21.drew = w22 at BK199 HB hHeld ⊢
      refine pure_ (i := 0) (N := some 33) (v := ?_) (a' := ?_) #[true, false, false, false, false, false, false, false] rfl rfl (any_of HT_.out (by kernel_rfl)) (fun _ _ _ h => h) (Or.inl ⟨by rfl, ?_⟩) ?_ ?_
      rotate_left
      ·intro w'
       go_simp
       with_reducible rfl
      rotate_left
      ·simp only [Act.put, List.setIfInBounds_toArray, List.set_cons_zero, List.set_cons_succ, i64_w, i32_w]
       rfl
      refine pure_ (i := 3) (N := some 36) (v := ?_) (a' := ?_) #[true, false, false, true, false, false, false, false] rfl rfl (any_of HT_.out (by kernel_rfl)) (fun _ _ _ h => h) (Or.inl ⟨by rfl, ?_⟩) ?_ ?_
      rotate_left
      ·intro w'
       go_simp
       with_reducible rfl
      rotate_left
      ·simp only [Act.put, List.setIfInBounds_toArray, List.set_cons_zero, List.set_cons_succ, i64_w, i32_w]
       rfl
      refine take_ (i := 1) (N := some 34) (v := ?_) (a' := ?_) #[true, true, false, true, false, false, false, false] rfl rfl (take_ofW HT_.out HW_.out (by kernel_rfl)) (fun _ _ _ h => h) (Or.inl ⟨by rfl, ?_⟩) hHeld ?_ ?_
      rotate_left
      ·rintro w' ⟨s0, s1, s2, s3, s4, s5, s6, s7, s8, s9⟩
       go_simp
       with_reducible rfl
      rotate_left
      ·simp only [Act.put, List.setIfInBounds_toArray, List.set_cons_zero, List.set_cons_succ, i64_w, i32_w]
       rfl
      refine take_ (i := 4) (N := some 37) (v := ?_) (a' := ?_) #[true, true, false, true, true, false, false, false] rfl rfl (take_ofW HT_.out HW_.out (by kernel_rfl)) (fun _ _ _ h => h) (Or.inl ⟨by rfl, ?_⟩) hHeld ?_ ?_
      rotate_left
      ·rintro w' ⟨s0, s1, s2, s3, s4, s5, s6, s7, s8, s9⟩
       go_simp
       with_reducible rfl
      rotate_left
      ·simp only [Act.put, List.setIfInBounds_toArray, List.set_cons_zero, List.set_cons_succ, i64_w, i32_w]
       rfl
      refine one_ (i := 2) (N := some 35) #[true, true, true, true, true, false, false, false] rfl rfl (one_of HT_.out (by kernel_rfl)) (by decide) (fun K hK => ?_)
      refine goes_ Tryz.func15 (by kernel_rfl) rfl #[.agg #[.int .u64 a0_2, .bool a0_3]] (by rfl) rfl rfl (by (try simp only [List.map_toArray, List.map_cons, List.map_nil]); first | done | rfl | (simp only [List.length_drop, List.length_take]; rfl)) ?_
      with_reducible refine (complineref18_Count.calls k a0_2 a0_3 t207 _ A8.out).mono ?_
      rintro e w23 ⟨rfl, hb⟩
      refine ⟨_, rfl, ?_⟩
      have n0_ := Aside0.mk (blk_below (g := gb199) (o := .cells #[.int .u64 a0_0, .bool a0_1, .int .u64 a0_2, .bool a0_3, .int .u64 a0_4, .bool a0_5, .int .u64 a0_6, .bool a0_7, .int .u64 a0_8, .bool a0_9] 26 (0, 0)) (by (with_reducible repeat (first | refine blk_drewN ?_ _ | refine blk_drew ?_ | refine blk_alloc ?_ _)); exact BK199.out) hb)
      have n1_ := Aside0.mk (below_step (by repeat (first | (with_reducible first | exact HB.out | apply below_alloc | apply pw_below_drewN | apply below_drew1 | refine below_set ?_ GE199.out) | exact HB.out)) hb)
      clear BK199
      clear HB
      have BK199 := n0_
      have HB := n1_
      clear n0_ n1_
      (try clear hb)
      (try clear hb2)
      (try clear hk)
      (try clear hi)
      refine hK.out _ _ ⟨(blk_cell BK199.out 0).trans rfl, (blk_cell BK199.out 1).trans rfl, (blk_cell BK199.out 2).trans rfl, (blk_cell BK199.out 3).trans rfl, (blk_cell BK199.out 4).trans rfl, (blk_cell BK199.out 5).trans rfl, (blk_cell BK199.out 6).trans rfl, (blk_cell BK199.out 7).trans rfl, (blk_cell BK199.out 8).trans rfl, (blk_cell BK199.out 9).trans rfl⟩ (fun hHeld => ?_)
      clear hK K
      refine norm_ (a' := ?_) ?_ ?_
      rotate_left
      ·show Act.put _ (some 35) _ = _
       simp only [Act.put, List.setIfInBounds_toArray, List.set_cons_zero, List.set_cons_succ, i64_w, i32_w]
       rfl
      refine one_ (i := 5) (N := some 38) #[true, true, true, true, true, true, false, false] rfl rfl (one_of HT_.out (by kernel_rfl)) (by decide) (fun K hK => ?_)
      refine goes_ Tryz.func15 (by kernel_rfl) rfl #[.agg #[.int .u64 a0_0, .bool a0_1]] (by rfl) rfl rfl (by (try simp only [List.map_toArray, List.map_cons, List.map_nil]); first | done | rfl | (simp only [List.length_drop, List.length_take]; rfl)) ?_
      with_reducible refine (complineref18_Count.calls k a0_0 a0_1 t208 _ A9.out).mono ?_
      rintro e w24 ⟨rfl, hb⟩
      refine ⟨_, rfl, ?_⟩
      have n0_ := Aside0.mk (blk_below (g := gb199) (o := .cells #[.int .u64 a0_0, .bool a0_1, .int .u64 a0_2, .bool a0_3, .int .u64 a0_4, .bool a0_5, .int .u64 a0_6, .bool a0_7, .int .u64 a0_8, .bool a0_9] 26 (0, 0)) (by (with_reducible repeat (first | refine blk_drewN ?_ _ | refine blk_drew ?_ | refine blk_alloc ?_ _)); exact BK199.out) hb)
      have n1_ := Aside0.mk (below_step (by repeat (first | (with_reducible first | exact HB.out | apply below_alloc | apply pw_below_drewN | apply below_drew1 | refine below_set ?_ GE199.out) | exact HB.out)) hb)
      clear BK199
      clear HB
      have BK199 := n0_
      have HB := n1_
      clear n0_ n1_
      (try clear hb)
      (try clear hb2)
      (try clear hk)
      (try clear hi)
      refine hK.out _ _ ⟨(blk_cell BK199.out 0).trans rfl, (blk_cell BK199.out 1).trans rfl, (blk_cell BK199.out 2).trans rfl, (blk_cell BK199.out 3).trans rfl, (blk_cell BK199.out 4).trans rfl, (blk_cell BK199.out 5).trans rfl, (blk_cell BK199.out 6).trans rfl, (blk_cell BK199.out 7).trans rfl, (blk_cell BK199.out 8).trans rfl, (blk_cell BK199.out 9).trans rfl⟩ (fun hHeld => ?_)
      clear hK K
      refine norm_ (a' := ?_) ?_ ?_
      rotate_left
      ·show Act.put _ (some 38) _ = _
       simp only [Act.put, List.setIfInBounds_toArray, List.set_cons_zero, List.set_cons_succ, i64_w, i32_w]
       rfl
      refine pure_ (i := 6) (N := some 39) (v := ?_) (a' := ?_) #[true, true, true, true, true, true, true, false] rfl rfl (any_of HT_.out (by kernel_rfl)) (fun _ _ _ h => h) (Or.inl ⟨by rfl, ?_⟩) ?_ ?_
      rotate_left
      ·intro w'
       go_simp
       with_reducible rfl
      rotate_left
      ·simp only [Act.put, List.setIfInBounds_toArray, List.set_cons_zero, List.set_cons_succ, i64_w, i32_w]
       rfl
      refine pure_ (i := 7) (N := some 12) (v := ?_) (a' := ?_) #[true, true, true, true, true, true, true, true] rfl rfl (any_of HT_.out (by kernel_rfl)) (fun _ _ _ h => h) (Or.inl ⟨by rfl, ?_⟩) ?_ ?_
      rotate_left
      ·intro w'
       go_simp
       with_reducible rfl
      rotate_left
      ·simp only [Act.put, List.setIfInBounds_toArray, List.set_cons_zero, List.set_cons_succ, i64_w, i32_w]
       rfl
      refine done_ (done_of HT_.out (by kernel_rfl)) ?_
      try go_wp2
      go_ret
      exact ⟨by first | rfl | (simp [errW_none, errW_some] <;> rfl) | (simp [*, errW_none, errW_some] <;> rfl), by repeat (first | (with_reducible first | exact HB.out | apply below_alloc | apply pw_below_drewN | apply below_drew1 | refine below_set ?_ GE199.out) | exact HB.out)⟩
     ·rw [if_neg c13] at H
      have c13b0 : (t205 == (wrap64 (t207 * t208))) = false := beq_eq_false_iff_ne.mpr c13
      have c13b1 : (t205 != (wrap64 (t207 * t208))) = true := bne_iff_ne.mpr c13
      obtain rfl := Option.some.inj H
      go_enter Tryz.func4, Tryz.ntmps4
      try go_wp2_with (first | ((with_reducible refine gate_dst (N := 2) rfl ?_); refine box_event ?hg (N := 2) ?hd (cs := #[.int .u64 a0_0, .bool a0_1, .int .u64 a0_2, .bool a0_3, .int .u64 a0_4, .bool a0_5, .int .u64 a0_6, .bool a0_7, .int .u64 a0_8, .bool a0_9]) (t := 26) ?hr ?_; (case hd => rfl); (case hg => rfl); (case hr => first | (go_simp; done) | (go_simp; rfl)); intro gb199 hg w25 hbox hb; have n0_ := Aside0.mk (below_step (by repeat (first | (with_reducible first | exact HB.out | apply below_alloc | apply pw_below_drewN | apply below_drew1) | exact HB.out)) hb); have n1_ := Aside0.mk (hbox); have n2_ := Aside0.mk ((by rw [hg]; exact (below_size (by repeat (first | (with_reducible first | exact HB.out | apply below_alloc | apply pw_below_drewN | apply below_drew1) | exact HB.out))) : w.heap.size ≤ gb199)); have n3_ := Aside0.mk ((by rw [hg]; exact (below_size (by repeat (first | (with_reducible first | exact HB.out | apply below_alloc | apply pw_below_drewN | apply below_drew1) | exact HB.out))) : w.heap.size ≤ gb199)); clear HB; have HB := n0_; have BK199 := n1_; have GW199 := n2_; have GE199 := n3_; clear n0_ n1_ n2_ n3_; clear hb hbox hg) | ((with_reducible refine gate_callee (f := 9) rfl ?_); refine goesL_ (some 13) rfl rfl Tryz.func9 (by kernel_rfl) rfl #[] rfl (by (try simp only [List.map_toArray, List.map_cons, List.map_nil]); first | done | rfl | (simp only [List.length_drop, List.length_take]; rfl)) ?_; (with_reducible refine (complinelaw21_works.calls  true _ (hT.keep (by repeat (first | (with_reducible first | exact HB.out | apply below_alloc | apply pw_below_drewN | apply below_drew1 | refine below_set ?_ GE199.out) | exact HB.out))) A3.out).mono ?_); rintro e w26 ⟨rfl, hb⟩; refine ⟨_, rfl, ?_⟩; have n0_ := Aside0.mk (blk_below (g := gb199) (o := .cells #[.int .u64 a0_0, .bool a0_1, .int .u64 a0_2, .bool a0_3, .int .u64 a0_4, .bool a0_5, .int .u64 a0_6, .bool a0_7, .int .u64 a0_8, .bool a0_9] 26 (0, 0)) (by (with_reducible repeat (first | refine blk_drewN ?_ _ | refine blk_drew ?_ | refine blk_alloc ?_ _)); exact BK199.out) hb); have n1_ := Aside0.mk (below_step (by repeat (first | (with_reducible first | exact HB.out | apply below_alloc | apply pw_below_drewN | apply below_drew1 | refine below_set ?_ GE199.out) | exact HB.out)) hb); clear BK199; clear HB; have BK199 := n0_; have HB := n1_; clear n0_ n1_; (try clear hb); (try clear hb2); (try clear hk); (try clear hi); have hcz27_0 : w26.cell? ⟨gb199, 0, none⟩ = some (.int .u64 a0_0) := (blk_cell BK199.out 0).trans rfl; have hcz27_1 : w26.cell? ⟨gb199, 1, none⟩ = some (.bool a0_1) := (blk_cell BK199.out 1).trans rfl; have hcz27_2 : w26.cell? ⟨gb199, 2, none⟩ = some (.int .u64 a0_2) := (blk_cell BK199.out 2).trans rfl; have hcz27_3 : w26.cell? ⟨gb199, 3, none⟩ = some (.bool a0_3) := (blk_cell BK199.out 3).trans rfl; have hcz27_4 : w26.cell? ⟨gb199, 4, none⟩ = some (.int .u64 a0_4) := (blk_cell BK199.out 4).trans rfl; have hcz27_5 : w26.cell? ⟨gb199, 5, none⟩ = some (.bool a0_5) := (blk_cell BK199.out 5).trans rfl; have hcz27_6 : w26.cell? ⟨gb199, 6, none⟩ = some (.int .u64 a0_6) := (blk_cell BK199.out 6).trans rfl; have hcz27_7 : w26.cell? ⟨gb199, 7, none⟩ = some (.bool a0_7) := (blk_cell BK199.out 7).trans rfl; have hcz27_8 : w26.cell? ⟨gb199, 8, none⟩ = some (.int .u64 a0_8) := (blk_cell BK199.out 8).trans rfl; have hcz27_9 : w26.cell? ⟨gb199, 9, none⟩ = some (.bool a0_9) := (blk_cell BK199.out 9).trans rfl; have hfz27_0 := blk_frozen BK199.out 0; have hfz27_1 := blk_frozen BK199.out 1; have hfz27_2 := blk_frozen BK199.out 2; have hfz27_3 := blk_frozen BK199.out 3; have hfz27_4 := blk_frozen BK199.out 4; have hfz27_5 := blk_frozen BK199.out 5; have hfz27_6 := blk_frozen BK199.out 6; have hfz27_7 := blk_frozen BK199.out 7; have hfz27_8 := blk_frozen BK199.out 8; have hfz27_9 := blk_frozen BK199.out 9) | ((with_reducible refine gate_callee (f := 12) rfl ?_); refine goesL_ (some 19) rfl rfl Tryz.func12 (by kernel_rfl) rfl #[.agg #[.int .u64 a0_0, .bool a0_1, .int .u64 a0_2, .bool a0_3, .int .u64 a0_4, .bool a0_5, .int .u64 a0_6, .bool a0_7, .int .u64 a0_8, .bool a0_9], .int .i64 a1] rfl (by (try simp only [List.map_toArray, List.map_cons, List.map_nil]); first | done | rfl | (simp only [List.length_drop, List.length_take]; rfl)) ?_; (with_reducible refine (day_Match.calls a0_0 a0_1 a0_2 a0_3 a0_4 a0_5 a0_6 a0_7 a0_8 a0_9 a1 t201 t202 _ A5.out).mono ?_); rintro e w28 ⟨rfl, hb⟩; refine ⟨_, rfl, ?_⟩; have n0_ := Aside0.mk (blk_below (g := gb199) (o := .cells #[.int .u64 a0_0, .bool a0_1, .int .u64 a0_2, .bool a0_3, .int .u64 a0_4, .bool a0_5, .int .u64 a0_6, .bool a0_7, .int .u64 a0_8, .bool a0_9] 26 (0, 0)) (by (with_reducible repeat (first | refine blk_drewN ?_ _ | refine blk_drew ?_ | refine blk_alloc ?_ _)); exact BK199.out) hb); have n1_ := Aside0.mk (below_step (by repeat (first | (with_reducible first | exact HB.out | apply below_alloc | apply pw_below_drewN | apply below_drew1 | refine below_set ?_ GE199.out) | exact HB.out)) hb); clear BK199; clear HB; have BK199 := n0_; have HB := n1_; clear n0_ n1_; (try clear hb); (try clear hb2); (try clear hk); (try clear hi); have hcz29_0 : w28.cell? ⟨gb199, 0, none⟩ = some (.int .u64 a0_0) := (blk_cell BK199.out 0).trans rfl; have hcz29_1 : w28.cell? ⟨gb199, 1, none⟩ = some (.bool a0_1) := (blk_cell BK199.out 1).trans rfl; have hcz29_2 : w28.cell? ⟨gb199, 2, none⟩ = some (.int .u64 a0_2) := (blk_cell BK199.out 2).trans rfl; have hcz29_3 : w28.cell? ⟨gb199, 3, none⟩ = some (.bool a0_3) := (blk_cell BK199.out 3).trans rfl; have hcz29_4 : w28.cell? ⟨gb199, 4, none⟩ = some (.int .u64 a0_4) := (blk_cell BK199.out 4).trans rfl; have hcz29_5 : w28.cell? ⟨gb199, 5, none⟩ = some (.bool a0_5) := (blk_cell BK199.out 5).trans rfl; have hcz29_6 : w28.cell? ⟨gb199, 6, none⟩ = some (.int .u64 a0_6) := (blk_cell BK199.out 6).trans rfl; have hcz29_7 : w28.cell? ⟨gb199, 7, none⟩ = some (.bool a0_7) := (blk_cell BK199.out 7).trans rfl; have hcz29_8 : w28.cell? ⟨gb199, 8, none⟩ = some (.int .u64 a0_8) := (blk_cell BK199.out 8).trans rfl; have hcz29_9 : w28.cell? ⟨gb199, 9, none⟩ = some (.bool a0_9) := (blk_cell BK199.out 9).trans rfl; have hfz29_0 := blk_frozen BK199.out 0; have hfz29_1 := blk_frozen BK199.out 1; have hfz29_2 := blk_frozen BK199.out 2; have hfz29_3 := blk_frozen BK199.out 3; have hfz29_4 := blk_frozen BK199.out 4; have hfz29_5 := blk_frozen BK199.out 5; have hfz29_6 := blk_frozen BK199.out 6; have hfz29_7 := blk_frozen BK199.out 7; have hfz29_8 := blk_frozen BK199.out 8; have hfz29_9 := blk_frozen BK199.out 9) | ((with_reducible refine gate_callee (f := 13) rfl ?_); refine goesL_ (some 25) rfl rfl Tryz.func13 (by kernel_rfl) rfl #[.agg #[.int .u64 a0_0, .bool a0_1, .int .u64 a0_2, .bool a0_3, .int .u64 a0_4, .bool a0_5, .int .u64 a0_6, .bool a0_7, .int .u64 a0_8, .bool a0_9], .int .i64 a1] rfl (by (try simp only [List.map_toArray, List.map_cons, List.map_nil]); first | done | rfl | (simp only [List.length_drop, List.length_take]; rfl)) ?_; (with_reducible refine (complineref21_Match.calls k a0_0 a0_1 a0_2 a0_3 a0_4 a0_5 a0_6 a0_7 a0_8 a0_9 a1 t203 t204 _ A6.out).mono ?_); rintro e w30 ⟨rfl, hb⟩; refine ⟨_, rfl, ?_⟩; have n0_ := Aside0.mk (blk_below (g := gb199) (o := .cells #[.int .u64 a0_0, .bool a0_1, .int .u64 a0_2, .bool a0_3, .int .u64 a0_4, .bool a0_5, .int .u64 a0_6, .bool a0_7, .int .u64 a0_8, .bool a0_9] 26 (0, 0)) (by (with_reducible repeat (first | refine blk_drewN ?_ _ | refine blk_drew ?_ | refine blk_alloc ?_ _)); exact BK199.out) hb); have n1_ := Aside0.mk (below_step (by repeat (first | (with_reducible first | exact HB.out | apply below_alloc | apply pw_below_drewN | apply below_drew1 | refine below_set ?_ GE199.out) | exact HB.out)) hb); clear BK199; clear HB; have BK199 := n0_; have HB := n1_; clear n0_ n1_; (try clear hb); (try clear hb2); (try clear hk); (try clear hi); have hcz31_0 : w30.cell? ⟨gb199, 0, none⟩ = some (.int .u64 a0_0) := (blk_cell BK199.out 0).trans rfl; have hcz31_1 : w30.cell? ⟨gb199, 1, none⟩ = some (.bool a0_1) := (blk_cell BK199.out 1).trans rfl; have hcz31_2 : w30.cell? ⟨gb199, 2, none⟩ = some (.int .u64 a0_2) := (blk_cell BK199.out 2).trans rfl; have hcz31_3 : w30.cell? ⟨gb199, 3, none⟩ = some (.bool a0_3) := (blk_cell BK199.out 3).trans rfl; have hcz31_4 : w30.cell? ⟨gb199, 4, none⟩ = some (.int .u64 a0_4) := (blk_cell BK199.out 4).trans rfl; have hcz31_5 : w30.cell? ⟨gb199, 5, none⟩ = some (.bool a0_5) := (blk_cell BK199.out 5).trans rfl; have hcz31_6 : w30.cell? ⟨gb199, 6, none⟩ = some (.int .u64 a0_6) := (blk_cell BK199.out 6).trans rfl; have hcz31_7 : w30.cell? ⟨gb199, 7, none⟩ = some (.bool a0_7) := (blk_cell BK199.out 7).trans rfl; have hcz31_8 : w30.cell? ⟨gb199, 8, none⟩ = some (.int .u64 a0_8) := (blk_cell BK199.out 8).trans rfl; have hcz31_9 : w30.cell? ⟨gb199, 9, none⟩ = some (.bool a0_9) := (blk_cell BK199.out 9).trans rfl; have hfz31_0 := blk_frozen BK199.out 0; have hfz31_1 := blk_frozen BK199.out 1; have hfz31_2 := blk_frozen BK199.out 2; have hfz31_3 := blk_frozen BK199.out 3; have hfz31_4 := blk_frozen BK199.out 4; have hfz31_5 := blk_frozen BK199.out 5; have hfz31_6 := blk_frozen BK199.out 6; have hfz31_7 := blk_frozen BK199.out 7; have hfz31_8 := blk_frozen BK199.out 8; have hfz31_9 := blk_frozen BK199.out 9) | ((with_reducible refine gate_callee (f := 14) rfl ?_); refine goesL_ (some 30) rfl rfl Tryz.func14 (by kernel_rfl) rfl #[.agg #[.int .u64 a0_0, .bool a0_1, .int .u64 a0_2, .bool a0_3, .int .u64 a0_4, .bool a0_5, .int .u64 a0_6, .bool a0_7, .int .u64 a0_8, .bool a0_9]] rfl (by (try simp only [List.map_toArray, List.map_cons, List.map_nil]); first | done | rfl | (simp only [List.length_drop, List.length_take]; rfl)) ?_; (with_reducible refine (day_Minutes.calls a0_0 a0_1 a0_2 a0_3 a0_4 a0_5 a0_6 a0_7 a0_8 a0_9 t205 t206 _ A7.out).mono ?_); rintro e w32 ⟨rfl, hb⟩; refine ⟨_, rfl, ?_⟩; have n0_ := Aside0.mk (blk_below (g := gb199) (o := .cells #[.int .u64 a0_0, .bool a0_1, .int .u64 a0_2, .bool a0_3, .int .u64 a0_4, .bool a0_5, .int .u64 a0_6, .bool a0_7, .int .u64 a0_8, .bool a0_9] 26 (0, 0)) (by (with_reducible repeat (first | refine blk_drewN ?_ _ | refine blk_drew ?_ | refine blk_alloc ?_ _)); exact BK199.out) hb); have n1_ := Aside0.mk (below_step (by repeat (first | (with_reducible first | exact HB.out | apply below_alloc | apply pw_below_drewN | apply below_drew1 | refine below_set ?_ GE199.out) | exact HB.out)) hb); clear BK199; clear HB; have BK199 := n0_; have HB := n1_; clear n0_ n1_; (try clear hb); (try clear hb2); (try clear hk); (try clear hi)))
      have n0_ := Aside0.mk (blk_drew BK199.out)
      have n1_ := Aside0.mk (below_drew1 HB.out)
      clear BK199
      clear HB
      have BK199 := n0_
      have HB := n1_
      clear n0_ n1_
      refine start_ (n := 8) (S := fun w' => w'.cell? ⟨gb199, 0, none⟩ = some (.int .u64 a0_0) ∧ w'.cell? ⟨gb199, 1, none⟩ = some (.bool a0_1) ∧ w'.cell? ⟨gb199, 2, none⟩ = some (.int .u64 a0_2) ∧ w'.cell? ⟨gb199, 3, none⟩ = some (.bool a0_3) ∧ w'.cell? ⟨gb199, 4, none⟩ = some (.int .u64 a0_4) ∧ w'.cell? ⟨gb199, 5, none⟩ = some (.bool a0_5) ∧ w'.cell? ⟨gb199, 6, none⟩ = some (.int .u64 a0_6) ∧ w'.cell? ⟨gb199, 7, none⟩ = some (.bool a0_7) ∧ w'.cell? ⟨gb199, 8, none⟩ = some (.int .u64 a0_8) ∧ w'.cell? ⟨gb199, 9, none⟩ = some (.bool a0_9)) (ds := []) #[false, false, false, false, false, false, false, false] (by kernel_rfl) rfl rfl ⟨(blk_cell BK199.out 0).trans rfl, (blk_cell BK199.out 1).trans rfl, (blk_cell BK199.out 2).trans rfl, (blk_cell BK199.out 3).trans rfl, (blk_cell BK199.out 4).trans rfl, (blk_cell BK199.out 5).trans rfl, (blk_cell BK199.out 6).trans rfl, (blk_cell BK199.out 7).trans rfl, (blk_cell BK199.out 8).trans rfl, (blk_cell BK199.out 9).trans rfl⟩ (fun hHeld => ?_); refine with_tabW complinelaw21_DayMatches.tab7 complinelaw21_DayMatches.bits7 (fun HT_ HW_ => ?_)
      generalize w32.drew = w33 at BK199 HB hHeld ⊢
      refine pure_ (i := 0) (N := some 33) (v := ?_) (a' := ?_) #[true, false, false, false, false, false, false, false] rfl rfl (any_of HT_.out (by kernel_rfl)) (fun _ _ _ h => h) (Or.inl ⟨by rfl, ?_⟩) ?_ ?_
      rotate_left
      ·intro w'
       go_simp
       with_reducible rfl
      rotate_left
      ·simp only [Act.put, List.setIfInBounds_toArray, List.set_cons_zero, List.set_cons_succ, i64_w, i32_w]
       rfl
      refine pure_ (i := 3) (N := some 36) (v := ?_) (a' := ?_) #[true, false, false, true, false, false, false, false] rfl rfl (any_of HT_.out (by kernel_rfl)) (fun _ _ _ h => h) (Or.inl ⟨by rfl, ?_⟩) ?_ ?_
      rotate_left
      ·intro w'
       go_simp
       with_reducible rfl
      rotate_left
      ·simp only [Act.put, List.setIfInBounds_toArray, List.set_cons_zero, List.set_cons_succ, i64_w, i32_w]
       rfl
      refine take_ (i := 1) (N := some 34) (v := ?_) (a' := ?_) #[true, true, false, true, false, false, false, false] rfl rfl (take_ofW HT_.out HW_.out (by kernel_rfl)) (fun _ _ _ h => h) (Or.inl ⟨by rfl, ?_⟩) hHeld ?_ ?_
      rotate_left
      ·rintro w' ⟨s0, s1, s2, s3, s4, s5, s6, s7, s8, s9⟩
       go_simp
       with_reducible rfl
      rotate_left
      ·simp only [Act.put, List.setIfInBounds_toArray, List.set_cons_zero, List.set_cons_succ, i64_w, i32_w]
       rfl
      refine take_ (i := 4) (N := some 37) (v := ?_) (a' := ?_) #[true, true, false, true, true, false, false, false] rfl rfl (take_ofW HT_.out HW_.out (by kernel_rfl)) (fun _ _ _ h => h) (Or.inl ⟨by rfl, ?_⟩) hHeld ?_ ?_
      rotate_left
      ·rintro w' ⟨s0, s1, s2, s3, s4, s5, s6, s7, s8, s9⟩
       go_simp
       with_reducible rfl
      rotate_left
      ·simp only [Act.put, List.setIfInBounds_toArray, List.set_cons_zero, List.set_cons_succ, i64_w, i32_w]
       rfl
      refine one_ (i := 2) (N := some 35) #[true, true, true, true, true, false, false, false] rfl rfl (one_of HT_.out (by kernel_rfl)) (by decide) (fun K hK => ?_)
      refine goes_ Tryz.func15 (by kernel_rfl) rfl #[.agg #[.int .u64 a0_2, .bool a0_3]] (by rfl) rfl rfl (by (try simp only [List.map_toArray, List.map_cons, List.map_nil]); first | done | rfl | (simp only [List.length_drop, List.length_take]; rfl)) ?_
      with_reducible refine (complineref18_Count.calls k a0_2 a0_3 t207 _ A8.out).mono ?_
      rintro e w34 ⟨rfl, hb⟩
      refine ⟨_, rfl, ?_⟩
      have n0_ := Aside0.mk (blk_below (g := gb199) (o := .cells #[.int .u64 a0_0, .bool a0_1, .int .u64 a0_2, .bool a0_3, .int .u64 a0_4, .bool a0_5, .int .u64 a0_6, .bool a0_7, .int .u64 a0_8, .bool a0_9] 26 (0, 0)) (by (with_reducible repeat (first | refine blk_drewN ?_ _ | refine blk_drew ?_ | refine blk_alloc ?_ _)); exact BK199.out) hb)
      have n1_ := Aside0.mk (below_step (by repeat (first | (with_reducible first | exact HB.out | apply below_alloc | apply pw_below_drewN | apply below_drew1 | refine below_set ?_ GE199.out) | exact HB.out)) hb)
      clear BK199
      clear HB
      have BK199 := n0_
      have HB := n1_
      clear n0_ n1_
      (try clear hb)
      (try clear hb2)
      (try clear hk)
      (try clear hi)
      refine hK.out _ _ ⟨(blk_cell BK199.out 0).trans rfl, (blk_cell BK199.out 1).trans rfl, (blk_cell BK199.out 2).trans rfl, (blk_cell BK199.out 3).trans rfl, (blk_cell BK199.out 4).trans rfl, (blk_cell BK199.out 5).trans rfl, (blk_cell BK199.out 6).trans rfl, (blk_cell BK199.out 7).trans rfl, (blk_cell BK199.out 8).trans rfl, (blk_cell BK199.out 9).trans rfl⟩ (fun hHeld => ?_)
      clear hK K
      refine norm_ (a' := ?_) ?_ ?_
      rotate_left
      ·show Act.put _ (some 35) _ = _
       simp only [Act.put, List.setIfInBounds_toArray, List.set_cons_zero, List.set_cons_succ, i64_w, i32_w]
       rfl
      refine one_ (i := 5) (N := some 38) #[true, true, true, true, true, true, false, false] rfl rfl (one_of HT_.out (by kernel_rfl)) (by decide) (fun K hK => ?_)
      refine goes_ Tryz.func15 (by kernel_rfl) rfl #[.agg #[.int .u64 a0_0, .bool a0_1]] (by rfl) rfl rfl (by (try simp only [List.map_toArray, List.map_cons, List.map_nil]); first | done | rfl | (simp only [List.length_drop, List.length_take]; rfl)) ?_
      with_reducible refine (complineref18_Count.calls k a0_0 a0_1 t208 _ A9.out).mono ?_
      rintro e w35 ⟨rfl, hb⟩
      refine ⟨_, rfl, ?_⟩
      have n0_ := Aside0.mk (blk_below (g := gb199) (o := .cells #[.int .u64 a0_0, .bool a0_1, .int .u64 a0_2, .bool a0_3, .int .u64 a0_4, .bool a0_5, .int .u64 a0_6, .bool a0_7, .int .u64 a0_8, .bool a0_9] 26 (0, 0)) (by (with_reducible repeat (first | refine blk_drewN ?_ _ | refine blk_drew ?_ | refine blk_alloc ?_ _)); exact BK199.out) hb)
      have n1_ := Aside0.mk (below_step (by repeat (first | (with_reducible first | exact HB.out | apply below_alloc | apply pw_below_drewN | apply below_drew1 | refine below_set ?_ GE199.out) | exact HB.out)) hb)
      clear BK199
      clear HB
      have BK199 := n0_
      have HB := n1_
      clear n0_ n1_
      (try clear hb)
      (try clear hb2)
      (try clear hk)
      (try clear hi)
      refine hK.out _ _ ⟨(blk_cell BK199.out 0).trans rfl, (blk_cell BK199.out 1).trans rfl, (blk_cell BK199.out 2).trans rfl, (blk_cell BK199.out 3).trans rfl, (blk_cell BK199.out 4).trans rfl, (blk_cell BK199.out 5).trans rfl, (blk_cell BK199.out 6).trans rfl, (blk_cell BK199.out 7).trans rfl, (blk_cell BK199.out 8).trans rfl, (blk_cell BK199.out 9).trans rfl⟩ (fun hHeld => ?_)
      clear hK K
      refine norm_ (a' := ?_) ?_ ?_
      rotate_left
      ·show Act.put _ (some 38) _ = _
       simp only [Act.put, List.setIfInBounds_toArray, List.set_cons_zero, List.set_cons_succ, i64_w, i32_w]
       rfl
      refine pure_ (i := 6) (N := some 39) (v := ?_) (a' := ?_) #[true, true, true, true, true, true, true, false] rfl rfl (any_of HT_.out (by kernel_rfl)) (fun _ _ _ h => h) (Or.inl ⟨by rfl, ?_⟩) ?_ ?_
      rotate_left
      ·intro w'
       go_simp
       with_reducible rfl
      rotate_left
      ·simp only [Act.put, List.setIfInBounds_toArray, List.set_cons_zero, List.set_cons_succ, i64_w, i32_w]
       rfl
      refine pure_ (i := 7) (N := some 12) (v := ?_) (a' := ?_) #[true, true, true, true, true, true, true, true] rfl rfl (any_of HT_.out (by kernel_rfl)) (fun _ _ _ h => h) (Or.inl ⟨by rfl, ?_⟩) ?_ ?_
      rotate_left
      ·intro w'
       go_simp
       with_reducible rfl
      rotate_left
      ·simp only [Act.put, List.setIfInBounds_toArray, List.set_cons_zero, List.set_cons_succ, i64_w, i32_w]
       rfl
      refine done_ (done_of HT_.out (by kernel_rfl)) ?_
      try go_wp2
      go_ret
      exact ⟨by first | rfl | (simp [errW_none, errW_some] <;> rfl) | (simp [*, errW_none, errW_some] <;> rfl), by repeat (first | (with_reducible first | exact HB.out | apply below_alloc | apply pw_below_drewN | apply below_drew1 | refine below_set ?_ GE199.out) | exact HB.out)⟩
    ·rw [if_neg c12] at H
     have c12b0 : (t202 == t204) = false := beq_eq_false_iff_ne.mpr c12
     have c12b1 : (t202 != t204) = true := bne_iff_ne.mpr c12
     obtain rfl := Option.some.inj H
     go_enter Tryz.func4, Tryz.ntmps4
     try go_wp2_with (first | ((with_reducible refine gate_dst (N := 2) rfl ?_); refine box_event ?hg (N := 2) ?hd (cs := #[.int .u64 a0_0, .bool a0_1, .int .u64 a0_2, .bool a0_3, .int .u64 a0_4, .bool a0_5, .int .u64 a0_6, .bool a0_7, .int .u64 a0_8, .bool a0_9]) (t := 26) ?hr ?_; (case hd => rfl); (case hg => rfl); (case hr => first | (go_simp; done) | (go_simp; rfl)); intro gb199 hg w36 hbox hb; have n0_ := Aside0.mk (below_step (by repeat (first | (with_reducible first | exact HB.out | apply below_alloc | apply pw_below_drewN | apply below_drew1) | exact HB.out)) hb); have n1_ := Aside0.mk (hbox); have n2_ := Aside0.mk ((by rw [hg]; exact (below_size (by repeat (first | (with_reducible first | exact HB.out | apply below_alloc | apply pw_below_drewN | apply below_drew1) | exact HB.out))) : w.heap.size ≤ gb199)); have n3_ := Aside0.mk ((by rw [hg]; exact (below_size (by repeat (first | (with_reducible first | exact HB.out | apply below_alloc | apply pw_below_drewN | apply below_drew1) | exact HB.out))) : w.heap.size ≤ gb199)); clear HB; have HB := n0_; have BK199 := n1_; have GW199 := n2_; have GE199 := n3_; clear n0_ n1_ n2_ n3_; clear hb hbox hg) | ((with_reducible refine gate_callee (f := 9) rfl ?_); refine goesL_ (some 13) rfl rfl Tryz.func9 (by kernel_rfl) rfl #[] rfl (by (try simp only [List.map_toArray, List.map_cons, List.map_nil]); first | done | rfl | (simp only [List.length_drop, List.length_take]; rfl)) ?_; (with_reducible refine (complinelaw21_works.calls  true _ (hT.keep (by repeat (first | (with_reducible first | exact HB.out | apply below_alloc | apply pw_below_drewN | apply below_drew1 | refine below_set ?_ GE199.out) | exact HB.out))) A3.out).mono ?_); rintro e w37 ⟨rfl, hb⟩; refine ⟨_, rfl, ?_⟩; have n0_ := Aside0.mk (blk_below (g := gb199) (o := .cells #[.int .u64 a0_0, .bool a0_1, .int .u64 a0_2, .bool a0_3, .int .u64 a0_4, .bool a0_5, .int .u64 a0_6, .bool a0_7, .int .u64 a0_8, .bool a0_9] 26 (0, 0)) (by (with_reducible repeat (first | refine blk_drewN ?_ _ | refine blk_drew ?_ | refine blk_alloc ?_ _)); exact BK199.out) hb); have n1_ := Aside0.mk (below_step (by repeat (first | (with_reducible first | exact HB.out | apply below_alloc | apply pw_below_drewN | apply below_drew1 | refine below_set ?_ GE199.out) | exact HB.out)) hb); clear BK199; clear HB; have BK199 := n0_; have HB := n1_; clear n0_ n1_; (try clear hb); (try clear hb2); (try clear hk); (try clear hi); have hcz38_0 : w37.cell? ⟨gb199, 0, none⟩ = some (.int .u64 a0_0) := (blk_cell BK199.out 0).trans rfl; have hcz38_1 : w37.cell? ⟨gb199, 1, none⟩ = some (.bool a0_1) := (blk_cell BK199.out 1).trans rfl; have hcz38_2 : w37.cell? ⟨gb199, 2, none⟩ = some (.int .u64 a0_2) := (blk_cell BK199.out 2).trans rfl; have hcz38_3 : w37.cell? ⟨gb199, 3, none⟩ = some (.bool a0_3) := (blk_cell BK199.out 3).trans rfl; have hcz38_4 : w37.cell? ⟨gb199, 4, none⟩ = some (.int .u64 a0_4) := (blk_cell BK199.out 4).trans rfl; have hcz38_5 : w37.cell? ⟨gb199, 5, none⟩ = some (.bool a0_5) := (blk_cell BK199.out 5).trans rfl; have hcz38_6 : w37.cell? ⟨gb199, 6, none⟩ = some (.int .u64 a0_6) := (blk_cell BK199.out 6).trans rfl; have hcz38_7 : w37.cell? ⟨gb199, 7, none⟩ = some (.bool a0_7) := (blk_cell BK199.out 7).trans rfl; have hcz38_8 : w37.cell? ⟨gb199, 8, none⟩ = some (.int .u64 a0_8) := (blk_cell BK199.out 8).trans rfl; have hcz38_9 : w37.cell? ⟨gb199, 9, none⟩ = some (.bool a0_9) := (blk_cell BK199.out 9).trans rfl; have hfz38_0 := blk_frozen BK199.out 0; have hfz38_1 := blk_frozen BK199.out 1; have hfz38_2 := blk_frozen BK199.out 2; have hfz38_3 := blk_frozen BK199.out 3; have hfz38_4 := blk_frozen BK199.out 4; have hfz38_5 := blk_frozen BK199.out 5; have hfz38_6 := blk_frozen BK199.out 6; have hfz38_7 := blk_frozen BK199.out 7; have hfz38_8 := blk_frozen BK199.out 8; have hfz38_9 := blk_frozen BK199.out 9) | ((with_reducible refine gate_callee (f := 12) rfl ?_); refine goesL_ (some 19) rfl rfl Tryz.func12 (by kernel_rfl) rfl #[.agg #[.int .u64 a0_0, .bool a0_1, .int .u64 a0_2, .bool a0_3, .int .u64 a0_4, .bool a0_5, .int .u64 a0_6, .bool a0_7, .int .u64 a0_8, .bool a0_9], .int .i64 a1] rfl (by (try simp only [List.map_toArray, List.map_cons, List.map_nil]); first | done | rfl | (simp only [List.length_drop, List.length_take]; rfl)) ?_; (with_reducible refine (day_Match.calls a0_0 a0_1 a0_2 a0_3 a0_4 a0_5 a0_6 a0_7 a0_8 a0_9 a1 t201 t202 _ A5.out).mono ?_); rintro e w39 ⟨rfl, hb⟩; refine ⟨_, rfl, ?_⟩; have n0_ := Aside0.mk (blk_below (g := gb199) (o := .cells #[.int .u64 a0_0, .bool a0_1, .int .u64 a0_2, .bool a0_3, .int .u64 a0_4, .bool a0_5, .int .u64 a0_6, .bool a0_7, .int .u64 a0_8, .bool a0_9] 26 (0, 0)) (by (with_reducible repeat (first | refine blk_drewN ?_ _ | refine blk_drew ?_ | refine blk_alloc ?_ _)); exact BK199.out) hb); have n1_ := Aside0.mk (below_step (by repeat (first | (with_reducible first | exact HB.out | apply below_alloc | apply pw_below_drewN | apply below_drew1 | refine below_set ?_ GE199.out) | exact HB.out)) hb); clear BK199; clear HB; have BK199 := n0_; have HB := n1_; clear n0_ n1_; (try clear hb); (try clear hb2); (try clear hk); (try clear hi); have hcz40_0 : w39.cell? ⟨gb199, 0, none⟩ = some (.int .u64 a0_0) := (blk_cell BK199.out 0).trans rfl; have hcz40_1 : w39.cell? ⟨gb199, 1, none⟩ = some (.bool a0_1) := (blk_cell BK199.out 1).trans rfl; have hcz40_2 : w39.cell? ⟨gb199, 2, none⟩ = some (.int .u64 a0_2) := (blk_cell BK199.out 2).trans rfl; have hcz40_3 : w39.cell? ⟨gb199, 3, none⟩ = some (.bool a0_3) := (blk_cell BK199.out 3).trans rfl; have hcz40_4 : w39.cell? ⟨gb199, 4, none⟩ = some (.int .u64 a0_4) := (blk_cell BK199.out 4).trans rfl; have hcz40_5 : w39.cell? ⟨gb199, 5, none⟩ = some (.bool a0_5) := (blk_cell BK199.out 5).trans rfl; have hcz40_6 : w39.cell? ⟨gb199, 6, none⟩ = some (.int .u64 a0_6) := (blk_cell BK199.out 6).trans rfl; have hcz40_7 : w39.cell? ⟨gb199, 7, none⟩ = some (.bool a0_7) := (blk_cell BK199.out 7).trans rfl; have hcz40_8 : w39.cell? ⟨gb199, 8, none⟩ = some (.int .u64 a0_8) := (blk_cell BK199.out 8).trans rfl; have hcz40_9 : w39.cell? ⟨gb199, 9, none⟩ = some (.bool a0_9) := (blk_cell BK199.out 9).trans rfl; have hfz40_0 := blk_frozen BK199.out 0; have hfz40_1 := blk_frozen BK199.out 1; have hfz40_2 := blk_frozen BK199.out 2; have hfz40_3 := blk_frozen BK199.out 3; have hfz40_4 := blk_frozen BK199.out 4; have hfz40_5 := blk_frozen BK199.out 5; have hfz40_6 := blk_frozen BK199.out 6; have hfz40_7 := blk_frozen BK199.out 7; have hfz40_8 := blk_frozen BK199.out 8; have hfz40_9 := blk_frozen BK199.out 9) | ((with_reducible refine gate_callee (f := 13) rfl ?_); refine goesL_ (some 25) rfl rfl Tryz.func13 (by kernel_rfl) rfl #[.agg #[.int .u64 a0_0, .bool a0_1, .int .u64 a0_2, .bool a0_3, .int .u64 a0_4, .bool a0_5, .int .u64 a0_6, .bool a0_7, .int .u64 a0_8, .bool a0_9], .int .i64 a1] rfl (by (try simp only [List.map_toArray, List.map_cons, List.map_nil]); first | done | rfl | (simp only [List.length_drop, List.length_take]; rfl)) ?_; (with_reducible refine (complineref21_Match.calls k a0_0 a0_1 a0_2 a0_3 a0_4 a0_5 a0_6 a0_7 a0_8 a0_9 a1 t203 t204 _ A6.out).mono ?_); rintro e w41 ⟨rfl, hb⟩; refine ⟨_, rfl, ?_⟩; have n0_ := Aside0.mk (blk_below (g := gb199) (o := .cells #[.int .u64 a0_0, .bool a0_1, .int .u64 a0_2, .bool a0_3, .int .u64 a0_4, .bool a0_5, .int .u64 a0_6, .bool a0_7, .int .u64 a0_8, .bool a0_9] 26 (0, 0)) (by (with_reducible repeat (first | refine blk_drewN ?_ _ | refine blk_drew ?_ | refine blk_alloc ?_ _)); exact BK199.out) hb); have n1_ := Aside0.mk (below_step (by repeat (first | (with_reducible first | exact HB.out | apply below_alloc | apply pw_below_drewN | apply below_drew1 | refine below_set ?_ GE199.out) | exact HB.out)) hb); clear BK199; clear HB; have BK199 := n0_; have HB := n1_; clear n0_ n1_; (try clear hb); (try clear hb2); (try clear hk); (try clear hi); have hcz42_0 : w41.cell? ⟨gb199, 0, none⟩ = some (.int .u64 a0_0) := (blk_cell BK199.out 0).trans rfl; have hcz42_1 : w41.cell? ⟨gb199, 1, none⟩ = some (.bool a0_1) := (blk_cell BK199.out 1).trans rfl; have hcz42_2 : w41.cell? ⟨gb199, 2, none⟩ = some (.int .u64 a0_2) := (blk_cell BK199.out 2).trans rfl; have hcz42_3 : w41.cell? ⟨gb199, 3, none⟩ = some (.bool a0_3) := (blk_cell BK199.out 3).trans rfl; have hcz42_4 : w41.cell? ⟨gb199, 4, none⟩ = some (.int .u64 a0_4) := (blk_cell BK199.out 4).trans rfl; have hcz42_5 : w41.cell? ⟨gb199, 5, none⟩ = some (.bool a0_5) := (blk_cell BK199.out 5).trans rfl; have hcz42_6 : w41.cell? ⟨gb199, 6, none⟩ = some (.int .u64 a0_6) := (blk_cell BK199.out 6).trans rfl; have hcz42_7 : w41.cell? ⟨gb199, 7, none⟩ = some (.bool a0_7) := (blk_cell BK199.out 7).trans rfl; have hcz42_8 : w41.cell? ⟨gb199, 8, none⟩ = some (.int .u64 a0_8) := (blk_cell BK199.out 8).trans rfl; have hcz42_9 : w41.cell? ⟨gb199, 9, none⟩ = some (.bool a0_9) := (blk_cell BK199.out 9).trans rfl; have hfz42_0 := blk_frozen BK199.out 0; have hfz42_1 := blk_frozen BK199.out 1; have hfz42_2 := blk_frozen BK199.out 2; have hfz42_3 := blk_frozen BK199.out 3; have hfz42_4 := blk_frozen BK199.out 4; have hfz42_5 := blk_frozen BK199.out 5; have hfz42_6 := blk_frozen BK199.out 6; have hfz42_7 := blk_frozen BK199.out 7; have hfz42_8 := blk_frozen BK199.out 8; have hfz42_9 := blk_frozen BK199.out 9) | ((with_reducible refine gate_callee (f := 14) rfl ?_); refine goesL_ (some 30) rfl rfl Tryz.func14 (by kernel_rfl) rfl #[.agg #[.int .u64 a0_0, .bool a0_1, .int .u64 a0_2, .bool a0_3, .int .u64 a0_4, .bool a0_5, .int .u64 a0_6, .bool a0_7, .int .u64 a0_8, .bool a0_9]] rfl (by (try simp only [List.map_toArray, List.map_cons, List.map_nil]); first | done | rfl | (simp only [List.length_drop, List.length_take]; rfl)) ?_; (with_reducible refine (day_Minutes.calls a0_0 a0_1 a0_2 a0_3 a0_4 a0_5 a0_6 a0_7 a0_8 a0_9 t205 t206 _ A7.out).mono ?_); rintro e w43 ⟨rfl, hb⟩; refine ⟨_, rfl, ?_⟩; have n0_ := Aside0.mk (blk_below (g := gb199) (o := .cells #[.int .u64 a0_0, .bool a0_1, .int .u64 a0_2, .bool a0_3, .int .u64 a0_4, .bool a0_5, .int .u64 a0_6, .bool a0_7, .int .u64 a0_8, .bool a0_9] 26 (0, 0)) (by (with_reducible repeat (first | refine blk_drewN ?_ _ | refine blk_drew ?_ | refine blk_alloc ?_ _)); exact BK199.out) hb); have n1_ := Aside0.mk (below_step (by repeat (first | (with_reducible first | exact HB.out | apply below_alloc | apply pw_below_drewN | apply below_drew1 | refine below_set ?_ GE199.out) | exact HB.out)) hb); clear BK199; clear HB; have BK199 := n0_; have HB := n1_; clear n0_ n1_; (try clear hb); (try clear hb2); (try clear hk); (try clear hi)))
     have n0_ := Aside0.mk (blk_drew BK199.out)
     have n1_ := Aside0.mk (below_drew1 HB.out)
     clear BK199
     clear HB
     have BK199 := n0_
     have HB := n1_
     clear n0_ n1_
     refine start_ (n := 8) (S := fun w' => w'.cell? ⟨gb199, 0, none⟩ = some (.int .u64 a0_0) ∧ w'.cell? ⟨gb199, 1, none⟩ = some (.bool a0_1) ∧ w'.cell? ⟨gb199, 2, none⟩ = some (.int .u64 a0_2) ∧ w'.cell? ⟨gb199, 3, none⟩ = some (.bool a0_3) ∧ w'.cell? ⟨gb199, 4, none⟩ = some (.int .u64 a0_4) ∧ w'.cell? ⟨gb199, 5, none⟩ = some (.bool a0_5) ∧ w'.cell? ⟨gb199, 6, none⟩ = some (.int .u64 a0_6) ∧ w'.cell? ⟨gb199, 7, none⟩ = some (.bool a0_7) ∧ w'.cell? ⟨gb199, 8, none⟩ = some (.int .u64 a0_8) ∧ w'.cell? ⟨gb199, 9, none⟩ = some (.bool a0_9)) (ds := []) #[false, false, false, false, false, false, false, false] (by kernel_rfl) rfl rfl ⟨(blk_cell BK199.out 0).trans rfl, (blk_cell BK199.out 1).trans rfl, (blk_cell BK199.out 2).trans rfl, (blk_cell BK199.out 3).trans rfl, (blk_cell BK199.out 4).trans rfl, (blk_cell BK199.out 5).trans rfl, (blk_cell BK199.out 6).trans rfl, (blk_cell BK199.out 7).trans rfl, (blk_cell BK199.out 8).trans rfl, (blk_cell BK199.out 9).trans rfl⟩ (fun hHeld => ?_); refine with_tabW complinelaw21_DayMatches.tab7 complinelaw21_DayMatches.bits7 (fun HT_ HW_ => ?_)
     generalize w43.drew = w44 at BK199 HB hHeld ⊢
     refine pure_ (i := 0) (N := some 33) (v := ?_) (a' := ?_) #[true, false, false, false, false, false, false, false] rfl rfl (any_of HT_.out (by kernel_rfl)) (fun _ _ _ h => h) (Or.inl ⟨by rfl, ?_⟩) ?_ ?_
     rotate_left
     ·intro w'
      go_simp
      with_reducible rfl
     rotate_left
     ·simp only [Act.put, List.setIfInBounds_toArray, List.set_cons_zero, List.set_cons_succ, i64_w, i32_w]
      rfl
     refine pure_ (i := 3) (N := some 36) (v := ?_) (a' := ?_) #[true, false, false, true, false, false, false, false] rfl rfl (any_of HT_.out (by kernel_rfl)) (fun _ _ _ h => h) (Or.inl ⟨by rfl, ?_⟩) ?_ ?_
     rotate_left
     ·intro w'
      go_simp
      with_reducible rfl
     rotate_left
     ·simp only [Act.put, List.setIfInBounds_toArray, List.set_cons_zero, List.set_cons_succ, i64_w, i32_w]
      rfl
     refine take_ (i := 1) (N := some 34) (v := ?_) (a' := ?_) #[true, true, false, true, false, false, false, false] rfl rfl (take_ofW HT_.out HW_.out (by kernel_rfl)) (fun _ _ _ h => h) (Or.inl ⟨by rfl, ?_⟩) hHeld ?_ ?_
     rotate_left
     ·rintro w' ⟨s0, s1, s2, s3, s4, s5, s6, s7, s8, s9⟩
      go_simp
      with_reducible rfl
     rotate_left
     ·simp only [Act.put, List.setIfInBounds_toArray, List.set_cons_zero, List.set_cons_succ, i64_w, i32_w]
      rfl
     refine take_ (i := 4) (N := some 37) (v := ?_) (a' := ?_) #[true, true, false, true, true, false, false, false] rfl rfl (take_ofW HT_.out HW_.out (by kernel_rfl)) (fun _ _ _ h => h) (Or.inl ⟨by rfl, ?_⟩) hHeld ?_ ?_
     rotate_left
     ·rintro w' ⟨s0, s1, s2, s3, s4, s5, s6, s7, s8, s9⟩
      go_simp
      with_reducible rfl
     rotate_left
     ·simp only [Act.put, List.setIfInBounds_toArray, List.set_cons_zero, List.set_cons_succ, i64_w, i32_w]
      rfl
     refine one_ (i := 2) (N := some 35) #[true, true, true, true, true, false, false, false] rfl rfl (one_of HT_.out (by kernel_rfl)) (by decide) (fun K hK => ?_)
     refine goes_ Tryz.func15 (by kernel_rfl) rfl #[.agg #[.int .u64 a0_2, .bool a0_3]] (by rfl) rfl rfl (by (try simp only [List.map_toArray, List.map_cons, List.map_nil]); first | done | rfl | (simp only [List.length_drop, List.length_take]; rfl)) ?_
     with_reducible refine (complineref18_Count.calls k a0_2 a0_3 t207 _ A8.out).mono ?_
     rintro e w45 ⟨rfl, hb⟩
     refine ⟨_, rfl, ?_⟩
     have n0_ := Aside0.mk (blk_below (g := gb199) (o := .cells #[.int .u64 a0_0, .bool a0_1, .int .u64 a0_2, .bool a0_3, .int .u64 a0_4, .bool a0_5, .int .u64 a0_6, .bool a0_7, .int .u64 a0_8, .bool a0_9] 26 (0, 0)) (by (with_reducible repeat (first | refine blk_drewN ?_ _ | refine blk_drew ?_ | refine blk_alloc ?_ _)); exact BK199.out) hb)
     have n1_ := Aside0.mk (below_step (by repeat (first | (with_reducible first | exact HB.out | apply below_alloc | apply pw_below_drewN | apply below_drew1 | refine below_set ?_ GE199.out) | exact HB.out)) hb)
     clear BK199
     clear HB
     have BK199 := n0_
     have HB := n1_
     clear n0_ n1_
     (try clear hb)
     (try clear hb2)
     (try clear hk)
     (try clear hi)
     refine hK.out _ _ ⟨(blk_cell BK199.out 0).trans rfl, (blk_cell BK199.out 1).trans rfl, (blk_cell BK199.out 2).trans rfl, (blk_cell BK199.out 3).trans rfl, (blk_cell BK199.out 4).trans rfl, (blk_cell BK199.out 5).trans rfl, (blk_cell BK199.out 6).trans rfl, (blk_cell BK199.out 7).trans rfl, (blk_cell BK199.out 8).trans rfl, (blk_cell BK199.out 9).trans rfl⟩ (fun hHeld => ?_)
     clear hK K
     refine norm_ (a' := ?_) ?_ ?_
     rotate_left
     ·show Act.put _ (some 35) _ = _
      simp only [Act.put, List.setIfInBounds_toArray, List.set_cons_zero, List.set_cons_succ, i64_w, i32_w]
      rfl
     refine one_ (i := 5) (N := some 38) #[true, true, true, true, true, true, false, false] rfl rfl (one_of HT_.out (by kernel_rfl)) (by decide) (fun K hK => ?_)
     refine goes_ Tryz.func15 (by kernel_rfl) rfl #[.agg #[.int .u64 a0_0, .bool a0_1]] (by rfl) rfl rfl (by (try simp only [List.map_toArray, List.map_cons, List.map_nil]); first | done | rfl | (simp only [List.length_drop, List.length_take]; rfl)) ?_
     with_reducible refine (complineref18_Count.calls k a0_0 a0_1 t208 _ A9.out).mono ?_
     rintro e w46 ⟨rfl, hb⟩
     refine ⟨_, rfl, ?_⟩
     have n0_ := Aside0.mk (blk_below (g := gb199) (o := .cells #[.int .u64 a0_0, .bool a0_1, .int .u64 a0_2, .bool a0_3, .int .u64 a0_4, .bool a0_5, .int .u64 a0_6, .bool a0_7, .int .u64 a0_8, .bool a0_9] 26 (0, 0)) (by (with_reducible repeat (first | refine blk_drewN ?_ _ | refine blk_drew ?_ | refine blk_alloc ?_ _)); exact BK199.out) hb)
     have n1_ := Aside0.mk (below_step (by repeat (first | (with_reducible first | exact HB.out | apply below_alloc | apply pw_below_drewN | apply below_drew1 | refine below_set ?_ GE199.out) | exact HB.out)) hb)
     clear BK199
     clear HB
     have BK199 := n0_
     have HB := n1_
     clear n0_ n1_
     (try clear hb)
     (try clear hb2)
     (try clear hk)
     (try clear hi)
     refine hK.out _ _ ⟨(blk_cell BK199.out 0).trans rfl, (blk_cell BK199.out 1).trans rfl, (blk_cell BK199.out 2).trans rfl, (blk_cell BK199.out 3).trans rfl, (blk_cell BK199.out 4).trans rfl, (blk_cell BK199.out 5).trans rfl, (blk_cell BK199.out 6).trans rfl, (blk_cell BK199.out 7).trans rfl, (blk_cell BK199.out 8).trans rfl, (blk_cell BK199.out 9).trans rfl⟩ (fun hHeld => ?_)
     clear hK K
     refine norm_ (a' := ?_) ?_ ?_
     rotate_left
     ·show Act.put _ (some 38) _ = _
      simp only [Act.put, List.setIfInBounds_toArray, List.set_cons_zero, List.set_cons_succ, i64_w, i32_w]
      rfl
     refine pure_ (i := 6) (N := some 39) (v := ?_) (a' := ?_) #[true, true, true, true, true, true, true, false] rfl rfl (any_of HT_.out (by kernel_rfl)) (fun _ _ _ h => h) (Or.inl ⟨by rfl, ?_⟩) ?_ ?_
     rotate_left
     ·intro w'
      go_simp
      with_reducible rfl
     rotate_left
     ·simp only [Act.put, List.setIfInBounds_toArray, List.set_cons_zero, List.set_cons_succ, i64_w, i32_w]
      rfl
     refine pure_ (i := 7) (N := some 12) (v := ?_) (a' := ?_) #[true, true, true, true, true, true, true, true] rfl rfl (any_of HT_.out (by kernel_rfl)) (fun _ _ _ h => h) (Or.inl ⟨by rfl, ?_⟩) ?_ ?_
     rotate_left
     ·intro w'
      go_simp
      with_reducible rfl
     rotate_left
     ·simp only [Act.put, List.setIfInBounds_toArray, List.set_cons_zero, List.set_cons_succ, i64_w, i32_w]
      rfl
     refine done_ (done_of HT_.out (by kernel_rfl)) ?_
     try go_wp2
     go_ret
     exact ⟨by first | rfl | (simp [errW_none, errW_some] <;> rfl) | (simp [*, errW_none, errW_some] <;> rfl), by repeat (first | (with_reducible first | exact HB.out | apply below_alloc | apply pw_below_drewN | apply below_drew1 | refine below_set ?_ GE199.out) | exact HB.out)⟩
   ·rw [if_neg c11] at H
    have c11b0 : (t201 == t203) = false := by simpa using c11
    (try (have c11b1 : decide (t201 = t203) = false := by simpa using c11))
    (try (have c11b2 : (t201 == t203) = false := by simpa using c11))
    (try (have c11b3 : ¬ (t201 = t203) := by simpa using c11))
    clear c11
    obtain rfl := Option.some.inj H
    go_enter Tryz.func4, Tryz.ntmps4
    try go_wp2_with (first | ((with_reducible refine gate_dst (N := 2) rfl ?_); refine box_event ?hg (N := 2) ?hd (cs := #[.int .u64 a0_0, .bool a0_1, .int .u64 a0_2, .bool a0_3, .int .u64 a0_4, .bool a0_5, .int .u64 a0_6, .bool a0_7, .int .u64 a0_8, .bool a0_9]) (t := 26) ?hr ?_; (case hd => rfl); (case hg => rfl); (case hr => first | (go_simp; done) | (go_simp; rfl)); intro gb199 hg w47 hbox hb; have n0_ := Aside0.mk (below_step (by repeat (first | (with_reducible first | exact HB.out | apply below_alloc | apply pw_below_drewN | apply below_drew1) | exact HB.out)) hb); have n1_ := Aside0.mk (hbox); have n2_ := Aside0.mk ((by rw [hg]; exact (below_size (by repeat (first | (with_reducible first | exact HB.out | apply below_alloc | apply pw_below_drewN | apply below_drew1) | exact HB.out))) : w.heap.size ≤ gb199)); have n3_ := Aside0.mk ((by rw [hg]; exact (below_size (by repeat (first | (with_reducible first | exact HB.out | apply below_alloc | apply pw_below_drewN | apply below_drew1) | exact HB.out))) : w.heap.size ≤ gb199)); clear HB; have HB := n0_; have BK199 := n1_; have GW199 := n2_; have GE199 := n3_; clear n0_ n1_ n2_ n3_; clear hb hbox hg) | ((with_reducible refine gate_callee (f := 9) rfl ?_); refine goesL_ (some 13) rfl rfl Tryz.func9 (by kernel_rfl) rfl #[] rfl (by (try simp only [List.map_toArray, List.map_cons, List.map_nil]); first | done | rfl | (simp only [List.length_drop, List.length_take]; rfl)) ?_; (with_reducible refine (complinelaw21_works.calls  true _ (hT.keep (by repeat (first | (with_reducible first | exact HB.out | apply below_alloc | apply pw_below_drewN | apply below_drew1 | refine below_set ?_ GE199.out) | exact HB.out))) A3.out).mono ?_); rintro e w48 ⟨rfl, hb⟩; refine ⟨_, rfl, ?_⟩; have n0_ := Aside0.mk (blk_below (g := gb199) (o := .cells #[.int .u64 a0_0, .bool a0_1, .int .u64 a0_2, .bool a0_3, .int .u64 a0_4, .bool a0_5, .int .u64 a0_6, .bool a0_7, .int .u64 a0_8, .bool a0_9] 26 (0, 0)) (by (with_reducible repeat (first | refine blk_drewN ?_ _ | refine blk_drew ?_ | refine blk_alloc ?_ _)); exact BK199.out) hb); have n1_ := Aside0.mk (below_step (by repeat (first | (with_reducible first | exact HB.out | apply below_alloc | apply pw_below_drewN | apply below_drew1 | refine below_set ?_ GE199.out) | exact HB.out)) hb); clear BK199; clear HB; have BK199 := n0_; have HB := n1_; clear n0_ n1_; (try clear hb); (try clear hb2); (try clear hk); (try clear hi); have hcz49_0 : w48.cell? ⟨gb199, 0, none⟩ = some (.int .u64 a0_0) := (blk_cell BK199.out 0).trans rfl; have hcz49_1 : w48.cell? ⟨gb199, 1, none⟩ = some (.bool a0_1) := (blk_cell BK199.out 1).trans rfl; have hcz49_2 : w48.cell? ⟨gb199, 2, none⟩ = some (.int .u64 a0_2) := (blk_cell BK199.out 2).trans rfl; have hcz49_3 : w48.cell? ⟨gb199, 3, none⟩ = some (.bool a0_3) := (blk_cell BK199.out 3).trans rfl; have hcz49_4 : w48.cell? ⟨gb199, 4, none⟩ = some (.int .u64 a0_4) := (blk_cell BK199.out 4).trans rfl; have hcz49_5 : w48.cell? ⟨gb199, 5, none⟩ = some (.bool a0_5) := (blk_cell BK199.out 5).trans rfl; have hcz49_6 : w48.cell? ⟨gb199, 6, none⟩ = some (.int .u64 a0_6) := (blk_cell BK199.out 6).trans rfl; have hcz49_7 : w48.cell? ⟨gb199, 7, none⟩ = some (.bool a0_7) := (blk_cell BK199.out 7).trans rfl; have hcz49_8 : w48.cell? ⟨gb199, 8, none⟩ = some (.int .u64 a0_8) := (blk_cell BK199.out 8).trans rfl; have hcz49_9 : w48.cell? ⟨gb199, 9, none⟩ = some (.bool a0_9) := (blk_cell BK199.out 9).trans rfl; have hfz49_0 := blk_frozen BK199.out 0; have hfz49_1 := blk_frozen BK199.out 1; have hfz49_2 := blk_frozen BK199.out 2; have hfz49_3 := blk_frozen BK199.out 3; have hfz49_4 := blk_frozen BK199.out 4; have hfz49_5 := blk_frozen BK199.out 5; have hfz49_6 := blk_frozen BK199.out 6; have hfz49_7 := blk_frozen BK199.out 7; have hfz49_8 := blk_frozen BK199.out 8; have hfz49_9 := blk_frozen BK199.out 9) | ((with_reducible refine gate_callee (f := 12) rfl ?_); refine goesL_ (some 19) rfl rfl Tryz.func12 (by kernel_rfl) rfl #[.agg #[.int .u64 a0_0, .bool a0_1, .int .u64 a0_2, .bool a0_3, .int .u64 a0_4, .bool a0_5, .int .u64 a0_6, .bool a0_7, .int .u64 a0_8, .bool a0_9], .int .i64 a1] rfl (by (try simp only [List.map_toArray, List.map_cons, List.map_nil]); first | done | rfl | (simp only [List.length_drop, List.length_take]; rfl)) ?_; (with_reducible refine (day_Match.calls a0_0 a0_1 a0_2 a0_3 a0_4 a0_5 a0_6 a0_7 a0_8 a0_9 a1 t201 t202 _ A5.out).mono ?_); rintro e w50 ⟨rfl, hb⟩; refine ⟨_, rfl, ?_⟩; have n0_ := Aside0.mk (blk_below (g := gb199) (o := .cells #[.int .u64 a0_0, .bool a0_1, .int .u64 a0_2, .bool a0_3, .int .u64 a0_4, .bool a0_5, .int .u64 a0_6, .bool a0_7, .int .u64 a0_8, .bool a0_9] 26 (0, 0)) (by (with_reducible repeat (first | refine blk_drewN ?_ _ | refine blk_drew ?_ | refine blk_alloc ?_ _)); exact BK199.out) hb); have n1_ := Aside0.mk (below_step (by repeat (first | (with_reducible first | exact HB.out | apply below_alloc | apply pw_below_drewN | apply below_drew1 | refine below_set ?_ GE199.out) | exact HB.out)) hb); clear BK199; clear HB; have BK199 := n0_; have HB := n1_; clear n0_ n1_; (try clear hb); (try clear hb2); (try clear hk); (try clear hi); have hcz51_0 : w50.cell? ⟨gb199, 0, none⟩ = some (.int .u64 a0_0) := (blk_cell BK199.out 0).trans rfl; have hcz51_1 : w50.cell? ⟨gb199, 1, none⟩ = some (.bool a0_1) := (blk_cell BK199.out 1).trans rfl; have hcz51_2 : w50.cell? ⟨gb199, 2, none⟩ = some (.int .u64 a0_2) := (blk_cell BK199.out 2).trans rfl; have hcz51_3 : w50.cell? ⟨gb199, 3, none⟩ = some (.bool a0_3) := (blk_cell BK199.out 3).trans rfl; have hcz51_4 : w50.cell? ⟨gb199, 4, none⟩ = some (.int .u64 a0_4) := (blk_cell BK199.out 4).trans rfl; have hcz51_5 : w50.cell? ⟨gb199, 5, none⟩ = some (.bool a0_5) := (blk_cell BK199.out 5).trans rfl; have hcz51_6 : w50.cell? ⟨gb199, 6, none⟩ = some (.int .u64 a0_6) := (blk_cell BK199.out 6).trans rfl; have hcz51_7 : w50.cell? ⟨gb199, 7, none⟩ = some (.bool a0_7) := (blk_cell BK199.out 7).trans rfl; have hcz51_8 : w50.cell? ⟨gb199, 8, none⟩ = some (.int .u64 a0_8) := (blk_cell BK199.out 8).trans rfl; have hcz51_9 : w50.cell? ⟨gb199, 9, none⟩ = some (.bool a0_9) := (blk_cell BK199.out 9).trans rfl; have hfz51_0 := blk_frozen BK199.out 0; have hfz51_1 := blk_frozen BK199.out 1; have hfz51_2 := blk_frozen BK199.out 2; have hfz51_3 := blk_frozen BK199.out 3; have hfz51_4 := blk_frozen BK199.out 4; have hfz51_5 := blk_frozen BK199.out 5; have hfz51_6 := blk_frozen BK199.out 6; have hfz51_7 := blk_frozen BK199.out 7; have hfz51_8 := blk_frozen BK199.out 8; have hfz51_9 := blk_frozen BK199.out 9) | ((with_reducible refine gate_callee (f := 13) rfl ?_); refine goesL_ (some 25) rfl rfl Tryz.func13 (by kernel_rfl) rfl #[.agg #[.int .u64 a0_0, .bool a0_1, .int .u64 a0_2, .bool a0_3, .int .u64 a0_4, .bool a0_5, .int .u64 a0_6, .bool a0_7, .int .u64 a0_8, .bool a0_9], .int .i64 a1] rfl (by (try simp only [List.map_toArray, List.map_cons, List.map_nil]); first | done | rfl | (simp only [List.length_drop, List.length_take]; rfl)) ?_; (with_reducible refine (complineref21_Match.calls k a0_0 a0_1 a0_2 a0_3 a0_4 a0_5 a0_6 a0_7 a0_8 a0_9 a1 t203 t204 _ A6.out).mono ?_); rintro e w52 ⟨rfl, hb⟩; refine ⟨_, rfl, ?_⟩; have n0_ := Aside0.mk (blk_below (g := gb199) (o := .cells #[.int .u64 a0_0, .bool a0_1, .int .u64 a0_2, .bool a0_3, .int .u64 a0_4, .bool a0_5, .int .u64 a0_6, .bool a0_7, .int .u64 a0_8, .bool a0_9] 26 (0, 0)) (by (with_reducible repeat (first | refine blk_drewN ?_ _ | refine blk_drew ?_ | refine blk_alloc ?_ _)); exact BK199.out) hb); have n1_ := Aside0.mk (below_step (by repeat (first | (with_reducible first | exact HB.out | apply below_alloc | apply pw_below_drewN | apply below_drew1 | refine below_set ?_ GE199.out) | exact HB.out)) hb); clear BK199; clear HB; have BK199 := n0_; have HB := n1_; clear n0_ n1_; (try clear hb); (try clear hb2); (try clear hk); (try clear hi); have hcz53_0 : w52.cell? ⟨gb199, 0, none⟩ = some (.int .u64 a0_0) := (blk_cell BK199.out 0).trans rfl; have hcz53_1 : w52.cell? ⟨gb199, 1, none⟩ = some (.bool a0_1) := (blk_cell BK199.out 1).trans rfl; have hcz53_2 : w52.cell? ⟨gb199, 2, none⟩ = some (.int .u64 a0_2) := (blk_cell BK199.out 2).trans rfl; have hcz53_3 : w52.cell? ⟨gb199, 3, none⟩ = some (.bool a0_3) := (blk_cell BK199.out 3).trans rfl; have hcz53_4 : w52.cell? ⟨gb199, 4, none⟩ = some (.int .u64 a0_4) := (blk_cell BK199.out 4).trans rfl; have hcz53_5 : w52.cell? ⟨gb199, 5, none⟩ = some (.bool a0_5) := (blk_cell BK199.out 5).trans rfl; have hcz53_6 : w52.cell? ⟨gb199, 6, none⟩ = some (.int .u64 a0_6) := (blk_cell BK199.out 6).trans rfl; have hcz53_7 : w52.cell? ⟨gb199, 7, none⟩ = some (.bool a0_7) := (blk_cell BK199.out 7).trans rfl; have hcz53_8 : w52.cell? ⟨gb199, 8, none⟩ = some (.int .u64 a0_8) := (blk_cell BK199.out 8).trans rfl; have hcz53_9 : w52.cell? ⟨gb199, 9, none⟩ = some (.bool a0_9) := (blk_cell BK199.out 9).trans rfl; have hfz53_0 := blk_frozen BK199.out 0; have hfz53_1 := blk_frozen BK199.out 1; have hfz53_2 := blk_frozen BK199.out 2; have hfz53_3 := blk_frozen BK199.out 3; have hfz53_4 := blk_frozen BK199.out 4; have hfz53_5 := blk_frozen BK199.out 5; have hfz53_6 := blk_frozen BK199.out 6; have hfz53_7 := blk_frozen BK199.out 7; have hfz53_8 := blk_frozen BK199.out 8; have hfz53_9 := blk_frozen BK199.out 9) | ((with_reducible refine gate_callee (f := 14) rfl ?_); refine goesL_ (some 30) rfl rfl Tryz.func14 (by kernel_rfl) rfl #[.agg #[.int .u64 a0_0, .bool a0_1, .int .u64 a0_2, .bool a0_3, .int .u64 a0_4, .bool a0_5, .int .u64 a0_6, .bool a0_7, .int .u64 a0_8, .bool a0_9]] rfl (by (try simp only [List.map_toArray, List.map_cons, List.map_nil]); first | done | rfl | (simp only [List.length_drop, List.length_take]; rfl)) ?_; (with_reducible refine (day_Minutes.calls a0_0 a0_1 a0_2 a0_3 a0_4 a0_5 a0_6 a0_7 a0_8 a0_9 t205 t206 _ A7.out).mono ?_); rintro e w54 ⟨rfl, hb⟩; refine ⟨_, rfl, ?_⟩; have n0_ := Aside0.mk (blk_below (g := gb199) (o := .cells #[.int .u64 a0_0, .bool a0_1, .int .u64 a0_2, .bool a0_3, .int .u64 a0_4, .bool a0_5, .int .u64 a0_6, .bool a0_7, .int .u64 a0_8, .bool a0_9] 26 (0, 0)) (by (with_reducible repeat (first | refine blk_drewN ?_ _ | refine blk_drew ?_ | refine blk_alloc ?_ _)); exact BK199.out) hb); have n1_ := Aside0.mk (below_step (by repeat (first | (with_reducible first | exact HB.out | apply below_alloc | apply pw_below_drewN | apply below_drew1 | refine below_set ?_ GE199.out) | exact HB.out)) hb); clear BK199; clear HB; have BK199 := n0_; have HB := n1_; clear n0_ n1_; (try clear hb); (try clear hb2); (try clear hk); (try clear hi)))
    have n0_ := Aside0.mk (blk_drew BK199.out)
    have n1_ := Aside0.mk (below_drew1 HB.out)
    clear BK199
    clear HB
    have BK199 := n0_
    have HB := n1_
    clear n0_ n1_
    refine start_ (n := 8) (S := fun w' => w'.cell? ⟨gb199, 0, none⟩ = some (.int .u64 a0_0) ∧ w'.cell? ⟨gb199, 1, none⟩ = some (.bool a0_1) ∧ w'.cell? ⟨gb199, 2, none⟩ = some (.int .u64 a0_2) ∧ w'.cell? ⟨gb199, 3, none⟩ = some (.bool a0_3) ∧ w'.cell? ⟨gb199, 4, none⟩ = some (.int .u64 a0_4) ∧ w'.cell? ⟨gb199, 5, none⟩ = some (.bool a0_5) ∧ w'.cell? ⟨gb199, 6, none⟩ = some (.int .u64 a0_6) ∧ w'.cell? ⟨gb199, 7, none⟩ = some (.bool a0_7) ∧ w'.cell? ⟨gb199, 8, none⟩ = some (.int .u64 a0_8) ∧ w'.cell? ⟨gb199, 9, none⟩ = some (.bool a0_9)) (ds := []) #[false, false, false, false, false, false, false, false] (by kernel_rfl) rfl rfl ⟨(blk_cell BK199.out 0).trans rfl, (blk_cell BK199.out 1).trans rfl, (blk_cell BK199.out 2).trans rfl, (blk_cell BK199.out 3).trans rfl, (blk_cell BK199.out 4).trans rfl, (blk_cell BK199.out 5).trans rfl, (blk_cell BK199.out 6).trans rfl, (blk_cell BK199.out 7).trans rfl, (blk_cell BK199.out 8).trans rfl, (blk_cell BK199.out 9).trans rfl⟩ (fun hHeld => ?_); refine with_tabW complinelaw21_DayMatches.tab7 complinelaw21_DayMatches.bits7 (fun HT_ HW_ => ?_)
    generalize w54.drew = w55 at BK199 HB hHeld ⊢
    refine pure_ (i := 0) (N := some 33) (v := ?_) (a' := ?_) #[true, false, false, false, false, false, false, false] rfl rfl (any_of HT_.out (by kernel_rfl)) (fun _ _ _ h => h) (Or.inl ⟨by rfl, ?_⟩) ?_ ?_
    rotate_left
    ·intro w'
     go_simp
     with_reducible rfl
    rotate_left
    ·simp only [Act.put, List.setIfInBounds_toArray, List.set_cons_zero, List.set_cons_succ, i64_w, i32_w]
     rfl
    refine pure_ (i := 3) (N := some 36) (v := ?_) (a' := ?_) #[true, false, false, true, false, false, false, false] rfl rfl (any_of HT_.out (by kernel_rfl)) (fun _ _ _ h => h) (Or.inl ⟨by rfl, ?_⟩) ?_ ?_
    rotate_left
    ·intro w'
     go_simp
     with_reducible rfl
    rotate_left
    ·simp only [Act.put, List.setIfInBounds_toArray, List.set_cons_zero, List.set_cons_succ, i64_w, i32_w]
     rfl
    refine take_ (i := 1) (N := some 34) (v := ?_) (a' := ?_) #[true, true, false, true, false, false, false, false] rfl rfl (take_ofW HT_.out HW_.out (by kernel_rfl)) (fun _ _ _ h => h) (Or.inl ⟨by rfl, ?_⟩) hHeld ?_ ?_
    rotate_left
    ·rintro w' ⟨s0, s1, s2, s3, s4, s5, s6, s7, s8, s9⟩
     go_simp
     with_reducible rfl
    rotate_left
    ·simp only [Act.put, List.setIfInBounds_toArray, List.set_cons_zero, List.set_cons_succ, i64_w, i32_w]
     rfl
    refine take_ (i := 4) (N := some 37) (v := ?_) (a' := ?_) #[true, true, false, true, true, false, false, false] rfl rfl (take_ofW HT_.out HW_.out (by kernel_rfl)) (fun _ _ _ h => h) (Or.inl ⟨by rfl, ?_⟩) hHeld ?_ ?_
    rotate_left
    ·rintro w' ⟨s0, s1, s2, s3, s4, s5, s6, s7, s8, s9⟩
     go_simp
     with_reducible rfl
    rotate_left
    ·simp only [Act.put, List.setIfInBounds_toArray, List.set_cons_zero, List.set_cons_succ, i64_w, i32_w]
     rfl
    refine one_ (i := 2) (N := some 35) #[true, true, true, true, true, false, false, false] rfl rfl (one_of HT_.out (by kernel_rfl)) (by decide) (fun K hK => ?_)
    refine goes_ Tryz.func15 (by kernel_rfl) rfl #[.agg #[.int .u64 a0_2, .bool a0_3]] (by rfl) rfl rfl (by (try simp only [List.map_toArray, List.map_cons, List.map_nil]); first | done | rfl | (simp only [List.length_drop, List.length_take]; rfl)) ?_
    with_reducible refine (complineref18_Count.calls k a0_2 a0_3 t207 _ A8.out).mono ?_
    rintro e w56 ⟨rfl, hb⟩
    refine ⟨_, rfl, ?_⟩
    have n0_ := Aside0.mk (blk_below (g := gb199) (o := .cells #[.int .u64 a0_0, .bool a0_1, .int .u64 a0_2, .bool a0_3, .int .u64 a0_4, .bool a0_5, .int .u64 a0_6, .bool a0_7, .int .u64 a0_8, .bool a0_9] 26 (0, 0)) (by (with_reducible repeat (first | refine blk_drewN ?_ _ | refine blk_drew ?_ | refine blk_alloc ?_ _)); exact BK199.out) hb)
    have n1_ := Aside0.mk (below_step (by repeat (first | (with_reducible first | exact HB.out | apply below_alloc | apply pw_below_drewN | apply below_drew1 | refine below_set ?_ GE199.out) | exact HB.out)) hb)
    clear BK199
    clear HB
    have BK199 := n0_
    have HB := n1_
    clear n0_ n1_
    (try clear hb)
    (try clear hb2)
    (try clear hk)
    (try clear hi)
    refine hK.out _ _ ⟨(blk_cell BK199.out 0).trans rfl, (blk_cell BK199.out 1).trans rfl, (blk_cell BK199.out 2).trans rfl, (blk_cell BK199.out 3).trans rfl, (blk_cell BK199.out 4).trans rfl, (blk_cell BK199.out 5).trans rfl, (blk_cell BK199.out 6).trans rfl, (blk_cell BK199.out 7).trans rfl, (blk_cell BK199.out 8).trans rfl, (blk_cell BK199.out 9).trans rfl⟩ (fun hHeld => ?_)
    clear hK K
    refine norm_ (a' := ?_) ?_ ?_
    rotate_left
    ·show Act.put _ (some 35) _ = _
     simp only [Act.put, List.setIfInBounds_toArray, List.set_cons_zero, List.set_cons_succ, i64_w, i32_w]
     rfl
    refine one_ (i := 5) (N := some 38) #[true, true, true, true, true, true, false, false] rfl rfl (one_of HT_.out (by kernel_rfl)) (by decide) (fun K hK => ?_)
    refine goes_ Tryz.func15 (by kernel_rfl) rfl #[.agg #[.int .u64 a0_0, .bool a0_1]] (by rfl) rfl rfl (by (try simp only [List.map_toArray, List.map_cons, List.map_nil]); first | done | rfl | (simp only [List.length_drop, List.length_take]; rfl)) ?_
    with_reducible refine (complineref18_Count.calls k a0_0 a0_1 t208 _ A9.out).mono ?_
    rintro e w57 ⟨rfl, hb⟩
    refine ⟨_, rfl, ?_⟩
    have n0_ := Aside0.mk (blk_below (g := gb199) (o := .cells #[.int .u64 a0_0, .bool a0_1, .int .u64 a0_2, .bool a0_3, .int .u64 a0_4, .bool a0_5, .int .u64 a0_6, .bool a0_7, .int .u64 a0_8, .bool a0_9] 26 (0, 0)) (by (with_reducible repeat (first | refine blk_drewN ?_ _ | refine blk_drew ?_ | refine blk_alloc ?_ _)); exact BK199.out) hb)
    have n1_ := Aside0.mk (below_step (by repeat (first | (with_reducible first | exact HB.out | apply below_alloc | apply pw_below_drewN | apply below_drew1 | refine below_set ?_ GE199.out) | exact HB.out)) hb)
    clear BK199
    clear HB
    have BK199 := n0_
    have HB := n1_
    clear n0_ n1_
    (try clear hb)
    (try clear hb2)
    (try clear hk)
    (try clear hi)
    refine hK.out _ _ ⟨(blk_cell BK199.out 0).trans rfl, (blk_cell BK199.out 1).trans rfl, (blk_cell BK199.out 2).trans rfl, (blk_cell BK199.out 3).trans rfl, (blk_cell BK199.out 4).trans rfl, (blk_cell BK199.out 5).trans rfl, (blk_cell BK199.out 6).trans rfl, (blk_cell BK199.out 7).trans rfl, (blk_cell BK199.out 8).trans rfl, (blk_cell BK199.out 9).trans rfl⟩ (fun hHeld => ?_)
    clear hK K
    refine norm_ (a' := ?_) ?_ ?_
    rotate_left
    ·show Act.put _ (some 38) _ = _
     simp only [Act.put, List.setIfInBounds_toArray, List.set_cons_zero, List.set_cons_succ, i64_w, i32_w]
     rfl
    refine pure_ (i := 6) (N := some 39) (v := ?_) (a' := ?_) #[true, true, true, true, true, true, true, false] rfl rfl (any_of HT_.out (by kernel_rfl)) (fun _ _ _ h => h) (Or.inl ⟨by rfl, ?_⟩) ?_ ?_
    rotate_left
    ·intro w'
     go_simp
     with_reducible rfl
    rotate_left
    ·simp only [Act.put, List.setIfInBounds_toArray, List.set_cons_zero, List.set_cons_succ, i64_w, i32_w]
     rfl
    refine pure_ (i := 7) (N := some 12) (v := ?_) (a' := ?_) #[true, true, true, true, true, true, true, true] rfl rfl (any_of HT_.out (by kernel_rfl)) (fun _ _ _ h => h) (Or.inl ⟨by rfl, ?_⟩) ?_ ?_
    rotate_left
    ·intro w'
     go_simp
     with_reducible rfl
    rotate_left
    ·simp only [Act.put, List.setIfInBounds_toArray, List.set_cons_zero, List.set_cons_succ, i64_w, i32_w]
     rfl
    refine done_ (done_of HT_.out (by kernel_rfl)) ?_
    try go_wp2
    go_ret
    exact ⟨by first | rfl | (simp [errW_none, errW_some] <;> rfl) | (simp [*, errW_none, errW_some] <;> rfl), by repeat (first | (with_reducible first | exact HB.out | apply below_alloc | apply pw_below_drewN | apply below_drew1 | refine below_set ?_ GE199.out) | exact HB.out)⟩
  ·rw [if_neg c10] at H
   have c10b0 : (t206 == 0) = false := beq_eq_false_iff_ne.mpr c10
   have c10b1 : (t206 != 0) = true := bne_iff_ne.mpr c10
   by_cases c58 : (t201 == t203) = true
   ·rw [if_pos c58] at H
    have c58b0 : (t201 == t203) = true := c58
    (try (have c58b1 : decide (t201 = t203) = true := by simpa using c58))
    (try (have c58b2 : (t201 == t203) = true := by simpa using c58))
    clear c58
    by_cases c59 : t202 = t204
    ·rw [if_pos c59] at H
     have c59b0 : (t202 == t204) = true := beq_iff_eq.mpr c59
     have c59b1 : (t202 != t204) = false := bne_eq_false_iff_eq.mpr c59
     clear c59
     by_cases c60 : t205 = 0
     ·rw [if_pos c60] at H
      have c60b0 : (t205 == 0) = true := beq_iff_eq.mpr c60
      have c60b1 : (t205 != 0) = false := bne_eq_false_iff_eq.mpr c60
      clear c60
      by_cases c61 : t202 = 2
      ·rw [if_pos c61] at H
       have c61b0 : (t202 == 2) = true := beq_iff_eq.mpr c61
       have c61b1 : (t202 != 2) = false := bne_eq_false_iff_eq.mpr c61
       clear c61
       obtain rfl := Option.some.inj H
       go_enter Tryz.func4, Tryz.ntmps4
       try go_wp2_with (first | ((with_reducible refine gate_dst (N := 2) rfl ?_); refine box_event ?hg (N := 2) ?hd (cs := #[.int .u64 a0_0, .bool a0_1, .int .u64 a0_2, .bool a0_3, .int .u64 a0_4, .bool a0_5, .int .u64 a0_6, .bool a0_7, .int .u64 a0_8, .bool a0_9]) (t := 26) ?hr ?_; (case hd => rfl); (case hg => rfl); (case hr => first | (go_simp; done) | (go_simp; rfl)); intro gb199 hg w62 hbox hb; have n0_ := Aside0.mk (below_step (by repeat (first | (with_reducible first | exact HB.out | apply below_alloc | apply pw_below_drewN | apply below_drew1) | exact HB.out)) hb); have n1_ := Aside0.mk (hbox); have n2_ := Aside0.mk ((by rw [hg]; exact (below_size (by repeat (first | (with_reducible first | exact HB.out | apply below_alloc | apply pw_below_drewN | apply below_drew1) | exact HB.out))) : w.heap.size ≤ gb199)); have n3_ := Aside0.mk ((by rw [hg]; exact (below_size (by repeat (first | (with_reducible first | exact HB.out | apply below_alloc | apply pw_below_drewN | apply below_drew1) | exact HB.out))) : w.heap.size ≤ gb199)); clear HB; have HB := n0_; have BK199 := n1_; have GW199 := n2_; have GE199 := n3_; clear n0_ n1_ n2_ n3_; clear hb hbox hg) | ((with_reducible refine gate_callee (f := 9) rfl ?_); refine goesL_ (some 13) rfl rfl Tryz.func9 (by kernel_rfl) rfl #[] rfl (by (try simp only [List.map_toArray, List.map_cons, List.map_nil]); first | done | rfl | (simp only [List.length_drop, List.length_take]; rfl)) ?_; (with_reducible refine (complinelaw21_works.calls  true _ (hT.keep (by repeat (first | (with_reducible first | exact HB.out | apply below_alloc | apply pw_below_drewN | apply below_drew1 | refine below_set ?_ GE199.out) | exact HB.out))) A3.out).mono ?_); rintro e w63 ⟨rfl, hb⟩; refine ⟨_, rfl, ?_⟩; have n0_ := Aside0.mk (blk_below (g := gb199) (o := .cells #[.int .u64 a0_0, .bool a0_1, .int .u64 a0_2, .bool a0_3, .int .u64 a0_4, .bool a0_5, .int .u64 a0_6, .bool a0_7, .int .u64 a0_8, .bool a0_9] 26 (0, 0)) (by (with_reducible repeat (first | refine blk_drewN ?_ _ | refine blk_drew ?_ | refine blk_alloc ?_ _)); exact BK199.out) hb); have n1_ := Aside0.mk (below_step (by repeat (first | (with_reducible first | exact HB.out | apply below_alloc | apply pw_below_drewN | apply below_drew1 | refine below_set ?_ GE199.out) | exact HB.out)) hb); clear BK199; clear HB; have BK199 := n0_; have HB := n1_; clear n0_ n1_; (try clear hb); (try clear hb2); (try clear hk); (try clear hi); have hcz64_0 : w63.cell? ⟨gb199, 0, none⟩ = some (.int .u64 a0_0) := (blk_cell BK199.out 0).trans rfl; have hcz64_1 : w63.cell? ⟨gb199, 1, none⟩ = some (.bool a0_1) := (blk_cell BK199.out 1).trans rfl; have hcz64_2 : w63.cell? ⟨gb199, 2, none⟩ = some (.int .u64 a0_2) := (blk_cell BK199.out 2).trans rfl; have hcz64_3 : w63.cell? ⟨gb199, 3, none⟩ = some (.bool a0_3) := (blk_cell BK199.out 3).trans rfl; have hcz64_4 : w63.cell? ⟨gb199, 4, none⟩ = some (.int .u64 a0_4) := (blk_cell BK199.out 4).trans rfl; have hcz64_5 : w63.cell? ⟨gb199, 5, none⟩ = some (.bool a0_5) := (blk_cell BK199.out 5).trans rfl; have hcz64_6 : w63.cell? ⟨gb199, 6, none⟩ = some (.int .u64 a0_6) := (blk_cell BK199.out 6).trans rfl; have hcz64_7 : w63.cell? ⟨gb199, 7, none⟩ = some (.bool a0_7) := (blk_cell BK199.out 7).trans rfl; have hcz64_8 : w63.cell? ⟨gb199, 8, none⟩ = some (.int .u64 a0_8) := (blk_cell BK199.out 8).trans rfl; have hcz64_9 : w63.cell? ⟨gb199, 9, none⟩ = some (.bool a0_9) := (blk_cell BK199.out 9).trans rfl; have hfz64_0 := blk_frozen BK199.out 0; have hfz64_1 := blk_frozen BK199.out 1; have hfz64_2 := blk_frozen BK199.out 2; have hfz64_3 := blk_frozen BK199.out 3; have hfz64_4 := blk_frozen BK199.out 4; have hfz64_5 := blk_frozen BK199.out 5; have hfz64_6 := blk_frozen BK199.out 6; have hfz64_7 := blk_frozen BK199.out 7; have hfz64_8 := blk_frozen BK199.out 8; have hfz64_9 := blk_frozen BK199.out 9) | ((with_reducible refine gate_callee (f := 12) rfl ?_); refine goesL_ (some 19) rfl rfl Tryz.func12 (by kernel_rfl) rfl #[.agg #[.int .u64 a0_0, .bool a0_1, .int .u64 a0_2, .bool a0_3, .int .u64 a0_4, .bool a0_5, .int .u64 a0_6, .bool a0_7, .int .u64 a0_8, .bool a0_9], .int .i64 a1] rfl (by (try simp only [List.map_toArray, List.map_cons, List.map_nil]); first | done | rfl | (simp only [List.length_drop, List.length_take]; rfl)) ?_; (with_reducible refine (day_Match.calls a0_0 a0_1 a0_2 a0_3 a0_4 a0_5 a0_6 a0_7 a0_8 a0_9 a1 t201 t202 _ A5.out).mono ?_); rintro e w65 ⟨rfl, hb⟩; refine ⟨_, rfl, ?_⟩; have n0_ := Aside0.mk (blk_below (g := gb199) (o := .cells #[.int .u64 a0_0, .bool a0_1, .int .u64 a0_2, .bool a0_3, .int .u64 a0_4, .bool a0_5, .int .u64 a0_6, .bool a0_7, .int .u64 a0_8, .bool a0_9] 26 (0, 0)) (by (with_reducible repeat (first | refine blk_drewN ?_ _ | refine blk_drew ?_ | refine blk_alloc ?_ _)); exact BK199.out) hb); have n1_ := Aside0.mk (below_step (by repeat (first | (with_reducible first | exact HB.out | apply below_alloc | apply pw_below_drewN | apply below_drew1 | refine below_set ?_ GE199.out) | exact HB.out)) hb); clear BK199; clear HB; have BK199 := n0_; have HB := n1_; clear n0_ n1_; (try clear hb); (try clear hb2); (try clear hk); (try clear hi); have hcz66_0 : w65.cell? ⟨gb199, 0, none⟩ = some (.int .u64 a0_0) := (blk_cell BK199.out 0).trans rfl; have hcz66_1 : w65.cell? ⟨gb199, 1, none⟩ = some (.bool a0_1) := (blk_cell BK199.out 1).trans rfl; have hcz66_2 : w65.cell? ⟨gb199, 2, none⟩ = some (.int .u64 a0_2) := (blk_cell BK199.out 2).trans rfl; have hcz66_3 : w65.cell? ⟨gb199, 3, none⟩ = some (.bool a0_3) := (blk_cell BK199.out 3).trans rfl; have hcz66_4 : w65.cell? ⟨gb199, 4, none⟩ = some (.int .u64 a0_4) := (blk_cell BK199.out 4).trans rfl; have hcz66_5 : w65.cell? ⟨gb199, 5, none⟩ = some (.bool a0_5) := (blk_cell BK199.out 5).trans rfl; have hcz66_6 : w65.cell? ⟨gb199, 6, none⟩ = some (.int .u64 a0_6) := (blk_cell BK199.out 6).trans rfl; have hcz66_7 : w65.cell? ⟨gb199, 7, none⟩ = some (.bool a0_7) := (blk_cell BK199.out 7).trans rfl; have hcz66_8 : w65.cell? ⟨gb199, 8, none⟩ = some (.int .u64 a0_8) := (blk_cell BK199.out 8).trans rfl; have hcz66_9 : w65.cell? ⟨gb199, 9, none⟩ = some (.bool a0_9) := (blk_cell BK199.out 9).trans rfl; have hfz66_0 := blk_frozen BK199.out 0; have hfz66_1 := blk_frozen BK199.out 1; have hfz66_2 := blk_frozen BK199.out 2; have hfz66_3 := blk_frozen BK199.out 3; have hfz66_4 := blk_frozen BK199.out 4; have hfz66_5 := blk_frozen BK199.out 5; have hfz66_6 := blk_frozen BK199.out 6; have hfz66_7 := blk_frozen BK199.out 7; have hfz66_8 := blk_frozen BK199.out 8; have hfz66_9 := blk_frozen BK199.out 9) | ((with_reducible refine gate_callee (f := 13) rfl ?_); refine goesL_ (some 25) rfl rfl Tryz.func13 (by kernel_rfl) rfl #[.agg #[.int .u64 a0_0, .bool a0_1, .int .u64 a0_2, .bool a0_3, .int .u64 a0_4, .bool a0_5, .int .u64 a0_6, .bool a0_7, .int .u64 a0_8, .bool a0_9], .int .i64 a1] rfl (by (try simp only [List.map_toArray, List.map_cons, List.map_nil]); first | done | rfl | (simp only [List.length_drop, List.length_take]; rfl)) ?_; (with_reducible refine (complineref21_Match.calls k a0_0 a0_1 a0_2 a0_3 a0_4 a0_5 a0_6 a0_7 a0_8 a0_9 a1 t203 t204 _ A6.out).mono ?_); rintro e w67 ⟨rfl, hb⟩; refine ⟨_, rfl, ?_⟩; have n0_ := Aside0.mk (blk_below (g := gb199) (o := .cells #[.int .u64 a0_0, .bool a0_1, .int .u64 a0_2, .bool a0_3, .int .u64 a0_4, .bool a0_5, .int .u64 a0_6, .bool a0_7, .int .u64 a0_8, .bool a0_9] 26 (0, 0)) (by (with_reducible repeat (first | refine blk_drewN ?_ _ | refine blk_drew ?_ | refine blk_alloc ?_ _)); exact BK199.out) hb); have n1_ := Aside0.mk (below_step (by repeat (first | (with_reducible first | exact HB.out | apply below_alloc | apply pw_below_drewN | apply below_drew1 | refine below_set ?_ GE199.out) | exact HB.out)) hb); clear BK199; clear HB; have BK199 := n0_; have HB := n1_; clear n0_ n1_; (try clear hb); (try clear hb2); (try clear hk); (try clear hi); have hcz68_0 : w67.cell? ⟨gb199, 0, none⟩ = some (.int .u64 a0_0) := (blk_cell BK199.out 0).trans rfl; have hcz68_1 : w67.cell? ⟨gb199, 1, none⟩ = some (.bool a0_1) := (blk_cell BK199.out 1).trans rfl; have hcz68_2 : w67.cell? ⟨gb199, 2, none⟩ = some (.int .u64 a0_2) := (blk_cell BK199.out 2).trans rfl; have hcz68_3 : w67.cell? ⟨gb199, 3, none⟩ = some (.bool a0_3) := (blk_cell BK199.out 3).trans rfl; have hcz68_4 : w67.cell? ⟨gb199, 4, none⟩ = some (.int .u64 a0_4) := (blk_cell BK199.out 4).trans rfl; have hcz68_5 : w67.cell? ⟨gb199, 5, none⟩ = some (.bool a0_5) := (blk_cell BK199.out 5).trans rfl; have hcz68_6 : w67.cell? ⟨gb199, 6, none⟩ = some (.int .u64 a0_6) := (blk_cell BK199.out 6).trans rfl; have hcz68_7 : w67.cell? ⟨gb199, 7, none⟩ = some (.bool a0_7) := (blk_cell BK199.out 7).trans rfl; have hcz68_8 : w67.cell? ⟨gb199, 8, none⟩ = some (.int .u64 a0_8) := (blk_cell BK199.out 8).trans rfl; have hcz68_9 : w67.cell? ⟨gb199, 9, none⟩ = some (.bool a0_9) := (blk_cell BK199.out 9).trans rfl; have hfz68_0 := blk_frozen BK199.out 0; have hfz68_1 := blk_frozen BK199.out 1; have hfz68_2 := blk_frozen BK199.out 2; have hfz68_3 := blk_frozen BK199.out 3; have hfz68_4 := blk_frozen BK199.out 4; have hfz68_5 := blk_frozen BK199.out 5; have hfz68_6 := blk_frozen BK199.out 6; have hfz68_7 := blk_frozen BK199.out 7; have hfz68_8 := blk_frozen BK199.out 8; have hfz68_9 := blk_frozen BK199.out 9) | ((with_reducible refine gate_callee (f := 14) rfl ?_); refine goesL_ (some 30) rfl rfl Tryz.func14 (by kernel_rfl) rfl #[.agg #[.int .u64 a0_0, .bool a0_1, .int .u64 a0_2, .bool a0_3, .int .u64 a0_4, .bool a0_5, .int .u64 a0_6, .bool a0_7, .int .u64 a0_8, .bool a0_9]] rfl (by (try simp only [List.map_toArray, List.map_cons, List.map_nil]); first | done | rfl | (simp only [List.length_drop, List.length_take]; rfl)) ?_; (with_reducible refine (day_Minutes.calls a0_0 a0_1 a0_2 a0_3 a0_4 a0_5 a0_6 a0_7 a0_8 a0_9 t205 t206 _ A7.out).mono ?_); rintro e w69 ⟨rfl, hb⟩; refine ⟨_, rfl, ?_⟩; have n0_ := Aside0.mk (blk_below (g := gb199) (o := .cells #[.int .u64 a0_0, .bool a0_1, .int .u64 a0_2, .bool a0_3, .int .u64 a0_4, .bool a0_5, .int .u64 a0_6, .bool a0_7, .int .u64 a0_8, .bool a0_9] 26 (0, 0)) (by (with_reducible repeat (first | refine blk_drewN ?_ _ | refine blk_drew ?_ | refine blk_alloc ?_ _)); exact BK199.out) hb); have n1_ := Aside0.mk (below_step (by repeat (first | (with_reducible first | exact HB.out | apply below_alloc | apply pw_below_drewN | apply below_drew1 | refine below_set ?_ GE199.out) | exact HB.out)) hb); clear BK199; clear HB; have BK199 := n0_; have HB := n1_; clear n0_ n1_; (try clear hb); (try clear hb2); (try clear hk); (try clear hi)))
       have n0_ := Aside0.mk (blk_drew BK199.out)
       have n1_ := Aside0.mk (below_drew1 HB.out)
       clear BK199
       clear HB
       have BK199 := n0_
       have HB := n1_
       clear n0_ n1_
       refine start_ (n := 8) (S := fun w' => w'.cell? ⟨gb199, 0, none⟩ = some (.int .u64 a0_0) ∧ w'.cell? ⟨gb199, 1, none⟩ = some (.bool a0_1) ∧ w'.cell? ⟨gb199, 2, none⟩ = some (.int .u64 a0_2) ∧ w'.cell? ⟨gb199, 3, none⟩ = some (.bool a0_3) ∧ w'.cell? ⟨gb199, 4, none⟩ = some (.int .u64 a0_4) ∧ w'.cell? ⟨gb199, 5, none⟩ = some (.bool a0_5) ∧ w'.cell? ⟨gb199, 6, none⟩ = some (.int .u64 a0_6) ∧ w'.cell? ⟨gb199, 7, none⟩ = some (.bool a0_7) ∧ w'.cell? ⟨gb199, 8, none⟩ = some (.int .u64 a0_8) ∧ w'.cell? ⟨gb199, 9, none⟩ = some (.bool a0_9)) (ds := []) #[false, false, false, false, false, false, false, false] (by kernel_rfl) rfl rfl ⟨(blk_cell BK199.out 0).trans rfl, (blk_cell BK199.out 1).trans rfl, (blk_cell BK199.out 2).trans rfl, (blk_cell BK199.out 3).trans rfl, (blk_cell BK199.out 4).trans rfl, (blk_cell BK199.out 5).trans rfl, (blk_cell BK199.out 6).trans rfl, (blk_cell BK199.out 7).trans rfl, (blk_cell BK199.out 8).trans rfl, (blk_cell BK199.out 9).trans rfl⟩ (fun hHeld => ?_); refine with_tabW complinelaw21_DayMatches.tab7 complinelaw21_DayMatches.bits7 (fun HT_ HW_ => ?_)
       generalize w69.drew = w70 at BK199 HB hHeld ⊢
       refine pure_ (i := 0) (N := some 33) (v := ?_) (a' := ?_) #[true, false, false, false, false, false, false, false] rfl rfl (any_of HT_.out (by kernel_rfl)) (fun _ _ _ h => h) (Or.inl ⟨by rfl, ?_⟩) ?_ ?_
       rotate_left
       ·intro w'
        go_simp
        with_reducible rfl
       rotate_left
       ·simp only [Act.put, List.setIfInBounds_toArray, List.set_cons_zero, List.set_cons_succ, i64_w, i32_w]
        rfl
       refine pure_ (i := 3) (N := some 36) (v := ?_) (a' := ?_) #[true, false, false, true, false, false, false, false] rfl rfl (any_of HT_.out (by kernel_rfl)) (fun _ _ _ h => h) (Or.inl ⟨by rfl, ?_⟩) ?_ ?_
       rotate_left
       ·intro w'
        go_simp
        with_reducible rfl
       rotate_left
       ·simp only [Act.put, List.setIfInBounds_toArray, List.set_cons_zero, List.set_cons_succ, i64_w, i32_w]
        rfl
       refine take_ (i := 1) (N := some 34) (v := ?_) (a' := ?_) #[true, true, false, true, false, false, false, false] rfl rfl (take_ofW HT_.out HW_.out (by kernel_rfl)) (fun _ _ _ h => h) (Or.inl ⟨by rfl, ?_⟩) hHeld ?_ ?_
       rotate_left
       ·rintro w' ⟨s0, s1, s2, s3, s4, s5, s6, s7, s8, s9⟩
        go_simp
        with_reducible rfl
       rotate_left
       ·simp only [Act.put, List.setIfInBounds_toArray, List.set_cons_zero, List.set_cons_succ, i64_w, i32_w]
        rfl
       refine take_ (i := 4) (N := some 37) (v := ?_) (a' := ?_) #[true, true, false, true, true, false, false, false] rfl rfl (take_ofW HT_.out HW_.out (by kernel_rfl)) (fun _ _ _ h => h) (Or.inl ⟨by rfl, ?_⟩) hHeld ?_ ?_
       rotate_left
       ·rintro w' ⟨s0, s1, s2, s3, s4, s5, s6, s7, s8, s9⟩
        go_simp
        with_reducible rfl
       rotate_left
       ·simp only [Act.put, List.setIfInBounds_toArray, List.set_cons_zero, List.set_cons_succ, i64_w, i32_w]
        rfl
       refine one_ (i := 2) (N := some 35) #[true, true, true, true, true, false, false, false] rfl rfl (one_of HT_.out (by kernel_rfl)) (by decide) (fun K hK => ?_)
       refine goes_ Tryz.func15 (by kernel_rfl) rfl #[.agg #[.int .u64 a0_2, .bool a0_3]] (by rfl) rfl rfl (by (try simp only [List.map_toArray, List.map_cons, List.map_nil]); first | done | rfl | (simp only [List.length_drop, List.length_take]; rfl)) ?_
       with_reducible refine (complineref18_Count.calls k a0_2 a0_3 t207 _ A8.out).mono ?_
       rintro e w71 ⟨rfl, hb⟩
       refine ⟨_, rfl, ?_⟩
       have n0_ := Aside0.mk (blk_below (g := gb199) (o := .cells #[.int .u64 a0_0, .bool a0_1, .int .u64 a0_2, .bool a0_3, .int .u64 a0_4, .bool a0_5, .int .u64 a0_6, .bool a0_7, .int .u64 a0_8, .bool a0_9] 26 (0, 0)) (by (with_reducible repeat (first | refine blk_drewN ?_ _ | refine blk_drew ?_ | refine blk_alloc ?_ _)); exact BK199.out) hb)
       have n1_ := Aside0.mk (below_step (by repeat (first | (with_reducible first | exact HB.out | apply below_alloc | apply pw_below_drewN | apply below_drew1 | refine below_set ?_ GE199.out) | exact HB.out)) hb)
       clear BK199
       clear HB
       have BK199 := n0_
       have HB := n1_
       clear n0_ n1_
       (try clear hb)
       (try clear hb2)
       (try clear hk)
       (try clear hi)
       refine hK.out _ _ ⟨(blk_cell BK199.out 0).trans rfl, (blk_cell BK199.out 1).trans rfl, (blk_cell BK199.out 2).trans rfl, (blk_cell BK199.out 3).trans rfl, (blk_cell BK199.out 4).trans rfl, (blk_cell BK199.out 5).trans rfl, (blk_cell BK199.out 6).trans rfl, (blk_cell BK199.out 7).trans rfl, (blk_cell BK199.out 8).trans rfl, (blk_cell BK199.out 9).trans rfl⟩ (fun hHeld => ?_)
       clear hK K
       refine norm_ (a' := ?_) ?_ ?_
       rotate_left
       ·show Act.put _ (some 35) _ = _
        simp only [Act.put, List.setIfInBounds_toArray, List.set_cons_zero, List.set_cons_succ, i64_w, i32_w]
        rfl
       refine one_ (i := 5) (N := some 38) #[true, true, true, true, true, true, false, false] rfl rfl (one_of HT_.out (by kernel_rfl)) (by decide) (fun K hK => ?_)
       refine goes_ Tryz.func15 (by kernel_rfl) rfl #[.agg #[.int .u64 a0_0, .bool a0_1]] (by rfl) rfl rfl (by (try simp only [List.map_toArray, List.map_cons, List.map_nil]); first | done | rfl | (simp only [List.length_drop, List.length_take]; rfl)) ?_
       with_reducible refine (complineref18_Count.calls k a0_0 a0_1 t208 _ A9.out).mono ?_
       rintro e w72 ⟨rfl, hb⟩
       refine ⟨_, rfl, ?_⟩
       have n0_ := Aside0.mk (blk_below (g := gb199) (o := .cells #[.int .u64 a0_0, .bool a0_1, .int .u64 a0_2, .bool a0_3, .int .u64 a0_4, .bool a0_5, .int .u64 a0_6, .bool a0_7, .int .u64 a0_8, .bool a0_9] 26 (0, 0)) (by (with_reducible repeat (first | refine blk_drewN ?_ _ | refine blk_drew ?_ | refine blk_alloc ?_ _)); exact BK199.out) hb)
       have n1_ := Aside0.mk (below_step (by repeat (first | (with_reducible first | exact HB.out | apply below_alloc | apply pw_below_drewN | apply below_drew1 | refine below_set ?_ GE199.out) | exact HB.out)) hb)
       clear BK199
       clear HB
       have BK199 := n0_
       have HB := n1_
       clear n0_ n1_
       (try clear hb)
       (try clear hb2)
       (try clear hk)
       (try clear hi)
       refine hK.out _ _ ⟨(blk_cell BK199.out 0).trans rfl, (blk_cell BK199.out 1).trans rfl, (blk_cell BK199.out 2).trans rfl, (blk_cell BK199.out 3).trans rfl, (blk_cell BK199.out 4).trans rfl, (blk_cell BK199.out 5).trans rfl, (blk_cell BK199.out 6).trans rfl, (blk_cell BK199.out 7).trans rfl, (blk_cell BK199.out 8).trans rfl, (blk_cell BK199.out 9).trans rfl⟩ (fun hHeld => ?_)
       clear hK K
       refine norm_ (a' := ?_) ?_ ?_
       rotate_left
       ·show Act.put _ (some 38) _ = _
        simp only [Act.put, List.setIfInBounds_toArray, List.set_cons_zero, List.set_cons_succ, i64_w, i32_w]
        rfl
       refine pure_ (i := 6) (N := some 39) (v := ?_) (a' := ?_) #[true, true, true, true, true, true, true, false] rfl rfl (any_of HT_.out (by kernel_rfl)) (fun _ _ _ h => h) (Or.inl ⟨by rfl, ?_⟩) ?_ ?_
       rotate_left
       ·intro w'
        go_simp
        with_reducible rfl
       rotate_left
       ·simp only [Act.put, List.setIfInBounds_toArray, List.set_cons_zero, List.set_cons_succ, i64_w, i32_w]
        rfl
       refine pure_ (i := 7) (N := some 12) (v := ?_) (a' := ?_) #[true, true, true, true, true, true, true, true] rfl rfl (any_of HT_.out (by kernel_rfl)) (fun _ _ _ h => h) (Or.inl ⟨by rfl, ?_⟩) ?_ ?_
       rotate_left
       ·intro w'
        go_simp
        with_reducible rfl
       rotate_left
       ·simp only [Act.put, List.setIfInBounds_toArray, List.set_cons_zero, List.set_cons_succ, i64_w, i32_w]
        rfl
       refine done_ (done_of HT_.out (by kernel_rfl)) ?_
       try go_wp2
       go_ret
       exact ⟨by first | rfl | (simp [errW_none, errW_some] <;> rfl) | (simp [*, errW_none, errW_some] <;> rfl), by repeat (first | (with_reducible first | exact HB.out | apply below_alloc | apply pw_below_drewN | apply below_drew1 | refine below_set ?_ GE199.out) | exact HB.out)⟩
      ·rw [if_neg c61] at H
       have c61b0 : (t202 == 2) = false := beq_eq_false_iff_ne.mpr c61
       have c61b1 : (t202 != 2) = true := bne_iff_ne.mpr c61
       obtain rfl := Option.some.inj H
       go_enter Tryz.func4, Tryz.ntmps4
       try go_wp2_with (first | ((with_reducible refine gate_dst (N := 2) rfl ?_); refine box_event ?hg (N := 2) ?hd (cs := #[.int .u64 a0_0, .bool a0_1, .int .u64 a0_2, .bool a0_3, .int .u64 a0_4, .bool a0_5, .int .u64 a0_6, .bool a0_7, .int .u64 a0_8, .bool a0_9]) (t := 26) ?hr ?_; (case hd => rfl); (case hg => rfl); (case hr => first | (go_simp; done) | (go_simp; rfl)); intro gb199 hg w73 hbox hb; have n0_ := Aside0.mk (below_step (by repeat (first | (with_reducible first | exact HB.out | apply below_alloc | apply pw_below_drewN | apply below_drew1) | exact HB.out)) hb); have n1_ := Aside0.mk (hbox); have n2_ := Aside0.mk ((by rw [hg]; exact (below_size (by repeat (first | (with_reducible first | exact HB.out | apply below_alloc | apply pw_below_drewN | apply below_drew1) | exact HB.out))) : w.heap.size ≤ gb199)); have n3_ := Aside0.mk ((by rw [hg]; exact (below_size (by repeat (first | (with_reducible first | exact HB.out | apply below_alloc | apply pw_below_drewN | apply below_drew1) | exact HB.out))) : w.heap.size ≤ gb199)); clear HB; have HB := n0_; have BK199 := n1_; have GW199 := n2_; have GE199 := n3_; clear n0_ n1_ n2_ n3_; clear hb hbox hg) | ((with_reducible refine gate_callee (f := 9) rfl ?_); refine goesL_ (some 13) rfl rfl Tryz.func9 (by kernel_rfl) rfl #[] rfl (by (try simp only [List.map_toArray, List.map_cons, List.map_nil]); first | done | rfl | (simp only [List.length_drop, List.length_take]; rfl)) ?_; (with_reducible refine (complinelaw21_works.calls  true _ (hT.keep (by repeat (first | (with_reducible first | exact HB.out | apply below_alloc | apply pw_below_drewN | apply below_drew1 | refine below_set ?_ GE199.out) | exact HB.out))) A3.out).mono ?_); rintro e w74 ⟨rfl, hb⟩; refine ⟨_, rfl, ?_⟩; have n0_ := Aside0.mk (blk_below (g := gb199) (o := .cells #[.int .u64 a0_0, .bool a0_1, .int .u64 a0_2, .bool a0_3, .int .u64 a0_4, .bool a0_5, .int .u64 a0_6, .bool a0_7, .int .u64 a0_8, .bool a0_9] 26 (0, 0)) (by (with_reducible repeat (first | refine blk_drewN ?_ _ | refine blk_drew ?_ | refine blk_alloc ?_ _)); exact BK199.out) hb); have n1_ := Aside0.mk (below_step (by repeat (first | (with_reducible first | exact HB.out | apply below_alloc | apply pw_below_drewN | apply below_drew1 | refine below_set ?_ GE199.out) | exact HB.out)) hb); clear BK199; clear HB; have BK199 := n0_; have HB := n1_; clear n0_ n1_; (try clear hb); (try clear hb2); (try clear hk); (try clear hi); have hcz75_0 : w74.cell? ⟨gb199, 0, none⟩ = some (.int .u64 a0_0) := (blk_cell BK199.out 0).trans rfl; have hcz75_1 : w74.cell? ⟨gb199, 1, none⟩ = some (.bool a0_1) := (blk_cell BK199.out 1).trans rfl; have hcz75_2 : w74.cell? ⟨gb199, 2, none⟩ = some (.int .u64 a0_2) := (blk_cell BK199.out 2).trans rfl; have hcz75_3 : w74.cell? ⟨gb199, 3, none⟩ = some (.bool a0_3) := (blk_cell BK199.out 3).trans rfl; have hcz75_4 : w74.cell? ⟨gb199, 4, none⟩ = some (.int .u64 a0_4) := (blk_cell BK199.out 4).trans rfl; have hcz75_5 : w74.cell? ⟨gb199, 5, none⟩ = some (.bool a0_5) := (blk_cell BK199.out 5).trans rfl; have hcz75_6 : w74.cell? ⟨gb199, 6, none⟩ = some (.int .u64 a0_6) := (blk_cell BK199.out 6).trans rfl; have hcz75_7 : w74.cell? ⟨gb199, 7, none⟩ = some (.bool a0_7) := (blk_cell BK199.out 7).trans rfl; have hcz75_8 : w74.cell? ⟨gb199, 8, none⟩ = some (.int .u64 a0_8) := (blk_cell BK199.out 8).trans rfl; have hcz75_9 : w74.cell? ⟨gb199, 9, none⟩ = some (.bool a0_9) := (blk_cell BK199.out 9).trans rfl; have hfz75_0 := blk_frozen BK199.out 0; have hfz75_1 := blk_frozen BK199.out 1; have hfz75_2 := blk_frozen BK199.out 2; have hfz75_3 := blk_frozen BK199.out 3; have hfz75_4 := blk_frozen BK199.out 4; have hfz75_5 := blk_frozen BK199.out 5; have hfz75_6 := blk_frozen BK199.out 6; have hfz75_7 := blk_frozen BK199.out 7; have hfz75_8 := blk_frozen BK199.out 8; have hfz75_9 := blk_frozen BK199.out 9) | ((with_reducible refine gate_callee (f := 12) rfl ?_); refine goesL_ (some 19) rfl rfl Tryz.func12 (by kernel_rfl) rfl #[.agg #[.int .u64 a0_0, .bool a0_1, .int .u64 a0_2, .bool a0_3, .int .u64 a0_4, .bool a0_5, .int .u64 a0_6, .bool a0_7, .int .u64 a0_8, .bool a0_9], .int .i64 a1] rfl (by (try simp only [List.map_toArray, List.map_cons, List.map_nil]); first | done | rfl | (simp only [List.length_drop, List.length_take]; rfl)) ?_; (with_reducible refine (day_Match.calls a0_0 a0_1 a0_2 a0_3 a0_4 a0_5 a0_6 a0_7 a0_8 a0_9 a1 t201 t202 _ A5.out).mono ?_); rintro e w76 ⟨rfl, hb⟩; refine ⟨_, rfl, ?_⟩; have n0_ := Aside0.mk (blk_below (g := gb199) (o := .cells #[.int .u64 a0_0, .bool a0_1, .int .u64 a0_2, .bool a0_3, .int .u64 a0_4, .bool a0_5, .int .u64 a0_6, .bool a0_7, .int .u64 a0_8, .bool a0_9] 26 (0, 0)) (by (with_reducible repeat (first | refine blk_drewN ?_ _ | refine blk_drew ?_ | refine blk_alloc ?_ _)); exact BK199.out) hb); have n1_ := Aside0.mk (below_step (by repeat (first | (with_reducible first | exact HB.out | apply below_alloc | apply pw_below_drewN | apply below_drew1 | refine below_set ?_ GE199.out) | exact HB.out)) hb); clear BK199; clear HB; have BK199 := n0_; have HB := n1_; clear n0_ n1_; (try clear hb); (try clear hb2); (try clear hk); (try clear hi); have hcz77_0 : w76.cell? ⟨gb199, 0, none⟩ = some (.int .u64 a0_0) := (blk_cell BK199.out 0).trans rfl; have hcz77_1 : w76.cell? ⟨gb199, 1, none⟩ = some (.bool a0_1) := (blk_cell BK199.out 1).trans rfl; have hcz77_2 : w76.cell? ⟨gb199, 2, none⟩ = some (.int .u64 a0_2) := (blk_cell BK199.out 2).trans rfl; have hcz77_3 : w76.cell? ⟨gb199, 3, none⟩ = some (.bool a0_3) := (blk_cell BK199.out 3).trans rfl; have hcz77_4 : w76.cell? ⟨gb199, 4, none⟩ = some (.int .u64 a0_4) := (blk_cell BK199.out 4).trans rfl; have hcz77_5 : w76.cell? ⟨gb199, 5, none⟩ = some (.bool a0_5) := (blk_cell BK199.out 5).trans rfl; have hcz77_6 : w76.cell? ⟨gb199, 6, none⟩ = some (.int .u64 a0_6) := (blk_cell BK199.out 6).trans rfl; have hcz77_7 : w76.cell? ⟨gb199, 7, none⟩ = some (.bool a0_7) := (blk_cell BK199.out 7).trans rfl; have hcz77_8 : w76.cell? ⟨gb199, 8, none⟩ = some (.int .u64 a0_8) := (blk_cell BK199.out 8).trans rfl; have hcz77_9 : w76.cell? ⟨gb199, 9, none⟩ = some (.bool a0_9) := (blk_cell BK199.out 9).trans rfl; have hfz77_0 := blk_frozen BK199.out 0; have hfz77_1 := blk_frozen BK199.out 1; have hfz77_2 := blk_frozen BK199.out 2; have hfz77_3 := blk_frozen BK199.out 3; have hfz77_4 := blk_frozen BK199.out 4; have hfz77_5 := blk_frozen BK199.out 5; have hfz77_6 := blk_frozen BK199.out 6; have hfz77_7 := blk_frozen BK199.out 7; have hfz77_8 := blk_frozen BK199.out 8; have hfz77_9 := blk_frozen BK199.out 9) | ((with_reducible refine gate_callee (f := 13) rfl ?_); refine goesL_ (some 25) rfl rfl Tryz.func13 (by kernel_rfl) rfl #[.agg #[.int .u64 a0_0, .bool a0_1, .int .u64 a0_2, .bool a0_3, .int .u64 a0_4, .bool a0_5, .int .u64 a0_6, .bool a0_7, .int .u64 a0_8, .bool a0_9], .int .i64 a1] rfl (by (try simp only [List.map_toArray, List.map_cons, List.map_nil]); first | done | rfl | (simp only [List.length_drop, List.length_take]; rfl)) ?_; (with_reducible refine (complineref21_Match.calls k a0_0 a0_1 a0_2 a0_3 a0_4 a0_5 a0_6 a0_7 a0_8 a0_9 a1 t203 t204 _ A6.out).mono ?_); rintro e w78 ⟨rfl, hb⟩; refine ⟨_, rfl, ?_⟩; have n0_ := Aside0.mk (blk_below (g := gb199) (o := .cells #[.int .u64 a0_0, .bool a0_1, .int .u64 a0_2, .bool a0_3, .int .u64 a0_4, .bool a0_5, .int .u64 a0_6, .bool a0_7, .int .u64 a0_8, .bool a0_9] 26 (0, 0)) (by (with_reducible repeat (first | refine blk_drewN ?_ _ | refine blk_drew ?_ | refine blk_alloc ?_ _)); exact BK199.out) hb); have n1_ := Aside0.mk (below_step (by repeat (first | (with_reducible first | exact HB.out | apply below_alloc | apply pw_below_drewN | apply below_drew1 | refine below_set ?_ GE199.out) | exact HB.out)) hb); clear BK199; clear HB; have BK199 := n0_; have HB := n1_; clear n0_ n1_; (try clear hb); (try clear hb2); (try clear hk); (try clear hi); have hcz79_0 : w78.cell? ⟨gb199, 0, none⟩ = some (.int .u64 a0_0) := (blk_cell BK199.out 0).trans rfl; have hcz79_1 : w78.cell? ⟨gb199, 1, none⟩ = some (.bool a0_1) := (blk_cell BK199.out 1).trans rfl; have hcz79_2 : w78.cell? ⟨gb199, 2, none⟩ = some (.int .u64 a0_2) := (blk_cell BK199.out 2).trans rfl; have hcz79_3 : w78.cell? ⟨gb199, 3, none⟩ = some (.bool a0_3) := (blk_cell BK199.out 3).trans rfl; have hcz79_4 : w78.cell? ⟨gb199, 4, none⟩ = some (.int .u64 a0_4) := (blk_cell BK199.out 4).trans rfl; have hcz79_5 : w78.cell? ⟨gb199, 5, none⟩ = some (.bool a0_5) := (blk_cell BK199.out 5).trans rfl; have hcz79_6 : w78.cell? ⟨gb199, 6, none⟩ = some (.int .u64 a0_6) := (blk_cell BK199.out 6).trans rfl; have hcz79_7 : w78.cell? ⟨gb199, 7, none⟩ = some (.bool a0_7) := (blk_cell BK199.out 7).trans rfl; have hcz79_8 : w78.cell? ⟨gb199, 8, none⟩ = some (.int .u64 a0_8) := (blk_cell BK199.out 8).trans rfl; have hcz79_9 : w78.cell? ⟨gb199, 9, none⟩ = some (.bool a0_9) := (blk_cell BK199.out 9).trans rfl; have hfz79_0 := blk_frozen BK199.out 0; have hfz79_1 := blk_frozen BK199.out 1; have hfz79_2 := blk_frozen BK199.out 2; have hfz79_3 := blk_frozen BK199.out 3; have hfz79_4 := blk_frozen BK199.out 4; have hfz79_5 := blk_frozen BK199.out 5; have hfz79_6 := blk_frozen BK199.out 6; have hfz79_7 := blk_frozen BK199.out 7; have hfz79_8 := blk_frozen BK199.out 8; have hfz79_9 := blk_frozen BK199.out 9) | ((with_reducible refine gate_callee (f := 14) rfl ?_); refine goesL_ (some 30) rfl rfl Tryz.func14 (by kernel_rfl) rfl #[.agg #[.int .u64 a0_0, .bool a0_1, .int .u64 a0_2, .bool a0_3, .int .u64 a0_4, .bool a0_5, .int .u64 a0_6, .bool a0_7, .int .u64 a0_8, .bool a0_9]] rfl (by (try simp only [List.map_toArray, List.map_cons, List.map_nil]); first | done | rfl | (simp only [List.length_drop, List.length_take]; rfl)) ?_; (with_reducible refine (day_Minutes.calls a0_0 a0_1 a0_2 a0_3 a0_4 a0_5 a0_6 a0_7 a0_8 a0_9 t205 t206 _ A7.out).mono ?_); rintro e w80 ⟨rfl, hb⟩; refine ⟨_, rfl, ?_⟩; have n0_ := Aside0.mk (blk_below (g := gb199) (o := .cells #[.int .u64 a0_0, .bool a0_1, .int .u64 a0_2, .bool a0_3, .int .u64 a0_4, .bool a0_5, .int .u64 a0_6, .bool a0_7, .int .u64 a0_8, .bool a0_9] 26 (0, 0)) (by (with_reducible repeat (first | refine blk_drewN ?_ _ | refine blk_drew ?_ | refine blk_alloc ?_ _)); exact BK199.out) hb); have n1_ := Aside0.mk (below_step (by repeat (first | (with_reducible first | exact HB.out | apply below_alloc | apply pw_below_drewN | apply below_drew1 | refine below_set ?_ GE199.out) | exact HB.out)) hb); clear BK199; clear HB; have BK199 := n0_; have HB := n1_; clear n0_ n1_; (try clear hb); (try clear hb2); (try clear hk); (try clear hi)))
       have n0_ := Aside0.mk (blk_drew BK199.out)
       have n1_ := Aside0.mk (below_drew1 HB.out)
       clear BK199
       clear HB
       have BK199 := n0_
       have HB := n1_
       clear n0_ n1_
       refine start_ (n := 8) (S := fun w' => w'.cell? ⟨gb199, 0, none⟩ = some (.int .u64 a0_0) ∧ w'.cell? ⟨gb199, 1, none⟩ = some (.bool a0_1) ∧ w'.cell? ⟨gb199, 2, none⟩ = some (.int .u64 a0_2) ∧ w'.cell? ⟨gb199, 3, none⟩ = some (.bool a0_3) ∧ w'.cell? ⟨gb199, 4, none⟩ = some (.int .u64 a0_4) ∧ w'.cell? ⟨gb199, 5, none⟩ = some (.bool a0_5) ∧ w'.cell? ⟨gb199, 6, none⟩ = some (.int .u64 a0_6) ∧ w'.cell? ⟨gb199, 7, none⟩ = some (.bool a0_7) ∧ w'.cell? ⟨gb199, 8, none⟩ = some (.int .u64 a0_8) ∧ w'.cell? ⟨gb199, 9, none⟩ = some (.bool a0_9)) (ds := []) #[false, false, false, false, false, false, false, false] (by kernel_rfl) rfl rfl ⟨(blk_cell BK199.out 0).trans rfl, (blk_cell BK199.out 1).trans rfl, (blk_cell BK199.out 2).trans rfl, (blk_cell BK199.out 3).trans rfl, (blk_cell BK199.out 4).trans rfl, (blk_cell BK199.out 5).trans rfl, (blk_cell BK199.out 6).trans rfl, (blk_cell BK199.out 7).trans rfl, (blk_cell BK199.out 8).trans rfl, (blk_cell BK199.out 9).trans rfl⟩ (fun hHeld => ?_); refine with_tabW complinelaw21_DayMatches.tab7 complinelaw21_DayMatches.bits7 (fun HT_ HW_ => ?_)
       generalize w80.drew = w81 at BK199 HB hHeld ⊢
       refine pure_ (i := 0) (N := some 33) (v := ?_) (a' := ?_) #[true, false, false, false, false, false, false, false] rfl rfl (any_of HT_.out (by kernel_rfl)) (fun _ _ _ h => h) (Or.inl ⟨by rfl, ?_⟩) ?_ ?_
       rotate_left
       ·intro w'
        go_simp
        with_reducible rfl
       rotate_left
       ·simp only [Act.put, List.setIfInBounds_toArray, List.set_cons_zero, List.set_cons_succ, i64_w, i32_w]
        rfl
       refine pure_ (i := 3) (N := some 36) (v := ?_) (a' := ?_) #[true, false, false, true, false, false, false, false] rfl rfl (any_of HT_.out (by kernel_rfl)) (fun _ _ _ h => h) (Or.inl ⟨by rfl, ?_⟩) ?_ ?_
       rotate_left
       ·intro w'
        go_simp
        with_reducible rfl
       rotate_left
       ·simp only [Act.put, List.setIfInBounds_toArray, List.set_cons_zero, List.set_cons_succ, i64_w, i32_w]
        rfl
       refine take_ (i := 1) (N := some 34) (v := ?_) (a' := ?_) #[true, true, false, true, false, false, false, false] rfl rfl (take_ofW HT_.out HW_.out (by kernel_rfl)) (fun _ _ _ h => h) (Or.inl ⟨by rfl, ?_⟩) hHeld ?_ ?_
       rotate_left
       ·rintro w' ⟨s0, s1, s2, s3, s4, s5, s6, s7, s8, s9⟩
        go_simp
        with_reducible rfl
       rotate_left
       ·simp only [Act.put, List.setIfInBounds_toArray, List.set_cons_zero, List.set_cons_succ, i64_w, i32_w]
        rfl
       refine take_ (i := 4) (N := some 37) (v := ?_) (a' := ?_) #[true, true, false, true, true, false, false, false] rfl rfl (take_ofW HT_.out HW_.out (by kernel_rfl)) (fun _ _ _ h => h) (Or.inl ⟨by rfl, ?_⟩) hHeld ?_ ?_
       rotate_left
       ·rintro w' ⟨s0, s1, s2, s3, s4, s5, s6, s7, s8, s9⟩
        go_simp
        with_reducible rfl
       rotate_left
       ·simp only [Act.put, List.setIfInBounds_toArray, List.set_cons_zero, List.set_cons_succ, i64_w, i32_w]
        rfl
       refine one_ (i := 2) (N := some 35) #[true, true, true, true, true, false, false, false] rfl rfl (one_of HT_.out (by kernel_rfl)) (by decide) (fun K hK => ?_)
       refine goes_ Tryz.func15 (by kernel_rfl) rfl #[.agg #[.int .u64 a0_2, .bool a0_3]] (by rfl) rfl rfl (by (try simp only [List.map_toArray, List.map_cons, List.map_nil]); first | done | rfl | (simp only [List.length_drop, List.length_take]; rfl)) ?_
       with_reducible refine (complineref18_Count.calls k a0_2 a0_3 t207 _ A8.out).mono ?_
       rintro e w82 ⟨rfl, hb⟩
       refine ⟨_, rfl, ?_⟩
       have n0_ := Aside0.mk (blk_below (g := gb199) (o := .cells #[.int .u64 a0_0, .bool a0_1, .int .u64 a0_2, .bool a0_3, .int .u64 a0_4, .bool a0_5, .int .u64 a0_6, .bool a0_7, .int .u64 a0_8, .bool a0_9] 26 (0, 0)) (by (with_reducible repeat (first | refine blk_drewN ?_ _ | refine blk_drew ?_ | refine blk_alloc ?_ _)); exact BK199.out) hb)
       have n1_ := Aside0.mk (below_step (by repeat (first | (with_reducible first | exact HB.out | apply below_alloc | apply pw_below_drewN | apply below_drew1 | refine below_set ?_ GE199.out) | exact HB.out)) hb)
       clear BK199
       clear HB
       have BK199 := n0_
       have HB := n1_
       clear n0_ n1_
       (try clear hb)
       (try clear hb2)
       (try clear hk)
       (try clear hi)
       refine hK.out _ _ ⟨(blk_cell BK199.out 0).trans rfl, (blk_cell BK199.out 1).trans rfl, (blk_cell BK199.out 2).trans rfl, (blk_cell BK199.out 3).trans rfl, (blk_cell BK199.out 4).trans rfl, (blk_cell BK199.out 5).trans rfl, (blk_cell BK199.out 6).trans rfl, (blk_cell BK199.out 7).trans rfl, (blk_cell BK199.out 8).trans rfl, (blk_cell BK199.out 9).trans rfl⟩ (fun hHeld => ?_)
       clear hK K
       refine norm_ (a' := ?_) ?_ ?_
       rotate_left
       ·show Act.put _ (some 35) _ = _
        simp only [Act.put, List.setIfInBounds_toArray, List.set_cons_zero, List.set_cons_succ, i64_w, i32_w]
        rfl
       refine one_ (i := 5) (N := some 38) #[true, true, true, true, true, true, false, false] rfl rfl (one_of HT_.out (by kernel_rfl)) (by decide) (fun K hK => ?_)
       refine goes_ Tryz.func15 (by kernel_rfl) rfl #[.agg #[.int .u64 a0_0, .bool a0_1]] (by rfl) rfl rfl (by (try simp only [List.map_toArray, List.map_cons, List.map_nil]); first | done | rfl | (simp only [List.length_drop, List.length_take]; rfl)) ?_
       with_reducible refine (complineref18_Count.calls k a0_0 a0_1 t208 _ A9.out).mono ?_
       rintro e w83 ⟨rfl, hb⟩
       refine ⟨_, rfl, ?_⟩
       have n0_ := Aside0.mk (blk_below (g := gb199) (o := .cells #[.int .u64 a0_0, .bool a0_1, .int .u64 a0_2, .bool a0_3, .int .u64 a0_4, .bool a0_5, .int .u64 a0_6, .bool a0_7, .int .u64 a0_8, .bool a0_9] 26 (0, 0)) (by (with_reducible repeat (first | refine blk_drewN ?_ _ | refine blk_drew ?_ | refine blk_alloc ?_ _)); exact BK199.out) hb)
       have n1_ := Aside0.mk (below_step (by repeat (first | (with_reducible first | exact HB.out | apply below_alloc | apply pw_below_drewN | apply below_drew1 | refine below_set ?_ GE199.out) | exact HB.out)) hb)
       clear BK199
       clear HB
       have BK199 := n0_
       have HB := n1_
       clear n0_ n1_
       (try clear hb)
       (try clear hb2)
       (try clear hk)
       (try clear hi)
       refine hK.out _ _ ⟨(blk_cell BK199.out 0).trans rfl, (blk_cell BK199.out 1).trans rfl, (blk_cell BK199.out 2).trans rfl, (blk_cell BK199.out 3).trans rfl, (blk_cell BK199.out 4).trans rfl, (blk_cell BK199.out 5).trans rfl, (blk_cell BK199.out 6).trans rfl, (blk_cell BK199.out 7).trans rfl, (blk_cell BK199.out 8).trans rfl, (blk_cell BK199.out 9).trans rfl⟩ (fun hHeld => ?_)
       clear hK K
       refine norm_ (a' := ?_) ?_ ?_
       rotate_left
       ·show Act.put _ (some 38) _ = _
        simp only [Act.put, List.setIfInBounds_toArray, List.set_cons_zero, List.set_cons_succ, i64_w, i32_w]
        rfl
       refine pure_ (i := 6) (N := some 39) (v := ?_) (a' := ?_) #[true, true, true, true, true, true, true, false] rfl rfl (any_of HT_.out (by kernel_rfl)) (fun _ _ _ h => h) (Or.inl ⟨by rfl, ?_⟩) ?_ ?_
       rotate_left
       ·intro w'
        go_simp
        with_reducible rfl
       rotate_left
       ·simp only [Act.put, List.setIfInBounds_toArray, List.set_cons_zero, List.set_cons_succ, i64_w, i32_w]
        rfl
       refine pure_ (i := 7) (N := some 12) (v := ?_) (a' := ?_) #[true, true, true, true, true, true, true, true] rfl rfl (any_of HT_.out (by kernel_rfl)) (fun _ _ _ h => h) (Or.inl ⟨by rfl, ?_⟩) ?_ ?_
       rotate_left
       ·intro w'
        go_simp
        with_reducible rfl
       rotate_left
       ·simp only [Act.put, List.setIfInBounds_toArray, List.set_cons_zero, List.set_cons_succ, i64_w, i32_w]
        rfl
       refine done_ (done_of HT_.out (by kernel_rfl)) ?_
       try go_wp2
       go_ret
       exact ⟨by first | rfl | (simp [errW_none, errW_some] <;> rfl) | (simp [*, errW_none, errW_some] <;> rfl), by repeat (first | (with_reducible first | exact HB.out | apply below_alloc | apply pw_below_drewN | apply below_drew1 | refine below_set ?_ GE199.out) | exact HB.out)⟩
     ·rw [if_neg c60] at H
      have c60b0 : (t205 == 0) = false := beq_eq_false_iff_ne.mpr c60
      have c60b1 : (t205 != 0) = true := bne_iff_ne.mpr c60
      obtain rfl := Option.some.inj H
      go_enter Tryz.func4, Tryz.ntmps4
      try go_wp2_with (first | ((with_reducible refine gate_dst (N := 2) rfl ?_); refine box_event ?hg (N := 2) ?hd (cs := #[.int .u64 a0_0, .bool a0_1, .int .u64 a0_2, .bool a0_3, .int .u64 a0_4, .bool a0_5, .int .u64 a0_6, .bool a0_7, .int .u64 a0_8, .bool a0_9]) (t := 26) ?hr ?_; (case hd => rfl); (case hg => rfl); (case hr => first | (go_simp; done) | (go_simp; rfl)); intro gb199 hg w84 hbox hb; have n0_ := Aside0.mk (below_step (by repeat (first | (with_reducible first | exact HB.out | apply below_alloc | apply pw_below_drewN | apply below_drew1) | exact HB.out)) hb); have n1_ := Aside0.mk (hbox); have n2_ := Aside0.mk ((by rw [hg]; exact (below_size (by repeat (first | (with_reducible first | exact HB.out | apply below_alloc | apply pw_below_drewN | apply below_drew1) | exact HB.out))) : w.heap.size ≤ gb199)); have n3_ := Aside0.mk ((by rw [hg]; exact (below_size (by repeat (first | (with_reducible first | exact HB.out | apply below_alloc | apply pw_below_drewN | apply below_drew1) | exact HB.out))) : w.heap.size ≤ gb199)); clear HB; have HB := n0_; have BK199 := n1_; have GW199 := n2_; have GE199 := n3_; clear n0_ n1_ n2_ n3_; clear hb hbox hg) | ((with_reducible refine gate_callee (f := 9) rfl ?_); refine goesL_ (some 13) rfl rfl Tryz.func9 (by kernel_rfl) rfl #[] rfl (by (try simp only [List.map_toArray, List.map_cons, List.map_nil]); first | done | rfl | (simp only [List.length_drop, List.length_take]; rfl)) ?_; (with_reducible refine (complinelaw21_works.calls  true _ (hT.keep (by repeat (first | (with_reducible first | exact HB.out | apply below_alloc | apply pw_below_drewN | apply below_drew1 | refine below_set ?_ GE199.out) | exact HB.out))) A3.out).mono ?_); rintro e w85 ⟨rfl, hb⟩; refine ⟨_, rfl, ?_⟩; have n0_ := Aside0.mk (blk_below (g := gb199) (o := .cells #[.int .u64 a0_0, .bool a0_1, .int .u64 a0_2, .bool a0_3, .int .u64 a0_4, .bool a0_5, .int .u64 a0_6, .bool a0_7, .int .u64 a0_8, .bool a0_9] 26 (0, 0)) (by (with_reducible repeat (first | refine blk_drewN ?_ _ | refine blk_drew ?_ | refine blk_alloc ?_ _)); exact BK199.out) hb); have n1_ := Aside0.mk (below_step (by repeat (first | (with_reducible first | exact HB.out | apply below_alloc | apply pw_below_drewN | apply below_drew1 | refine below_set ?_ GE199.out) | exact HB.out)) hb); clear BK199; clear HB; have BK199 := n0_; have HB := n1_; clear n0_ n1_; (try clear hb); (try clear hb2); (try clear hk); (try clear hi); have hcz86_0 : w85.cell? ⟨gb199, 0, none⟩ = some (.int .u64 a0_0) := (blk_cell BK199.out 0).trans rfl; have hcz86_1 : w85.cell? ⟨gb199, 1, none⟩ = some (.bool a0_1) := (blk_cell BK199.out 1).trans rfl; have hcz86_2 : w85.cell? ⟨gb199, 2, none⟩ = some (.int .u64 a0_2) := (blk_cell BK199.out 2).trans rfl; have hcz86_3 : w85.cell? ⟨gb199, 3, none⟩ = some (.bool a0_3) := (blk_cell BK199.out 3).trans rfl; have hcz86_4 : w85.cell? ⟨gb199, 4, none⟩ = some (.int .u64 a0_4) := (blk_cell BK199.out 4).trans rfl; have hcz86_5 : w85.cell? ⟨gb199, 5, none⟩ = some (.bool a0_5) := (blk_cell BK199.out 5).trans rfl; have hcz86_6 : w85.cell? ⟨gb199, 6, none⟩ = some (.int .u64 a0_6) := (blk_cell BK199.out 6).trans rfl; have hcz86_7 : w85.cell? ⟨gb199, 7, none⟩ = some (.bool a0_7) := (blk_cell BK199.out 7).trans rfl; have hcz86_8 : w85.cell? ⟨gb199, 8, none⟩ = some (.int .u64 a0_8) := (blk_cell BK199.out 8).trans rfl; have hcz86_9 : w85.cell? ⟨gb199, 9, none⟩ = some (.bool a0_9) := (blk_cell BK199.out 9).trans rfl; have hfz86_0 := blk_frozen BK199.out 0; have hfz86_1 := blk_frozen BK199.out 1; have hfz86_2 := blk_frozen BK199.out 2; have hfz86_3 := blk_frozen BK199.out 3; have hfz86_4 := blk_frozen BK199.out 4; have hfz86_5 := blk_frozen BK199.out 5; have hfz86_6 := blk_frozen BK199.out 6; have hfz86_7 := blk_frozen BK199.out 7; have hfz86_8 := blk_frozen BK199.out 8; have hfz86_9 := blk_frozen BK199.out 9) | ((with_reducible refine gate_callee (f := 12) rfl ?_); refine goesL_ (some 19) rfl rfl Tryz.func12 (by kernel_rfl) rfl #[.agg #[.int .u64 a0_0, .bool a0_1, .int .u64 a0_2, .bool a0_3, .int .u64 a0_4, .bool a0_5, .int .u64 a0_6, .bool a0_7, .int .u64 a0_8, .bool a0_9], .int .i64 a1] rfl (by (try simp only [List.map_toArray, List.map_cons, List.map_nil]); first | done | rfl | (simp only [List.length_drop, List.length_take]; rfl)) ?_; (with_reducible refine (day_Match.calls a0_0 a0_1 a0_2 a0_3 a0_4 a0_5 a0_6 a0_7 a0_8 a0_9 a1 t201 t202 _ A5.out).mono ?_); rintro e w87 ⟨rfl, hb⟩; refine ⟨_, rfl, ?_⟩; have n0_ := Aside0.mk (blk_below (g := gb199) (o := .cells #[.int .u64 a0_0, .bool a0_1, .int .u64 a0_2, .bool a0_3, .int .u64 a0_4, .bool a0_5, .int .u64 a0_6, .bool a0_7, .int .u64 a0_8, .bool a0_9] 26 (0, 0)) (by (with_reducible repeat (first | refine blk_drewN ?_ _ | refine blk_drew ?_ | refine blk_alloc ?_ _)); exact BK199.out) hb); have n1_ := Aside0.mk (below_step (by repeat (first | (with_reducible first | exact HB.out | apply below_alloc | apply pw_below_drewN | apply below_drew1 | refine below_set ?_ GE199.out) | exact HB.out)) hb); clear BK199; clear HB; have BK199 := n0_; have HB := n1_; clear n0_ n1_; (try clear hb); (try clear hb2); (try clear hk); (try clear hi); have hcz88_0 : w87.cell? ⟨gb199, 0, none⟩ = some (.int .u64 a0_0) := (blk_cell BK199.out 0).trans rfl; have hcz88_1 : w87.cell? ⟨gb199, 1, none⟩ = some (.bool a0_1) := (blk_cell BK199.out 1).trans rfl; have hcz88_2 : w87.cell? ⟨gb199, 2, none⟩ = some (.int .u64 a0_2) := (blk_cell BK199.out 2).trans rfl; have hcz88_3 : w87.cell? ⟨gb199, 3, none⟩ = some (.bool a0_3) := (blk_cell BK199.out 3).trans rfl; have hcz88_4 : w87.cell? ⟨gb199, 4, none⟩ = some (.int .u64 a0_4) := (blk_cell BK199.out 4).trans rfl; have hcz88_5 : w87.cell? ⟨gb199, 5, none⟩ = some (.bool a0_5) := (blk_cell BK199.out 5).trans rfl; have hcz88_6 : w87.cell? ⟨gb199, 6, none⟩ = some (.int .u64 a0_6) := (blk_cell BK199.out 6).trans rfl; have hcz88_7 : w87.cell? ⟨gb199, 7, none⟩ = some (.bool a0_7) := (blk_cell BK199.out 7).trans rfl; have hcz88_8 : w87.cell? ⟨gb199, 8, none⟩ = some (.int .u64 a0_8) := (blk_cell BK199.out 8).trans rfl; have hcz88_9 : w87.cell? ⟨gb199, 9, none⟩ = some (.bool a0_9) := (blk_cell BK199.out 9).trans rfl; have hfz88_0 := blk_frozen BK199.out 0; have hfz88_1 := blk_frozen BK199.out 1; have hfz88_2 := blk_frozen BK199.out 2; have hfz88_3 := blk_frozen BK199.out 3; have hfz88_4 := blk_frozen BK199.out 4; have hfz88_5 := blk_frozen BK199.out 5; have hfz88_6 := blk_frozen BK199.out 6; have hfz88_7 := blk_frozen BK199.out 7; have hfz88_8 := blk_frozen BK199.out 8; have hfz88_9 := blk_frozen BK199.out 9) | ((with_reducible refine gate_callee (f := 13) rfl ?_); refine goesL_ (some 25) rfl rfl Tryz.func13 (by kernel_rfl) rfl #[.agg #[.int .u64 a0_0, .bool a0_1, .int .u64 a0_2, .bool a0_3, .int .u64 a0_4, .bool a0_5, .int .u64 a0_6, .bool a0_7, .int .u64 a0_8, .bool a0_9], .int .i64 a1] rfl (by (try simp only [List.map_toArray, List.map_cons, List.map_nil]); first | done | rfl | (simp only [List.length_drop, List.length_take]; rfl)) ?_; (with_reducible refine (complineref21_Match.calls k a0_0 a0_1 a0_2 a0_3 a0_4 a0_5 a0_6 a0_7 a0_8 a0_9 a1 t203 t204 _ A6.out).mono ?_); rintro e w89 ⟨rfl, hb⟩; refine ⟨_, rfl, ?_⟩; have n0_ := Aside0.mk (blk_below (g := gb199) (o := .cells #[.int .u64 a0_0, .bool a0_1, .int .u64 a0_2, .bool a0_3, .int .u64 a0_4, .bool a0_5, .int .u64 a0_6, .bool a0_7, .int .u64 a0_8, .bool a0_9] 26 (0, 0)) (by (with_reducible repeat (first | refine blk_drewN ?_ _ | refine blk_drew ?_ | refine blk_alloc ?_ _)); exact BK199.out) hb); have n1_ := Aside0.mk (below_step (by repeat (first | (with_reducible first | exact HB.out | apply below_alloc | apply pw_below_drewN | apply below_drew1 | refine below_set ?_ GE199.out) | exact HB.out)) hb); clear BK199; clear HB; have BK199 := n0_; have HB := n1_; clear n0_ n1_; (try clear hb); (try clear hb2); (try clear hk); (try clear hi); have hcz90_0 : w89.cell? ⟨gb199, 0, none⟩ = some (.int .u64 a0_0) := (blk_cell BK199.out 0).trans rfl; have hcz90_1 : w89.cell? ⟨gb199, 1, none⟩ = some (.bool a0_1) := (blk_cell BK199.out 1).trans rfl; have hcz90_2 : w89.cell? ⟨gb199, 2, none⟩ = some (.int .u64 a0_2) := (blk_cell BK199.out 2).trans rfl; have hcz90_3 : w89.cell? ⟨gb199, 3, none⟩ = some (.bool a0_3) := (blk_cell BK199.out 3).trans rfl; have hcz90_4 : w89.cell? ⟨gb199, 4, none⟩ = some (.int .u64 a0_4) := (blk_cell BK199.out 4).trans rfl; have hcz90_5 : w89.cell? ⟨gb199, 5, none⟩ = some (.bool a0_5) := (blk_cell BK199.out 5).trans rfl; have hcz90_6 : w89.cell? ⟨gb199, 6, none⟩ = some (.int .u64 a0_6) := (blk_cell BK199.out 6).trans rfl; have hcz90_7 : w89.cell? ⟨gb199, 7, none⟩ = some (.bool a0_7) := (blk_cell BK199.out 7).trans rfl; have hcz90_8 : w89.cell? ⟨gb199, 8, none⟩ = some (.int .u64 a0_8) := (blk_cell BK199.out 8).trans rfl; have hcz90_9 : w89.cell? ⟨gb199, 9, none⟩ = some (.bool a0_9) := (blk_cell BK199.out 9).trans rfl; have hfz90_0 := blk_frozen BK199.out 0; have hfz90_1 := blk_frozen BK199.out 1; have hfz90_2 := blk_frozen BK199.out 2; have hfz90_3 := blk_frozen BK199.out 3; have hfz90_4 := blk_frozen BK199.out 4; have hfz90_5 := blk_frozen BK199.out 5; have hfz90_6 := blk_frozen BK199.out 6; have hfz90_7 := blk_frozen BK199.out 7; have hfz90_8 := blk_frozen BK199.out 8; have hfz90_9 := blk_frozen BK199.out 9) | ((with_reducible refine gate_callee (f := 14) rfl ?_); refine goesL_ (some 30) rfl rfl Tryz.func14 (by kernel_rfl) rfl #[.agg #[.int .u64 a0_0, .bool a0_1, .int .u64 a0_2, .bool a0_3, .int .u64 a0_4, .bool a0_5, .int .u64 a0_6, .bool a0_7, .int .u64 a0_8, .bool a0_9]] rfl (by (try simp only [List.map_toArray, List.map_cons, List.map_nil]); first | done | rfl | (simp only [List.length_drop, List.length_take]; rfl)) ?_; (with_reducible refine (day_Minutes.calls a0_0 a0_1 a0_2 a0_3 a0_4 a0_5 a0_6 a0_7 a0_8 a0_9 t205 t206 _ A7.out).mono ?_); rintro e w91 ⟨rfl, hb⟩; refine ⟨_, rfl, ?_⟩; have n0_ := Aside0.mk (blk_below (g := gb199) (o := .cells #[.int .u64 a0_0, .bool a0_1, .int .u64 a0_2, .bool a0_3, .int .u64 a0_4, .bool a0_5, .int .u64 a0_6, .bool a0_7, .int .u64 a0_8, .bool a0_9] 26 (0, 0)) (by (with_reducible repeat (first | refine blk_drewN ?_ _ | refine blk_drew ?_ | refine blk_alloc ?_ _)); exact BK199.out) hb); have n1_ := Aside0.mk (below_step (by repeat (first | (with_reducible first | exact HB.out | apply below_alloc | apply pw_below_drewN | apply below_drew1 | refine below_set ?_ GE199.out) | exact HB.out)) hb); clear BK199; clear HB; have BK199 := n0_; have HB := n1_; clear n0_ n1_; (try clear hb); (try clear hb2); (try clear hk); (try clear hi)))
      have n0_ := Aside0.mk (blk_drew BK199.out)
      have n1_ := Aside0.mk (below_drew1 HB.out)
      clear BK199
      clear HB
      have BK199 := n0_
      have HB := n1_
      clear n0_ n1_
      refine start_ (n := 8) (S := fun w' => w'.cell? ⟨gb199, 0, none⟩ = some (.int .u64 a0_0) ∧ w'.cell? ⟨gb199, 1, none⟩ = some (.bool a0_1) ∧ w'.cell? ⟨gb199, 2, none⟩ = some (.int .u64 a0_2) ∧ w'.cell? ⟨gb199, 3, none⟩ = some (.bool a0_3) ∧ w'.cell? ⟨gb199, 4, none⟩ = some (.int .u64 a0_4) ∧ w'.cell? ⟨gb199, 5, none⟩ = some (.bool a0_5) ∧ w'.cell? ⟨gb199, 6, none⟩ = some (.int .u64 a0_6) ∧ w'.cell? ⟨gb199, 7, none⟩ = some (.bool a0_7) ∧ w'.cell? ⟨gb199, 8, none⟩ = some (.int .u64 a0_8) ∧ w'.cell? ⟨gb199, 9, none⟩ = some (.bool a0_9)) (ds := []) #[false, false, false, false, false, false, false, false] (by kernel_rfl) rfl rfl ⟨(blk_cell BK199.out 0).trans rfl, (blk_cell BK199.out 1).trans rfl, (blk_cell BK199.out 2).trans rfl, (blk_cell BK199.out 3).trans rfl, (blk_cell BK199.out 4).trans rfl, (blk_cell BK199.out 5).trans rfl, (blk_cell BK199.out 6).trans rfl, (blk_cell BK199.out 7).trans rfl, (blk_cell BK199.out 8).trans rfl, (blk_cell BK199.out 9).trans rfl⟩ (fun hHeld => ?_); refine with_tabW complinelaw21_DayMatches.tab7 complinelaw21_DayMatches.bits7 (fun HT_ HW_ => ?_)
      generalize w91.drew = w92 at BK199 HB hHeld ⊢
      refine pure_ (i := 0) (N := some 33) (v := ?_) (a' := ?_) #[true, false, false, false, false, false, false, false] rfl rfl (any_of HT_.out (by kernel_rfl)) (fun _ _ _ h => h) (Or.inl ⟨by rfl, ?_⟩) ?_ ?_
      rotate_left
      ·intro w'
       go_simp
       with_reducible rfl
      rotate_left
      ·simp only [Act.put, List.setIfInBounds_toArray, List.set_cons_zero, List.set_cons_succ, i64_w, i32_w]
       rfl
      refine pure_ (i := 3) (N := some 36) (v := ?_) (a' := ?_) #[true, false, false, true, false, false, false, false] rfl rfl (any_of HT_.out (by kernel_rfl)) (fun _ _ _ h => h) (Or.inl ⟨by rfl, ?_⟩) ?_ ?_
      rotate_left
      ·intro w'
       go_simp
       with_reducible rfl
      rotate_left
      ·simp only [Act.put, List.setIfInBounds_toArray, List.set_cons_zero, List.set_cons_succ, i64_w, i32_w]
       rfl
      refine take_ (i := 1) (N := some 34) (v := ?_) (a' := ?_) #[true, true, false, true, false, false, false, false] rfl rfl (take_ofW HT_.out HW_.out (by kernel_rfl)) (fun _ _ _ h => h) (Or.inl ⟨by rfl, ?_⟩) hHeld ?_ ?_
      rotate_left
      ·rintro w' ⟨s0, s1, s2, s3, s4, s5, s6, s7, s8, s9⟩
       go_simp
       with_reducible rfl
      rotate_left
      ·simp only [Act.put, List.setIfInBounds_toArray, List.set_cons_zero, List.set_cons_succ, i64_w, i32_w]
       rfl
      refine take_ (i := 4) (N := some 37) (v := ?_) (a' := ?_) #[true, true, false, true, true, false, false, false] rfl rfl (take_ofW HT_.out HW_.out (by kernel_rfl)) (fun _ _ _ h => h) (Or.inl ⟨by rfl, ?_⟩) hHeld ?_ ?_
      rotate_left
      ·rintro w' ⟨s0, s1, s2, s3, s4, s5, s6, s7, s8, s9⟩
       go_simp
       with_reducible rfl
      rotate_left
      ·simp only [Act.put, List.setIfInBounds_toArray, List.set_cons_zero, List.set_cons_succ, i64_w, i32_w]
       rfl
      refine one_ (i := 2) (N := some 35) #[true, true, true, true, true, false, false, false] rfl rfl (one_of HT_.out (by kernel_rfl)) (by decide) (fun K hK => ?_)
      refine goes_ Tryz.func15 (by kernel_rfl) rfl #[.agg #[.int .u64 a0_2, .bool a0_3]] (by rfl) rfl rfl (by (try simp only [List.map_toArray, List.map_cons, List.map_nil]); first | done | rfl | (simp only [List.length_drop, List.length_take]; rfl)) ?_
      with_reducible refine (complineref18_Count.calls k a0_2 a0_3 t207 _ A8.out).mono ?_
      rintro e w93 ⟨rfl, hb⟩
      refine ⟨_, rfl, ?_⟩
      have n0_ := Aside0.mk (blk_below (g := gb199) (o := .cells #[.int .u64 a0_0, .bool a0_1, .int .u64 a0_2, .bool a0_3, .int .u64 a0_4, .bool a0_5, .int .u64 a0_6, .bool a0_7, .int .u64 a0_8, .bool a0_9] 26 (0, 0)) (by (with_reducible repeat (first | refine blk_drewN ?_ _ | refine blk_drew ?_ | refine blk_alloc ?_ _)); exact BK199.out) hb)
      have n1_ := Aside0.mk (below_step (by repeat (first | (with_reducible first | exact HB.out | apply below_alloc | apply pw_below_drewN | apply below_drew1 | refine below_set ?_ GE199.out) | exact HB.out)) hb)
      clear BK199
      clear HB
      have BK199 := n0_
      have HB := n1_
      clear n0_ n1_
      (try clear hb)
      (try clear hb2)
      (try clear hk)
      (try clear hi)
      refine hK.out _ _ ⟨(blk_cell BK199.out 0).trans rfl, (blk_cell BK199.out 1).trans rfl, (blk_cell BK199.out 2).trans rfl, (blk_cell BK199.out 3).trans rfl, (blk_cell BK199.out 4).trans rfl, (blk_cell BK199.out 5).trans rfl, (blk_cell BK199.out 6).trans rfl, (blk_cell BK199.out 7).trans rfl, (blk_cell BK199.out 8).trans rfl, (blk_cell BK199.out 9).trans rfl⟩ (fun hHeld => ?_)
      clear hK K
      refine norm_ (a' := ?_) ?_ ?_
      rotate_left
      ·show Act.put _ (some 35) _ = _
       simp only [Act.put, List.setIfInBounds_toArray, List.set_cons_zero, List.set_cons_succ, i64_w, i32_w]
       rfl
      refine one_ (i := 5) (N := some 38) #[true, true, true, true, true, true, false, false] rfl rfl (one_of HT_.out (by kernel_rfl)) (by decide) (fun K hK => ?_)
      refine goes_ Tryz.func15 (by kernel_rfl) rfl #[.agg #[.int .u64 a0_0, .bool a0_1]] (by rfl) rfl rfl (by (try simp only [List.map_toArray, List.map_cons, List.map_nil]); first | done | rfl | (simp only [List.length_drop, List.length_take]; rfl)) ?_
      with_reducible refine (complineref18_Count.calls k a0_0 a0_1 t208 _ A9.out).mono ?_
      rintro e w94 ⟨rfl, hb⟩
      refine ⟨_, rfl, ?_⟩
      have n0_ := Aside0.mk (blk_below (g := gb199) (o := .cells #[.int .u64 a0_0, .bool a0_1, .int .u64 a0_2, .bool a0_3, .int .u64 a0_4, .bool a0_5, .int .u64 a0_6, .bool a0_7, .int .u64 a0_8, .bool a0_9] 26 (0, 0)) (by (with_reducible repeat (first | refine blk_drewN ?_ _ | refine blk_drew ?_ | refine blk_alloc ?_ _)); exact BK199.out) hb)
      have n1_ := Aside0.mk (below_step (by repeat (first | (with_reducible first | exact HB.out | apply below_alloc | apply pw_below_drewN | apply below_drew1 | refine below_set ?_ GE199.out) | exact HB.out)) hb)
      clear BK199
      clear HB
      have BK199 := n0_
      have HB := n1_
      clear n0_ n1_
      (try clear hb)
      (try clear hb2)
      (try clear hk)
      (try clear hi)
      refine hK.out _ _ ⟨(blk_cell BK199.out 0).trans rfl, (blk_cell BK199.out 1).trans rfl, (blk_cell BK199.out 2).trans rfl, (blk_cell BK199.out 3).trans rfl, (blk_cell BK199.out 4).trans rfl, (blk_cell BK199.out 5).trans rfl, (blk_cell BK199.out 6).trans rfl, (blk_cell BK199.out 7).trans rfl, (blk_cell BK199.out 8).trans rfl, (blk_cell BK199.out 9).trans rfl⟩ (fun hHeld => ?_)
      clear hK K
      refine norm_ (a' := ?_) ?_ ?_
      rotate_left
      ·show Act.put _ (some 38) _ = _
       simp only [Act.put, List.setIfInBounds_toArray, List.set_cons_zero, List.set_cons_succ, i64_w, i32_w]
       rfl
      refine pure_ (i := 6) (N := some 39) (v := ?_) (a' := ?_) #[true, true, true, true, true, true, true, false] rfl rfl (any_of HT_.out (by kernel_rfl)) (fun _ _ _ h => h) (Or.inl ⟨by rfl, ?_⟩) ?_ ?_
      rotate_left
      ·intro w'
       go_simp
       with_reducible rfl
      rotate_left
      ·simp only [Act.put, List.setIfInBounds_toArray, List.set_cons_zero, List.set_cons_succ, i64_w, i32_w]
       rfl
      refine pure_ (i := 7) (N := some 12) (v := ?_) (a' := ?_) #[true, true, true, true, true, true, true, true] rfl rfl (any_of HT_.out (by kernel_rfl)) (fun _ _ _ h => h) (Or.inl ⟨by rfl, ?_⟩) ?_ ?_
      rotate_left
      ·intro w'
       go_simp
       with_reducible rfl
      rotate_left
      ·simp only [Act.put, List.setIfInBounds_toArray, List.set_cons_zero, List.set_cons_succ, i64_w, i32_w]
       rfl
      refine done_ (done_of HT_.out (by kernel_rfl)) ?_
      try go_wp2
      go_ret
      exact ⟨by first | rfl | (simp [errW_none, errW_some] <;> rfl) | (simp [*, errW_none, errW_some] <;> rfl), by repeat (first | (with_reducible first | exact HB.out | apply below_alloc | apply pw_below_drewN | apply below_drew1 | refine below_set ?_ GE199.out) | exact HB.out)⟩
    ·rw [if_neg c59] at H
     have c59b0 : (t202 == t204) = false := beq_eq_false_iff_ne.mpr c59
     have c59b1 : (t202 != t204) = true := bne_iff_ne.mpr c59
     obtain rfl := Option.some.inj H
     go_enter Tryz.func4, Tryz.ntmps4
     try go_wp2_with (first | ((with_reducible refine gate_dst (N := 2) rfl ?_); refine box_event ?hg (N := 2) ?hd (cs := #[.int .u64 a0_0, .bool a0_1, .int .u64 a0_2, .bool a0_3, .int .u64 a0_4, .bool a0_5, .int .u64 a0_6, .bool a0_7, .int .u64 a0_8, .bool a0_9]) (t := 26) ?hr ?_; (case hd => rfl); (case hg => rfl); (case hr => first | (go_simp; done) | (go_simp; rfl)); intro gb199 hg w95 hbox hb; have n0_ := Aside0.mk (below_step (by repeat (first | (with_reducible first | exact HB.out | apply below_alloc | apply pw_below_drewN | apply below_drew1) | exact HB.out)) hb); have n1_ := Aside0.mk (hbox); have n2_ := Aside0.mk ((by rw [hg]; exact (below_size (by repeat (first | (with_reducible first | exact HB.out | apply below_alloc | apply pw_below_drewN | apply below_drew1) | exact HB.out))) : w.heap.size ≤ gb199)); have n3_ := Aside0.mk ((by rw [hg]; exact (below_size (by repeat (first | (with_reducible first | exact HB.out | apply below_alloc | apply pw_below_drewN | apply below_drew1) | exact HB.out))) : w.heap.size ≤ gb199)); clear HB; have HB := n0_; have BK199 := n1_; have GW199 := n2_; have GE199 := n3_; clear n0_ n1_ n2_ n3_; clear hb hbox hg) | ((with_reducible refine gate_callee (f := 9) rfl ?_); refine goesL_ (some 13) rfl rfl Tryz.func9 (by kernel_rfl) rfl #[] rfl (by (try simp only [List.map_toArray, List.map_cons, List.map_nil]); first | done | rfl | (simp only [List.length_drop, List.length_take]; rfl)) ?_; (with_reducible refine (complinelaw21_works.calls  true _ (hT.keep (by repeat (first | (with_reducible first | exact HB.out | apply below_alloc | apply pw_below_drewN | apply below_drew1 | refine below_set ?_ GE199.out) | exact HB.out))) A3.out).mono ?_); rintro e w96 ⟨rfl, hb⟩; refine ⟨_, rfl, ?_⟩; have n0_ := Aside0.mk (blk_below (g := gb199) (o := .cells #[.int .u64 a0_0, .bool a0_1, .int .u64 a0_2, .bool a0_3, .int .u64 a0_4, .bool a0_5, .int .u64 a0_6, .bool a0_7, .int .u64 a0_8, .bool a0_9] 26 (0, 0)) (by (with_reducible repeat (first | refine blk_drewN ?_ _ | refine blk_drew ?_ | refine blk_alloc ?_ _)); exact BK199.out) hb); have n1_ := Aside0.mk (below_step (by repeat (first | (with_reducible first | exact HB.out | apply below_alloc | apply pw_below_drewN | apply below_drew1 | refine below_set ?_ GE199.out) | exact HB.out)) hb); clear BK199; clear HB; have BK199 := n0_; have HB := n1_; clear n0_ n1_; (try clear hb); (try clear hb2); (try clear hk); (try clear hi); have hcz97_0 : w96.cell? ⟨gb199, 0, none⟩ = some (.int .u64 a0_0) := (blk_cell BK199.out 0).trans rfl; have hcz97_1 : w96.cell? ⟨gb199, 1, none⟩ = some (.bool a0_1) := (blk_cell BK199.out 1).trans rfl; have hcz97_2 : w96.cell? ⟨gb199, 2, none⟩ = some (.int .u64 a0_2) := (blk_cell BK199.out 2).trans rfl; have hcz97_3 : w96.cell? ⟨gb199, 3, none⟩ = some (.bool a0_3) := (blk_cell BK199.out 3).trans rfl; have hcz97_4 : w96.cell? ⟨gb199, 4, none⟩ = some (.int .u64 a0_4) := (blk_cell BK199.out 4).trans rfl; have hcz97_5 : w96.cell? ⟨gb199, 5, none⟩ = some (.bool a0_5) := (blk_cell BK199.out 5).trans rfl; have hcz97_6 : w96.cell? ⟨gb199, 6, none⟩ = some (.int .u64 a0_6) := (blk_cell BK199.out 6).trans rfl; have hcz97_7 : w96.cell? ⟨gb199, 7, none⟩ = some (.bool a0_7) := (blk_cell BK199.out 7).trans rfl; have hcz97_8 : w96.cell? ⟨gb199, 8, none⟩ = some (.int .u64 a0_8) := (blk_cell BK199.out 8).trans rfl; have hcz97_9 : w96.cell? ⟨gb199, 9, none⟩ = some (.bool a0_9) := (blk_cell BK199.out 9).trans rfl; have hfz97_0 := blk_frozen BK199.out 0; have hfz97_1 := blk_frozen BK199.out 1; have hfz97_2 := blk_frozen BK199.out 2; have hfz97_3 := blk_frozen BK199.out 3; have hfz97_4 := blk_frozen BK199.out 4; have hfz97_5 := blk_frozen BK199.out 5; have hfz97_6 := blk_frozen BK199.out 6; have hfz97_7 := blk_frozen BK199.out 7; have hfz97_8 := blk_frozen BK199.out 8; have hfz97_9 := blk_frozen BK199.out 9) | ((with_reducible refine gate_callee (f := 12) rfl ?_); refine goesL_ (some 19) rfl rfl Tryz.func12 (by kernel_rfl) rfl #[.agg #[.int .u64 a0_0, .bool a0_1, .int .u64 a0_2, .bool a0_3, .int .u64 a0_4, .bool a0_5, .int .u64 a0_6, .bool a0_7, .int .u64 a0_8, .bool a0_9], .int .i64 a1] rfl (by (try simp only [List.map_toArray, List.map_cons, List.map_nil]); first | done | rfl | (simp only [List.length_drop, List.length_take]; rfl)) ?_; (with_reducible refine (day_Match.calls a0_0 a0_1 a0_2 a0_3 a0_4 a0_5 a0_6 a0_7 a0_8 a0_9 a1 t201 t202 _ A5.out).mono ?_); rintro e w98 ⟨rfl, hb⟩; refine ⟨_, rfl, ?_⟩; have n0_ := Aside0.mk (blk_below (g := gb199) (o := .cells #[.int .u64 a0_0, .bool a0_1, .int .u64 a0_2, .bool a0_3, .int .u64 a0_4, .bool a0_5, .int .u64 a0_6, .bool a0_7, .int .u64 a0_8, .bool a0_9] 26 (0, 0)) (by (with_reducible repeat (first | refine blk_drewN ?_ _ | refine blk_drew ?_ | refine blk_alloc ?_ _)); exact BK199.out) hb); have n1_ := Aside0.mk (below_step (by repeat (first | (with_reducible first | exact HB.out | apply below_alloc | apply pw_below_drewN | apply below_drew1 | refine below_set ?_ GE199.out) | exact HB.out)) hb); clear BK199; clear HB; have BK199 := n0_; have HB := n1_; clear n0_ n1_; (try clear hb); (try clear hb2); (try clear hk); (try clear hi); have hcz99_0 : w98.cell? ⟨gb199, 0, none⟩ = some (.int .u64 a0_0) := (blk_cell BK199.out 0).trans rfl; have hcz99_1 : w98.cell? ⟨gb199, 1, none⟩ = some (.bool a0_1) := (blk_cell BK199.out 1).trans rfl; have hcz99_2 : w98.cell? ⟨gb199, 2, none⟩ = some (.int .u64 a0_2) := (blk_cell BK199.out 2).trans rfl; have hcz99_3 : w98.cell? ⟨gb199, 3, none⟩ = some (.bool a0_3) := (blk_cell BK199.out 3).trans rfl; have hcz99_4 : w98.cell? ⟨gb199, 4, none⟩ = some (.int .u64 a0_4) := (blk_cell BK199.out 4).trans rfl; have hcz99_5 : w98.cell? ⟨gb199, 5, none⟩ = some (.bool a0_5) := (blk_cell BK199.out 5).trans rfl; have hcz99_6 : w98.cell? ⟨gb199, 6, none⟩ = some (.int .u64 a0_6) := (blk_cell BK199.out 6).trans rfl; have hcz99_7 : w98.cell? ⟨gb199, 7, none⟩ = some (.bool a0_7) := (blk_cell BK199.out 7).trans rfl; have hcz99_8 : w98.cell? ⟨gb199, 8, none⟩ = some (.int .u64 a0_8) := (blk_cell BK199.out 8).trans rfl; have hcz99_9 : w98.cell? ⟨gb199, 9, none⟩ = some (.bool a0_9) := (blk_cell BK199.out 9).trans rfl; have hfz99_0 := blk_frozen BK199.out 0; have hfz99_1 := blk_frozen BK199.out 1; have hfz99_2 := blk_frozen BK199.out 2; have hfz99_3 := blk_frozen BK199.out 3; have hfz99_4 := blk_frozen BK199.out 4; have hfz99_5 := blk_frozen BK199.out 5; have hfz99_6 := blk_frozen BK199.out 6; have hfz99_7 := blk_frozen BK199.out 7; have hfz99_8 := blk_frozen BK199.out 8; have hfz99_9 := blk_frozen BK199.out 9) | ((with_reducible refine gate_callee (f := 13) rfl ?_); refine goesL_ (some 25) rfl rfl Tryz.func13 (by kernel_rfl) rfl #[.agg #[.int .u64 a0_0, .bool a0_1, .int .u64 a0_2, .bool a0_3, .int .u64 a0_4, .bool a0_5, .int .u64 a0_6, .bool a0_7, .int .u64 a0_8, .bool a0_9], .int .i64 a1] rfl (by (try simp only [List.map_toArray, List.map_cons, List.map_nil]); first | done | rfl | (simp only [List.length_drop, List.length_take]; rfl)) ?_; (with_reducible refine (complineref21_Match.calls k a0_0 a0_1 a0_2 a0_3 a0_4 a0_5 a0_6 a0_7 a0_8 a0_9 a1 t203 t204 _ A6.out).mono ?_); rintro e w100 ⟨rfl, hb⟩; refine ⟨_, rfl, ?_⟩; have n0_ := Aside0.mk (blk_below (g := gb199) (o := .cells #[.int .u64 a0_0, .bool a0_1, .int .u64 a0_2, .bool a0_3, .int .u64 a0_4, .bool a0_5, .int .u64 a0_6, .bool a0_7, .int .u64 a0_8, .bool a0_9] 26 (0, 0)) (by (with_reducible repeat (first | refine blk_drewN ?_ _ | refine blk_drew ?_ | refine blk_alloc ?_ _)); exact BK199.out) hb); have n1_ := Aside0.mk (below_step (by repeat (first | (with_reducible first | exact HB.out | apply below_alloc | apply pw_below_drewN | apply below_drew1 | refine below_set ?_ GE199.out) | exact HB.out)) hb); clear BK199; clear HB; have BK199 := n0_; have HB := n1_; clear n0_ n1_; (try clear hb); (try clear hb2); (try clear hk); (try clear hi); have hcz101_0 : w100.cell? ⟨gb199, 0, none⟩ = some (.int .u64 a0_0) := (blk_cell BK199.out 0).trans rfl; have hcz101_1 : w100.cell? ⟨gb199, 1, none⟩ = some (.bool a0_1) := (blk_cell BK199.out 1).trans rfl; have hcz101_2 : w100.cell? ⟨gb199, 2, none⟩ = some (.int .u64 a0_2) := (blk_cell BK199.out 2).trans rfl; have hcz101_3 : w100.cell? ⟨gb199, 3, none⟩ = some (.bool a0_3) := (blk_cell BK199.out 3).trans rfl; have hcz101_4 : w100.cell? ⟨gb199, 4, none⟩ = some (.int .u64 a0_4) := (blk_cell BK199.out 4).trans rfl; have hcz101_5 : w100.cell? ⟨gb199, 5, none⟩ = some (.bool a0_5) := (blk_cell BK199.out 5).trans rfl; have hcz101_6 : w100.cell? ⟨gb199, 6, none⟩ = some (.int .u64 a0_6) := (blk_cell BK199.out 6).trans rfl; have hcz101_7 : w100.cell? ⟨gb199, 7, none⟩ = some (.bool a0_7) := (blk_cell BK199.out 7).trans rfl; have hcz101_8 : w100.cell? ⟨gb199, 8, none⟩ = some (.int .u64 a0_8) := (blk_cell BK199.out 8).trans rfl; have hcz101_9 : w100.cell? ⟨gb199, 9, none⟩ = some (.bool a0_9) := (blk_cell BK199.out 9).trans rfl; have hfz101_0 := blk_frozen BK199.out 0; have hfz101_1 := blk_frozen BK199.out 1; have hfz101_2 := blk_frozen BK199.out 2; have hfz101_3 := blk_frozen BK199.out 3; have hfz101_4 := blk_frozen BK199.out 4; have hfz101_5 := blk_frozen BK199.out 5; have hfz101_6 := blk_frozen BK199.out 6; have hfz101_7 := blk_frozen BK199.out 7; have hfz101_8 := blk_frozen BK199.out 8; have hfz101_9 := blk_frozen BK199.out 9) | ((with_reducible refine gate_callee (f := 14) rfl ?_); refine goesL_ (some 30) rfl rfl Tryz.func14 (by kernel_rfl) rfl #[.agg #[.int .u64 a0_0, .bool a0_1, .int .u64 a0_2, .bool a0_3, .int .u64 a0_4, .bool a0_5, .int .u64 a0_6, .bool a0_7, .int .u64 a0_8, .bool a0_9]] rfl (by (try simp only [List.map_toArray, List.map_cons, List.map_nil]); first | done | rfl | (simp only [List.length_drop, List.length_take]; rfl)) ?_; (with_reducible refine (day_Minutes.calls a0_0 a0_1 a0_2 a0_3 a0_4 a0_5 a0_6 a0_7 a0_8 a0_9 t205 t206 _ A7.out).mono ?_); rintro e w102 ⟨rfl, hb⟩; refine ⟨_, rfl, ?_⟩; have n0_ := Aside0.mk (blk_below (g := gb199) (o := .cells #[.int .u64 a0_0, .bool a0_1, .int .u64 a0_2, .bool a0_3, .int .u64 a0_4, .bool a0_5, .int .u64 a0_6, .bool a0_7, .int .u64 a0_8, .bool a0_9] 26 (0, 0)) (by (with_reducible repeat (first | refine blk_drewN ?_ _ | refine blk_drew ?_ | refine blk_alloc ?_ _)); exact BK199.out) hb); have n1_ := Aside0.mk (below_step (by repeat (first | (with_reducible first | exact HB.out | apply below_alloc | apply pw_below_drewN | apply below_drew1 | refine below_set ?_ GE199.out) | exact HB.out)) hb); clear BK199; clear HB; have BK199 := n0_; have HB := n1_; clear n0_ n1_; (try clear hb); (try clear hb2); (try clear hk); (try clear hi)))
     have n0_ := Aside0.mk (blk_drew BK199.out)
     have n1_ := Aside0.mk (below_drew1 HB.out)
     clear BK199
     clear HB
     have BK199 := n0_
     have HB := n1_
     clear n0_ n1_
     refine start_ (n := 8) (S := fun w' => w'.cell? ⟨gb199, 0, none⟩ = some (.int .u64 a0_0) ∧ w'.cell? ⟨gb199, 1, none⟩ = some (.bool a0_1) ∧ w'.cell? ⟨gb199, 2, none⟩ = some (.int .u64 a0_2) ∧ w'.cell? ⟨gb199, 3, none⟩ = some (.bool a0_3) ∧ w'.cell? ⟨gb199, 4, none⟩ = some (.int .u64 a0_4) ∧ w'.cell? ⟨gb199, 5, none⟩ = some (.bool a0_5) ∧ w'.cell? ⟨gb199, 6, none⟩ = some (.int .u64 a0_6) ∧ w'.cell? ⟨gb199, 7, none⟩ = some (.bool a0_7) ∧ w'.cell? ⟨gb199, 8, none⟩ = some (.int .u64 a0_8) ∧ w'.cell? ⟨gb199, 9, none⟩ = some (.bool a0_9)) (ds := []) #[false, false, false, false, false, false, false, false] (by kernel_rfl) rfl rfl ⟨(blk_cell BK199.out 0).trans rfl, (blk_cell BK199.out 1).trans rfl, (blk_cell BK199.out 2).trans rfl, (blk_cell BK199.out 3).trans rfl, (blk_cell BK199.out 4).trans rfl, (blk_cell BK199.out 5).trans rfl, (blk_cell BK199.out 6).trans rfl, (blk_cell BK199.out 7).trans rfl, (blk_cell BK199.out 8).trans rfl, (blk_cell BK199.out 9).trans rfl⟩ (fun hHeld => ?_); refine with_tabW complinelaw21_DayMatches.tab7 complinelaw21_DayMatches.bits7 (fun HT_ HW_ => ?_)
     generalize w102.drew = w103 at BK199 HB hHeld ⊢
     refine pure_ (i := 0) (N := some 33) (v := ?_) (a' := ?_) #[true, false, false, false, false, false, false, false] rfl rfl (any_of HT_.out (by kernel_rfl)) (fun _ _ _ h => h) (Or.inl ⟨by rfl, ?_⟩) ?_ ?_
     rotate_left
     ·intro w'
      go_simp
      with_reducible rfl
     rotate_left
     ·simp only [Act.put, List.setIfInBounds_toArray, List.set_cons_zero, List.set_cons_succ, i64_w, i32_w]
      rfl
     refine pure_ (i := 3) (N := some 36) (v := ?_) (a' := ?_) #[true, false, false, true, false, false, false, false] rfl rfl (any_of HT_.out (by kernel_rfl)) (fun _ _ _ h => h) (Or.inl ⟨by rfl, ?_⟩) ?_ ?_
     rotate_left
     ·intro w'
      go_simp
      with_reducible rfl
     rotate_left
     ·simp only [Act.put, List.setIfInBounds_toArray, List.set_cons_zero, List.set_cons_succ, i64_w, i32_w]
      rfl
     refine take_ (i := 1) (N := some 34) (v := ?_) (a' := ?_) #[true, true, false, true, false, false, false, false] rfl rfl (take_ofW HT_.out HW_.out (by kernel_rfl)) (fun _ _ _ h => h) (Or.inl ⟨by rfl, ?_⟩) hHeld ?_ ?_
     rotate_left
     ·rintro w' ⟨s0, s1, s2, s3, s4, s5, s6, s7, s8, s9⟩
      go_simp
      with_reducible rfl
     rotate_left
     ·simp only [Act.put, List.setIfInBounds_toArray, List.set_cons_zero, List.set_cons_succ, i64_w, i32_w]
      rfl
     refine take_ (i := 4) (N := some 37) (v := ?_) (a' := ?_) #[true, true, false, true, true, false, false, false] rfl rfl (take_ofW HT_.out HW_.out (by kernel_rfl)) (fun _ _ _ h => h) (Or.inl ⟨by rfl, ?_⟩) hHeld ?_ ?_
     rotate_left
     ·rintro w' ⟨s0, s1, s2, s3, s4, s5, s6, s7, s8, s9⟩
      go_simp
      with_reducible rfl
     rotate_left
     ·simp only [Act.put, List.setIfInBounds_toArray, List.set_cons_zero, List.set_cons_succ, i64_w, i32_w]
      rfl
     refine one_ (i := 2) (N := some 35) #[true, true, true, true, true, false, false, false] rfl rfl (one_of HT_.out (by kernel_rfl)) (by decide) (fun K hK => ?_)
     refine goes_ Tryz.func15 (by kernel_rfl) rfl #[.agg #[.int .u64 a0_2, .bool a0_3]] (by rfl) rfl rfl (by (try simp only [List.map_toArray, List.map_cons, List.map_nil]); first | done | rfl | (simp only [List.length_drop, List.length_take]; rfl)) ?_
     with_reducible refine (complineref18_Count.calls k a0_2 a0_3 t207 _ A8.out).mono ?_
     rintro e w104 ⟨rfl, hb⟩
     refine ⟨_, rfl, ?_⟩
     have n0_ := Aside0.mk (blk_below (g := gb199) (o := .cells #[.int .u64 a0_0, .bool a0_1, .int .u64 a0_2, .bool a0_3, .int .u64 a0_4, .bool a0_5, .int .u64 a0_6, .bool a0_7, .int .u64 a0_8, .bool a0_9] 26 (0, 0)) (by (with_reducible repeat (first | refine blk_drewN ?_ _ | refine blk_drew ?_ | refine blk_alloc ?_ _)); exact BK199.out) hb)
     have n1_ := Aside0.mk (below_step (by repeat (first | (with_reducible first | exact HB.out | apply below_alloc | apply pw_below_drewN | apply below_drew1 | refine below_set ?_ GE199.out) | exact HB.out)) hb)
     clear BK199
     clear HB
     have BK199 := n0_
     have HB := n1_
     clear n0_ n1_
     (try clear hb)
     (try clear hb2)
     (try clear hk)
     (try clear hi)
     refine hK.out _ _ ⟨(blk_cell BK199.out 0).trans rfl, (blk_cell BK199.out 1).trans rfl, (blk_cell BK199.out 2).trans rfl, (blk_cell BK199.out 3).trans rfl, (blk_cell BK199.out 4).trans rfl, (blk_cell BK199.out 5).trans rfl, (blk_cell BK199.out 6).trans rfl, (blk_cell BK199.out 7).trans rfl, (blk_cell BK199.out 8).trans rfl, (blk_cell BK199.out 9).trans rfl⟩ (fun hHeld => ?_)
     clear hK K
     refine norm_ (a' := ?_) ?_ ?_
     rotate_left
     ·show Act.put _ (some 35) _ = _
      simp only [Act.put, List.setIfInBounds_toArray, List.set_cons_zero, List.set_cons_succ, i64_w, i32_w]
      rfl
     refine one_ (i := 5) (N := some 38) #[true, true, true, true, true, true, false, false] rfl rfl (one_of HT_.out (by kernel_rfl)) (by decide) (fun K hK => ?_)
     refine goes_ Tryz.func15 (by kernel_rfl) rfl #[.agg #[.int .u64 a0_0, .bool a0_1]] (by rfl) rfl rfl (by (try simp only [List.map_toArray, List.map_cons, List.map_nil]); first | done | rfl | (simp only [List.length_drop, List.length_take]; rfl)) ?_
     with_reducible refine (complineref18_Count.calls k a0_0 a0_1 t208 _ A9.out).mono ?_
     rintro e w105 ⟨rfl, hb⟩
     refine ⟨_, rfl, ?_⟩
     have n0_ := Aside0.mk (blk_below (g := gb199) (o := .cells #[.int .u64 a0_0, .bool a0_1, .int .u64 a0_2, .bool a0_3, .int .u64 a0_4, .bool a0_5, .int .u64 a0_6, .bool a0_7, .int .u64 a0_8, .bool a0_9] 26 (0, 0)) (by (with_reducible repeat (first | refine blk_drewN ?_ _ | refine blk_drew ?_ | refine blk_alloc ?_ _)); exact BK199.out) hb)
     have n1_ := Aside0.mk (below_step (by repeat (first | (with_reducible first | exact HB.out | apply below_alloc | apply pw_below_drewN | apply below_drew1 | refine below_set ?_ GE199.out) | exact HB.out)) hb)
     clear BK199
     clear HB
     have BK199 := n0_
     have HB := n1_
     clear n0_ n1_
     (try clear hb)
     (try clear hb2)
     (try clear hk)
     (try clear hi)
     refine hK.out _ _ ⟨(blk_cell BK199.out 0).trans rfl, (blk_cell BK199.out 1).trans rfl, (blk_cell BK199.out 2).trans rfl, (blk_cell BK199.out 3).trans rfl, (blk_cell BK199.out 4).trans rfl, (blk_cell BK199.out 5).trans rfl, (blk_cell BK199.out 6).trans rfl, (blk_cell BK199.out 7).trans rfl, (blk_cell BK199.out 8).trans rfl, (blk_cell BK199.out 9).trans rfl⟩ (fun hHeld => ?_)
     clear hK K
     refine norm_ (a' := ?_) ?_ ?_
     rotate_left
     ·show Act.put _ (some 38) _ = _
      simp only [Act.put, List.setIfInBounds_toArray, List.set_cons_zero, List.set_cons_succ, i64_w, i32_w]
      rfl
     refine pure_ (i := 6) (N := some 39) (v := ?_) (a' := ?_) #[true, true, true, true, true, true, true, false] rfl rfl (any_of HT_.out (by kernel_rfl)) (fun _ _ _ h => h) (Or.inl ⟨by rfl, ?_⟩) ?_ ?_
     rotate_left
     ·intro w'
      go_simp
      with_reducible rfl
     rotate_left
     ·simp only [Act.put, List.setIfInBounds_toArray, List.set_cons_zero, List.set_cons_succ, i64_w, i32_w]
      rfl
     refine pure_ (i := 7) (N := some 12) (v := ?_) (a' := ?_) #[true, true, true, true, true, true, true, true] rfl rfl (any_of HT_.out (by kernel_rfl)) (fun _ _ _ h => h) (Or.inl ⟨by rfl, ?_⟩) ?_ ?_
     rotate_left
     ·intro w'
      go_simp
      with_reducible rfl
     rotate_left
     ·simp only [Act.put, List.setIfInBounds_toArray, List.set_cons_zero, List.set_cons_succ, i64_w, i32_w]
      rfl
     refine done_ (done_of HT_.out (by kernel_rfl)) ?_
     try go_wp2
     go_ret
     exact ⟨by first | rfl | (simp [errW_none, errW_some] <;> rfl) | (simp [*, errW_none, errW_some] <;> rfl), by repeat (first | (with_reducible first | exact HB.out | apply below_alloc | apply pw_below_drewN | apply below_drew1 | refine below_set ?_ GE199.out) | exact HB.out)⟩
   ·rw [if_neg c58] at H
    have c58b0 : (t201 == t203) = false := by simpa using c58
    (try (have c58b1 : decide (t201 = t203) = false := by simpa using c58))
    (try (have c58b2 : (t201 == t203) = false := by simpa using c58))
    (try (have c58b3 : ¬ (t201 = t203) := by simpa using c58))
    clear c58
    obtain rfl := Option.some.inj H
    go_enter Tryz.func4, Tryz.ntmps4
    try go_wp2_with (first | ((with_reducible refine gate_dst (N := 2) rfl ?_); refine box_event ?hg (N := 2) ?hd (cs := #[.int .u64 a0_0, .bool a0_1, .int .u64 a0_2, .bool a0_3, .int .u64 a0_4, .bool a0_5, .int .u64 a0_6, .bool a0_7, .int .u64 a0_8, .bool a0_9]) (t := 26) ?hr ?_; (case hd => rfl); (case hg => rfl); (case hr => first | (go_simp; done) | (go_simp; rfl)); intro gb199 hg w106 hbox hb; have n0_ := Aside0.mk (below_step (by repeat (first | (with_reducible first | exact HB.out | apply below_alloc | apply pw_below_drewN | apply below_drew1) | exact HB.out)) hb); have n1_ := Aside0.mk (hbox); have n2_ := Aside0.mk ((by rw [hg]; exact (below_size (by repeat (first | (with_reducible first | exact HB.out | apply below_alloc | apply pw_below_drewN | apply below_drew1) | exact HB.out))) : w.heap.size ≤ gb199)); have n3_ := Aside0.mk ((by rw [hg]; exact (below_size (by repeat (first | (with_reducible first | exact HB.out | apply below_alloc | apply pw_below_drewN | apply below_drew1) | exact HB.out))) : w.heap.size ≤ gb199)); clear HB; have HB := n0_; have BK199 := n1_; have GW199 := n2_; have GE199 := n3_; clear n0_ n1_ n2_ n3_; clear hb hbox hg) | ((with_reducible refine gate_callee (f := 9) rfl ?_); refine goesL_ (some 13) rfl rfl Tryz.func9 (by kernel_rfl) rfl #[] rfl (by (try simp only [List.map_toArray, List.map_cons, List.map_nil]); first | done | rfl | (simp only [List.length_drop, List.length_take]; rfl)) ?_; (with_reducible refine (complinelaw21_works.calls  true _ (hT.keep (by repeat (first | (with_reducible first | exact HB.out | apply below_alloc | apply pw_below_drewN | apply below_drew1 | refine below_set ?_ GE199.out) | exact HB.out))) A3.out).mono ?_); rintro e w107 ⟨rfl, hb⟩; refine ⟨_, rfl, ?_⟩; have n0_ := Aside0.mk (blk_below (g := gb199) (o := .cells #[.int .u64 a0_0, .bool a0_1, .int .u64 a0_2, .bool a0_3, .int .u64 a0_4, .bool a0_5, .int .u64 a0_6, .bool a0_7, .int .u64 a0_8, .bool a0_9] 26 (0, 0)) (by (with_reducible repeat (first | refine blk_drewN ?_ _ | refine blk_drew ?_ | refine blk_alloc ?_ _)); exact BK199.out) hb); have n1_ := Aside0.mk (below_step (by repeat (first | (with_reducible first | exact HB.out | apply below_alloc | apply pw_below_drewN | apply below_drew1 | refine below_set ?_ GE199.out) | exact HB.out)) hb); clear BK199; clear HB; have BK199 := n0_; have HB := n1_; clear n0_ n1_; (try clear hb); (try clear hb2); (try clear hk); (try clear hi); have hcz108_0 : w107.cell? ⟨gb199, 0, none⟩ = some (.int .u64 a0_0) := (blk_cell BK199.out 0).trans rfl; have hcz108_1 : w107.cell? ⟨gb199, 1, none⟩ = some (.bool a0_1) := (blk_cell BK199.out 1).trans rfl; have hcz108_2 : w107.cell? ⟨gb199, 2, none⟩ = some (.int .u64 a0_2) := (blk_cell BK199.out 2).trans rfl; have hcz108_3 : w107.cell? ⟨gb199, 3, none⟩ = some (.bool a0_3) := (blk_cell BK199.out 3).trans rfl; have hcz108_4 : w107.cell? ⟨gb199, 4, none⟩ = some (.int .u64 a0_4) := (blk_cell BK199.out 4).trans rfl; have hcz108_5 : w107.cell? ⟨gb199, 5, none⟩ = some (.bool a0_5) := (blk_cell BK199.out 5).trans rfl; have hcz108_6 : w107.cell? ⟨gb199, 6, none⟩ = some (.int .u64 a0_6) := (blk_cell BK199.out 6).trans rfl; have hcz108_7 : w107.cell? ⟨gb199, 7, none⟩ = some (.bool a0_7) := (blk_cell BK199.out 7).trans rfl; have hcz108_8 : w107.cell? ⟨gb199, 8, none⟩ = some (.int .u64 a0_8) := (blk_cell BK199.out 8).trans rfl; have hcz108_9 : w107.cell? ⟨gb199, 9, none⟩ = some (.bool a0_9) := (blk_cell BK199.out 9).trans rfl; have hfz108_0 := blk_frozen BK199.out 0; have hfz108_1 := blk_frozen BK199.out 1; have hfz108_2 := blk_frozen BK199.out 2; have hfz108_3 := blk_frozen BK199.out 3; have hfz108_4 := blk_frozen BK199.out 4; have hfz108_5 := blk_frozen BK199.out 5; have hfz108_6 := blk_frozen BK199.out 6; have hfz108_7 := blk_frozen BK199.out 7; have hfz108_8 := blk_frozen BK199.out 8; have hfz108_9 := blk_frozen BK199.out 9) | ((with_reducible refine gate_callee (f := 12) rfl ?_); refine goesL_ (some 19) rfl rfl Tryz.func12 (by kernel_rfl) rfl #[.agg #[.int .u64 a0_0, .bool a0_1, .int .u64 a0_2, .bool a0_3, .int .u64 a0_4, .bool a0_5, .int .u64 a0_6, .bool a0_7, .int .u64 a0_8, .bool a0_9], .int .i64 a1] rfl (by (try simp only [List.map_toArray, List.map_cons, List.map_nil]); first | done | rfl | (simp only [List.length_drop, List.length_take]; rfl)) ?_; (with_reducible refine (day_Match.calls a0_0 a0_1 a0_2 a0_3 a0_4 a0_5 a0_6 a0_7 a0_8 a0_9 a1 t201 t202 _ A5.out).mono ?_); rintro e w109 ⟨rfl, hb⟩; refine ⟨_, rfl, ?_⟩; have n0_ := Aside0.mk (blk_below (g := gb199) (o := .cells #[.int .u64 a0_0, .bool a0_1, .int .u64 a0_2, .bool a0_3, .int .u64 a0_4, .bool a0_5, .int .u64 a0_6, .bool a0_7, .int .u64 a0_8, .bool a0_9] 26 (0, 0)) (by (with_reducible repeat (first | refine blk_drewN ?_ _ | refine blk_drew ?_ | refine blk_alloc ?_ _)); exact BK199.out) hb); have n1_ := Aside0.mk (below_step (by repeat (first | (with_reducible first | exact HB.out | apply below_alloc | apply pw_below_drewN | apply below_drew1 | refine below_set ?_ GE199.out) | exact HB.out)) hb); clear BK199; clear HB; have BK199 := n0_; have HB := n1_; clear n0_ n1_; (try clear hb); (try clear hb2); (try clear hk); (try clear hi); have hcz110_0 : w109.cell? ⟨gb199, 0, none⟩ = some (.int .u64 a0_0) := (blk_cell BK199.out 0).trans rfl; have hcz110_1 : w109.cell? ⟨gb199, 1, none⟩ = some (.bool a0_1) := (blk_cell BK199.out 1).trans rfl; have hcz110_2 : w109.cell? ⟨gb199, 2, none⟩ = some (.int .u64 a0_2) := (blk_cell BK199.out 2).trans rfl; have hcz110_3 : w109.cell? ⟨gb199, 3, none⟩ = some (.bool a0_3) := (blk_cell BK199.out 3).trans rfl; have hcz110_4 : w109.cell? ⟨gb199, 4, none⟩ = some (.int .u64 a0_4) := (blk_cell BK199.out 4).trans rfl; have hcz110_5 : w109.cell? ⟨gb199, 5, none⟩ = some (.bool a0_5) := (blk_cell BK199.out 5).trans rfl; have hcz110_6 : w109.cell? ⟨gb199, 6, none⟩ = some (.int .u64 a0_6) := (blk_cell BK199.out 6).trans rfl; have hcz110_7 : w109.cell? ⟨gb199, 7, none⟩ = some (.bool a0_7) := (blk_cell BK199.out 7).trans rfl; have hcz110_8 : w109.cell? ⟨gb199, 8, none⟩ = some (.int .u64 a0_8) := (blk_cell BK199.out 8).trans rfl; have hcz110_9 : w109.cell? ⟨gb199, 9, none⟩ = some (.bool a0_9) := (blk_cell BK199.out 9).trans rfl; have hfz110_0 := blk_frozen BK199.out 0; have hfz110_1 := blk_frozen BK199.out 1; have hfz110_2 := blk_frozen BK199.out 2; have hfz110_3 := blk_frozen BK199.out 3; have hfz110_4 := blk_frozen BK199.out 4; have hfz110_5 := blk_frozen BK199.out 5; have hfz110_6 := blk_frozen BK199.out 6; have hfz110_7 := blk_frozen BK199.out 7; have hfz110_8 := blk_frozen BK199.out 8; have hfz110_9 := blk_frozen BK199.out 9) | ((with_reducible refine gate_callee (f := 13) rfl ?_); refine goesL_ (some 25) rfl rfl Tryz.func13 (by kernel_rfl) rfl #[.agg #[.int .u64 a0_0, .bool a0_1, .int .u64 a0_2, .bool a0_3, .int .u64 a0_4, .bool a0_5, .int .u64 a0_6, .bool a0_7, .int .u64 a0_8, .bool a0_9], .int .i64 a1] rfl (by (try simp only [List.map_toArray, List.map_cons, List.map_nil]); first | done | rfl | (simp only [List.length_drop, List.length_take]; rfl)) ?_; (with_reducible refine (complineref21_Match.calls k a0_0 a0_1 a0_2 a0_3 a0_4 a0_5 a0_6 a0_7 a0_8 a0_9 a1 t203 t204 _ A6.out).mono ?_); rintro e w111 ⟨rfl, hb⟩; refine ⟨_, rfl, ?_⟩; have n0_ := Aside0.mk (blk_below (g := gb199) (o := .cells #[.int .u64 a0_0, .bool a0_1, .int .u64 a0_2, .bool a0_3, .int .u64 a0_4, .bool a0_5, .int .u64 a0_6, .bool a0_7, .int .u64 a0_8, .bool a0_9] 26 (0, 0)) (by (with_reducible repeat (first | refine blk_drewN ?_ _ | refine blk_drew ?_ | refine blk_alloc ?_ _)); exact BK199.out) hb); have n1_ := Aside0.mk (below_step (by repeat (first | (with_reducible first | exact HB.out | apply below_alloc | apply pw_below_drewN | apply below_drew1 | refine below_set ?_ GE199.out) | exact HB.out)) hb); clear BK199; clear HB; have BK199 := n0_; have HB := n1_; clear n0_ n1_; (try clear hb); (try clear hb2); (try clear hk); (try clear hi); have hcz112_0 : w111.cell? ⟨gb199, 0, none⟩ = some (.int .u64 a0_0) := (blk_cell BK199.out 0).trans rfl; have hcz112_1 : w111.cell? ⟨gb199, 1, none⟩ = some (.bool a0_1) := (blk_cell BK199.out 1).trans rfl; have hcz112_2 : w111.cell? ⟨gb199, 2, none⟩ = some (.int .u64 a0_2) := (blk_cell BK199.out 2).trans rfl; have hcz112_3 : w111.cell? ⟨gb199, 3, none⟩ = some (.bool a0_3) := (blk_cell BK199.out 3).trans rfl; have hcz112_4 : w111.cell? ⟨gb199, 4, none⟩ = some (.int .u64 a0_4) := (blk_cell BK199.out 4).trans rfl; have hcz112_5 : w111.cell? ⟨gb199, 5, none⟩ = some (.bool a0_5) := (blk_cell BK199.out 5).trans rfl; have hcz112_6 : w111.cell? ⟨gb199, 6, none⟩ = some (.int .u64 a0_6) := (blk_cell BK199.out 6).trans rfl; have hcz112_7 : w111.cell? ⟨gb199, 7, none⟩ = some (.bool a0_7) := (blk_cell BK199.out 7).trans rfl; have hcz112_8 : w111.cell? ⟨gb199, 8, none⟩ = some (.int .u64 a0_8) := (blk_cell BK199.out 8).trans rfl; have hcz112_9 : w111.cell? ⟨gb199, 9, none⟩ = some (.bool a0_9) := (blk_cell BK199.out 9).trans rfl; have hfz112_0 := blk_frozen BK199.out 0; have hfz112_1 := blk_frozen BK199.out 1; have hfz112_2 := blk_frozen BK199.out 2; have hfz112_3 := blk_frozen BK199.out 3; have hfz112_4 := blk_frozen BK199.out 4; have hfz112_5 := blk_frozen BK199.out 5; have hfz112_6 := blk_frozen BK199.out 6; have hfz112_7 := blk_frozen BK199.out 7; have hfz112_8 := blk_frozen BK199.out 8; have hfz112_9 := blk_frozen BK199.out 9) | ((with_reducible refine gate_callee (f := 14) rfl ?_); refine goesL_ (some 30) rfl rfl Tryz.func14 (by kernel_rfl) rfl #[.agg #[.int .u64 a0_0, .bool a0_1, .int .u64 a0_2, .bool a0_3, .int .u64 a0_4, .bool a0_5, .int .u64 a0_6, .bool a0_7, .int .u64 a0_8, .bool a0_9]] rfl (by (try simp only [List.map_toArray, List.map_cons, List.map_nil]); first | done | rfl | (simp only [List.length_drop, List.length_take]; rfl)) ?_; (with_reducible refine (day_Minutes.calls a0_0 a0_1 a0_2 a0_3 a0_4 a0_5 a0_6 a0_7 a0_8 a0_9 t205 t206 _ A7.out).mono ?_); rintro e w113 ⟨rfl, hb⟩; refine ⟨_, rfl, ?_⟩; have n0_ := Aside0.mk (blk_below (g := gb199) (o := .cells #[.int .u64 a0_0, .bool a0_1, .int .u64 a0_2, .bool a0_3, .int .u64 a0_4, .bool a0_5, .int .u64 a0_6, .bool a0_7, .int .u64 a0_8, .bool a0_9] 26 (0, 0)) (by (with_reducible repeat (first | refine blk_drewN ?_ _ | refine blk_drew ?_ | refine blk_alloc ?_ _)); exact BK199.out) hb); have n1_ := Aside0.mk (below_step (by repeat (first | (with_reducible first | exact HB.out | apply below_alloc | apply pw_below_drewN | apply below_drew1 | refine below_set ?_ GE199.out) | exact HB.out)) hb); clear BK199; clear HB; have BK199 := n0_; have HB := n1_; clear n0_ n1_; (try clear hb); (try clear hb2); (try clear hk); (try clear hi)))
    have n0_ := Aside0.mk (blk_drew BK199.out)
    have n1_ := Aside0.mk (below_drew1 HB.out)
    clear BK199
    clear HB
    have BK199 := n0_
    have HB := n1_
    clear n0_ n1_
    refine start_ (n := 8) (S := fun w' => w'.cell? ⟨gb199, 0, none⟩ = some (.int .u64 a0_0) ∧ w'.cell? ⟨gb199, 1, none⟩ = some (.bool a0_1) ∧ w'.cell? ⟨gb199, 2, none⟩ = some (.int .u64 a0_2) ∧ w'.cell? ⟨gb199, 3, none⟩ = some (.bool a0_3) ∧ w'.cell? ⟨gb199, 4, none⟩ = some (.int .u64 a0_4) ∧ w'.cell? ⟨gb199, 5, none⟩ = some (.bool a0_5) ∧ w'.cell? ⟨gb199, 6, none⟩ = some (.int .u64 a0_6) ∧ w'.cell? ⟨gb199, 7, none⟩ = some (.bool a0_7) ∧ w'.cell? ⟨gb199, 8, none⟩ = some (.int .u64 a0_8) ∧ w'.cell? ⟨gb199, 9, none⟩ = some (.bool a0_9)) (ds := []) #[false, false, false, false, false, false, false, false] (by kernel_rfl) rfl rfl ⟨(blk_cell BK199.out 0).trans rfl, (blk_cell BK199.out 1).trans rfl, (blk_cell BK199.out 2).trans rfl, (blk_cell BK199.out 3).trans rfl, (blk_cell BK199.out 4).trans rfl, (blk_cell BK199.out 5).trans rfl, (blk_cell BK199.out 6).trans rfl, (blk_cell BK199.out 7).trans rfl, (blk_cell BK199.out 8).trans rfl, (blk_cell BK199.out 9).trans rfl⟩ (fun hHeld => ?_); refine with_tabW complinelaw21_DayMatches.tab7 complinelaw21_DayMatches.bits7 (fun HT_ HW_ => ?_)
    generalize w113.drew = w114 at BK199 HB hHeld ⊢
    refine pure_ (i := 0) (N := some 33) (v := ?_) (a' := ?_) #[true, false, false, false, false, false, false, false] rfl rfl (any_of HT_.out (by kernel_rfl)) (fun _ _ _ h => h) (Or.inl ⟨by rfl, ?_⟩) ?_ ?_
    rotate_left
    ·intro w'
     go_simp
     with_reducible rfl
    rotate_left
    ·simp only [Act.put, List.setIfInBounds_toArray, List.set_cons_zero, List.set_cons_succ, i64_w, i32_w]
     rfl
    refine pure_ (i := 3) (N := some 36) (v := ?_) (a' := ?_) #[true, false, false, true, false, false, false, false] rfl rfl (any_of HT_.out (by kernel_rfl)) (fun _ _ _ h => h) (Or.inl ⟨by rfl, ?_⟩) ?_ ?_
    rotate_left
    ·intro w'
     go_simp
     with_reducible rfl
    rotate_left
    ·simp only [Act.put, List.setIfInBounds_toArray, List.set_cons_zero, List.set_cons_succ, i64_w, i32_w]
     rfl
    refine take_ (i := 1) (N := some 34) (v := ?_) (a' := ?_) #[true, true, false, true, false, false, false, false] rfl rfl (take_ofW HT_.out HW_.out (by kernel_rfl)) (fun _ _ _ h => h) (Or.inl ⟨by rfl, ?_⟩) hHeld ?_ ?_
    rotate_left
    ·rintro w' ⟨s0, s1, s2, s3, s4, s5, s6, s7, s8, s9⟩
     go_simp
     with_reducible rfl
    rotate_left
    ·simp only [Act.put, List.setIfInBounds_toArray, List.set_cons_zero, List.set_cons_succ, i64_w, i32_w]
     rfl
    refine take_ (i := 4) (N := some 37) (v := ?_) (a' := ?_) #[true, true, false, true, true, false, false, false] rfl rfl (take_ofW HT_.out HW_.out (by kernel_rfl)) (fun _ _ _ h => h) (Or.inl ⟨by rfl, ?_⟩) hHeld ?_ ?_
    rotate_left
    ·rintro w' ⟨s0, s1, s2, s3, s4, s5, s6, s7, s8, s9⟩
     go_simp
     with_reducible rfl
    rotate_left
    ·simp only [Act.put, List.setIfInBounds_toArray, List.set_cons_zero, List.set_cons_succ, i64_w, i32_w]
     rfl
    refine one_ (i := 2) (N := some 35) #[true, true, true, true, true, false, false, false] rfl rfl (one_of HT_.out (by kernel_rfl)) (by decide) (fun K hK => ?_)
    refine goes_ Tryz.func15 (by kernel_rfl) rfl #[.agg #[.int .u64 a0_2, .bool a0_3]] (by rfl) rfl rfl (by (try simp only [List.map_toArray, List.map_cons, List.map_nil]); first | done | rfl | (simp only [List.length_drop, List.length_take]; rfl)) ?_
    with_reducible refine (complineref18_Count.calls k a0_2 a0_3 t207 _ A8.out).mono ?_
    rintro e w115 ⟨rfl, hb⟩
    refine ⟨_, rfl, ?_⟩
    have n0_ := Aside0.mk (blk_below (g := gb199) (o := .cells #[.int .u64 a0_0, .bool a0_1, .int .u64 a0_2, .bool a0_3, .int .u64 a0_4, .bool a0_5, .int .u64 a0_6, .bool a0_7, .int .u64 a0_8, .bool a0_9] 26 (0, 0)) (by (with_reducible repeat (first | refine blk_drewN ?_ _ | refine blk_drew ?_ | refine blk_alloc ?_ _)); exact BK199.out) hb)
    have n1_ := Aside0.mk (below_step (by repeat (first | (with_reducible first | exact HB.out | apply below_alloc | apply pw_below_drewN | apply below_drew1 | refine below_set ?_ GE199.out) | exact HB.out)) hb)
    clear BK199
    clear HB
    have BK199 := n0_
    have HB := n1_
    clear n0_ n1_
    (try clear hb)
    (try clear hb2)
    (try clear hk)
    (try clear hi)
    refine hK.out _ _ ⟨(blk_cell BK199.out 0).trans rfl, (blk_cell BK199.out 1).trans rfl, (blk_cell BK199.out 2).trans rfl, (blk_cell BK199.out 3).trans rfl, (blk_cell BK199.out 4).trans rfl, (blk_cell BK199.out 5).trans rfl, (blk_cell BK199.out 6).trans rfl, (blk_cell BK199.out 7).trans rfl, (blk_cell BK199.out 8).trans rfl, (blk_cell BK199.out 9).trans rfl⟩ (fun hHeld => ?_)
    clear hK K
    refine norm_ (a' := ?_) ?_ ?_
    rotate_left
    ·show Act.put _ (some 35) _ = _
     simp only [Act.put, List.setIfInBounds_toArray, List.set_cons_zero, List.set_cons_succ, i64_w, i32_w]
     rfl
    refine one_ (i := 5) (N := some 38) #[true, true, true, true, true, true, false, false] rfl rfl (one_of HT_.out (by kernel_rfl)) (by decide) (fun K hK => ?_)
    refine goes_ Tryz.func15 (by kernel_rfl) rfl #[.agg #[.int .u64 a0_0, .bool a0_1]] (by rfl) rfl rfl (by (try simp only [List.map_toArray, List.map_cons, List.map_nil]); first | done | rfl | (simp only [List.length_drop, List.length_take]; rfl)) ?_
    with_reducible refine (complineref18_Count.calls k a0_0 a0_1 t208 _ A9.out).mono ?_
    rintro e w116 ⟨rfl, hb⟩
    refine ⟨_, rfl, ?_⟩
    have n0_ := Aside0.mk (blk_below (g := gb199) (o := .cells #[.int .u64 a0_0, .bool a0_1, .int .u64 a0_2, .bool a0_3, .int .u64 a0_4, .bool a0_5, .int .u64 a0_6, .bool a0_7, .int .u64 a0_8, .bool a0_9] 26 (0, 0)) (by (with_reducible repeat (first | refine blk_drewN ?_ _ | refine blk_drew ?_ | refine blk_alloc ?_ _)); exact BK199.out) hb)
    have n1_ := Aside0.mk (below_step (by repeat (first | (with_reducible first | exact HB.out | apply below_alloc | apply pw_below_drewN | apply below_drew1 | refine below_set ?_ GE199.out) | exact HB.out)) hb)
    clear BK199
    clear HB
    have BK199 := n0_
    have HB := n1_
    clear n0_ n1_
    (try clear hb)
    (try clear hb2)
    (try clear hk)
    (try clear hi)
    refine hK.out _ _ ⟨(blk_cell BK199.out 0).trans rfl, (blk_cell BK199.out 1).trans rfl, (blk_cell BK199.out 2).trans rfl, (blk_cell BK199.out 3).trans rfl, (blk_cell BK199.out 4).trans rfl, (blk_cell BK199.out 5).trans rfl, (blk_cell BK199.out 6).trans rfl, (blk_cell BK199.out 7).trans rfl, (blk_cell BK199.out 8).trans rfl, (blk_cell BK199.out 9).trans rfl⟩ (fun hHeld => ?_)
    clear hK K
    refine norm_ (a' := ?_) ?_ ?_
    rotate_left
    ·show Act.put _ (some 38) _ = _
     simp only [Act.put, List.setIfInBounds_toArray, List.set_cons_zero, List.set_cons_succ, i64_w, i32_w]
     rfl
    refine pure_ (i := 6) (N := some 39) (v := ?_) (a' := ?_) #[true, true, true, true, true, true, true, false] rfl rfl (any_of HT_.out (by kernel_rfl)) (fun _ _ _ h => h) (Or.inl ⟨by rfl, ?_⟩) ?_ ?_
    rotate_left
    ·intro w'
     go_simp
     with_reducible rfl
    rotate_left
    ·simp only [Act.put, List.setIfInBounds_toArray, List.set_cons_zero, List.set_cons_succ, i64_w, i32_w]
     rfl
    refine pure_ (i := 7) (N := some 12) (v := ?_) (a' := ?_) #[true, true, true, true, true, true, true, true] rfl rfl (any_of HT_.out (by kernel_rfl)) (fun _ _ _ h => h) (Or.inl ⟨by rfl, ?_⟩) ?_ ?_
    rotate_left
    ·intro w'
     go_simp
     with_reducible rfl
    rotate_left
    ·simp only [Act.put, List.setIfInBounds_toArray, List.set_cons_zero, List.set_cons_succ, i64_w, i32_w]
     rfl
    refine done_ (done_of HT_.out (by kernel_rfl)) ?_
    try go_wp2
    go_ret
    exact ⟨by first | rfl | (simp [errW_none, errW_some] <;> rfl) | (simp [*, errW_none, errW_some] <;> rfl), by repeat (first | (with_reducible first | exact HB.out | apply below_alloc | apply pw_below_drewN | apply below_drew1 | refine below_set ?_ GE199.out) | exact HB.out)⟩
 ·replace c4 := Bool.eq_false_iff.mpr c4
  subst c4
  have H1 : (some false) = some r := by rw [if_neg (show ¬ (false = true) by decide)] at H; exact H
  clear H
  have H := H1
  clear H1
  obtain rfl := Option.some.inj H
  go_enter Tryz.func4, Tryz.ntmps4
  go_wp2_with (first | ((with_reducible refine gate_dst (N := 2) rfl ?_); refine box_event ?hg (N := 2) ?hd (cs := #[.int .u64 a0_0, .bool a0_1, .int .u64 a0_2, .bool a0_3, .int .u64 a0_4, .bool a0_5, .int .u64 a0_6, .bool a0_7, .int .u64 a0_8, .bool a0_9]) (t := 26) ?hr ?_; (case hd => rfl); (case hg => rfl); (case hr => first | (go_simp; done) | (go_simp; rfl)); intro gb199 hg w117 hbox hb; have n0_ := Aside0.mk (below_step (by repeat (first | (with_reducible first | exact HB.out | apply below_alloc | apply pw_below_drewN | apply below_drew1) | exact HB.out)) hb); have n1_ := Aside0.mk (hbox); have n2_ := Aside0.mk ((by rw [hg]; exact (below_size (by repeat (first | (with_reducible first | exact HB.out | apply below_alloc | apply pw_below_drewN | apply below_drew1) | exact HB.out))) : w.heap.size ≤ gb199)); have n3_ := Aside0.mk ((by rw [hg]; exact (below_size (by repeat (first | (with_reducible first | exact HB.out | apply below_alloc | apply pw_below_drewN | apply below_drew1) | exact HB.out))) : w.heap.size ≤ gb199)); clear HB; have HB := n0_; have BK199 := n1_; have GW199 := n2_; have GE199 := n3_; clear n0_ n1_ n2_ n3_; clear hb hbox hg) | ((with_reducible refine gate_callee (f := 9) rfl ?_); refine goesL_ (some 13) rfl rfl Tryz.func9 (by kernel_rfl) rfl #[] rfl (by (try simp only [List.map_toArray, List.map_cons, List.map_nil]); first | done | rfl | (simp only [List.length_drop, List.length_take]; rfl)) ?_; (with_reducible refine (complinelaw21_works.calls  false _ (hT.keep (by repeat (first | (with_reducible first | exact HB.out | apply below_alloc | apply pw_below_drewN | apply below_drew1 | refine below_set ?_ GE199.out) | exact HB.out))) A3.out).mono ?_); rintro e w118 ⟨rfl, hb⟩; refine ⟨_, rfl, ?_⟩; have n0_ := Aside0.mk (blk_below (g := gb199) (o := .cells #[.int .u64 a0_0, .bool a0_1, .int .u64 a0_2, .bool a0_3, .int .u64 a0_4, .bool a0_5, .int .u64 a0_6, .bool a0_7, .int .u64 a0_8, .bool a0_9] 26 (0, 0)) (by (with_reducible repeat (first | refine blk_drewN ?_ _ | refine blk_drew ?_ | refine blk_alloc ?_ _)); exact BK199.out) hb); have n1_ := Aside0.mk (below_step (by repeat (first | (with_reducible first | exact HB.out | apply below_alloc | apply pw_below_drewN | apply below_drew1 | refine below_set ?_ GE199.out) | exact HB.out)) hb); clear BK199; clear HB; have BK199 := n0_; have HB := n1_; clear n0_ n1_; (try clear hb); (try clear hb2); (try clear hk); (try clear hi)))
  go_ret
  exact ⟨by first | rfl | (simp [errW_none, errW_some] <;> rfl) | (simp [*, errW_none, errW_some] <;> rfl), by repeat (first | (with_reducible first | exact HB.out | apply below_alloc | apply pw_below_drewN | apply below_drew1 | refine below_set ?_ GE199.out) | exact HB.out)⟩

end Go.Proofs.YtcjfjicagopppaaGreatDoor.PDay
