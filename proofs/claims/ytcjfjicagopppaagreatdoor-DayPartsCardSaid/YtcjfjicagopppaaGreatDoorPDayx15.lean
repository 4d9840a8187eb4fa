-- Written by a program of this session (gprint.py) over the kit's print.
import Derived.Test.YtcjfjicagopppaaGreatDoorPDayx0
import Derived.Test.YtcjfjicagopppaaGreatDoorPDayx1
import Derived.Test.YtcjfjicagopppaaGreatDoorPDayx4
import Derived.Test.YtcjfjicagopppaaGreatDoorPDayx5
import Derived.Test.YtcjfjicagopppaaGreatDoorPDayx9
namespace Go.Proofs.YtcjfjicagopppaaGreatDoor.PDay
open Go.RowKit Go.Proofs.YtcjfjicagopppaaGreatDoorW.PrintWords Go.Proofs.YtcjfjicagopppaaGreatDoorW.PrintLast Go.Proofs.YtcjfjicagopppaaGreatDoorW.PrintMore
attribute [local go_sem] max2_int min2_int max_two min_two max_three min_three max_four min_four   -- for this text's walks alone
set_option linter.unusedVariables false
set_option linter.unusedSimpArgs false

/-! ### complinelaw21_DayParts: function 5 -/
def complinelaw21_DayParts.j0 : Nat → Bool → Bool → Int → Bool → Int → Bool → Int → Bool → Int → Bool → Int → Bool → Int → Bool → Int → Int → Int → Int → Int → Int → Option (Bool)
 | 0, _, _, _, _, _, _, _, _, _, _, _, _, _, _, _, _, _, _, _, _ => none
 | k + 1, x5, x6, x7, x31, x210000, x210001, x210002, x210003, x210004, x210005, x210006, x210007, x210008, x210009, x221000, x221001, x221002, x221003, x221004, x221005 => if x31 = true then (if x5 = true then (if x6 = true then (some false) else (some (x7 != 0))) else (some false)) else ((day_Mask.f x210000 x210001 x210002 x210003 x210004 x210005 x210006 x210007 x210008 x210009 x221000 x221001).bind fun bt221 => (if x5 = true then (if bt221.2 = 0 then (if 0 ≤ (IntKind.u64.wrap (x221002)) then (if (Go.bits .and .u32 (shr .u32 bt221.1 (IntKind.u64.wrap (x221002))) 1) = 1 then ((field_Has.f x210002 x210003 x221003).bind fun t223 => (if t223 = true then ((field_Has.f x210000 x210001 x221004).bind fun t224 => (some (x6 == t224))) else (some (x6 == false)))) else (some (x6 == false))) else (none)) else (some false)) else (some false)))
def complinelaw21_DayParts.f (k : Nat) (a0_0 : Int) (a0_1 : Bool) (a0_2 : Int) (a0_3 : Bool) (a0_4 : Int) (a0_5 : Bool) (a0_6 : Int) (a0_7 : Bool) (a0_8 : Int) (a0_9 : Bool) (a1 : Int) : Option (Bool) := (complinelaw21_works.f).bind fun t210 => (if t210 = true then ((day_Match.f a0_0 a0_1 a0_2 a0_3 a0_4 a0_5 a0_6 a0_7 a0_8 a0_9 a1).bind fun bt211 => ((civil_Of.f k a1).bind fun bt213 => (if bt211.2 = 0 then (complinelaw21_DayParts.j0 k t210 bt211.1 bt211.2 (bt213.2.2.2.2.2.2 != 0) a0_0 a0_1 a0_2 a0_3 a0_4 a0_5 a0_6 a0_7 a0_8 a0_9 bt213.1 bt213.2.1 bt213.2.2.1 bt213.2.2.2.1 bt213.2.2.2.2.1 bt213.2.2.2.2.2.1) else (complinelaw21_DayParts.j0 k t210 bt211.1 bt211.2 true a0_0 a0_1 a0_2 a0_3 a0_4 a0_5 a0_6 a0_7 a0_8 a0_9 bt213.1 bt213.2.1 bt213.2.2.1 bt213.2.2.2.1 bt213.2.2.2.2.1 bt213.2.2.2.2.2.1)))) else (some false))
theorem complinelaw21_DayParts.mono_l : ∀ k, (∀ y0 y1 y2 y3 y4 y5 y6 y7 y8 y9 y10 y11 y12 y13 y14 y15 y16 y17 y18 y19, LeO (complinelaw21_DayParts.j0 k y0 y1 y2 y3 y4 y5 y6 y7 y8 y9 y10 y11 y12 y13 y14 y15 y16 y17 y18 y19) (complinelaw21_DayParts.j0 (k + 1) y0 y1 y2 y3 y4 y5 y6 y7 y8 y9 y10 y11 y12 y13 y14 y15 y16 y17 y18 y19))
 | 0 => fun _ _ _ _ _ _ _ _ _ _ _ _ _ _ _ _ _ _ _ _ r h => by simp [complinelaw21_DayParts.j0] at h
 | k + 1 => by
  have ih0 := complinelaw21_DayParts.mono_l k
  ·intro y0 y1 y2 y3 y4 y5 y6 y7 y8 y9 y10 y11 y12 y13 y14 y15 y16 y17 y18 y19
   unfold complinelaw21_DayParts.j0
   repeat' first
   | (with_reducible exact ih0 _ _ _ _ _ _ _ _ _ _ _ _ _ _ _ _ _ _ _ _)
   | (with_reducible exact civil_Of.mono _ _)
   | (with_reducible exact LeO.refl _)
   | (with_reducible exact LeO.none _)
   | (with_reducible refine LeO.ite ?_ ?_)
   | (with_reducible refine LeO.bind ?_ (fun _ => ?_))
   | exact ih0 _ _ _ _ _ _ _ _ _ _ _ _ _ _ _ _ _ _ _ _
   | exact civil_Of.mono _ _
   | exact LeO.none _
   | refine LeO.ite ?_ ?_
   | refine LeO.bind ?_ (fun _ => ?_)
theorem complinelaw21_DayParts.mono : ∀ a0 a1 a2 a3 a4 a5 a6 a7 a8 a9 a10 k, LeO (complinelaw21_DayParts.f k a0 a1 a2 a3 a4 a5 a6 a7 a8 a9 a10) (complinelaw21_DayParts.f (k + 1) a0 a1 a2 a3 a4 a5 a6 a7 a8 a9 a10) := by
 intro a0 a1 a2 a3 a4 a5 a6 a7 a8 a9 a10 k
 have ih0 := complinelaw21_DayParts.mono_l k
 unfold complinelaw21_DayParts.f
 repeat' first
   | (with_reducible exact ih0 _ _ _ _ _ _ _ _ _ _ _ _ _ _ _ _ _ _ _ _)
   | (with_reducible exact civil_Of.mono _ _)
   | (with_reducible exact LeO.refl _)
   | (with_reducible exact LeO.none _)
   | (with_reducible refine LeO.ite ?_ ?_)
   | (with_reducible refine LeO.bind ?_ (fun _ => ?_))
   | exact ih0 _ _ _ _ _ _ _ _ _ _ _ _ _ _ _ _ _ _ _ _
   | exact civil_Of.mono _ _
   | exact LeO.none _
   | refine LeO.ite ?_ ?_
   | refine LeO.bind ?_ (fun _ => ?_)
set_option maxHeartbeats 8000000 in
set_option maxRecDepth 100000 in
theorem complinelaw21_DayParts.calls (k : Nat) (a0_0 : Int) (a0_1 : Bool) (a0_2 : Int) (a0_3 : Bool) (a0_4 : Int) (a0_5 : Bool) (a0_6 : Int) (a0_7 : Bool) (a0_8 : Int) (a0_9 : Bool) (a1 : Int) (r : Bool) (w : World) (hT : Tab w) (h : complinelaw21_DayParts.f k a0_0 a0_1 a0_2 a0_3 a0_4 a0_5 a0_6 a0_7 a0_8 a0_9 a1 = some r) :
  Calls Tryz.prog 5 #[.agg #[.int .u64 a0_0, .bool a0_1, .int .u64 a0_2, .bool a0_3, .int .u64 a0_4, .bool a0_5, .int .u64 a0_6, .bool a0_7, .int .u64 a0_8, .bool a0_9], .int .i64 a1] w fun e w' => e = .returned (.bool r) ∧ Below w.heap.size w w' := by
 have hu26 := Tryz.underlying26
 have hu40 := Tryz.underlying40
 have hu24 := Tryz.underlying24
 have HB := Aside0.mk (Below.refl w.heap.size w)
 have H : ((complinelaw21_works.f).bind fun t210 => (if t210 = true then ((day_Match.f a0_0 a0_1 a0_2 a0_3 a0_4 a0_5 a0_6 a0_7 a0_8 a0_9 a1).bind fun bt211 => ((civil_Of.f k a1).bind fun bt213 => (if bt211.2 = 0 then (complinelaw21_DayParts.j0 k t210 bt211.1 bt211.2 (bt213.2.2.2.2.2.2 != 0) a0_0 a0_1 a0_2 a0_3 a0_4 a0_5 a0_6 a0_7 a0_8 a0_9 bt213.1 bt213.2.1 bt213.2.2.1 bt213.2.2.2.1 bt213.2.2.2.2.1 bt213.2.2.2.2.2.1) else (complinelaw21_DayParts.j0 k t210 bt211.1 bt211.2 true a0_0 a0_1 a0_2 a0_3 a0_4 a0_5 a0_6 a0_7 a0_8 a0_9 bt213.1 bt213.2.1 bt213.2.2.1 bt213.2.2.2.1 bt213.2.2.2.2.1 bt213.2.2.2.2.2.1)))) else (some false))) = some r := h
 clear h
 replace H := Option.bind_eq_some_iff.mp H
 obtain ⟨t210, A30, H⟩ := H
 replace H : (if t210 = true then ((day_Match.f a0_0 a0_1 a0_2 a0_3 a0_4 a0_5 a0_6 a0_7 a0_8 a0_9 a1).bind fun bt211 => ((civil_Of.f k a1).bind fun bt213 => (if bt211.2 = 0 then (complinelaw21_DayParts.j0 k t210 bt211.1 bt211.2 (bt213.2.2.2.2.2.2 != 0) a0_0 a0_1 a0_2 a0_3 a0_4 a0_5 a0_6 a0_7 a0_8 a0_9 bt213.1 bt213.2.1 bt213.2.2.1 bt213.2.2.2.1 bt213.2.2.2.2.1 bt213.2.2.2.2.2.1) else (complinelaw21_DayParts.j0 k t210 bt211.1 bt211.2 true a0_0 a0_1 a0_2 a0_3 a0_4 a0_5 a0_6 a0_7 a0_8 a0_9 bt213.1 bt213.2.1 bt213.2.2.1 bt213.2.2.2.1 bt213.2.2.2.2.1 bt213.2.2.2.2.2.1)))) else (some false)) = some r := H
 have A3 := Aside0.mk A30
 clear A30
 by_cases c4 : t210 = true
 ·subst c4
  have H1 : ((day_Match.f a0_0 a0_1 a0_2 a0_3 a0_4 a0_5 a0_6 a0_7 a0_8 a0_9 a1).bind fun bt211 => ((civil_Of.f k a1).bind fun bt213 => (if bt211.2 = 0 then (complinelaw21_DayParts.j0 k true bt211.1 bt211.2 (bt213.2.2.2.2.2.2 != 0) a0_0 a0_1 a0_2 a0_3 a0_4 a0_5 a0_6 a0_7 a0_8 a0_9 bt213.1 bt213.2.1 bt213.2.2.1 bt213.2.2.2.1 bt213.2.2.2.2.1 bt213.2.2.2.2.2.1) else (complinelaw21_DayParts.j0 k true bt211.1 bt211.2 true a0_0 a0_1 a0_2 a0_3 a0_4 a0_5 a0_6 a0_7 a0_8 a0_9 bt213.1 bt213.2.1 bt213.2.2.1 bt213.2.2.2.1 bt213.2.2.2.2.1 bt213.2.2.2.2.2.1)))) = some r := by rw [if_pos rfl] at H; exact H
  clear H
  have H := H1
  clear H1
  replace H := Option.bind_eq_some_iff.mp H
  obtain ⟨⟨t211, t212⟩, A50, H⟩ := H
  replace H : ((civil_Of.f k a1).bind fun bt213 => (if t212 = 0 then (complinelaw21_DayParts.j0 k true t211 t212 (bt213.2.2.2.2.2.2 != 0) a0_0 a0_1 a0_2 a0_3 a0_4 a0_5 a0_6 a0_7 a0_8 a0_9 bt213.1 bt213.2.1 bt213.2.2.1 bt213.2.2.2.1 bt213.2.2.2.2.1 bt213.2.2.2.2.2.1) else (complinelaw21_DayParts.j0 k true t211 t212 true a0_0 a0_1 a0_2 a0_3 a0_4 a0_5 a0_6 a0_7 a0_8 a0_9 bt213.1 bt213.2.1 bt213.2.2.1 bt213.2.2.2.1 bt213.2.2.2.2.1 bt213.2.2.2.2.2.1))) = some r := H
  have A5 := Aside0.mk A50
  clear A50
  replace H := Option.bind_eq_some_iff.mp H
  obtain ⟨⟨t213, t214, t215, t216, t217, t218, t219⟩, A60, H⟩ := H
  replace H : (if t212 = 0 then (complinelaw21_DayParts.j0 k true t211 t212 (t219 != 0) a0_0 a0_1 a0_2 a0_3 a0_4 a0_5 a0_6 a0_7 a0_8 a0_9 t213 t214 t215 t216 t217 t218) else (complinelaw21_DayParts.j0 k true t211 t212 true a0_0 a0_1 a0_2 a0_3 a0_4 a0_5 a0_6 a0_7 a0_8 a0_9 t213 t214 t215 t216 t217 t218)) = some r := H
  have A6 := Aside0.mk A60
  clear A60
  have HC7 := Aside0.mk H
  clear H
  go_enter Tryz.func5, Tryz.ntmps5
  go_upto_region 6 with (first | ((with_reducible refine gate_dst (N := 2) rfl ?_); refine box_event ?hg (N := 2) ?hd (cs := #[.int .u64 a0_0, .bool a0_1, .int .u64 a0_2, .bool a0_3, .int .u64 a0_4, .bool a0_5, .int .u64 a0_6, .bool a0_7, .int .u64 a0_8, .bool a0_9]) (t := 26) ?hr ?_; (case hd => rfl); (case hg => rfl); (case hr => first | (go_simp; done) | (go_simp; rfl)); intro gb209 hg w8 hbox hb; have n0_ := Aside0.mk (below_step (by repeat (first | (with_reducible first | exact HB.out | apply below_alloc | apply pw_below_drewN | apply below_drew1) | exact HB.out)) hb); have n1_ := Aside0.mk (hbox); have n2_ := Aside0.mk ((by rw [hg]; exact (below_size (by repeat (first | (with_reducible first | exact HB.out | apply below_alloc | apply pw_below_drewN | apply below_drew1) | exact HB.out))) : w.heap.size ≤ gb209)); have n3_ := Aside0.mk ((by rw [hg]; exact (below_size (by repeat (first | (with_reducible first | exact HB.out | apply below_alloc | apply pw_below_drewN | apply below_drew1) | exact HB.out))) : w.heap.size ≤ gb209)); clear HB; have HB := n0_; have BK209 := n1_; have GW209 := n2_; have GE209 := n3_; clear n0_ n1_ n2_ n3_; clear hb hbox hg) | ((with_reducible refine gate_callee (f := 9) rfl ?_); refine goesL_ (some 12) rfl rfl Tryz.func9 (by kernel_rfl) rfl #[] rfl (by (try simp only [List.map_toArray, List.map_cons, List.map_nil]); first | done | rfl | (simp only [List.length_drop, List.length_take]; rfl)) ?_; (with_reducible refine (complinelaw21_works.calls  true _ (hT.keep (by repeat (first | (with_reducible first | exact HB.out | apply below_alloc | apply pw_below_drewN | apply below_drew1 | refine below_set ?_ GE209.out | refine below_set ?_ GE220.out) | exact HB.out))) A3.out).mono ?_); rintro e w9 ⟨rfl, hb⟩; refine ⟨_, rfl, ?_⟩; have n0_ := Aside0.mk (blk_below (g := gb209) (o := .cells #[.int .u64 a0_0, .bool a0_1, .int .u64 a0_2, .bool a0_3, .int .u64 a0_4, .bool a0_5, .int .u64 a0_6, .bool a0_7, .int .u64 a0_8, .bool a0_9] 26 (0, 0)) (by (with_reducible repeat (first | refine blk_drewN ?_ _ | refine blk_drew ?_ | refine blk_alloc ?_ _)); exact BK209.out) hb); have n1_ := Aside0.mk (below_step (by repeat (first | (with_reducible first | exact HB.out | apply below_alloc | apply pw_below_drewN | apply below_drew1 | refine below_set ?_ GE209.out) | exact HB.out)) hb); clear BK209; clear HB; have BK209 := n0_; have HB := n1_; clear n0_ n1_; (try clear hb); (try clear hb2); (try clear hk); (try clear hi); have hcz10_0 : w9.cell? ⟨gb209, 0, none⟩ = some (.int .u64 a0_0) := (blk_cell BK209.out 0).trans rfl; have hcz10_1 : w9.cell? ⟨gb209, 1, none⟩ = some (.bool a0_1) := (blk_cell BK209.out 1).trans rfl; have hcz10_2 : w9.cell? ⟨gb209, 2, none⟩ = some (.int .u64 a0_2) := (blk_cell BK209.out 2).trans rfl; have hcz10_3 : w9.cell? ⟨gb209, 3, none⟩ = some (.bool a0_3) := (blk_cell BK209.out 3).trans rfl; have hcz10_4 : w9.cell? ⟨gb209, 4, none⟩ = some (.int .u64 a0_4) := (blk_cell BK209.out 4).trans rfl; have hcz10_5 : w9.cell? ⟨gb209, 5, none⟩ = some (.bool a0_5) := (blk_cell BK209.out 5).trans rfl; have hcz10_6 : w9.cell? ⟨gb209, 6, none⟩ = some (.int .u64 a0_6) := (blk_cell BK209.out 6).trans rfl; have hcz10_7 : w9.cell? ⟨gb209, 7, none⟩ = some (.bool a0_7) := (blk_cell BK209.out 7).trans rfl; have hcz10_8 : w9.cell? ⟨gb209, 8, none⟩ = some (.int .u64 a0_8) := (blk_cell BK209.out 8).trans rfl; have hcz10_9 : w9.cell? ⟨gb209, 9, none⟩ = some (.bool a0_9) := (blk_cell BK209.out 9).trans rfl; have hfz10_0 := blk_frozen BK209.out 0; have hfz10_1 := blk_frozen BK209.out 1; have hfz10_2 := blk_frozen BK209.out 2; have hfz10_3 := blk_frozen BK209.out 3; have hfz10_4 := blk_frozen BK209.out 4; have hfz10_5 := blk_frozen BK209.out 5; have hfz10_6 := blk_frozen BK209.out 6; have hfz10_7 := blk_frozen BK209.out 7; have hfz10_8 := blk_frozen BK209.out 8; have hfz10_9 := blk_frozen BK209.out 9) | ((with_reducible refine gate_callee (f := 12) rfl ?_); refine goesL_ (some 18) rfl rfl Tryz.func12 (by kernel_rfl) rfl #[.agg #[.int .u64 a0_0, .bool a0_1, .int .u64 a0_2, .bool a0_3, .int .u64 a0_4, .bool a0_5, .int .u64 a0_6, .bool a0_7, .int .u64 a0_8, .bool a0_9], .int .i64 a1] rfl (by (try simp only [List.map_toArray, List.map_cons, List.map_nil]); first | done | rfl | (simp only [List.length_drop, List.length_take]; rfl)) ?_; (with_reducible refine (day_Match.calls a0_0 a0_1 a0_2 a0_3 a0_4 a0_5 a0_6 a0_7 a0_8 a0_9 a1 t211 t212 _ A5.out).mono ?_); rintro e w11 ⟨rfl, hb⟩; refine ⟨_, rfl, ?_⟩; have n0_ := Aside0.mk (blk_below (g := gb209) (o := .cells #[.int .u64 a0_0, .bool a0_1, .int .u64 a0_2, .bool a0_3, .int .u64 a0_4, .bool a0_5, .int .u64 a0_6, .bool a0_7, .int .u64 a0_8, .bool a0_9] 26 (0, 0)) (by (with_reducible repeat (first | refine blk_drewN ?_ _ | refine blk_drew ?_ | refine blk_alloc ?_ _)); exact BK209.out) hb); have n1_ := Aside0.mk (below_step (by repeat (first | (with_reducible first | exact HB.out | apply below_alloc | apply pw_below_drewN | apply below_drew1 | refine below_set ?_ GE209.out) | exact HB.out)) hb); clear BK209; clear HB; have BK209 := n0_; have HB := n1_; clear n0_ n1_; (try clear hb); (try clear hb2); (try clear hk); (try clear hi)) | ((with_reducible refine gate_callee (f := 16) rfl ?_); refine goesL_ (some 23) rfl rfl Tryz.func16 (by kernel_rfl) rfl #[.int .i64 a1] rfl (by (try simp only [List.map_toArray, List.map_cons, List.map_nil]); first | done | rfl | (simp only [List.length_drop, List.length_take]; rfl)) ?_; (with_reducible refine (civil_Of.calls k a1 t213 t214 t215 t216 t217 t218 t219 _ A6.out).mono ?_); rintro e w12 ⟨rfl, hb⟩; refine ⟨_, rfl, ?_⟩; have n0_ := Aside0.mk (blk_below (g := gb209) (o := .cells #[.int .u64 a0_0, .bool a0_1, .int .u64 a0_2, .bool a0_3, .int .u64 a0_4, .bool a0_5, .int .u64 a0_6, .bool a0_7, .int .u64 a0_8, .bool a0_9] 26 (0, 0)) (by (with_reducible repeat (first | refine blk_drewN ?_ _ | refine blk_drew ?_ | refine blk_alloc ?_ _)); exact BK209.out) hb); have n1_ := Aside0.mk (below_step (by repeat (first | (with_reducible first | exact HB.out | apply below_alloc | apply pw_below_drewN | apply below_drew1 | refine below_set ?_ GE209.out) | exact HB.out)) hb); clear BK209; clear HB; have BK209 := n0_; have HB := n1_; clear n0_ n1_; (try clear hb); (try clear hb2); (try clear hk); (try clear hi)) | ((with_reducible refine gate_dst (N := 8) rfl ?_); refine box_event ?hg (N := 8) ?hd (cs := #[.int .i64 0, .int .i64 0, .int .i64 0, .int .i64 0, .int .i64 0, .int .i64 0]) (t := 40) ?hr ?_; (case hd => rfl); (case hg => rfl); (case hr => first | (go_simp; done) | (go_simp; rfl)); intro gb220 hg w13 hbox hb; have n0_ := Aside0.mk (blk_below (g := gb209) (o := .cells #[.int .u64 a0_0, .bool a0_1, .int .u64 a0_2, .bool a0_3, .int .u64 a0_4, .bool a0_5, .int .u64 a0_6, .bool a0_7, .int .u64 a0_8, .bool a0_9] 26 (0, 0)) (by (with_reducible repeat (first | refine blk_drewN ?_ _ | refine blk_drew ?_ | refine blk_alloc ?_ _)); exact BK209.out) hb); have n1_ := Aside0.mk (below_step (by repeat (first | (with_reducible first | exact HB.out | apply below_alloc | apply pw_below_drewN | apply below_drew1 | refine below_set ?_ GE209.out) | exact HB.out)) hb); have n2_ := Aside0.mk (hbox); have n3_ := Aside0.mk ((by rw [hg]; exact (below_size (by repeat (first | (with_reducible first | exact HB.out | apply below_alloc | apply pw_below_drewN | apply below_drew1 | refine below_set ?_ GE209.out) | exact HB.out))) : w.heap.size ≤ gb220)); have n4_ := Aside0.mk ((by rw [hg]; exact (below_size (by repeat (first | (with_reducible first | exact HB.out | apply below_alloc | apply pw_below_drewN | apply below_drew1 | refine below_set ?_ GE209.out) | exact HB.out))) : w.heap.size ≤ gb220)); have n5_ := Aside0.mk ((by rw [hg]; exact Nat.ne_of_lt (blk_lt (g := gb209) (o := .cells #[.int .u64 a0_0, .bool a0_1, .int .u64 a0_2, .bool a0_3, .int .u64 a0_4, .bool a0_5, .int .u64 a0_6, .bool a0_7, .int .u64 a0_8, .bool a0_9] 26 (0, 0)) (by (with_reducible repeat (first | refine blk_drewN ?_ _ | refine blk_drew ?_ | refine blk_alloc ?_ _)); exact BK209.out)) : gb209 ≠ gb220)); have n6_ := Aside0.mk ((by rw [hg]; exact Nat.ne_of_gt (blk_lt (g := gb209) (o := .cells #[.int .u64 a0_0, .bool a0_1, .int .u64 a0_2, .bool a0_3, .int .u64 a0_4, .bool a0_5, .int .u64 a0_6, .bool a0_7, .int .u64 a0_8, .bool a0_9] 26 (0, 0)) (by (with_reducible repeat (first | refine blk_drewN ?_ _ | refine blk_drew ?_ | refine blk_alloc ?_ _)); exact BK209.out)) : gb220 ≠ gb209)); clear BK209; clear HB; have BK209 := n0_; have HB := n1_; have BK220 := n2_; have GW220 := n3_; have GE220 := n4_; have NB209_220 := n5_; have NB220_209 := n6_; clear n0_ n1_ n2_ n3_ n4_ n5_ n6_; clear hb hbox hg; have hnb14 := NB220_209.out; have hnc14 := NB209_220.out; have hcz15_0 : w13.cell? ⟨gb220, 0, none⟩ = some (.int .i64 0) := (blk_cell BK220.out 0).trans rfl; have hcz15_1 : w13.cell? ⟨gb220, 1, none⟩ = some (.int .i64 0) := (blk_cell BK220.out 1).trans rfl; have hcz15_2 : w13.cell? ⟨gb220, 2, none⟩ = some (.int .i64 0) := (blk_cell BK220.out 2).trans rfl; have hcz15_3 : w13.cell? ⟨gb220, 3, none⟩ = some (.int .i64 0) := (blk_cell BK220.out 3).trans rfl; have hcz15_4 : w13.cell? ⟨gb220, 4, none⟩ = some (.int .i64 0) := (blk_cell BK220.out 4).trans rfl; have hcz15_5 : w13.cell? ⟨gb220, 5, none⟩ = some (.int .i64 0) := (blk_cell BK220.out 5).trans rfl; have hfz15_0 := blk_frozen BK220.out 0; have hfz15_1 := blk_frozen BK220.out 1; have hfz15_2 := blk_frozen BK220.out 2; have hfz15_3 := blk_frozen BK220.out 3; have hfz15_4 := blk_frozen BK220.out 4; have hfz15_5 := blk_frozen BK220.out 5))
  (try simp only [Act.put, List.setIfInBounds_toArray, List.set_cons_zero, List.set_cons_succ])
  go_cut [31] (fun v31 wc => ∃ (kq : Nat) (x31_6 : Bool), v31 = .bool x31_6 ∧ Aside0 (complinelaw21_DayParts.j0 kq true t211 t212 x31_6 a0_0 a0_1 a0_2 a0_3 a0_4 a0_5 a0_6 a0_7 a0_8 a0_9 t213 t214 t215 t216 t217 t218 = some r) ∧ Aside0 (kq ≤ k) ∧ Aside0 (wc.heap[gb209]? = some (.cells #[.int .u64 a0_0, .bool a0_1, .int .u64 a0_2, .bool a0_3, .int .u64 a0_4, .bool a0_5, .int .u64 a0_6, .bool a0_7, .int .u64 a0_8, .bool a0_9] 26 (0, 0))) ∧ Aside0 (wc.heap[gb220]? = some (.cells #[.int .i64 t213, .int .i64 t214, .int .i64 t215, .int .i64 t216, .int .i64 t217, .int .i64 t218] 40 (0, 0))) ∧ Aside0 (Below w.heap.size w wc))
  case first =>
   have H := HC7.out
   clear HC7
   by_cases c16 : t212 = 0
   ·rw [if_pos c16] at H
    have c16b0 : (t212 == 0) = true := beq_iff_eq.mpr c16
    have c16b1 : (t212 != 0) = false := bne_eq_false_iff_eq.mpr c16
    clear c16
    (first | rw [c16b0] | (simp only [i64_w, i32_w]; rw [c16b0]) | skip)
    have H' := Aside0.mk H
    clear H
    go_wp2
    go_meet
    case rel => exact ⟨_, ((t219 != 0)), (by first | rfl | (simp; done) | (simp [*]; done)), H', ⟨by first | omega | exact Nat.le_refl _⟩, ⟨by (with_reducible repeat (first | refine blk_drewN ?_ _ | refine blk_drew ?_ | refine blk_alloc ?_ _)); refine blk_far ?_ NB209_220.out _; (with_reducible repeat (first | refine blk_drewN ?_ _ | refine blk_drew ?_ | refine blk_alloc ?_ _)); refine blk_far ?_ NB209_220.out _; (with_reducible repeat (first | refine blk_drewN ?_ _ | refine blk_drew ?_ | refine blk_alloc ?_ _)); refine blk_far ?_ NB209_220.out _; (with_reducible repeat (first | refine blk_drewN ?_ _ | refine blk_drew ?_ | refine blk_alloc ?_ _)); refine blk_far ?_ NB209_220.out _; (with_reducible repeat (first | refine blk_drewN ?_ _ | refine blk_drew ?_ | refine blk_alloc ?_ _)); refine blk_far ?_ NB209_220.out _; (with_reducible repeat (first | refine blk_drewN ?_ _ | refine blk_drew ?_ | refine blk_alloc ?_ _)); refine blk_far ?_ NB209_220.out _; (with_reducible repeat (first | refine blk_drewN ?_ _ | refine blk_drew ?_ | refine blk_alloc ?_ _)); exact BK209.out⟩, ⟨by (with_reducible repeat (first | refine blk_drewN ?_ _ | refine blk_drew ?_ | refine blk_alloc ?_ _)); refine blk_put (cs := #[.int .i64 t213, .int .i64 t214, .int .i64 t215, .int .i64 t216, .int .i64 t217, .int .i64 0]) ?_ 5 _ rfl; (with_reducible repeat (first | refine blk_drewN ?_ _ | refine blk_drew ?_ | refine blk_alloc ?_ _)); refine blk_put (cs := #[.int .i64 t213, .int .i64 t214, .int .i64 t215, .int .i64 t216, .int .i64 0, .int .i64 0]) ?_ 4 _ rfl; (with_reducible repeat (first | refine blk_drewN ?_ _ | refine blk_drew ?_ | refine blk_alloc ?_ _)); refine blk_put (cs := #[.int .i64 t213, .int .i64 t214, .int .i64 t215, .int .i64 0, .int .i64 0, .int .i64 0]) ?_ 3 _ rfl; (with_reducible repeat (first | refine blk_drewN ?_ _ | refine blk_drew ?_ | refine blk_alloc ?_ _)); refine blk_put (cs := #[.int .i64 t213, .int .i64 t214, .int .i64 0, .int .i64 0, .int .i64 0, .int .i64 0]) ?_ 2 _ rfl; (with_reducible repeat (first | refine blk_drewN ?_ _ | refine blk_drew ?_ | refine blk_alloc ?_ _)); refine blk_put (cs := #[.int .i64 t213, .int .i64 0, .int .i64 0, .int .i64 0, .int .i64 0, .int .i64 0]) ?_ 1 _ rfl; (with_reducible repeat (first | refine blk_drewN ?_ _ | refine blk_drew ?_ | refine blk_alloc ?_ _)); refine blk_put (cs := #[.int .i64 0, .int .i64 0, .int .i64 0, .int .i64 0, .int .i64 0, .int .i64 0]) ?_ 0 _ rfl; (with_reducible repeat (first | refine blk_drewN ?_ _ | refine blk_drew ?_ | refine blk_alloc ?_ _)); exact BK220.out⟩, ⟨by repeat (first | (with_reducible first | exact HB.out | apply below_alloc | apply pw_below_drewN | apply below_drew1 | refine below_set ?_ GE209.out | refine below_set ?_ GE220.out) | exact HB.out)⟩⟩
   ·rw [if_neg c16] at H
    have c16b0 : (t212 == 0) = false := beq_eq_false_iff_ne.mpr c16
    have c16b1 : (t212 != 0) = true := bne_iff_ne.mpr c16
    (first | rw [c16b0] | (simp only [i64_w, i32_w]; rw [c16b0]) | skip)
    have H' := Aside0.mk H
    clear H
    go_wp2
    go_meet
    case rel => exact ⟨_, (true), (by first | rfl | (simp; done) | (simp [*]; done)), H', ⟨by first | omega | exact Nat.le_refl _⟩, ⟨by (with_reducible repeat (first | refine blk_drewN ?_ _ | refine blk_drew ?_ | refine blk_alloc ?_ _)); refine blk_far ?_ NB209_220.out _; (with_reducible repeat (first | refine blk_drewN ?_ _ | refine blk_drew ?_ | refine blk_alloc ?_ _)); refine blk_far ?_ NB209_220.out _; (with_reducible repeat (first | refine blk_drewN ?_ _ | refine blk_drew ?_ | refine blk_alloc ?_ _)); refine blk_far ?_ NB209_220.out _; (with_reducible repeat (first | refine blk_drewN ?_ _ | refine blk_drew ?_ | refine blk_alloc ?_ _)); refine blk_far ?_ NB209_220.out _; (with_reducible repeat (first | refine blk_drewN ?_ _ | refine blk_drew ?_ | refine blk_alloc ?_ _)); refine blk_far ?_ NB209_220.out _; (with_reducible repeat (first | refine blk_drewN ?_ _ | refine blk_drew ?_ | refine blk_alloc ?_ _)); refine blk_far ?_ NB209_220.out _; (with_reducible repeat (first | refine blk_drewN ?_ _ | refine blk_drew ?_ | refine blk_alloc ?_ _)); exact BK209.out⟩, ⟨by (with_reducible repeat (first | refine blk_drewN ?_ _ | refine blk_drew ?_ | refine blk_alloc ?_ _)); refine blk_put (cs := #[.int .i64 t213, .int .i64 t214, .int .i64 t215, .int .i64 t216, .int .i64 t217, .int .i64 0]) ?_ 5 _ rfl; (with_reducible repeat (first | refine blk_drewN ?_ _ | refine blk_drew ?_ | refine blk_alloc ?_ _)); refine blk_put (cs := #[.int .i64 t213, .int .i64 t214, .int .i64 t215, .int .i64 t216, .int .i64 0, .int .i64 0]) ?_ 4 _ rfl; (with_reducible repeat (first | refine blk_drewN ?_ _ | refine blk_drew ?_ | refine blk_alloc ?_ _)); refine blk_put (cs := #[.int .i64 t213, .int .i64 t214, .int .i64 t215, .int .i64 0, .int .i64 0, .int .i64 0]) ?_ 3 _ rfl; (with_reducible repeat (first | refine blk_drewN ?_ _ | refine blk_drew ?_ | refine blk_alloc ?_ _)); refine blk_put (cs := #[.int .i64 t213, .int .i64 t214, .int .i64 0, .int .i64 0, .int .i64 0, .int .i64 0]) ?_ 2 _ rfl; (with_reducible repeat (first | refine blk_drewN ?_ _ | refine blk_drew ?_ | refine blk_alloc ?_ _)); refine blk_put (cs := #[.int .i64 t213, .int .i64 0, .int .i64 0, .int .i64 0, .int .i64 0, .int .i64 0]) ?_ 1 _ rfl; (with_reducible repeat (first | refine blk_drewN ?_ _ | refine blk_drew ?_ | refine blk_alloc ?_ _)); refine blk_put (cs := #[.int .i64 0, .int .i64 0, .int .i64 0, .int .i64 0, .int .i64 0, .int .i64 0]) ?_ 0 _ rfl; (with_reducible repeat (first | refine blk_drewN ?_ _ | refine blk_drew ?_ | refine blk_alloc ?_ _)); exact BK220.out⟩, ⟨by repeat (first | (with_reducible first | exact HB.out | apply below_alloc | apply pw_below_drewN | apply below_drew1 | refine below_set ?_ GE209.out | refine below_set ?_ GE220.out) | exact HB.out)⟩⟩
  case rest =>
   clear HC7
   try clear c1
   try clear p2
   try clear c4
   try clear c5
   try clear c9
   try clear c12
   try clear c14
   try clear c16
   try clear c16b0
   try clear c16b1
   try clear hcz10_0
   try clear hcz10_1
   try clear hcz10_2
   try clear hcz10_3
   try clear hcz10_4
   try clear hcz10_5
   try clear hcz10_6
   try clear hcz10_7
   try clear hcz10_8
   try clear hcz10_9
   try clear hcz15_0
   try clear hcz15_1
   try clear hcz15_2
   try clear hcz15_3
   try clear hcz15_4
   try clear hcz15_5
   try clear hfz10_0
   try clear hfz10_1
   try clear hfz10_2
   try clear hfz10_3
   try clear hfz10_4
   try clear hfz10_5
   try clear hfz10_6
   try clear hfz10_7
   try clear hfz10_8
   try clear hfz10_9
   try clear hfz15_0
   try clear hfz15_1
   try clear hfz15_2
   try clear hfz15_3
   try clear hfz15_4
   try clear hfz15_5
   obtain ⟨kq, x31_6, rfl, HA, HJ6, BK209, BK220, HB⟩ := hcut
   cases kq with
   | zero => exact absurd HA.out (by simp [complinelaw21_DayParts.j0])
   | succ kj6 =>
    have H := HA.out
    clear HA
    simp only [complinelaw21_DayParts.j0] at H
    by_cases c17 : x31_6 = true
    ·subst c17
     have H1 : (if true = true then (if t211 = true then (some false) else (some (t212 != 0))) else (some false)) = some r := by rw [if_pos rfl] at H; exact H
     clear H
     have H := H1
     clear H1
     by_cases c18 : true = true
     ·clear c18
      have H1 : (if t211 = true then (some false) else (some (t212 != 0))) = some r := by rw [if_pos rfl] at H; exact H
      clear H
      have H := H1
      clear H1
      by_cases c19 : t211 = true
      ·subst c19
       have H1 : (some false) = some r := by rw [if_pos rfl] at H; exact H
       clear H
       have H := H1
       clear H1
       obtain rfl := Option.some.inj H
       go_wp2
       go_ret
       exact ⟨by first | rfl | (simp [errW_none, errW_some] <;> rfl) | (simp [*, errW_none, errW_some] <;> rfl), by repeat (first | (with_reducible first | exact HB.out | apply below_alloc | apply pw_below_drewN | apply below_drew1 | refine below_set ?_ GE209.out | refine below_set ?_ GE220.out) | exact HB.out)⟩
      ·replace c19 := Bool.eq_false_iff.mpr c19
       subst c19
       have H1 : (some (t212 != 0)) = some r := by rw [if_neg (show ¬ (false = true) by decide)] at H; exact H
       clear H
       have H := H1
       clear H1
       obtain rfl := Option.some.inj H
       go_wp2
       go_ret
       exact ⟨by first | rfl | (simp [errW_none, errW_some] <;> rfl) | (simp [*, errW_none, errW_some] <;> rfl), by repeat (first | (with_reducible first | exact HB.out | apply below_alloc | apply pw_below_drewN | apply below_drew1 | refine below_set ?_ GE209.out | refine below_set ?_ GE220.out) | exact HB.out)⟩
     ·exact absurd rfl c18
    ·replace c17 := Bool.eq_false_iff.mpr c17
     subst c17
     have H1 : ((day_Mask.f a0_0 a0_1 a0_2 a0_3 a0_4 a0_5 a0_6 a0_7 a0_8 a0_9 t213 t214).bind fun bt221 => (if true = true then (if bt221.2 = 0 then (if 0 ≤ (IntKind.u64.wrap (t215)) then (if (Go.bits .and .u32 (shr .u32 bt221.1 (IntKind.u64.wrap (t215))) 1) = 1 then ((field_Has.f a0_2 a0_3 t216).bind fun t223 => (if t223 = true then ((field_Has.f a0_0 a0_1 t217).bind fun t224 => (some (t211 == t224))) else (some (t211 == false)))) else (some (t211 == false))) else (none)) else (some false)) else (some false))) = some r := by rw [if_neg (show ¬ (false = true) by decide)] at H; exact H
     clear H
     have H := H1
     clear H1
     replace H := Option.bind_eq_some_iff.mp H
     obtain ⟨⟨t221, t222⟩, A200, H⟩ := H
     replace H : (if true = true then (if t222 = 0 then (if 0 ≤ (IntKind.u64.wrap (t215)) then (if (Go.bits .and .u32 (shr .u32 t221 (IntKind.u64.wrap (t215))) 1) = 1 then ((field_Has.f a0_2 a0_3 t216).bind fun t223 => (if t223 = true then ((field_Has.f a0_0 a0_1 t217).bind fun t224 => (some (t211 == t224))) else (some (t211 == false)))) else (some (t211 == false))) else (none)) else (some false)) else (some false)) = some r := H
     have A20 := Aside0.mk A200
     clear A200
     by_cases c21 : true = true
     ·clear c21
      have H1 : (if t222 = 0 then (if 0 ≤ (IntKind.u64.wrap (t215)) then (if (Go.bits .and .u32 (shr .u32 t221 (IntKind.u64.wrap (t215))) 1) = 1 then ((field_Has.f a0_2 a0_3 t216).bind fun t223 => (if t223 = true then ((field_Has.f a0_0 a0_1 t217).bind fun t224 => (some (t211 == t224))) else (some (t211 == false)))) else (some (t211 == false))) else (none)) else (some false)) = some r := by rw [if_pos rfl] at H; exact H
      clear H
      have H := H1
      clear H1
      by_cases c22 : t222 = 0
      ·rw [if_pos c22] at H
       have c22b0 : (t222 == 0) = true := beq_iff_eq.mpr c22
       have c22b1 : (t222 != 0) = false := bne_eq_false_iff_eq.mpr c22
       clear c22
       obtain ⟨ji23, hji23⟩ : ∃ j_ : Int, (IntKind.u64.wrap (t215)) = j_ := ⟨_, rfl⟩
       replace H : (if 0 ≤ (ji23) then (if (Go.bits .and .u32 (shr .u32 t221 (ji23)) 1) = 1 then ((field_Has.f a0_2 a0_3 t216).bind fun t223 => (if t223 = true then ((field_Has.f a0_0 a0_1 t217).bind fun t224 => (some (t211 == t224))) else (some (t211 == false)))) else (some (t211 == false))) else (none)) = some r := by first | (rw [hji23] at H; exact H) | (simp only [hji23] at H ⊢; exact H)
       (try rw [hji23] at A20)
       by_cases c24 : 0 ≤ (ji23)
       ·rw [if_pos c24] at H
        have c24b0 := eq_true c24
        have c24b1 : decide (0 ≤ (ji23)) = true := decide_eq_true c24
        clear c24
        obtain ⟨ji25, hji25⟩ : ∃ j_ : Int, (shr .u32 t221 (ji23)) = j_ := ⟨_, rfl⟩
        replace H : (if (Go.bits .and .u32 (ji25) 1) = 1 then ((field_Has.f a0_2 a0_3 t216).bind fun t223 => (if t223 = true then ((field_Has.f a0_0 a0_1 t217).bind fun t224 => (some (t211 == t224))) else (some (t211 == false)))) else (some (t211 == false))) = some r := by first | (rw [hji25] at H; exact H) | (simp only [hji25] at H ⊢; exact H)
        (try rw [hji25] at A20)
        have hji25_ : (t221 / 2 ^ min (ji23).toNat 32) = ji25 := hji25
        have hji25z : (ji23) ≤ 32 → (t221 / 2 ^ (ji23).toNat) = ji25 := shr_small hji25
        by_cases c26 : (Go.bits .and .u32 (ji25) 1) = 1
        ·rw [if_pos c26] at H
         have c26b0 : ((Go.bits .and .u32 (ji25) 1) == 1) = true := beq_iff_eq.mpr c26
         have c26b1 : ((Go.bits .and .u32 (ji25) 1) != 1) = false := bne_eq_false_iff_eq.mpr c26
         clear c26
         replace H := Option.bind_eq_some_iff.mp H
         obtain ⟨t223, A270, H⟩ := H
         replace H : (if t223 = true then ((field_Has.f a0_0 a0_1 t217).bind fun t224 => (some (t211 == t224))) else (some (t211 == false))) = some r := H
         have A27 := Aside0.mk A270
         clear A270
         by_cases c28 : t223 = true
         ·subst c28
          have H1 : ((field_Has.f a0_0 a0_1 t217).bind fun t224 => (some (t211 == t224))) = some r := by rw [if_pos rfl] at H; exact H
          clear H
          have H := H1
          clear H1
          replace H := Option.bind_eq_some_iff.mp H
          obtain ⟨t224, A290, H⟩ := H
          replace H : (some (t211 == t224)) = some r := H
          have A29 := Aside0.mk A290
          clear A290
          obtain rfl := Option.some.inj H
          have hnb30 := NB209_220.out
          have hnc30 := NB220_209.out
          have hcz31_0 : wc.cell? ⟨gb209, 0, none⟩ = some (.int .u64 a0_0) := (blk_cell BK209.out 0).trans rfl
          have hcz31_1 : wc.cell? ⟨gb209, 1, none⟩ = some (.bool a0_1) := (blk_cell BK209.out 1).trans rfl
          have hcz31_2 : wc.cell? ⟨gb209, 2, none⟩ = some (.int .u64 a0_2) := (blk_cell BK209.out 2).trans rfl
          have hcz31_3 : wc.cell? ⟨gb209, 3, none⟩ = some (.bool a0_3) := (blk_cell BK209.out 3).trans rfl
          have hcz31_4 : wc.cell? ⟨gb209, 4, none⟩ = some (.int .u64 a0_4) := (blk_cell BK209.out 4).trans rfl
          have hcz31_5 : wc.cell? ⟨gb209, 5, none⟩ = some (.bool a0_5) := (blk_cell BK209.out 5).trans rfl
          have hcz31_6 : wc.cell? ⟨gb209, 6, none⟩ = some (.int .u64 a0_6) := (blk_cell BK209.out 6).trans rfl
          have hcz31_7 : wc.cell? ⟨gb209, 7, none⟩ = some (.bool a0_7) := (blk_cell BK209.out 7).trans rfl
          have hcz31_8 : wc.cell? ⟨gb209, 8, none⟩ = some (.int .u64 a0_8) := (blk_cell BK209.out 8).trans rfl
          have hcz31_9 : wc.cell? ⟨gb209, 9, none⟩ = some (.bool a0_9) := (blk_cell BK209.out 9).trans rfl
          have hfz31_0 := blk_frozen BK209.out 0
          have hfz31_1 := blk_frozen BK209.out 1
          have hfz31_2 := blk_frozen BK209.out 2
          have hfz31_3 := blk_frozen BK209.out 3
          have hfz31_4 := blk_frozen BK209.out 4
          have hfz31_5 := blk_frozen BK209.out 5
          have hfz31_6 := blk_frozen BK209.out 6
          have hfz31_7 := blk_frozen BK209.out 7
          have hfz31_8 := blk_frozen BK209.out 8
          have hfz31_9 := blk_frozen BK209.out 9
          have hcz32_0 : wc.cell? ⟨gb220, 0, none⟩ = some (.int .i64 t213) := (blk_cell BK220.out 0).trans rfl
          have hcz32_1 : wc.cell? ⟨gb220, 1, none⟩ = some (.int .i64 t214) := (blk_cell BK220.out 1).trans rfl
          have hcz32_2 : wc.cell? ⟨gb220, 2, none⟩ = some (.int .i64 t215) := (blk_cell BK220.out 2).trans rfl
          have hcz32_3 : wc.cell? ⟨gb220, 3, none⟩ = some (.int .i64 t216) := (blk_cell BK220.out 3).trans rfl
          have hcz32_4 : wc.cell? ⟨gb220, 4, none⟩ = some (.int .i64 t217) := (blk_cell BK220.out 4).trans rfl
          have hcz32_5 : wc.cell? ⟨gb220, 5, none⟩ = some (.int .i64 t218) := (blk_cell BK220.out 5).trans rfl
          have hfz32_0 := blk_frozen BK220.out 0
          have hfz32_1 := blk_frozen BK220.out 1
          have hfz32_2 := blk_frozen BK220.out 2
          have hfz32_3 := blk_frozen BK220.out 3
          have hfz32_4 := blk_frozen BK220.out 4
          have hfz32_5 := blk_frozen BK220.out 5
          go_wp2_with (first | ((with_reducible refine gate_callee (f := 10) rfl ?_); refine goesL_ (some 47) rfl rfl Tryz.func10 (by kernel_rfl) rfl #[.agg #[.int .u64 a0_0, .bool a0_1, .int .u64 a0_2, .bool a0_3, .int .u64 a0_4, .bool a0_5, .int .u64 a0_6, .bool a0_7, .int .u64 a0_8, .bool a0_9], .int .i64 t213, .int .i64 t214] rfl (by (try simp only [List.map_toArray, List.map_cons, List.map_nil]); first | done | rfl | (simp only [List.length_drop, List.length_take]; rfl)) ?_; (with_reducible refine (day_Mask.calls a0_0 a0_1 a0_2 a0_3 a0_4 a0_5 a0_6 a0_7 a0_8 a0_9 t213 t214 t221 t222 _ A20.out).mono ?_); rintro e w33 ⟨rfl, hb⟩; refine ⟨_, rfl, ?_⟩; have n0_ := Aside0.mk (blk_below (g := gb209) (o := .cells #[.int .u64 a0_0, .bool a0_1, .int .u64 a0_2, .bool a0_3, .int .u64 a0_4, .bool a0_5, .int .u64 a0_6, .bool a0_7, .int .u64 a0_8, .bool a0_9] 26 (0, 0)) (by (with_reducible repeat (first | refine blk_drewN ?_ _ | refine blk_drew ?_ | refine blk_alloc ?_ _)); exact BK209.out) hb); have n1_ := Aside0.mk (blk_below (g := gb220) (o := .cells #[.int .i64 t213, .int .i64 t214, .int .i64 t215, .int .i64 t216, .int .i64 t217, .int .i64 t218] 40 (0, 0)) (by (with_reducible repeat (first | refine blk_drewN ?_ _ | refine blk_drew ?_ | refine blk_alloc ?_ _)); exact BK220.out) hb); have n2_ := Aside0.mk (below_step (by repeat (first | (with_reducible first | exact HB.out | apply below_alloc | apply pw_below_drewN | apply below_drew1 | refine below_set ?_ GE209.out | refine below_set ?_ GE220.out) | exact HB.out)) hb); clear BK209; clear BK220; clear HB; have BK209 := n0_; have BK220 := n1_; have HB := n2_; clear n0_ n1_ n2_; (try clear hb); (try clear hb2); (try clear hk); (try clear hi); have hcz34_0 : w33.cell? ⟨gb220, 0, none⟩ = some (.int .i64 t213) := (blk_cell BK220.out 0).trans rfl; have hcz34_1 : w33.cell? ⟨gb220, 1, none⟩ = some (.int .i64 t214) := (blk_cell BK220.out 1).trans rfl; have hcz34_2 : w33.cell? ⟨gb220, 2, none⟩ = some (.int .i64 t215) := (blk_cell BK220.out 2).trans rfl; have hcz34_3 : w33.cell? ⟨gb220, 3, none⟩ = some (.int .i64 t216) := (blk_cell BK220.out 3).trans rfl; have hcz34_4 : w33.cell? ⟨gb220, 4, none⟩ = some (.int .i64 t217) := (blk_cell BK220.out 4).trans rfl; have hcz34_5 : w33.cell? ⟨gb220, 5, none⟩ = some (.int .i64 t218) := (blk_cell BK220.out 5).trans rfl; have hfz34_0 := blk_frozen BK220.out 0; have hfz34_1 := blk_frozen BK220.out 1; have hfz34_2 := blk_frozen BK220.out 2; have hfz34_3 := blk_frozen BK220.out 3; have hfz34_4 := blk_frozen BK220.out 4; have hfz34_5 := blk_frozen BK220.out 5; have hcz35_0 : w33.cell? ⟨gb209, 0, none⟩ = some (.int .u64 a0_0) := (blk_cell BK209.out 0).trans rfl; have hcz35_1 : w33.cell? ⟨gb209, 1, none⟩ = some (.bool a0_1) := (blk_cell BK209.out 1).trans rfl; have hcz35_2 : w33.cell? ⟨gb209, 2, none⟩ = some (.int .u64 a0_2) := (blk_cell BK209.out 2).trans rfl; have hcz35_3 : w33.cell? ⟨gb209, 3, none⟩ = some (.bool a0_3) := (blk_cell BK209.out 3).trans rfl; have hcz35_4 : w33.cell? ⟨gb209, 4, none⟩ = some (.int .u64 a0_4) := (blk_cell BK209.out 4).trans rfl; have hcz35_5 : w33.cell? ⟨gb209, 5, none⟩ = some (.bool a0_5) := (blk_cell BK209.out 5).trans rfl; have hcz35_6 : w33.cell? ⟨gb209, 6, none⟩ = some (.int .u64 a0_6) := (blk_cell BK209.out 6).trans rfl; have hcz35_7 : w33.cell? ⟨gb209, 7, none⟩ = some (.bool a0_7) := (blk_cell BK209.out 7).trans rfl; have hcz35_8 : w33.cell? ⟨gb209, 8, none⟩ = some (.int .u64 a0_8) := (blk_cell BK209.out 8).trans rfl; have hcz35_9 : w33.cell? ⟨gb209, 9, none⟩ = some (.bool a0_9) := (blk_cell BK209.out 9).trans rfl; have hfz35_0 := blk_frozen BK209.out 0; have hfz35_1 := blk_frozen BK209.out 1; have hfz35_2 := blk_frozen BK209.out 2; have hfz35_3 := blk_frozen BK209.out 3; have hfz35_4 := blk_frozen BK209.out 4; have hfz35_5 := blk_frozen BK209.out 5; have hfz35_6 := blk_frozen BK209.out 6; have hfz35_7 := blk_frozen BK209.out 7; have hfz35_8 := blk_frozen BK209.out 8; have hfz35_9 := blk_frozen BK209.out 9) | (go_at_call 17; (with_reducible refine (field_Has.calls a0_2 a0_3 t216 true _ A27.out).mono ?_); rintro e w36 ⟨rfl, hb⟩; have n0_ := Aside0.mk (blk_below (g := gb209) (o := .cells #[.int .u64 a0_0, .bool a0_1, .int .u64 a0_2, .bool a0_3, .int .u64 a0_4, .bool a0_5, .int .u64 a0_6, .bool a0_7, .int .u64 a0_8, .bool a0_9] 26 (0, 0)) (by (with_reducible repeat (first | refine blk_drewN ?_ _ | refine blk_drew ?_ | refine blk_alloc ?_ _)); exact BK209.out) hb); have n1_ := Aside0.mk (blk_below (g := gb220) (o := .cells #[.int .i64 t213, .int .i64 t214, .int .i64 t215, .int .i64 t216, .int .i64 t217, .int .i64 t218] 40 (0, 0)) (by (with_reducible repeat (first | refine blk_drewN ?_ _ | refine blk_drew ?_ | refine blk_alloc ?_ _)); exact BK220.out) hb); have n2_ := Aside0.mk (below_step (by repeat (first | (with_reducible first | exact HB.out | apply below_alloc | apply pw_below_drewN | apply below_drew1 | refine below_set ?_ GE209.out | refine below_set ?_ GE220.out) | exact HB.out)) hb); clear BK209; clear BK220; clear HB; have BK209 := n0_; have BK220 := n1_; have HB := n2_; clear n0_ n1_ n2_; (try clear hb); (try clear hb2); (try clear hk); (try clear hi); have hcz37_0 : w36.cell? ⟨gb209, 0, none⟩ = some (.int .u64 a0_0) := (blk_cell BK209.out 0).trans rfl; have hcz37_1 : w36.cell? ⟨gb209, 1, none⟩ = some (.bool a0_1) := (blk_cell BK209.out 1).trans rfl; have hcz37_2 : w36.cell? ⟨gb209, 2, none⟩ = some (.int .u64 a0_2) := (blk_cell BK209.out 2).trans rfl; have hcz37_3 : w36.cell? ⟨gb209, 3, none⟩ = some (.bool a0_3) := (blk_cell BK209.out 3).trans rfl; have hcz37_4 : w36.cell? ⟨gb209, 4, none⟩ = some (.int .u64 a0_4) := (blk_cell BK209.out 4).trans rfl; have hcz37_5 : w36.cell? ⟨gb209, 5, none⟩ = some (.bool a0_5) := (blk_cell BK209.out 5).trans rfl; have hcz37_6 : w36.cell? ⟨gb209, 6, none⟩ = some (.int .u64 a0_6) := (blk_cell BK209.out 6).trans rfl; have hcz37_7 : w36.cell? ⟨gb209, 7, none⟩ = some (.bool a0_7) := (blk_cell BK209.out 7).trans rfl; have hcz37_8 : w36.cell? ⟨gb209, 8, none⟩ = some (.int .u64 a0_8) := (blk_cell BK209.out 8).trans rfl; have hcz37_9 : w36.cell? ⟨gb209, 9, none⟩ = some (.bool a0_9) := (blk_cell BK209.out 9).trans rfl; have hfz37_0 := blk_frozen BK209.out 0; have hfz37_1 := blk_frozen BK209.out 1; have hfz37_2 := blk_frozen BK209.out 2; have hfz37_3 := blk_frozen BK209.out 3; have hfz37_4 := blk_frozen BK209.out 4; have hfz37_5 := blk_frozen BK209.out 5; have hfz37_6 := blk_frozen BK209.out 6; have hfz37_7 := blk_frozen BK209.out 7; have hfz37_8 := blk_frozen BK209.out 8; have hfz37_9 := blk_frozen BK209.out 9; have hcz38_0 : w36.cell? ⟨gb220, 0, none⟩ = some (.int .i64 t213) := (blk_cell BK220.out 0).trans rfl; have hcz38_1 : w36.cell? ⟨gb220, 1, none⟩ = some (.int .i64 t214) := (blk_cell BK220.out 1).trans rfl; have hcz38_2 : w36.cell? ⟨gb220, 2, none⟩ = some (.int .i64 t215) := (blk_cell BK220.out 2).trans rfl; have hcz38_3 : w36.cell? ⟨gb220, 3, none⟩ = some (.int .i64 t216) := (blk_cell BK220.out 3).trans rfl; have hcz38_4 : w36.cell? ⟨gb220, 4, none⟩ = some (.int .i64 t217) := (blk_cell BK220.out 4).trans rfl; have hcz38_5 : w36.cell? ⟨gb220, 5, none⟩ = some (.int .i64 t218) := (blk_cell BK220.out 5).trans rfl; have hfz38_0 := blk_frozen BK220.out 0; have hfz38_1 := blk_frozen BK220.out 1; have hfz38_2 := blk_frozen BK220.out 2; have hfz38_3 := blk_frozen BK220.out 3; have hfz38_4 := blk_frozen BK220.out 4; have hfz38_5 := blk_frozen BK220.out 5) | (go_at_call 17; (with_reducible refine (field_Has.calls a0_0 a0_1 t217 t224 _ A29.out).mono ?_); rintro e w39 ⟨rfl, hb⟩; have n0_ := Aside0.mk (blk_below (g := gb209) (o := .cells #[.int .u64 a0_0, .bool a0_1, .int .u64 a0_2, .bool a0_3, .int .u64 a0_4, .bool a0_5, .int .u64 a0_6, .bool a0_7, .int .u64 a0_8, .bool a0_9] 26 (0, 0)) (by (with_reducible repeat (first | refine blk_drewN ?_ _ | refine blk_drew ?_ | refine blk_alloc ?_ _)); exact BK209.out) hb); have n1_ := Aside0.mk (blk_below (g := gb220) (o := .cells #[.int .i64 t213, .int .i64 t214, .int .i64 t215, .int .i64 t216, .int .i64 t217, .int .i64 t218] 40 (0, 0)) (by (with_reducible repeat (first | refine blk_drewN ?_ _ | refine blk_drew ?_ | refine blk_alloc ?_ _)); exact BK220.out) hb); have n2_ := Aside0.mk (below_step (by repeat (first | (with_reducible first | exact HB.out | apply below_alloc | apply pw_below_drewN | apply below_drew1 | refine below_set ?_ GE209.out | refine below_set ?_ GE220.out) | exact HB.out)) hb); clear BK209; clear BK220; clear HB; have BK209 := n0_; have BK220 := n1_; have HB := n2_; clear n0_ n1_ n2_; (try clear hb); (try clear hb2); (try clear hk); (try clear hi)))
          go_ret
          exact ⟨by first | rfl | (simp [errW_none, errW_some] <;> rfl) | (simp only [← hji23, ← hji25]; first | rfl | (simp [errW_none, errW_some] <;> rfl)) | (simp [*, errW_none, errW_some] <;> rfl), by repeat (first | (with_reducible first | exact HB.out | apply below_alloc | apply pw_below_drewN | apply below_drew1 | refine below_set ?_ GE209.out | refine below_set ?_ GE220.out) | exact HB.out)⟩
         ·replace c28 := Bool.eq_false_iff.mpr c28
          subst c28
          have H1 : (some (t211 == false)) = some r := by rw [if_neg (show ¬ (false = true) by decide)] at H; exact H
          clear H
          have H := H1
          clear H1
          obtain rfl := Option.some.inj H
          have hnb40 := NB209_220.out
          have hnc40 := NB220_209.out
          have hcz41_0 : wc.cell? ⟨gb209, 0, none⟩ = some (.int .u64 a0_0) := (blk_cell BK209.out 0).trans rfl
          have hcz41_1 : wc.cell? ⟨gb209, 1, none⟩ = some (.bool a0_1) := (blk_cell BK209.out 1).trans rfl
          have hcz41_2 : wc.cell? ⟨gb209, 2, none⟩ = some (.int .u64 a0_2) := (blk_cell BK209.out 2).trans rfl
          have hcz41_3 : wc.cell? ⟨gb209, 3, none⟩ = some (.bool a0_3) := (blk_cell BK209.out 3).trans rfl
          have hcz41_4 : wc.cell? ⟨gb209, 4, none⟩ = some (.int .u64 a0_4) := (blk_cell BK209.out 4).trans rfl
          have hcz41_5 : wc.cell? ⟨gb209, 5, none⟩ = some (.bool a0_5) := (blk_cell BK209.out 5).trans rfl
          have hcz41_6 : wc.cell? ⟨gb209, 6, none⟩ = some (.int .u64 a0_6) := (blk_cell BK209.out 6).trans rfl
          have hcz41_7 : wc.cell? ⟨gb209, 7, none⟩ = some (.bool a0_7) := (blk_cell BK209.out 7).trans rfl
          have hcz41_8 : wc.cell? ⟨gb209, 8, none⟩ = some (.int .u64 a0_8) := (blk_cell BK209.out 8).trans rfl
          have hcz41_9 : wc.cell? ⟨gb209, 9, none⟩ = some (.bool a0_9) := (blk_cell BK209.out 9).trans rfl
          have hfz41_0 := blk_frozen BK209.out 0
          have hfz41_1 := blk_frozen BK209.out 1
          have hfz41_2 := blk_frozen BK209.out 2
          have hfz41_3 := blk_frozen BK209.out 3
          have hfz41_4 := blk_frozen BK209.out 4
          have hfz41_5 := blk_frozen BK209.out 5
          have hfz41_6 := blk_frozen BK209.out 6
          have hfz41_7 := blk_frozen BK209.out 7
          have hfz41_8 := blk_frozen BK209.out 8
          have hfz41_9 := blk_frozen BK209.out 9
          have hcz42_0 : wc.cell? ⟨gb220, 0, none⟩ = some (.int .i64 t213) := (blk_cell BK220.out 0).trans rfl
          have hcz42_1 : wc.cell? ⟨gb220, 1, none⟩ = some (.int .i64 t214) := (blk_cell BK220.out 1).trans rfl
          have hcz42_2 : wc.cell? ⟨gb220, 2, none⟩ = some (.int .i64 t215) := (blk_cell BK220.out 2).trans rfl
          have hcz42_3 : wc.cell? ⟨gb220, 3, none⟩ = some (.int .i64 t216) := (blk_cell BK220.out 3).trans rfl
          have hcz42_4 : wc.cell? ⟨gb220, 4, none⟩ = some (.int .i64 t217) := (blk_cell BK220.out 4).trans rfl
          have hcz42_5 : wc.cell? ⟨gb220, 5, none⟩ = some (.int .i64 t218) := (blk_cell BK220.out 5).trans rfl
          have hfz42_0 := blk_frozen BK220.out 0
          have hfz42_1 := blk_frozen BK220.out 1
          have hfz42_2 := blk_frozen BK220.out 2
          have hfz42_3 := blk_frozen BK220.out 3
          have hfz42_4 := blk_frozen BK220.out 4
          have hfz42_5 := blk_frozen BK220.out 5
          go_wp2_with (first | ((with_reducible refine gate_callee (f := 10) rfl ?_); refine goesL_ (some 47) rfl rfl Tryz.func10 (by kernel_rfl) rfl #[.agg #[.int .u64 a0_0, .bool a0_1, .int .u64 a0_2, .bool a0_3, .int .u64 a0_4, .bool a0_5, .int .u64 a0_6, .bool a0_7, .int .u64 a0_8, .bool a0_9], .int .i64 t213, .int .i64 t214] rfl (by (try simp only [List.map_toArray, List.map_cons, List.map_nil]); first | done | rfl | (simp only [List.length_drop, List.length_take]; rfl)) ?_; (with_reducible refine (day_Mask.calls a0_0 a0_1 a0_2 a0_3 a0_4 a0_5 a0_6 a0_7 a0_8 a0_9 t213 t214 t221 t222 _ A20.out).mono ?_); rintro e w43 ⟨rfl, hb⟩; refine ⟨_, rfl, ?_⟩; have n0_ := Aside0.mk (blk_below (g := gb209) (o := .cells #[.int .u64 a0_0, .bool a0_1, .int .u64 a0_2, .bool a0_3, .int .u64 a0_4, .bool a0_5, .int .u64 a0_6, .bool a0_7, .int .u64 a0_8, .bool a0_9] 26 (0, 0)) (by (with_reducible repeat (first | refine blk_drewN ?_ _ | refine blk_drew ?_ | refine blk_alloc ?_ _)); exact BK209.out) hb); have n1_ := Aside0.mk (blk_below (g := gb220) (o := .cells #[.int .i64 t213, .int .i64 t214, .int .i64 t215, .int .i64 t216, .int .i64 t217, .int .i64 t218] 40 (0, 0)) (by (with_reducible repeat (first | refine blk_drewN ?_ _ | refine blk_drew ?_ | refine blk_alloc ?_ _)); exact BK220.out) hb); have n2_ := Aside0.mk (below_step (by repeat (first | (with_reducible first | exact HB.out | apply below_alloc | apply pw_below_drewN | apply below_drew1 | refine below_set ?_ GE209.out | refine below_set ?_ GE220.out) | exact HB.out)) hb); clear BK209; clear BK220; clear HB; have BK209 := n0_; have BK220 := n1_; have HB := n2_; clear n0_ n1_ n2_; (try clear hb); (try clear hb2); (try clear hk); (try clear hi); have hcz44_0 : w43.cell? ⟨gb220, 0, none⟩ = some (.int .i64 t213) := (blk_cell BK220.out 0).trans rfl; have hcz44_1 : w43.cell? ⟨gb220, 1, none⟩ = some (.int .i64 t214) := (blk_cell BK220.out 1).trans rfl; have hcz44_2 : w43.cell? ⟨gb220, 2, none⟩ = some (.int .i64 t215) := (blk_cell BK220.out 2).trans rfl; have hcz44_3 : w43.cell? ⟨gb220, 3, none⟩ = some (.int .i64 t216) := (blk_cell BK220.out 3).trans rfl; have hcz44_4 : w43.cell? ⟨gb220, 4, none⟩ = some (.int .i64 t217) := (blk_cell BK220.out 4).trans rfl; have hcz44_5 : w43.cell? ⟨gb220, 5, none⟩ = some (.int .i64 t218) := (blk_cell BK220.out 5).trans rfl; have hfz44_0 := blk_frozen BK220.out 0; have hfz44_1 := blk_frozen BK220.out 1; have hfz44_2 := blk_frozen BK220.out 2; have hfz44_3 := blk_frozen BK220.out 3; have hfz44_4 := blk_frozen BK220.out 4; have hfz44_5 := blk_frozen BK220.out 5; have hcz45_0 : w43.cell? ⟨gb209, 0, none⟩ = some (.int .u64 a0_0) := (blk_cell BK209.out 0).trans rfl; have hcz45_1 : w43.cell? ⟨gb209, 1, none⟩ = some (.bool a0_1) := (blk_cell BK209.out 1).trans rfl; have hcz45_2 : w43.cell? ⟨gb209, 2, none⟩ = some (.int .u64 a0_2) := (blk_cell BK209.out 2).trans rfl; have hcz45_3 : w43.cell? ⟨gb209, 3, none⟩ = some (.bool a0_3) := (blk_cell BK209.out 3).trans rfl; have hcz45_4 : w43.cell? ⟨gb209, 4, none⟩ = some (.int .u64 a0_4) := (blk_cell BK209.out 4).trans rfl; have hcz45_5 : w43.cell? ⟨gb209, 5, none⟩ = some (.bool a0_5) := (blk_cell BK209.out 5).trans rfl; have hcz45_6 : w43.cell? ⟨gb209, 6, none⟩ = some (.int .u64 a0_6) := (blk_cell BK209.out 6).trans rfl; have hcz45_7 : w43.cell? ⟨gb209, 7, none⟩ = some (.bool a0_7) := (blk_cell BK209.out 7).trans rfl; have hcz45_8 : w43.cell? ⟨gb209, 8, none⟩ = some (.int .u64 a0_8) := (blk_cell BK209.out 8).trans rfl; have hcz45_9 : w43.cell? ⟨gb209, 9, none⟩ = some (.bool a0_9) := (blk_cell BK209.out 9).trans rfl; have hfz45_0 := blk_frozen BK209.out 0; have hfz45_1 := blk_frozen BK209.out 1; have hfz45_2 := blk_frozen BK209.out 2; have hfz45_3 := blk_frozen BK209.out 3; have hfz45_4 := blk_frozen BK209.out 4; have hfz45_5 := blk_frozen BK209.out 5; have hfz45_6 := blk_frozen BK209.out 6; have hfz45_7 := blk_frozen BK209.out 7; have hfz45_8 := blk_frozen BK209.out 8; have hfz45_9 := blk_frozen BK209.out 9) | (go_at_call 17; (with_reducible refine (field_Has.calls a0_2 a0_3 t216 false _ A27.out).mono ?_); rintro e w46 ⟨rfl, hb⟩; have n0_ := Aside0.mk (blk_below (g := gb209) (o := .cells #[.int .u64 a0_0, .bool a0_1, .int .u64 a0_2, .bool a0_3, .int .u64 a0_4, .bool a0_5, .int .u64 a0_6, .bool a0_7, .int .u64 a0_8, .bool a0_9] 26 (0, 0)) (by (with_reducible repeat (first | refine blk_drewN ?_ _ | refine blk_drew ?_ | refine blk_alloc ?_ _)); exact BK209.out) hb); have n1_ := Aside0.mk (blk_below (g := gb220) (o := .cells #[.int .i64 t213, .int .i64 t214, .int .i64 t215, .int .i64 t216, .int .i64 t217, .int .i64 t218] 40 (0, 0)) (by (with_reducible repeat (first | refine blk_drewN ?_ _ | refine blk_drew ?_ | refine blk_alloc ?_ _)); exact BK220.out) hb); have n2_ := Aside0.mk (below_step (by repeat (first | (with_reducible first | exact HB.out | apply below_alloc | apply pw_below_drewN | apply below_drew1 | refine below_set ?_ GE209.out | refine below_set ?_ GE220.out) | exact HB.out)) hb); clear BK209; clear BK220; clear HB; have BK209 := n0_; have BK220 := n1_; have HB := n2_; clear n0_ n1_ n2_; (try clear hb); (try clear hb2); (try clear hk); (try clear hi)))
          go_ret
          exact ⟨by first | rfl | (simp [errW_none, errW_some] <;> rfl) | (simp only [← hji23, ← hji25]; first | rfl | (simp [errW_none, errW_some] <;> rfl)) | (simp [*, errW_none, errW_some] <;> rfl), by repeat (first | (with_reducible first | exact HB.out | apply below_alloc | apply pw_below_drewN | apply below_drew1 | refine below_set ?_ GE209.out | refine below_set ?_ GE220.out) | exact HB.out)⟩
        ·rw [if_neg c26] at H
         have c26b0 : ((Go.bits .and .u32 (ji25) 1) == 1) = false := beq_eq_false_iff_ne.mpr c26
         have c26b1 : ((Go.bits .and .u32 (ji25) 1) != 1) = true := bne_iff_ne.mpr c26
         obtain rfl := Option.some.inj H
         have hnb47 := NB209_220.out
         have hnc47 := NB220_209.out
         have hcz48_0 : wc.cell? ⟨gb209, 0, none⟩ = some (.int .u64 a0_0) := (blk_cell BK209.out 0).trans rfl
         have hcz48_1 : wc.cell? ⟨gb209, 1, none⟩ = some (.bool a0_1) := (blk_cell BK209.out 1).trans rfl
         have hcz48_2 : wc.cell? ⟨gb209, 2, none⟩ = some (.int .u64 a0_2) := (blk_cell BK209.out 2).trans rfl
         have hcz48_3 : wc.cell? ⟨gb209, 3, none⟩ = some (.bool a0_3) := (blk_cell BK209.out 3).trans rfl
         have hcz48_4 : wc.cell? ⟨gb209, 4, none⟩ = some (.int .u64 a0_4) := (blk_cell BK209.out 4).trans rfl
         have hcz48_5 : wc.cell? ⟨gb209, 5, none⟩ = some (.bool a0_5) := (blk_cell BK209.out 5).trans rfl
         have hcz48_6 : wc.cell? ⟨gb209, 6, none⟩ = some (.int .u64 a0_6) := (blk_cell BK209.out 6).trans rfl
         have hcz48_7 : wc.cell? ⟨gb209, 7, none⟩ = some (.bool a0_7) := (blk_cell BK209.out 7).trans rfl
         have hcz48_8 : wc.cell? ⟨gb209, 8, none⟩ = some (.int .u64 a0_8) := (blk_cell BK209.out 8).trans rfl
         have hcz48_9 : wc.cell? ⟨gb209, 9, none⟩ = some (.bool a0_9) := (blk_cell BK209.out 9).trans rfl
         have hfz48_0 := blk_frozen BK209.out 0
         have hfz48_1 := blk_frozen BK209.out 1
         have hfz48_2 := blk_frozen BK209.out 2
         have hfz48_3 := blk_frozen BK209.out 3
         have hfz48_4 := blk_frozen BK209.out 4
         have hfz48_5 := blk_frozen BK209.out 5
         have hfz48_6 := blk_frozen BK209.out 6
         have hfz48_7 := blk_frozen BK209.out 7
         have hfz48_8 := blk_frozen BK209.out 8
         have hfz48_9 := blk_frozen BK209.out 9
         have hcz49_0 : wc.cell? ⟨gb220, 0, none⟩ = some (.int .i64 t213) := (blk_cell BK220.out 0).trans rfl
         have hcz49_1 : wc.cell? ⟨gb220, 1, none⟩ = some (.int .i64 t214) := (blk_cell BK220.out 1).trans rfl
         have hcz49_2 : wc.cell? ⟨gb220, 2, none⟩ = some (.int .i64 t215) := (blk_cell BK220.out 2).trans rfl
         have hcz49_3 : wc.cell? ⟨gb220, 3, none⟩ = some (.int .i64 t216) := (blk_cell BK220.out 3).trans rfl
         have hcz49_4 : wc.cell? ⟨gb220, 4, none⟩ = some (.int .i64 t217) := (blk_cell BK220.out 4).trans rfl
         have hcz49_5 : wc.cell? ⟨gb220, 5, none⟩ = some (.int .i64 t218) := (blk_cell BK220.out 5).trans rfl
         have hfz49_0 := blk_frozen BK220.out 0
         have hfz49_1 := blk_frozen BK220.out 1
         have hfz49_2 := blk_frozen BK220.out 2
         have hfz49_3 := blk_frozen BK220.out 3
         have hfz49_4 := blk_frozen BK220.out 4
         have hfz49_5 := blk_frozen BK220.out 5
         go_wp2_with (first | ((with_reducible refine gate_callee (f := 10) rfl ?_); refine goesL_ (some 47) rfl rfl Tryz.func10 (by kernel_rfl) rfl #[.agg #[.int .u64 a0_0, .bool a0_1, .int .u64 a0_2, .bool a0_3, .int .u64 a0_4, .bool a0_5, .int .u64 a0_6, .bool a0_7, .int .u64 a0_8, .bool a0_9], .int .i64 t213, .int .i64 t214] rfl (by (try simp only [List.map_toArray, List.map_cons, List.map_nil]); first | done | rfl | (simp only [List.length_drop, List.length_take]; rfl)) ?_; (with_reducible refine (day_Mask.calls a0_0 a0_1 a0_2 a0_3 a0_4 a0_5 a0_6 a0_7 a0_8 a0_9 t213 t214 t221 t222 _ A20.out).mono ?_); rintro e w50 ⟨rfl, hb⟩; refine ⟨_, rfl, ?_⟩; have n0_ := Aside0.mk (blk_below (g := gb209) (o := .cells #[.int .u64 a0_0, .bool a0_1, .int .u64 a0_2, .bool a0_3, .int .u64 a0_4, .bool a0_5, .int .u64 a0_6, .bool a0_7, .int .u64 a0_8, .bool a0_9] 26 (0, 0)) (by (with_reducible repeat (first | refine blk_drewN ?_ _ | refine blk_drew ?_ | refine blk_alloc ?_ _)); exact BK209.out) hb); have n1_ := Aside0.mk (blk_below (g := gb220) (o := .cells #[.int .i64 t213, .int .i64 t214, .int .i64 t215, .int .i64 t216, .int .i64 t217, .int .i64 t218] 40 (0, 0)) (by (with_reducible repeat (first | refine blk_drewN ?_ _ | refine blk_drew ?_ | refine blk_alloc ?_ _)); exact BK220.out) hb); have n2_ := Aside0.mk (below_step (by repeat (first | (with_reducible first | exact HB.out | apply below_alloc | apply pw_below_drewN | apply below_drew1 | refine below_set ?_ GE209.out | refine below_set ?_ GE220.out) | exact HB.out)) hb); clear BK209; clear BK220; clear HB; have BK209 := n0_; have BK220 := n1_; have HB := n2_; clear n0_ n1_ n2_; (try clear hb); (try clear hb2); (try clear hk); (try clear hi); have hcz51_0 : w50.cell? ⟨gb220, 0, none⟩ = some (.int .i64 t213) := (blk_cell BK220.out 0).trans rfl; have hcz51_1 : w50.cell? ⟨gb220, 1, none⟩ = some (.int .i64 t214) := (blk_cell BK220.out 1).trans rfl; have hcz51_2 : w50.cell? ⟨gb220, 2, none⟩ = some (.int .i64 t215) := (blk_cell BK220.out 2).trans rfl; have hcz51_3 : w50.cell? ⟨gb220, 3, none⟩ = some (.int .i64 t216) := (blk_cell BK220.out 3).trans rfl; have hcz51_4 : w50.cell? ⟨gb220, 4, none⟩ = some (.int .i64 t217) := (blk_cell BK220.out 4).trans rfl; have hcz51_5 : w50.cell? ⟨gb220, 5, none⟩ = some (.int .i64 t218) := (blk_cell BK220.out 5).trans rfl; have hfz51_0 := blk_frozen BK220.out 0; have hfz51_1 := blk_frozen BK220.out 1; have hfz51_2 := blk_frozen BK220.out 2; have hfz51_3 := blk_frozen BK220.out 3; have hfz51_4 := blk_frozen BK220.out 4; have hfz51_5 := blk_frozen BK220.out 5))
         go_ret
         exact ⟨by first | rfl | (simp [errW_none, errW_some] <;> rfl) | (simp only [← hji23, ← hji25]; first | rfl | (simp [errW_none, errW_some] <;> rfl)) | (simp [*, errW_none, errW_some] <;> rfl), by repeat (first | (with_reducible first | exact HB.out | apply below_alloc | apply pw_below_drewN | apply below_drew1 | refine below_set ?_ GE209.out | refine below_set ?_ GE220.out) | exact HB.out)⟩
       ·rw [if_neg c24] at H
        exact absurd H (by simp)
      ·rw [if_neg c22] at H
       have c22b0 : (t222 == 0) = false := beq_eq_false_iff_ne.mpr c22
       have c22b1 : (t222 != 0) = true := bne_iff_ne.mpr c22
       obtain rfl := Option.some.inj H
       have hnb52 := NB209_220.out
       have hnc52 := NB220_209.out
       have hcz53_0 : wc.cell? ⟨gb209, 0, none⟩ = some (.int .u64 a0_0) := (blk_cell BK209.out 0).trans rfl
       have hcz53_1 : wc.cell? ⟨gb209, 1, none⟩ = some (.bool a0_1) := (blk_cell BK209.out 1).trans rfl
       have hcz53_2 : wc.cell? ⟨gb209, 2, none⟩ = some (.int .u64 a0_2) := (blk_cell BK209.out 2).trans rfl
       have hcz53_3 : wc.cell? ⟨gb209, 3, none⟩ = some (.bool a0_3) := (blk_cell BK209.out 3).trans rfl
       have hcz53_4 : wc.cell? ⟨gb209, 4, none⟩ = some (.int .u64 a0_4) := (blk_cell BK209.out 4).trans rfl
       have hcz53_5 : wc.cell? ⟨gb209, 5, none⟩ = some (.bool a0_5) := (blk_cell BK209.out 5).trans rfl
       have hcz53_6 : wc.cell? ⟨gb209, 6, none⟩ = some (.int .u64 a0_6) := (blk_cell BK209.out 6).trans rfl
       have hcz53_7 : wc.cell? ⟨gb209, 7, none⟩ = some (.bool a0_7) := (blk_cell BK209.out 7).trans rfl
       have hcz53_8 : wc.cell? ⟨gb209, 8, none⟩ = some (.int .u64 a0_8) := (blk_cell BK209.out 8).trans rfl
       have hcz53_9 : wc.cell? ⟨gb209, 9, none⟩ = some (.bool a0_9) := (blk_cell BK209.out 9).trans rfl
       have hfz53_0 := blk_frozen BK209.out 0
       have hfz53_1 := blk_frozen BK209.out 1
       have hfz53_2 := blk_frozen BK209.out 2
       have hfz53_3 := blk_frozen BK209.out 3
       have hfz53_4 := blk_frozen BK209.out 4
       have hfz53_5 := blk_frozen BK209.out 5
       have hfz53_6 := blk_frozen BK209.out 6
       have hfz53_7 := blk_frozen BK209.out 7
       have hfz53_8 := blk_frozen BK209.out 8
       have hfz53_9 := blk_frozen BK209.out 9
       have hcz54_0 : wc.cell? ⟨gb220, 0, none⟩ = some (.int .i64 t213) := (blk_cell BK220.out 0).trans rfl
       have hcz54_1 : wc.cell? ⟨gb220, 1, none⟩ = some (.int .i64 t214) := (blk_cell BK220.out 1).trans rfl
       have hcz54_2 : wc.cell? ⟨gb220, 2, none⟩ = some (.int .i64 t215) := (blk_cell BK220.out 2).trans rfl
       have hcz54_3 : wc.cell? ⟨gb220, 3, none⟩ = some (.int .i64 t216) := (blk_cell BK220.out 3).trans rfl
       have hcz54_4 : wc.cell? ⟨gb220, 4, none⟩ = some (.int .i64 t217) := (blk_cell BK220.out 4).trans rfl
       have hcz54_5 : wc.cell? ⟨gb220, 5, none⟩ = some (.int .i64 t218) := (blk_cell BK220.out 5).trans rfl
       have hfz54_0 := blk_frozen BK220.out 0
       have hfz54_1 := blk_frozen BK220.out 1
       have hfz54_2 := blk_frozen BK220.out 2
       have hfz54_3 := blk_frozen BK220.out 3
       have hfz54_4 := blk_frozen BK220.out 4
       have hfz54_5 := blk_frozen BK220.out 5
       go_wp2_with (first | ((with_reducible refine gate_callee (f := 10) rfl ?_); refine goesL_ (some 47) rfl rfl Tryz.func10 (by kernel_rfl) rfl #[.agg #[.int .u64 a0_0, .bool a0_1, .int .u64 a0_2, .bool a0_3, .int .u64 a0_4, .bool a0_5, .int .u64 a0_6, .bool a0_7, .int .u64 a0_8, .bool a0_9], .int .i64 t213, .int .i64 t214] rfl (by (try simp only [List.map_toArray, List.map_cons, List.map_nil]); first | done | rfl | (simp only [List.length_drop, List.length_take]; rfl)) ?_; (with_reducible refine (day_Mask.calls a0_0 a0_1 a0_2 a0_3 a0_4 a0_5 a0_6 a0_7 a0_8 a0_9 t213 t214 t221 t222 _ A20.out).mono ?_); rintro e w55 ⟨rfl, hb⟩; refine ⟨_, rfl, ?_⟩; have n0_ := Aside0.mk (blk_below (g := gb209) (o := .cells #[.int .u64 a0_0, .bool a0_1, .int .u64 a0_2, .bool a0_3, .int .u64 a0_4, .bool a0_5, .int .u64 a0_6, .bool a0_7, .int .u64 a0_8, .bool a0_9] 26 (0, 0)) (by (with_reducible repeat (first | refine blk_drewN ?_ _ | refine blk_drew ?_ | refine blk_alloc ?_ _)); exact BK209.out) hb); have n1_ := Aside0.mk (blk_below (g := gb220) (o := .cells #[.int .i64 t213, .int .i64 t214, .int .i64 t215, .int .i64 t216, .int .i64 t217, .int .i64 t218] 40 (0, 0)) (by (with_reducible repeat (first | refine blk_drewN ?_ _ | refine blk_drew ?_ | refine blk_alloc ?_ _)); exact BK220.out) hb); have n2_ := Aside0.mk (below_step (by repeat (first | (with_reducible first | exact HB.out | apply below_alloc | apply pw_below_drewN | apply below_drew1 | refine below_set ?_ GE209.out | refine below_set ?_ GE220.out) | exact HB.out)) hb); clear BK209; clear BK220; clear HB; have BK209 := n0_; have BK220 := n1_; have HB := n2_; clear n0_ n1_ n2_; (try clear hb); (try clear hb2); (try clear hk); (try clear hi)))
       go_ret
       exact ⟨by first | rfl | (simp [errW_none, errW_some] <;> rfl) | (simp [*, errW_none, errW_some] <;> rfl), by repeat (first | (with_reducible first | exact HB.out | apply below_alloc | apply pw_below_drewN | apply below_drew1 | refine below_set ?_ GE209.out | refine below_set ?_ GE220.out) | exact HB.out)⟩
     ·exact absurd rfl c21
 ·replace c4 := Bool.eq_false_iff.mpr c4
  subst c4
  have H1 : (some false) = some r := by rw [if_neg (show ¬ (false = true) by decide)] at H; exact H
  clear H
  have H := H1
  clear H1
  obtain rfl := Option.some.inj H
  go_enter Tryz.func5, Tryz.ntmps5
  go_wp2_with (first | ((with_reducible refine gate_dst (N := 2) rfl ?_); refine box_event ?hg (N := 2) ?hd (cs := #[.int .u64 a0_0, .bool a0_1, .int .u64 a0_2, .bool a0_3, .int .u64 a0_4, .bool a0_5, .int .u64 a0_6, .bool a0_7, .int .u64 a0_8, .bool a0_9]) (t := 26) ?hr ?_; (case hd => rfl); (case hg => rfl); (case hr => first | (go_simp; done) | (go_simp; rfl)); intro gb209 hg w60 hbox hb; have n0_ := Aside0.mk (below_step (by repeat (first | (with_reducible first | exact HB.out | apply below_alloc | apply pw_below_drewN | apply below_drew1) | exact HB.out)) hb); have n1_ := Aside0.mk (hbox); have n2_ := Aside0.mk ((by rw [hg]; exact (below_size (by repeat (first | (with_reducible first | exact HB.out | apply below_alloc | apply pw_below_drewN | apply below_drew1) | exact HB.out))) : w.heap.size ≤ gb209)); have n3_ := Aside0.mk ((by rw [hg]; exact (below_size (by repeat (first | (with_reducible first | exact HB.out | apply below_alloc | apply pw_below_drewN | apply below_drew1) | exact HB.out))) : w.heap.size ≤ gb209)); clear HB; have HB := n0_; have BK209 := n1_; have GW209 := n2_; have GE209 := n3_; clear n0_ n1_ n2_ n3_; clear hb hbox hg) | ((with_reducible refine gate_callee (f := 9) rfl ?_); refine goesL_ (some 12) rfl rfl Tryz.func9 (by kernel_rfl) rfl #[] rfl (by (try simp only [List.map_toArray, List.map_cons, List.map_nil]); first | done | rfl | (simp only [List.length_drop, List.length_take]; rfl)) ?_; (with_reducible refine (complinelaw21_works.calls  false _ (hT.keep (by repeat (first | (with_reducible first | exact HB.out | apply below_alloc | apply pw_below_drewN | apply below_drew1 | refine below_set ?_ GE209.out | refine below_set ?_ GE220.out) | exact HB.out))) A3.out).mono ?_); rintro e w61 ⟨rfl, hb⟩; refine ⟨_, rfl, ?_⟩; have n0_ := Aside0.mk (blk_below (g := gb209) (o := .cells #[.int .u64 a0_0, .bool a0_1, .int .u64 a0_2, .bool a0_3, .int .u64 a0_4, .bool a0_5, .int .u64 a0_6, .bool a0_7, .int .u64 a0_8, .bool a0_9] 26 (0, 0)) (by (with_reducible repeat (first | refine blk_drewN ?_ _ | refine blk_drew ?_ | refine blk_alloc ?_ _)); exact BK209.out) hb); have n1_ := Aside0.mk (below_step (by repeat (first | (with_reducible first | exact HB.out | apply below_alloc | apply pw_below_drewN | apply below_drew1 | refine below_set ?_ GE209.out) | exact HB.out)) hb); clear BK209; clear HB; have BK209 := n0_; have HB := n1_; clear n0_ n1_; (try clear hb); (try clear hb2); (try clear hk); (try clear hi)))
  go_ret
  exact ⟨by first | rfl | (simp [errW_none, errW_some] <;> rfl) | (simp [*, errW_none, errW_some] <;> rfl), by repeat (first | (with_reducible first | exact HB.out | apply below_alloc | apply pw_below_drewN | apply below_drew1 | refine below_set ?_ GE209.out) | exact HB.out)⟩

/-! ### complinelaw21_DayMonths: function 6 -/
def complinelaw21_DayMonths.j0 : Nat → Int → Int → Int → Bool → Int → Int → Bool → Int → Bool → Int → Bool → Int → Bool → Int → Bool → Int → Bool → Option (Bool)
 | 0, _, _, _, _, _, _, _, _, _, _, _, _, _, _, _, _, _ => none
 | k + 1, x1, x2, x3, x9, x10, x11, x32, x226000, x226001, x226002, x226003, x226004, x226005, x226006, x226007, x226008, x226009 => if x32 = true then (if x9 = true then (if x11 = 0 then (some true) else (some (x10 == 0))) else (some false)) else (if 0 ≤ (IntKind.u64.wrap (x3)) then (if ((Go.bits .and .u32 (shr .u32 x10 (IntKind.u64.wrap (x3))) 1) = 1) then (if x9 = true then (if x3 ≥ 1 then ((civil_Length.f x1 x2).bind fun t229 => (if x3 ≤ t229 then ((field_Has.f x226006 x226007 x2).bind fun t230 => (some t230)) else (some false))) else (some false)) else (some false)) else (if x9 = true then (if x3 = 0 then (some ((Int.tmod x10 2) == 0)) else (some true)) else (some false))) else (none))
def complinelaw21_DayMonths.f (k : Nat) (a0_0 : Int) (a0_1 : Bool) (a0_2 : Int) (a0_3 : Bool) (a0_4 : Int) (a0_5 : Bool) (a0_6 : Int) (a0_7 : Bool) (a0_8 : Int) (a0_9 : Bool) (a1 : Int) (a2 : Int) (a3 : Int) : Option (Bool) := (complinelaw21_works.f).bind fun t226 => (if t226 = true then ((day_Mask.f a0_0 a0_1 a0_2 a0_3 a0_4 a0_5 a0_6 a0_7 a0_8 a0_9 a1 a2).bind fun bt227 => (if bt227.2 = 0 then (if a3 < 0 then (complinelaw21_DayMonths.j0 k a1 a2 a3 t226 bt227.1 bt227.2 true a0_0 a0_1 a0_2 a0_3 a0_4 a0_5 a0_6 a0_7 a0_8 a0_9) else (complinelaw21_DayMonths.j0 k a1 a2 a3 t226 bt227.1 bt227.2 (decide (a3 > 31)) a0_0 a0_1 a0_2 a0_3 a0_4 a0_5 a0_6 a0_7 a0_8 a0_9)) else (complinelaw21_DayMonths.j0 k a1 a2 a3 t226 bt227.1 bt227.2 true a0_0 a0_1 a0_2 a0_3 a0_4 a0_5 a0_6 a0_7 a0_8 a0_9))) else (some false))
theorem complinelaw21_DayMonths.mono_l : ∀ k, (∀ y0 y1 y2 y3 y4 y5 y6 y7 y8 y9 y10 y11 y12 y13 y14 y15 y16, LeO (complinelaw21_DayMonths.j0 k y0 y1 y2 y3 y4 y5 y6 y7 y8 y9 y10 y11 y12 y13 y14 y15 y16) (complinelaw21_DayMonths.j0 (k + 1) y0 y1 y2 y3 y4 y5 y6 y7 y8 y9 y10 y11 y12 y13 y14 y15 y16))
 | 0 => fun _ _ _ _ _ _ _ _ _ _ _ _ _ _ _ _ _ r h => by simp [complinelaw21_DayMonths.j0] at h
 | k + 1 => by
  have ih0 := complinelaw21_DayMonths.mono_l k
  ·intro y0 y1 y2 y3 y4 y5 y6 y7 y8 y9 y10 y11 y12 y13 y14 y15 y16
   unfold complinelaw21_DayMonths.j0
   repeat' first
   | (with_reducible exact ih0 _ _ _ _ _ _ _ _ _ _ _ _ _ _ _ _ _)
   | (with_reducible exact LeO.refl _)
   | (with_reducible exact LeO.none _)
   | (with_reducible refine LeO.ite ?_ ?_)
   | (with_reducible refine LeO.bind ?_ (fun _ => ?_))
   | exact ih0 _ _ _ _ _ _ _ _ _ _ _ _ _ _ _ _ _
   | exact LeO.none _
   | refine LeO.ite ?_ ?_
   | refine LeO.bind ?_ (fun _ => ?_)
theorem complinelaw21_DayMonths.mono : ∀ a0 a1 a2 a3 a4 a5 a6 a7 a8 a9 a10 a11 a12 k, LeO (complinelaw21_DayMonths.f k a0 a1 a2 a3 a4 a5 a6 a7 a8 a9 a10 a11 a12) (complinelaw21_DayMonths.f (k + 1) a0 a1 a2 a3 a4 a5 a6 a7 a8 a9 a10 a11 a12) := by
 intro a0 a1 a2 a3 a4 a5 a6 a7 a8 a9 a10 a11 a12 k
 have ih0 := complinelaw21_DayMonths.mono_l k
 unfold complinelaw21_DayMonths.f
 repeat' first
   | (with_reducible exact ih0 _ _ _ _ _ _ _ _ _ _ _ _ _ _ _ _ _)
   | (with_reducible exact LeO.refl _)
   | (with_reducible exact LeO.none _)
   | (with_reducible refine LeO.ite ?_ ?_)
   | (with_reducible refine LeO.bind ?_ (fun _ => ?_))
   | exact ih0 _ _ _ _ _ _ _ _ _ _ _ _ _ _ _ _ _
   | exact LeO.none _
   | refine LeO.ite ?_ ?_
   | refine LeO.bind ?_ (fun _ => ?_)
set_option maxHeartbeats 8000000 in
set_option maxRecDepth 100000 in
theorem complinelaw21_DayMonths.calls (k : Nat) (a0_0 : Int) (a0_1 : Bool) (a0_2 : Int) (a0_3 : Bool) (a0_4 : Int) (a0_5 : Bool) (a0_6 : Int) (a0_7 : Bool) (a0_8 : Int) (a0_9 : Bool) (a1 : Int) (a2 : Int) (a3 : Int) (r : Bool) (w : World) (hT : Tab w) (h : complinelaw21_DayMonths.f k a0_0 a0_1 a0_2 a0_3 a0_4 a0_5 a0_6 a0_7 a0_8 a0_9 a1 a2 a3 = some r) :
  Calls Tryz.prog 6 #[.agg #[.int .u64 a0_0, .bool a0_1, .int .u64 a0_2, .bool a0_3, .int .u64 a0_4, .bool a0_5, .int .u64 a0_6, .bool a0_7, .int .u64 a0_8, .bool a0_9], .int .i64 a1, .int .i64 a2, .int .i64 a3] w fun e w' => e = .returned (.bool r) ∧ Below w.heap.size w w' := by
 have hu26 := Tryz.underlying26
 have hu24 := Tryz.underlying24
 have HB := Aside0.mk (Below.refl w.heap.size w)
 have H : ((complinelaw21_works.f).bind fun t226 => (if t226 = true then ((day_Mask.f a0_0 a0_1 a0_2 a0_3 a0_4 a0_5 a0_6 a0_7 a0_8 a0_9 a1 a2).bind fun bt227 => (if bt227.2 = 0 then (if a3 < 0 then (complinelaw21_DayMonths.j0 k a1 a2 a3 t226 bt227.1 bt227.2 true a0_0 a0_1 a0_2 a0_3 a0_4 a0_5 a0_6 a0_7 a0_8 a0_9) else (complinelaw21_DayMonths.j0 k a1 a2 a3 t226 bt227.1 bt227.2 (decide (a3 > 31)) a0_0 a0_1 a0_2 a0_3 a0_4 a0_5 a0_6 a0_7 a0_8 a0_9)) else (complinelaw21_DayMonths.j0 k a1 a2 a3 t226 bt227.1 bt227.2 true a0_0 a0_1 a0_2 a0_3 a0_4 a0_5 a0_6 a0_7 a0_8 a0_9))) else (some false))) = some r := h
 clear h
 replace H := Option.bind_eq_some_iff.mp H
 obtain ⟨t226, A50, H⟩ := H
 replace H : (if t226 = true then ((day_Mask.f a0_0 a0_1 a0_2 a0_3 a0_4 a0_5 a0_6 a0_7 a0_8 a0_9 a1 a2).bind fun bt227 => (if bt227.2 = 0 then (if a3 < 0 then (complinelaw21_DayMonths.j0 k a1 a2 a3 t226 bt227.1 bt227.2 true a0_0 a0_1 a0_2 a0_3 a0_4 a0_5 a0_6 a0_7 a0_8 a0_9) else (complinelaw21_DayMonths.j0 k a1 a2 a3 t226 bt227.1 bt227.2 (decide (a3 > 31)) a0_0 a0_1 a0_2 a0_3 a0_4 a0_5 a0_6 a0_7 a0_8 a0_9)) else (complinelaw21_DayMonths.j0 k a1 a2 a3 t226 bt227.1 bt227.2 true a0_0 a0_1 a0_2 a0_3 a0_4 a0_5 a0_6 a0_7 a0_8 a0_9))) else (some false)) = some r := H
 have A5 := Aside0.mk A50
 clear A50
 by_cases c6 : t226 = true
 ·subst c6
  have H1 : ((day_Mask.f a0_0 a0_1 a0_2 a0_3 a0_4 a0_5 a0_6 a0_7 a0_8 a0_9 a1 a2).bind fun bt227 => (if bt227.2 = 0 then (if a3 < 0 then (complinelaw21_DayMonths.j0 k a1 a2 a3 true bt227.1 bt227.2 true a0_0 a0_1 a0_2 a0_3 a0_4 a0_5 a0_6 a0_7 a0_8 a0_9) else (complinelaw21_DayMonths.j0 k a1 a2 a3 true bt227.1 bt227.2 (decide (a3 > 31)) a0_0 a0_1 a0_2 a0_3 a0_4 a0_5 a0_6 a0_7 a0_8 a0_9)) else (complinelaw21_DayMonths.j0 k a1 a2 a3 true bt227.1 bt227.2 true a0_0 a0_1 a0_2 a0_3 a0_4 a0_5 a0_6 a0_7 a0_8 a0_9))) = some r := by rw [if_pos rfl] at H; exact H
  clear H
  have H := H1
  clear H1
  replace H := Option.bind_eq_some_iff.mp H
  obtain ⟨⟨t227, t228⟩, A70, H⟩ := H
  replace H : (if t228 = 0 then (if a3 < 0 then (complinelaw21_DayMonths.j0 k a1 a2 a3 true t227 t228 true a0_0 a0_1 a0_2 a0_3 a0_4 a0_5 a0_6 a0_7 a0_8 a0_9) else (complinelaw21_DayMonths.j0 k a1 a2 a3 true t227 t228 (decide (a3 > 31)) a0_0 a0_1 a0_2 a0_3 a0_4 a0_5 a0_6 a0_7 a0_8 a0_9)) else (complinelaw21_DayMonths.j0 k a1 a2 a3 true t227 t228 true a0_0 a0_1 a0_2 a0_3 a0_4 a0_5 a0_6 a0_7 a0_8 a0_9)) = some r := H
  have A7 := Aside0.mk A70
  clear A70
  have HC8 := Aside0.mk H
  clear H
  go_enter Tryz.func6, Tryz.ntmps6
  go_upto_region 5 with (first | ((with_reducible refine gate_dst (N := 4) rfl ?_); refine box_event ?hg (N := 4) ?hd (cs := #[.int .u64 a0_0, .bool a0_1, .int .u64 a0_2, .bool a0_3, .int .u64 a0_4, .bool a0_5, .int .u64 a0_6, .bool a0_7, .int .u64 a0_8, .bool a0_9]) (t := 26) ?hr ?_; (case hd => rfl); (case hg => rfl); (case hr => first | (go_simp; done) | (go_simp; rfl)); intro gb225 hg w9 hbox hb; have n0_ := Aside0.mk (below_step (by repeat (first | (with_reducible first | exact HB.out | apply below_alloc | apply pw_below_drewN | apply below_drew1) | exact HB.out)) hb); have n1_ := Aside0.mk (hbox); have n2_ := Aside0.mk ((by rw [hg]; exact (below_size (by repeat (first | (with_reducible first | exact HB.out | apply below_alloc | apply pw_below_drewN | apply below_drew1) | exact HB.out))) : w.heap.size ≤ gb225)); have n3_ := Aside0.mk ((by rw [hg]; exact (below_size (by repeat (first | (with_reducible first | exact HB.out | apply below_alloc | apply pw_below_drewN | apply below_drew1) | exact HB.out))) : w.heap.size ≤ gb225)); clear HB; have HB := n0_; have BK225 := n1_; have GW225 := n2_; have GE225 := n3_; clear n0_ n1_ n2_ n3_; clear hb hbox hg) | ((with_reducible refine gate_callee (f := 9) rfl ?_); refine goesL_ (some 13) rfl rfl Tryz.func9 (by kernel_rfl) rfl #[] rfl (by (try simp only [List.map_toArray, List.map_cons, List.map_nil]); first | done | rfl | (simp only [List.length_drop, List.length_take]; rfl)) ?_; (with_reducible refine (complinelaw21_works.calls  true _ (hT.keep (by repeat (first | (with_reducible first | exact HB.out | apply below_alloc | apply pw_below_drewN | apply below_drew1 | refine below_set ?_ GE225.out) | exact HB.out))) A5.out).mono ?_); rintro e w10 ⟨rfl, hb⟩; refine ⟨_, rfl, ?_⟩; have n0_ := Aside0.mk (blk_below (g := gb225) (o := .cells #[.int .u64 a0_0, .bool a0_1, .int .u64 a0_2, .bool a0_3, .int .u64 a0_4, .bool a0_5, .int .u64 a0_6, .bool a0_7, .int .u64 a0_8, .bool a0_9] 26 (0, 0)) (by (with_reducible repeat (first | refine blk_drewN ?_ _ | refine blk_drew ?_ | refine blk_alloc ?_ _)); exact BK225.out) hb); have n1_ := Aside0.mk (below_step (by repeat (first | (with_reducible first | exact HB.out | apply below_alloc | apply pw_below_drewN | apply below_drew1 | refine below_set ?_ GE225.out) | exact HB.out)) hb); clear BK225; clear HB; have BK225 := n0_; have HB := n1_; clear n0_ n1_; (try clear hb); (try clear hb2); (try clear hk); (try clear hi); have hcz11_0 : w10.cell? ⟨gb225, 0, none⟩ = some (.int .u64 a0_0) := (blk_cell BK225.out 0).trans rfl; have hcz11_1 : w10.cell? ⟨gb225, 1, none⟩ = some (.bool a0_1) := (blk_cell BK225.out 1).trans rfl; have hcz11_2 : w10.cell? ⟨gb225, 2, none⟩ = some (.int .u64 a0_2) := (blk_cell BK225.out 2).trans rfl; have hcz11_3 : w10.cell? ⟨gb225, 3, none⟩ = some (.bool a0_3) := (blk_cell BK225.out 3).trans rfl; have hcz11_4 : w10.cell? ⟨gb225, 4, none⟩ = some (.int .u64 a0_4) := (blk_cell BK225.out 4).trans rfl; have hcz11_5 : w10.cell? ⟨gb225, 5, none⟩ = some (.bool a0_5) := (blk_cell BK225.out 5).trans rfl; have hcz11_6 : w10.cell? ⟨gb225, 6, none⟩ = some (.int .u64 a0_6) := (blk_cell BK225.out 6).trans rfl; have hcz11_7 : w10.cell? ⟨gb225, 7, none⟩ = some (.bool a0_7) := (blk_cell BK225.out 7).trans rfl; have hcz11_8 : w10.cell? ⟨gb225, 8, none⟩ = some (.int .u64 a0_8) := (blk_cell BK225.out 8).trans rfl; have hcz11_9 : w10.cell? ⟨gb225, 9, none⟩ = some (.bool a0_9) := (blk_cell BK225.out 9).trans rfl; have hfz11_0 := blk_frozen BK225.out 0; have hfz11_1 := blk_frozen BK225.out 1; have hfz11_2 := blk_frozen BK225.out 2; have hfz11_3 := blk_frozen BK225.out 3; have hfz11_4 := blk_frozen BK225.out 4; have hfz11_5 := blk_frozen BK225.out 5; have hfz11_6 := blk_frozen BK225.out 6; have hfz11_7 := blk_frozen BK225.out 7; have hfz11_8 := blk_frozen BK225.out 8; have hfz11_9 := blk_frozen BK225.out 9) | ((with_reducible refine gate_callee (f := 10) rfl ?_); refine goesL_ (some 20) rfl rfl Tryz.func10 (by kernel_rfl) rfl #[.agg #[.int .u64 a0_0, .bool a0_1, .int .u64 a0_2, .bool a0_3, .int .u64 a0_4, .bool a0_5, .int .u64 a0_6, .bool a0_7, .int .u64 a0_8, .bool a0_9], .int .i64 a1, .int .i64 a2] rfl (by (try simp only [List.map_toArray, List.map_cons, List.map_nil]); first | done | rfl | (simp only [List.length_drop, List.length_take]; rfl)) ?_; (with_reducible refine (day_Mask.calls a0_0 a0_1 a0_2 a0_3 a0_4 a0_5 a0_6 a0_7 a0_8 a0_9 a1 a2 t227 t228 _ A7.out).mono ?_); rintro e w12 ⟨rfl, hb⟩; refine ⟨_, rfl, ?_⟩; have n0_ := Aside0.mk (blk_below (g := gb225) (o := .cells #[.int .u64 a0_0, .bool a0_1, .int .u64 a0_2, .bool a0_3, .int .u64 a0_4, .bool a0_5, .int .u64 a0_6, .bool a0_7, .int .u64 a0_8, .bool a0_9] 26 (0, 0)) (by (with_reducible repeat (first | refine blk_drewN ?_ _ | refine blk_drew ?_ | refine blk_alloc ?_ _)); exact BK225.out) hb); have n1_ := Aside0.mk (below_step (by repeat (first | (with_reducible first | exact HB.out | apply below_alloc | apply pw_below_drewN | apply below_drew1 | refine below_set ?_ GE225.out) | exact HB.out)) hb); clear BK225; clear HB; have BK225 := n0_; have HB := n1_; clear n0_ n1_; (try clear hb); (try clear hb2); (try clear hk); (try clear hi)))
  (try simp only [Act.put, List.setIfInBounds_toArray, List.set_cons_zero, List.set_cons_succ])
  go_cut [32] (fun v32 wc => ∃ (kq : Nat) (x32_7 : Bool), v32 = .bool x32_7 ∧ Aside0 (complinelaw21_DayMonths.j0 kq a1 a2 a3 true t227 t228 x32_7 a0_0 a0_1 a0_2 a0_3 a0_4 a0_5 a0_6 a0_7 a0_8 a0_9 = some r) ∧ Aside0 (kq ≤ k) ∧ Aside0 (wc.heap[gb225]? = some (.cells #[.int .u64 a0_0, .bool a0_1, .int .u64 a0_2, .bool a0_3, .int .u64 a0_4, .bool a0_5, .int .u64 a0_6, .bool a0_7, .int .u64 a0_8, .bool a0_9] 26 (0, 0))) ∧ Aside0 (Below w.heap.size w wc))
  case first =>
   have H := HC8.out
   clear HC8
   by_cases c13 : t228 = 0
   ·rw [if_pos c13] at H
    have c13b0 : (t228 == 0) = true := beq_iff_eq.mpr c13
    have c13b1 : (t228 != 0) = false := bne_eq_false_iff_eq.mpr c13
    clear c13
    (first | rw [c13b0] | (simp only [i64_w, i32_w]; rw [c13b0]) | skip)
    by_cases c14 : a3 < 0
    ·rw [if_pos c14] at H
     have c14b0 : decide (a3 < 0) = true := decide_eq_true c14
     clear c14
     have H' := Aside0.mk H
     clear H
     go_wp2
     go_meet
     case rel => exact ⟨_, (true), (by first | rfl | (simp; done) | (simp [*]; done)), H', ⟨by first | omega | exact Nat.le_refl _⟩, ⟨by (with_reducible repeat (first | refine blk_drewN ?_ _ | refine blk_drew ?_ | refine blk_alloc ?_ _)); exact BK225.out⟩, ⟨by repeat (first | (with_reducible first | exact HB.out | apply below_alloc | apply pw_below_drewN | apply below_drew1 | refine below_set ?_ GE225.out) | exact HB.out)⟩⟩
    ·rw [if_neg c14] at H
     have c14b0 : decide (a3 < 0) = false := decide_eq_false c14
     clear c14
     have H' := Aside0.mk H
     clear H
     go_wp2
     go_meet
     case rel => exact ⟨_, (decide (a3 > 31)), (by first | rfl | (simp; done) | (simp [*]; done)), H', ⟨by first | omega | exact Nat.le_refl _⟩, ⟨by (with_reducible repeat (first | refine blk_drewN ?_ _ | refine blk_drew ?_ | refine blk_alloc ?_ _)); exact BK225.out⟩, ⟨by repeat (first | (with_reducible first | exact HB.out | apply below_alloc | apply pw_below_drewN | apply below_drew1 | refine below_set ?_ GE225.out) | exact HB.out)⟩⟩
   ·rw [if_neg c13] at H
    have c13b0 : (t228 == 0) = false := beq_eq_false_iff_ne.mpr c13
    have c13b1 : (t228 != 0) = true := bne_iff_ne.mpr c13
    (first | rw [c13b0] | (simp only [i64_w, i32_w]; rw [c13b0]) | skip)
    have H' := Aside0.mk H
    clear H
    go_wp2
    go_meet
    case rel => exact ⟨_, (true), (by first | rfl | (simp; done) | (simp [*]; done)), H', ⟨by first | omega | exact Nat.le_refl _⟩, ⟨by (with_reducible repeat (first | refine blk_drewN ?_ _ | refine blk_drew ?_ | refine blk_alloc ?_ _)); exact BK225.out⟩, ⟨by repeat (first | (with_reducible first | exact HB.out | apply below_alloc | apply pw_below_drewN | apply below_drew1 | refine below_set ?_ GE225.out) | exact HB.out)⟩⟩
  case rest =>
   clear HC8
   try clear c1
   try clear p2
   try clear c6
   try clear c9
   try clear c10
   try clear c13
   try clear c13b0
   try clear c13b1
   try clear c14
   try clear c14b0
   try clear hcz11_0
   try clear hcz11_1
   try clear hcz11_2
   try clear hcz11_3
   try clear hcz11_4
   try clear hcz11_5
   try clear hcz11_6
   try clear hcz11_7
   try clear hcz11_8
   try clear hcz11_9
   try clear hfz11_0
   try clear hfz11_1
   try clear hfz11_2
   try clear hfz11_3
   try clear hfz11_4
   try clear hfz11_5
   try clear hfz11_6
   try clear hfz11_7
   try clear hfz11_8
   try clear hfz11_9
   obtain ⟨kq, x32_7, rfl, HA, HJ7, BK225, HB⟩ := hcut
   cases kq with
   | zero => exact absurd HA.out (by simp [complinelaw21_DayMonths.j0])
   | succ kj7 =>
    have H := HA.out
    clear HA
    simp only [complinelaw21_DayMonths.j0] at H
    by_cases c15 : x32_7 = true
    ·subst c15
     have H1 : (if true = true then (if t228 = 0 then (some true) else (some (t227 == 0))) else (some false)) = some r := by rw [if_pos rfl] at H; exact H
     clear H
     have H := H1
     clear H1
     by_cases c16 : true = true
     ·clear c16
      have H1 : (if t228 = 0 then (some true) else (some (t227 == 0))) = some r := by rw [if_pos rfl] at H; exact H
      clear H
      have H := H1
      clear H1
      by_cases c17 : t228 = 0
      ·rw [if_pos c17] at H
       have c17b0 : (t228 == 0) = true := beq_iff_eq.mpr c17
       have c17b1 : (t228 != 0) = false := bne_eq_false_iff_eq.mpr c17
       clear c17
       obtain rfl := Option.some.inj H
       go_wp2
       go_ret
       exact ⟨by first | rfl | (simp [errW_none, errW_some] <;> rfl) | (simp [*, errW_none, errW_some] <;> rfl), by repeat (first | (with_reducible first | exact HB.out | apply below_alloc | apply pw_below_drewN | apply below_drew1 | refine below_set ?_ GE225.out) | exact HB.out)⟩
      ·rw [if_neg c17] at H
       have c17b0 : (t228 == 0) = false := beq_eq_false_iff_ne.mpr c17
       have c17b1 : (t228 != 0) = true := bne_iff_ne.mpr c17
       obtain rfl := Option.some.inj H
       go_wp2
       go_ret
       exact ⟨by first | rfl | (simp [errW_none, errW_some] <;> rfl) | (simp [*, errW_none, errW_some] <;> rfl), by repeat (first | (with_reducible first | exact HB.out | apply below_alloc | apply pw_below_drewN | apply below_drew1 | refine below_set ?_ GE225.out) | exact HB.out)⟩
     ·exact absurd rfl c16
    ·replace c15 := Bool.eq_false_iff.mpr c15
     subst c15
     have H1 : (if 0 ≤ (IntKind.u64.wrap (a3)) then (if ((Go.bits .and .u32 (shr .u32 t227 (IntKind.u64.wrap (a3))) 1) = 1) then (if true = true then (if a3 ≥ 1 then ((civil_Length.f a1 a2).bind fun t229 => (if a3 ≤ t229 then ((field_Has.f a0_6 a0_7 a2).bind fun t230 => (some t230)) else (some false))) else (some false)) else (some false)) else (if true = true then (if a3 = 0 then (some ((Int.tmod t227 2) == 0)) else (some true)) else (some false))) else (none)) = some r := by rw [if_neg (show ¬ (false = true) by decide)] at H; exact H
     clear H
     have H := H1
     clear H1
     obtain ⟨ji18, hji18⟩ : ∃ j_ : Int, (IntKind.u64.wrap (a3)) = j_ := ⟨_, rfl⟩
     replace H : (if 0 ≤ (ji18) then (if ((Go.bits .and .u32 (shr .u32 t227 (ji18)) 1) = 1) then (if true = true then (if a3 ≥ 1 then ((civil_Length.f a1 a2).bind fun t229 => (if a3 ≤ t229 then ((field_Has.f a0_6 a0_7 a2).bind fun t230 => (some t230)) else (some false))) else (some false)) else (some false)) else (if true = true then (if a3 = 0 then (some ((Int.tmod t227 2) == 0)) else (some true)) else (some false))) else (none)) = some r := by first | (rw [hji18] at H; exact H) | (simp only [hji18] at H ⊢; exact H)
     by_cases c19 : 0 ≤ (ji18)
     ·rw [if_pos c19] at H
      have c19b0 := eq_true c19
      have c19b1 : decide (0 ≤ (ji18)) = true := decide_eq_true c19
      clear c19
      obtain ⟨ji20, hji20⟩ : ∃ j_ : Int, (shr .u32 t227 (ji18)) = j_ := ⟨_, rfl⟩
      replace H : (if ((Go.bits .and .u32 (ji20) 1) = 1) then (if true = true then (if a3 ≥ 1 then ((civil_Length.f a1 a2).bind fun t229 => (if a3 ≤ t229 then ((field_Has.f a0_6 a0_7 a2).bind fun t230 => (some t230)) else (some false))) else (some false)) else (some false)) else (if true = true then (if a3 = 0 then (some ((Int.tmod t227 2) == 0)) else (some true)) else (some false))) = some r := by first | (rw [hji20] at H; exact H) | (simp only [hji20] at H ⊢; exact H)
      have hji20_ : (t227 / 2 ^ min (ji18).toNat 32) = ji20 := hji20
      have hji20z : (ji18) ≤ 32 → (t227 / 2 ^ (ji18).toNat) = ji20 := shr_small hji20
      by_cases c21 : ((Go.bits .and .u32 (ji20) 1) = 1)
      ·rw [if_pos c21] at H
       have c21b0 : ((Go.bits .and .u32 (ji20) 1) == 1) = true := beq_iff_eq.mpr c21
       have c21b1 : ((Go.bits .and .u32 (ji20) 1) != 1) = false := bne_eq_false_iff_eq.mpr c21
       clear c21
       by_cases c22 : true = true
       ·clear c22
        have H1 : (if a3 ≥ 1 then ((civil_Length.f a1 a2).bind fun t229 => (if a3 ≤ t229 then ((field_Has.f a0_6 a0_7 a2).bind fun t230 => (some t230)) else (some false))) else (some false)) = some r := by rw [if_pos rfl] at H; exact H
        clear H
        have H := H1
        clear H1
        by_cases c23 : a3 ≥ 1
        ·rw [if_pos c23] at H
         have c23b0 : decide (1 ≤ a3) = true := decide_eq_true c23
         clear c23
         replace H := Option.bind_eq_some_iff.mp H
         obtain ⟨t229, A240, H⟩ := H
         replace H : (if a3 ≤ t229 then ((field_Has.f a0_6 a0_7 a2).bind fun t230 => (some t230)) else (some false)) = some r := H
         have A24 := Aside0.mk A240
         clear A240
         by_cases c25 : a3 ≤ t229
         ·rw [if_pos c25] at H
          have c25b0 : decide (a3 ≤ t229) = true := decide_eq_true c25
          clear c25
          replace H := Option.bind_eq_some_iff.mp H
          obtain ⟨t230, A260, H⟩ := H
          replace H : (some t230) = some r := H
          have A26 := Aside0.mk A260
          clear A260
          obtain rfl := Option.some.inj H
          go_wp2_with (first | (go_at_call 18; (with_reducible refine (civil_Length.calls a1 a2 t229 _ A24.out).mono ?_); rintro e w' ⟨rfl, ⟨nd, rfl⟩⟩; have hcz27_0 : wc.cell? ⟨gb225, 0, none⟩ = some (.int .u64 a0_0) := (blk_cell BK225.out 0).trans rfl; have hcz27_1 : wc.cell? ⟨gb225, 1, none⟩ = some (.bool a0_1) := (blk_cell BK225.out 1).trans rfl; have hcz27_2 : wc.cell? ⟨gb225, 2, none⟩ = some (.int .u64 a0_2) := (blk_cell BK225.out 2).trans rfl; have hcz27_3 : wc.cell? ⟨gb225, 3, none⟩ = some (.bool a0_3) := (blk_cell BK225.out 3).trans rfl; have hcz27_4 : wc.cell? ⟨gb225, 4, none⟩ = some (.int .u64 a0_4) := (blk_cell BK225.out 4).trans rfl; have hcz27_5 : wc.cell? ⟨gb225, 5, none⟩ = some (.bool a0_5) := (blk_cell BK225.out 5).trans rfl; have hcz27_6 : wc.cell? ⟨gb225, 6, none⟩ = some (.int .u64 a0_6) := (blk_cell BK225.out 6).trans rfl; have hcz27_7 : wc.cell? ⟨gb225, 7, none⟩ = some (.bool a0_7) := (blk_cell BK225.out 7).trans rfl; have hcz27_8 : wc.cell? ⟨gb225, 8, none⟩ = some (.int .u64 a0_8) := (blk_cell BK225.out 8).trans rfl; have hcz27_9 : wc.cell? ⟨gb225, 9, none⟩ = some (.bool a0_9) := (blk_cell BK225.out 9).trans rfl; have hfz27_0 := blk_frozen BK225.out 0; have hfz27_1 := blk_frozen BK225.out 1; have hfz27_2 := blk_frozen BK225.out 2; have hfz27_3 := blk_frozen BK225.out 3; have hfz27_4 := blk_frozen BK225.out 4; have hfz27_5 := blk_frozen BK225.out 5; have hfz27_6 := blk_frozen BK225.out 6; have hfz27_7 := blk_frozen BK225.out 7; have hfz27_8 := blk_frozen BK225.out 8; have hfz27_9 := blk_frozen BK225.out 9) | (go_at_call 17; (with_reducible refine (field_Has.calls a0_6 a0_7 a2 t230 _ A26.out).mono ?_); rintro e w28 ⟨rfl, hb⟩; have n0_ := Aside0.mk (blk_below (g := gb225) (o := .cells #[.int .u64 a0_0, .bool a0_1, .int .u64 a0_2, .bool a0_3, .int .u64 a0_4, .bool a0_5, .int .u64 a0_6, .bool a0_7, .int .u64 a0_8, .bool a0_9] 26 (0, 0)) (by (with_reducible repeat (first | refine blk_drewN ?_ _ | refine blk_drew ?_ | refine blk_alloc ?_ _)); exact BK225.out) hb); have n1_ := Aside0.mk (below_step (by repeat (first | (with_reducible first | exact HB.out | apply below_alloc | apply pw_below_drewN | apply below_drew1 | refine below_set ?_ GE225.out) | exact HB.out)) hb); clear BK225; clear HB; have BK225 := n0_; have HB := n1_; clear n0_ n1_; (try clear hb); (try clear hb2); (try clear hk); (try clear hi)))
          go_ret
          exact ⟨by first | rfl | (simp [errW_none, errW_some] <;> rfl) | (simp only [← hji18, ← hji20]; first | rfl | (simp [errW_none, errW_some] <;> rfl)) | (simp [*, errW_none, errW_some] <;> rfl), by repeat (first | (with_reducible first | exact HB.out | apply below_alloc | apply pw_below_drewN | apply below_drew1 | refine below_set ?_ GE225.out) | exact HB.out)⟩
         ·rw [if_neg c25] at H
          have c25b0 : decide (a3 ≤ t229) = false := decide_eq_false c25
          clear c25
          obtain rfl := Option.some.inj H
          go_wp2_with (first | (go_at_call 18; (with_reducible refine (civil_Length.calls a1 a2 t229 _ A24.out).mono ?_); rintro e w' ⟨rfl, ⟨nd, rfl⟩⟩))
          go_ret
          exact ⟨by first | rfl | (simp [errW_none, errW_some] <;> rfl) | (simp only [← hji18, ← hji20]; first | rfl | (simp [errW_none, errW_some] <;> rfl)) | (simp [*, errW_none, errW_some] <;> rfl), by repeat (first | (with_reducible first | exact HB.out | apply below_alloc | apply pw_below_drewN | apply below_drew1 | refine below_set ?_ GE225.out) | exact HB.out)⟩
        ·rw [if_neg c23] at H
         have c23b0 : decide (1 ≤ a3) = false := decide_eq_false c23
         clear c23
         obtain rfl := Option.some.inj H
         go_wp2
         go_ret
         exact ⟨by first | rfl | (simp [errW_none, errW_some] <;> rfl) | (simp only [← hji18, ← hji20]; first | rfl | (simp [errW_none, errW_some] <;> rfl)) | (simp [*, errW_none, errW_some] <;> rfl), by repeat (first | (with_reducible first | exact HB.out | apply below_alloc | apply pw_below_drewN | apply below_drew1 | refine below_set ?_ GE225.out) | exact HB.out)⟩
       ·exact absurd rfl c22
      ·rw [if_neg c21] at H
       have c21b0 : ((Go.bits .and .u32 (ji20) 1) == 1) = false := beq_eq_false_iff_ne.mpr c21
       have c21b1 : ((Go.bits .and .u32 (ji20) 1) != 1) = true := bne_iff_ne.mpr c21
       by_cases c29 : true = true
       ·clear c29
        have H1 : (if a3 = 0 then (some ((Int.tmod t227 2) == 0)) else (some true)) = some r := by rw [if_pos rfl] at H; exact H
        clear H
        have H := H1
        clear H1
        by_cases c30 : a3 = 0
        ·rw [if_pos c30] at H
         have c30b0 : (a3 == 0) = true := beq_iff_eq.mpr c30
         have c30b1 : (a3 != 0) = false := bne_eq_false_iff_eq.mpr c30
         clear c30
         obtain rfl := Option.some.inj H
         go_wp2
         go_ret
         exact ⟨by first | rfl | (simp [errW_none, errW_some] <;> rfl) | (simp only [← hji18, ← hji20]; first | rfl | (simp [errW_none, errW_some] <;> rfl)) | (simp [*, errW_none, errW_some] <;> rfl), by repeat (first | (with_reducible first | exact HB.out | apply below_alloc | apply pw_below_drewN | apply below_drew1 | refine below_set ?_ GE225.out) | exact HB.out)⟩
        ·rw [if_neg c30] at H
         have c30b0 : (a3 == 0) = false := beq_eq_false_iff_ne.mpr c30
         have c30b1 : (a3 != 0) = true := bne_iff_ne.mpr c30
         obtain rfl := Option.some.inj H
         go_wp2
         go_ret
         exact ⟨by first | rfl | (simp [errW_none, errW_some] <;> rfl) | (simp only [← hji18, ← hji20]; first | rfl | (simp [errW_none, errW_some] <;> rfl)) | (simp [*, errW_none, errW_some] <;> rfl), by repeat (first | (with_reducible first | exact HB.out | apply below_alloc | apply pw_below_drewN | apply below_drew1 | refine below_set ?_ GE225.out) | exact HB.out)⟩
       ·exact absurd rfl c29
     ·rw [if_neg c19] at H
      exact absurd H (by simp)
 ·replace c6 := Bool.eq_false_iff.mpr c6
  subst c6
  have H1 : (some false) = some r := by rw [if_neg (show ¬ (false = true) by decide)] at H; exact H
  clear H
  have H := H1
  clear H1
  obtain rfl := Option.some.inj H
  go_enter Tryz.func6, Tryz.ntmps6
  go_wp2_with (first | ((with_reducible refine gate_dst (N := 4) rfl ?_); refine box_event ?hg (N := 4) ?hd (cs := #[.int .u64 a0_0, .bool a0_1, .int .u64 a0_2, .bool a0_3, .int .u64 a0_4, .bool a0_5, .int .u64 a0_6, .bool a0_7, .int .u64 a0_8, .bool a0_9]) (t := 26) ?hr ?_; (case hd => rfl); (case hg => rfl); (case hr => first | (go_simp; done) | (go_simp; rfl)); intro gb225 hg w31 hbox hb; have n0_ := Aside0.mk (below_step (by repeat (first | (with_reducible first | exact HB.out | apply below_alloc | apply pw_below_drewN | apply below_drew1) | exact HB.out)) hb); have n1_ := Aside0.mk (hbox); have n2_ := Aside0.mk ((by rw [hg]; exact (below_size (by repeat (first | (with_reducible first | exact HB.out | apply below_alloc | apply pw_below_drewN | apply below_drew1) | exact HB.out))) : w.heap.size ≤ gb225)); have n3_ := Aside0.mk ((by rw [hg]; exact (below_size (by repeat (first | (with_reducible first | exact HB.out | apply below_alloc | apply pw_below_drewN | apply below_drew1) | exact HB.out))) : w.heap.size ≤ gb225)); clear HB; have HB := n0_; have BK225 := n1_; have GW225 := n2_; have GE225 := n3_; clear n0_ n1_ n2_ n3_; clear hb hbox hg) | ((with_reducible refine gate_callee (f := 9) rfl ?_); refine goesL_ (some 13) rfl rfl Tryz.func9 (by kernel_rfl) rfl #[] rfl (by (try simp only [List.map_toArray, List.map_cons, List.map_nil]); first | done | rfl | (simp only [List.length_drop, List.length_take]; rfl)) ?_; (with_reducible refine (complinelaw21_works.calls  false _ (hT.keep (by repeat (first | (with_reducible first | exact HB.out | apply below_alloc | apply pw_below_drewN | apply below_drew1 | refine below_set ?_ GE225.out) | exact HB.out))) A5.out).mono ?_); rintro e w32 ⟨rfl, hb⟩; refine ⟨_, rfl, ?_⟩; have n0_ := Aside0.mk (blk_below (g := gb225) (o := .cells #[.int .u64 a0_0, .bool a0_1, .int .u64 a0_2, .bool a0_3, .int .u64 a0_4, .bool a0_5, .int .u64 a0_6, .bool a0_7, .int .u64 a0_8, .bool a0_9] 26 (0, 0)) (by (with_reducible repeat (first | refine blk_drewN ?_ _ | refine blk_drew ?_ | refine blk_alloc ?_ _)); exact BK225.out) hb); have n1_ := Aside0.mk (below_step (by repeat (first | (with_reducible first | exact HB.out | apply below_alloc | apply pw_below_drewN | apply below_drew1 | refine below_set ?_ GE225.out) | exact HB.out)) hb); clear BK225; clear HB; have BK225 := n0_; have HB := n1_; clear n0_ n1_; (try clear hb); (try clear hb2); (try clear hk); (try clear hi)))
  go_ret
  exact ⟨by first | rfl | (simp [errW_none, errW_some] <;> rfl) | (simp [*, errW_none, errW_some] <;> rfl), by repeat (first | (with_reducible first | exact HB.out | apply below_alloc | apply pw_below_drewN | apply below_drew1 | refine below_set ?_ GE225.out) | exact HB.out)⟩

end Go.Proofs.YtcjfjicagopppaaGreatDoor.PDay
