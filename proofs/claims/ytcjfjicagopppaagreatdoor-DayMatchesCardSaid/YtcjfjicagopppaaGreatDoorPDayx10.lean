-- Written by a program of this session (gprint.py) over the kit's print.
import Derived.Test.YtcjfjicagopppaaGreatDoorPDayx0
import Derived.Test.YtcjfjicagopppaaGreatDoorPDayx9
namespace Go.Proofs.YtcjfjicagopppaaGreatDoor.PDay
open Go.RowKit Go.Proofs.YtcjfjicagopppaaGreatDoorW.PrintWords Go.Proofs.YtcjfjicagopppaaGreatDoorW.PrintLast Go.Proofs.YtcjfjicagopppaaGreatDoorW.PrintMore
attribute [local go_sem] max2_int min2_int max_two min_two max_three min_three max_four min_four   -- for this text's walks alone
set_option linter.unusedVariables false
set_option linter.unusedSimpArgs false

/-! ### complineref18_Check: function 54 -/
mutual
def complineref18_Check.l0 : Nat → Int → Int → Int → Int → Int → Bool → Option (Int)
 | 0, _, _, _, _, _, _ => none
 | k + 1, x5, x6, x8, x9, x140000, x140001 => if x9 < 64 then ((complineref18_Has.f k x140000 x140001 x9).bind fun t143 => (if t143 = true then (if x9 < x5 then (complineref18_Check.j1 k x5 x6 x8 x9 t143 true x140000 x140001) else (complineref18_Check.j1 k x5 x6 x8 x9 t143 (decide (x9 > x6)) x140000 x140001)) else (complineref18_Check.j1 k x5 x6 x8 x9 t143 false x140000 x140001))) else (if x8 = 0 then (some 2) else (if x140001 = true then (if x8 = (wrap64 ((wrap64 (x6 - x5)) + 1)) then (some 0) else (some 2)) else (some 0)))
def complineref18_Check.j1 : Nat → Int → Int → Int → Int → Bool → Bool → Int → Bool → Option (Int)
 | 0, _, _, _, _, _, _, _, _ => none
 | k + 1, x5, x6, x8, x9, x10, x37, x140000, x140001 => if x37 = true then (some 2) else (if x10 = true then (complineref18_Check.l0 k x5 x6 (wrap64 (x8 + 1)) (wrap64 (x9 + 1)) x140000 x140001) else (complineref18_Check.l0 k x5 x6 x8 (wrap64 (x9 + 1)) x140000 x140001))
end
def complineref18_Check.f (k : Nat) (a0_0 : Int) (a0_1 : Bool) (a1 : Int) : Option (Int) := (complineref18_limits.f a1).bind fun bt140 => (if bt140.2.2 = 0 then (complineref18_Check.l0 k bt140.1 bt140.2.1 0 0 a0_0 a0_1) else (some bt140.2.2))
theorem complineref18_Check.mono_l : ∀ k, (∀ y0 y1 y2 y3 y4 y5, LeO (complineref18_Check.l0 k y0 y1 y2 y3 y4 y5) (complineref18_Check.l0 (k + 1) y0 y1 y2 y3 y4 y5)) ∧ (∀ y0 y1 y2 y3 y4 y5 y6 y7, LeO (complineref18_Check.j1 k y0 y1 y2 y3 y4 y5 y6 y7) (complineref18_Check.j1 (k + 1) y0 y1 y2 y3 y4 y5 y6 y7))
 | 0 => ⟨fun _ _ _ _ _ _ r h => by simp [complineref18_Check.l0] at h, fun _ _ _ _ _ _ _ _ r h => by simp [complineref18_Check.j1] at h⟩
 | k + 1 => by
  obtain ⟨ih0, ih1⟩ := complineref18_Check.mono_l k
  refine ⟨?_, ?_⟩
  ·intro y0 y1 y2 y3 y4 y5
   unfold complineref18_Check.l0
   repeat' first
   | (with_reducible exact ih0 _ _ _ _ _ _)
   | (with_reducible exact ih1 _ _ _ _ _ _ _ _)
   | (with_reducible exact complineref18_Has.mono _ _ _ _)
   | (with_reducible exact LeO.refl _)
   | (with_reducible exact LeO.none _)
   | (with_reducible refine LeO.ite ?_ ?_)
   | (with_reducible refine LeO.bind ?_ (fun _ => ?_))
   | exact ih0 _ _ _ _ _ _
   | exact ih1 _ _ _ _ _ _ _ _
   | exact complineref18_Has.mono _ _ _ _
   | exact LeO.none _
   | refine LeO.ite ?_ ?_
   | refine LeO.bind ?_ (fun _ => ?_)
  ·intro y0 y1 y2 y3 y4 y5 y6 y7
   unfold complineref18_Check.j1
   repeat' first
   | (with_reducible exact ih0 _ _ _ _ _ _)
   | (with_reducible exact ih1 _ _ _ _ _ _ _ _)
   | (with_reducible exact complineref18_Has.mono _ _ _ _)
   | (with_reducible exact LeO.refl _)
   | (with_reducible exact LeO.none _)
   | (with_reducible refine LeO.ite ?_ ?_)
   | (with_reducible refine LeO.bind ?_ (fun _ => ?_))
   | exact ih0 _ _ _ _ _ _
   | exact ih1 _ _ _ _ _ _ _ _
   | exact complineref18_Has.mono _ _ _ _
   | exact LeO.none _
   | refine LeO.ite ?_ ?_
   | refine LeO.bind ?_ (fun _ => ?_)
theorem complineref18_Check.mono : ∀ a0 a1 a2 k, LeO (complineref18_Check.f k a0 a1 a2) (complineref18_Check.f (k + 1) a0 a1 a2) := by
 intro a0 a1 a2 k
 obtain ⟨ih0, ih1⟩ := complineref18_Check.mono_l k
 unfold complineref18_Check.f
 repeat' first
   | (with_reducible exact ih0 _ _ _ _ _ _)
   | (with_reducible exact ih1 _ _ _ _ _ _ _ _)
   | (with_reducible exact complineref18_Has.mono _ _ _ _)
   | (with_reducible exact LeO.refl _)
   | (with_reducible exact LeO.none _)
   | (with_reducible refine LeO.ite ?_ ?_)
   | (with_reducible refine LeO.bind ?_ (fun _ => ?_))
   | exact ih0 _ _ _ _ _ _
   | exact ih1 _ _ _ _ _ _ _ _
   | exact complineref18_Has.mono _ _ _ _
   | exact LeO.none _
   | refine LeO.ite ?_ ?_
   | refine LeO.bind ?_ (fun _ => ?_)
set_option maxHeartbeats 8000000 in
set_option maxRecDepth 100000 in
theorem complineref18_Check.calls (k : Nat) (a0_0 : Int) (a0_1 : Bool) (a1 : Int) (r : Int) (w : World) (h : complineref18_Check.f k a0_0 a0_1 a1 = some r) :
  Calls Tryz.prog 54 #[.agg #[.int .u64 a0_0, .bool a0_1], .int .i64 a1] w fun e w' => e = .returned (.int .i64 r) ∧ Below w.heap.size w w' := by
 have hu24 := Tryz.underlying24
 have HB := Aside0.mk (Below.refl w.heap.size w)
 have H : ((complineref18_limits.f a1).bind fun bt140 => (if bt140.2.2 = 0 then (complineref18_Check.l0 k bt140.1 bt140.2.1 0 0 a0_0 a0_1) else (some bt140.2.2))) = some r := h
 clear h
 replace H := Option.bind_eq_some_iff.mp H
 obtain ⟨⟨t140, t141, t142⟩, A30, H⟩ := H
 replace H : (if t142 = 0 then (complineref18_Check.l0 k t140 t141 0 0 a0_0 a0_1) else (some t142)) = some r := H
 have A3 := Aside0.mk A30
 clear A30
 by_cases c4 : t142 = 0
 ·rw [if_pos c4] at H
  have c4b0 : (t142 == 0) = true := beq_iff_eq.mpr c4
  have c4b1 : (t142 != 0) = false := bne_eq_false_iff_eq.mpr c4
  clear c4
  have H' := Aside0.mk H
  clear H
  go_enter Tryz.func54, Tryz.ntmps54
  go_wp2_with (first | ((with_reducible refine gate_dst (N := 2) rfl ?_); refine box_event ?hg (N := 2) ?hd (cs := #[.int .u64 a0_0, .bool a0_1]) (t := 24) ?hr ?_; (case hd => rfl); (case hg => rfl); (case hr => first | (go_simp; done) | (go_simp; rfl)); intro gb139 hg w5 hbox hb; have n0_ := Aside0.mk (below_step (by repeat (first | (with_reducible first | exact HB.out | apply below_alloc | apply pw_below_drewN | apply below_drew1) | exact HB.out)) hb); have n1_ := Aside0.mk (hbox); have n2_ := Aside0.mk ((by rw [hg]; exact (below_size (by repeat (first | (with_reducible first | exact HB.out | apply below_alloc | apply pw_below_drewN | apply below_drew1) | exact HB.out))) : w.heap.size ≤ gb139)); have n3_ := Aside0.mk ((by rw [hg]; exact (below_size (by repeat (first | (with_reducible first | exact HB.out | apply below_alloc | apply pw_below_drewN | apply below_drew1) | exact HB.out))) : w.heap.size ≤ gb139)); clear HB; have HB := n0_; have BK139 := n1_; have GW139 := n2_; have GE139 := n3_; clear n0_ n1_ n2_ n3_; clear hb hbox hg) | ((with_reducible refine gate_callee (f := 82) rfl ?_); refine goesL_ (some 13) rfl rfl Tryz.func82 (by kernel_rfl) rfl #[.int .i64 a1] rfl (by (try simp only [List.map_toArray, List.map_cons, List.map_nil]); first | done | rfl | (simp only [List.length_drop, List.length_take]; rfl)) ?_; (with_reducible refine (complineref18_limits.calls a1 t140 t141 t142 _ A3.out).mono ?_); rintro e w' ⟨rfl, ⟨nd, rfl⟩⟩; refine ⟨_, rfl, ?_⟩))
  go_loopg [8, 9] k (fun kq v8 v9 w' => ∃ (x8_1 : Int) (x9_1 : Int), v8 = .int .i64 x8_1 ∧ v9 = .int .i64 x9_1 ∧ Aside0 (complineref18_Check.l0 kq t140 t141 x8_1 x9_1 a0_0 a0_1 = some r) ∧ Aside0 (kq ≤ k) ∧ Aside0 (w'.heap[gb139]? = some (.cells #[.int .u64 a0_0, .bool a0_1] 24 (0, 0))) ∧ Aside0 (Below w.heap.size w w'))
  case atStart => exact ⟨(0), (0), (by first | rfl | (simp; done) | (simp [*]; done)), (by first | rfl | (simp; done) | (simp [*]; done)), H', ⟨Nat.le_refl _⟩, ⟨by (with_reducible repeat (first | refine blk_drewN ?_ _ | refine blk_drew ?_ | refine blk_alloc ?_ _)); exact BK139.out⟩, ⟨by repeat (first | (with_reducible first | exact HB.out | apply below_alloc | apply pw_below_drewN | apply below_drew1 | refine below_set ?_ GE139.out) | exact HB.out)⟩⟩
  case round =>
   clear H'
   try clear p2
   try clear c4
   try clear c4b0
   try clear c4b1
   try clear c5
   obtain ⟨x8_1, x9_1, rfl, rfl, HA, HK1, BK139, HB⟩ := hrel
   cases gk with
   | zero => exact absurd HA.out (by simp [complineref18_Check.l0])
   | succ k1 =>
    have H := HA.out
    clear HA
    simp only [complineref18_Check.l0] at H
    by_cases c6 : x9_1 < 64
    ·rw [if_pos c6] at H
     have c6b0 : decide (x9_1 < 64) = true := decide_eq_true c6
     clear c6
     replace H := Option.bind_eq_some_iff.mp H
     obtain ⟨t143, A70, H⟩ := H
     replace H : (if t143 = true then (if x9_1 < t140 then (complineref18_Check.j1 k1 t140 t141 x8_1 x9_1 t143 true a0_0 a0_1) else (complineref18_Check.j1 k1 t140 t141 x8_1 x9_1 t143 (decide (x9_1 > t141)) a0_0 a0_1)) else (complineref18_Check.j1 k1 t140 t141 x8_1 x9_1 t143 false a0_0 a0_1)) = some r := H
     have A7 := Aside0.mk A70
     clear A70
     have HC8 := Aside0.mk H
     clear H
     have hcz9_0 : wr.cell? ⟨gb139, 0, none⟩ = some (.int .u64 a0_0) := (blk_cell BK139.out 0).trans rfl
     have hcz9_1 : wr.cell? ⟨gb139, 1, none⟩ = some (.bool a0_1) := (blk_cell BK139.out 1).trans rfl
     have hfz9_0 := blk_frozen BK139.out 0
     have hfz9_1 := blk_frozen BK139.out 1
     go_upto_region 9 with (first | ((with_reducible refine gate_callee (f := 37) rfl ?_); refine goesL_ (some 26) rfl rfl Tryz.func37 (by kernel_rfl) rfl #[.agg #[.int .u64 a0_0, .bool a0_1], .int .i64 x9_1] rfl (by (try simp only [List.map_toArray, List.map_cons, List.map_nil]); first | done | rfl | (simp only [List.length_drop, List.length_take]; rfl)) ?_; (with_reducible refine (complineref18_Has.calls k1 a0_0 a0_1 x9_1 t143 _ A7.out).mono ?_); rintro e w10 ⟨rfl, hb⟩; refine ⟨_, rfl, ?_⟩; have n0_ := Aside0.mk (blk_below (g := gb139) (o := .cells #[.int .u64 a0_0, .bool a0_1] 24 (0, 0)) (by (with_reducible repeat (first | refine blk_drewN ?_ _ | refine blk_drew ?_ | refine blk_alloc ?_ _)); exact BK139.out) hb); have n1_ := Aside0.mk (below_step (by repeat (first | (with_reducible first | exact HB.out | apply below_alloc | apply pw_below_drewN | apply below_drew1 | refine below_set ?_ GE139.out) | exact HB.out)) hb); clear BK139; clear HB; have BK139 := n0_; have HB := n1_; clear n0_ n1_; (try clear hb); (try clear hb2); (try clear hk); (try clear hi)))
     (try simp only [Act.put, List.setIfInBounds_toArray, List.set_cons_zero, List.set_cons_succ])
     go_cut [37] (fun v37 wc => ∃ (kq : Nat) (x37_7 : Bool), v37 = .bool x37_7 ∧ Aside0 (complineref18_Check.j1 kq t140 t141 x8_1 x9_1 t143 x37_7 a0_0 a0_1 = some r) ∧ Aside0 (kq ≤ k1) ∧ Aside0 (wc.heap[gb139]? = some (.cells #[.int .u64 a0_0, .bool a0_1] 24 (0, 0))) ∧ Aside0 (Below w.heap.size w wc))
     case first =>
      have H := HC8.out
      clear HC8
      by_cases c11 : t143 = true
      ·subst c11
       have H1 : (if x9_1 < t140 then (complineref18_Check.j1 k1 t140 t141 x8_1 x9_1 true true a0_0 a0_1) else (complineref18_Check.j1 k1 t140 t141 x8_1 x9_1 true (decide (x9_1 > t141)) a0_0 a0_1)) = some r := by rw [if_pos rfl] at H; exact H
       clear H
       have H := H1
       clear H1
       by_cases c12 : x9_1 < t140
       ·rw [if_pos c12] at H
        have c12b0 : decide (x9_1 < t140) = true := decide_eq_true c12
        clear c12
        (first | rw [c12b0] | (simp only [i64_w, i32_w]; rw [c12b0]) | skip)
        have H' := Aside0.mk H
        clear H
        go_wp2
        go_meet
        case rel => exact ⟨_, (true), (by first | rfl | (simp; done) | (simp [*]; done)), H', ⟨by have := HK1.out; first | omega | exact Nat.le_refl _⟩, ⟨by (with_reducible repeat (first | refine blk_drewN ?_ _ | refine blk_drew ?_ | refine blk_alloc ?_ _)); exact BK139.out⟩, ⟨by repeat (first | (with_reducible first | exact HB.out | apply below_alloc | apply pw_below_drewN | apply below_drew1 | refine below_set ?_ GE139.out) | exact HB.out)⟩⟩
       ·rw [if_neg c12] at H
        have c12b0 : decide (x9_1 < t140) = false := decide_eq_false c12
        clear c12
        (first | rw [c12b0] | (simp only [i64_w, i32_w]; rw [c12b0]) | skip)
        have H' := Aside0.mk H
        clear H
        go_wp2
        go_meet
        case rel => exact ⟨_, (decide (x9_1 > t141)), (by first | rfl | (simp; done) | (simp [*]; done)), H', ⟨by have := HK1.out; first | omega | exact Nat.le_refl _⟩, ⟨by (with_reducible repeat (first | refine blk_drewN ?_ _ | refine blk_drew ?_ | refine blk_alloc ?_ _)); exact BK139.out⟩, ⟨by repeat (first | (with_reducible first | exact HB.out | apply below_alloc | apply pw_below_drewN | apply below_drew1 | refine below_set ?_ GE139.out) | exact HB.out)⟩⟩
      ·replace c11 := Bool.eq_false_iff.mpr c11
       subst c11
       have H1 : (complineref18_Check.j1 k1 t140 t141 x8_1 x9_1 false false a0_0 a0_1) = some r := by rw [if_neg (show ¬ (false = true) by decide)] at H; exact H
       clear H
       have H := H1
       clear H1
       have H' := Aside0.mk H
       clear H
       go_wp2
       go_meet
       case rel => exact ⟨_, (false), (by first | rfl | (simp; done) | (simp [*]; done)), H', ⟨by have := HK1.out; first | omega | exact Nat.le_refl _⟩, ⟨by (with_reducible repeat (first | refine blk_drewN ?_ _ | refine blk_drew ?_ | refine blk_alloc ?_ _)); exact BK139.out⟩, ⟨by repeat (first | (with_reducible first | exact HB.out | apply below_alloc | apply pw_below_drewN | apply below_drew1 | refine below_set ?_ GE139.out) | exact HB.out)⟩⟩
     case rest =>
      clear HC8
      try clear c1
      try clear p2
      try clear c3
      try clear c4
      try clear c4b0
      try clear c4b1
      try clear c5
      try clear c6
      try clear c6b0
      try clear c8
      try clear c11
      try clear c12
      try clear c12b0
      try clear hcz9_0
      try clear hcz9_1
      try clear hfz9_0
      try clear hfz9_1
      try clear p2
      obtain ⟨kq, x37_7, rfl, HA, HJ7, BK139, HB⟩ := hcut
      cases kq with
      | zero => exact absurd HA.out (by simp [complineref18_Check.j1])
      | succ kj7 =>
       have H := HA.out
       clear HA
       simp only [complineref18_Check.j1] at H
       by_cases c13 : x37_7 = true
       ·subst c13
        have H1 : (some 2) = some r := by rw [if_pos rfl] at H; exact H
        clear H
        have H := H1
        clear H1
        obtain rfl := Option.some.inj H
        go_wp2
        go_ret
        exact ⟨by first | rfl | (simp [errW_none, errW_some] <;> rfl) | (simp [*, errW_none, errW_some] <;> rfl), by repeat (first | (with_reducible first | exact HB.out | apply below_alloc | apply pw_below_drewN | apply below_drew1 | refine below_set ?_ GE139.out) | exact HB.out)⟩
       ·replace c13 := Bool.eq_false_iff.mpr c13
        subst c13
        have H1 : (if t143 = true then (complineref18_Check.l0 kj7 t140 t141 (wrap64 (x8_1 + 1)) (wrap64 (x9_1 + 1)) a0_0 a0_1) else (complineref18_Check.l0 kj7 t140 t141 x8_1 (wrap64 (x9_1 + 1)) a0_0 a0_1)) = some r := by rw [if_neg (show ¬ (false = true) by decide)] at H; exact H
        clear H
        have H := H1
        clear H1
        by_cases c14 : t143 = true
        ·subst c14
         have H1 : (complineref18_Check.l0 kj7 t140 t141 (wrap64 (x8_1 + 1)) (wrap64 (x9_1 + 1)) a0_0 a0_1) = some r := by rw [if_pos rfl] at H; exact H
         clear H
         have H := H1
         clear H1
         have H' := Aside0.mk H
         clear H
         go_wp2
         go_roundg kj7
         case measure => have := HK1.out; have := HJ7.out; omega
         case rel => exact ⟨(wrap64 (x8_1 + 1)), (wrap64 (x9_1 + 1)), (by first | rfl | (simp; done) | (simp [*]; done)), (by first | rfl | (simp; done) | (simp [*]; done)), H', ⟨by have := HK1.out; have := HJ7.out; omega⟩, ⟨by (with_reducible repeat (first | refine blk_drewN ?_ _ | refine blk_drew ?_ | refine blk_alloc ?_ _)); exact BK139.out⟩, ⟨by repeat (first | (with_reducible first | exact HB.out | apply below_alloc | apply pw_below_drewN | apply below_drew1 | refine below_set ?_ GE139.out) | exact HB.out)⟩⟩
        ·replace c14 := Bool.eq_false_iff.mpr c14
         subst c14
         have H1 : (complineref18_Check.l0 kj7 t140 t141 x8_1 (wrap64 (x9_1 + 1)) a0_0 a0_1) = some r := by rw [if_neg (show ¬ (false = true) by decide)] at H; exact H
         clear H
         have H := H1
         clear H1
         have H' := Aside0.mk H
         clear H
         go_wp2
         go_roundg kj7
         case measure => have := HK1.out; have := HJ7.out; omega
         case rel => exact ⟨(x8_1), (wrap64 (x9_1 + 1)), (by first | rfl | (simp; done) | (simp [*]; done)), (by first | rfl | (simp; done) | (simp [*]; done)), H', ⟨by have := HK1.out; have := HJ7.out; omega⟩, ⟨by (with_reducible repeat (first | refine blk_drewN ?_ _ | refine blk_drew ?_ | refine blk_alloc ?_ _)); exact BK139.out⟩, ⟨by repeat (first | (with_reducible first | exact HB.out | apply below_alloc | apply pw_below_drewN | apply below_drew1 | refine below_set ?_ GE139.out) | exact HB.out)⟩⟩
    ·rw [if_neg c6] at H
     have c6b0 : decide (x9_1 < 64) = false := decide_eq_false c6
     clear c6
     by_cases c15 : x8_1 = 0
     ·rw [if_pos c15] at H
      have c15b0 : (x8_1 == 0) = true := beq_iff_eq.mpr c15
      have c15b1 : (x8_1 != 0) = false := bne_eq_false_iff_eq.mpr c15
      clear c15
      obtain rfl := Option.some.inj H
      go_wp2
      go_ret
      exact ⟨by first | rfl | (simp [errW_none, errW_some] <;> rfl) | (simp [*, errW_none, errW_some] <;> rfl), by repeat (first | (with_reducible first | exact HB.out | apply below_alloc | apply pw_below_drewN | apply below_drew1 | refine below_set ?_ GE139.out) | exact HB.out)⟩
     ·rw [if_neg c15] at H
      have c15b0 : (x8_1 == 0) = false := beq_eq_false_iff_ne.mpr c15
      have c15b1 : (x8_1 != 0) = true := bne_iff_ne.mpr c15
      by_cases c16 : a0_1 = true
      ·subst c16
       have H1 : (if x8_1 = (wrap64 ((wrap64 (t141 - t140)) + 1)) then (some 0) else (some 2)) = some r := by rw [if_pos rfl] at H; exact H
       clear H
       have H := H1
       clear H1
       by_cases c17 : x8_1 = (wrap64 ((wrap64 (t141 - t140)) + 1))
       ·rw [if_pos c17] at H
        have c17b0 : (x8_1 == (wrap64 ((wrap64 (t141 - t140)) + 1))) = true := beq_iff_eq.mpr c17
        have c17b1 : (x8_1 != (wrap64 ((wrap64 (t141 - t140)) + 1))) = false := bne_eq_false_iff_eq.mpr c17
        clear c17
        obtain rfl := Option.some.inj H
        have hcz18_0 : wr.cell? ⟨gb139, 0, none⟩ = some (.int .u64 a0_0) := (blk_cell BK139.out 0).trans rfl
        have hcz18_1 : wr.cell? ⟨gb139, 1, none⟩ = some (.bool true) := (blk_cell BK139.out 1).trans rfl
        have hfz18_0 := blk_frozen BK139.out 0
        have hfz18_1 := blk_frozen BK139.out 1
        go_wp2
        go_ret
        exact ⟨by first | rfl | (simp [errW_none, errW_some] <;> rfl) | (simp [*, errW_none, errW_some] <;> rfl), by repeat (first | (with_reducible first | exact HB.out | apply below_alloc | apply pw_below_drewN | apply below_drew1 | refine below_set ?_ GE139.out) | exact HB.out)⟩
       ·rw [if_neg c17] at H
        have c17b0 : (x8_1 == (wrap64 ((wrap64 (t141 - t140)) + 1))) = false := beq_eq_false_iff_ne.mpr c17
        have c17b1 : (x8_1 != (wrap64 ((wrap64 (t141 - t140)) + 1))) = true := bne_iff_ne.mpr c17
        obtain rfl := Option.some.inj H
        have hcz19_0 : wr.cell? ⟨gb139, 0, none⟩ = some (.int .u64 a0_0) := (blk_cell BK139.out 0).trans rfl
        have hcz19_1 : wr.cell? ⟨gb139, 1, none⟩ = some (.bool true) := (blk_cell BK139.out 1).trans rfl
        have hfz19_0 := blk_frozen BK139.out 0
        have hfz19_1 := blk_frozen BK139.out 1
        go_wp2
        go_ret
        exact ⟨by first | rfl | (simp [errW_none, errW_some] <;> rfl) | (simp [*, errW_none, errW_some] <;> rfl), by repeat (first | (with_reducible first | exact HB.out | apply below_alloc | apply pw_below_drewN | apply below_drew1 | refine below_set ?_ GE139.out) | exact HB.out)⟩
      ·replace c16 := Bool.eq_false_iff.mpr c16
       subst c16
       have H1 : (some 0) = some r := by rw [if_neg (show ¬ (false = true) by decide)] at H; exact H
       clear H
       have H := H1
       clear H1
       obtain rfl := Option.some.inj H
       have hcz20_0 : wr.cell? ⟨gb139, 0, none⟩ = some (.int .u64 a0_0) := (blk_cell BK139.out 0).trans rfl
       have hcz20_1 : wr.cell? ⟨gb139, 1, none⟩ = some (.bool false) := (blk_cell BK139.out 1).trans rfl
       have hfz20_0 := blk_frozen BK139.out 0
       have hfz20_1 := blk_frozen BK139.out 1
       go_wp2
       go_ret
       exact ⟨by first | rfl | (simp [errW_none, errW_some] <;> rfl) | (simp [*, errW_none, errW_some] <;> rfl), by repeat (first | (with_reducible first | exact HB.out | apply below_alloc | apply pw_below_drewN | apply below_drew1 | refine below_set ?_ GE139.out) | exact HB.out)⟩
 ·rw [if_neg c4] at H
  have c4b0 : (t142 == 0) = false := beq_eq_false_iff_ne.mpr c4
  have c4b1 : (t142 != 0) = true := bne_iff_ne.mpr c4
  obtain rfl := Option.some.inj H
  go_enter Tryz.func54, Tryz.ntmps54
  go_wp2_with (first | ((with_reducible refine gate_dst (N := 2) rfl ?_); refine box_event ?hg (N := 2) ?hd (cs := #[.int .u64 a0_0, .bool a0_1]) (t := 24) ?hr ?_; (case hd => rfl); (case hg => rfl); (case hr => first | (go_simp; done) | (go_simp; rfl)); intro gb139 hg w21 hbox hb; have n0_ := Aside0.mk (below_step (by repeat (first | (with_reducible first | exact HB.out | apply below_alloc | apply pw_below_drewN | apply below_drew1) | exact HB.out)) hb); have n1_ := Aside0.mk (hbox); have n2_ := Aside0.mk ((by rw [hg]; exact (below_size (by repeat (first | (with_reducible first | exact HB.out | apply below_alloc | apply pw_below_drewN | apply below_drew1) | exact HB.out))) : w.heap.size ≤ gb139)); have n3_ := Aside0.mk ((by rw [hg]; exact (below_size (by repeat (first | (with_reducible first | exact HB.out | apply below_alloc | apply pw_below_drewN | apply below_drew1) | exact HB.out))) : w.heap.size ≤ gb139)); clear HB; have HB := n0_; have BK139 := n1_; have GW139 := n2_; have GE139 := n3_; clear n0_ n1_ n2_ n3_; clear hb hbox hg) | ((with_reducible refine gate_callee (f := 82) rfl ?_); refine goesL_ (some 13) rfl rfl Tryz.func82 (by kernel_rfl) rfl #[.int .i64 a1] rfl (by (try simp only [List.map_toArray, List.map_cons, List.map_nil]); first | done | rfl | (simp only [List.length_drop, List.length_take]; rfl)) ?_; (with_reducible refine (complineref18_limits.calls a1 t140 t141 t142 _ A3.out).mono ?_); rintro e w' ⟨rfl, ⟨nd, rfl⟩⟩; refine ⟨_, rfl, ?_⟩))
  go_ret
  exact ⟨by first | rfl | (simp [errW_none, errW_some] <;> rfl) | (simp [*, errW_none, errW_some] <;> rfl), by repeat (first | (with_reducible first | exact HB.out | apply below_alloc | apply pw_below_drewN | apply below_drew1 | refine below_set ?_ GE139.out) | exact HB.out)⟩

/-! ### complineref19_Check: function 29 -/
def complineref19_Check.l0 : Nat → List (S24) → Int → Option (Int × Int)
 | 0, _, _ => none
 | k + 1, x4, x5 => if x5 < 5 then (if 0 ≤ x5 then (if x5 < (x4.length : Int) then ((complineref18_Check.f k ((rd_T24 x4 x5).f0) ((rd_T24 x4 x5).f1) x5).bind fun t149 => (if t149 = 0 then (complineref19_Check.l0 k x4 (wrap64 (x5 + 1))) else (some (wrap64 (x5 + 1), t149)))) else (none)) else (none)) else (some (0, 0))
def complineref19_Check.f (k : Nat) (a0_0 : Int) (a0_1 : Bool) (a0_2 : Int) (a0_3 : Bool) (a0_4 : Int) (a0_5 : Bool) (a0_6 : Int) (a0_7 : Bool) (a0_8 : Int) (a0_9 : Bool) : Option (Int × Int) := (complineref19_Fields.f a0_0 a0_1 a0_2 a0_3 a0_4 a0_5 a0_6 a0_7 a0_8 a0_9).bind fun t145 => (complineref19_Check.l0 k t145 0)
theorem complineref19_Check.mono_l : ∀ k, (∀ y0 y1, LeO (complineref19_Check.l0 k y0 y1) (complineref19_Check.l0 (k + 1) y0 y1))
 | 0 => fun _ _ r h => by simp [complineref19_Check.l0] at h
 | k + 1 => by
  have ih0 := complineref19_Check.mono_l k
  ·intro y0 y1
   unfold complineref19_Check.l0
   repeat' first
   | (with_reducible exact ih0 _ _)
   | (with_reducible exact complineref18_Check.mono _ _ _ _)
   | (with_reducible exact LeO.refl _)
   | (with_reducible exact LeO.none _)
   | (with_reducible refine LeO.ite ?_ ?_)
   | (with_reducible refine LeO.bind ?_ (fun _ => ?_))
   | exact ih0 _ _
   | exact complineref18_Check.mono _ _ _ _
   | exact LeO.none _
   | refine LeO.ite ?_ ?_
   | refine LeO.bind ?_ (fun _ => ?_)
theorem complineref19_Check.mono : ∀ a0 a1 a2 a3 a4 a5 a6 a7 a8 a9 k, LeO (complineref19_Check.f k a0 a1 a2 a3 a4 a5 a6 a7 a8 a9) (complineref19_Check.f (k + 1) a0 a1 a2 a3 a4 a5 a6 a7 a8 a9) := by
 intro a0 a1 a2 a3 a4 a5 a6 a7 a8 a9 k
 have ih0 := complineref19_Check.mono_l k
 unfold complineref19_Check.f
 repeat' first
   | (with_reducible exact ih0 _ _)
   | (with_reducible exact complineref18_Check.mono _ _ _ _)
   | (with_reducible exact LeO.refl _)
   | (with_reducible exact LeO.none _)
   | (with_reducible refine LeO.ite ?_ ?_)
   | (with_reducible refine LeO.bind ?_ (fun _ => ?_))
   | exact ih0 _ _
   | exact complineref18_Check.mono _ _ _ _
   | exact LeO.none _
   | refine LeO.ite ?_ ?_
   | refine LeO.bind ?_ (fun _ => ?_)
set_option maxHeartbeats 8000000 in
set_option maxRecDepth 100000 in
theorem complineref19_Check.calls (k : Nat) (a0_0 : Int) (a0_1 : Bool) (a0_2 : Int) (a0_3 : Bool) (a0_4 : Int) (a0_5 : Bool) (a0_6 : Int) (a0_7 : Bool) (a0_8 : Int) (a0_9 : Bool) (r1 : Int) (r2 : Int) (w : World) (h : complineref19_Check.f k a0_0 a0_1 a0_2 a0_3 a0_4 a0_5 a0_6 a0_7 a0_8 a0_9 = some (r1, r2)) :
  Calls Tryz.prog 29 #[.agg #[.int .u64 a0_0, .bool a0_1, .int .u64 a0_2, .bool a0_3, .int .u64 a0_4, .bool a0_5, .int .u64 a0_6, .bool a0_7, .int .u64 a0_8, .bool a0_9]] w fun e w' => e = .returned (.tuple #[.int .i64 r1, .int .i64 r2]) ∧ Below w.heap.size w w' := by
 have hu26 := Tryz.underlying26
 have hu24 := Tryz.underlying24
 have HB := Aside0.mk (Below.refl w.heap.size w)
 have H : ((complineref19_Fields.f a0_0 a0_1 a0_2 a0_3 a0_4 a0_5 a0_6 a0_7 a0_8 a0_9).bind fun t145 => (complineref19_Check.l0 k t145 0)) = some (r1, r2) := h
 clear h
 replace H := Option.bind_eq_some_iff.mp H
 obtain ⟨t145, A20, H⟩ := H
 replace H : (complineref19_Check.l0 k t145 0) = some (r1, r2) := H
 have A2 := Aside0.mk A20
 clear A20
 have H' := Aside0.mk H
 clear H
 go_enter Tryz.func29, Tryz.ntmps29
 go_wp2_with (first | ((with_reducible refine gate_dst (N := 1) rfl ?_); refine box_event ?hg (N := 1) ?hd (cs := #[.int .u64 a0_0, .bool a0_1, .int .u64 a0_2, .bool a0_3, .int .u64 a0_4, .bool a0_5, .int .u64 a0_6, .bool a0_7, .int .u64 a0_8, .bool a0_9]) (t := 26) ?hr ?_; (case hd => rfl); (case hg => rfl); (case hr => first | (go_simp; done) | (go_simp; rfl)); intro gb144 hg w3 hbox hb; have n0_ := Aside0.mk (below_step (by repeat (first | (with_reducible first | exact HB.out | apply below_alloc | apply pw_below_drewN | apply below_drew1) | exact HB.out)) hb); have n1_ := Aside0.mk (hbox); have n2_ := Aside0.mk ((by rw [hg]; exact (below_size (by repeat (first | (with_reducible first | exact HB.out | apply below_alloc | apply pw_below_drewN | apply below_drew1) | exact HB.out))) : w.heap.size ≤ gb144)); have n3_ := Aside0.mk ((by rw [hg]; exact (below_size (by repeat (first | (with_reducible first | exact HB.out | apply below_alloc | apply pw_below_drewN | apply below_drew1) | exact HB.out))) : w.heap.size ≤ gb144)); clear HB; have HB := n0_; have BK144 := n1_; have GW144 := n2_; have GE144 := n3_; clear n0_ n1_ n2_ n3_; clear hb hbox hg; have hcz4_0 : w3.cell? ⟨gb144, 0, none⟩ = some (.int .u64 a0_0) := (blk_cell BK144.out 0).trans rfl; have hcz4_1 : w3.cell? ⟨gb144, 1, none⟩ = some (.bool a0_1) := (blk_cell BK144.out 1).trans rfl; have hcz4_2 : w3.cell? ⟨gb144, 2, none⟩ = some (.int .u64 a0_2) := (blk_cell BK144.out 2).trans rfl; have hcz4_3 : w3.cell? ⟨gb144, 3, none⟩ = some (.bool a0_3) := (blk_cell BK144.out 3).trans rfl; have hcz4_4 : w3.cell? ⟨gb144, 4, none⟩ = some (.int .u64 a0_4) := (blk_cell BK144.out 4).trans rfl; have hcz4_5 : w3.cell? ⟨gb144, 5, none⟩ = some (.bool a0_5) := (blk_cell BK144.out 5).trans rfl; have hcz4_6 : w3.cell? ⟨gb144, 6, none⟩ = some (.int .u64 a0_6) := (blk_cell BK144.out 6).trans rfl; have hcz4_7 : w3.cell? ⟨gb144, 7, none⟩ = some (.bool a0_7) := (blk_cell BK144.out 7).trans rfl; have hcz4_8 : w3.cell? ⟨gb144, 8, none⟩ = some (.int .u64 a0_8) := (blk_cell BK144.out 8).trans rfl; have hcz4_9 : w3.cell? ⟨gb144, 9, none⟩ = some (.bool a0_9) := (blk_cell BK144.out 9).trans rfl; have hfz4_0 := blk_frozen BK144.out 0; have hfz4_1 := blk_frozen BK144.out 1; have hfz4_2 := blk_frozen BK144.out 2; have hfz4_3 := blk_frozen BK144.out 3; have hfz4_4 := blk_frozen BK144.out 4; have hfz4_5 := blk_frozen BK144.out 5; have hfz4_6 := blk_frozen BK144.out 6; have hfz4_7 := blk_frozen BK144.out 7; have hfz4_8 := blk_frozen BK144.out 8; have hfz4_9 := blk_frozen BK144.out 9) | ((with_reducible refine gate_callee (f := 53) rfl ?_); refine goesL_ (some 8) rfl rfl Tryz.func53 (by kernel_rfl) rfl #[.agg #[.int .u64 a0_0, .bool a0_1, .int .u64 a0_2, .bool a0_3, .int .u64 a0_4, .bool a0_5, .int .u64 a0_6, .bool a0_7, .int .u64 a0_8, .bool a0_9]] rfl (by (try simp only [List.map_toArray, List.map_cons, List.map_nil]); first | done | rfl | (simp only [List.length_drop, List.length_take]; rfl)) ?_; (with_reducible refine (complineref19_Fields.calls a0_0 a0_1 a0_2 a0_3 a0_4 a0_5 a0_6 a0_7 a0_8 a0_9 t145 _ A2.out).mono ?_); rintro e w5 ⟨v146, rfl, ho0, hb⟩; refine ⟨_, rfl, ?_⟩; have n0_ := Aside0.mk (Kd.R_lower ho0 (below_size (by repeat (first | (with_reducible first | exact HB.out | apply below_alloc | apply pw_below_drewN | apply below_drew1 | refine below_set ?_ GE144.out) | exact HB.out)))); have n1_ := Aside0.mk (blk_below (g := gb144) (o := .cells #[.int .u64 a0_0, .bool a0_1, .int .u64 a0_2, .bool a0_3, .int .u64 a0_4, .bool a0_5, .int .u64 a0_6, .bool a0_7, .int .u64 a0_8, .bool a0_9] 26 (0, 0)) (by (with_reducible repeat (first | refine blk_drewN ?_ _ | refine blk_drew ?_ | refine blk_alloc ?_ _)); exact BK144.out) hb); have n2_ := Aside0.mk (below_step (by repeat (first | (with_reducible first | exact HB.out | apply below_alloc | apply pw_below_drewN | apply below_drew1 | refine below_set ?_ GE144.out) | exact HB.out)) hb); clear BK144; clear HB; have HO147 := n0_; have BK144 := n1_; have HB := n2_; clear n0_ n1_ n2_; (try clear hb); (try clear hb2); (try clear hk); (try clear hi); (try clear ho0)))
 go_loopg [5] k (fun kq v5 w' => ∃ (x5_1 : Int), v5 = .int .i64 x5_1 ∧ Aside0 (complineref19_Check.l0 kq t145 x5_1 = some (r1, r2)) ∧ Aside0 (kq ≤ k) ∧ Aside0 (Kd.R k24 24 w' w.heap.size (fun _ => True) v146 t145) ∧ Aside0 (w'.heap[gb144]? = some (.cells #[.int .u64 a0_0, .bool a0_1, .int .u64 a0_2, .bool a0_3, .int .u64 a0_4, .bool a0_5, .int .u64 a0_6, .bool a0_7, .int .u64 a0_8, .bool a0_9] 26 (0, 0))) ∧ Aside0 (Below w.heap.size w w'))
 case atStart => exact ⟨(0), (by first | rfl | (simp; done) | (simp [*]; done)), H', ⟨Nat.le_refl _⟩, ⟨by (with_reducible repeat (first | apply Kd.R_alloc | apply Kd.R_drewN | apply Kd.R_drew)); exact HO147.out⟩, ⟨by (with_reducible repeat (first | refine blk_drewN ?_ _ | refine blk_drew ?_ | refine blk_alloc ?_ _)); exact BK144.out⟩, ⟨by repeat (first | (with_reducible first | exact HB.out | apply below_alloc | apply pw_below_drewN | apply below_drew1 | refine below_set ?_ GE144.out) | exact HB.out)⟩⟩
 case round =>
  clear H'
  try clear c2
  try clear p2
  try clear c5
  try clear hcz4_0
  try clear hcz4_1
  try clear hcz4_2
  try clear hcz4_3
  try clear hcz4_4
  try clear hcz4_5
  try clear hcz4_6
  try clear hcz4_7
  try clear hcz4_8
  try clear hcz4_9
  try clear hfz4_0
  try clear hfz4_1
  try clear hfz4_2
  try clear hfz4_3
  try clear hfz4_4
  try clear hfz4_5
  try clear hfz4_6
  try clear hfz4_7
  try clear hfz4_8
  try clear hfz4_9
  obtain ⟨x5_1, rfl, HA, HK1, HO_4, BK144, HB⟩ := hrel
  cases gk with
  | zero => exact absurd HA.out (by simp [complineref19_Check.l0])
  | succ k1 =>
   have H := HA.out
   clear HA
   simp only [complineref19_Check.l0] at H
   by_cases c6 : x5_1 < 5
   ·rw [if_pos c6] at H
    have c6b0 : decide (x5_1 < 5) = true := decide_eq_true c6
    clear c6
    by_cases c7 : 0 ≤ x5_1
    ·rw [if_pos c7] at H
     have c7b0 : decide (0 ≤ x5_1) = true := decide_eq_true c7
     clear c7
     by_cases c8 : x5_1 < (t145.length : Int)
     ·rw [if_pos c8] at H
      have c8b0 : decide (x5_1 < (t145.length : Int)) = true := decide_eq_true c8
      clear c8
      replace H := Option.bind_eq_some_iff.mp H
      obtain ⟨t149, A90, H⟩ := H
      replace H : (if t149 = 0 then (complineref19_Check.l0 k1 t145 (wrap64 (x5_1 + 1))) else (some (wrap64 (x5_1 + 1), t149))) = some (r1, r2) := H
      have A9 := Aside0.mk A90
      clear A90
      by_cases c10 : t149 = 0
      ·rw [if_pos c10] at H
       have c10b0 : (t149 == 0) = true := beq_iff_eq.mpr c10
       have c10b1 : (t149 != 0) = false := bne_eq_false_iff_eq.mpr c10
       clear c10
       have H' := Aside0.mk H
       clear H
       obtain ⟨Ao11, co11, eo11⟩ := Kd.R_slice HO_4.out
       subst eo11
       have p148 : 0 ≤ (x5_1 : Int) := of_decide_eq_true (by first | (with_reducible assumption) | assumption)
       have q148 : x5_1 < (t145.length : Int) := of_decide_eq_true (by first | (with_reducible assumption) | assumption)
       obtain ⟨ad148, e148, hx148_0, hx148_1⟩ := at_T24 (Kd.R_reads' HO_4.out).2.2 x5_1 p148 q148
       cases e148
       replace p148 := eq_true p148
       replace q148 := eq_true q148
       go_wp2_with (first | ((with_reducible refine gate_callee (f := 54) rfl ?_); refine goesL_ (some 18) rfl rfl Tryz.func54 (by kernel_rfl) rfl #[.agg #[.int .u64 ((rd_T24 t145 x5_1).f0), .bool ((rd_T24 t145 x5_1).f1)], .int .i64 x5_1] rfl (by (try simp only [List.map_toArray, List.map_cons, List.map_nil]); first | done | rfl | (simp only [List.length_drop, List.length_take]; rfl)) ?_; (with_reducible refine (complineref18_Check.calls k1 ((rd_T24 t145 x5_1).f0) ((rd_T24 t145 x5_1).f1) x5_1 t149 _ A9.out).mono ?_); rintro e w12 ⟨rfl, hb⟩; refine ⟨_, rfl, ?_⟩; have n0_ := Aside0.mk (Kd.R_below (by (with_reducible repeat (first | apply Kd.R_alloc | apply Kd.R_drewN | apply Kd.R_drew)); exact HO_4.out) hb); have n1_ := Aside0.mk (blk_below (g := gb144) (o := .cells #[.int .u64 a0_0, .bool a0_1, .int .u64 a0_2, .bool a0_3, .int .u64 a0_4, .bool a0_5, .int .u64 a0_6, .bool a0_7, .int .u64 a0_8, .bool a0_9] 26 (0, 0)) (by (with_reducible repeat (first | refine blk_drewN ?_ _ | refine blk_drew ?_ | refine blk_alloc ?_ _)); exact BK144.out) hb); have n2_ := Aside0.mk (below_step (by repeat (first | (with_reducible first | exact HB.out | apply below_alloc | apply pw_below_drewN | apply below_drew1 | refine below_set ?_ GE144.out) | exact HB.out)) hb); clear HO_4; clear BK144; clear HB; have HO_4 := n0_; have BK144 := n1_; have HB := n2_; clear n0_ n1_ n2_; (try clear hb); (try clear hb2); (try clear hk); (try clear hi)))
       go_roundg k1
       case measure => have := HK1.out; omega
       case rel => exact ⟨(wrap64 (x5_1 + 1)), (by first | rfl | (simp; done) | (simp [*]; done)), H', ⟨by have := HK1.out; omega⟩, ⟨by (with_reducible repeat (first | apply Kd.R_alloc | apply Kd.R_drewN | apply Kd.R_drew)); exact HO_4.out⟩, ⟨by (with_reducible repeat (first | refine blk_drewN ?_ _ | refine blk_drew ?_ | refine blk_alloc ?_ _)); exact BK144.out⟩, ⟨by repeat (first | (with_reducible first | exact HB.out | apply below_alloc | apply pw_below_drewN | apply below_drew1 | refine below_set ?_ GE144.out) | exact HB.out)⟩⟩
      ·rw [if_neg c10] at H
       have c10b0 : (t149 == 0) = false := beq_eq_false_iff_ne.mpr c10
       have c10b1 : (t149 != 0) = true := bne_iff_ne.mpr c10
       simp only [Option.some.injEq, Prod.mk.injEq] at H
       obtain ⟨rfl, rfl⟩ := H
       obtain ⟨Ao13, co13, eo13⟩ := Kd.R_slice HO_4.out
       subst eo13
       have p148 : 0 ≤ (x5_1 : Int) := of_decide_eq_true (by first | (with_reducible assumption) | assumption)
       have q148 : x5_1 < (t145.length : Int) := of_decide_eq_true (by first | (with_reducible assumption) | assumption)
       obtain ⟨ad148, e148, hx148_0, hx148_1⟩ := at_T24 (Kd.R_reads' HO_4.out).2.2 x5_1 p148 q148
       cases e148
       replace p148 := eq_true p148
       replace q148 := eq_true q148
       go_wp2_with (first | ((with_reducible refine gate_callee (f := 54) rfl ?_); refine goesL_ (some 18) rfl rfl Tryz.func54 (by kernel_rfl) rfl #[.agg #[.int .u64 ((rd_T24 t145 x5_1).f0), .bool ((rd_T24 t145 x5_1).f1)], .int .i64 x5_1] rfl (by (try simp only [List.map_toArray, List.map_cons, List.map_nil]); first | done | rfl | (simp only [List.length_drop, List.length_take]; rfl)) ?_; (with_reducible refine (complineref18_Check.calls k1 ((rd_T24 t145 x5_1).f0) ((rd_T24 t145 x5_1).f1) x5_1 t149 _ A9.out).mono ?_); rintro e w14 ⟨rfl, hb⟩; refine ⟨_, rfl, ?_⟩; have n0_ := Aside0.mk (Kd.R_below (by (with_reducible repeat (first | apply Kd.R_alloc | apply Kd.R_drewN | apply Kd.R_drew)); exact HO_4.out) hb); have n1_ := Aside0.mk (blk_below (g := gb144) (o := .cells #[.int .u64 a0_0, .bool a0_1, .int .u64 a0_2, .bool a0_3, .int .u64 a0_4, .bool a0_5, .int .u64 a0_6, .bool a0_7, .int .u64 a0_8, .bool a0_9] 26 (0, 0)) (by (with_reducible repeat (first | refine blk_drewN ?_ _ | refine blk_drew ?_ | refine blk_alloc ?_ _)); exact BK144.out) hb); have n2_ := Aside0.mk (below_step (by repeat (first | (with_reducible first | exact HB.out | apply below_alloc | apply pw_below_drewN | apply below_drew1 | refine below_set ?_ GE144.out) | exact HB.out)) hb); clear HO_4; clear BK144; clear HB; have HO_4 := n0_; have BK144 := n1_; have HB := n2_; clear n0_ n1_ n2_; (try clear hb); (try clear hb2); (try clear hk); (try clear hi)))
       go_ret2
       exact ⟨by first | rfl | (simp [errW_none, errW_some] <;> rfl) | (simp [*, errW_none, errW_some] <;> rfl), by repeat (first | (with_reducible first | exact HB.out | apply below_alloc | apply pw_below_drewN | apply below_drew1 | refine below_set ?_ GE144.out) | exact HB.out)⟩
     ·rw [if_neg c8] at H
      exact absurd H (by simp)
    ·rw [if_neg c7] at H
     exact absurd H (by simp)
   ·rw [if_neg c6] at H
    have c6b0 : decide (x5_1 < 5) = false := decide_eq_false c6
    clear c6
    simp only [Option.some.injEq, Prod.mk.injEq] at H
    obtain ⟨rfl, rfl⟩ := H
    go_wp2
    go_ret2
    exact ⟨by first | rfl | (simp [errW_none, errW_some] <;> rfl) | (simp [*, errW_none, errW_some] <;> rfl), by repeat (first | (with_reducible first | exact HB.out | apply below_alloc | apply pw_below_drewN | apply below_drew1 | refine below_set ?_ GE144.out) | exact HB.out)⟩

/-! ### complineref16_Leap: function 56 -/
def complineref16_Leap.f (a0 : Int) : Option (Bool) := if (Int.tmod a0 400) = 0 then (some true) else (if (Int.tmod a0 4) = 0 then (some ((Int.tmod a0 100) != 0)) else (some false))
set_option maxHeartbeats 8000000 in
set_option maxRecDepth 100000 in
theorem complineref16_Leap.calls (a0 : Int) (r : Bool) (w : World) (h : complineref16_Leap.f a0 = some r) :
  Calls Tryz.prog 56 #[.int .i64 a0] w fun e w' => e = .returned (.bool r) ∧ Drawn0 w w' := by
 have H : (if (Int.tmod a0 400) = 0 then (some true) else (if (Int.tmod a0 4) = 0 then (some ((Int.tmod a0 100) != 0)) else (some false))) = some r := h
 clear h
 by_cases c2 : (Int.tmod a0 400) = 0
 ·rw [if_pos c2] at H
  have c2b0 : ((Int.tmod a0 400) == 0) = true := beq_iff_eq.mpr c2
  have c2b1 : ((Int.tmod a0 400) != 0) = false := bne_eq_false_iff_eq.mpr c2
  clear c2
  obtain rfl := Option.some.inj H
  go_enter Tryz.func56, Tryz.ntmps56
  go_wp2
  go_ret
  exact ⟨by first | rfl | (simp; done) | (simp [*]; done), by repeat (first | exact Drawn0.refl _ | apply Drawn0.step)⟩
 ·rw [if_neg c2] at H
  have c2b0 : ((Int.tmod a0 400) == 0) = false := beq_eq_false_iff_ne.mpr c2
  have c2b1 : ((Int.tmod a0 400) != 0) = true := bne_iff_ne.mpr c2
  by_cases c3 : (Int.tmod a0 4) = 0
  ·rw [if_pos c3] at H
   have c3b0 : ((Int.tmod a0 4) == 0) = true := beq_iff_eq.mpr c3
   have c3b1 : ((Int.tmod a0 4) != 0) = false := bne_eq_false_iff_eq.mpr c3
   clear c3
   obtain rfl := Option.some.inj H
   go_enter Tryz.func56, Tryz.ntmps56
   go_wp2
   go_ret
   exact ⟨by first | rfl | (simp; done) | (simp [*]; done), by repeat (first | exact Drawn0.refl _ | apply Drawn0.step)⟩
  ·rw [if_neg c3] at H
   have c3b0 : ((Int.tmod a0 4) == 0) = false := beq_eq_false_iff_ne.mpr c3
   have c3b1 : ((Int.tmod a0 4) != 0) = true := bne_iff_ne.mpr c3
   obtain rfl := Option.some.inj H
   go_enter Tryz.func56, Tryz.ntmps56
   go_wp2
   go_ret
   exact ⟨by first | rfl | (simp; done) | (simp [*]; done), by repeat (first | exact Drawn0.refl _ | apply Drawn0.step)⟩

/-! ### complineref16_Length: function 31 -/
def complineref16_Length.j0 : Nat → Int → Int → Bool → Option (Int)
 | 0, _, _, _ => none
 | k + 1, x0, x1, x10 => if x10 = true then (some 0) else (if x1 = 2 then ((complineref16_Leap.f x0).bind fun t150 => (if t150 = true then (some 29) else (some 28))) else (if x1 = 4 then (some 30) else (if x1 = 6 then (some 30) else (if x1 = 9 then (some 30) else (if x1 = 11 then (some 30) else (some 31))))))
def complineref16_Length.f (k : Nat) (a0 : Int) (a1 : Int) : Option (Int) := if a1 < 1 then (complineref16_Length.j0 k a0 a1 true) else (complineref16_Length.j0 k a0 a1 (decide (a1 > 12)))
theorem complineref16_Length.mono_l : ∀ k, (∀ y0 y1 y2, LeO (complineref16_Length.j0 k y0 y1 y2) (complineref16_Length.j0 (k + 1) y0 y1 y2))
 | 0 => fun _ _ _ r h => by simp [complineref16_Length.j0] at h
 | k + 1 => by
  have ih0 := complineref16_Length.mono_l k
  ·intro y0 y1 y2
   unfold complineref16_Length.j0
   repeat' first
   | (with_reducible exact ih0 _ _ _)
   | (with_reducible exact LeO.refl _)
   | (with_reducible exact LeO.none _)
   | (with_reducible refine LeO.ite ?_ ?_)
   | (with_reducible refine LeO.bind ?_ (fun _ => ?_))
   | exact ih0 _ _ _
   | exact LeO.none _
   | refine LeO.ite ?_ ?_
   | refine LeO.bind ?_ (fun _ => ?_)
theorem complineref16_Length.mono : ∀ a0 a1 k, LeO (complineref16_Length.f k a0 a1) (complineref16_Length.f (k + 1) a0 a1) := by
 intro a0 a1 k
 have ih0 := complineref16_Length.mono_l k
 unfold complineref16_Length.f
 repeat' first
   | (with_reducible exact ih0 _ _ _)
   | (with_reducible exact LeO.refl _)
   | (with_reducible exact LeO.none _)
   | (with_reducible refine LeO.ite ?_ ?_)
   | (with_reducible refine LeO.bind ?_ (fun _ => ?_))
   | exact ih0 _ _ _
   | exact LeO.none _
   | refine LeO.ite ?_ ?_
   | refine LeO.bind ?_ (fun _ => ?_)
set_option maxHeartbeats 8000000 in
set_option maxRecDepth 100000 in
theorem complineref16_Length.calls (k : Nat) (a0 : Int) (a1 : Int) (r : Int) (w : World) (h : complineref16_Length.f k a0 a1 = some r) :
  Calls Tryz.prog 31 #[.int .i64 a0, .int .i64 a1] w fun e w' => e = .returned (.int .i64 r) ∧ Drawn0 w w' := by
 have H : (if a1 < 1 then (complineref16_Length.j0 k a0 a1 true) else (complineref16_Length.j0 k a0 a1 (decide (a1 > 12)))) = some r := h
 clear h
 have HC3 := Aside0.mk H
 clear H
 go_enter Tryz.func31, Tryz.ntmps31
 go_upto_region 1 with (fail)
 go_cut [10] (fun v10 wc => ∃ (kq : Nat) (x10_2 : Bool), v10 = .bool x10_2 ∧ Aside0 (complineref16_Length.j0 kq a0 a1 x10_2 = some r) ∧ Aside0 (kq ≤ k) ∧ Drawn0 w wc)
 case first =>
  have H := HC3.out
  clear HC3
  by_cases c4 : a1 < 1
  ·rw [if_pos c4] at H
   have c4b0 : decide (a1 < 1) = true := decide_eq_true c4
   clear c4
   (first | rw [c4b0] | (simp only [i64_w, i32_w]; rw [c4b0]) | skip)
   have H' := Aside0.mk H
   clear H
   go_wp2
   go_meet
   case rel => exact ⟨_, (true), (by first | rfl | (simp; done) | (simp [*]; done)), H', ⟨by first | omega | exact Nat.le_refl _⟩, by repeat (first | exact Drawn0.refl _ | apply Drawn0.step)⟩
  ·rw [if_neg c4] at H
   have c4b0 : decide (a1 < 1) = false := decide_eq_false c4
   clear c4
   (first | rw [c4b0] | (simp only [i64_w, i32_w]; rw [c4b0]) | skip)
   have H' := Aside0.mk H
   clear H
   go_wp2
   go_meet
   case rel => exact ⟨_, (decide (a1 > 12)), (by first | rfl | (simp; done) | (simp [*]; done)), H', ⟨by first | omega | exact Nat.le_refl _⟩, by repeat (first | exact Drawn0.refl _ | apply Drawn0.step)⟩
 case rest =>
  clear HC3
  try clear p2
  try clear c3
  try clear c4
  try clear c4b0
  obtain ⟨kq, x10_2, rfl, HA, HJ2, ⟨mc2, rfl⟩⟩ := hcut
  cases kq with
  | zero => exact absurd HA.out (by simp [complineref16_Length.j0])
  | succ kj2 =>
   have H := HA.out
   clear HA
   simp only [complineref16_Length.j0] at H
   by_cases c5 : x10_2 = true
   ·subst c5
    have H1 : (some 0) = some r := by rw [if_pos rfl] at H; exact H
    clear H
    have H := H1
    clear H1
    obtain rfl := Option.some.inj H
    go_wp2
    go_ret
    exact ⟨by first | rfl | (simp; done) | (simp [*]; done), by repeat (first | exact Drawn0.refl _ | apply Drawn0.step)⟩
   ·replace c5 := Bool.eq_false_iff.mpr c5
    subst c5
    have H1 : (if a1 = 2 then ((complineref16_Leap.f a0).bind fun t150 => (if t150 = true then (some 29) else (some 28))) else (if a1 = 4 then (some 30) else (if a1 = 6 then (some 30) else (if a1 = 9 then (some 30) else (if a1 = 11 then (some 30) else (some 31)))))) = some r := by rw [if_neg (show ¬ (false = true) by decide)] at H; exact H
    clear H
    have H := H1
    clear H1
    by_cases c6 : a1 = 2
    ·rw [if_pos c6] at H
     have c6b0 : (a1 == 2) = true := beq_iff_eq.mpr c6
     have c6b1 : (a1 != 2) = false := bne_eq_false_iff_eq.mpr c6
     clear c6
     replace H := Option.bind_eq_some_iff.mp H
     obtain ⟨t150, A70, H⟩ := H
     replace H : (if t150 = true then (some 29) else (some 28)) = some r := H
     have A7 := Aside0.mk A70
     clear A70
     by_cases c8 : t150 = true
     ·subst c8
      have H1 : (some 29) = some r := by rw [if_pos rfl] at H; exact H
      clear H
      have H := H1
      clear H1
      obtain rfl := Option.some.inj H
      go_wp2_with (first | ((with_reducible refine gate_callee (f := 56) rfl ?_); refine goesL_ (some 14) rfl rfl Tryz.func56 (by kernel_rfl) rfl #[.int .i64 a0] rfl (by (try simp only [List.map_toArray, List.map_cons, List.map_nil]); first | done | rfl | (simp only [List.length_drop, List.length_take]; rfl)) ?_; (with_reducible refine (complineref16_Leap.calls a0 true _ A7.out).mono ?_); rintro e w' ⟨rfl, ⟨nd, rfl⟩⟩; refine ⟨_, rfl, ?_⟩))
      go_ret
      exact ⟨by first | rfl | (simp; done) | (simp [*]; done), by repeat (first | exact Drawn0.refl _ | apply Drawn0.step)⟩
     ·replace c8 := Bool.eq_false_iff.mpr c8
      subst c8
      have H1 : (some 28) = some r := by rw [if_neg (show ¬ (false = true) by decide)] at H; exact H
      clear H
      have H := H1
      clear H1
      obtain rfl := Option.some.inj H
      go_wp2_with (first | ((with_reducible refine gate_callee (f := 56) rfl ?_); refine goesL_ (some 14) rfl rfl Tryz.func56 (by kernel_rfl) rfl #[.int .i64 a0] rfl (by (try simp only [List.map_toArray, List.map_cons, List.map_nil]); first | done | rfl | (simp only [List.length_drop, List.length_take]; rfl)) ?_; (with_reducible refine (complineref16_Leap.calls a0 false _ A7.out).mono ?_); rintro e w' ⟨rfl, ⟨nd, rfl⟩⟩; refine ⟨_, rfl, ?_⟩))
      go_ret
      exact ⟨by first | rfl | (simp; done) | (simp [*]; done), by repeat (first | exact Drawn0.refl _ | apply Drawn0.step)⟩
    ·rw [if_neg c6] at H
     have c6b0 : (a1 == 2) = false := beq_eq_false_iff_ne.mpr c6
     have c6b1 : (a1 != 2) = true := bne_iff_ne.mpr c6
     by_cases c9 : a1 = 4
     ·rw [if_pos c9] at H
      have c9b0 : (a1 == 4) = true := beq_iff_eq.mpr c9
      have c9b1 : (a1 != 4) = false := bne_eq_false_iff_eq.mpr c9
      clear c9
      obtain rfl := Option.some.inj H
      go_wp2
      go_ret
      exact ⟨by first | rfl | (simp; done) | (simp [*]; done), by repeat (first | exact Drawn0.refl _ | apply Drawn0.step)⟩
     ·rw [if_neg c9] at H
      have c9b0 : (a1 == 4) = false := beq_eq_false_iff_ne.mpr c9
      have c9b1 : (a1 != 4) = true := bne_iff_ne.mpr c9
      by_cases c10 : a1 = 6
      ·rw [if_pos c10] at H
       have c10b0 : (a1 == 6) = true := beq_iff_eq.mpr c10
       have c10b1 : (a1 != 6) = false := bne_eq_false_iff_eq.mpr c10
       clear c10
       obtain rfl := Option.some.inj H
       go_wp2
       go_ret
       exact ⟨by first | rfl | (simp; done) | (simp [*]; done), by repeat (first | exact Drawn0.refl _ | apply Drawn0.step)⟩
      ·rw [if_neg c10] at H
       have c10b0 : (a1 == 6) = false := beq_eq_false_iff_ne.mpr c10
       have c10b1 : (a1 != 6) = true := bne_iff_ne.mpr c10
       by_cases c11 : a1 = 9
       ·rw [if_pos c11] at H
        have c11b0 : (a1 == 9) = true := beq_iff_eq.mpr c11
        have c11b1 : (a1 != 9) = false := bne_eq_false_iff_eq.mpr c11
        clear c11
        obtain rfl := Option.some.inj H
        go_wp2
        go_ret
        exact ⟨by first | rfl | (simp; done) | (simp [*]; done), by repeat (first | exact Drawn0.refl _ | apply Drawn0.step)⟩
       ·rw [if_neg c11] at H
        have c11b0 : (a1 == 9) = false := beq_eq_false_iff_ne.mpr c11
        have c11b1 : (a1 != 9) = true := bne_iff_ne.mpr c11
        by_cases c12 : a1 = 11
        ·rw [if_pos c12] at H
         have c12b0 : (a1 == 11) = true := beq_iff_eq.mpr c12
         have c12b1 : (a1 != 11) = false := bne_eq_false_iff_eq.mpr c12
         clear c12
         obtain rfl := Option.some.inj H
         go_wp2
         go_ret
         exact ⟨by first | rfl | (simp; done) | (simp [*]; done), by repeat (first | exact Drawn0.refl _ | apply Drawn0.step)⟩
        ·rw [if_neg c12] at H
         have c12b0 : (a1 == 11) = false := beq_eq_false_iff_ne.mpr c12
         have c12b1 : (a1 != 11) = true := bne_iff_ne.mpr c12
         obtain rfl := Option.some.inj H
         go_wp2
         go_ret
         exact ⟨by first | rfl | (simp; done) | (simp [*]; done), by repeat (first | exact Drawn0.refl _ | apply Drawn0.step)⟩

/-! ### complineref16_days: function 55 -/
def complineref16_days.f (a0 : Int) : Option (Int) := (complineref16_Leap.f a0).bind fun t151 => (if t151 = true then (some 366) else (some 365))
set_option maxHeartbeats 8000000 in
set_option maxRecDepth 100000 in
theorem complineref16_days.calls (a0 : Int) (r : Int) (w : World) (h : complineref16_days.f a0 = some r) :
  Calls Tryz.prog 55 #[.int .i64 a0] w fun e w' => e = .returned (.int .i64 r) ∧ Drawn0 w w' := by
 have H : ((complineref16_Leap.f a0).bind fun t151 => (if t151 = true then (some 366) else (some 365))) = some r := h
 clear h
 replace H := Option.bind_eq_some_iff.mp H
 obtain ⟨t151, A20, H⟩ := H
 replace H : (if t151 = true then (some 366) else (some 365)) = some r := H
 have A2 := Aside0.mk A20
 clear A20
 by_cases c3 : t151 = true
 ·subst c3
  have H1 : (some 366) = some r := by rw [if_pos rfl] at H; exact H
  clear H
  have H := H1
  clear H1
  obtain rfl := Option.some.inj H
  go_enter Tryz.func55, Tryz.ntmps55
  go_wp2_with (first | ((with_reducible refine gate_callee (f := 56) rfl ?_); refine goesL_ (some 4) rfl rfl Tryz.func56 (by kernel_rfl) rfl #[.int .i64 a0] rfl (by (try simp only [List.map_toArray, List.map_cons, List.map_nil]); first | done | rfl | (simp only [List.length_drop, List.length_take]; rfl)) ?_; (with_reducible refine (complineref16_Leap.calls a0 true _ A2.out).mono ?_); rintro e w' ⟨rfl, ⟨nd, rfl⟩⟩; refine ⟨_, rfl, ?_⟩))
  go_ret
  exact ⟨by first | rfl | (simp; done) | (simp [*]; done), by repeat (first | exact Drawn0.refl _ | apply Drawn0.step)⟩
 ·replace c3 := Bool.eq_false_iff.mpr c3
  subst c3
  have H1 : (some 365) = some r := by rw [if_neg (show ¬ (false = true) by decide)] at H; exact H
  clear H
  have H := H1
  clear H1
  obtain rfl := Option.some.inj H
  go_enter Tryz.func55, Tryz.ntmps55
  go_wp2_with (first | ((with_reducible refine gate_callee (f := 56) rfl ?_); refine goesL_ (some 4) rfl rfl Tryz.func56 (by kernel_rfl) rfl #[.int .i64 a0] rfl (by (try simp only [List.map_toArray, List.map_cons, List.map_nil]); first | done | rfl | (simp only [List.length_drop, List.length_take]; rfl)) ?_; (with_reducible refine (complineref16_Leap.calls a0 false _ A2.out).mono ?_); rintro e w' ⟨rfl, ⟨nd, rfl⟩⟩; refine ⟨_, rfl, ?_⟩))
  go_ret
  exact ⟨by first | rfl | (simp; done) | (simp [*]; done), by repeat (first | exact Drawn0.refl _ | apply Drawn0.step)⟩

end Go.Proofs.YtcjfjicagopppaaGreatDoor.PDay
