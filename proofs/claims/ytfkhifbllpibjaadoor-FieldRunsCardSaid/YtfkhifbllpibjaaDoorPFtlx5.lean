-- Written by a program of this session (gprint.py) over the kit's print.
import Derived.Test.YtfkhifbllpibjaaDoorPFtlx0
import Derived.Test.YtfkhifbllpibjaaDoorPFtlx4
namespace Go.Proofs.YtfkhifbllpibjaaDoor.PFtl
open Go.RowKit Go.Proofs.YtfkhifbllpibjaaDoorW.PrintWords Go.Proofs.YtfkhifbllpibjaaDoorW.PrintLast Go.Proofs.YtfkhifbllpibjaaDoorW.PrintMore
attribute [local go_sem] max2_int min2_int max_two min_two max_three min_three max_four min_four   -- for this text's walks alone
set_option linter.unusedVariables false
set_option linter.unusedSimpArgs false

/-! ### complineref18_limits: function 31 -/
def complineref18_limits.f (a0 : Int) : Option (Int × Int × Int) := (complineref17_Limits.f a0).bind fun bt122 => (if a0 = 4 then (some (bt122.1, 6, bt122.2.2)) else (some (bt122.1, bt122.2.1, bt122.2.2)))
set_option maxHeartbeats 8000000 in
set_option maxRecDepth 100000 in
theorem complineref18_limits.calls (a0 : Int) (r1 : Int) (r2 : Int) (r3 : Int) (w : World) (h : complineref18_limits.f a0 = some (r1, r2, r3)) :
    Calls Tryd.prog 31 #[.int .i64 a0] w fun e w' => e = .returned (.tuple #[.int .i64 r1, .int .i64 r2, .int .i64 r3]) ∧ Drawn0 w w' := by
  have H : ((complineref17_Limits.f a0).bind fun bt122 => (if a0 = 4 then (some (bt122.1, 6, bt122.2.2)) else (some (bt122.1, bt122.2.1, bt122.2.2)))) = some (r1, r2, r3) := h
  clear h
  replace H := Option.bind_eq_some_iff.mp H
  obtain ⟨⟨t122, t123, t124⟩, A20, H⟩ := H
  replace H : (if a0 = 4 then (some (t122, 6, t124)) else (some (t122, t123, t124))) = some (r1, r2, r3) := H
  have A2 := Aside0.mk A20
  clear A20
  by_cases c3 : a0 = 4
  · rw [if_pos c3] at H
    have c3b0 : (a0 == 4) = true := beq_iff_eq.mpr c3
    have c3b1 : (a0 != 4) = false := bne_eq_false_iff_eq.mpr c3
    clear c3
    simp only [Option.some.injEq, Prod.mk.injEq] at H
    obtain ⟨rfl, rfl, rfl⟩ := H
    go_enter Tryd.func31, Tryd.ntmps31
    go_wp2_with (first | ((with_reducible refine gate_callee (f := 49) rfl ?_); refine goesL_ (some 10) rfl rfl Tryd.func49 (by kernel_rfl) rfl #[.int .i64 a0] rfl (by (try simp only [List.map_toArray, List.map_cons, List.map_nil]); first | done | rfl | (simp only [List.length_drop, List.length_take]; rfl)) ?_; (with_reducible refine (complineref17_Limits.calls a0 t122 t123 t124 _ A2.out).mono ?_); rintro e w' ⟨rfl, ⟨nd, rfl⟩⟩; refine ⟨_, rfl, ?_⟩))
    go_ret3
    exact ⟨by first | rfl | (simp; done) | (simp [*]; done), by repeat (first | exact Drawn0.refl _ | apply Drawn0.step)⟩
  · rw [if_neg c3] at H
    have c3b0 : (a0 == 4) = false := beq_eq_false_iff_ne.mpr c3
    have c3b1 : (a0 != 4) = true := bne_iff_ne.mpr c3
    simp only [Option.some.injEq, Prod.mk.injEq] at H
    obtain ⟨rfl, rfl, rfl⟩ := H
    go_enter Tryd.func31, Tryd.ntmps31
    go_wp2_with (first | ((with_reducible refine gate_callee (f := 49) rfl ?_); refine goesL_ (some 10) rfl rfl Tryd.func49 (by kernel_rfl) rfl #[.int .i64 a0] rfl (by (try simp only [List.map_toArray, List.map_cons, List.map_nil]); first | done | rfl | (simp only [List.length_drop, List.length_take]; rfl)) ?_; (with_reducible refine (complineref17_Limits.calls a0 t122 t123 t124 _ A2.out).mono ?_); rintro e w' ⟨rfl, ⟨nd, rfl⟩⟩; refine ⟨_, rfl, ?_⟩))
    go_ret3
    exact ⟨by first | rfl | (simp; done) | (simp [*]; done), by repeat (first | exact Drawn0.refl _ | apply Drawn0.step)⟩

/-! ### complineref18_Check: function 17 -/
mutual
def complineref18_Check.l0 : Nat → Int → Int → Int → Int → Int → Bool → Option (Int)
  | 0, _, _, _, _, _, _ => none
  | k + 1, x5, x6, x8, x9, x126000, x126001 => if x9 < 64 then ((complineref18_Has.f k x126000 x126001 x9).bind fun t129 => (if t129 = true then (if x9 < x5 then (complineref18_Check.j1 k x5 x6 x8 x9 t129 true x126000 x126001) else (complineref18_Check.j1 k x5 x6 x8 x9 t129 (decide (x9 > x6)) x126000 x126001)) else (complineref18_Check.j1 k x5 x6 x8 x9 t129 false x126000 x126001))) else (if x8 = 0 then (some 2) else (if x126001 = true then (if x8 = (wrap64 ((wrap64 (x6 - x5)) + 1)) then (some 0) else (some 2)) else (some 0)))
def complineref18_Check.j1 : Nat → Int → Int → Int → Int → Bool → Bool → Int → Bool → Option (Int)
  | 0, _, _, _, _, _, _, _, _ => none
  | k + 1, x5, x6, x8, x9, x10, x37, x126000, x126001 => if x37 = true then (some 2) else (if x10 = true then (complineref18_Check.l0 k x5 x6 (wrap64 (x8 + 1)) (wrap64 (x9 + 1)) x126000 x126001) else (complineref18_Check.l0 k x5 x6 x8 (wrap64 (x9 + 1)) x126000 x126001))
end
def complineref18_Check.f (k : Nat) (a0_0 : Int) (a0_1 : Bool) (a1 : Int) : Option (Int) := (complineref18_limits.f a1).bind fun bt126 => (if bt126.2.2 = 0 then (complineref18_Check.l0 k bt126.1 bt126.2.1 0 0 a0_0 a0_1) else (some bt126.2.2))
theorem complineref18_Check.mono_l : ∀ k, (∀ y0 y1 y2 y3 y4 y5, LeO (complineref18_Check.l0 k y0 y1 y2 y3 y4 y5) (complineref18_Check.l0 (k + 1) y0 y1 y2 y3 y4 y5)) ∧ (∀ y0 y1 y2 y3 y4 y5 y6 y7, LeO (complineref18_Check.j1 k y0 y1 y2 y3 y4 y5 y6 y7) (complineref18_Check.j1 (k + 1) y0 y1 y2 y3 y4 y5 y6 y7))
  | 0 => ⟨fun _ _ _ _ _ _ r h => by simp [complineref18_Check.l0] at h, fun _ _ _ _ _ _ _ _ r h => by simp [complineref18_Check.j1] at h⟩
  | k + 1 => by
    obtain ⟨ih0, ih1⟩ := complineref18_Check.mono_l k
    refine ⟨?_, ?_⟩
    · intro y0 y1 y2 y3 y4 y5
      unfold complineref18_Check.l0
      repeat' first
      | (with_reducible exact ih0 _ _ _ _ _ _)
      | (with_reducible exact ih1 _ _ _ _ _ _ _ _)
      | (with_reducible exact complineref18_Has.mono _ _ _ _)
      | (with_reducible exact LeO.refl _)
      | (with_reducible exact LeO.none _)
      | (with_reducible refine LeO.ite ?_ ?_)
      | (with_reducible refine LeO.bind ?_ (fun _ => ?_))
      | exact ih0 _ _ _ _ _ _
      | exact ih1 _ _ _ _ _ _ _ _
      | exact complineref18_Has.mono _ _ _ _
      | exact LeO.none _
      | refine LeO.ite ?_ ?_
      | refine LeO.bind ?_ (fun _ => ?_)
    · intro y0 y1 y2 y3 y4 y5 y6 y7
      unfold complineref18_Check.j1
      repeat' first
      | (with_reducible exact ih0 _ _ _ _ _ _)
      | (with_reducible exact ih1 _ _ _ _ _ _ _ _)
      | (with_reducible exact complineref18_Has.mono _ _ _ _)
      | (with_reducible exact LeO.refl _)
      | (with_reducible exact LeO.none _)
      | (with_reducible refine LeO.ite ?_ ?_)
      | (with_reducible refine LeO.bind ?_ (fun _ => ?_))
      | exact ih0 _ _ _ _ _ _
      | exact ih1 _ _ _ _ _ _ _ _
      | exact complineref18_Has.mono _ _ _ _
      | exact LeO.none _
      | refine LeO.ite ?_ ?_
      | refine LeO.bind ?_ (fun _ => ?_)
theorem complineref18_Check.mono : ∀ a0 a1 a2 k, LeO (complineref18_Check.f k a0 a1 a2) (complineref18_Check.f (k + 1) a0 a1 a2) := by
  intro a0 a1 a2 k
  obtain ⟨ih0, ih1⟩ := complineref18_Check.mono_l k
  unfold complineref18_Check.f
  repeat' first
      | (with_reducible exact ih0 _ _ _ _ _ _)
      | (with_reducible exact ih1 _ _ _ _ _ _ _ _)
      | (with_reducible exact complineref18_Has.mono _ _ _ _)
      | (with_reducible exact LeO.refl _)
      | (with_reducible exact LeO.none _)
      | (with_reducible refine LeO.ite ?_ ?_)
      | (with_reducible refine LeO.bind ?_ (fun _ => ?_))
      | exact ih0 _ _ _ _ _ _
      | exact ih1 _ _ _ _ _ _ _ _
      | exact complineref18_Has.mono _ _ _ _
      | exact LeO.none _
      | refine LeO.ite ?_ ?_
      | refine LeO.bind ?_ (fun _ => ?_)
set_option maxHeartbeats 8000000 in
set_option maxRecDepth 100000 in
theorem complineref18_Check.calls (k : Nat) (a0_0 : Int) (a0_1 : Bool) (a1 : Int) (r : Int) (w : World) (h : complineref18_Check.f k a0_0 a0_1 a1 = some r) :
    Calls Tryd.prog 17 #[.agg #[.int .u64 a0_0, .bool a0_1], .int .i64 a1] w fun e w' => e = .returned (.int .i64 r) ∧ Below w.heap.size w w' := by
  have hu25 := Tryd.underlying25
  have HB := Aside0.mk (Below.refl w.heap.size w)
  have H : ((complineref18_limits.f a1).bind fun bt126 => (if bt126.2.2 = 0 then (complineref18_Check.l0 k bt126.1 bt126.2.1 0 0 a0_0 a0_1) else (some bt126.2.2))) = some r := h
  clear h
  replace H := Option.bind_eq_some_iff.mp H
  obtain ⟨⟨t126, t127, t128⟩, A30, H⟩ := H
  replace H : (if t128 = 0 then (complineref18_Check.l0 k t126 t127 0 0 a0_0 a0_1) else (some t128)) = some r := H
  have A3 := Aside0.mk A30
  clear A30
  by_cases c4 : t128 = 0
  · rw [if_pos c4] at H
    have c4b0 : (t128 == 0) = true := beq_iff_eq.mpr c4
    have c4b1 : (t128 != 0) = false := bne_eq_false_iff_eq.mpr c4
    clear c4
    have H' := Aside0.mk H
    clear H
    go_enter Tryd.func17, Tryd.ntmps17
    go_wp2_with (first | ((with_reducible refine gate_dst (N := 2) rfl ?_); refine box_event ?hg (N := 2) ?hd (cs := #[.int .u64 a0_0, .bool a0_1]) (t := 25) ?hr ?_; (case hd => rfl); (case hg => rfl); (case hr => first | (go_simp; done) | (go_simp; rfl)); intro gb125 hg w5 hbox hb; have n0_ := Aside0.mk (below_step (by repeat (first | (with_reducible first | exact HB.out | apply below_alloc | apply pw_below_drewN | apply below_drew1) | exact HB.out)) hb); have n1_ := Aside0.mk (hbox); have n2_ := Aside0.mk ((by rw [hg]; exact (below_size (by repeat (first | (with_reducible first | exact HB.out | apply below_alloc | apply pw_below_drewN | apply below_drew1) | exact HB.out))) : w.heap.size ≤ gb125)); have n3_ := Aside0.mk ((by rw [hg]; exact (below_size (by repeat (first | (with_reducible first | exact HB.out | apply below_alloc | apply pw_below_drewN | apply below_drew1) | exact HB.out))) : w.heap.size ≤ gb125)); clear HB; have HB := n0_; have BK125 := n1_; have GW125 := n2_; have GE125 := n3_; clear n0_ n1_ n2_ n3_; clear hb hbox hg) | ((with_reducible refine gate_callee (f := 31) rfl ?_); refine goesL_ (some 13) rfl rfl Tryd.func31 (by kernel_rfl) rfl #[.int .i64 a1] rfl (by (try simp only [List.map_toArray, List.map_cons, List.map_nil]); first | done | rfl | (simp only [List.length_drop, List.length_take]; rfl)) ?_; (with_reducible refine (complineref18_limits.calls a1 t126 t127 t128 _ A3.out).mono ?_); rintro e w' ⟨rfl, ⟨nd, rfl⟩⟩; refine ⟨_, rfl, ?_⟩))
    go_loopg [8, 9] k (fun kq v8 v9 w' => ∃ (x8_1 : Int) (x9_1 : Int), v8 = .int .i64 x8_1 ∧ v9 = .int .i64 x9_1 ∧ Aside0 (complineref18_Check.l0 kq t126 t127 x8_1 x9_1 a0_0 a0_1 = some r) ∧ Aside0 (kq ≤ k) ∧ Aside0 (w'.heap[gb125]? = some (.cells #[.int .u64 a0_0, .bool a0_1] 25 (0, 0))) ∧ Aside0 (Below w.heap.size w w'))
    case atStart => exact ⟨(0), (0), (by first | rfl | (simp; done) | (simp [*]; done)), (by first | rfl | (simp; done) | (simp [*]; done)), H', ⟨Nat.le_refl _⟩, ⟨by (with_reducible repeat (first | refine blk_drewN ?_ _ | refine blk_drew ?_ | refine blk_alloc ?_ _)); exact BK125.out⟩, ⟨by repeat (first | (with_reducible first | exact HB.out | apply below_alloc | apply pw_below_drewN | apply below_drew1 | refine below_set ?_ GE125.out) | exact HB.out)⟩⟩
    case round =>
      clear H'
      try clear c1
      try clear p2
      try clear c3
      try clear c4
      try clear c4b0
      try clear c4b1
      obtain ⟨x8_1, x9_1, rfl, rfl, HA, HK1, BK125, HB⟩ := hrel
      cases gk with
      | zero => exact absurd HA.out (by simp [complineref18_Check.l0])
      | succ k1 =>
        have H := HA.out
        clear HA
        simp only [complineref18_Check.l0] at H
        by_cases c6 : x9_1 < 64
        · rw [if_pos c6] at H
          have c6b0 : decide (x9_1 < 64) = true := decide_eq_true c6
          clear c6
          replace H := Option.bind_eq_some_iff.mp H
          obtain ⟨t129, A70, H⟩ := H
          replace H : (if t129 = true then (if x9_1 < t126 then (complineref18_Check.j1 k1 t126 t127 x8_1 x9_1 t129 true a0_0 a0_1) else (complineref18_Check.j1 k1 t126 t127 x8_1 x9_1 t129 (decide (x9_1 > t127)) a0_0 a0_1)) else (complineref18_Check.j1 k1 t126 t127 x8_1 x9_1 t129 false a0_0 a0_1)) = some r := H
          have A7 := Aside0.mk A70
          clear A70
          have HC8 := Aside0.mk H
          clear H
          have hcz9_0 : wr.cell? ⟨gb125, 0, none⟩ = some (.int .u64 a0_0) := (blk_cell BK125.out 0).trans rfl
          have hcz9_1 : wr.cell? ⟨gb125, 1, none⟩ = some (.bool a0_1) := (blk_cell BK125.out 1).trans rfl
          have hfz9_0 := blk_frozen BK125.out 0
          have hfz9_1 := blk_frozen BK125.out 1
          go_upto_region 9 with (first | ((with_reducible refine gate_callee (f := 19) rfl ?_); refine goesL_ (some 26) rfl rfl Tryd.func19 (by kernel_rfl) rfl #[.agg #[.int .u64 a0_0, .bool a0_1], .int .i64 x9_1] rfl (by (try simp only [List.map_toArray, List.map_cons, List.map_nil]); first | done | rfl | (simp only [List.length_drop, List.length_take]; rfl)) ?_; (with_reducible refine (complineref18_Has.calls k1 a0_0 a0_1 x9_1 t129 _ A7.out).mono ?_); rintro e w10 ⟨rfl, hb⟩; refine ⟨_, rfl, ?_⟩; have n0_ := Aside0.mk (blk_below (g := gb125) (o := .cells #[.int .u64 a0_0, .bool a0_1] 25 (0, 0)) (by (with_reducible repeat (first | refine blk_drewN ?_ _ | refine blk_drew ?_ | refine blk_alloc ?_ _)); exact BK125.out) hb); have n1_ := Aside0.mk (below_step (by repeat (first | (with_reducible first | exact HB.out | apply below_alloc | apply pw_below_drewN | apply below_drew1 | refine below_set ?_ GE125.out) | exact HB.out)) hb); clear BK125; clear HB; have BK125 := n0_; have HB := n1_; clear n0_ n1_; (try clear hb); (try clear hb2); (try clear hk); (try clear hi)))
          (try simp only [Act.put, List.setIfInBounds_toArray, List.set_cons_zero, List.set_cons_succ])
          go_cut [37] (fun v37 wc => ∃ (kq : Nat) (x37_7 : Bool), v37 = .bool x37_7 ∧ Aside0 (complineref18_Check.j1 kq t126 t127 x8_1 x9_1 t129 x37_7 a0_0 a0_1 = some r) ∧ Aside0 (kq ≤ k1) ∧ Aside0 (wc.heap[gb125]? = some (.cells #[.int .u64 a0_0, .bool a0_1] 25 (0, 0))) ∧ Aside0 (Below w.heap.size w wc))
          case first =>
            have H := HC8.out
            clear HC8
            by_cases c11 : t129 = true
            · subst c11
              have H1 : (if x9_1 < t126 then (complineref18_Check.j1 k1 t126 t127 x8_1 x9_1 true true a0_0 a0_1) else (complineref18_Check.j1 k1 t126 t127 x8_1 x9_1 true (decide (x9_1 > t127)) a0_0 a0_1)) = some r := by rw [if_pos rfl] at H; exact H
              clear H
              have H := H1
              clear H1
              by_cases c12 : x9_1 < t126
              · rw [if_pos c12] at H
                have c12b0 : decide (x9_1 < t126) = true := decide_eq_true c12
                clear c12
                (first | rw [c12b0] | (simp only [i64_w, i32_w]; rw [c12b0]) | skip)
                have H' := Aside0.mk H
                clear H
                go_wp2
                go_meet
                case rel => exact ⟨_, (true), (by first | rfl | (simp; done) | (simp [*]; done)), H', ⟨by have := HK1.out; first | omega | exact Nat.le_refl _⟩, ⟨by (with_reducible repeat (first | refine blk_drewN ?_ _ | refine blk_drew ?_ | refine blk_alloc ?_ _)); exact BK125.out⟩, ⟨by repeat (first | (with_reducible first | exact HB.out | apply below_alloc | apply pw_below_drewN | apply below_drew1 | refine below_set ?_ GE125.out) | exact HB.out)⟩⟩
              · rw [if_neg c12] at H
                have c12b0 : decide (x9_1 < t126) = false := decide_eq_false c12
                clear c12
                (first | rw [c12b0] | (simp only [i64_w, i32_w]; rw [c12b0]) | skip)
                have H' := Aside0.mk H
                clear H
                go_wp2
                go_meet
                case rel => exact ⟨_, (decide (x9_1 > t127)), (by first | rfl | (simp; done) | (simp [*]; done)), H', ⟨by have := HK1.out; first | omega | exact Nat.le_refl _⟩, ⟨by (with_reducible repeat (first | refine blk_drewN ?_ _ | refine blk_drew ?_ | refine blk_alloc ?_ _)); exact BK125.out⟩, ⟨by repeat (first | (with_reducible first | exact HB.out | apply below_alloc | apply pw_below_drewN | apply below_drew1 | refine below_set ?_ GE125.out) | exact HB.out)⟩⟩
            · replace c11 := Bool.eq_false_iff.mpr c11
              subst c11
              have H1 : (complineref18_Check.j1 k1 t126 t127 x8_1 x9_1 false false a0_0 a0_1) = some r := by rw [if_neg (show ¬ (false = true) by decide)] at H; exact H
              clear H
              have H := H1
              clear H1
              have H' := Aside0.mk H
              clear H
              go_wp2
              go_meet
              case rel => exact ⟨_, (false), (by first | rfl | (simp; done) | (simp [*]; done)), H', ⟨by have := HK1.out; first | omega | exact Nat.le_refl _⟩, ⟨by (with_reducible repeat (first | refine blk_drewN ?_ _ | refine blk_drew ?_ | refine blk_alloc ?_ _)); exact BK125.out⟩, ⟨by repeat (first | (with_reducible first | exact HB.out | apply below_alloc | apply pw_below_drewN | apply below_drew1 | refine below_set ?_ GE125.out) | exact HB.out)⟩⟩
          case rest =>
            clear HC8
            try clear c1
            try clear p2
            try clear c3
            try clear c4
            try clear c4b0
            try clear c4b1
            try clear c6
            try clear c6b0
            try clear c11
            try clear c12
            try clear c12b0
            try clear hcz9_0
            try clear hcz9_1
            try clear hfz9_0
            try clear hfz9_1
            try clear p2
            obtain ⟨kq, x37_7, rfl, HA, HJ7, BK125, HB⟩ := hcut
            cases kq with
            | zero => exact absurd HA.out (by simp [complineref18_Check.j1])
            | succ kj7 =>
              have H := HA.out
              clear HA
              simp only [complineref18_Check.j1] at H
              by_cases c13 : x37_7 = true
              · subst c13
                have H1 : (some 2) = some r := by rw [if_pos rfl] at H; exact H
                clear H
                have H := H1
                clear H1
                obtain rfl := Option.some.inj H
                go_wp2
                go_ret
                exact ⟨by first | rfl | (simp [errW_none, errW_some] <;> rfl) | (simp [*, errW_none, errW_some] <;> rfl), by repeat (first | (with_reducible first | exact HB.out | apply below_alloc | apply pw_below_drewN | apply below_drew1 | refine below_set ?_ GE125.out) | exact HB.out)⟩
              · replace c13 := Bool.eq_false_iff.mpr c13
                subst c13
                have H1 : (if t129 = true then (complineref18_Check.l0 kj7 t126 t127 (wrap64 (x8_1 + 1)) (wrap64 (x9_1 + 1)) a0_0 a0_1) else (complineref18_Check.l0 kj7 t126 t127 x8_1 (wrap64 (x9_1 + 1)) a0_0 a0_1)) = some r := by rw [if_neg (show ¬ (false = true) by decide)] at H; exact H
                clear H
                have H := H1
                clear H1
                by_cases c14 : t129 = true
                · subst c14
                  have H1 : (complineref18_Check.l0 kj7 t126 t127 (wrap64 (x8_1 + 1)) (wrap64 (x9_1 + 1)) a0_0 a0_1) = some r := by rw [if_pos rfl] at H; exact H
                  clear H
                  have H := H1
                  clear H1
                  have H' := Aside0.mk H
                  clear H
                  go_wp2
                  go_roundg kj7
                  case measure => have := HK1.out; have := HJ7.out; omega
                  case rel => exact ⟨(wrap64 (x8_1 + 1)), (wrap64 (x9_1 + 1)), (by first | rfl | (simp; done) | (simp [*]; done)), (by first | rfl | (simp; done) | (simp [*]; done)), H', ⟨by have := HK1.out; have := HJ7.out; omega⟩, ⟨by (with_reducible repeat (first | refine blk_drewN ?_ _ | refine blk_drew ?_ | refine blk_alloc ?_ _)); exact BK125.out⟩, ⟨by repeat (first | (with_reducible first | exact HB.out | apply below_alloc | apply pw_below_drewN | apply below_drew1 | refine below_set ?_ GE125.out) | exact HB.out)⟩⟩
                · replace c14 := Bool.eq_false_iff.mpr c14
                  subst c14
                  have H1 : (complineref18_Check.l0 kj7 t126 t127 x8_1 (wrap64 (x9_1 + 1)) a0_0 a0_1) = some r := by rw [if_neg (show ¬ (false = true) by decide)] at H; exact H
                  clear H
                  have H := H1
                  clear H1
                  have H' := Aside0.mk H
                  clear H
                  go_wp2
                  go_roundg kj7
                  case measure => have := HK1.out; have := HJ7.out; omega
                  case rel => exact ⟨(x8_1), (wrap64 (x9_1 + 1)), (by first | rfl | (simp; done) | (simp [*]; done)), (by first | rfl | (simp; done) | (simp [*]; done)), H', ⟨by have := HK1.out; have := HJ7.out; omega⟩, ⟨by (with_reducible repeat (first | refine blk_drewN ?_ _ | refine blk_drew ?_ | refine blk_alloc ?_ _)); exact BK125.out⟩, ⟨by repeat (first | (with_reducible first | exact HB.out | apply below_alloc | apply pw_below_drewN | apply below_drew1 | refine below_set ?_ GE125.out) | exact HB.out)⟩⟩
        · rw [if_neg c6] at H
          have c6b0 : decide (x9_1 < 64) = false := decide_eq_false c6
          clear c6
          by_cases c15 : x8_1 = 0
          · rw [if_pos c15] at H
            have c15b0 : (x8_1 == 0) = true := beq_iff_eq.mpr c15
            have c15b1 : (x8_1 != 0) = false := bne_eq_false_iff_eq.mpr c15
            clear c15
            obtain rfl := Option.some.inj H
            go_wp2
            go_ret
            exact ⟨by first | rfl | (simp [errW_none, errW_some] <;> rfl) | (simp [*, errW_none, errW_some] <;> rfl), by repeat (first | (with_reducible first | exact HB.out | apply below_alloc | apply pw_below_drewN | apply below_drew1 | refine below_set ?_ GE125.out) | exact HB.out)⟩
          · rw [if_neg c15] at H
            have c15b0 : (x8_1 == 0) = false := beq_eq_false_iff_ne.mpr c15
            have c15b1 : (x8_1 != 0) = true := bne_iff_ne.mpr c15
            by_cases c16 : a0_1 = true
            · subst c16
              have H1 : (if x8_1 = (wrap64 ((wrap64 (t127 - t126)) + 1)) then (some 0) else (some 2)) = some r := by rw [if_pos rfl] at H; exact H
              clear H
              have H := H1
              clear H1
              by_cases c17 : x8_1 = (wrap64 ((wrap64 (t127 - t126)) + 1))
              · rw [if_pos c17] at H
                have c17b0 : (x8_1 == (wrap64 ((wrap64 (t127 - t126)) + 1))) = true := beq_iff_eq.mpr c17
                have c17b1 : (x8_1 != (wrap64 ((wrap64 (t127 - t126)) + 1))) = false := bne_eq_false_iff_eq.mpr c17
                clear c17
                obtain rfl := Option.some.inj H
                have hcz18_0 : wr.cell? ⟨gb125, 0, none⟩ = some (.int .u64 a0_0) := (blk_cell BK125.out 0).trans rfl
                have hcz18_1 : wr.cell? ⟨gb125, 1, none⟩ = some (.bool true) := (blk_cell BK125.out 1).trans rfl
                have hfz18_0 := blk_frozen BK125.out 0
                have hfz18_1 := blk_frozen BK125.out 1
                go_wp2
                go_ret
                exact ⟨by first | rfl | (simp [errW_none, errW_some] <;> rfl) | (simp [*, errW_none, errW_some] <;> rfl), by repeat (first | (with_reducible first | exact HB.out | apply below_alloc | apply pw_below_drewN | apply below_drew1 | refine below_set ?_ GE125.out) | exact HB.out)⟩
              · rw [if_neg c17] at H
                have c17b0 : (x8_1 == (wrap64 ((wrap64 (t127 - t126)) + 1))) = false := beq_eq_false_iff_ne.mpr c17
                have c17b1 : (x8_1 != (wrap64 ((wrap64 (t127 - t126)) + 1))) = true := bne_iff_ne.mpr c17
                obtain rfl := Option.some.inj H
                have hcz19_0 : wr.cell? ⟨gb125, 0, none⟩ = some (.int .u64 a0_0) := (blk_cell BK125.out 0).trans rfl
                have hcz19_1 : wr.cell? ⟨gb125, 1, none⟩ = some (.bool true) := (blk_cell BK125.out 1).trans rfl
                have hfz19_0 := blk_frozen BK125.out 0
                have hfz19_1 := blk_frozen BK125.out 1
                go_wp2
                go_ret
                exact ⟨by first | rfl | (simp [errW_none, errW_some] <;> rfl) | (simp [*, errW_none, errW_some] <;> rfl), by repeat (first | (with_reducible first | exact HB.out | apply below_alloc | apply pw_below_drewN | apply below_drew1 | refine below_set ?_ GE125.out) | exact HB.out)⟩
            · replace c16 := Bool.eq_false_iff.mpr c16
              subst c16
              have H1 : (some 0) = some r := by rw [if_neg (show ¬ (false = true) by decide)] at H; exact H
              clear H
              have H := H1
              clear H1
              obtain rfl := Option.some.inj H
              have hcz20_0 : wr.cell? ⟨gb125, 0, none⟩ = some (.int .u64 a0_0) := (blk_cell BK125.out 0).trans rfl
              have hcz20_1 : wr.cell? ⟨gb125, 1, none⟩ = some (.bool false) := (blk_cell BK125.out 1).trans rfl
              have hfz20_0 := blk_frozen BK125.out 0
              have hfz20_1 := blk_frozen BK125.out 1
              go_wp2
              go_ret
              exact ⟨by first | rfl | (simp [errW_none, errW_some] <;> rfl) | (simp [*, errW_none, errW_some] <;> rfl), by repeat (first | (with_reducible first | exact HB.out | apply below_alloc | apply pw_below_drewN | apply below_drew1 | refine below_set ?_ GE125.out) | exact HB.out)⟩
  · rw [if_neg c4] at H
    have c4b0 : (t128 == 0) = false := beq_eq_false_iff_ne.mpr c4
    have c4b1 : (t128 != 0) = true := bne_iff_ne.mpr c4
    obtain rfl := Option.some.inj H
    go_enter Tryd.func17, Tryd.ntmps17
    go_wp2_with (first | ((with_reducible refine gate_dst (N := 2) rfl ?_); refine box_event ?hg (N := 2) ?hd (cs := #[.int .u64 a0_0, .bool a0_1]) (t := 25) ?hr ?_; (case hd => rfl); (case hg => rfl); (case hr => first | (go_simp; done) | (go_simp; rfl)); intro gb125 hg w21 hbox hb; have n0_ := Aside0.mk (below_step (by repeat (first | (with_reducible first | exact HB.out | apply below_alloc | apply pw_below_drewN | apply below_drew1) | exact HB.out)) hb); have n1_ := Aside0.mk (hbox); have n2_ := Aside0.mk ((by rw [hg]; exact (below_size (by repeat (first | (with_reducible first | exact HB.out | apply below_alloc | apply pw_below_drewN | apply below_drew1) | exact HB.out))) : w.heap.size ≤ gb125)); have n3_ := Aside0.mk ((by rw [hg]; exact (below_size (by repeat (first | (with_reducible first | exact HB.out | apply below_alloc | apply pw_below_drewN | apply below_drew1) | exact HB.out))) : w.heap.size ≤ gb125)); clear HB; have HB := n0_; have BK125 := n1_; have GW125 := n2_; have GE125 := n3_; clear n0_ n1_ n2_ n3_; clear hb hbox hg) | ((with_reducible refine gate_callee (f := 31) rfl ?_); refine goesL_ (some 13) rfl rfl Tryd.func31 (by kernel_rfl) rfl #[.int .i64 a1] rfl (by (try simp only [List.map_toArray, List.map_cons, List.map_nil]); first | done | rfl | (simp only [List.length_drop, List.length_take]; rfl)) ?_; (with_reducible refine (complineref18_limits.calls a1 t126 t127 t128 _ A3.out).mono ?_); rintro e w' ⟨rfl, ⟨nd, rfl⟩⟩; refine ⟨_, rfl, ?_⟩))
    go_ret
    exact ⟨by first | rfl | (simp [errW_none, errW_some] <;> rfl) | (simp [*, errW_none, errW_some] <;> rfl), by repeat (first | (with_reducible first | exact HB.out | apply below_alloc | apply pw_below_drewN | apply below_drew1 | refine below_set ?_ GE125.out) | exact HB.out)⟩

/-! ### complineref18_Count: function 21 -/
def complineref18_Count.l0 : Nat → Int → Int → Int → Bool → Option (Int)
  | 0, _, _, _, _ => none
  | k + 1, x3, x4, x131000, x131001 => if x4 < 64 then ((complineref18_Has.f k x131000 x131001 x4).bind fun t131 => (if t131 = true then (complineref18_Count.l0 k (wrap64 (x3 + 1)) (wrap64 (x4 + 1)) x131000 x131001) else (complineref18_Count.l0 k x3 (wrap64 (x4 + 1)) x131000 x131001))) else (some x3)
def complineref18_Count.f (k : Nat) (a0_0 : Int) (a0_1 : Bool) : Option (Int) := complineref18_Count.l0 k 0 0 a0_0 a0_1
theorem complineref18_Count.mono_l : ∀ k, (∀ y0 y1 y2 y3, LeO (complineref18_Count.l0 k y0 y1 y2 y3) (complineref18_Count.l0 (k + 1) y0 y1 y2 y3))
  | 0 => fun _ _ _ _ r h => by simp [complineref18_Count.l0] at h
  | k + 1 => by
    have ih0 := complineref18_Count.mono_l k
    · intro y0 y1 y2 y3
      unfold complineref18_Count.l0
      repeat' first
      | (with_reducible exact ih0 _ _ _ _)
      | (with_reducible exact complineref18_Has.mono _ _ _ _)
      | (with_reducible exact LeO.refl _)
      | (with_reducible exact LeO.none _)
      | (with_reducible refine LeO.ite ?_ ?_)
      | (with_reducible refine LeO.bind ?_ (fun _ => ?_))
      | exact ih0 _ _ _ _
      | exact complineref18_Has.mono _ _ _ _
      | exact LeO.none _
      | refine LeO.ite ?_ ?_
      | refine LeO.bind ?_ (fun _ => ?_)
theorem complineref18_Count.mono : ∀ a0 a1 k, LeO (complineref18_Count.f k a0 a1) (complineref18_Count.f (k + 1) a0 a1) := by
  intro a0 a1 k
  have ih0 := complineref18_Count.mono_l k
  unfold complineref18_Count.f
  repeat' first
      | (with_reducible exact ih0 _ _ _ _)
      | (with_reducible exact complineref18_Has.mono _ _ _ _)
      | (with_reducible exact LeO.refl _)
      | (with_reducible exact LeO.none _)
      | (with_reducible refine LeO.ite ?_ ?_)
      | (with_reducible refine LeO.bind ?_ (fun _ => ?_))
      | exact ih0 _ _ _ _
      | exact complineref18_Has.mono _ _ _ _
      | exact LeO.none _
      | refine LeO.ite ?_ ?_
      | refine LeO.bind ?_ (fun _ => ?_)
set_option maxHeartbeats 8000000 in
set_option maxRecDepth 100000 in
theorem complineref18_Count.calls (k : Nat) (a0_0 : Int) (a0_1 : Bool) (r : Int) (w : World) (h : complineref18_Count.f k a0_0 a0_1 = some r) :
    Calls Tryd.prog 21 #[.agg #[.int .u64 a0_0, .bool a0_1]] w fun e w' => e = .returned (.int .i64 r) ∧ Below w.heap.size w w' := by
  have hu25 := Tryd.underlying25
  have HB := Aside0.mk (Below.refl w.heap.size w)
  have H : (complineref18_Count.l0 k 0 0 a0_0 a0_1) = some r := h
  clear h
  have H' := Aside0.mk H
  clear H
  go_enter Tryd.func21, Tryd.ntmps21
  go_wp2_with (first | ((with_reducible refine gate_dst (N := 1) rfl ?_); refine box_event ?hg (N := 1) ?hd (cs := #[.int .u64 a0_0, .bool a0_1]) (t := 25) ?hr ?_; (case hd => rfl); (case hg => rfl); (case hr => first | (go_simp; done) | (go_simp; rfl)); intro gb130 hg w2 hbox hb; have n0_ := Aside0.mk (below_step (by repeat (first | (with_reducible first | exact HB.out | apply below_alloc | apply pw_below_drewN | apply below_drew1) | exact HB.out)) hb); have n1_ := Aside0.mk (hbox); have n2_ := Aside0.mk ((by rw [hg]; exact (below_size (by repeat (first | (with_reducible first | exact HB.out | apply below_alloc | apply pw_below_drewN | apply below_drew1) | exact HB.out))) : w.heap.size ≤ gb130)); have n3_ := Aside0.mk ((by rw [hg]; exact (below_size (by repeat (first | (with_reducible first | exact HB.out | apply below_alloc | apply pw_below_drewN | apply below_drew1) | exact HB.out))) : w.heap.size ≤ gb130)); clear HB; have HB := n0_; have BK130 := n1_; have GW130 := n2_; have GE130 := n3_; clear n0_ n1_ n2_ n3_; clear hb hbox hg))
  go_loopg [3, 4] k (fun kq v3 v4 w' => ∃ (x3_1 : Int) (x4_1 : Int), v3 = .int .i64 x3_1 ∧ v4 = .int .i64 x4_1 ∧ Aside0 (complineref18_Count.l0 kq x3_1 x4_1 a0_0 a0_1 = some r) ∧ Aside0 (kq ≤ k) ∧ Aside0 (w'.heap[gb130]? = some (.cells #[.int .u64 a0_0, .bool a0_1] 25 (0, 0))) ∧ Aside0 (Below w.heap.size w w'))
  case atStart => exact ⟨(0), (0), (by first | rfl | (simp; done) | (simp [*]; done)), (by first | rfl | (simp; done) | (simp [*]; done)), H', ⟨Nat.le_refl _⟩, ⟨by (with_reducible repeat (first | refine blk_drewN ?_ _ | refine blk_drew ?_ | refine blk_alloc ?_ _)); exact BK130.out⟩, ⟨by repeat (first | (with_reducible first | exact HB.out | apply below_alloc | apply pw_below_drewN | apply below_drew1 | refine below_set ?_ GE130.out) | exact HB.out)⟩⟩
  case round =>
    clear H'
    try clear c2
    try clear p2
    obtain ⟨x3_1, x4_1, rfl, rfl, HA, HK1, BK130, HB⟩ := hrel
    cases gk with
    | zero => exact absurd HA.out (by simp [complineref18_Count.l0])
    | succ k1 =>
      have H := HA.out
      clear HA
      simp only [complineref18_Count.l0] at H
      by_cases c3 : x4_1 < 64
      · rw [if_pos c3] at H
        have c3b0 : decide (x4_1 < 64) = true := decide_eq_true c3
        clear c3
        replace H := Option.bind_eq_some_iff.mp H
        obtain ⟨t131, A40, H⟩ := H
        replace H : (if t131 = true then (complineref18_Count.l0 k1 (wrap64 (x3_1 + 1)) (wrap64 (x4_1 + 1)) a0_0 a0_1) else (complineref18_Count.l0 k1 x3_1 (wrap64 (x4_1 + 1)) a0_0 a0_1)) = some r := H
        have A4 := Aside0.mk A40
        clear A40
        by_cases c5 : t131 = true
        · subst c5
          have H1 : (complineref18_Count.l0 k1 (wrap64 (x3_1 + 1)) (wrap64 (x4_1 + 1)) a0_0 a0_1) = some r := by rw [if_pos rfl] at H; exact H
          clear H
          have H := H1
          clear H1
          have H' := Aside0.mk H
          clear H
          have hcz6_0 : wr.cell? ⟨gb130, 0, none⟩ = some (.int .u64 a0_0) := (blk_cell BK130.out 0).trans rfl
          have hcz6_1 : wr.cell? ⟨gb130, 1, none⟩ = some (.bool a0_1) := (blk_cell BK130.out 1).trans rfl
          have hfz6_0 := blk_frozen BK130.out 0
          have hfz6_1 := blk_frozen BK130.out 1
          go_wp2_with (first | ((with_reducible refine gate_callee (f := 19) rfl ?_); refine goesL_ (some 12) rfl rfl Tryd.func19 (by kernel_rfl) rfl #[.agg #[.int .u64 a0_0, .bool a0_1], .int .i64 x4_1] rfl (by (try simp only [List.map_toArray, List.map_cons, List.map_nil]); first | done | rfl | (simp only [List.length_drop, List.length_take]; rfl)) ?_; (with_reducible refine (complineref18_Has.calls k1 a0_0 a0_1 x4_1 true _ A4.out).mono ?_); rintro e w7 ⟨rfl, hb⟩; refine ⟨_, rfl, ?_⟩; have n0_ := Aside0.mk (blk_below (g := gb130) (o := .cells #[.int .u64 a0_0, .bool a0_1] 25 (0, 0)) (by (with_reducible repeat (first | refine blk_drewN ?_ _ | refine blk_drew ?_ | refine blk_alloc ?_ _)); exact BK130.out) hb); have n1_ := Aside0.mk (below_step (by repeat (first | (with_reducible first | exact HB.out | apply below_alloc | apply pw_below_drewN | apply below_drew1 | refine below_set ?_ GE130.out) | exact HB.out)) hb); clear BK130; clear HB; have BK130 := n0_; have HB := n1_; clear n0_ n1_; (try clear hb); (try clear hb2); (try clear hk); (try clear hi)))
          go_roundg k1
          case measure => have := HK1.out; omega
          case rel => exact ⟨(wrap64 (x3_1 + 1)), (wrap64 (x4_1 + 1)), (by first | rfl | (simp; done) | (simp [*]; done)), (by first | rfl | (simp; done) | (simp [*]; done)), H', ⟨by have := HK1.out; omega⟩, ⟨by (with_reducible repeat (first | refine blk_drewN ?_ _ | refine blk_drew ?_ | refine blk_alloc ?_ _)); exact BK130.out⟩, ⟨by repeat (first | (with_reducible first | exact HB.out | apply below_alloc | apply pw_below_drewN | apply below_drew1 | refine below_set ?_ GE130.out) | exact HB.out)⟩⟩
        · replace c5 := Bool.eq_false_iff.mpr c5
          subst c5
          have H1 : (complineref18_Count.l0 k1 x3_1 (wrap64 (x4_1 + 1)) a0_0 a0_1) = some r := by rw [if_neg (show ¬ (false = true) by decide)] at H; exact H
          clear H
          have H := H1
          clear H1
          have H' := Aside0.mk H
          clear H
          have hcz8_0 : wr.cell? ⟨gb130, 0, none⟩ = some (.int .u64 a0_0) := (blk_cell BK130.out 0).trans rfl
          have hcz8_1 : wr.cell? ⟨gb130, 1, none⟩ = some (.bool a0_1) := (blk_cell BK130.out 1).trans rfl
          have hfz8_0 := blk_frozen BK130.out 0
          have hfz8_1 := blk_frozen BK130.out 1
          go_wp2_with (first | ((with_reducible refine gate_callee (f := 19) rfl ?_); refine goesL_ (some 12) rfl rfl Tryd.func19 (by kernel_rfl) rfl #[.agg #[.int .u64 a0_0, .bool a0_1], .int .i64 x4_1] rfl (by (try simp only [List.map_toArray, List.map_cons, List.map_nil]); first | done | rfl | (simp only [List.length_drop, List.length_take]; rfl)) ?_; (with_reducible refine (complineref18_Has.calls k1 a0_0 a0_1 x4_1 false _ A4.out).mono ?_); rintro e w9 ⟨rfl, hb⟩; refine ⟨_, rfl, ?_⟩; have n0_ := Aside0.mk (blk_below (g := gb130) (o := .cells #[.int .u64 a0_0, .bool a0_1] 25 (0, 0)) (by (with_reducible repeat (first | refine blk_drewN ?_ _ | refine blk_drew ?_ | refine blk_alloc ?_ _)); exact BK130.out) hb); have n1_ := Aside0.mk (below_step (by repeat (first | (with_reducible first | exact HB.out | apply below_alloc | apply pw_below_drewN | apply below_drew1 | refine below_set ?_ GE130.out) | exact HB.out)) hb); clear BK130; clear HB; have BK130 := n0_; have HB := n1_; clear n0_ n1_; (try clear hb); (try clear hb2); (try clear hk); (try clear hi)))
          go_roundg k1
          case measure => have := HK1.out; omega
          case rel => exact ⟨(x3_1), (wrap64 (x4_1 + 1)), (by first | rfl | (simp; done) | (simp [*]; done)), (by first | rfl | (simp; done) | (simp [*]; done)), H', ⟨by have := HK1.out; omega⟩, ⟨by (with_reducible repeat (first | refine blk_drewN ?_ _ | refine blk_drew ?_ | refine blk_alloc ?_ _)); exact BK130.out⟩, ⟨by repeat (first | (with_reducible first | exact HB.out | apply below_alloc | apply pw_below_drewN | apply below_drew1 | refine below_set ?_ GE130.out) | exact HB.out)⟩⟩
      · rw [if_neg c3] at H
        have c3b0 : decide (x4_1 < 64) = false := decide_eq_false c3
        clear c3
        obtain rfl := Option.some.inj H
        go_wp2
        go_ret
        exact ⟨by first | rfl | (simp [errW_none, errW_some] <;> rfl) | (simp [*, errW_none, errW_some] <;> rfl), by repeat (first | (with_reducible first | exact HB.out | apply below_alloc | apply pw_below_drewN | apply below_drew1 | refine below_set ?_ GE130.out) | exact HB.out)⟩

end Go.Proofs.YtfkhifbllpibjaaDoor.PFtl
