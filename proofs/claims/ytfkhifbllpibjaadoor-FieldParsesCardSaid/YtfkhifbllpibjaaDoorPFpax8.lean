-- Written by a program of this session (gprint.py) over the kit's print.
import Derived.Test.YtfkhifbllpibjaaDoorPFpax0
import Derived.Test.YtfkhifbllpibjaaDoorPFpax5
import Derived.Test.YtfkhifbllpibjaaDoorPFpax6
import Derived.Test.YtfkhifbllpibjaaDoorPFpax7
namespace Go.Proofs.YtfkhifbllpibjaaDoor.PFpa
open Go.RowKit Go.Proofs.YtfkhifbllpibjaaDoorW.PrintWords Go.Proofs.YtfkhifbllpibjaaDoorW.PrintLast Go.Proofs.YtfkhifbllpibjaaDoorW.PrintMore
attribute [local go_sem] max2_int min2_int max_two min_two max_three min_three max_four min_four   -- for this text's walks alone
set_option linter.unusedVariables false
set_option linter.unusedSimpArgs false

/-! ### complineref18_Item: function 33 -/
mutual
def complineref18_Item.j0 : Nat → Int → List ByteArray → List ByteArray → Bool → Option (Int × Int × Int × Int)
  | 0, _, _, _, _ => none
  | k + 1, x1, x6, x7, x30 => if x30 = true then (some (0, 0, 0, 2)) else (if (x6.length : Int) = 2 then (if 0 < (x6.length : Int) then (if (rdOf ByteArray.empty x6 0).toList = ([42] : List UInt8) then (complineref18_Item.j1 k x1 x6 x7 false) else (complineref18_Item.j1 k x1 x6 x7 (decide ((x7.length : Int) < 2)))) else (none)) else (complineref18_Item.j1 k x1 x6 x7 false))
def complineref18_Item.j1 : Nat → Int → List ByteArray → List ByteArray → Bool → Option (Int × Int × Int × Int)
  | 0, _, _, _, _ => none
  | k + 1, x1, x6, x7, x45 => if x45 = true then (some (0, 0, 0, 2)) else ((complineref17_Limits.f x1).bind fun bt159 => (if bt159.2.2 = 0 then (if 0 < (x6.length : Int) then (if (rdOf ByteArray.empty x6 0).toList = ([42] : List UInt8) then (complineref18_Item.j2 k x6 bt159.1 bt159.2.1 1) else (if 0 < (x7.length : Int) then ((complineref17_Value.f k (rdOf ByteArray.empty x7 0) x1).bind fun bt165 => (if bt165.2 = 0 then (if (x7.length : Int) = 2 then (if 1 < (x7.length : Int) then ((complineref17_Value.f k (rdOf ByteArray.empty x7 1) x1).bind fun bt168 => (if bt168.2 = 0 then (if bt168.1 < bt165.1 then (some (0, 0, 0, 12)) else (complineref18_Item.j2 k x6 bt165.1 bt168.1 1)) else (some (0, 0, 0, bt168.2)))) else (none)) else (if bt165.1 < bt165.1 then (some (0, 0, 0, 12)) else (complineref18_Item.j2 k x6 bt165.1 bt165.1 1))) else (some (0, 0, 0, bt165.2)))) else (none))) else (none)) else (some (0, 0, 0, bt159.2.2))))
def complineref18_Item.j2 : Nat → List ByteArray → Int → Int → Int → Option (Int × Int × Int × Int)
  | 0, _, _, _, _ => none
  | k + 1, x6, x163000, x163001, x163002 => if (x6.length : Int) = 2 then (if 1 < (x6.length : Int) then ((complineref17_Number.f k (rdOf ByteArray.empty x6 1)).bind fun bt171 => (if bt171.2 = 0 then (if bt171.1 = 0 then (some (0, 0, 0, 1)) else (some (x163000, x163001, bt171.1, 0))) else (some (0, 0, 0, bt171.2)))) else (none)) else (some (x163000, x163001, x163002, 0))
end
def complineref18_Item.f (k : Nat) (a0 : ByteArray) (a1 : Int) : Option (Int × Int × Int × Int) := (complineref18_Split.f k a0 47).bind fun t151 => (if 0 < (t151.length : Int) then ((complineref18_Split.f k (rdOf ByteArray.empty t151 0) 45).bind fun t155 => (if (t151.length : Int) > 2 then (complineref18_Item.j0 k a1 t151 t155 true) else (complineref18_Item.j0 k a1 t151 t155 (decide ((t155.length : Int) > 2))))) else (none))
theorem complineref18_Item.mono_l : ∀ k, (∀ y0 y1 y2 y3, LeO (complineref18_Item.j0 k y0 y1 y2 y3) (complineref18_Item.j0 (k + 1) y0 y1 y2 y3)) ∧ (∀ y0 y1 y2 y3, LeO (complineref18_Item.j1 k y0 y1 y2 y3) (complineref18_Item.j1 (k + 1) y0 y1 y2 y3)) ∧ (∀ y0 y1 y2 y3, LeO (complineref18_Item.j2 k y0 y1 y2 y3) (complineref18_Item.j2 (k + 1) y0 y1 y2 y3))
  | 0 => ⟨fun _ _ _ _ r h => by simp [complineref18_Item.j0] at h, fun _ _ _ _ r h => by simp [complineref18_Item.j1] at h, fun _ _ _ _ r h => by simp [complineref18_Item.j2] at h⟩
  | k + 1 => by
    obtain ⟨ih0, ih1, ih2⟩ := complineref18_Item.mono_l k
    refine ⟨?_, ?_, ?_⟩
    · intro y0 y1 y2 y3
      unfold complineref18_Item.j0
      repeat' first
      | (with_reducible exact ih0 _ _ _ _)
      | (with_reducible exact ih1 _ _ _ _)
      | (with_reducible exact ih2 _ _ _ _)
      | (with_reducible exact complineref17_Number.mono _ _)
      | (with_reducible exact complineref17_Value.mono _ _ _)
      | (with_reducible exact complineref18_Split.mono _ _ _)
      | (with_reducible exact LeO.refl _)
      | (with_reducible exact LeO.none _)
      | (with_reducible refine LeO.ite ?_ ?_)
      | (with_reducible refine LeO.bind ?_ (fun _ => ?_))
      | exact ih0 _ _ _ _
      | exact ih1 _ _ _ _
      | exact ih2 _ _ _ _
      | exact complineref17_Number.mono _ _
      | exact complineref17_Value.mono _ _ _
      | exact complineref18_Split.mono _ _ _
      | exact LeO.none _
      | refine LeO.ite ?_ ?_
      | refine LeO.bind ?_ (fun _ => ?_)
    · intro y0 y1 y2 y3
      unfold complineref18_Item.j1
      repeat' first
      | (with_reducible exact ih0 _ _ _ _)
      | (with_reducible exact ih1 _ _ _ _)
      | (with_reducible exact ih2 _ _ _ _)
      | (with_reducible exact complineref17_Number.mono _ _)
      | (with_reducible exact complineref17_Value.mono _ _ _)
      | (with_reducible exact complineref18_Split.mono _ _ _)
      | (with_reducible exact LeO.refl _)
      | (with_reducible exact LeO.none _)
      | (with_reducible refine LeO.ite ?_ ?_)
      | (with_reducible refine LeO.bind ?_ (fun _ => ?_))
      | exact ih0 _ _ _ _
      | exact ih1 _ _ _ _
      | exact ih2 _ _ _ _
      | exact complineref17_Number.mono _ _
      | exact complineref17_Value.mono _ _ _
      | exact complineref18_Split.mono _ _ _
      | exact LeO.none _
      | refine LeO.ite ?_ ?_
      | refine LeO.bind ?_ (fun _ => ?_)
    · intro y0 y1 y2 y3
      unfold complineref18_Item.j2
      repeat' first
      | (with_reducible exact ih0 _ _ _ _)
      | (with_reducible exact ih1 _ _ _ _)
      | (with_reducible exact ih2 _ _ _ _)
      | (with_reducible exact complineref17_Number.mono _ _)
      | (with_reducible exact complineref17_Value.mono _ _ _)
      | (with_reducible exact complineref18_Split.mono _ _ _)
      | (with_reducible exact LeO.refl _)
      | (with_reducible exact LeO.none _)
      | (with_reducible refine LeO.ite ?_ ?_)
      | (with_reducible refine LeO.bind ?_ (fun _ => ?_))
      | exact ih0 _ _ _ _
      | exact ih1 _ _ _ _
      | exact ih2 _ _ _ _
      | exact complineref17_Number.mono _ _
      | exact complineref17_Value.mono _ _ _
      | exact complineref18_Split.mono _ _ _
      | exact LeO.none _
      | refine LeO.ite ?_ ?_
      | refine LeO.bind ?_ (fun _ => ?_)
theorem complineref18_Item.mono : ∀ a0 a1 k, LeO (complineref18_Item.f k a0 a1) (complineref18_Item.f (k + 1) a0 a1) := by
  intro a0 a1 k
  obtain ⟨ih0, ih1, ih2⟩ := complineref18_Item.mono_l k
  unfold complineref18_Item.f
  repeat' first
      | (with_reducible exact ih0 _ _ _ _)
      | (with_reducible exact ih1 _ _ _ _)
      | (with_reducible exact ih2 _ _ _ _)
      | (with_reducible exact complineref17_Number.mono _ _)
      | (with_reducible exact complineref17_Value.mono _ _ _)
      | (with_reducible exact complineref18_Split.mono _ _ _)
      | (with_reducible exact LeO.refl _)
      | (with_reducible exact LeO.none _)
      | (with_reducible refine LeO.ite ?_ ?_)
      | (with_reducible refine LeO.bind ?_ (fun _ => ?_))
      | exact ih0 _ _ _ _
      | exact ih1 _ _ _ _
      | exact ih2 _ _ _ _
      | exact complineref17_Number.mono _ _
      | exact complineref17_Value.mono _ _ _
      | exact complineref18_Split.mono _ _ _
      | exact LeO.none _
      | refine LeO.ite ?_ ?_
      | refine LeO.bind ?_ (fun _ => ?_)
set_option maxHeartbeats 8000000 in
set_option maxRecDepth 100000 in
theorem complineref18_Item.calls (k : Nat) (a0 : ByteArray) (a1 : Int) (r1 : Int) (r2 : Int) (r3 : Int) (r4 : Int) (w : World) (h : complineref18_Item.f k a0 a1 = some (r1, r2, r3, r4)) :
    Calls Tryd.prog 33 #[.string a0, .int .i64 a1] w fun e w' => e = .returned (.tuple #[.agg #[.int .i64 r1, .int .i64 r2, .int .i64 r3], .int .i64 r4]) ∧ Below w.heap.size w w' := by
  have hu61 := Tryd.underlying61
  have HB := Aside0.mk (Below.refl w.heap.size w)
  have H : ((complineref18_Split.f k a0 47).bind fun t151 => (if 0 < (t151.length : Int) then ((complineref18_Split.f k (rdOf ByteArray.empty t151 0) 45).bind fun t155 => (if (t151.length : Int) > 2 then (complineref18_Item.j0 k a1 t151 t155 true) else (complineref18_Item.j0 k a1 t151 t155 (decide ((t155.length : Int) > 2))))) else (none))) = some (r1, r2, r3, r4) := h
  clear h
  replace H := Option.bind_eq_some_iff.mp H
  obtain ⟨t151, A30, H⟩ := H
  replace H : (if 0 < (t151.length : Int) then ((complineref18_Split.f k (rdOf ByteArray.empty t151 0) 45).bind fun t155 => (if (t151.length : Int) > 2 then (complineref18_Item.j0 k a1 t151 t155 true) else (complineref18_Item.j0 k a1 t151 t155 (decide ((t155.length : Int) > 2))))) else (none)) = some (r1, r2, r3, r4) := H
  have A3 := Aside0.mk A30
  clear A30
  by_cases c4 : 0 < (t151.length : Int)
  · rw [if_pos c4] at H
    have c4b0 : decide (0 < (t151.length : Int)) = true := decide_eq_true c4
    have c4b1 : decide (0 < t151.length) = true := decide_eq_true (by omega)
    clear c4
    replace H := Option.bind_eq_some_iff.mp H
    obtain ⟨t155, A50, H⟩ := H
    replace H : (if (t151.length : Int) > 2 then (complineref18_Item.j0 k a1 t151 t155 true) else (complineref18_Item.j0 k a1 t151 t155 (decide ((t155.length : Int) > 2)))) = some (r1, r2, r3, r4) := H
    have A5 := Aside0.mk A50
    clear A50
    have HC6 := Aside0.mk H
    clear H
    go_enter Tryd.func33, Tryd.ntmps33
    go_upto_region 3 with (first | ((with_reducible refine gate_dst (N := 4) rfl ?_); (try (refine gate_guard (by rfl) ?_; dsimp only)); refine box_event ?hg (N := 4) ?hd (cs := #[.int .i64 0, .int .i64 0, .int .i64 0]) (t := 61) ?hr ?_; (case hd => rfl); (case hg => rfl); (case hr => first | (go_simp; done) | (go_simp; rfl)); intro gb150 hg w7 hbox hb; have n0_ := Aside0.mk (below_step (by repeat (first | (with_reducible first | exact HB.out | apply below_alloc | apply pw_below_drewN | apply below_drew1) | exact HB.out)) hb); have n1_ := Aside0.mk (hbox); have n2_ := Aside0.mk ((by rw [hg]; exact (below_size (by repeat (first | (with_reducible first | exact HB.out | apply below_alloc | apply pw_below_drewN | apply below_drew1) | exact HB.out))) : w.heap.size ≤ gb150)); have n3_ := Aside0.mk ((by rw [hg]; exact (below_size (by repeat (first | (with_reducible first | exact HB.out | apply below_alloc | apply pw_below_drewN | apply below_drew1) | exact HB.out))) : w.heap.size ≤ gb150)); clear HB; have HB := n0_; have BK150 := n1_; have GW150 := n2_; have GE150 := n3_; clear n0_ n1_ n2_ n3_; clear hb hbox hg) | ((with_reducible refine gate_callee (f := 32) rfl ?_); refine goesL_ (some 18) rfl rfl Tryd.func32 (by kernel_rfl) rfl #[.string a0, .int .u8 47] rfl (by (try simp only [List.map_toArray, List.map_cons, List.map_nil]); first | done | rfl | (simp only [List.length_drop, List.length_take]; rfl)) ?_; (with_reducible refine (complineref18_Split.calls k a0 47 t151 _ A3.out).mono ?_); rintro e w8 ⟨v152, rfl, ho0, hb⟩; refine ⟨_, rfl, ?_⟩; have n0_ := Aside0.mk (Kd.R_lower ho0 (below_size (by repeat (first | (with_reducible first | exact HB.out | apply below_alloc | apply pw_below_drewN | apply below_drew1 | refine below_set ?_ GE150.out) | exact HB.out)))); have n1_ := Aside0.mk (blk_below (g := gb150) (o := .cells #[.int .i64 0, .int .i64 0, .int .i64 0] 61 (0, 0)) (by (with_reducible repeat (first | refine blk_drewN ?_ _ | refine blk_drew ?_ | refine blk_alloc ?_ _)); exact BK150.out) hb); have n2_ := Aside0.mk (below_step (by repeat (first | (with_reducible first | exact HB.out | apply below_alloc | apply pw_below_drewN | apply below_drew1 | refine below_set ?_ GE150.out) | exact HB.out)) hb); clear BK150; clear HB; have HO153 := n0_; have BK150 := n1_; have HB := n2_; clear n0_ n1_ n2_; (try clear hb); (try clear hb2); (try clear hk); (try clear hi); (try clear ho0); obtain ⟨Ao9, co9, eo9⟩ := Kd.R_slice HO153.out; subst eo9; have p154 : 0 ≤ (0 : Int) := (by omega); have q154 : 0 < (t151.length : Int) := of_decide_eq_true (by first | (with_reducible assumption) | assumption); obtain ⟨ad154, e154, hx154_0⟩ := Kd.at_string (Kd.R_reads' HO153.out).2.2 0 p154 q154; cases e154; have qi154 : (0 < t151.length) = True := eq_true (by omega); (try rw [show ((0 : Int)).toNat = 0 from rfl] at hx154_0); (try rw [Addr.add_zero'] at hx154_0); replace p154 := eq_true p154; replace q154 := eq_true q154) | ((with_reducible refine gate_callee (f := 32) rfl ?_); refine goesL_ (some 22) rfl rfl Tryd.func32 (by kernel_rfl) rfl #[.string (rdOf ByteArray.empty t151 0), .int .u8 45] rfl (by (try simp only [List.map_toArray, List.map_cons, List.map_nil]); first | done | rfl | (simp only [List.length_drop, List.length_take]; rfl)) ?_; (with_reducible refine (complineref18_Split.calls k (rdOf ByteArray.empty t151 0) 45 t155 _ A5.out).mono ?_); rintro e w10 ⟨v156, rfl, ho0, hb⟩; refine ⟨_, rfl, ?_⟩; have n0_ := Aside0.mk (Kd.R_elder' (by (with_reducible repeat (first | apply Kd.R_alloc | apply Kd.R_drewN | apply Kd.R_drew)); exact HO153.out) (Kd.R_base ho0) hb); have n1_ := Aside0.mk (Kd.R_lower (Kd.R_new' ho0 (Kd.R_lt (by (with_reducible repeat (first | apply Kd.R_alloc | apply Kd.R_drewN | apply Kd.R_drew)); exact HO153.out))) (below_size (by repeat (first | (with_reducible first | exact HB.out | apply below_alloc | apply pw_below_drewN | apply below_drew1 | refine below_set ?_ GE150.out) | exact HB.out)))); have n2_ := Aside0.mk (blk_below (g := gb150) (o := .cells #[.int .i64 0, .int .i64 0, .int .i64 0] 61 (0, 0)) (by (with_reducible repeat (first | refine blk_drewN ?_ _ | refine blk_drew ?_ | refine blk_alloc ?_ _)); exact BK150.out) hb); have n3_ := Aside0.mk (below_step (by repeat (first | (with_reducible first | exact HB.out | apply below_alloc | apply pw_below_drewN | apply below_drew1 | refine below_set ?_ GE150.out) | exact HB.out)) hb); clear HO153; clear BK150; clear HB; have HO153 := n0_; have HO157 := n1_; have BK150 := n2_; have HB := n3_; clear n0_ n1_ n2_ n3_; (try clear hb); (try clear hb2); (try clear hk); (try clear hi); (try clear ho0)))
    (try simp only [Act.put, List.setIfInBounds_toArray, List.set_cons_zero, List.set_cons_succ])
    go_cut [30] (fun v30 wc => ∃ (kq : Nat) (x30_5 : Bool), v30 = .bool x30_5 ∧ Aside0 (complineref18_Item.j0 kq a1 t151 t155 x30_5 = some (r1, r2, r3, r4)) ∧ Aside0 (kq ≤ k) ∧ Aside0 (Kd.R Kd.string 9 wc w.heap.size (fun k_ => some k_ ≠ (v156 : Value).ownBlock) (.slice (some ad154) t151.length co9) t151) ∧ Aside0 (Kd.R Kd.string 9 wc w.heap.size (fun k_ => some k_ ≠ ((.slice (some ad154) t151.length co9) : Value).ownBlock) v156 t155) ∧ Aside0 (wc.heap[gb150]? = some (.cells #[.int .i64 0, .int .i64 0, .int .i64 0] 61 (0, 0))) ∧ Aside0 (Below w.heap.size w wc))
    case first =>
      have H := HC6.out
      clear HC6
      by_cases c11 : (t151.length : Int) > 2
      · rw [if_pos c11] at H
        have c11b0 : decide (2 < (t151.length : Int)) = true := decide_eq_true c11
        have c11b1 : decide (2 < t151.length) = true := decide_eq_true (by omega)
        clear c11
        (first | rw [c11b0] | (simp only [i64_w, i32_w]; rw [c11b0]) | skip)
        have H' := Aside0.mk H
        clear H
        go_wp2
        go_meet
        case rel => exact ⟨_, (true), (by first | rfl | (simp; done) | (simp [*]; done)), H', ⟨by first | omega | exact Nat.le_refl _⟩, ⟨by (with_reducible repeat (first | apply Kd.R_alloc | apply Kd.R_drewN | apply Kd.R_drew)); exact Kd.R_mono HO153.out (fun _ hk => hk.2)⟩, ⟨by (with_reducible repeat (first | apply Kd.R_alloc | apply Kd.R_drewN | apply Kd.R_drew)); exact Kd.R_mono HO157.out (fun _ hk => hk.2)⟩, ⟨by (with_reducible repeat (first | refine blk_drewN ?_ _ | refine blk_drew ?_ | refine blk_alloc ?_ _)); exact BK150.out⟩, ⟨by repeat (first | (with_reducible first | exact HB.out | apply below_alloc | apply pw_below_drewN | apply below_drew1 | refine below_set ?_ GE150.out) | exact HB.out)⟩⟩
      · rw [if_neg c11] at H
        have c11b0 : decide (2 < (t151.length : Int)) = false := decide_eq_false c11
        have c11b1 : decide (2 < t151.length) = false := decide_eq_false (by omega)
        clear c11
        (first | rw [c11b0] | (simp only [i64_w, i32_w]; rw [c11b0]) | skip)
        have H' := Aside0.mk H
        clear H
        obtain ⟨Ao12, co12, eo12⟩ := Kd.R_slice HO157.out
        subst eo12
        go_wp2
        go_meet
        case rel => exact ⟨_, (decide ((t155.length : Int) > 2)), (by first | rfl | (simp; done) | (simp [*]; done)), H', ⟨by first | omega | exact Nat.le_refl _⟩, ⟨by (with_reducible repeat (first | apply Kd.R_alloc | apply Kd.R_drewN | apply Kd.R_drew)); exact Kd.R_mono HO153.out (fun _ hk => hk.2)⟩, ⟨by (with_reducible repeat (first | apply Kd.R_alloc | apply Kd.R_drewN | apply Kd.R_drew)); exact Kd.R_mono HO157.out (fun _ hk => hk.2)⟩, ⟨by (with_reducible repeat (first | refine blk_drewN ?_ _ | refine blk_drew ?_ | refine blk_alloc ?_ _)); exact BK150.out⟩, ⟨by repeat (first | (with_reducible first | exact HB.out | apply below_alloc | apply pw_below_drewN | apply below_drew1 | refine below_set ?_ GE150.out) | exact HB.out)⟩⟩
    case rest =>
      clear HC6
      try clear c1
      try clear p1
      try clear q1
      try clear hx1
      try clear qi1
      try clear p2
      try clear c3
      try clear c4
      try clear c4b0
      try clear c4b1
      try clear c11
      try clear c11b0
      try clear c11b1
      try clear hx154_0
      try clear p154
      try clear q154
      obtain ⟨kq, x30_5, rfl, HA, HJ5, HO_6, HO_7, BK150, HB⟩ := hcut
      cases kq with
      | zero => exact absurd HA.out (by simp [complineref18_Item.j0])
      | succ kj5 =>
        have H := HA.out
        clear HA
        simp only [complineref18_Item.j0] at H
        by_cases c13 : x30_5 = true
        · subst c13
          have H1 : (some (0, 0, 0, 2)) = some (r1, r2, r3, r4) := by rw [if_pos rfl] at H; exact H
          clear H
          have H := H1
          clear H1
          simp only [Option.some.injEq, Prod.mk.injEq] at H
          obtain ⟨rfl, rfl, rfl, rfl⟩ := H
          have hcz14_0 : wc.cell? ⟨gb150, 0, none⟩ = some (.int .i64 0) := (blk_cell BK150.out 0).trans rfl
          have hcz14_1 : wc.cell? ⟨gb150, 1, none⟩ = some (.int .i64 0) := (blk_cell BK150.out 1).trans rfl
          have hcz14_2 : wc.cell? ⟨gb150, 2, none⟩ = some (.int .i64 0) := (blk_cell BK150.out 2).trans rfl
          have hfz14_0 := blk_frozen BK150.out 0
          have hfz14_1 := blk_frozen BK150.out 1
          have hfz14_2 := blk_frozen BK150.out 2
          go_wp2
          refine bodyPost_ret (results_ct rfl _ _ gb150 61 #[.int .i64 0, .int .i64 0, .int .i64 0] (0, 0) _ rfl (by (with_reducible repeat (first | refine blk_drewN ?_ _ | refine blk_drew ?_ | refine blk_alloc ?_ _)); refine blk_put (cs := #[.int .i64 0, .int .i64 0, .int .i64 0]) ?_ 2 _ rfl; (with_reducible repeat (first | refine blk_drewN ?_ _ | refine blk_drew ?_ | refine blk_alloc ?_ _)); refine blk_put (cs := #[.int .i64 0, .int .i64 0, .int .i64 0]) ?_ 1 _ rfl; (with_reducible repeat (first | refine blk_drewN ?_ _ | refine blk_drew ?_ | refine blk_alloc ?_ _)); refine blk_put (cs := #[.int .i64 0, .int .i64 0, .int .i64 0]) ?_ 0 _ rfl; (with_reducible repeat (first | refine blk_drewN ?_ _ | refine blk_drew ?_ | refine blk_alloc ?_ _)); exact BK150.out) Tryd.underlying61 rfl (by kernel_rfl)) rfl ?_
          exact ⟨by first | rfl | (simp [errW_none, errW_some] <;> rfl) | (simp [*, errW_none, errW_some] <;> rfl), by repeat (first | (with_reducible first | exact HB.out | apply below_alloc | apply pw_below_drewN | apply below_drew1 | refine below_set ?_ GE150.out) | exact HB.out)⟩
        · replace c13 := Bool.eq_false_iff.mpr c13
          subst c13
          have H1 : (if (t151.length : Int) = 2 then (if 0 < (t151.length : Int) then (if (rdOf ByteArray.empty t151 0).toList = ([42] : List UInt8) then (complineref18_Item.j1 kj5 a1 t151 t155 false) else (complineref18_Item.j1 kj5 a1 t151 t155 (decide ((t155.length : Int) < 2)))) else (none)) else (complineref18_Item.j1 kj5 a1 t151 t155 false)) = some (r1, r2, r3, r4) := by rw [if_neg (show ¬ (false = true) by decide)] at H; exact H
          clear H
          have H := H1
          clear H1
          have HC15 := Aside0.mk H
          clear H
          go_upto_region 5 with (fail)
          go_cut [45] (fun v45 wc => ∃ (kq : Nat) (x45_14 : Bool), v45 = .bool x45_14 ∧ Aside0 (complineref18_Item.j1 kq a1 t151 t155 x45_14 = some (r1, r2, r3, r4)) ∧ Aside0 (kq ≤ kj5) ∧ Aside0 (Kd.R Kd.string 9 wc w.heap.size (fun k_ => some k_ ≠ (v156 : Value).ownBlock) (.slice (some ad154) t151.length co9) t151) ∧ Aside0 (Kd.R Kd.string 9 wc w.heap.size (fun k_ => some k_ ≠ ((.slice (some ad154) t151.length co9) : Value).ownBlock) v156 t155) ∧ Aside0 (wc.heap[gb150]? = some (.cells #[.int .i64 0, .int .i64 0, .int .i64 0] 61 (0, 0))) ∧ Aside0 (Below w.heap.size w wc))
          case first =>
            have H := HC15.out
            clear HC15
            by_cases c16 : (t151.length : Int) = 2
            · rw [if_pos c16] at H
              have c16b0 : ((t151.length : Int) == 2) = true := beq_iff_eq.mpr c16
              have c16b1 : ((t151.length : Int) != 2) = false := bne_eq_false_iff_eq.mpr c16
              clear c16
              (first | rw [c16b0] | (simp only [i64_w, i32_w]; rw [c16b0]) | skip)
              by_cases c17 : 0 < (t151.length : Int)
              · rw [if_pos c17] at H
                have c17b0 : decide (0 < (t151.length : Int)) = true := decide_eq_true c17
                have c17b1 : decide (0 < t151.length) = true := decide_eq_true (by omega)
                clear c17
                by_cases c18 : (rdOf ByteArray.empty t151 0).toList = ([42] : List UInt8)
                · rw [if_pos c18] at H
                  have c18b0 : ((rdOf ByteArray.empty t151 0).toList == ([42] : List UInt8)) = true := beq_iff_eq.mpr c18
                  have c18b1 : ((rdOf ByteArray.empty t151 0).toList != ([42] : List UInt8)) = false := bne_eq_false_iff_eq.mpr c18
                  clear c18
                  have H' := Aside0.mk H
                  clear H
                  have p158 : 0 ≤ (0 : Int) := (by omega)
                  have q158 : 0 < (t151.length : Int) := of_decide_eq_true (by first | (with_reducible assumption) | assumption)
                  obtain ⟨ad158, e158, hx158_0⟩ := Kd.at_string (Kd.R_reads' HO_6.out).2.2 0 p158 q158
                  obtain rfl : ad154 = ad158 := (by injection e158)
                  have qi158 : (0 < t151.length) = True := eq_true (by omega)
                  (try rw [show ((0 : Int)).toNat = 0 from rfl] at hx158_0)
                  (try rw [Addr.add_zero'] at hx158_0)
                  replace p158 := eq_true p158
                  replace q158 := eq_true q158
                  go_wp2
                  go_meet
                  case rel => exact ⟨_, (false), (by first | rfl | (simp; done) | (simp [*]; done)), H', ⟨by have := HJ5.out; first | omega | exact Nat.le_refl _⟩, ⟨by (with_reducible repeat (first | apply Kd.R_alloc | apply Kd.R_drewN | apply Kd.R_drew)); exact HO_6.out⟩, ⟨by (with_reducible repeat (first | apply Kd.R_alloc | apply Kd.R_drewN | apply Kd.R_drew)); exact HO_7.out⟩, ⟨by (with_reducible repeat (first | refine blk_drewN ?_ _ | refine blk_drew ?_ | refine blk_alloc ?_ _)); exact BK150.out⟩, ⟨by repeat (first | (with_reducible first | exact HB.out | apply below_alloc | apply pw_below_drewN | apply below_drew1 | refine below_set ?_ GE150.out) | exact HB.out)⟩⟩
                · rw [if_neg c18] at H
                  have c18b0 : ((rdOf ByteArray.empty t151 0).toList == ([42] : List UInt8)) = false := beq_eq_false_iff_ne.mpr c18
                  have c18b1 : ((rdOf ByteArray.empty t151 0).toList != ([42] : List UInt8)) = true := bne_iff_ne.mpr c18
                  have H' := Aside0.mk H
                  clear H
                  have p158 : 0 ≤ (0 : Int) := (by omega)
                  have q158 : 0 < (t151.length : Int) := of_decide_eq_true (by first | (with_reducible assumption) | assumption)
                  obtain ⟨ad158, e158, hx158_0⟩ := Kd.at_string (Kd.R_reads' HO_6.out).2.2 0 p158 q158
                  obtain rfl : ad154 = ad158 := (by injection e158)
                  have qi158 : (0 < t151.length) = True := eq_true (by omega)
                  (try rw [show ((0 : Int)).toNat = 0 from rfl] at hx158_0)
                  (try rw [Addr.add_zero'] at hx158_0)
                  replace p158 := eq_true p158
                  replace q158 := eq_true q158
                  obtain ⟨Ao19, co19, eo19⟩ := Kd.R_slice HO_7.out
                  subst eo19
                  go_wp2
                  go_meet
                  case rel => exact ⟨_, (decide ((t155.length : Int) < 2)), (by first | rfl | (simp; done) | (simp [*]; done)), H', ⟨by have := HJ5.out; first | omega | exact Nat.le_refl _⟩, ⟨by (with_reducible repeat (first | apply Kd.R_alloc | apply Kd.R_drewN | apply Kd.R_drew)); exact HO_6.out⟩, ⟨by (with_reducible repeat (first | apply Kd.R_alloc | apply Kd.R_drewN | apply Kd.R_drew)); exact HO_7.out⟩, ⟨by (with_reducible repeat (first | refine blk_drewN ?_ _ | refine blk_drew ?_ | refine blk_alloc ?_ _)); exact BK150.out⟩, ⟨by repeat (first | (with_reducible first | exact HB.out | apply below_alloc | apply pw_below_drewN | apply below_drew1 | refine below_set ?_ GE150.out) | exact HB.out)⟩⟩
              · rw [if_neg c17] at H
                exact absurd H (by simp)
            · rw [if_neg c16] at H
              have c16b0 : ((t151.length : Int) == 2) = false := beq_eq_false_iff_ne.mpr c16
              have c16b1 : ((t151.length : Int) != 2) = true := bne_iff_ne.mpr c16
              (first | rw [c16b0] | (simp only [i64_w, i32_w]; rw [c16b0]) | skip)
              have H' := Aside0.mk H
              clear H
              go_wp2
              go_meet
              case rel => exact ⟨_, (false), (by first | rfl | (simp; done) | (simp [*]; done)), H', ⟨by have := HJ5.out; first | omega | exact Nat.le_refl _⟩, ⟨by (with_reducible repeat (first | apply Kd.R_alloc | apply Kd.R_drewN | apply Kd.R_drew)); exact HO_6.out⟩, ⟨by (with_reducible repeat (first | apply Kd.R_alloc | apply Kd.R_drewN | apply Kd.R_drew)); exact HO_7.out⟩, ⟨by (with_reducible repeat (first | refine blk_drewN ?_ _ | refine blk_drew ?_ | refine blk_alloc ?_ _)); exact BK150.out⟩, ⟨by repeat (first | (with_reducible first | exact HB.out | apply below_alloc | apply pw_below_drewN | apply below_drew1 | refine below_set ?_ GE150.out) | exact HB.out)⟩⟩
          case rest =>
            clear HC15
            try clear c1
            try clear p1
            try clear q1
            try clear hx1
            try clear qi1
            try clear p2
            try clear c3
            try clear c4
            try clear c4b0
            try clear c4b1
            try clear c11
            try clear c11b0
            try clear c11b1
            try clear c13
            try clear p15
            try clear q15
            try clear hx15
            try clear qi15
            try clear c16
            try clear c16b0
            try clear c16b1
            try clear c17
            try clear c17b0
            try clear c17b1
            try clear c18
            try clear c18b0
            try clear c18b1
            try clear hcz14_0
            try clear hcz14_1
            try clear hcz14_2
            try clear hfz14_0
            try clear hfz14_1
            try clear hfz14_2
            try clear hx154_0
            try clear hx158_0
            try clear p1
            try clear p154
            try clear p158
            try clear p2
            try clear q1
            try clear q154
            try clear q158
            obtain ⟨kq, x45_14, rfl, HA, HJ14, HO_6, HO_7, BK150, HB⟩ := hcut
            cases kq with
            | zero => exact absurd HA.out (by simp [complineref18_Item.j1])
            | succ kj14 =>
              have H := HA.out
              clear HA
              simp only [complineref18_Item.j1] at H
              by_cases c20 : x45_14 = true
              · subst c20
                have H1 : (some (0, 0, 0, 2)) = some (r1, r2, r3, r4) := by rw [if_pos rfl] at H; exact H
                clear H
                have H := H1
                clear H1
                simp only [Option.some.injEq, Prod.mk.injEq] at H
                obtain ⟨rfl, rfl, rfl, rfl⟩ := H
                have hcz21_0 : wc.cell? ⟨gb150, 0, none⟩ = some (.int .i64 0) := (blk_cell BK150.out 0).trans rfl
                have hcz21_1 : wc.cell? ⟨gb150, 1, none⟩ = some (.int .i64 0) := (blk_cell BK150.out 1).trans rfl
                have hcz21_2 : wc.cell? ⟨gb150, 2, none⟩ = some (.int .i64 0) := (blk_cell BK150.out 2).trans rfl
                have hfz21_0 := blk_frozen BK150.out 0
                have hfz21_1 := blk_frozen BK150.out 1
                have hfz21_2 := blk_frozen BK150.out 2
                go_wp2
                refine bodyPost_ret (results_ct rfl _ _ gb150 61 #[.int .i64 0, .int .i64 0, .int .i64 0] (0, 0) _ rfl (by (with_reducible repeat (first | refine blk_drewN ?_ _ | refine blk_drew ?_ | refine blk_alloc ?_ _)); refine blk_put (cs := #[.int .i64 0, .int .i64 0, .int .i64 0]) ?_ 2 _ rfl; (with_reducible repeat (first | refine blk_drewN ?_ _ | refine blk_drew ?_ | refine blk_alloc ?_ _)); refine blk_put (cs := #[.int .i64 0, .int .i64 0, .int .i64 0]) ?_ 1 _ rfl; (with_reducible repeat (first | refine blk_drewN ?_ _ | refine blk_drew ?_ | refine blk_alloc ?_ _)); refine blk_put (cs := #[.int .i64 0, .int .i64 0, .int .i64 0]) ?_ 0 _ rfl; (with_reducible repeat (first | refine blk_drewN ?_ _ | refine blk_drew ?_ | refine blk_alloc ?_ _)); exact BK150.out) Tryd.underlying61 rfl (by kernel_rfl)) rfl ?_
                exact ⟨by first | rfl | (simp [errW_none, errW_some] <;> rfl) | (simp [*, errW_none, errW_some] <;> rfl), by repeat (first | (with_reducible first | exact HB.out | apply below_alloc | apply pw_below_drewN | apply below_drew1 | refine below_set ?_ GE150.out) | exact HB.out)⟩
              · replace c20 := Bool.eq_false_iff.mpr c20
                subst c20
                have H1 : ((complineref17_Limits.f a1).bind fun bt159 => (if bt159.2.2 = 0 then (if 0 < (t151.length : Int) then (if (rdOf ByteArray.empty t151 0).toList = ([42] : List UInt8) then (complineref18_Item.j2 kj14 t151 bt159.1 bt159.2.1 1) else (if 0 < (t155.length : Int) then ((complineref17_Value.f kj14 (rdOf ByteArray.empty t155 0) a1).bind fun bt165 => (if bt165.2 = 0 then (if (t155.length : Int) = 2 then (if 1 < (t155.length : Int) then ((complineref17_Value.f kj14 (rdOf ByteArray.empty t155 1) a1).bind fun bt168 => (if bt168.2 = 0 then (if bt168.1 < bt165.1 then (some (0, 0, 0, 12)) else (complineref18_Item.j2 kj14 t151 bt165.1 bt168.1 1)) else (some (0, 0, 0, bt168.2)))) else (none)) else (if bt165.1 < bt165.1 then (some (0, 0, 0, 12)) else (complineref18_Item.j2 kj14 t151 bt165.1 bt165.1 1))) else (some (0, 0, 0, bt165.2)))) else (none))) else (none)) else (some (0, 0, 0, bt159.2.2)))) = some (r1, r2, r3, r4) := by rw [if_neg (show ¬ (false = true) by decide)] at H; exact H
                clear H
                have H := H1
                clear H1
                replace H := Option.bind_eq_some_iff.mp H
                obtain ⟨⟨t159, t160, t161⟩, A220, H⟩ := H
                replace H : (if t161 = 0 then (if 0 < (t151.length : Int) then (if (rdOf ByteArray.empty t151 0).toList = ([42] : List UInt8) then (complineref18_Item.j2 kj14 t151 t159 t160 1) else (if 0 < (t155.length : Int) then ((complineref17_Value.f kj14 (rdOf ByteArray.empty t155 0) a1).bind fun bt165 => (if bt165.2 = 0 then (if (t155.length : Int) = 2 then (if 1 < (t155.length : Int) then ((complineref17_Value.f kj14 (rdOf ByteArray.empty t155 1) a1).bind fun bt168 => (if bt168.2 = 0 then (if bt168.1 < bt165.1 then (some (0, 0, 0, 12)) else (complineref18_Item.j2 kj14 t151 bt165.1 bt168.1 1)) else (some (0, 0, 0, bt168.2)))) else (none)) else (if bt165.1 < bt165.1 then (some (0, 0, 0, 12)) else (complineref18_Item.j2 kj14 t151 bt165.1 bt165.1 1))) else (some (0, 0, 0, bt165.2)))) else (none))) else (none)) else (some (0, 0, 0, t161))) = some (r1, r2, r3, r4) := H
                have A22 := Aside0.mk A220
                clear A220
                by_cases c23 : t161 = 0
                · rw [if_pos c23] at H
                  have c23b0 : (t161 == 0) = true := beq_iff_eq.mpr c23
                  have c23b1 : (t161 != 0) = false := bne_eq_false_iff_eq.mpr c23
                  clear c23
                  by_cases c24 : 0 < (t151.length : Int)
                  · rw [if_pos c24] at H
                    have c24b0 : decide (0 < (t151.length : Int)) = true := decide_eq_true c24
                    have c24b1 : decide (0 < t151.length) = true := decide_eq_true (by omega)
                    clear c24
                    have HC25 := Aside0.mk H
                    clear H
                    go_upto_if 63 with (first | ((with_reducible refine gate_callee (f := 49) rfl ?_); refine goesL_ (some 49) rfl rfl Tryd.func49 (by kernel_rfl) rfl #[.int .i64 a1] rfl (by (try simp only [List.map_toArray, List.map_cons, List.map_nil]); first | done | rfl | (simp only [List.length_drop, List.length_take]; rfl)) ?_; (with_reducible refine (complineref17_Limits.calls a1 t159 t160 t161 _ A22.out).mono ?_); rintro e w' ⟨rfl, ⟨nd, rfl⟩⟩; refine ⟨_, rfl, ?_⟩; (try (rw [drewN_self wc]; generalize hq_ : World.drewN wc _ = wc; have n0_ : Aside0 (Kd.R Kd.string 9 wc w.heap.size (fun k_ => some k_ ≠ (v156 : Value).ownBlock) (.slice (some ad154) t151.length co9) t151) := ⟨by rw [← hq_]; exact (by (with_reducible repeat (first | apply Kd.R_alloc | apply Kd.R_drewN | apply Kd.R_drew)); exact HO_6.out)⟩; have n1_ : Aside0 (Kd.R Kd.string 9 wc w.heap.size (fun k_ => some k_ ≠ (.slice (some ad154) t151.length co9 : Value).ownBlock) v156 t155) := ⟨by rw [← hq_]; exact (by (with_reducible repeat (first | apply Kd.R_alloc | apply Kd.R_drewN | apply Kd.R_drew)); exact HO_7.out)⟩; have n2_ : Aside0 (wc.heap[gb150]? = some (.cells #[.int .i64 0, .int .i64 0, .int .i64 0] 61 (0, 0))) := ⟨by rw [← hq_]; exact (by (with_reducible repeat (first | refine blk_drewN ?_ _ | refine blk_drew ?_ | refine blk_alloc ?_ _)); exact BK150.out)⟩; have n3_ : Aside0 (Below w.heap.size w wc) := ⟨by rw [← hq_]; exact (by repeat (first | (with_reducible first | exact HB.out | apply below_alloc | apply pw_below_drewN | apply below_drew1 | refine below_set ?_ GE150.out) | exact HB.out))⟩; clear HO_6 HO_7 BK150 HB hq_; have HO_6 := n0_; have HO_7 := n1_; have BK150 := n2_; have HB := n3_; clear n0_ n1_ n2_ n3_))) | ((with_reducible refine gate_dst (N := 11) rfl ?_); (try (refine gate_guard (by rfl) ?_; dsimp only)); refine box_event ?hg (N := 11) ?hd (cs := #[.int .i64 0, .int .i64 0, .int .i64 0]) (t := 61) ?hr ?_; (case hd => rfl); (case hg => rfl); (case hr => first | (go_simp; done) | (go_simp; rfl)); intro gb162 hg w26 hbox hb; have n0_ := Aside0.mk (Kd.R_below (by (with_reducible repeat (first | apply Kd.R_alloc | apply Kd.R_drewN | apply Kd.R_drew)); exact HO_6.out) hb); have n1_ := Aside0.mk (Kd.R_below (by (with_reducible repeat (first | apply Kd.R_alloc | apply Kd.R_drewN | apply Kd.R_drew)); exact HO_7.out) hb); have n2_ := Aside0.mk (blk_below (g := gb150) (o := .cells #[.int .i64 0, .int .i64 0, .int .i64 0] 61 (0, 0)) (by (with_reducible repeat (first | refine blk_drewN ?_ _ | refine blk_drew ?_ | refine blk_alloc ?_ _)); exact BK150.out) hb); have n3_ := Aside0.mk (below_step (by repeat (first | (with_reducible first | exact HB.out | apply below_alloc | apply pw_below_drewN | apply below_drew1 | refine below_set ?_ GE150.out) | exact HB.out)) hb); have n4_ := Aside0.mk (hbox); have n5_ := Aside0.mk ((by rw [hg]; exact (below_size (by repeat (first | (with_reducible first | exact HB.out | apply below_alloc | apply pw_below_drewN | apply below_drew1 | refine below_set ?_ GE150.out) | exact HB.out))) : w.heap.size ≤ gb162)); have n6_ := Aside0.mk ((by rw [hg]; exact (below_size (by repeat (first | (with_reducible first | exact HB.out | apply below_alloc | apply pw_below_drewN | apply below_drew1 | refine below_set ?_ GE150.out) | exact HB.out))) : w.heap.size ≤ gb162)); have n7_ := Aside0.mk ((by rw [hg]; exact Nat.ne_of_lt (blk_lt (g := gb150) (o := .cells #[.int .i64 0, .int .i64 0, .int .i64 0] 61 (0, 0)) (by (with_reducible repeat (first | refine blk_drewN ?_ _ | refine blk_drew ?_ | refine blk_alloc ?_ _)); exact BK150.out)) : gb150 ≠ gb162)); have n8_ := Aside0.mk ((by rw [hg]; exact Nat.ne_of_gt (blk_lt (g := gb150) (o := .cells #[.int .i64 0, .int .i64 0, .int .i64 0] 61 (0, 0)) (by (with_reducible repeat (first | refine blk_drewN ?_ _ | refine blk_drew ?_ | refine blk_alloc ?_ _)); exact BK150.out)) : gb162 ≠ gb150)); clear HO_6; clear HO_7; clear BK150; clear HB; have HO_6 := n0_; have HO_7 := n1_; have BK150 := n2_; have HB := n3_; have BK162 := n4_; have GW162 := n5_; have GE162 := n6_; have NB150_162 := n7_; have NB162_150 := n8_; clear n0_ n1_ n2_ n3_ n4_ n5_ n6_ n7_ n8_; clear hb hbox hg; have hnb27 := NB162_150.out; have hnc27 := NB150_162.out; have hcz28_0 : w26.cell? ⟨gb162, 0, none⟩ = some (.int .i64 0) := (blk_cell BK162.out 0).trans rfl; have hcz28_1 : w26.cell? ⟨gb162, 1, none⟩ = some (.int .i64 0) := (blk_cell BK162.out 1).trans rfl; have hcz28_2 : w26.cell? ⟨gb162, 2, none⟩ = some (.int .i64 0) := (blk_cell BK162.out 2).trans rfl; have hfz28_0 := blk_frozen BK162.out 0; have hfz28_1 := blk_frozen BK162.out 1; have hfz28_2 := blk_frozen BK162.out 2; have p163 : 0 ≤ (0 : Int) := (by omega); have q163 : 0 < (t151.length : Int) := of_decide_eq_true (by first | (with_reducible assumption) | assumption); obtain ⟨ad163, e163, hx163_0⟩ := Kd.at_string (Kd.R_reads' HO_6.out).2.2 0 p163 q163; obtain rfl : ad154 = ad163 := (by injection e163); have qi163 : (0 < t151.length) = True := eq_true (by omega); (try rw [show ((0 : Int)).toNat = 0 from rfl] at hx163_0); (try rw [Addr.add_zero'] at hx163_0); have hn163_0 : ad154.block ≠ gb162 := Kd.own_blk (Kd.R_ne HO_6.out BK162.out (by decide)); have hn163_1 : ad154.block ≠ gb162 := Kd.own_blk (Kd.R_ne HO_6.out BK162.out (by decide)); have hn163_2 : ad154.block ≠ gb162 := Kd.own_blk (Kd.R_ne HO_6.out BK162.out (by decide)); replace hx163_0 := (cell_far (p := ⟨gb162, 0, none⟩) (by first | (rw [add_block]; exact hn163_0) | (show (Addr.add _ _).block ≠ _; rw [add_block]; exact hn163_0) | exact hn163_0) (.int .i64 t159)).trans hx163_0; replace hx163_0 := (cell_far (p := ⟨gb162, 1, none⟩) (by first | (rw [add_block]; exact hn163_1) | (show (Addr.add _ _).block ≠ _; rw [add_block]; exact hn163_1) | exact hn163_1) (.int .i64 t160)).trans hx163_0; replace hx163_0 := (cell_far (p := ⟨gb162, 2, none⟩) (by first | (rw [add_block]; exact hn163_2) | (show (Addr.add _ _).block ≠ _; rw [add_block]; exact hn163_2) | exact hn163_2) (.int .i64 1)).trans hx163_0; clear hn163_0; clear hn163_1; clear hn163_2; replace p163 := eq_true p163; replace q163 := eq_true q163))
                    (try simp only [Act.put, List.setIfInBounds_toArray, List.set_cons_zero, List.set_cons_succ])
                    go_cut [] (fun wc => ∃ (kq : Nat) (x151000_24 : Int) (x151001_24 : Int) (x151002_24 : Int) (x163000_24 : Int) (x163001_24 : Int) (x163002_24 : Int), Aside0 (complineref18_Item.j2 kq t151 x163000_24 x163001_24 x163002_24 = some (r1, r2, r3, r4)) ∧ Aside0 (kq ≤ kj14) ∧ Aside0 (Kd.R Kd.string 9 wc w.heap.size (fun _ => True) (.slice (some ad154) t151.length co9) t151) ∧ Aside0 (wc.heap[gb150]? = some (.cells #[.int .i64 x151000_24, .int .i64 x151001_24, .int .i64 x151002_24] 61 (0, 0))) ∧ Aside0 (wc.heap[gb162]? = some (.cells #[.int .i64 x163000_24, .int .i64 x163001_24, .int .i64 x163002_24] 61 (0, 0))) ∧ Aside0 (Below w.heap.size w wc))
                    case first =>
                      have H := HC25.out
                      clear HC25
                      by_cases c29 : (rdOf ByteArray.empty t151 0).toList = ([42] : List UInt8)
                      · rw [if_pos c29] at H
                        have c29b0 : ((rdOf ByteArray.empty t151 0).toList == ([42] : List UInt8)) = true := beq_iff_eq.mpr c29
                        have c29b1 : ((rdOf ByteArray.empty t151 0).toList != ([42] : List UInt8)) = false := bne_eq_false_iff_eq.mpr c29
                        clear c29
                        (first | rw [c29b0] | (simp only [i64_w, i32_w]; rw [c29b0]) | skip)
                        have H' := Aside0.mk H
                        clear H
                        go_wp2
                        go_meet
                        case rel => exact ⟨_, (0), (0), (0), (t159), (t160), (1), H', ⟨by have := HJ5.out; have := HJ14.out; first | omega | exact Nat.le_refl _⟩, ⟨by (with_reducible repeat (first | apply Kd.R_alloc | apply Kd.R_drewN | apply Kd.R_drew)); exact Kd.R_mono (Kd.R_far (p := ⟨gb162, 2, none⟩) (Kd.R_far (p := ⟨gb162, 1, none⟩) (Kd.R_far (p := ⟨gb162, 0, none⟩) (Kd.R_types HO_6.out BK162.out (by decide)) (fun _ hk => hk.2) (.int .i64 t159)) (fun _ hk => hk.2) (.int .i64 t160)) (fun _ hk => hk.2) (.int .i64 1)) (fun _ hk => trivial)⟩, ⟨by (with_reducible repeat (first | refine blk_drewN ?_ _ | refine blk_drew ?_ | refine blk_alloc ?_ _)); refine blk_far ?_ NB150_162.out _; (with_reducible repeat (first | refine blk_drewN ?_ _ | refine blk_drew ?_ | refine blk_alloc ?_ _)); refine blk_far ?_ NB150_162.out _; (with_reducible repeat (first | refine blk_drewN ?_ _ | refine blk_drew ?_ | refine blk_alloc ?_ _)); refine blk_far ?_ NB150_162.out _; (with_reducible repeat (first | refine blk_drewN ?_ _ | refine blk_drew ?_ | refine blk_alloc ?_ _)); exact BK150.out⟩, ⟨by (with_reducible repeat (first | refine blk_drewN ?_ _ | refine blk_drew ?_ | refine blk_alloc ?_ _)); refine blk_put (cs := #[.int .i64 t159, .int .i64 t160, .int .i64 0]) ?_ 2 _ rfl; (with_reducible repeat (first | refine blk_drewN ?_ _ | refine blk_drew ?_ | refine blk_alloc ?_ _)); refine blk_put (cs := #[.int .i64 t159, .int .i64 0, .int .i64 0]) ?_ 1 _ rfl; (with_reducible repeat (first | refine blk_drewN ?_ _ | refine blk_drew ?_ | refine blk_alloc ?_ _)); refine blk_put (cs := #[.int .i64 0, .int .i64 0, .int .i64 0]) ?_ 0 _ rfl; (with_reducible repeat (first | refine blk_drewN ?_ _ | refine blk_drew ?_ | refine blk_alloc ?_ _)); exact BK162.out⟩, ⟨by repeat (first | (with_reducible first | exact HB.out | apply below_alloc | apply pw_below_drewN | apply below_drew1 | refine below_set ?_ GE150.out | refine below_set ?_ GE162.out) | exact HB.out)⟩⟩
                      · rw [if_neg c29] at H
                        have c29b0 : ((rdOf ByteArray.empty t151 0).toList == ([42] : List UInt8)) = false := beq_eq_false_iff_ne.mpr c29
                        have c29b1 : ((rdOf ByteArray.empty t151 0).toList != ([42] : List UInt8)) = true := bne_iff_ne.mpr c29
                        (first | rw [c29b0] | (simp only [i64_w, i32_w]; rw [c29b0]) | skip)
                        by_cases c30 : 0 < (t155.length : Int)
                        · rw [if_pos c30] at H
                          have c30b0 : decide (0 < (t155.length : Int)) = true := decide_eq_true c30
                          have c30b1 : decide (0 < t155.length) = true := decide_eq_true (by omega)
                          clear c30
                          replace H := Option.bind_eq_some_iff.mp H
                          obtain ⟨⟨t165, t166⟩, A310, H⟩ := H
                          replace H : (if t166 = 0 then (if (t155.length : Int) = 2 then (if 1 < (t155.length : Int) then ((complineref17_Value.f kj14 (rdOf ByteArray.empty t155 1) a1).bind fun bt168 => (if bt168.2 = 0 then (if bt168.1 < t165 then (some (0, 0, 0, 12)) else (complineref18_Item.j2 kj14 t151 t165 bt168.1 1)) else (some (0, 0, 0, bt168.2)))) else (none)) else (if t165 < t165 then (some (0, 0, 0, 12)) else (complineref18_Item.j2 kj14 t151 t165 t165 1))) else (some (0, 0, 0, t166))) = some (r1, r2, r3, r4) := H
                          have A31 := Aside0.mk A310
                          clear A310
                          by_cases c32 : t166 = 0
                          · rw [if_pos c32] at H
                            have c32b0 : (t166 == 0) = true := beq_iff_eq.mpr c32
                            have c32b1 : (t166 != 0) = false := bne_eq_false_iff_eq.mpr c32
                            clear c32
                            by_cases c33 : (t155.length : Int) = 2
                            · rw [if_pos c33] at H
                              have c33b0 : ((t155.length : Int) == 2) = true := beq_iff_eq.mpr c33
                              have c33b1 : ((t155.length : Int) != 2) = false := bne_eq_false_iff_eq.mpr c33
                              clear c33
                              by_cases c34 : 1 < (t155.length : Int)
                              · rw [if_pos c34] at H
                                have c34b0 : decide (1 < (t155.length : Int)) = true := decide_eq_true c34
                                have c34b1 : decide (1 < t155.length) = true := decide_eq_true (by omega)
                                clear c34
                                replace H := Option.bind_eq_some_iff.mp H
                                obtain ⟨⟨t168, t169⟩, A350, H⟩ := H
                                replace H : (if t169 = 0 then (if t168 < t165 then (some (0, 0, 0, 12)) else (complineref18_Item.j2 kj14 t151 t165 t168 1)) else (some (0, 0, 0, t169))) = some (r1, r2, r3, r4) := H
                                have A35 := Aside0.mk A350
                                clear A350
                                by_cases c36 : t169 = 0
                                · rw [if_pos c36] at H
                                  have c36b0 : (t169 == 0) = true := beq_iff_eq.mpr c36
                                  have c36b1 : (t169 != 0) = false := bne_eq_false_iff_eq.mpr c36
                                  clear c36
                                  by_cases c37 : t168 < t165
                                  · rw [if_pos c37] at H
                                    have c37b0 : decide (t168 < t165) = true := decide_eq_true c37
                                    clear c37
                                    simp only [Option.some.injEq, Prod.mk.injEq] at H
                                    obtain ⟨rfl, rfl, rfl, rfl⟩ := H
                                    obtain ⟨Ao38, co38, eo38⟩ := Kd.R_slice HO_7.out
                                    subst eo38
                                    have p164 : 0 ≤ (0 : Int) := (by omega)
                                    have q164 : 0 < (t155.length : Int) := of_decide_eq_true (by first | (with_reducible assumption) | assumption)
                                    obtain ⟨ad164, e164, hx164_0⟩ := Kd.at_string (Kd.R_reads' HO_7.out).2.2 0 p164 q164
                                    cases e164
                                    have qi164 : (0 < t155.length) = True := eq_true (by omega)
                                    (try rw [show ((0 : Int)).toNat = 0 from rfl] at hx164_0)
                                    (try rw [Addr.add_zero'] at hx164_0)
                                    have hn164_0 : ad164.block ≠ gb162 := Kd.own_blk (Kd.R_ne HO_7.out BK162.out (by decide))
                                    have hn164_1 : ad164.block ≠ gb162 := Kd.own_blk (Kd.R_ne HO_7.out BK162.out (by decide))
                                    have hn164_2 : ad164.block ≠ gb162 := Kd.own_blk (Kd.R_ne HO_7.out BK162.out (by decide))
                                    replace hx164_0 := (cell_far (p := ⟨gb162, 0, none⟩) (by first | (rw [add_block]; exact hn164_0) | (show (Addr.add _ _).block ≠ _; rw [add_block]; exact hn164_0) | exact hn164_0) (.int .i64 t159)).trans hx164_0
                                    replace hx164_0 := (cell_far (p := ⟨gb162, 1, none⟩) (by first | (rw [add_block]; exact hn164_1) | (show (Addr.add _ _).block ≠ _; rw [add_block]; exact hn164_1) | exact hn164_1) (.int .i64 t160)).trans hx164_0
                                    replace hx164_0 := (cell_far (p := ⟨gb162, 2, none⟩) (by first | (rw [add_block]; exact hn164_2) | (show (Addr.add _ _).block ≠ _; rw [add_block]; exact hn164_2) | exact hn164_2) (.int .i64 1)).trans hx164_0
                                    clear hn164_0
                                    clear hn164_1
                                    clear hn164_2
                                    replace p164 := eq_true p164
                                    replace q164 := eq_true q164
                                    go_wp2_with (first | ((with_reducible refine gate_callee (f := 50) rfl ?_); refine goesL_ (some 69) rfl rfl Tryd.func50 (by kernel_rfl) rfl #[.string (rdOf ByteArray.empty t155 0), .int .i64 a1] rfl (by (try simp only [List.map_toArray, List.map_cons, List.map_nil]); first | done | rfl | (simp only [List.length_drop, List.length_take]; rfl)) ?_; (with_reducible refine (complineref17_Value.calls kj14 (rdOf ByteArray.empty t155 0) a1 t165 t166 _ A31.out).mono ?_); rintro e w39 ⟨rfl, hb⟩; refine ⟨_, rfl, ?_⟩; have n0_ := Aside0.mk (Kd.R_below (by (with_reducible repeat (first | apply Kd.R_alloc | apply Kd.R_drewN | apply Kd.R_drew)); exact (Kd.R_mono (Kd.R_far (p := ⟨gb162, 2, none⟩) (Kd.R_far (p := ⟨gb162, 1, none⟩) (Kd.R_far (p := ⟨gb162, 0, none⟩) (Kd.R_types HO_6.out BK162.out (by decide)) (fun _ hk => hk.2) (.int .i64 t159)) (fun _ hk => hk.2) (.int .i64 t160)) (fun _ hk => hk.2) (.int .i64 1)) (fun _ h_ => h_.1))) hb); have n1_ := Aside0.mk (Kd.R_below (by (with_reducible repeat (first | apply Kd.R_alloc | apply Kd.R_drewN | apply Kd.R_drew)); exact (Kd.R_mono (Kd.R_far (p := ⟨gb162, 2, none⟩) (Kd.R_far (p := ⟨gb162, 1, none⟩) (Kd.R_far (p := ⟨gb162, 0, none⟩) (Kd.R_types HO_7.out BK162.out (by decide)) (fun _ hk => hk.2) (.int .i64 t159)) (fun _ hk => hk.2) (.int .i64 t160)) (fun _ hk => hk.2) (.int .i64 1)) (fun _ h_ => h_.1))) hb); have n2_ := Aside0.mk (blk_below (g := gb150) (o := .cells #[.int .i64 0, .int .i64 0, .int .i64 0] 61 (0, 0)) (by (with_reducible repeat (first | refine blk_drewN ?_ _ | refine blk_drew ?_ | refine blk_alloc ?_ _)); refine blk_far ?_ NB150_162.out _; (with_reducible repeat (first | refine blk_drewN ?_ _ | refine blk_drew ?_ | refine blk_alloc ?_ _)); refine blk_far ?_ NB150_162.out _; (with_reducible repeat (first | refine blk_drewN ?_ _ | refine blk_drew ?_ | refine blk_alloc ?_ _)); refine blk_far ?_ NB150_162.out _; (with_reducible repeat (first | refine blk_drewN ?_ _ | refine blk_drew ?_ | refine blk_alloc ?_ _)); exact BK150.out) hb); have n3_ := Aside0.mk (blk_below (g := gb162) (o := .cells #[.int .i64 t159, .int .i64 t160, .int .i64 1] 61 (0, 0)) (by (with_reducible repeat (first | refine blk_drewN ?_ _ | refine blk_drew ?_ | refine blk_alloc ?_ _)); refine blk_put (cs := #[.int .i64 t159, .int .i64 t160, .int .i64 0]) ?_ 2 _ rfl; (with_reducible repeat (first | refine blk_drewN ?_ _ | refine blk_drew ?_ | refine blk_alloc ?_ _)); refine blk_put (cs := #[.int .i64 t159, .int .i64 0, .int .i64 0]) ?_ 1 _ rfl; (with_reducible repeat (first | refine blk_drewN ?_ _ | refine blk_drew ?_ | refine blk_alloc ?_ _)); refine blk_put (cs := #[.int .i64 0, .int .i64 0, .int .i64 0]) ?_ 0 _ rfl; (with_reducible repeat (first | refine blk_drewN ?_ _ | refine blk_drew ?_ | refine blk_alloc ?_ _)); exact BK162.out) hb); have n4_ := Aside0.mk (below_step (by repeat (first | (with_reducible first | exact HB.out | apply below_alloc | apply pw_below_drewN | apply below_drew1 | refine below_set ?_ GE150.out | refine below_set ?_ GE162.out) | exact HB.out)) hb); clear HO_6; clear HO_7; clear BK150; clear BK162; clear HB; have HO_6 := n0_; have HO_7 := n1_; have BK150 := n2_; have BK162 := n3_; have HB := n4_; clear n0_ n1_ n2_ n3_ n4_; (try clear hb); (try clear hb2); (try clear hk); (try clear hi); have p167 : 0 ≤ (1 : Int) := (by omega); have q167 : 1 < (t155.length : Int) := of_decide_eq_true (by first | (with_reducible assumption) | assumption); obtain ⟨ad167, e167, hx167_0⟩ := Kd.at_string (Kd.R_reads' HO_7.out).2.2 1 p167 q167; obtain rfl : ad164 = ad167 := (by injection e167); (try simp only [show (1 : Int).toNat = 1 from rfl, Nat.reduceMul, Nat.reduceEqDiff, Go.Addr.add, ↓reduceIte] at hx167_0); have qi167 : (1 < t155.length) = True := eq_true (by omega); (try rw [show ((1 : Int)).toNat = 1 from rfl] at hx167_0); replace p167 := eq_true p167; replace q167 := eq_true q167) | ((with_reducible refine gate_callee (f := 50) rfl ?_); refine goesL_ (some 85) rfl rfl Tryd.func50 (by kernel_rfl) rfl #[.string (rdOf ByteArray.empty t155 1), .int .i64 a1] rfl (by (try simp only [List.map_toArray, List.map_cons, List.map_nil]); first | done | rfl | (simp only [List.length_drop, List.length_take]; rfl)) ?_; (with_reducible refine (complineref17_Value.calls kj14 (rdOf ByteArray.empty t155 1) a1 t168 t169 _ A35.out).mono ?_); rintro e w40 ⟨rfl, hb⟩; refine ⟨_, rfl, ?_⟩; have n0_ := Aside0.mk (Kd.R_below (by (with_reducible repeat (first | apply Kd.R_alloc | apply Kd.R_drewN | apply Kd.R_drew)); exact HO_6.out) hb); have n1_ := Aside0.mk (Kd.R_below (by (with_reducible repeat (first | apply Kd.R_alloc | apply Kd.R_drewN | apply Kd.R_drew)); exact HO_7.out) hb); have n2_ := Aside0.mk (blk_below (g := gb150) (o := .cells #[.int .i64 0, .int .i64 0, .int .i64 0] 61 (0, 0)) (by (with_reducible repeat (first | refine blk_drewN ?_ _ | refine blk_drew ?_ | refine blk_alloc ?_ _)); exact BK150.out) hb); have n3_ := Aside0.mk (blk_below (g := gb162) (o := .cells #[.int .i64 t159, .int .i64 t160, .int .i64 1] 61 (0, 0)) (by (with_reducible repeat (first | refine blk_drewN ?_ _ | refine blk_drew ?_ | refine blk_alloc ?_ _)); exact BK162.out) hb); have n4_ := Aside0.mk (below_step (by repeat (first | (with_reducible first | exact HB.out | apply below_alloc | apply pw_below_drewN | apply below_drew1 | refine below_set ?_ GE150.out | refine below_set ?_ GE162.out) | exact HB.out)) hb); clear HO_6; clear HO_7; clear BK150; clear BK162; clear HB; have HO_6 := n0_; have HO_7 := n1_; have BK150 := n2_; have BK162 := n3_; have HB := n4_; clear n0_ n1_ n2_ n3_ n4_; (try clear hb); (try clear hb2); (try clear hk); (try clear hi); have hnb41 := NB150_162.out; have hnc41 := NB162_150.out; have hcz42_0 : w40.cell? ⟨gb150, 0, none⟩ = some (.int .i64 0) := (blk_cell BK150.out 0).trans rfl; have hcz42_1 : w40.cell? ⟨gb150, 1, none⟩ = some (.int .i64 0) := (blk_cell BK150.out 1).trans rfl; have hcz42_2 : w40.cell? ⟨gb150, 2, none⟩ = some (.int .i64 0) := (blk_cell BK150.out 2).trans rfl; have hfz42_0 := blk_frozen BK150.out 0; have hfz42_1 := blk_frozen BK150.out 1; have hfz42_2 := blk_frozen BK150.out 2))
                                    refine bodyPost_ret (results_ct rfl _ _ gb150 61 #[.int .i64 0, .int .i64 0, .int .i64 0] (0, 0) _ rfl (by (with_reducible repeat (first | refine blk_drewN ?_ _ | refine blk_drew ?_ | refine blk_alloc ?_ _)); refine blk_put (cs := #[.int .i64 0, .int .i64 0, .int .i64 0]) ?_ 2 _ rfl; (with_reducible repeat (first | refine blk_drewN ?_ _ | refine blk_drew ?_ | refine blk_alloc ?_ _)); refine blk_put (cs := #[.int .i64 0, .int .i64 0, .int .i64 0]) ?_ 1 _ rfl; (with_reducible repeat (first | refine blk_drewN ?_ _ | refine blk_drew ?_ | refine blk_alloc ?_ _)); refine blk_put (cs := #[.int .i64 0, .int .i64 0, .int .i64 0]) ?_ 0 _ rfl; (with_reducible repeat (first | refine blk_drewN ?_ _ | refine blk_drew ?_ | refine blk_alloc ?_ _)); exact BK150.out) Tryd.underlying61 rfl (by kernel_rfl)) rfl ?_
                                    exact ⟨by first | rfl | (simp [errW_none, errW_some] <;> rfl) | (simp [*, errW_none, errW_some] <;> rfl), by repeat (first | (with_reducible first | exact HB.out | apply below_alloc | apply pw_below_drewN | apply below_drew1 | refine below_set ?_ GE150.out | refine below_set ?_ GE162.out) | exact HB.out)⟩
                                  · rw [if_neg c37] at H
                                    have c37b0 : decide (t168 < t165) = false := decide_eq_false c37
                                    clear c37
                                    have H' := Aside0.mk H
                                    clear H
                                    obtain ⟨Ao43, co43, eo43⟩ := Kd.R_slice HO_7.out
                                    subst eo43
                                    have p164 : 0 ≤ (0 : Int) := (by omega)
                                    have q164 : 0 < (t155.length : Int) := of_decide_eq_true (by first | (with_reducible assumption) | assumption)
                                    obtain ⟨ad164, e164, hx164_0⟩ := Kd.at_string (Kd.R_reads' HO_7.out).2.2 0 p164 q164
                                    cases e164
                                    have qi164 : (0 < t155.length) = True := eq_true (by omega)
                                    (try rw [show ((0 : Int)).toNat = 0 from rfl] at hx164_0)
                                    (try rw [Addr.add_zero'] at hx164_0)
                                    have hn164_0 : ad164.block ≠ gb162 := Kd.own_blk (Kd.R_ne HO_7.out BK162.out (by decide))
                                    have hn164_1 : ad164.block ≠ gb162 := Kd.own_blk (Kd.R_ne HO_7.out BK162.out (by decide))
                                    have hn164_2 : ad164.block ≠ gb162 := Kd.own_blk (Kd.R_ne HO_7.out BK162.out (by decide))
                                    replace hx164_0 := (cell_far (p := ⟨gb162, 0, none⟩) (by first | (rw [add_block]; exact hn164_0) | (show (Addr.add _ _).block ≠ _; rw [add_block]; exact hn164_0) | exact hn164_0) (.int .i64 t159)).trans hx164_0
                                    replace hx164_0 := (cell_far (p := ⟨gb162, 1, none⟩) (by first | (rw [add_block]; exact hn164_1) | (show (Addr.add _ _).block ≠ _; rw [add_block]; exact hn164_1) | exact hn164_1) (.int .i64 t160)).trans hx164_0
                                    replace hx164_0 := (cell_far (p := ⟨gb162, 2, none⟩) (by first | (rw [add_block]; exact hn164_2) | (show (Addr.add _ _).block ≠ _; rw [add_block]; exact hn164_2) | exact hn164_2) (.int .i64 1)).trans hx164_0
                                    clear hn164_0
                                    clear hn164_1
                                    clear hn164_2
                                    replace p164 := eq_true p164
                                    replace q164 := eq_true q164
                                    go_wp2_with (first | ((with_reducible refine gate_callee (f := 50) rfl ?_); refine goesL_ (some 69) rfl rfl Tryd.func50 (by kernel_rfl) rfl #[.string (rdOf ByteArray.empty t155 0), .int .i64 a1] rfl (by (try simp only [List.map_toArray, List.map_cons, List.map_nil]); first | done | rfl | (simp only [List.length_drop, List.length_take]; rfl)) ?_; (with_reducible refine (complineref17_Value.calls kj14 (rdOf ByteArray.empty t155 0) a1 t165 t166 _ A31.out).mono ?_); rintro e w44 ⟨rfl, hb⟩; refine ⟨_, rfl, ?_⟩; have n0_ := Aside0.mk (Kd.R_below (by (with_reducible repeat (first | apply Kd.R_alloc | apply Kd.R_drewN | apply Kd.R_drew)); exact (Kd.R_mono (Kd.R_far (p := ⟨gb162, 2, none⟩) (Kd.R_far (p := ⟨gb162, 1, none⟩) (Kd.R_far (p := ⟨gb162, 0, none⟩) (Kd.R_types HO_6.out BK162.out (by decide)) (fun _ hk => hk.2) (.int .i64 t159)) (fun _ hk => hk.2) (.int .i64 t160)) (fun _ hk => hk.2) (.int .i64 1)) (fun _ h_ => h_.1))) hb); have n1_ := Aside0.mk (Kd.R_below (by (with_reducible repeat (first | apply Kd.R_alloc | apply Kd.R_drewN | apply Kd.R_drew)); exact (Kd.R_mono (Kd.R_far (p := ⟨gb162, 2, none⟩) (Kd.R_far (p := ⟨gb162, 1, none⟩) (Kd.R_far (p := ⟨gb162, 0, none⟩) (Kd.R_types HO_7.out BK162.out (by decide)) (fun _ hk => hk.2) (.int .i64 t159)) (fun _ hk => hk.2) (.int .i64 t160)) (fun _ hk => hk.2) (.int .i64 1)) (fun _ h_ => h_.1))) hb); have n2_ := Aside0.mk (blk_below (g := gb150) (o := .cells #[.int .i64 0, .int .i64 0, .int .i64 0] 61 (0, 0)) (by (with_reducible repeat (first | refine blk_drewN ?_ _ | refine blk_drew ?_ | refine blk_alloc ?_ _)); refine blk_far ?_ NB150_162.out _; (with_reducible repeat (first | refine blk_drewN ?_ _ | refine blk_drew ?_ | refine blk_alloc ?_ _)); refine blk_far ?_ NB150_162.out _; (with_reducible repeat (first | refine blk_drewN ?_ _ | refine blk_drew ?_ | refine blk_alloc ?_ _)); refine blk_far ?_ NB150_162.out _; (with_reducible repeat (first | refine blk_drewN ?_ _ | refine blk_drew ?_ | refine blk_alloc ?_ _)); exact BK150.out) hb); have n3_ := Aside0.mk (blk_below (g := gb162) (o := .cells #[.int .i64 t159, .int .i64 t160, .int .i64 1] 61 (0, 0)) (by (with_reducible repeat (first | refine blk_drewN ?_ _ | refine blk_drew ?_ | refine blk_alloc ?_ _)); refine blk_put (cs := #[.int .i64 t159, .int .i64 t160, .int .i64 0]) ?_ 2 _ rfl; (with_reducible repeat (first | refine blk_drewN ?_ _ | refine blk_drew ?_ | refine blk_alloc ?_ _)); refine blk_put (cs := #[.int .i64 t159, .int .i64 0, .int .i64 0]) ?_ 1 _ rfl; (with_reducible repeat (first | refine blk_drewN ?_ _ | refine blk_drew ?_ | refine blk_alloc ?_ _)); refine blk_put (cs := #[.int .i64 0, .int .i64 0, .int .i64 0]) ?_ 0 _ rfl; (with_reducible repeat (first | refine blk_drewN ?_ _ | refine blk_drew ?_ | refine blk_alloc ?_ _)); exact BK162.out) hb); have n4_ := Aside0.mk (below_step (by repeat (first | (with_reducible first | exact HB.out | apply below_alloc | apply pw_below_drewN | apply below_drew1 | refine below_set ?_ GE150.out | refine below_set ?_ GE162.out) | exact HB.out)) hb); clear HO_6; clear HO_7; clear BK150; clear BK162; clear HB; have HO_6 := n0_; have HO_7 := n1_; have BK150 := n2_; have BK162 := n3_; have HB := n4_; clear n0_ n1_ n2_ n3_ n4_; (try clear hb); (try clear hb2); (try clear hk); (try clear hi); have p167 : 0 ≤ (1 : Int) := (by omega); have q167 : 1 < (t155.length : Int) := of_decide_eq_true (by first | (with_reducible assumption) | assumption); obtain ⟨ad167, e167, hx167_0⟩ := Kd.at_string (Kd.R_reads' HO_7.out).2.2 1 p167 q167; obtain rfl : ad164 = ad167 := (by injection e167); (try simp only [show (1 : Int).toNat = 1 from rfl, Nat.reduceMul, Nat.reduceEqDiff, Go.Addr.add, ↓reduceIte] at hx167_0); have qi167 : (1 < t155.length) = True := eq_true (by omega); (try rw [show ((1 : Int)).toNat = 1 from rfl] at hx167_0); replace p167 := eq_true p167; replace q167 := eq_true q167) | ((with_reducible refine gate_callee (f := 50) rfl ?_); refine goesL_ (some 85) rfl rfl Tryd.func50 (by kernel_rfl) rfl #[.string (rdOf ByteArray.empty t155 1), .int .i64 a1] rfl (by (try simp only [List.map_toArray, List.map_cons, List.map_nil]); first | done | rfl | (simp only [List.length_drop, List.length_take]; rfl)) ?_; (with_reducible refine (complineref17_Value.calls kj14 (rdOf ByteArray.empty t155 1) a1 t168 t169 _ A35.out).mono ?_); rintro e w45 ⟨rfl, hb⟩; refine ⟨_, rfl, ?_⟩; have n0_ := Aside0.mk (Kd.R_below (by (with_reducible repeat (first | apply Kd.R_alloc | apply Kd.R_drewN | apply Kd.R_drew)); exact HO_6.out) hb); have n1_ := Aside0.mk (Kd.R_below (by (with_reducible repeat (first | apply Kd.R_alloc | apply Kd.R_drewN | apply Kd.R_drew)); exact HO_7.out) hb); have n2_ := Aside0.mk (blk_below (g := gb150) (o := .cells #[.int .i64 0, .int .i64 0, .int .i64 0] 61 (0, 0)) (by (with_reducible repeat (first | refine blk_drewN ?_ _ | refine blk_drew ?_ | refine blk_alloc ?_ _)); exact BK150.out) hb); have n3_ := Aside0.mk (blk_below (g := gb162) (o := .cells #[.int .i64 t159, .int .i64 t160, .int .i64 1] 61 (0, 0)) (by (with_reducible repeat (first | refine blk_drewN ?_ _ | refine blk_drew ?_ | refine blk_alloc ?_ _)); exact BK162.out) hb); have n4_ := Aside0.mk (below_step (by repeat (first | (with_reducible first | exact HB.out | apply below_alloc | apply pw_below_drewN | apply below_drew1 | refine below_set ?_ GE150.out | refine below_set ?_ GE162.out) | exact HB.out)) hb); clear HO_6; clear HO_7; clear BK150; clear BK162; clear HB; have HO_6 := n0_; have HO_7 := n1_; have BK150 := n2_; have BK162 := n3_; have HB := n4_; clear n0_ n1_ n2_ n3_ n4_; (try clear hb); (try clear hb2); (try clear hk); (try clear hi); have hnb46 := NB162_150.out; have hnc46 := NB150_162.out; have hcz47_0 : w45.cell? ⟨gb162, 0, none⟩ = some (.int .i64 t159) := (blk_cell BK162.out 0).trans rfl; have hcz47_1 : w45.cell? ⟨gb162, 1, none⟩ = some (.int .i64 t160) := (blk_cell BK162.out 1).trans rfl; have hcz47_2 : w45.cell? ⟨gb162, 2, none⟩ = some (.int .i64 1) := (blk_cell BK162.out 2).trans rfl; have hfz47_0 := blk_frozen BK162.out 0; have hfz47_1 := blk_frozen BK162.out 1; have hfz47_2 := blk_frozen BK162.out 2))
                                    go_meet
                                    case rel => exact ⟨_, (0), (0), (0), (t165), (t168), (1), H', ⟨by have := HJ5.out; have := HJ14.out; first | omega | exact Nat.le_refl _⟩, ⟨by (with_reducible repeat (first | apply Kd.R_alloc | apply Kd.R_drewN | apply Kd.R_drew)); exact Kd.R_mono (Kd.R_far (p := ⟨gb162, 2, none⟩) (Kd.R_far (p := ⟨gb162, 1, none⟩) (Kd.R_far (p := ⟨gb162, 0, none⟩) (Kd.R_types HO_6.out BK162.out (by decide)) (fun _ hk => hk.2) (.int .i64 t165)) (fun _ hk => hk.2) (.int .i64 t168)) (fun _ hk => hk.2) (.int .i64 1)) (fun _ hk => trivial)⟩, ⟨by (with_reducible repeat (first | refine blk_drewN ?_ _ | refine blk_drew ?_ | refine blk_alloc ?_ _)); refine blk_far ?_ NB150_162.out _; (with_reducible repeat (first | refine blk_drewN ?_ _ | refine blk_drew ?_ | refine blk_alloc ?_ _)); refine blk_far ?_ NB150_162.out _; (with_reducible repeat (first | refine blk_drewN ?_ _ | refine blk_drew ?_ | refine blk_alloc ?_ _)); refine blk_far ?_ NB150_162.out _; (with_reducible repeat (first | refine blk_drewN ?_ _ | refine blk_drew ?_ | refine blk_alloc ?_ _)); exact BK150.out⟩, ⟨by (with_reducible repeat (first | refine blk_drewN ?_ _ | refine blk_drew ?_ | refine blk_alloc ?_ _)); refine blk_put (cs := #[.int .i64 t165, .int .i64 t168, .int .i64 1]) ?_ 2 _ rfl; (with_reducible repeat (first | refine blk_drewN ?_ _ | refine blk_drew ?_ | refine blk_alloc ?_ _)); refine blk_put (cs := #[.int .i64 t165, .int .i64 t160, .int .i64 1]) ?_ 1 _ rfl; (with_reducible repeat (first | refine blk_drewN ?_ _ | refine blk_drew ?_ | refine blk_alloc ?_ _)); refine blk_put (cs := #[.int .i64 t159, .int .i64 t160, .int .i64 1]) ?_ 0 _ rfl; (with_reducible repeat (first | refine blk_drewN ?_ _ | refine blk_drew ?_ | refine blk_alloc ?_ _)); exact BK162.out⟩, ⟨by repeat (first | (with_reducible first | exact HB.out | apply below_alloc | apply pw_below_drewN | apply below_drew1 | refine below_set ?_ GE150.out | refine below_set ?_ GE162.out) | exact HB.out)⟩⟩
                                · rw [if_neg c36] at H
                                  have c36b0 : (t169 == 0) = false := beq_eq_false_iff_ne.mpr c36
                                  have c36b1 : (t169 != 0) = true := bne_iff_ne.mpr c36
                                  simp only [Option.some.injEq, Prod.mk.injEq] at H
                                  obtain ⟨rfl, rfl, rfl, rfl⟩ := H
                                  obtain ⟨Ao48, co48, eo48⟩ := Kd.R_slice HO_7.out
                                  subst eo48
                                  have p164 : 0 ≤ (0 : Int) := (by omega)
                                  have q164 : 0 < (t155.length : Int) := of_decide_eq_true (by first | (with_reducible assumption) | assumption)
                                  obtain ⟨ad164, e164, hx164_0⟩ := Kd.at_string (Kd.R_reads' HO_7.out).2.2 0 p164 q164
                                  cases e164
                                  have qi164 : (0 < t155.length) = True := eq_true (by omega)
                                  (try rw [show ((0 : Int)).toNat = 0 from rfl] at hx164_0)
                                  (try rw [Addr.add_zero'] at hx164_0)
                                  have hn164_0 : ad164.block ≠ gb162 := Kd.own_blk (Kd.R_ne HO_7.out BK162.out (by decide))
                                  have hn164_1 : ad164.block ≠ gb162 := Kd.own_blk (Kd.R_ne HO_7.out BK162.out (by decide))
                                  have hn164_2 : ad164.block ≠ gb162 := Kd.own_blk (Kd.R_ne HO_7.out BK162.out (by decide))
                                  replace hx164_0 := (cell_far (p := ⟨gb162, 0, none⟩) (by first | (rw [add_block]; exact hn164_0) | (show (Addr.add _ _).block ≠ _; rw [add_block]; exact hn164_0) | exact hn164_0) (.int .i64 t159)).trans hx164_0
                                  replace hx164_0 := (cell_far (p := ⟨gb162, 1, none⟩) (by first | (rw [add_block]; exact hn164_1) | (show (Addr.add _ _).block ≠ _; rw [add_block]; exact hn164_1) | exact hn164_1) (.int .i64 t160)).trans hx164_0
                                  replace hx164_0 := (cell_far (p := ⟨gb162, 2, none⟩) (by first | (rw [add_block]; exact hn164_2) | (show (Addr.add _ _).block ≠ _; rw [add_block]; exact hn164_2) | exact hn164_2) (.int .i64 1)).trans hx164_0
                                  clear hn164_0
                                  clear hn164_1
                                  clear hn164_2
                                  replace p164 := eq_true p164
                                  replace q164 := eq_true q164
                                  go_wp2_with (first | ((with_reducible refine gate_callee (f := 50) rfl ?_); refine goesL_ (some 69) rfl rfl Tryd.func50 (by kernel_rfl) rfl #[.string (rdOf ByteArray.empty t155 0), .int .i64 a1] rfl (by (try simp only [List.map_toArray, List.map_cons, List.map_nil]); first | done | rfl | (simp only [List.length_drop, List.length_take]; rfl)) ?_; (with_reducible refine (complineref17_Value.calls kj14 (rdOf ByteArray.empty t155 0) a1 t165 t166 _ A31.out).mono ?_); rintro e w49 ⟨rfl, hb⟩; refine ⟨_, rfl, ?_⟩; have n0_ := Aside0.mk (Kd.R_below (by (with_reducible repeat (first | apply Kd.R_alloc | apply Kd.R_drewN | apply Kd.R_drew)); exact (Kd.R_mono (Kd.R_far (p := ⟨gb162, 2, none⟩) (Kd.R_far (p := ⟨gb162, 1, none⟩) (Kd.R_far (p := ⟨gb162, 0, none⟩) (Kd.R_types HO_6.out BK162.out (by decide)) (fun _ hk => hk.2) (.int .i64 t159)) (fun _ hk => hk.2) (.int .i64 t160)) (fun _ hk => hk.2) (.int .i64 1)) (fun _ h_ => h_.1))) hb); have n1_ := Aside0.mk (Kd.R_below (by (with_reducible repeat (first | apply Kd.R_alloc | apply Kd.R_drewN | apply Kd.R_drew)); exact (Kd.R_mono (Kd.R_far (p := ⟨gb162, 2, none⟩) (Kd.R_far (p := ⟨gb162, 1, none⟩) (Kd.R_far (p := ⟨gb162, 0, none⟩) (Kd.R_types HO_7.out BK162.out (by decide)) (fun _ hk => hk.2) (.int .i64 t159)) (fun _ hk => hk.2) (.int .i64 t160)) (fun _ hk => hk.2) (.int .i64 1)) (fun _ h_ => h_.1))) hb); have n2_ := Aside0.mk (blk_below (g := gb150) (o := .cells #[.int .i64 0, .int .i64 0, .int .i64 0] 61 (0, 0)) (by (with_reducible repeat (first | refine blk_drewN ?_ _ | refine blk_drew ?_ | refine blk_alloc ?_ _)); refine blk_far ?_ NB150_162.out _; (with_reducible repeat (first | refine blk_drewN ?_ _ | refine blk_drew ?_ | refine blk_alloc ?_ _)); refine blk_far ?_ NB150_162.out _; (with_reducible repeat (first | refine blk_drewN ?_ _ | refine blk_drew ?_ | refine blk_alloc ?_ _)); refine blk_far ?_ NB150_162.out _; (with_reducible repeat (first | refine blk_drewN ?_ _ | refine blk_drew ?_ | refine blk_alloc ?_ _)); exact BK150.out) hb); have n3_ := Aside0.mk (blk_below (g := gb162) (o := .cells #[.int .i64 t159, .int .i64 t160, .int .i64 1] 61 (0, 0)) (by (with_reducible repeat (first | refine blk_drewN ?_ _ | refine blk_drew ?_ | refine blk_alloc ?_ _)); refine blk_put (cs := #[.int .i64 t159, .int .i64 t160, .int .i64 0]) ?_ 2 _ rfl; (with_reducible repeat (first | refine blk_drewN ?_ _ | refine blk_drew ?_ | refine blk_alloc ?_ _)); refine blk_put (cs := #[.int .i64 t159, .int .i64 0, .int .i64 0]) ?_ 1 _ rfl; (with_reducible repeat (first | refine blk_drewN ?_ _ | refine blk_drew ?_ | refine blk_alloc ?_ _)); refine blk_put (cs := #[.int .i64 0, .int .i64 0, .int .i64 0]) ?_ 0 _ rfl; (with_reducible repeat (first | refine blk_drewN ?_ _ | refine blk_drew ?_ | refine blk_alloc ?_ _)); exact BK162.out) hb); have n4_ := Aside0.mk (below_step (by repeat (first | (with_reducible first | exact HB.out | apply below_alloc | apply pw_below_drewN | apply below_drew1 | refine below_set ?_ GE150.out | refine below_set ?_ GE162.out) | exact HB.out)) hb); clear HO_6; clear HO_7; clear BK150; clear BK162; clear HB; have HO_6 := n0_; have HO_7 := n1_; have BK150 := n2_; have BK162 := n3_; have HB := n4_; clear n0_ n1_ n2_ n3_ n4_; (try clear hb); (try clear hb2); (try clear hk); (try clear hi); have p167 : 0 ≤ (1 : Int) := (by omega); have q167 : 1 < (t155.length : Int) := of_decide_eq_true (by first | (with_reducible assumption) | assumption); obtain ⟨ad167, e167, hx167_0⟩ := Kd.at_string (Kd.R_reads' HO_7.out).2.2 1 p167 q167; obtain rfl : ad164 = ad167 := (by injection e167); (try simp only [show (1 : Int).toNat = 1 from rfl, Nat.reduceMul, Nat.reduceEqDiff, Go.Addr.add, ↓reduceIte] at hx167_0); have qi167 : (1 < t155.length) = True := eq_true (by omega); (try rw [show ((1 : Int)).toNat = 1 from rfl] at hx167_0); replace p167 := eq_true p167; replace q167 := eq_true q167) | ((with_reducible refine gate_callee (f := 50) rfl ?_); refine goesL_ (some 85) rfl rfl Tryd.func50 (by kernel_rfl) rfl #[.string (rdOf ByteArray.empty t155 1), .int .i64 a1] rfl (by (try simp only [List.map_toArray, List.map_cons, List.map_nil]); first | done | rfl | (simp only [List.length_drop, List.length_take]; rfl)) ?_; (with_reducible refine (complineref17_Value.calls kj14 (rdOf ByteArray.empty t155 1) a1 t168 t169 _ A35.out).mono ?_); rintro e w50 ⟨rfl, hb⟩; refine ⟨_, rfl, ?_⟩; have n0_ := Aside0.mk (Kd.R_below (by (with_reducible repeat (first | apply Kd.R_alloc | apply Kd.R_drewN | apply Kd.R_drew)); exact HO_6.out) hb); have n1_ := Aside0.mk (Kd.R_below (by (with_reducible repeat (first | apply Kd.R_alloc | apply Kd.R_drewN | apply Kd.R_drew)); exact HO_7.out) hb); have n2_ := Aside0.mk (blk_below (g := gb150) (o := .cells #[.int .i64 0, .int .i64 0, .int .i64 0] 61 (0, 0)) (by (with_reducible repeat (first | refine blk_drewN ?_ _ | refine blk_drew ?_ | refine blk_alloc ?_ _)); exact BK150.out) hb); have n3_ := Aside0.mk (blk_below (g := gb162) (o := .cells #[.int .i64 t159, .int .i64 t160, .int .i64 1] 61 (0, 0)) (by (with_reducible repeat (first | refine blk_drewN ?_ _ | refine blk_drew ?_ | refine blk_alloc ?_ _)); exact BK162.out) hb); have n4_ := Aside0.mk (below_step (by repeat (first | (with_reducible first | exact HB.out | apply below_alloc | apply pw_below_drewN | apply below_drew1 | refine below_set ?_ GE150.out | refine below_set ?_ GE162.out) | exact HB.out)) hb); clear HO_6; clear HO_7; clear BK150; clear BK162; clear HB; have HO_6 := n0_; have HO_7 := n1_; have BK150 := n2_; have BK162 := n3_; have HB := n4_; clear n0_ n1_ n2_ n3_ n4_; (try clear hb); (try clear hb2); (try clear hk); (try clear hi); have hnb51 := NB150_162.out; have hnc51 := NB162_150.out; have hcz52_0 : w50.cell? ⟨gb150, 0, none⟩ = some (.int .i64 0) := (blk_cell BK150.out 0).trans rfl; have hcz52_1 : w50.cell? ⟨gb150, 1, none⟩ = some (.int .i64 0) := (blk_cell BK150.out 1).trans rfl; have hcz52_2 : w50.cell? ⟨gb150, 2, none⟩ = some (.int .i64 0) := (blk_cell BK150.out 2).trans rfl; have hfz52_0 := blk_frozen BK150.out 0; have hfz52_1 := blk_frozen BK150.out 1; have hfz52_2 := blk_frozen BK150.out 2))
                                  refine bodyPost_ret (results_ct rfl _ _ gb150 61 #[.int .i64 0, .int .i64 0, .int .i64 0] (0, 0) _ rfl (by (with_reducible repeat (first | refine blk_drewN ?_ _ | refine blk_drew ?_ | refine blk_alloc ?_ _)); refine blk_put (cs := #[.int .i64 0, .int .i64 0, .int .i64 0]) ?_ 2 _ rfl; (with_reducible repeat (first | refine blk_drewN ?_ _ | refine blk_drew ?_ | refine blk_alloc ?_ _)); refine blk_put (cs := #[.int .i64 0, .int .i64 0, .int .i64 0]) ?_ 1 _ rfl; (with_reducible repeat (first | refine blk_drewN ?_ _ | refine blk_drew ?_ | refine blk_alloc ?_ _)); refine blk_put (cs := #[.int .i64 0, .int .i64 0, .int .i64 0]) ?_ 0 _ rfl; (with_reducible repeat (first | refine blk_drewN ?_ _ | refine blk_drew ?_ | refine blk_alloc ?_ _)); exact BK150.out) Tryd.underlying61 rfl (by kernel_rfl)) rfl ?_
                                  exact ⟨by first | rfl | (simp [errW_none, errW_some] <;> rfl) | (simp [*, errW_none, errW_some] <;> rfl), by repeat (first | (with_reducible first | exact HB.out | apply below_alloc | apply pw_below_drewN | apply below_drew1 | refine below_set ?_ GE150.out | refine below_set ?_ GE162.out) | exact HB.out)⟩
                              · rw [if_neg c34] at H
                                exact absurd H (by simp)
                            · rw [if_neg c33] at H
                              have c33b0 : ((t155.length : Int) == 2) = false := beq_eq_false_iff_ne.mpr c33
                              have c33b1 : ((t155.length : Int) != 2) = true := bne_iff_ne.mpr c33
                              by_cases c53 : t165 < t165
                              · exact absurd c53 (Int.lt_irrefl _)
                              · rw [if_neg c53] at H
                                have c53b0 : decide (t165 < t165) = false := decide_eq_false c53
                                clear c53
                                have H' := Aside0.mk H
                                clear H
                                obtain ⟨Ao58, co58, eo58⟩ := Kd.R_slice HO_7.out
                                subst eo58
                                have p164 : 0 ≤ (0 : Int) := (by omega)
                                have q164 : 0 < (t155.length : Int) := of_decide_eq_true (by first | (with_reducible assumption) | assumption)
                                obtain ⟨ad164, e164, hx164_0⟩ := Kd.at_string (Kd.R_reads' HO_7.out).2.2 0 p164 q164
                                cases e164
                                have qi164 : (0 < t155.length) = True := eq_true (by omega)
                                (try rw [show ((0 : Int)).toNat = 0 from rfl] at hx164_0)
                                (try rw [Addr.add_zero'] at hx164_0)
                                have hn164_0 : ad164.block ≠ gb162 := Kd.own_blk (Kd.R_ne HO_7.out BK162.out (by decide))
                                have hn164_1 : ad164.block ≠ gb162 := Kd.own_blk (Kd.R_ne HO_7.out BK162.out (by decide))
                                have hn164_2 : ad164.block ≠ gb162 := Kd.own_blk (Kd.R_ne HO_7.out BK162.out (by decide))
                                replace hx164_0 := (cell_far (p := ⟨gb162, 0, none⟩) (by first | (rw [add_block]; exact hn164_0) | (show (Addr.add _ _).block ≠ _; rw [add_block]; exact hn164_0) | exact hn164_0) (.int .i64 t159)).trans hx164_0
                                replace hx164_0 := (cell_far (p := ⟨gb162, 1, none⟩) (by first | (rw [add_block]; exact hn164_1) | (show (Addr.add _ _).block ≠ _; rw [add_block]; exact hn164_1) | exact hn164_1) (.int .i64 t160)).trans hx164_0
                                replace hx164_0 := (cell_far (p := ⟨gb162, 2, none⟩) (by first | (rw [add_block]; exact hn164_2) | (show (Addr.add _ _).block ≠ _; rw [add_block]; exact hn164_2) | exact hn164_2) (.int .i64 1)).trans hx164_0
                                clear hn164_0
                                clear hn164_1
                                clear hn164_2
                                replace p164 := eq_true p164
                                replace q164 := eq_true q164
                                go_wp2_with (first | ((with_reducible refine gate_callee (f := 50) rfl ?_); refine goesL_ (some 69) rfl rfl Tryd.func50 (by kernel_rfl) rfl #[.string (rdOf ByteArray.empty t155 0), .int .i64 a1] rfl (by (try simp only [List.map_toArray, List.map_cons, List.map_nil]); first | done | rfl | (simp only [List.length_drop, List.length_take]; rfl)) ?_; (with_reducible refine (complineref17_Value.calls kj14 (rdOf ByteArray.empty t155 0) a1 t165 t166 _ A31.out).mono ?_); rintro e w59 ⟨rfl, hb⟩; refine ⟨_, rfl, ?_⟩; have n0_ := Aside0.mk (Kd.R_below (by (with_reducible repeat (first | apply Kd.R_alloc | apply Kd.R_drewN | apply Kd.R_drew)); exact (Kd.R_mono (Kd.R_far (p := ⟨gb162, 2, none⟩) (Kd.R_far (p := ⟨gb162, 1, none⟩) (Kd.R_far (p := ⟨gb162, 0, none⟩) (Kd.R_types HO_6.out BK162.out (by decide)) (fun _ hk => hk.2) (.int .i64 t159)) (fun _ hk => hk.2) (.int .i64 t160)) (fun _ hk => hk.2) (.int .i64 1)) (fun _ h_ => h_.1))) hb); have n1_ := Aside0.mk (Kd.R_below (by (with_reducible repeat (first | apply Kd.R_alloc | apply Kd.R_drewN | apply Kd.R_drew)); exact (Kd.R_mono (Kd.R_far (p := ⟨gb162, 2, none⟩) (Kd.R_far (p := ⟨gb162, 1, none⟩) (Kd.R_far (p := ⟨gb162, 0, none⟩) (Kd.R_types HO_7.out BK162.out (by decide)) (fun _ hk => hk.2) (.int .i64 t159)) (fun _ hk => hk.2) (.int .i64 t160)) (fun _ hk => hk.2) (.int .i64 1)) (fun _ h_ => h_.1))) hb); have n2_ := Aside0.mk (blk_below (g := gb150) (o := .cells #[.int .i64 0, .int .i64 0, .int .i64 0] 61 (0, 0)) (by (with_reducible repeat (first | refine blk_drewN ?_ _ | refine blk_drew ?_ | refine blk_alloc ?_ _)); refine blk_far ?_ NB150_162.out _; (with_reducible repeat (first | refine blk_drewN ?_ _ | refine blk_drew ?_ | refine blk_alloc ?_ _)); refine blk_far ?_ NB150_162.out _; (with_reducible repeat (first | refine blk_drewN ?_ _ | refine blk_drew ?_ | refine blk_alloc ?_ _)); refine blk_far ?_ NB150_162.out _; (with_reducible repeat (first | refine blk_drewN ?_ _ | refine blk_drew ?_ | refine blk_alloc ?_ _)); exact BK150.out) hb); have n3_ := Aside0.mk (blk_below (g := gb162) (o := .cells #[.int .i64 t159, .int .i64 t160, .int .i64 1] 61 (0, 0)) (by (with_reducible repeat (first | refine blk_drewN ?_ _ | refine blk_drew ?_ | refine blk_alloc ?_ _)); refine blk_put (cs := #[.int .i64 t159, .int .i64 t160, .int .i64 0]) ?_ 2 _ rfl; (with_reducible repeat (first | refine blk_drewN ?_ _ | refine blk_drew ?_ | refine blk_alloc ?_ _)); refine blk_put (cs := #[.int .i64 t159, .int .i64 0, .int .i64 0]) ?_ 1 _ rfl; (with_reducible repeat (first | refine blk_drewN ?_ _ | refine blk_drew ?_ | refine blk_alloc ?_ _)); refine blk_put (cs := #[.int .i64 0, .int .i64 0, .int .i64 0]) ?_ 0 _ rfl; (with_reducible repeat (first | refine blk_drewN ?_ _ | refine blk_drew ?_ | refine blk_alloc ?_ _)); exact BK162.out) hb); have n4_ := Aside0.mk (below_step (by repeat (first | (with_reducible first | exact HB.out | apply below_alloc | apply pw_below_drewN | apply below_drew1 | refine below_set ?_ GE150.out | refine below_set ?_ GE162.out) | exact HB.out)) hb); clear HO_6; clear HO_7; clear BK150; clear BK162; clear HB; have HO_6 := n0_; have HO_7 := n1_; have BK150 := n2_; have BK162 := n3_; have HB := n4_; clear n0_ n1_ n2_ n3_ n4_; (try clear hb); (try clear hb2); (try clear hk); (try clear hi); have hnb60 := NB162_150.out; have hnc60 := NB150_162.out; have hcz61_0 : w59.cell? ⟨gb162, 0, none⟩ = some (.int .i64 t159) := (blk_cell BK162.out 0).trans rfl; have hcz61_1 : w59.cell? ⟨gb162, 1, none⟩ = some (.int .i64 t160) := (blk_cell BK162.out 1).trans rfl; have hcz61_2 : w59.cell? ⟨gb162, 2, none⟩ = some (.int .i64 1) := (blk_cell BK162.out 2).trans rfl; have hfz61_0 := blk_frozen BK162.out 0; have hfz61_1 := blk_frozen BK162.out 1; have hfz61_2 := blk_frozen BK162.out 2))
                                go_meet
                                case rel => exact ⟨_, (0), (0), (0), (t165), (t165), (1), H', ⟨by have := HJ5.out; have := HJ14.out; first | omega | exact Nat.le_refl _⟩, ⟨by (with_reducible repeat (first | apply Kd.R_alloc | apply Kd.R_drewN | apply Kd.R_drew)); exact Kd.R_mono (Kd.R_far (p := ⟨gb162, 2, none⟩) (Kd.R_far (p := ⟨gb162, 1, none⟩) (Kd.R_far (p := ⟨gb162, 0, none⟩) (Kd.R_types HO_6.out BK162.out (by decide)) (fun _ hk => hk.2) (.int .i64 t165)) (fun _ hk => hk.2) (.int .i64 t165)) (fun _ hk => hk.2) (.int .i64 1)) (fun _ hk => trivial)⟩, ⟨by (with_reducible repeat (first | refine blk_drewN ?_ _ | refine blk_drew ?_ | refine blk_alloc ?_ _)); refine blk_far ?_ NB150_162.out _; (with_reducible repeat (first | refine blk_drewN ?_ _ | refine blk_drew ?_ | refine blk_alloc ?_ _)); refine blk_far ?_ NB150_162.out _; (with_reducible repeat (first | refine blk_drewN ?_ _ | refine blk_drew ?_ | refine blk_alloc ?_ _)); refine blk_far ?_ NB150_162.out _; (with_reducible repeat (first | refine blk_drewN ?_ _ | refine blk_drew ?_ | refine blk_alloc ?_ _)); exact BK150.out⟩, ⟨by (with_reducible repeat (first | refine blk_drewN ?_ _ | refine blk_drew ?_ | refine blk_alloc ?_ _)); refine blk_put (cs := #[.int .i64 t165, .int .i64 t165, .int .i64 1]) ?_ 2 _ rfl; (with_reducible repeat (first | refine blk_drewN ?_ _ | refine blk_drew ?_ | refine blk_alloc ?_ _)); refine blk_put (cs := #[.int .i64 t165, .int .i64 t160, .int .i64 1]) ?_ 1 _ rfl; (with_reducible repeat (first | refine blk_drewN ?_ _ | refine blk_drew ?_ | refine blk_alloc ?_ _)); refine blk_put (cs := #[.int .i64 t159, .int .i64 t160, .int .i64 1]) ?_ 0 _ rfl; (with_reducible repeat (first | refine blk_drewN ?_ _ | refine blk_drew ?_ | refine blk_alloc ?_ _)); exact BK162.out⟩, ⟨by repeat (first | (with_reducible first | exact HB.out | apply below_alloc | apply pw_below_drewN | apply below_drew1 | refine below_set ?_ GE150.out | refine below_set ?_ GE162.out) | exact HB.out)⟩⟩
                          · rw [if_neg c32] at H
                            have c32b0 : (t166 == 0) = false := beq_eq_false_iff_ne.mpr c32
                            have c32b1 : (t166 != 0) = true := bne_iff_ne.mpr c32
                            simp only [Option.some.injEq, Prod.mk.injEq] at H
                            obtain ⟨rfl, rfl, rfl, rfl⟩ := H
                            obtain ⟨Ao62, co62, eo62⟩ := Kd.R_slice HO_7.out
                            subst eo62
                            have p164 : 0 ≤ (0 : Int) := (by omega)
                            have q164 : 0 < (t155.length : Int) := of_decide_eq_true (by first | (with_reducible assumption) | assumption)
                            obtain ⟨ad164, e164, hx164_0⟩ := Kd.at_string (Kd.R_reads' HO_7.out).2.2 0 p164 q164
                            cases e164
                            have qi164 : (0 < t155.length) = True := eq_true (by omega)
                            (try rw [show ((0 : Int)).toNat = 0 from rfl] at hx164_0)
                            (try rw [Addr.add_zero'] at hx164_0)
                            have hn164_0 : ad164.block ≠ gb162 := Kd.own_blk (Kd.R_ne HO_7.out BK162.out (by decide))
                            have hn164_1 : ad164.block ≠ gb162 := Kd.own_blk (Kd.R_ne HO_7.out BK162.out (by decide))
                            have hn164_2 : ad164.block ≠ gb162 := Kd.own_blk (Kd.R_ne HO_7.out BK162.out (by decide))
                            replace hx164_0 := (cell_far (p := ⟨gb162, 0, none⟩) (by first | (rw [add_block]; exact hn164_0) | (show (Addr.add _ _).block ≠ _; rw [add_block]; exact hn164_0) | exact hn164_0) (.int .i64 t159)).trans hx164_0
                            replace hx164_0 := (cell_far (p := ⟨gb162, 1, none⟩) (by first | (rw [add_block]; exact hn164_1) | (show (Addr.add _ _).block ≠ _; rw [add_block]; exact hn164_1) | exact hn164_1) (.int .i64 t160)).trans hx164_0
                            replace hx164_0 := (cell_far (p := ⟨gb162, 2, none⟩) (by first | (rw [add_block]; exact hn164_2) | (show (Addr.add _ _).block ≠ _; rw [add_block]; exact hn164_2) | exact hn164_2) (.int .i64 1)).trans hx164_0
                            clear hn164_0
                            clear hn164_1
                            clear hn164_2
                            replace p164 := eq_true p164
                            replace q164 := eq_true q164
                            go_wp2_with (first | ((with_reducible refine gate_callee (f := 50) rfl ?_); refine goesL_ (some 69) rfl rfl Tryd.func50 (by kernel_rfl) rfl #[.string (rdOf ByteArray.empty t155 0), .int .i64 a1] rfl (by (try simp only [List.map_toArray, List.map_cons, List.map_nil]); first | done | rfl | (simp only [List.length_drop, List.length_take]; rfl)) ?_; (with_reducible refine (complineref17_Value.calls kj14 (rdOf ByteArray.empty t155 0) a1 t165 t166 _ A31.out).mono ?_); rintro e w63 ⟨rfl, hb⟩; refine ⟨_, rfl, ?_⟩; have n0_ := Aside0.mk (Kd.R_below (by (with_reducible repeat (first | apply Kd.R_alloc | apply Kd.R_drewN | apply Kd.R_drew)); exact (Kd.R_mono (Kd.R_far (p := ⟨gb162, 2, none⟩) (Kd.R_far (p := ⟨gb162, 1, none⟩) (Kd.R_far (p := ⟨gb162, 0, none⟩) (Kd.R_types HO_6.out BK162.out (by decide)) (fun _ hk => hk.2) (.int .i64 t159)) (fun _ hk => hk.2) (.int .i64 t160)) (fun _ hk => hk.2) (.int .i64 1)) (fun _ h_ => h_.1))) hb); have n1_ := Aside0.mk (Kd.R_below (by (with_reducible repeat (first | apply Kd.R_alloc | apply Kd.R_drewN | apply Kd.R_drew)); exact (Kd.R_mono (Kd.R_far (p := ⟨gb162, 2, none⟩) (Kd.R_far (p := ⟨gb162, 1, none⟩) (Kd.R_far (p := ⟨gb162, 0, none⟩) (Kd.R_types HO_7.out BK162.out (by decide)) (fun _ hk => hk.2) (.int .i64 t159)) (fun _ hk => hk.2) (.int .i64 t160)) (fun _ hk => hk.2) (.int .i64 1)) (fun _ h_ => h_.1))) hb); have n2_ := Aside0.mk (blk_below (g := gb150) (o := .cells #[.int .i64 0, .int .i64 0, .int .i64 0] 61 (0, 0)) (by (with_reducible repeat (first | refine blk_drewN ?_ _ | refine blk_drew ?_ | refine blk_alloc ?_ _)); refine blk_far ?_ NB150_162.out _; (with_reducible repeat (first | refine blk_drewN ?_ _ | refine blk_drew ?_ | refine blk_alloc ?_ _)); refine blk_far ?_ NB150_162.out _; (with_reducible repeat (first | refine blk_drewN ?_ _ | refine blk_drew ?_ | refine blk_alloc ?_ _)); refine blk_far ?_ NB150_162.out _; (with_reducible repeat (first | refine blk_drewN ?_ _ | refine blk_drew ?_ | refine blk_alloc ?_ _)); exact BK150.out) hb); have n3_ := Aside0.mk (blk_below (g := gb162) (o := .cells #[.int .i64 t159, .int .i64 t160, .int .i64 1] 61 (0, 0)) (by (with_reducible repeat (first | refine blk_drewN ?_ _ | refine blk_drew ?_ | refine blk_alloc ?_ _)); refine blk_put (cs := #[.int .i64 t159, .int .i64 t160, .int .i64 0]) ?_ 2 _ rfl; (with_reducible repeat (first | refine blk_drewN ?_ _ | refine blk_drew ?_ | refine blk_alloc ?_ _)); refine blk_put (cs := #[.int .i64 t159, .int .i64 0, .int .i64 0]) ?_ 1 _ rfl; (with_reducible repeat (first | refine blk_drewN ?_ _ | refine blk_drew ?_ | refine blk_alloc ?_ _)); refine blk_put (cs := #[.int .i64 0, .int .i64 0, .int .i64 0]) ?_ 0 _ rfl; (with_reducible repeat (first | refine blk_drewN ?_ _ | refine blk_drew ?_ | refine blk_alloc ?_ _)); exact BK162.out) hb); have n4_ := Aside0.mk (below_step (by repeat (first | (with_reducible first | exact HB.out | apply below_alloc | apply pw_below_drewN | apply below_drew1 | refine below_set ?_ GE150.out | refine below_set ?_ GE162.out) | exact HB.out)) hb); clear HO_6; clear HO_7; clear BK150; clear BK162; clear HB; have HO_6 := n0_; have HO_7 := n1_; have BK150 := n2_; have BK162 := n3_; have HB := n4_; clear n0_ n1_ n2_ n3_ n4_; (try clear hb); (try clear hb2); (try clear hk); (try clear hi); have hnb64 := NB150_162.out; have hnc64 := NB162_150.out; have hcz65_0 : w63.cell? ⟨gb150, 0, none⟩ = some (.int .i64 0) := (blk_cell BK150.out 0).trans rfl; have hcz65_1 : w63.cell? ⟨gb150, 1, none⟩ = some (.int .i64 0) := (blk_cell BK150.out 1).trans rfl; have hcz65_2 : w63.cell? ⟨gb150, 2, none⟩ = some (.int .i64 0) := (blk_cell BK150.out 2).trans rfl; have hfz65_0 := blk_frozen BK150.out 0; have hfz65_1 := blk_frozen BK150.out 1; have hfz65_2 := blk_frozen BK150.out 2))
                            refine bodyPost_ret (results_ct rfl _ _ gb150 61 #[.int .i64 0, .int .i64 0, .int .i64 0] (0, 0) _ rfl (by (with_reducible repeat (first | refine blk_drewN ?_ _ | refine blk_drew ?_ | refine blk_alloc ?_ _)); refine blk_put (cs := #[.int .i64 0, .int .i64 0, .int .i64 0]) ?_ 2 _ rfl; (with_reducible repeat (first | refine blk_drewN ?_ _ | refine blk_drew ?_ | refine blk_alloc ?_ _)); refine blk_put (cs := #[.int .i64 0, .int .i64 0, .int .i64 0]) ?_ 1 _ rfl; (with_reducible repeat (first | refine blk_drewN ?_ _ | refine blk_drew ?_ | refine blk_alloc ?_ _)); refine blk_put (cs := #[.int .i64 0, .int .i64 0, .int .i64 0]) ?_ 0 _ rfl; (with_reducible repeat (first | refine blk_drewN ?_ _ | refine blk_drew ?_ | refine blk_alloc ?_ _)); exact BK150.out) Tryd.underlying61 rfl (by kernel_rfl)) rfl ?_
                            exact ⟨by first | rfl | (simp [errW_none, errW_some] <;> rfl) | (simp [*, errW_none, errW_some] <;> rfl), by repeat (first | (with_reducible first | exact HB.out | apply below_alloc | apply pw_below_drewN | apply below_drew1 | refine below_set ?_ GE150.out | refine below_set ?_ GE162.out) | exact HB.out)⟩
                        · rw [if_neg c30] at H
                          exact absurd H (by simp)
                    case rest =>
                      clear HC25
                      try clear c1
                      try clear p1
                      try clear q1
                      try clear hx1
                      try clear qi1
                      try clear c2
                      try clear p2
                      try clear c3
                      try clear c4
                      try clear c4b0
                      try clear c4b1
                      try clear c5
                      try clear c6
                      try clear c11
                      try clear c11b0
                      try clear c11b1
                      try clear c13
                      try clear p15
                      try clear q15
                      try clear hx15
                      try clear qi15
                      try clear c16
                      try clear c16b0
                      try clear c16b1
                      try clear p16
                      try clear q16
                      try clear hx16
                      try clear qi16
                      try clear c17
                      try clear c17b0
                      try clear c17b1
                      try clear c18
                      try clear c18b0
                      try clear c18b1
                      try clear c20
                      try clear c23
                      try clear c23b0
                      try clear c23b1
                      try clear c24
                      try clear c24b0
                      try clear c24b1
                      try clear c27
                      try clear c29
                      try clear c29b0
                      try clear c29b1
                      try clear c30
                      try clear c30b0
                      try clear c30b1
                      try clear c32
                      try clear c32b0
                      try clear c32b1
                      try clear c33
                      try clear c33b0
                      try clear c33b1
                      try clear c34
                      try clear c34b0
                      try clear c34b1
                      try clear c36
                      try clear c36b0
                      try clear c36b1
                      try clear c37
                      try clear c37b0
                      try clear c41
                      try clear c46
                      try clear c49
                      try clear c50
                      try clear c51
                      try clear c53
                      try clear c53b0
                      try clear c56
                      try clear c60
                      try clear c64
                      try clear hcz14_0
                      try clear hcz14_1
                      try clear hcz14_2
                      try clear hcz21_0
                      try clear hcz21_1
                      try clear hcz21_2
                      try clear hcz28_0
                      try clear hcz28_1
                      try clear hcz28_2
                      try clear hcz42_0
                      try clear hcz42_1
                      try clear hcz42_2
                      try clear hcz47_0
                      try clear hcz47_1
                      try clear hcz47_2
                      try clear hcz52_0
                      try clear hcz52_1
                      try clear hcz52_2
                      try clear hcz57_0
                      try clear hcz57_1
                      try clear hcz57_2
                      try clear hcz61_0
                      try clear hcz61_1
                      try clear hcz61_2
                      try clear hcz65_0
                      try clear hcz65_1
                      try clear hcz65_2
                      try clear hfz14_0
                      try clear hfz14_1
                      try clear hfz14_2
                      try clear hfz21_0
                      try clear hfz21_1
                      try clear hfz21_2
                      try clear hfz28_0
                      try clear hfz28_1
                      try clear hfz28_2
                      try clear hfz42_0
                      try clear hfz42_1
                      try clear hfz42_2
                      try clear hfz47_0
                      try clear hfz47_1
                      try clear hfz47_2
                      try clear hfz52_0
                      try clear hfz52_1
                      try clear hfz52_2
                      try clear hfz57_0
                      try clear hfz57_1
                      try clear hfz57_2
                      try clear hfz61_0
                      try clear hfz61_1
                      try clear hfz61_2
                      try clear hfz65_0
                      try clear hfz65_1
                      try clear hfz65_2
                      try clear hx154_0
                      try clear hx158_0
                      try clear hx163_0
                      try clear hx164_0
                      try clear hx167_0
                      try clear p1
                      try clear p15
                      try clear p154
                      try clear p158
                      try clear p163
                      try clear p164
                      try clear p167
                      try clear p2
                      try clear q1
                      try clear q15
                      try clear q154
                      try clear q158
                      try clear q163
                      try clear q164
                      try clear q167
                      obtain ⟨kq, x151000_24, x151001_24, x151002_24, x163000_24, x163001_24, x163002_24, HA, HJ24, HO_6, BK150, BK162, HB⟩ := hcut
                      cases kq with
                      | zero => exact absurd HA.out (by simp [complineref18_Item.j2])
                      | succ kj24 =>
                        have H := HA.out
                        clear HA
                        simp only [complineref18_Item.j2] at H
                        by_cases c66 : (t151.length : Int) = 2
                        · rw [if_pos c66] at H
                          have c66b0 : ((t151.length : Int) == 2) = true := beq_iff_eq.mpr c66
                          have c66b1 : ((t151.length : Int) != 2) = false := bne_eq_false_iff_eq.mpr c66
                          clear c66
                          by_cases c67 : 1 < (t151.length : Int)
                          · rw [if_pos c67] at H
                            have c67b0 : decide (1 < (t151.length : Int)) = true := decide_eq_true c67
                            have c67b1 : decide (1 < t151.length) = true := decide_eq_true (by omega)
                            clear c67
                            replace H := Option.bind_eq_some_iff.mp H
                            obtain ⟨⟨t171, t172⟩, A680, H⟩ := H
                            replace H : (if t172 = 0 then (if t171 = 0 then (some (0, 0, 0, 1)) else (some (x163000_24, x163001_24, t171, 0))) else (some (0, 0, 0, t172))) = some (r1, r2, r3, r4) := H
                            have A68 := Aside0.mk A680
                            clear A680
                            by_cases c69 : t172 = 0
                            · rw [if_pos c69] at H
                              have c69b0 : (t172 == 0) = true := beq_iff_eq.mpr c69
                              have c69b1 : (t172 != 0) = false := bne_eq_false_iff_eq.mpr c69
                              clear c69
                              by_cases c70 : t171 = 0
                              · rw [if_pos c70] at H
                                have c70b0 : (t171 == 0) = true := beq_iff_eq.mpr c70
                                have c70b1 : (t171 != 0) = false := bne_eq_false_iff_eq.mpr c70
                                clear c70
                                simp only [Option.some.injEq, Prod.mk.injEq] at H
                                obtain ⟨rfl, rfl, rfl, rfl⟩ := H
                                have p170 : 0 ≤ (1 : Int) := (by omega)
                                have q170 : 1 < (t151.length : Int) := of_decide_eq_true (by first | (with_reducible assumption) | assumption)
                                obtain ⟨ad170, e170, hx170_0⟩ := Kd.at_string (Kd.R_reads' HO_6.out).2.2 1 p170 q170
                                obtain rfl : ad154 = ad170 := (by injection e170)
                                (try simp only [show (1 : Int).toNat = 1 from rfl, Nat.reduceMul, Nat.reduceEqDiff, Go.Addr.add, ↓reduceIte] at hx170_0)
                                have qi170 : (1 < t151.length) = True := eq_true (by omega)
                                (try rw [show ((1 : Int)).toNat = 1 from rfl] at hx170_0)
                                replace p170 := eq_true p170
                                replace q170 := eq_true q170
                                go_wp2_with (first | ((with_reducible refine gate_callee (f := 51) rfl ?_); refine goesL_ (some 106) rfl rfl Tryd.func51 (by kernel_rfl) rfl #[.string (rdOf ByteArray.empty t151 1)] rfl (by (try simp only [List.map_toArray, List.map_cons, List.map_nil]); first | done | rfl | (simp only [List.length_drop, List.length_take]; rfl)) ?_; (with_reducible refine (complineref17_Number.calls kj24 (rdOf ByteArray.empty t151 1) t171 t172 _ A68.out).mono ?_); rintro e w' ⟨rfl, ⟨nd, rfl⟩⟩; refine ⟨_, rfl, ?_⟩; (try (rw [drewN_self wc]; generalize hq_ : World.drewN wc _ = wc; have n0_ : Aside0 (Kd.R Kd.string 9 wc w.heap.size (fun _ => True) (.slice (some ad154) t151.length co9) t151) := ⟨by rw [← hq_]; exact (by (with_reducible repeat (first | apply Kd.R_alloc | apply Kd.R_drewN | apply Kd.R_drew)); exact HO_6.out)⟩; have n1_ : Aside0 (wc.heap[gb150]? = some (.cells #[.int .i64 x151000_24, .int .i64 x151001_24, .int .i64 x151002_24] 61 (0, 0))) := ⟨by rw [← hq_]; exact (by (with_reducible repeat (first | refine blk_drewN ?_ _ | refine blk_drew ?_ | refine blk_alloc ?_ _)); exact BK150.out)⟩; have n2_ : Aside0 (wc.heap[gb162]? = some (.cells #[.int .i64 x163000_24, .int .i64 x163001_24, .int .i64 x163002_24] 61 (0, 0))) := ⟨by rw [← hq_]; exact (by (with_reducible repeat (first | refine blk_drewN ?_ _ | refine blk_drew ?_ | refine blk_alloc ?_ _)); exact BK162.out)⟩; have n3_ : Aside0 (Below w.heap.size w wc) := ⟨by rw [← hq_]; exact (by repeat (first | (with_reducible first | exact HB.out | apply below_alloc | apply pw_below_drewN | apply below_drew1 | refine below_set ?_ GE150.out | refine below_set ?_ GE162.out) | exact HB.out))⟩; clear HO_6 BK150 BK162 HB hq_; have HO_6 := n0_; have BK150 := n1_; have BK162 := n2_; have HB := n3_; clear n0_ n1_ n2_ n3_)); have hnb71 := NB150_162.out; have hnc71 := NB162_150.out; have hcz72_0 : wc.cell? ⟨gb150, 0, none⟩ = some (.int .i64 x151000_24) := (blk_cell BK150.out 0).trans rfl; have hcz72_1 : wc.cell? ⟨gb150, 1, none⟩ = some (.int .i64 x151001_24) := (blk_cell BK150.out 1).trans rfl; have hcz72_2 : wc.cell? ⟨gb150, 2, none⟩ = some (.int .i64 x151002_24) := (blk_cell BK150.out 2).trans rfl; have hfz72_0 := blk_frozen BK150.out 0; have hfz72_1 := blk_frozen BK150.out 1; have hfz72_2 := blk_frozen BK150.out 2))
                                refine bodyPost_ret (results_ct rfl _ _ gb150 61 #[.int .i64 0, .int .i64 0, .int .i64 0] (0, 0) _ rfl (by (with_reducible repeat (first | refine blk_drewN ?_ _ | refine blk_drew ?_ | refine blk_alloc ?_ _)); refine blk_put (cs := #[.int .i64 0, .int .i64 0, .int .i64 x151002_24]) ?_ 2 _ rfl; (with_reducible repeat (first | refine blk_drewN ?_ _ | refine blk_drew ?_ | refine blk_alloc ?_ _)); refine blk_put (cs := #[.int .i64 0, .int .i64 x151001_24, .int .i64 x151002_24]) ?_ 1 _ rfl; (with_reducible repeat (first | refine blk_drewN ?_ _ | refine blk_drew ?_ | refine blk_alloc ?_ _)); refine blk_put (cs := #[.int .i64 x151000_24, .int .i64 x151001_24, .int .i64 x151002_24]) ?_ 0 _ rfl; (with_reducible repeat (first | refine blk_drewN ?_ _ | refine blk_drew ?_ | refine blk_alloc ?_ _)); exact BK150.out) Tryd.underlying61 rfl (by kernel_rfl)) rfl ?_
                                exact ⟨by first | rfl | (simp [errW_none, errW_some] <;> rfl) | (simp [*, errW_none, errW_some] <;> rfl), by repeat (first | (with_reducible first | exact HB.out | apply below_alloc | apply pw_below_drewN | apply below_drew1 | refine below_set ?_ GE150.out | refine below_set ?_ GE162.out) | exact HB.out)⟩
                              · rw [if_neg c70] at H
                                have c70b0 : (t171 == 0) = false := beq_eq_false_iff_ne.mpr c70
                                have c70b1 : (t171 != 0) = true := bne_iff_ne.mpr c70
                                simp only [Option.some.injEq, Prod.mk.injEq] at H
                                obtain ⟨rfl, rfl, rfl, rfl⟩ := H
                                have p170 : 0 ≤ (1 : Int) := (by omega)
                                have q170 : 1 < (t151.length : Int) := of_decide_eq_true (by first | (with_reducible assumption) | assumption)
                                obtain ⟨ad170, e170, hx170_0⟩ := Kd.at_string (Kd.R_reads' HO_6.out).2.2 1 p170 q170
                                obtain rfl : ad154 = ad170 := (by injection e170)
                                (try simp only [show (1 : Int).toNat = 1 from rfl, Nat.reduceMul, Nat.reduceEqDiff, Go.Addr.add, ↓reduceIte] at hx170_0)
                                have qi170 : (1 < t151.length) = True := eq_true (by omega)
                                (try rw [show ((1 : Int)).toNat = 1 from rfl] at hx170_0)
                                replace p170 := eq_true p170
                                replace q170 := eq_true q170
                                go_wp2_with (first | ((with_reducible refine gate_callee (f := 51) rfl ?_); refine goesL_ (some 106) rfl rfl Tryd.func51 (by kernel_rfl) rfl #[.string (rdOf ByteArray.empty t151 1)] rfl (by (try simp only [List.map_toArray, List.map_cons, List.map_nil]); first | done | rfl | (simp only [List.length_drop, List.length_take]; rfl)) ?_; (with_reducible refine (complineref17_Number.calls kj24 (rdOf ByteArray.empty t151 1) t171 t172 _ A68.out).mono ?_); rintro e w' ⟨rfl, ⟨nd, rfl⟩⟩; refine ⟨_, rfl, ?_⟩; (try (rw [drewN_self wc]; generalize hq_ : World.drewN wc _ = wc; have n0_ : Aside0 (Kd.R Kd.string 9 wc w.heap.size (fun _ => True) (.slice (some ad154) t151.length co9) t151) := ⟨by rw [← hq_]; exact (by (with_reducible repeat (first | apply Kd.R_alloc | apply Kd.R_drewN | apply Kd.R_drew)); exact HO_6.out)⟩; have n1_ : Aside0 (wc.heap[gb150]? = some (.cells #[.int .i64 x151000_24, .int .i64 x151001_24, .int .i64 x151002_24] 61 (0, 0))) := ⟨by rw [← hq_]; exact (by (with_reducible repeat (first | refine blk_drewN ?_ _ | refine blk_drew ?_ | refine blk_alloc ?_ _)); exact BK150.out)⟩; have n2_ : Aside0 (wc.heap[gb162]? = some (.cells #[.int .i64 x163000_24, .int .i64 x163001_24, .int .i64 x163002_24] 61 (0, 0))) := ⟨by rw [← hq_]; exact (by (with_reducible repeat (first | refine blk_drewN ?_ _ | refine blk_drew ?_ | refine blk_alloc ?_ _)); exact BK162.out)⟩; have n3_ : Aside0 (Below w.heap.size w wc) := ⟨by rw [← hq_]; exact (by repeat (first | (with_reducible first | exact HB.out | apply below_alloc | apply pw_below_drewN | apply below_drew1 | refine below_set ?_ GE150.out | refine below_set ?_ GE162.out) | exact HB.out))⟩; clear HO_6 BK150 BK162 HB hq_; have HO_6 := n0_; have BK150 := n1_; have BK162 := n2_; have HB := n3_; clear n0_ n1_ n2_ n3_)); have hnb73 := NB162_150.out; have hnc73 := NB150_162.out; have hcz74_0 : wc.cell? ⟨gb162, 0, none⟩ = some (.int .i64 x163000_24) := (blk_cell BK162.out 0).trans rfl; have hcz74_1 : wc.cell? ⟨gb162, 1, none⟩ = some (.int .i64 x163001_24) := (blk_cell BK162.out 1).trans rfl; have hcz74_2 : wc.cell? ⟨gb162, 2, none⟩ = some (.int .i64 x163002_24) := (blk_cell BK162.out 2).trans rfl; have hfz74_0 := blk_frozen BK162.out 0; have hfz74_1 := blk_frozen BK162.out 1; have hfz74_2 := blk_frozen BK162.out 2; have hcz75_0 : wc.cell? ⟨gb150, 0, none⟩ = some (.int .i64 x151000_24) := (blk_cell BK150.out 0).trans rfl; have hcz75_1 : wc.cell? ⟨gb150, 1, none⟩ = some (.int .i64 x151001_24) := (blk_cell BK150.out 1).trans rfl; have hcz75_2 : wc.cell? ⟨gb150, 2, none⟩ = some (.int .i64 x151002_24) := (blk_cell BK150.out 2).trans rfl; have hfz75_0 := blk_frozen BK150.out 0; have hfz75_1 := blk_frozen BK150.out 1; have hfz75_2 := blk_frozen BK150.out 2))
                                refine bodyPost_ret (results_ct rfl _ _ gb150 61 #[.int .i64 x163000_24, .int .i64 x163001_24, .int .i64 t171] (0, 0) _ rfl (by (with_reducible repeat (first | refine blk_drewN ?_ _ | refine blk_drew ?_ | refine blk_alloc ?_ _)); refine blk_put (cs := #[.int .i64 x163000_24, .int .i64 x163001_24, .int .i64 x151002_24]) ?_ 2 _ rfl; (with_reducible repeat (first | refine blk_drewN ?_ _ | refine blk_drew ?_ | refine blk_alloc ?_ _)); refine blk_put (cs := #[.int .i64 x163000_24, .int .i64 x151001_24, .int .i64 x151002_24]) ?_ 1 _ rfl; (with_reducible repeat (first | refine blk_drewN ?_ _ | refine blk_drew ?_ | refine blk_alloc ?_ _)); refine blk_put (cs := #[.int .i64 x151000_24, .int .i64 x151001_24, .int .i64 x151002_24]) ?_ 0 _ rfl; (with_reducible repeat (first | refine blk_drewN ?_ _ | refine blk_drew ?_ | refine blk_alloc ?_ _)); refine blk_far ?_ NB150_162.out _; (with_reducible repeat (first | refine blk_drewN ?_ _ | refine blk_drew ?_ | refine blk_alloc ?_ _)); exact BK150.out) Tryd.underlying61 rfl (by kernel_rfl)) rfl ?_
                                exact ⟨by first | rfl | (simp [errW_none, errW_some] <;> rfl) | (simp [*, errW_none, errW_some] <;> rfl), by repeat (first | (with_reducible first | exact HB.out | apply below_alloc | apply pw_below_drewN | apply below_drew1 | refine below_set ?_ GE150.out | refine below_set ?_ GE162.out) | exact HB.out)⟩
                            · rw [if_neg c69] at H
                              have c69b0 : (t172 == 0) = false := beq_eq_false_iff_ne.mpr c69
                              have c69b1 : (t172 != 0) = true := bne_iff_ne.mpr c69
                              simp only [Option.some.injEq, Prod.mk.injEq] at H
                              obtain ⟨rfl, rfl, rfl, rfl⟩ := H
                              have p170 : 0 ≤ (1 : Int) := (by omega)
                              have q170 : 1 < (t151.length : Int) := of_decide_eq_true (by first | (with_reducible assumption) | assumption)
                              obtain ⟨ad170, e170, hx170_0⟩ := Kd.at_string (Kd.R_reads' HO_6.out).2.2 1 p170 q170
                              obtain rfl : ad154 = ad170 := (by injection e170)
                              (try simp only [show (1 : Int).toNat = 1 from rfl, Nat.reduceMul, Nat.reduceEqDiff, Go.Addr.add, ↓reduceIte] at hx170_0)
                              have qi170 : (1 < t151.length) = True := eq_true (by omega)
                              (try rw [show ((1 : Int)).toNat = 1 from rfl] at hx170_0)
                              replace p170 := eq_true p170
                              replace q170 := eq_true q170
                              go_wp2_with (first | ((with_reducible refine gate_callee (f := 51) rfl ?_); refine goesL_ (some 106) rfl rfl Tryd.func51 (by kernel_rfl) rfl #[.string (rdOf ByteArray.empty t151 1)] rfl (by (try simp only [List.map_toArray, List.map_cons, List.map_nil]); first | done | rfl | (simp only [List.length_drop, List.length_take]; rfl)) ?_; (with_reducible refine (complineref17_Number.calls kj24 (rdOf ByteArray.empty t151 1) t171 t172 _ A68.out).mono ?_); rintro e w' ⟨rfl, ⟨nd, rfl⟩⟩; refine ⟨_, rfl, ?_⟩; (try (rw [drewN_self wc]; generalize hq_ : World.drewN wc _ = wc; have n0_ : Aside0 (Kd.R Kd.string 9 wc w.heap.size (fun _ => True) (.slice (some ad154) t151.length co9) t151) := ⟨by rw [← hq_]; exact (by (with_reducible repeat (first | apply Kd.R_alloc | apply Kd.R_drewN | apply Kd.R_drew)); exact HO_6.out)⟩; have n1_ : Aside0 (wc.heap[gb150]? = some (.cells #[.int .i64 x151000_24, .int .i64 x151001_24, .int .i64 x151002_24] 61 (0, 0))) := ⟨by rw [← hq_]; exact (by (with_reducible repeat (first | refine blk_drewN ?_ _ | refine blk_drew ?_ | refine blk_alloc ?_ _)); exact BK150.out)⟩; have n2_ : Aside0 (wc.heap[gb162]? = some (.cells #[.int .i64 x163000_24, .int .i64 x163001_24, .int .i64 x163002_24] 61 (0, 0))) := ⟨by rw [← hq_]; exact (by (with_reducible repeat (first | refine blk_drewN ?_ _ | refine blk_drew ?_ | refine blk_alloc ?_ _)); exact BK162.out)⟩; have n3_ : Aside0 (Below w.heap.size w wc) := ⟨by rw [← hq_]; exact (by repeat (first | (with_reducible first | exact HB.out | apply below_alloc | apply pw_below_drewN | apply below_drew1 | refine below_set ?_ GE150.out | refine below_set ?_ GE162.out) | exact HB.out))⟩; clear HO_6 BK150 BK162 HB hq_; have HO_6 := n0_; have BK150 := n1_; have BK162 := n2_; have HB := n3_; clear n0_ n1_ n2_ n3_)); have hnb76 := NB150_162.out; have hnc76 := NB162_150.out; have hcz77_0 : wc.cell? ⟨gb150, 0, none⟩ = some (.int .i64 x151000_24) := (blk_cell BK150.out 0).trans rfl; have hcz77_1 : wc.cell? ⟨gb150, 1, none⟩ = some (.int .i64 x151001_24) := (blk_cell BK150.out 1).trans rfl; have hcz77_2 : wc.cell? ⟨gb150, 2, none⟩ = some (.int .i64 x151002_24) := (blk_cell BK150.out 2).trans rfl; have hfz77_0 := blk_frozen BK150.out 0; have hfz77_1 := blk_frozen BK150.out 1; have hfz77_2 := blk_frozen BK150.out 2))
                              refine bodyPost_ret (results_ct rfl _ _ gb150 61 #[.int .i64 0, .int .i64 0, .int .i64 0] (0, 0) _ rfl (by (with_reducible repeat (first | refine blk_drewN ?_ _ | refine blk_drew ?_ | refine blk_alloc ?_ _)); refine blk_put (cs := #[.int .i64 0, .int .i64 0, .int .i64 x151002_24]) ?_ 2 _ rfl; (with_reducible repeat (first | refine blk_drewN ?_ _ | refine blk_drew ?_ | refine blk_alloc ?_ _)); refine blk_put (cs := #[.int .i64 0, .int .i64 x151001_24, .int .i64 x151002_24]) ?_ 1 _ rfl; (with_reducible repeat (first | refine blk_drewN ?_ _ | refine blk_drew ?_ | refine blk_alloc ?_ _)); refine blk_put (cs := #[.int .i64 x151000_24, .int .i64 x151001_24, .int .i64 x151002_24]) ?_ 0 _ rfl; (with_reducible repeat (first | refine blk_drewN ?_ _ | refine blk_drew ?_ | refine blk_alloc ?_ _)); exact BK150.out) Tryd.underlying61 rfl (by kernel_rfl)) rfl ?_
                              exact ⟨by first | rfl | (simp [errW_none, errW_some] <;> rfl) | (simp [*, errW_none, errW_some] <;> rfl), by repeat (first | (with_reducible first | exact HB.out | apply below_alloc | apply pw_below_drewN | apply below_drew1 | refine below_set ?_ GE150.out | refine below_set ?_ GE162.out) | exact HB.out)⟩
                          · rw [if_neg c67] at H
                            exact absurd H (by simp)
                        · rw [if_neg c66] at H
                          have c66b0 : ((t151.length : Int) == 2) = false := beq_eq_false_iff_ne.mpr c66
                          have c66b1 : ((t151.length : Int) != 2) = true := bne_iff_ne.mpr c66
                          simp only [Option.some.injEq, Prod.mk.injEq] at H
                          obtain ⟨rfl, rfl, rfl, rfl⟩ := H
                          have hnb78 := NB162_150.out
                          have hnc78 := NB150_162.out
                          have hcz79_0 : wc.cell? ⟨gb162, 0, none⟩ = some (.int .i64 x163000_24) := (blk_cell BK162.out 0).trans rfl
                          have hcz79_1 : wc.cell? ⟨gb162, 1, none⟩ = some (.int .i64 x163001_24) := (blk_cell BK162.out 1).trans rfl
                          have hcz79_2 : wc.cell? ⟨gb162, 2, none⟩ = some (.int .i64 x163002_24) := (blk_cell BK162.out 2).trans rfl
                          have hfz79_0 := blk_frozen BK162.out 0
                          have hfz79_1 := blk_frozen BK162.out 1
                          have hfz79_2 := blk_frozen BK162.out 2
                          have hcz80_0 : wc.cell? ⟨gb150, 0, none⟩ = some (.int .i64 x151000_24) := (blk_cell BK150.out 0).trans rfl
                          have hcz80_1 : wc.cell? ⟨gb150, 1, none⟩ = some (.int .i64 x151001_24) := (blk_cell BK150.out 1).trans rfl
                          have hcz80_2 : wc.cell? ⟨gb150, 2, none⟩ = some (.int .i64 x151002_24) := (blk_cell BK150.out 2).trans rfl
                          have hfz80_0 := blk_frozen BK150.out 0
                          have hfz80_1 := blk_frozen BK150.out 1
                          have hfz80_2 := blk_frozen BK150.out 2
                          go_wp2
                          refine bodyPost_ret (results_ct rfl _ _ gb150 61 #[.int .i64 x163000_24, .int .i64 x163001_24, .int .i64 x163002_24] (0, 0) _ rfl (by (with_reducible repeat (first | refine blk_drewN ?_ _ | refine blk_drew ?_ | refine blk_alloc ?_ _)); refine blk_put (cs := #[.int .i64 x163000_24, .int .i64 x163001_24, .int .i64 x151002_24]) ?_ 2 _ rfl; (with_reducible repeat (first | refine blk_drewN ?_ _ | refine blk_drew ?_ | refine blk_alloc ?_ _)); refine blk_put (cs := #[.int .i64 x163000_24, .int .i64 x151001_24, .int .i64 x151002_24]) ?_ 1 _ rfl; (with_reducible repeat (first | refine blk_drewN ?_ _ | refine blk_drew ?_ | refine blk_alloc ?_ _)); refine blk_put (cs := #[.int .i64 x151000_24, .int .i64 x151001_24, .int .i64 x151002_24]) ?_ 0 _ rfl; (with_reducible repeat (first | refine blk_drewN ?_ _ | refine blk_drew ?_ | refine blk_alloc ?_ _)); exact BK150.out) Tryd.underlying61 rfl (by kernel_rfl)) rfl ?_
                          exact ⟨by first | rfl | (simp [errW_none, errW_some] <;> rfl) | (simp [*, errW_none, errW_some] <;> rfl), by repeat (first | (with_reducible first | exact HB.out | apply below_alloc | apply pw_below_drewN | apply below_drew1 | refine below_set ?_ GE150.out | refine below_set ?_ GE162.out) | exact HB.out)⟩
                  · rw [if_neg c24] at H
                    exact absurd H (by simp)
                · rw [if_neg c23] at H
                  have c23b0 : (t161 == 0) = false := beq_eq_false_iff_ne.mpr c23
                  have c23b1 : (t161 != 0) = true := bne_iff_ne.mpr c23
                  simp only [Option.some.injEq, Prod.mk.injEq] at H
                  obtain ⟨rfl, rfl, rfl, rfl⟩ := H
                  go_wp2_with (first | ((with_reducible refine gate_callee (f := 49) rfl ?_); refine goesL_ (some 49) rfl rfl Tryd.func49 (by kernel_rfl) rfl #[.int .i64 a1] rfl (by (try simp only [List.map_toArray, List.map_cons, List.map_nil]); first | done | rfl | (simp only [List.length_drop, List.length_take]; rfl)) ?_; (with_reducible refine (complineref17_Limits.calls a1 t159 t160 t161 _ A22.out).mono ?_); rintro e w' ⟨rfl, ⟨nd, rfl⟩⟩; refine ⟨_, rfl, ?_⟩; (try (rw [drewN_self wc]; generalize hq_ : World.drewN wc _ = wc; have n0_ : Aside0 (Kd.R Kd.string 9 wc w.heap.size (fun k_ => some k_ ≠ (v156 : Value).ownBlock) (.slice (some ad154) t151.length co9) t151) := ⟨by rw [← hq_]; exact (by (with_reducible repeat (first | apply Kd.R_alloc | apply Kd.R_drewN | apply Kd.R_drew)); exact HO_6.out)⟩; have n1_ : Aside0 (Kd.R Kd.string 9 wc w.heap.size (fun k_ => some k_ ≠ (.slice (some ad154) t151.length co9 : Value).ownBlock) v156 t155) := ⟨by rw [← hq_]; exact (by (with_reducible repeat (first | apply Kd.R_alloc | apply Kd.R_drewN | apply Kd.R_drew)); exact HO_7.out)⟩; have n2_ : Aside0 (wc.heap[gb150]? = some (.cells #[.int .i64 0, .int .i64 0, .int .i64 0] 61 (0, 0))) := ⟨by rw [← hq_]; exact (by (with_reducible repeat (first | refine blk_drewN ?_ _ | refine blk_drew ?_ | refine blk_alloc ?_ _)); exact BK150.out)⟩; have n3_ : Aside0 (Below w.heap.size w wc) := ⟨by rw [← hq_]; exact (by repeat (first | (with_reducible first | exact HB.out | apply below_alloc | apply pw_below_drewN | apply below_drew1 | refine below_set ?_ GE150.out) | exact HB.out))⟩; clear HO_6 HO_7 BK150 HB hq_; have HO_6 := n0_; have HO_7 := n1_; have BK150 := n2_; have HB := n3_; clear n0_ n1_ n2_ n3_)); have hcz81_0 : wc.cell? ⟨gb150, 0, none⟩ = some (.int .i64 0) := (blk_cell BK150.out 0).trans rfl; have hcz81_1 : wc.cell? ⟨gb150, 1, none⟩ = some (.int .i64 0) := (blk_cell BK150.out 1).trans rfl; have hcz81_2 : wc.cell? ⟨gb150, 2, none⟩ = some (.int .i64 0) := (blk_cell BK150.out 2).trans rfl; have hfz81_0 := blk_frozen BK150.out 0; have hfz81_1 := blk_frozen BK150.out 1; have hfz81_2 := blk_frozen BK150.out 2))
                  refine bodyPost_ret (results_ct rfl _ _ gb150 61 #[.int .i64 0, .int .i64 0, .int .i64 0] (0, 0) _ rfl (by (with_reducible repeat (first | refine blk_drewN ?_ _ | refine blk_drew ?_ | refine blk_alloc ?_ _)); refine blk_put (cs := #[.int .i64 0, .int .i64 0, .int .i64 0]) ?_ 2 _ rfl; (with_reducible repeat (first | refine blk_drewN ?_ _ | refine blk_drew ?_ | refine blk_alloc ?_ _)); refine blk_put (cs := #[.int .i64 0, .int .i64 0, .int .i64 0]) ?_ 1 _ rfl; (with_reducible repeat (first | refine blk_drewN ?_ _ | refine blk_drew ?_ | refine blk_alloc ?_ _)); refine blk_put (cs := #[.int .i64 0, .int .i64 0, .int .i64 0]) ?_ 0 _ rfl; (with_reducible repeat (first | refine blk_drewN ?_ _ | refine blk_drew ?_ | refine blk_alloc ?_ _)); exact BK150.out) Tryd.underlying61 rfl (by kernel_rfl)) rfl ?_
                  exact ⟨by first | rfl | (simp [errW_none, errW_some] <;> rfl) | (simp [*, errW_none, errW_some] <;> rfl), by repeat (first | (with_reducible first | exact HB.out | apply below_alloc | apply pw_below_drewN | apply below_drew1 | refine below_set ?_ GE150.out) | exact HB.out)⟩
  · rw [if_neg c4] at H
    exact absurd H (by simp)

end Go.Proofs.YtfkhifbllpibjaaDoor.PFpa
