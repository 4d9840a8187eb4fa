-- Written by a program of this session (gprint.py) over the kit's print.
import Derived.Test.YtjddfpciblhpaaaGreatDoorPSppx0
import Derived.Test.YtjddfpciblhpaaaGreatDoorPSppx9
import Derived.Test.YtjddfpciblhpaaaGreatDoorPSppx10
import Derived.Test.YtjddfpciblhpaaaGreatDoorPSppx11
namespace Go.Proofs.YtjddfpciblhpaaaGreatDoor.PSpp
open Go.RowKit Go.Proofs.YtjddfpciblhpaaaGreatDoorW.PrintWords Go.Proofs.YtjddfpciblhpaaaGreatDoorW.PrintLast Go.Proofs.YtjddfpciblhpaaaGreatDoorW.PrintMore
attribute [local go_sem] max2_int min2_int max_two min_two max_three min_three max_four min_four   -- for this text's walks alone
set_option linter.unusedVariables false
set_option linter.unusedSimpArgs false

/-! ### complineref18_Item: function 42 -/
mutual
def complineref18_Item.j0 : Nat → Int → List ByteArray → List ByteArray → Bool → Option (Int × Int × Int × Int)
 | 0, _, _, _, _ => none
 | k + 1, x1, x6, x7, x30 => if x30 = true then (some (0, 0, 0, 2)) else (if (x6.length : Int) = 2 then (if 0 < (x6.length : Int) then (if (rdOf ByteArray.empty x6 0).toList = ([42] : List UInt8) then (complineref18_Item.j1 k x1 x6 x7 false) else (complineref18_Item.j1 k x1 x6 x7 (decide ((x7.length : Int) < 2)))) else (none)) else (complineref18_Item.j1 k x1 x6 x7 false))
def complineref18_Item.j1 : Nat → Int → List ByteArray → List ByteArray → Bool → Option (Int × Int × Int × Int)
 | 0, _, _, _, _ => none
 | k + 1, x1, x6, x7, x45 => if x45 = true then (some (0, 0, 0, 2)) else ((complineref17_Limits.f x1).bind fun bt167 => (if bt167.2.2 = 0 then (if 0 < (x6.length : Int) then (if (rdOf ByteArray.empty x6 0).toList = ([42] : List UInt8) then (complineref18_Item.j2 k x6 bt167.1 bt167.2.1 1) else (if 0 < (x7.length : Int) then ((complineref17_Value.f k (rdOf ByteArray.empty x7 0) x1).bind fun bt173 => (if bt173.2 = 0 then (if (x7.length : Int) = 2 then (if 1 < (x7.length : Int) then ((complineref17_Value.f k (rdOf ByteArray.empty x7 1) x1).bind fun bt176 => (if bt176.2 = 0 then (if bt176.1 < bt173.1 then (some (0, 0, 0, 12)) else (complineref18_Item.j2 k x6 bt173.1 bt176.1 1)) else (some (0, 0, 0, bt176.2)))) else (none)) else (if bt173.1 < bt173.1 then (some (0, 0, 0, 12)) else (complineref18_Item.j2 k x6 bt173.1 bt173.1 1))) else (some (0, 0, 0, bt173.2)))) else (none))) else (none)) else (some (0, 0, 0, bt167.2.2))))
def complineref18_Item.j2 : Nat → List ByteArray → Int → Int → Int → Option (Int × Int × Int × Int)
 | 0, _, _, _, _ => none
 | k + 1, x6, x171000, x171001, x171002 => if (x6.length : Int) = 2 then (if 1 < (x6.length : Int) then ((complineref17_Number.f k (rdOf ByteArray.empty x6 1)).bind fun bt179 => (if bt179.2 = 0 then (if bt179.1 = 0 then (some (0, 0, 0, 1)) else (some (x171000, x171001, bt179.1, 0))) else (some (0, 0, 0, bt179.2)))) else (none)) else (some (x171000, x171001, x171002, 0))
end
def complineref18_Item.f (k : Nat) (a0 : ByteArray) (a1 : Int) : Option (Int × Int × Int × Int) := (complineref18_Split.f k a0 47).bind fun t159 => (if 0 < (t159.length : Int) then ((complineref18_Split.f k (rdOf ByteArray.empty t159 0) 45).bind fun t163 => (if (t159.length : Int) > 2 then (complineref18_Item.j0 k a1 t159 t163 true) else (complineref18_Item.j0 k a1 t159 t163 (decide ((t163.length : Int) > 2))))) else (none))
theorem complineref18_Item.mono_l : ∀ k, (∀ y0 y1 y2 y3, LeO (complineref18_Item.j0 k y0 y1 y2 y3) (complineref18_Item.j0 (k + 1) y0 y1 y2 y3)) ∧ (∀ y0 y1 y2 y3, LeO (complineref18_Item.j1 k y0 y1 y2 y3) (complineref18_Item.j1 (k + 1) y0 y1 y2 y3)) ∧ (∀ y0 y1 y2 y3, LeO (complineref18_Item.j2 k y0 y1 y2 y3) (complineref18_Item.j2 (k + 1) y0 y1 y2 y3))
 | 0 => ⟨fun _ _ _ _ r h => by simp [complineref18_Item.j0] at h, fun _ _ _ _ r h => by simp [complineref18_Item.j1] at h, fun _ _ _ _ r h => by simp [complineref18_Item.j2] at h⟩
 | k + 1 => by
  obtain ⟨ih0, ih1, ih2⟩ := complineref18_Item.mono_l k
  refine ⟨?_, ?_, ?_⟩
  ·intro y0 y1 y2 y3
   unfold complineref18_Item.j0
   repeat' first
   | (with_reducible exact ih0 _ _ _ _)
   | (with_reducible exact ih1 _ _ _ _)
   | (with_reducible exact ih2 _ _ _ _)
   | (with_reducible exact complineref17_Number.mono _ _)
   | (with_reducible exact complineref17_Value.mono _ _ _)
   | (with_reducible exact complineref18_Split.mono _ _ _)
   | (with_reducible exact LeO.refl _)
   | (with_reducible exact LeO.none _)
   | (with_reducible refine LeO.ite ?_ ?_)
   | (with_reducible refine LeO.bind ?_ (fun _ => ?_))
   | exact ih0 _ _ _ _
   | exact ih1 _ _ _ _
   | exact ih2 _ _ _ _
   | exact complineref17_Number.mono _ _
   | exact complineref17_Value.mono _ _ _
   | exact complineref18_Split.mono _ _ _
   | exact LeO.none _
   | refine LeO.ite ?_ ?_
   | refine LeO.bind ?_ (fun _ => ?_)
  ·intro y0 y1 y2 y3
   unfold complineref18_Item.j1
   repeat' first
   | (with_reducible exact ih0 _ _ _ _)
   | (with_reducible exact ih1 _ _ _ _)
   | (with_reducible exact ih2 _ _ _ _)
   | (with_reducible exact complineref17_Number.mono _ _)
   | (with_reducible exact complineref17_Value.mono _ _ _)
   | (with_reducible exact complineref18_Split.mono _ _ _)
   | (with_reducible exact LeO.refl _)
   | (with_reducible exact LeO.none _)
   | (with_reducible refine LeO.ite ?_ ?_)
   | (with_reducible refine LeO.bind ?_ (fun _ => ?_))
   | exact ih0 _ _ _ _
   | exact ih1 _ _ _ _
   | exact ih2 _ _ _ _
   | exact complineref17_Number.mono _ _
   | exact complineref17_Value.mono _ _ _
   | exact complineref18_Split.mono _ _ _
   | exact LeO.none _
   | refine LeO.ite ?_ ?_
   | refine LeO.bind ?_ (fun _ => ?_)
  ·intro y0 y1 y2 y3
   unfold complineref18_Item.j2
   repeat' first
   | (with_reducible exact ih0 _ _ _ _)
   | (with_reducible exact ih1 _ _ _ _)
   | (with_reducible exact ih2 _ _ _ _)
   | (with_reducible exact complineref17_Number.mono _ _)
   | (with_reducible exact complineref17_Value.mono _ _ _)
   | (with_reducible exact complineref18_Split.mono _ _ _)
   | (with_reducible exact LeO.refl _)
   | (with_reducible exact LeO.none _)
   | (with_reducible refine LeO.ite ?_ ?_)
   | (with_reducible refine LeO.bind ?_ (fun _ => ?_))
   | exact ih0 _ _ _ _
   | exact ih1 _ _ _ _
   | exact ih2 _ _ _ _
   | exact complineref17_Number.mono _ _
   | exact complineref17_Value.mono _ _ _
   | exact complineref18_Split.mono _ _ _
   | exact LeO.none _
   | refine LeO.ite ?_ ?_
   | refine LeO.bind ?_ (fun _ => ?_)
theorem complineref18_Item.mono : ∀ a0 a1 k, LeO (complineref18_Item.f k a0 a1) (complineref18_Item.f (k + 1) a0 a1) := by
 intro a0 a1 k
 obtain ⟨ih0, ih1, ih2⟩ := complineref18_Item.mono_l k
 unfold complineref18_Item.f
 repeat' first
   | (with_reducible exact ih0 _ _ _ _)
   | (with_reducible exact ih1 _ _ _ _)
   | (with_reducible exact ih2 _ _ _ _)
   | (with_reducible exact complineref17_Number.mono _ _)
   | (with_reducible exact complineref17_Value.mono _ _ _)
   | (with_reducible exact complineref18_Split.mono _ _ _)
   | (with_reducible exact LeO.refl _)
   | (with_reducible exact LeO.none _)
   | (with_reducible refine LeO.ite ?_ ?_)
   | (with_reducible refine LeO.bind ?_ (fun _ => ?_))
   | exact ih0 _ _ _ _
   | exact ih1 _ _ _ _
   | exact ih2 _ _ _ _
   | exact complineref17_Number.mono _ _
   | exact complineref17_Value.mono _ _ _
   | exact complineref18_Split.mono _ _ _
   | exact LeO.none _
   | refine LeO.ite ?_ ?_
   | refine LeO.bind ?_ (fun _ => ?_)
set_option maxHeartbeats 8000000 in
set_option maxRecDepth 100000 in
theorem complineref18_Item.calls (k : Nat) (a0 : ByteArray) (a1 : Int) (r1 : Int) (r2 : Int) (r3 : Int) (r4 : Int) (w : World) (h : complineref18_Item.f k a0 a1 = some (r1, r2, r3, r4)) :
  Calls Tryz.prog 42 #[.string a0, .int .i64 a1] w fun e w' => e = .returned (.tuple #[.agg #[.int .i64 r1, .int .i64 r2, .int .i64 r3], .int .i64 r4]) ∧ Below w.heap.size w w' := by
 have hu76 := Tryz.underlying76
 have HB := Aside0.mk (Below.refl w.heap.size w)
 have H : ((complineref18_Split.f k a0 47).bind fun t159 => (if 0 < (t159.length : Int) then ((complineref18_Split.f k (rdOf ByteArray.empty t159 0) 45).bind fun t163 => (if (t159.length : Int) > 2 then (complineref18_Item.j0 k a1 t159 t163 true) else (complineref18_Item.j0 k a1 t159 t163 (decide ((t163.length : Int) > 2))))) else (none))) = some (r1, r2, r3, r4) := h
 clear h
 replace H := Option.bind_eq_some_iff.mp H
 obtain ⟨t159, A30, H⟩ := H
 replace H : (if 0 < (t159.length : Int) then ((complineref18_Split.f k (rdOf ByteArray.empty t159 0) 45).bind fun t163 => (if (t159.length : Int) > 2 then (complineref18_Item.j0 k a1 t159 t163 true) else (complineref18_Item.j0 k a1 t159 t163 (decide ((t163.length : Int) > 2))))) else (none)) = some (r1, r2, r3, r4) := H
 have A3 := Aside0.mk A30
 clear A30
 by_cases c4 : 0 < (t159.length : Int)
 ·rw [if_pos c4] at H
  have c4b0 : decide (0 < (t159.length : Int)) = true := decide_eq_true c4
  have c4b1 : decide (0 < t159.length) = true := decide_eq_true (by omega)
  clear c4
  replace H := Option.bind_eq_some_iff.mp H
  obtain ⟨t163, A50, H⟩ := H
  replace H : (if (t159.length : Int) > 2 then (complineref18_Item.j0 k a1 t159 t163 true) else (complineref18_Item.j0 k a1 t159 t163 (decide ((t163.length : Int) > 2)))) = some (r1, r2, r3, r4) := H
  have A5 := Aside0.mk A50
  clear A50
  have HC6 := Aside0.mk H
  clear H
  go_enter Tryz.func42, Tryz.ntmps42
  go_upto_region 3 with (first | ((with_reducible refine gate_dst (N := 4) rfl ?_); (try (refine gate_guard (by rfl) ?_; dsimp only)); refine box_event ?hg (N := 4) ?hd (cs := #[.int .i64 0, .int .i64 0, .int .i64 0]) (t := 76) ?hr ?_; (case hd => rfl); (case hg => rfl); (case hr => first | (go_simp; done) | (go_simp; rfl)); intro gb158 hg w7 hbox hb; have n0_ := Aside0.mk (below_step (by repeat (first | (with_reducible first | exact HB.out | apply below_alloc | apply pw_below_drewN | apply below_drew1) | exact HB.out)) hb); have n1_ := Aside0.mk (hbox); have n2_ := Aside0.mk ((by rw [hg]; exact (below_size (by repeat (first | (with_reducible first | exact HB.out | apply below_alloc | apply pw_below_drewN | apply below_drew1) | exact HB.out))) : w.heap.size ≤ gb158)); have n3_ := Aside0.mk ((by rw [hg]; exact (below_size (by repeat (first | (with_reducible first | exact HB.out | apply below_alloc | apply pw_below_drewN | apply below_drew1) | exact HB.out))) : w.heap.size ≤ gb158)); clear HB; have HB := n0_; have BK158 := n1_; have GW158 := n2_; have GE158 := n3_; clear n0_ n1_ n2_ n3_; clear hb hbox hg) | ((with_reducible refine gate_callee (f := 41) rfl ?_); refine goesL_ (some 18) rfl rfl Tryz.func41 (by kernel_rfl) rfl #[.string a0, .int .u8 47] rfl (by (try simp only [List.map_toArray, List.map_cons, List.map_nil]); first | done | rfl | (simp only [List.length_drop, List.length_take]; rfl)) ?_; (with_reducible refine (complineref18_Split.calls k a0 47 t159 _ A3.out).mono ?_); rintro e w8 ⟨v160, rfl, ho0, hb⟩; refine ⟨_, rfl, ?_⟩; have n0_ := Aside0.mk (Kd.R_lower ho0 (below_size (by repeat (first | (with_reducible first | exact HB.out | apply below_alloc | apply pw_below_drewN | apply below_drew1 | refine below_set ?_ GE158.out) | exact HB.out)))); have n1_ := Aside0.mk (blk_below (g := gb158) (o := .cells #[.int .i64 0, .int .i64 0, .int .i64 0] 76 (0, 0)) (by (with_reducible repeat (first | refine blk_drewN ?_ _ | refine blk_drew ?_ | refine blk_alloc ?_ _)); exact BK158.out) hb); have n2_ := Aside0.mk (below_step (by repeat (first | (with_reducible first | exact HB.out | apply below_alloc | apply pw_below_drewN | apply below_drew1 | refine below_set ?_ GE158.out) | exact HB.out)) hb); clear BK158; clear HB; have HO161 := n0_; have BK158 := n1_; have HB := n2_; clear n0_ n1_ n2_; (try clear hb); (try clear hb2); (try clear hk); (try clear hi); (try clear ho0); obtain ⟨Ao9, co9, eo9⟩ := Kd.R_slice HO161.out; subst eo9; have p162 : 0 ≤ (0 : Int) := (by omega); have q162 : 0 < (t159.length : Int) := of_decide_eq_true (by first | (with_reducible assumption) | assumption); obtain ⟨ad162, e162, hx162_0⟩ := Kd.at_string (Kd.R_reads' HO161.out).2.2 0 p162 q162; cases e162; have qi162 : (0 < t159.length) = True := eq_true (by omega); (try rw [show ((0 : Int)).toNat = 0 from rfl] at hx162_0); (try rw [Addr.add_zero'] at hx162_0); replace p162 := eq_true p162; replace q162 := eq_true q162) | ((with_reducible refine gate_callee (f := 41) rfl ?_); refine goesL_ (some 22) rfl rfl Tryz.func41 (by kernel_rfl) rfl #[.string (rdOf ByteArray.empty t159 0), .int .u8 45] rfl (by (try simp only [List.map_toArray, List.map_cons, List.map_nil]); first | done | rfl | (simp only [List.length_drop, List.length_take]; rfl)) ?_; (with_reducible refine (complineref18_Split.calls k (rdOf ByteArray.empty t159 0) 45 t163 _ A5.out).mono ?_); rintro e w10 ⟨v164, rfl, ho0, hb⟩; refine ⟨_, rfl, ?_⟩; have n0_ := Aside0.mk (Kd.R_elder' (by (with_reducible repeat (first | apply Kd.R_alloc | apply Kd.R_drewN | apply Kd.R_drew)); exact HO161.out) (Kd.R_base ho0) hb); have n1_ := Aside0.mk (Kd.R_lower (Kd.R_new' ho0 (Kd.R_lt (by (with_reducible repeat (first | apply Kd.R_alloc | apply Kd.R_drewN | apply Kd.R_drew)); exact HO161.out))) (below_size (by repeat (first | (with_reducible first | exact HB.out | apply below_alloc | apply pw_below_drewN | apply below_drew1 | refine below_set ?_ GE158.out) | exact HB.out)))); have n2_ := Aside0.mk (blk_below (g := gb158) (o := .cells #[.int .i64 0, .int .i64 0, .int .i64 0] 76 (0, 0)) (by (with_reducible repeat (first | refine blk_drewN ?_ _ | refine blk_drew ?_ | refine blk_alloc ?_ _)); exact BK158.out) hb); have n3_ := Aside0.mk (below_step (by repeat (first | (with_reducible first | exact HB.out | apply below_alloc | apply pw_below_drewN | apply below_drew1 | refine below_set ?_ GE158.out) | exact HB.out)) hb); clear HO161; clear BK158; clear HB; have HO161 := n0_; have HO165 := n1_; have BK158 := n2_; have HB := n3_; clear n0_ n1_ n2_ n3_; (try clear hb); (try clear hb2); (try clear hk); (try clear hi); (try clear ho0)))
  (try simp only [Act.put, List.setIfInBounds_toArray, List.set_cons_zero, List.set_cons_succ])
  go_cut [30] (fun v30 wc => ∃ (kq : Nat) (x30_5 : Bool), v30 = .bool x30_5 ∧ Aside0 (complineref18_Item.j0 kq a1 t159 t163 x30_5 = some (r1, r2, r3, r4)) ∧ Aside0 (kq ≤ k) ∧ Aside0 (Kd.R Kd.string 9 wc w.heap.size (fun k_ => some k_ ≠ (v164 : Value).ownBlock) (.slice (some ad162) t159.length co9) t159) ∧ Aside0 (Kd.R Kd.string 9 wc w.heap.size (fun k_ => some k_ ≠ ((.slice (some ad162) t159.length co9) : Value).ownBlock) v164 t163) ∧ Aside0 (wc.heap[gb158]? = some (.cells #[.int .i64 0, .int .i64 0, .int .i64 0] 76 (0, 0))) ∧ Aside0 (Below w.heap.size w wc))
  case first =>
   have H := HC6.out
   clear HC6
   by_cases c11 : (t159.length : Int) > 2
   ·rw [if_pos c11] at H
    have c11b0 : decide (2 < (t159.length : Int)) = true := decide_eq_true c11
    have c11b1 : decide (2 < t159.length) = true := decide_eq_true (by omega)
    clear c11
    (first | rw [c11b0] | (simp only [i64_w, i32_w]; rw [c11b0]) | skip)
    have H' := Aside0.mk H
    clear H
    go_wp2
    go_meet
    case rel => exact ⟨_, (true), (by first | rfl | (simp; done) | (simp [*]; done)), H', ⟨by first | omega | exact Nat.le_refl _⟩, ⟨by (with_reducible repeat (first | apply Kd.R_alloc | apply Kd.R_drewN | apply Kd.R_drew)); exact Kd.R_mono HO161.out (fun _ hk => hk.2)⟩, ⟨by (with_reducible repeat (first | apply Kd.R_alloc | apply Kd.R_drewN | apply Kd.R_drew)); exact Kd.R_mono HO165.out (fun _ hk => hk.2)⟩, ⟨by (with_reducible repeat (first | refine blk_drewN ?_ _ | refine blk_drew ?_ | refine blk_alloc ?_ _)); exact BK158.out⟩, ⟨by repeat (first | (with_reducible first | exact HB.out | apply below_alloc | apply pw_below_drewN | apply below_drew1 | refine below_set ?_ GE158.out) | exact HB.out)⟩⟩
   ·rw [if_neg c11] at H
    have c11b0 : decide (2 < (t159.length : Int)) = false := decide_eq_false c11
    have c11b1 : decide (2 < t159.length) = false := decide_eq_false (by omega)
    clear c11
    (first | rw [c11b0] | (simp only [i64_w, i32_w]; rw [c11b0]) | skip)
    have H' := Aside0.mk H
    clear H
    obtain ⟨Ao12, co12, eo12⟩ := Kd.R_slice HO165.out
    subst eo12
    go_wp2
    go_meet
    case rel => exact ⟨_, (decide ((t163.length : Int) > 2)), (by first | rfl | (simp; done) | (simp [*]; done)), H', ⟨by first | omega | exact Nat.le_refl _⟩, ⟨by (with_reducible repeat (first | apply Kd.R_alloc | apply Kd.R_drewN | apply Kd.R_drew)); exact Kd.R_mono HO161.out (fun _ hk => hk.2)⟩, ⟨by (with_reducible repeat (first | apply Kd.R_alloc | apply Kd.R_drewN | apply Kd.R_drew)); exact Kd.R_mono HO165.out (fun _ hk => hk.2)⟩, ⟨by (with_reducible repeat (first | refine blk_drewN ?_ _ | refine blk_drew ?_ | refine blk_alloc ?_ _)); exact BK158.out⟩, ⟨by repeat (first | (with_reducible first | exact HB.out | apply below_alloc | apply pw_below_drewN | apply below_drew1 | refine below_set ?_ GE158.out) | exact HB.out)⟩⟩
  case rest =>
   clear HC6
   try clear c1
   try clear p1
   try clear q1
   try clear hx1
   try clear qi1
   try clear p2
   try clear c4
   try clear c4b0
   try clear c4b1
   try clear c11
   try clear c11b0
   try clear c11b1
   try clear hx162_0
   try clear p162
   try clear q162
   obtain ⟨kq, x30_5, rfl, HA, HJ5, HO_6, HO_7, BK158, HB⟩ := hcut
   cases kq with
   | zero => exact absurd HA.out (by simp [complineref18_Item.j0])
   | succ kj5 =>
    have H := HA.out
    clear HA
    simp only [complineref18_Item.j0] at H
    by_cases c13 : x30_5 = true
    ·subst c13
     have H1 : (some (0, 0, 0, 2)) = some (r1, r2, r3, r4) := by rw [if_pos rfl] at H; exact H
     clear H
     have H := H1
     clear H1
     simp only [Option.some.injEq, Prod.mk.injEq] at H
     obtain ⟨rfl, rfl, rfl, rfl⟩ := H
     have hcz14_0 : wc.cell? ⟨gb158, 0, none⟩ = some (.int .i64 0) := (blk_cell BK158.out 0).trans rfl
     have hcz14_1 : wc.cell? ⟨gb158, 1, none⟩ = some (.int .i64 0) := (blk_cell BK158.out 1).trans rfl
     have hcz14_2 : wc.cell? ⟨gb158, 2, none⟩ = some (.int .i64 0) := (blk_cell BK158.out 2).trans rfl
     have hfz14_0 := blk_frozen BK158.out 0
     have hfz14_1 := blk_frozen BK158.out 1
     have hfz14_2 := blk_frozen BK158.out 2
     go_wp2
     refine bodyPost_ret (results_ct rfl _ _ gb158 76 #[.int .i64 0, .int .i64 0, .int .i64 0] (0, 0) _ rfl (by (with_reducible repeat (first | refine blk_drewN ?_ _ | refine blk_drew ?_ | refine blk_alloc ?_ _)); refine blk_put (cs := #[.int .i64 0, .int .i64 0, .int .i64 0]) ?_ 2 _ rfl; (with_reducible repeat (first | refine blk_drewN ?_ _ | refine blk_drew ?_ | refine blk_alloc ?_ _)); refine blk_put (cs := #[.int .i64 0, .int .i64 0, .int .i64 0]) ?_ 1 _ rfl; (with_reducible repeat (first | refine blk_drewN ?_ _ | refine blk_drew ?_ | refine blk_alloc ?_ _)); refine blk_put (cs := #[.int .i64 0, .int .i64 0, .int .i64 0]) ?_ 0 _ rfl; (with_reducible repeat (first | refine blk_drewN ?_ _ | refine blk_drew ?_ | refine blk_alloc ?_ _)); exact BK158.out) Tryz.underlying76 rfl (by kernel_rfl)) rfl ?_
     exact ⟨by first | rfl | (simp [errW_none, errW_some] <;> rfl) | (simp [*, errW_none, errW_some] <;> rfl), by repeat (first | (with_reducible first | exact HB.out | apply below_alloc | apply pw_below_drewN | apply below_drew1 | refine below_set ?_ GE158.out) | exact HB.out)⟩
    ·replace c13 := Bool.eq_false_iff.mpr c13
     subst c13
     have H1 : (if (t159.length : Int) = 2 then (if 0 < (t159.length : Int) then (if (rdOf ByteArray.empty t159 0).toList = ([42] : List UInt8) then (complineref18_Item.j1 kj5 a1 t159 t163 false) else (complineref18_Item.j1 kj5 a1 t159 t163 (decide ((t163.length : Int) < 2)))) else (none)) else (complineref18_Item.j1 kj5 a1 t159 t163 false)) = some (r1, r2, r3, r4) := by rw [if_neg (show ¬ (false = true) by decide)] at H; exact H
     clear H
     have H := H1
     clear H1
     have HC15 := Aside0.mk H
     clear H
     go_upto_region 5 with (fail)
     go_cut [45] (fun v45 wc => ∃ (kq : Nat) (x45_14 : Bool), v45 = .bool x45_14 ∧ Aside0 (complineref18_Item.j1 kq a1 t159 t163 x45_14 = some (r1, r2, r3, r4)) ∧ Aside0 (kq ≤ kj5) ∧ Aside0 (Kd.R Kd.string 9 wc w.heap.size (fun k_ => some k_ ≠ (v164 : Value).ownBlock) (.slice (some ad162) t159.length co9) t159) ∧ Aside0 (Kd.R Kd.string 9 wc w.heap.size (fun k_ => some k_ ≠ ((.slice (some ad162) t159.length co9) : Value).ownBlock) v164 t163) ∧ Aside0 (wc.heap[gb158]? = some (.cells #[.int .i64 0, .int .i64 0, .int .i64 0] 76 (0, 0))) ∧ Aside0 (Below w.heap.size w wc))
     case first =>
      have H := HC15.out
      clear HC15
      by_cases c16 : (t159.length : Int) = 2
      ·rw [if_pos c16] at H
       have c16b0 : ((t159.length : Int) == 2) = true := beq_iff_eq.mpr c16
       have c16b1 : ((t159.length : Int) != 2) = false := bne_eq_false_iff_eq.mpr c16
       clear c16
       (first | rw [c16b0] | (simp only [i64_w, i32_w]; rw [c16b0]) | skip)
       by_cases c17 : 0 < (t159.length : Int)
       ·rw [if_pos c17] at H
        have c17b0 : decide (0 < (t159.length : Int)) = true := decide_eq_true c17
        have c17b1 : decide (0 < t159.length) = true := decide_eq_true (by omega)
        clear c17
        by_cases c18 : (rdOf ByteArray.empty t159 0).toList = ([42] : List UInt8)
        ·rw [if_pos c18] at H
         have c18b0 : ((rdOf ByteArray.empty t159 0).toList == ([42] : List UInt8)) = true := beq_iff_eq.mpr c18
         have c18b1 : ((rdOf ByteArray.empty t159 0).toList != ([42] : List UInt8)) = false := bne_eq_false_iff_eq.mpr c18
         clear c18
         have H' := Aside0.mk H
         clear H
         have p166 : 0 ≤ (0 : Int) := (by omega)
         have q166 : 0 < (t159.length : Int) := of_decide_eq_true (by first | (with_reducible assumption) | assumption)
         obtain ⟨ad166, e166, hx166_0⟩ := Kd.at_string (Kd.R_reads' HO_6.out).2.2 0 p166 q166
         obtain rfl : ad162 = ad166 := (by injection e166)
         have qi166 : (0 < t159.length) = True := eq_true (by omega)
         (try rw [show ((0 : Int)).toNat = 0 from rfl] at hx166_0)
         (try rw [Addr.add_zero'] at hx166_0)
         replace p166 := eq_true p166
         replace q166 := eq_true q166
         go_wp2
         go_meet
         case rel => exact ⟨_, (false), (by first | rfl | (simp; done) | (simp [*]; done)), H', ⟨by have := HJ5.out; first | omega | exact Nat.le_refl _⟩, ⟨by (with_reducible repeat (first | apply Kd.R_alloc | apply Kd.R_drewN | apply Kd.R_drew)); exact HO_6.out⟩, ⟨by (with_reducible repeat (first | apply Kd.R_alloc | apply Kd.R_drewN | apply Kd.R_drew)); exact HO_7.out⟩, ⟨by (with_reducible repeat (first | refine blk_drewN ?_ _ | refine blk_drew ?_ | refine blk_alloc ?_ _)); exact BK158.out⟩, ⟨by repeat (first | (with_reducible first | exact HB.out | apply below_alloc | apply pw_below_drewN | apply below_drew1 | refine below_set ?_ GE158.out) | exact HB.out)⟩⟩
        ·rw [if_neg c18] at H
         have c18b0 : ((rdOf ByteArray.empty t159 0).toList == ([42] : List UInt8)) = false := beq_eq_false_iff_ne.mpr c18
         have c18b1 : ((rdOf ByteArray.empty t159 0).toList != ([42] : List UInt8)) = true := bne_iff_ne.mpr c18
         have H' := Aside0.mk H
         clear H
         have p166 : 0 ≤ (0 : Int) := (by omega)
         have q166 : 0 < (t159.length : Int) := of_decide_eq_true (by first | (with_reducible assumption) | assumption)
         obtain ⟨ad166, e166, hx166_0⟩ := Kd.at_string (Kd.R_reads' HO_6.out).2.2 0 p166 q166
         obtain rfl : ad162 = ad166 := (by injection e166)
         have qi166 : (0 < t159.length) = True := eq_true (by omega)
         (try rw [show ((0 : Int)).toNat = 0 from rfl] at hx166_0)
         (try rw [Addr.add_zero'] at hx166_0)
         replace p166 := eq_true p166
         replace q166 := eq_true q166
         obtain ⟨Ao19, co19, eo19⟩ := Kd.R_slice HO_7.out
         subst eo19
         go_wp2
         go_meet
         case rel => exact ⟨_, (decide ((t163.length : Int) < 2)), (by first | rfl | (simp; done) | (simp [*]; done)), H', ⟨by have := HJ5.out; first | omega | exact Nat.le_refl _⟩, ⟨by (with_reducible repeat (first | apply Kd.R_alloc | apply Kd.R_drewN | apply Kd.R_drew)); exact HO_6.out⟩, ⟨by (with_reducible repeat (first | apply Kd.R_alloc | apply Kd.R_drewN | apply Kd.R_drew)); exact HO_7.out⟩, ⟨by (with_reducible repeat (first | refine blk_drewN ?_ _ | refine blk_drew ?_ | refine blk_alloc ?_ _)); exact BK158.out⟩, ⟨by repeat (first | (with_reducible first | exact HB.out | apply below_alloc | apply pw_below_drewN | apply below_drew1 | refine below_set ?_ GE158.out) | exact HB.out)⟩⟩
       ·rw [if_neg c17] at H
        exact absurd H (by simp)
      ·rw [if_neg c16] at H
       have c16b0 : ((t159.length : Int) == 2) = false := beq_eq_false_iff_ne.mpr c16
       have c16b1 : ((t159.length : Int) != 2) = true := bne_iff_ne.mpr c16
       (first | rw [c16b0] | (simp only [i64_w, i32_w]; rw [c16b0]) | skip)
       have H' := Aside0.mk H
       clear H
       go_wp2
       go_meet
       case rel => exact ⟨_, (false), (by first | rfl | (simp; done) | (simp [*]; done)), H', ⟨by have := HJ5.out; first | omega | exact Nat.le_refl _⟩, ⟨by (with_reducible repeat (first | apply Kd.R_alloc | apply Kd.R_drewN | apply Kd.R_drew)); exact HO_6.out⟩, ⟨by (with_reducible repeat (first | apply Kd.R_alloc | apply Kd.R_drewN | apply Kd.R_drew)); exact HO_7.out⟩, ⟨by (with_reducible repeat (first | refine blk_drewN ?_ _ | refine blk_drew ?_ | refine blk_alloc ?_ _)); exact BK158.out⟩, ⟨by repeat (first | (with_reducible first | exact HB.out | apply below_alloc | apply pw_below_drewN | apply below_drew1 | refine below_set ?_ GE158.out) | exact HB.out)⟩⟩
     case rest =>
      clear HC15
      try clear c1
      try clear p1
      try clear q1
      try clear hx1
      try clear qi1
      try clear p2
      try clear c4
      try clear c4b0
      try clear c4b1
      try clear c11
      try clear c11b0
      try clear c11b1
      try clear c13
      try clear c16
      try clear c16b0
      try clear c16b1
      try clear p16
      try clear q16
      try clear hx16
      try clear qi16
      try clear c17
      try clear c17b0
      try clear c17b1
      try clear c18
      try clear c18b0
      try clear c18b1
      try clear hcz14_0
      try clear hcz14_1
      try clear hcz14_2
      try clear hfz14_0
      try clear hfz14_1
      try clear hfz14_2
      try clear hx162_0
      try clear hx166_0
      try clear p1
      try clear p162
      try clear p166
      try clear p2
      try clear q1
      try clear q162
      try clear q166
      obtain ⟨kq, x45_14, rfl, HA, HJ14, HO_6, HO_7, BK158, HB⟩ := hcut
      cases kq with
      | zero => exact absurd HA.out (by simp [complineref18_Item.j1])
      | succ kj14 =>
       have H := HA.out
       clear HA
       simp only [complineref18_Item.j1] at H
       by_cases c20 : x45_14 = true
       ·subst c20
        have H1 : (some (0, 0, 0, 2)) = some (r1, r2, r3, r4) := by rw [if_pos rfl] at H; exact H
        clear H
        have H := H1
        clear H1
        simp only [Option.some.injEq, Prod.mk.injEq] at H
        obtain ⟨rfl, rfl, rfl, rfl⟩ := H
        have hcz21_0 : wc.cell? ⟨gb158, 0, none⟩ = some (.int .i64 0) := (blk_cell BK158.out 0).trans rfl
        have hcz21_1 : wc.cell? ⟨gb158, 1, none⟩ = some (.int .i64 0) := (blk_cell BK158.out 1).trans rfl
        have hcz21_2 : wc.cell? ⟨gb158, 2, none⟩ = some (.int .i64 0) := (blk_cell BK158.out 2).trans rfl
        have hfz21_0 := blk_frozen BK158.out 0
        have hfz21_1 := blk_frozen BK158.out 1
        have hfz21_2 := blk_frozen BK158.out 2
        go_wp2
        refine bodyPost_ret (results_ct rfl _ _ gb158 76 #[.int .i64 0, .int .i64 0, .int .i64 0] (0, 0) _ rfl (by (with_reducible repeat (first | refine blk_drewN ?_ _ | refine blk_drew ?_ | refine blk_alloc ?_ _)); refine blk_put (cs := #[.int .i64 0, .int .i64 0, .int .i64 0]) ?_ 2 _ rfl; (with_reducible repeat (first | refine blk_drewN ?_ _ | refine blk_drew ?_ | refine blk_alloc ?_ _)); refine blk_put (cs := #[.int .i64 0, .int .i64 0, .int .i64 0]) ?_ 1 _ rfl; (with_reducible repeat (first | refine blk_drewN ?_ _ | refine blk_drew ?_ | refine blk_alloc ?_ _)); refine blk_put (cs := #[.int .i64 0, .int .i64 0, .int .i64 0]) ?_ 0 _ rfl; (with_reducible repeat (first | refine blk_drewN ?_ _ | refine blk_drew ?_ | refine blk_alloc ?_ _)); exact BK158.out) Tryz.underlying76 rfl (by kernel_rfl)) rfl ?_
        exact ⟨by first | rfl | (simp [errW_none, errW_some] <;> rfl) | (simp [*, errW_none, errW_some] <;> rfl), by repeat (first | (with_reducible first | exact HB.out | apply below_alloc | apply pw_below_drewN | apply below_drew1 | refine below_set ?_ GE158.out) | exact HB.out)⟩
       ·replace c20 := Bool.eq_false_iff.mpr c20
        subst c20
        have H1 : ((complineref17_Limits.f a1).bind fun bt167 => (if bt167.2.2 = 0 then (if 0 < (t159.length : Int) then (if (rdOf ByteArray.empty t159 0).toList = ([42] : List UInt8) then (complineref18_Item.j2 kj14 t159 bt167.1 bt167.2.1 1) else (if 0 < (t163.length : Int) then ((complineref17_Value.f kj14 (rdOf ByteArray.empty t163 0) a1).bind fun bt173 => (if bt173.2 = 0 then (if (t163.length : Int) = 2 then (if 1 < (t163.length : Int) then ((complineref17_Value.f kj14 (rdOf ByteArray.empty t163 1) a1).bind fun bt176 => (if bt176.2 = 0 then (if bt176.1 < bt173.1 then (some (0, 0, 0, 12)) else (complineref18_Item.j2 kj14 t159 bt173.1 bt176.1 1)) else (some (0, 0, 0, bt176.2)))) else (none)) else (if bt173.1 < bt173.1 then (some (0, 0, 0, 12)) else (complineref18_Item.j2 kj14 t159 bt173.1 bt173.1 1))) else (some (0, 0, 0, bt173.2)))) else (none))) else (none)) else (some (0, 0, 0, bt167.2.2)))) = some (r1, r2, r3, r4) := by rw [if_neg (show ¬ (false = true) by decide)] at H; exact H
        clear H
        have H := H1
        clear H1
        replace H := Option.bind_eq_some_iff.mp H
        obtain ⟨⟨t167, t168, t169⟩, A220, H⟩ := H
        replace H : (if t169 = 0 then (if 0 < (t159.length : Int) then (if (rdOf ByteArray.empty t159 0).toList = ([42] : List UInt8) then (complineref18_Item.j2 kj14 t159 t167 t168 1) else (if 0 < (t163.length : Int) then ((complineref17_Value.f kj14 (rdOf ByteArray.empty t163 0) a1).bind fun bt173 => (if bt173.2 = 0 then (if (t163.length : Int) = 2 then (if 1 < (t163.length : Int) then ((complineref17_Value.f kj14 (rdOf ByteArray.empty t163 1) a1).bind fun bt176 => (if bt176.2 = 0 then (if bt176.1 < bt173.1 then (some (0, 0, 0, 12)) else (complineref18_Item.j2 kj14 t159 bt173.1 bt176.1 1)) else (some (0, 0, 0, bt176.2)))) else (none)) else (if bt173.1 < bt173.1 then (some (0, 0, 0, 12)) else (complineref18_Item.j2 kj14 t159 bt173.1 bt173.1 1))) else (some (0, 0, 0, bt173.2)))) else (none))) else (none)) else (some (0, 0, 0, t169))) = some (r1, r2, r3, r4) := H
        have A22 := Aside0.mk A220
        clear A220
        by_cases c23 : t169 = 0
        ·rw [if_pos c23] at H
         have c23b0 : (t169 == 0) = true := beq_iff_eq.mpr c23
         have c23b1 : (t169 != 0) = false := bne_eq_false_iff_eq.mpr c23
         clear c23
         by_cases c24 : 0 < (t159.length : Int)
         ·rw [if_pos c24] at H
          have c24b0 : decide (0 < (t159.length : Int)) = true := decide_eq_true c24
          have c24b1 : decide (0 < t159.length) = true := decide_eq_true (by omega)
          clear c24
          have HC25 := Aside0.mk H
          clear H
          go_upto_if 63 with (first | ((with_reducible refine gate_callee (f := 55) rfl ?_); refine goesL_ (some 49) rfl rfl Tryz.func55 (by kernel_rfl) rfl #[.int .i64 a1] rfl (by (try simp only [List.map_toArray, List.map_cons, List.map_nil]); first | done | rfl | (simp only [List.length_drop, List.length_take]; rfl)) ?_; (with_reducible refine (complineref17_Limits.calls a1 t167 t168 t169 _ A22.out).mono ?_); rintro e w' ⟨rfl, ⟨nd, rfl⟩⟩; refine ⟨_, rfl, ?_⟩; (try (rw [drewN_self wc]; generalize hq_ : World.drewN wc _ = wc; have n0_ : Aside0 (Kd.R Kd.string 9 wc w.heap.size (fun k_ => some k_ ≠ (v164 : Value).ownBlock) (.slice (some ad162) t159.length co9) t159) := ⟨by rw [← hq_]; exact (by (with_reducible repeat (first | apply Kd.R_alloc | apply Kd.R_drewN | apply Kd.R_drew)); exact HO_6.out)⟩; have n1_ : Aside0 (Kd.R Kd.string 9 wc w.heap.size (fun k_ => some k_ ≠ (.slice (some ad162) t159.length co9 : Value).ownBlock) v164 t163) := ⟨by rw [← hq_]; exact (by (with_reducible repeat (first | apply Kd.R_alloc | apply Kd.R_drewN | apply Kd.R_drew)); exact HO_7.out)⟩; have n2_ : Aside0 (wc.heap[gb158]? = some (.cells #[.int .i64 0, .int .i64 0, .int .i64 0] 76 (0, 0))) := ⟨by rw [← hq_]; exact (by (with_reducible repeat (first | refine blk_drewN ?_ _ | refine blk_drew ?_ | refine blk_alloc ?_ _)); exact BK158.out)⟩; have n3_ : Aside0 (Below w.heap.size w wc) := ⟨by rw [← hq_]; exact (by repeat (first | (with_reducible first | exact HB.out | apply below_alloc | apply pw_below_drewN | apply below_drew1 | refine below_set ?_ GE158.out) | exact HB.out))⟩; clear HO_6 HO_7 BK158 HB hq_; have HO_6 := n0_; have HO_7 := n1_; have BK158 := n2_; have HB := n3_; clear n0_ n1_ n2_ n3_))) | ((with_reducible refine gate_dst (N := 11) rfl ?_); (try (refine gate_guard (by rfl) ?_; dsimp only)); refine box_event ?hg (N := 11) ?hd (cs := #[.int .i64 0, .int .i64 0, .int .i64 0]) (t := 76) ?hr ?_; (case hd => rfl); (case hg => rfl); (case hr => first | (go_simp; done) | (go_simp; rfl)); intro gb170 hg w26 hbox hb; have n0_ := Aside0.mk (Kd.R_below (by (with_reducible repeat (first | apply Kd.R_alloc | apply Kd.R_drewN | apply Kd.R_drew)); exact HO_6.out) hb); have n1_ := Aside0.mk (Kd.R_below (by (with_reducible repeat (first | apply Kd.R_alloc | apply Kd.R_drewN | apply Kd.R_drew)); exact HO_7.out) hb); have n2_ := Aside0.mk (blk_below (g := gb158) (o := .cells #[.int .i64 0, .int .i64 0, .int .i64 0] 76 (0, 0)) (by (with_reducible repeat (first | refine blk_drewN ?_ _ | refine blk_drew ?_ | refine blk_alloc ?_ _)); exact BK158.out) hb); have n3_ := Aside0.mk (below_step (by repeat (first | (with_reducible first | exact HB.out | apply below_alloc | apply pw_below_drewN | apply below_drew1 | refine below_set ?_ GE158.out) | exact HB.out)) hb); have n4_ := Aside0.mk (hbox); have n5_ := Aside0.mk ((by rw [hg]; exact (below_size (by repeat (first | (with_reducible first | exact HB.out | apply below_alloc | apply pw_below_drewN | apply below_drew1 | refine below_set ?_ GE158.out) | exact HB.out))) : w.heap.size ≤ gb170)); have n6_ := Aside0.mk ((by rw [hg]; exact (below_size (by repeat (first | (with_reducible first | exact HB.out | apply below_alloc | apply pw_below_drewN | apply below_drew1 | refine below_set ?_ GE158.out) | exact HB.out))) : w.heap.size ≤ gb170)); have n7_ := Aside0.mk ((by rw [hg]; exact Nat.ne_of_lt (blk_lt (g := gb158) (o := .cells #[.int .i64 0, .int .i64 0, .int .i64 0] 76 (0, 0)) (by (with_reducible repeat (first | refine blk_drewN ?_ _ | refine blk_drew ?_ | refine blk_alloc ?_ _)); exact BK158.out)) : gb158 ≠ gb170)); have n8_ := Aside0.mk ((by rw [hg]; exact Nat.ne_of_gt (blk_lt (g := gb158) (o := .cells #[.int .i64 0, .int .i64 0, .int .i64 0] 76 (0, 0)) (by (with_reducible repeat (first | refine blk_drewN ?_ _ | refine blk_drew ?_ | refine blk_alloc ?_ _)); exact BK158.out)) : gb170 ≠ gb158)); clear HO_6; clear HO_7; clear BK158; clear HB; have HO_6 := n0_; have HO_7 := n1_; have BK158 := n2_; have HB := n3_; have BK170 := n4_; have GW170 := n5_; have GE170 := n6_; have NB158_170 := n7_; have NB170_158 := n8_; clear n0_ n1_ n2_ n3_ n4_ n5_ n6_ n7_ n8_; clear hb hbox hg; have hnb27 := NB170_158.out; have hnc27 := NB158_170.out; have hcz28_0 : w26.cell? ⟨gb170, 0, none⟩ = some (.int .i64 0) := (blk_cell BK170.out 0).trans rfl; have hcz28_1 : w26.cell? ⟨gb170, 1, none⟩ = some (.int .i64 0) := (blk_cell BK170.out 1).trans rfl; have hcz28_2 : w26.cell? ⟨gb170, 2, none⟩ = some (.int .i64 0) := (blk_cell BK170.out 2).trans rfl; have hfz28_0 := blk_frozen BK170.out 0; have hfz28_1 := blk_frozen BK170.out 1; have hfz28_2 := blk_frozen BK170.out 2; have p171 : 0 ≤ (0 : Int) := (by omega); have q171 : 0 < (t159.length : Int) := of_decide_eq_true (by first | (with_reducible assumption) | assumption); obtain ⟨ad171, e171, hx171_0⟩ := Kd.at_string (Kd.R_reads' HO_6.out).2.2 0 p171 q171; obtain rfl : ad162 = ad171 := (by injection e171); have qi171 : (0 < t159.length) = True := eq_true (by omega); (try rw [show ((0 : Int)).toNat = 0 from rfl] at hx171_0); (try rw [Addr.add_zero'] at hx171_0); have hn171_0 : ad162.block ≠ gb170 := Kd.own_blk (Kd.R_ne HO_6.out BK170.out (by decide)); have hn171_1 : ad162.block ≠ gb170 := Kd.own_blk (Kd.R_ne HO_6.out BK170.out (by decide)); have hn171_2 : ad162.block ≠ gb170 := Kd.own_blk (Kd.R_ne HO_6.out BK170.out (by decide)); replace hx171_0 := (cell_far (p := ⟨gb170, 0, none⟩) (by first | (rw [add_block]; exact hn171_0) | (show (Addr.add _ _).block ≠ _; rw [add_block]; exact hn171_0) | exact hn171_0) (.int .i64 t167)).trans hx171_0; replace hx171_0 := (cell_far (p := ⟨gb170, 1, none⟩) (by first | (rw [add_block]; exact hn171_1) | (show (Addr.add _ _).block ≠ _; rw [add_block]; exact hn171_1) | exact hn171_1) (.int .i64 t168)).trans hx171_0; replace hx171_0 := (cell_far (p := ⟨gb170, 2, none⟩) (by first | (rw [add_block]; exact hn171_2) | (show (Addr.add _ _).block ≠ _; rw [add_block]; exact hn171_2) | exact hn171_2) (.int .i64 1)).trans hx171_0; clear hn171_0; clear hn171_1; clear hn171_2; replace p171 := eq_true p171; replace q171 := eq_true q171))
          (try simp only [Act.put, List.setIfInBounds_toArray, List.set_cons_zero, List.set_cons_succ])
          go_cut [] (fun wc => ∃ (kq : Nat) (x159000_24 : Int) (x159001_24 : Int) (x159002_24 : Int) (x171000_24 : Int) (x171001_24 : Int) (x171002_24 : Int), Aside0 (complineref18_Item.j2 kq t159 x171000_24 x171001_24 x171002_24 = some (r1, r2, r3, r4)) ∧ Aside0 (kq ≤ kj14) ∧ Aside0 (Kd.R Kd.string 9 wc w.heap.size (fun _ => True) (.slice (some ad162) t159.length co9) t159) ∧ Aside0 (wc.heap[gb158]? = some (.cells #[.int .i64 x159000_24, .int .i64 x159001_24, .int .i64 x159002_24] 76 (0, 0))) ∧ Aside0 (wc.heap[gb170]? = some (.cells #[.int .i64 x171000_24, .int .i64 x171001_24, .int .i64 x171002_24] 76 (0, 0))) ∧ Aside0 (Below w.heap.size w wc))
          case first =>
           have H := HC25.out
           clear HC25
           by_cases c29 : (rdOf ByteArray.empty t159 0).toList = ([42] : List UInt8)
           ·rw [if_pos c29] at H
            have c29b0 : ((rdOf ByteArray.empty t159 0).toList == ([42] : List UInt8)) = true := beq_iff_eq.mpr c29
            have c29b1 : ((rdOf ByteArray.empty t159 0).toList != ([42] : List UInt8)) = false := bne_eq_false_iff_eq.mpr c29
            clear c29
            (first | rw [c29b0] | (simp only [i64_w, i32_w]; rw [c29b0]) | skip)
            have H' := Aside0.mk H
            clear H
            go_wp2
            go_meet
            case rel => exact ⟨_, (0), (0), (0), (t167), (t168), (1), H', ⟨by have := HJ5.out; have := HJ14.out; first | omega | exact Nat.le_refl _⟩, ⟨by (with_reducible repeat (first | apply Kd.R_alloc | apply Kd.R_drewN | apply Kd.R_drew)); exact Kd.R_mono (Kd.R_far (p := ⟨gb170, 2, none⟩) (Kd.R_far (p := ⟨gb170, 1, none⟩) (Kd.R_far (p := ⟨gb170, 0, none⟩) (Kd.R_types HO_6.out BK170.out (by decide)) (fun _ hk => hk.2) (.int .i64 t167)) (fun _ hk => hk.2) (.int .i64 t168)) (fun _ hk => hk.2) (.int .i64 1)) (fun _ hk => trivial)⟩, ⟨by (with_reducible repeat (first | refine blk_drewN ?_ _ | refine blk_drew ?_ | refine blk_alloc ?_ _)); refine blk_far ?_ NB158_170.out _; (with_reducible repeat (first | refine blk_drewN ?_ _ | refine blk_drew ?_ | refine blk_alloc ?_ _)); refine blk_far ?_ NB158_170.out _; (with_reducible repeat (first | refine blk_drewN ?_ _ | refine blk_drew ?_ | refine blk_alloc ?_ _)); refine blk_far ?_ NB158_170.out _; (with_reducible repeat (first | refine blk_drewN ?_ _ | refine blk_drew ?_ | refine blk_alloc ?_ _)); exact BK158.out⟩, ⟨by (with_reducible repeat (first | refine blk_drewN ?_ _ | refine blk_drew ?_ | refine blk_alloc ?_ _)); refine blk_put (cs := #[.int .i64 t167, .int .i64 t168, .int .i64 0]) ?_ 2 _ rfl; (with_reducible repeat (first | refine blk_drewN ?_ _ | refine blk_drew ?_ | refine blk_alloc ?_ _)); refine blk_put (cs := #[.int .i64 t167, .int .i64 0, .int .i64 0]) ?_ 1 _ rfl; (with_reducible repeat (first | refine blk_drewN ?_ _ | refine blk_drew ?_ | refine blk_alloc ?_ _)); refine blk_put (cs := #[.int .i64 0, .int .i64 0, .int .i64 0]) ?_ 0 _ rfl; (with_reducible repeat (first | refine blk_drewN ?_ _ | refine blk_drew ?_ | refine blk_alloc ?_ _)); exact BK170.out⟩, ⟨by repeat (first | (with_reducible first | exact HB.out | apply below_alloc | apply pw_below_drewN | apply below_drew1 | refine below_set ?_ GE158.out | refine below_set ?_ GE170.out) | exact HB.out)⟩⟩
           ·rw [if_neg c29] at H
            have c29b0 : ((rdOf ByteArray.empty t159 0).toList == ([42] : List UInt8)) = false := beq_eq_false_iff_ne.mpr c29
            have c29b1 : ((rdOf ByteArray.empty t159 0).toList != ([42] : List UInt8)) = true := bne_iff_ne.mpr c29
            (first | rw [c29b0] | (simp only [i64_w, i32_w]; rw [c29b0]) | skip)
            by_cases c30 : 0 < (t163.length : Int)
            ·rw [if_pos c30] at H
             have c30b0 : decide (0 < (t163.length : Int)) = true := decide_eq_true c30
             have c30b1 : decide (0 < t163.length) = true := decide_eq_true (by omega)
             clear c30
             replace H := Option.bind_eq_some_iff.mp H
             obtain ⟨⟨t173, t174⟩, A310, H⟩ := H
             replace H : (if t174 = 0 then (if (t163.length : Int) = 2 then (if 1 < (t163.length : Int) then ((complineref17_Value.f kj14 (rdOf ByteArray.empty t163 1) a1).bind fun bt176 => (if bt176.2 = 0 then (if bt176.1 < t173 then (some (0, 0, 0, 12)) else (complineref18_Item.j2 kj14 t159 t173 bt176.1 1)) else (some (0, 0, 0, bt176.2)))) else (none)) else (if t173 < t173 then (some (0, 0, 0, 12)) else (complineref18_Item.j2 kj14 t159 t173 t173 1))) else (some (0, 0, 0, t174))) = some (r1, r2, r3, r4) := H
             have A31 := Aside0.mk A310
             clear A310
             by_cases c32 : t174 = 0
             ·rw [if_pos c32] at H
              have c32b0 : (t174 == 0) = true := beq_iff_eq.mpr c32
              have c32b1 : (t174 != 0) = false := bne_eq_false_iff_eq.mpr c32
              clear c32
              by_cases c33 : (t163.length : Int) = 2
              ·rw [if_pos c33] at H
               have c33b0 : ((t163.length : Int) == 2) = true := beq_iff_eq.mpr c33
               have c33b1 : ((t163.length : Int) != 2) = false := bne_eq_false_iff_eq.mpr c33
               clear c33
               by_cases c34 : 1 < (t163.length : Int)
               ·rw [if_pos c34] at H
                have c34b0 : decide (1 < (t163.length : Int)) = true := decide_eq_true c34
                have c34b1 : decide (1 < t163.length) = true := decide_eq_true (by omega)
                clear c34
                replace H := Option.bind_eq_some_iff.mp H
                obtain ⟨⟨t176, t177⟩, A350, H⟩ := H
                replace H : (if t177 = 0 then (if t176 < t173 then (some (0, 0, 0, 12)) else (complineref18_Item.j2 kj14 t159 t173 t176 1)) else (some (0, 0, 0, t177))) = some (r1, r2, r3, r4) := H
                have A35 := Aside0.mk A350
                clear A350
                by_cases c36 : t177 = 0
                ·rw [if_pos c36] at H
                 have c36b0 : (t177 == 0) = true := beq_iff_eq.mpr c36
                 have c36b1 : (t177 != 0) = false := bne_eq_false_iff_eq.mpr c36
                 clear c36
                 by_cases c37 : t176 < t173
                 ·rw [if_pos c37] at H
                  have c37b0 : decide (t176 < t173) = true := decide_eq_true c37
                  clear c37
                  simp only [Option.some.injEq, Prod.mk.injEq] at H
                  obtain ⟨rfl, rfl, rfl, rfl⟩ := H
                  obtain ⟨Ao38, co38, eo38⟩ := Kd.R_slice HO_7.out
                  subst eo38
                  have p172 : 0 ≤ (0 : Int) := (by omega)
                  have q172 : 0 < (t163.length : Int) := of_decide_eq_true (by first | (with_reducible assumption) | assumption)
                  obtain ⟨ad172, e172, hx172_0⟩ := Kd.at_string (Kd.R_reads' HO_7.out).2.2 0 p172 q172
                  cases e172
                  have qi172 : (0 < t163.length) = True := eq_true (by omega)
                  (try rw [show ((0 : Int)).toNat = 0 from rfl] at hx172_0)
                  (try rw [Addr.add_zero'] at hx172_0)
                  have hn172_0 : ad172.block ≠ gb170 := Kd.own_blk (Kd.R_ne HO_7.out BK170.out (by decide))
                  have hn172_1 : ad172.block ≠ gb170 := Kd.own_blk (Kd.R_ne HO_7.out BK170.out (by decide))
                  have hn172_2 : ad172.block ≠ gb170 := Kd.own_blk (Kd.R_ne HO_7.out BK170.out (by decide))
                  replace hx172_0 := (cell_far (p := ⟨gb170, 0, none⟩) (by first | (rw [add_block]; exact hn172_0) | (show (Addr.add _ _).block ≠ _; rw [add_block]; exact hn172_0) | exact hn172_0) (.int .i64 t167)).trans hx172_0
                  replace hx172_0 := (cell_far (p := ⟨gb170, 1, none⟩) (by first | (rw [add_block]; exact hn172_1) | (show (Addr.add _ _).block ≠ _; rw [add_block]; exact hn172_1) | exact hn172_1) (.int .i64 t168)).trans hx172_0
                  replace hx172_0 := (cell_far (p := ⟨gb170, 2, none⟩) (by first | (rw [add_block]; exact hn172_2) | (show (Addr.add _ _).block ≠ _; rw [add_block]; exact hn172_2) | exact hn172_2) (.int .i64 1)).trans hx172_0
                  clear hn172_0
                  clear hn172_1
                  clear hn172_2
                  replace p172 := eq_true p172
                  replace q172 := eq_true q172
                  go_wp2_with (first | ((with_reducible refine gate_callee (f := 56) rfl ?_); refine goesL_ (some 69) rfl rfl Tryz.func56 (by kernel_rfl) rfl #[.string (rdOf ByteArray.empty t163 0), .int .i64 a1] rfl (by (try simp only [List.map_toArray, List.map_cons, List.map_nil]); first | done | rfl | (simp only [List.length_drop, List.length_take]; rfl)) ?_; (with_reducible refine (complineref17_Value.calls kj14 (rdOf ByteArray.empty t163 0) a1 t173 t174 _ A31.out).mono ?_); rintro e w39 ⟨rfl, hb⟩; refine ⟨_, rfl, ?_⟩; have n0_ := Aside0.mk (Kd.R_below (by (with_reducible repeat (first | apply Kd.R_alloc | apply Kd.R_drewN | apply Kd.R_drew)); exact (Kd.R_mono (Kd.R_far (p := ⟨gb170, 2, none⟩) (Kd.R_far (p := ⟨gb170, 1, none⟩) (Kd.R_far (p := ⟨gb170, 0, none⟩) (Kd.R_types HO_6.out BK170.out (by decide)) (fun _ hk => hk.2) (.int .i64 t167)) (fun _ hk => hk.2) (.int .i64 t168)) (fun _ hk => hk.2) (.int .i64 1)) (fun _ h_ => h_.1))) hb); have n1_ := Aside0.mk (Kd.R_below (by (with_reducible repeat (first | apply Kd.R_alloc | apply Kd.R_drewN | apply Kd.R_drew)); exact (Kd.R_mono (Kd.R_far (p := ⟨gb170, 2, none⟩) (Kd.R_far (p := ⟨gb170, 1, none⟩) (Kd.R_far (p := ⟨gb170, 0, none⟩) (Kd.R_types HO_7.out BK170.out (by decide)) (fun _ hk => hk.2) (.int .i64 t167)) (fun _ hk => hk.2) (.int .i64 t168)) (fun _ hk => hk.2) (.int .i64 1)) (fun _ h_ => h_.1))) hb); have n2_ := Aside0.mk (blk_below (g := gb158) (o := .cells #[.int .i64 0, .int .i64 0, .int .i64 0] 76 (0, 0)) (by (with_reducible repeat (first | refine blk_drewN ?_ _ | refine blk_drew ?_ | refine blk_alloc ?_ _)); refine blk_far ?_ NB158_170.out _; (with_reducible repeat (first | refine blk_drewN ?_ _ | refine blk_drew ?_ | refine blk_alloc ?_ _)); refine blk_far ?_ NB158_170.out _; (with_reducible repeat (first | refine blk_drewN ?_ _ | refine blk_drew ?_ | refine blk_alloc ?_ _)); refine blk_far ?_ NB158_170.out _; (with_reducible repeat (first | refine blk_drewN ?_ _ | refine blk_drew ?_ | refine blk_alloc ?_ _)); exact BK158.out) hb); have n3_ := Aside0.mk (blk_below (g := gb170) (o := .cells #[.int .i64 t167, .int .i64 t168, .int .i64 1] 76 (0, 0)) (by (with_reducible repeat (first | refine blk_drewN ?_ _ | refine blk_drew ?_ | refine blk_alloc ?_ _)); refine blk_put (cs := #[.int .i64 t167, .int .i64 t168, .int .i64 0]) ?_ 2 _ rfl; (with_reducible repeat (first | refine blk_drewN ?_ _ | refine blk_drew ?_ | refine blk_alloc ?_ _)); refine blk_put (cs := #[.int .i64 t167, .int .i64 0, .int .i64 0]) ?_ 1 _ rfl; (with_reducible repeat (first | refine blk_drewN ?_ _ | refine blk_drew ?_ | refine blk_alloc ?_ _)); refine blk_put (cs := #[.int .i64 0, .int .i64 0, .int .i64 0]) ?_ 0 _ rfl; (with_reducible repeat (first | refine blk_drewN ?_ _ | refine blk_drew ?_ | refine blk_alloc ?_ _)); exact BK170.out) hb); have n4_ := Aside0.mk (below_step (by repeat (first | (with_reducible first | exact HB.out | apply below_alloc | apply pw_below_drewN | apply below_drew1 | refine below_set ?_ GE158.out | refine below_set ?_ GE170.out) | exact HB.out)) hb); clear HO_6; clear HO_7; clear BK158; clear BK170; clear HB; have HO_6 := n0_; have HO_7 := n1_; have BK158 := n2_; have BK170 := n3_; have HB := n4_; clear n0_ n1_ n2_ n3_ n4_; (try clear hb); (try clear hb2); (try clear hk); (try clear hi); have p175 : 0 ≤ (1 : Int) := (by omega); have q175 : 1 < (t163.length : Int) := of_decide_eq_true (by first | (with_reducible assumption) | assumption); obtain ⟨ad175, e175, hx175_0⟩ := Kd.at_string (Kd.R_reads' HO_7.out).2.2 1 p175 q175; obtain rfl : ad172 = ad175 := (by injection e175); (try simp only [show (1 : Int).toNat = 1 from rfl, Nat.reduceMul, Nat.reduceEqDiff, Go.Addr.add, ↓reduceIte] at hx175_0); have qi175 : (1 < t163.length) = True := eq_true (by omega); (try rw [show ((1 : Int)).toNat = 1 from rfl] at hx175_0); replace p175 := eq_true p175; replace q175 := eq_true q175) | ((with_reducible refine gate_callee (f := 56) rfl ?_); refine goesL_ (some 85) rfl rfl Tryz.func56 (by kernel_rfl) rfl #[.string (rdOf ByteArray.empty t163 1), .int .i64 a1] rfl (by (try simp only [List.map_toArray, List.map_cons, List.map_nil]); first | done | rfl | (simp only [List.length_drop, List.length_take]; rfl)) ?_; (with_reducible refine (complineref17_Value.calls kj14 (rdOf ByteArray.empty t163 1) a1 t176 t177 _ A35.out).mono ?_); rintro e w40 ⟨rfl, hb⟩; refine ⟨_, rfl, ?_⟩; have n0_ := Aside0.mk (Kd.R_below (by (with_reducible repeat (first | apply Kd.R_alloc | apply Kd.R_drewN | apply Kd.R_drew)); exact HO_6.out) hb); have n1_ := Aside0.mk (Kd.R_below (by (with_reducible repeat (first | apply Kd.R_alloc | apply Kd.R_drewN | apply Kd.R_drew)); exact HO_7.out) hb); have n2_ := Aside0.mk (blk_below (g := gb158) (o := .cells #[.int .i64 0, .int .i64 0, .int .i64 0] 76 (0, 0)) (by (with_reducible repeat (first | refine blk_drewN ?_ _ | refine blk_drew ?_ | refine blk_alloc ?_ _)); exact BK158.out) hb); have n3_ := Aside0.mk (blk_below (g := gb170) (o := .cells #[.int .i64 t167, .int .i64 t168, .int .i64 1] 76 (0, 0)) (by (with_reducible repeat (first | refine blk_drewN ?_ _ | refine blk_drew ?_ | refine blk_alloc ?_ _)); exact BK170.out) hb); have n4_ := Aside0.mk (below_step (by repeat (first | (with_reducible first | exact HB.out | apply below_alloc | apply pw_below_drewN | apply below_drew1 | refine below_set ?_ GE158.out | refine below_set ?_ GE170.out) | exact HB.out)) hb); clear HO_6; clear HO_7; clear BK158; clear BK170; clear HB; have HO_6 := n0_; have HO_7 := n1_; have BK158 := n2_; have BK170 := n3_; have HB := n4_; clear n0_ n1_ n2_ n3_ n4_; (try clear hb); (try clear hb2); (try clear hk); (try clear hi); have hnb41 := NB158_170.out; have hnc41 := NB170_158.out; have hcz42_0 : w40.cell? ⟨gb158, 0, none⟩ = some (.int .i64 0) := (blk_cell BK158.out 0).trans rfl; have hcz42_1 : w40.cell? ⟨gb158, 1, none⟩ = some (.int .i64 0) := (blk_cell BK158.out 1).trans rfl; have hcz42_2 : w40.cell? ⟨gb158, 2, none⟩ = some (.int .i64 0) := (blk_cell BK158.out 2).trans rfl; have hfz42_0 := blk_frozen BK158.out 0; have hfz42_1 := blk_frozen BK158.out 1; have hfz42_2 := blk_frozen BK158.out 2))
                  refine bodyPost_ret (results_ct rfl _ _ gb158 76 #[.int .i64 0, .int .i64 0, .int .i64 0] (0, 0) _ rfl (by (with_reducible repeat (first | refine blk_drewN ?_ _ | refine blk_drew ?_ | refine blk_alloc ?_ _)); refine blk_put (cs := #[.int .i64 0, .int .i64 0, .int .i64 0]) ?_ 2 _ rfl; (with_reducible repeat (first | refine blk_drewN ?_ _ | refine blk_drew ?_ | refine blk_alloc ?_ _)); refine blk_put (cs := #[.int .i64 0, .int .i64 0, .int .i64 0]) ?_ 1 _ rfl; (with_reducible repeat (first | refine blk_drewN ?_ _ | refine blk_drew ?_ | refine blk_alloc ?_ _)); refine blk_put (cs := #[.int .i64 0, .int .i64 0, .int .i64 0]) ?_ 0 _ rfl; (with_reducible repeat (first | refine blk_drewN ?_ _ | refine blk_drew ?_ | refine blk_alloc ?_ _)); exact BK158.out) Tryz.underlying76 rfl (by kernel_rfl)) rfl ?_
                  exact ⟨by first | rfl | (simp [errW_none, errW_some] <;> rfl) | (simp [*, errW_none, errW_some] <;> rfl), by repeat (first | (with_reducible first | exact HB.out | apply below_alloc | apply pw_below_drewN | apply below_drew1 | refine below_set ?_ GE158.out | refine below_set ?_ GE170.out) | exact HB.out)⟩
                 ·rw [if_neg c37] at H
                  have c37b0 : decide (t176 < t173) = false := decide_eq_false c37
                  clear c37
                  have H' := Aside0.mk H
                  clear H
                  obtain ⟨Ao43, co43, eo43⟩ := Kd.R_slice HO_7.out
                  subst eo43
                  have p172 : 0 ≤ (0 : Int) := (by omega)
                  have q172 : 0 < (t163.length : Int) := of_decide_eq_true (by first | (with_reducible assumption) | assumption)
                  obtain ⟨ad172, e172, hx172_0⟩ := Kd.at_string (Kd.R_reads' HO_7.out).2.2 0 p172 q172
                  cases e172
                  have qi172 : (0 < t163.length) = True := eq_true (by omega)
                  (try rw [show ((0 : Int)).toNat = 0 from rfl] at hx172_0)
                  (try rw [Addr.add_zero'] at hx172_0)
                  have hn172_0 : ad172.block ≠ gb170 := Kd.own_blk (Kd.R_ne HO_7.out BK170.out (by decide))
                  have hn172_1 : ad172.block ≠ gb170 := Kd.own_blk (Kd.R_ne HO_7.out BK170.out (by decide))
                  have hn172_2 : ad172.block ≠ gb170 := Kd.own_blk (Kd.R_ne HO_7.out BK170.out (by decide))
                  replace hx172_0 := (cell_far (p := ⟨gb170, 0, none⟩) (by first | (rw [add_block]; exact hn172_0) | (show (Addr.add _ _).block ≠ _; rw [add_block]; exact hn172_0) | exact hn172_0) (.int .i64 t167)).trans hx172_0
                  replace hx172_0 := (cell_far (p := ⟨gb170, 1, none⟩) (by first | (rw [add_block]; exact hn172_1) | (show (Addr.add _ _).block ≠ _; rw [add_block]; exact hn172_1) | exact hn172_1) (.int .i64 t168)).trans hx172_0
                  replace hx172_0 := (cell_far (p := ⟨gb170, 2, none⟩) (by first | (rw [add_block]; exact hn172_2) | (show (Addr.add _ _).block ≠ _; rw [add_block]; exact hn172_2) | exact hn172_2) (.int .i64 1)).trans hx172_0
                  clear hn172_0
                  clear hn172_1
                  clear hn172_2
                  replace p172 := eq_true p172
                  replace q172 := eq_true q172
                  go_wp2_with (first | ((with_reducible refine gate_callee (f := 56) rfl ?_); refine goesL_ (some 69) rfl rfl Tryz.func56 (by kernel_rfl) rfl #[.string (rdOf ByteArray.empty t163 0), .int .i64 a1] rfl (by (try simp only [List.map_toArray, List.map_cons, List.map_nil]); first | done | rfl | (simp only [List.length_drop, List.length_take]; rfl)) ?_; (with_reducible refine (complineref17_Value.calls kj14 (rdOf ByteArray.empty t163 0) a1 t173 t174 _ A31.out).mono ?_); rintro e w44 ⟨rfl, hb⟩; refine ⟨_, rfl, ?_⟩; have n0_ := Aside0.mk (Kd.R_below (by (with_reducible repeat (first | apply Kd.R_alloc | apply Kd.R_drewN | apply Kd.R_drew)); exact (Kd.R_mono (Kd.R_far (p := ⟨gb170, 2, none⟩) (Kd.R_far (p := ⟨gb170, 1, none⟩) (Kd.R_far (p := ⟨gb170, 0, none⟩) (Kd.R_types HO_6.out BK170.out (by decide)) (fun _ hk => hk.2) (.int .i64 t167)) (fun _ hk => hk.2) (.int .i64 t168)) (fun _ hk => hk.2) (.int .i64 1)) (fun _ h_ => h_.1))) hb); have n1_ := Aside0.mk (Kd.R_below (by (with_reducible repeat (first | apply Kd.R_alloc | apply Kd.R_drewN | apply Kd.R_drew)); exact (Kd.R_mono (Kd.R_far (p := ⟨gb170, 2, none⟩) (Kd.R_far (p := ⟨gb170, 1, none⟩) (Kd.R_far (p := ⟨gb170, 0, none⟩) (Kd.R_types HO_7.out BK170.out (by decide)) (fun _ hk => hk.2) (.int .i64 t167)) (fun _ hk => hk.2) (.int .i64 t168)) (fun _ hk => hk.2) (.int .i64 1)) (fun _ h_ => h_.1))) hb); have n2_ := Aside0.mk (blk_below (g := gb158) (o := .cells #[.int .i64 0, .int .i64 0, .int .i64 0] 76 (0, 0)) (by (with_reducible repeat (first | refine blk_drewN ?_ _ | refine blk_drew ?_ | refine blk_alloc ?_ _)); refine blk_far ?_ NB158_170.out _; (with_reducible repeat (first | refine blk_drewN ?_ _ | refine blk_drew ?_ | refine blk_alloc ?_ _)); refine blk_far ?_ NB158_170.out _; (with_reducible repeat (first | refine blk_drewN ?_ _ | refine blk_drew ?_ | refine blk_alloc ?_ _)); refine blk_far ?_ NB158_170.out _; (with_reducible repeat (first | refine blk_drewN ?_ _ | refine blk_drew ?_ | refine blk_alloc ?_ _)); exact BK158.out) hb); have n3_ := Aside0.mk (blk_below (g := gb170) (o := .cells #[.int .i64 t167, .int .i64 t168, .int .i64 1] 76 (0, 0)) (by (with_reducible repeat (first | refine blk_drewN ?_ _ | refine blk_drew ?_ | refine blk_alloc ?_ _)); refine blk_put (cs := #[.int .i64 t167, .int .i64 t168, .int .i64 0]) ?_ 2 _ rfl; (with_reducible repeat (first | refine blk_drewN ?_ _ | refine blk_drew ?_ | refine blk_alloc ?_ _)); refine blk_put (cs := #[.int .i64 t167, .int .i64 0, .int .i64 0]) ?_ 1 _ rfl; (with_reducible repeat (first | refine blk_drewN ?_ _ | refine blk_drew ?_ | refine blk_alloc ?_ _)); refine blk_put (cs := #[.int .i64 0, .int .i64 0, .int .i64 0]) ?_ 0 _ rfl; (with_reducible repeat (first | refine blk_drewN ?_ _ | refine blk_drew ?_ | refine blk_alloc ?_ _)); exact BK170.out) hb); have n4_ := Aside0.mk (below_step (by repeat (first | (with_reducible first | exact HB.out | apply below_alloc | apply pw_below_drewN | apply below_drew1 | refine below_set ?_ GE158.out | refine below_set ?_ GE170.out) | exact HB.out)) hb); clear HO_6; clear HO_7; clear BK158; clear BK170; clear HB; have HO_6 := n0_; have HO_7 := n1_; have BK158 := n2_; have BK170 := n3_; have HB := n4_; clear n0_ n1_ n2_ n3_ n4_; (try clear hb); (try clear hb2); (try clear hk); (try clear hi); have p175 : 0 ≤ (1 : Int) := (by omega); have q175 : 1 < (t163.length : Int) := of_decide_eq_true (by first | (with_reducible assumption) | assumption); obtain ⟨ad175, e175, hx175_0⟩ := Kd.at_string (Kd.R_reads' HO_7.out).2.2 1 p175 q175; obtain rfl : ad172 = ad175 := (by injection e175); (try simp only [show (1 : Int).toNat = 1 from rfl, Nat.reduceMul, Nat.reduceEqDiff, Go.Addr.add, ↓reduceIte] at hx175_0); have qi175 : (1 < t163.length) = True := eq_true (by omega); (try rw [show ((1 : Int)).toNat = 1 from rfl] at hx175_0); replace p175 := eq_true p175; replace q175 := eq_true q175) | ((with_reducible refine gate_callee (f := 56) rfl ?_); refine goesL_ (some 85) rfl rfl Tryz.func56 (by kernel_rfl) rfl #[.string (rdOf ByteArray.empty t163 1), .int .i64 a1] rfl (by (try simp only [List.map_toArray, List.map_cons, List.map_nil]); first | done | rfl | (simp only [List.length_drop, List.length_take]; rfl)) ?_; (with_reducible refine (complineref17_Value.calls kj14 (rdOf ByteArray.empty t163 1) a1 t176 t177 _ A35.out).mono ?_); rintro e w45 ⟨rfl, hb⟩; refine ⟨_, rfl, ?_⟩; have n0_ := Aside0.mk (Kd.R_below (by (with_reducible repeat (first | apply Kd.R_alloc | apply Kd.R_drewN | apply Kd.R_drew)); exact HO_6.out) hb); have n1_ := Aside0.mk (Kd.R_below (by (with_reducible repeat (first | apply Kd.R_alloc | apply Kd.R_drewN | apply Kd.R_drew)); exact HO_7.out) hb); have n2_ := Aside0.mk (blk_below (g := gb158) (o := .cells #[.int .i64 0, .int .i64 0, .int .i64 0] 76 (0, 0)) (by (with_reducible repeat (first | refine blk_drewN ?_ _ | refine blk_drew ?_ | refine blk_alloc ?_ _)); exact BK158.out) hb); have n3_ := Aside0.mk (blk_below (g := gb170) (o := .cells #[.int .i64 t167, .int .i64 t168, .int .i64 1] 76 (0, 0)) (by (with_reducible repeat (first | refine blk_drewN ?_ _ | refine blk_drew ?_ | refine blk_alloc ?_ _)); exact BK170.out) hb); have n4_ := Aside0.mk (below_step (by repeat (first | (with_reducible first | exact HB.out | apply below_alloc | apply pw_below_drewN | apply below_drew1 | refine below_set ?_ GE158.out | refine below_set ?_ GE170.out) | exact HB.out)) hb); clear HO_6; clear HO_7; clear BK158; clear BK170; clear HB; have HO_6 := n0_; have HO_7 := n1_; have BK158 := n2_; have BK170 := n3_; have HB := n4_; clear n0_ n1_ n2_ n3_ n4_; (try clear hb); (try clear hb2); (try clear hk); (try clear hi); have hnb46 := NB170_158.out; have hnc46 := NB158_170.out; have hcz47_0 : w45.cell? ⟨gb170, 0, none⟩ = some (.int .i64 t167) := (blk_cell BK170.out 0).trans rfl; have hcz47_1 : w45.cell? ⟨gb170, 1, none⟩ = some (.int .i64 t168) := (blk_cell BK170.out 1).trans rfl; have hcz47_2 : w45.cell? ⟨gb170, 2, none⟩ = some (.int .i64 1) := (blk_cell BK170.out 2).trans rfl; have hfz47_0 := blk_frozen BK170.out 0; have hfz47_1 := blk_frozen BK170.out 1; have hfz47_2 := blk_frozen BK170.out 2))
                  go_meet
                  case rel => exact ⟨_, (0), (0), (0), (t173), (t176), (1), H', ⟨by have := HJ5.out; have := HJ14.out; first | omega | exact Nat.le_refl _⟩, ⟨by (with_reducible repeat (first | apply Kd.R_alloc | apply Kd.R_drewN | apply Kd.R_drew)); exact Kd.R_mono (Kd.R_far (p := ⟨gb170, 2, none⟩) (Kd.R_far (p := ⟨gb170, 1, none⟩) (Kd.R_far (p := ⟨gb170, 0, none⟩) (Kd.R_types HO_6.out BK170.out (by decide)) (fun _ hk => hk.2) (.int .i64 t173)) (fun _ hk => hk.2) (.int .i64 t176)) (fun _ hk => hk.2) (.int .i64 1)) (fun _ hk => trivial)⟩, ⟨by (with_reducible repeat (first | refine blk_drewN ?_ _ | refine blk_drew ?_ | refine blk_alloc ?_ _)); refine blk_far ?_ NB158_170.out _; (with_reducible repeat (first | refine blk_drewN ?_ _ | refine blk_drew ?_ | refine blk_alloc ?_ _)); refine blk_far ?_ NB158_170.out _; (with_reducible repeat (first | refine blk_drewN ?_ _ | refine blk_drew ?_ | refine blk_alloc ?_ _)); refine blk_far ?_ NB158_170.out _; (with_reducible repeat (first | refine blk_drewN ?_ _ | refine blk_drew ?_ | refine blk_alloc ?_ _)); exact BK158.out⟩, ⟨by (with_reducible repeat (first | refine blk_drewN ?_ _ | refine blk_drew ?_ | refine blk_alloc ?_ _)); refine blk_put (cs := #[.int .i64 t173, .int .i64 t176, .int .i64 1]) ?_ 2 _ rfl; (with_reducible repeat (first | refine blk_drewN ?_ _ | refine blk_drew ?_ | refine blk_alloc ?_ _)); refine blk_put (cs := #[.int .i64 t173, .int .i64 t168, .int .i64 1]) ?_ 1 _ rfl; (with_reducible repeat (first | refine blk_drewN ?_ _ | refine blk_drew ?_ | refine blk_alloc ?_ _)); refine blk_put (cs := #[.int .i64 t167, .int .i64 t168, .int .i64 1]) ?_ 0 _ rfl; (with_reducible repeat (first | refine blk_drewN ?_ _ | refine blk_drew ?_ | refine blk_alloc ?_ _)); exact BK170.out⟩, ⟨by repeat (first | (with_reducible first | exact HB.out | apply below_alloc | apply pw_below_drewN | apply below_drew1 | refine below_set ?_ GE158.out | refine below_set ?_ GE170.out) | exact HB.out)⟩⟩
                ·rw [if_neg c36] at H
                 have c36b0 : (t177 == 0) = false := beq_eq_false_iff_ne.mpr c36
                 have c36b1 : (t177 != 0) = true := bne_iff_ne.mpr c36
                 simp only [Option.some.injEq, Prod.mk.injEq] at H
                 obtain ⟨rfl, rfl, rfl, rfl⟩ := H
                 obtain ⟨Ao48, co48, eo48⟩ := Kd.R_slice HO_7.out
                 subst eo48
                 have p172 : 0 ≤ (0 : Int) := (by omega)
                 have q172 : 0 < (t163.length : Int) := of_decide_eq_true (by first | (with_reducible assumption) | assumption)
                 obtain ⟨ad172, e172, hx172_0⟩ := Kd.at_string (Kd.R_reads' HO_7.out).2.2 0 p172 q172
                 cases e172
                 have qi172 : (0 < t163.length) = True := eq_true (by omega)
                 (try rw [show ((0 : Int)).toNat = 0 from rfl] at hx172_0)
                 (try rw [Addr.add_zero'] at hx172_0)
                 have hn172_0 : ad172.block ≠ gb170 := Kd.own_blk (Kd.R_ne HO_7.out BK170.out (by decide))
                 have hn172_1 : ad172.block ≠ gb170 := Kd.own_blk (Kd.R_ne HO_7.out BK170.out (by decide))
                 have hn172_2 : ad172.block ≠ gb170 := Kd.own_blk (Kd.R_ne HO_7.out BK170.out (by decide))
                 replace hx172_0 := (cell_far (p := ⟨gb170, 0, none⟩) (by first | (rw [add_block]; exact hn172_0) | (show (Addr.add _ _).block ≠ _; rw [add_block]; exact hn172_0) | exact hn172_0) (.int .i64 t167)).trans hx172_0
                 replace hx172_0 := (cell_far (p := ⟨gb170, 1, none⟩) (by first | (rw [add_block]; exact hn172_1) | (show (Addr.add _ _).block ≠ _; rw [add_block]; exact hn172_1) | exact hn172_1) (.int .i64 t168)).trans hx172_0
                 replace hx172_0 := (cell_far (p := ⟨gb170, 2, none⟩) (by first | (rw [add_block]; exact hn172_2) | (show (Addr.add _ _).block ≠ _; rw [add_block]; exact hn172_2) | exact hn172_2) (.int .i64 1)).trans hx172_0
                 clear hn172_0
                 clear hn172_1
                 clear hn172_2
                 replace p172 := eq_true p172
                 replace q172 := eq_true q172
                 go_wp2_with (first | ((with_reducible refine gate_callee (f := 56) rfl ?_); refine goesL_ (some 69) rfl rfl Tryz.func56 (by kernel_rfl) rfl #[.string (rdOf ByteArray.empty t163 0), .int .i64 a1] rfl (by (try simp only [List.map_toArray, List.map_cons, List.map_nil]); first | done | rfl | (simp only [List.length_drop, List.length_take]; rfl)) ?_; (with_reducible refine (complineref17_Value.calls kj14 (rdOf ByteArray.empty t163 0) a1 t173 t174 _ A31.out).mono ?_); rintro e w49 ⟨rfl, hb⟩; refine ⟨_, rfl, ?_⟩; have n0_ := Aside0.mk (Kd.R_below (by (with_reducible repeat (first | apply Kd.R_alloc | apply Kd.R_drewN | apply Kd.R_drew)); exact (Kd.R_mono (Kd.R_far (p := ⟨gb170, 2, none⟩) (Kd.R_far (p := ⟨gb170, 1, none⟩) (Kd.R_far (p := ⟨gb170, 0, none⟩) (Kd.R_types HO_6.out BK170.out (by decide)) (fun _ hk => hk.2) (.int .i64 t167)) (fun _ hk => hk.2) (.int .i64 t168)) (fun _ hk => hk.2) (.int .i64 1)) (fun _ h_ => h_.1))) hb); have n1_ := Aside0.mk (Kd.R_below (by (with_reducible repeat (first | apply Kd.R_alloc | apply Kd.R_drewN | apply Kd.R_drew)); exact (Kd.R_mono (Kd.R_far (p := ⟨gb170, 2, none⟩) (Kd.R_far (p := ⟨gb170, 1, none⟩) (Kd.R_far (p := ⟨gb170, 0, none⟩) (Kd.R_types HO_7.out BK170.out (by decide)) (fun _ hk => hk.2) (.int .i64 t167)) (fun _ hk => hk.2) (.int .i64 t168)) (fun _ hk => hk.2) (.int .i64 1)) (fun _ h_ => h_.1))) hb); have n2_ := Aside0.mk (blk_below (g := gb158) (o := .cells #[.int .i64 0, .int .i64 0, .int .i64 0] 76 (0, 0)) (by (with_reducible repeat (first | refine blk_drewN ?_ _ | refine blk_drew ?_ | refine blk_alloc ?_ _)); refine blk_far ?_ NB158_170.out _; (with_reducible repeat (first | refine blk_drewN ?_ _ | refine blk_drew ?_ | refine blk_alloc ?_ _)); refine blk_far ?_ NB158_170.out _; (with_reducible repeat (first | refine blk_drewN ?_ _ | refine blk_drew ?_ | refine blk_alloc ?_ _)); refine blk_far ?_ NB158_170.out _; (with_reducible repeat (first | refine blk_drewN ?_ _ | refine blk_drew ?_ | refine blk_alloc ?_ _)); exact BK158.out) hb); have n3_ := Aside0.mk (blk_below (g := gb170) (o := .cells #[.int .i64 t167, .int .i64 t168, .int .i64 1] 76 (0, 0)) (by (with_reducible repeat (first | refine blk_drewN ?_ _ | refine blk_drew ?_ | refine blk_alloc ?_ _)); refine blk_put (cs := #[.int .i64 t167, .int .i64 t168, .int .i64 0]) ?_ 2 _ rfl; (with_reducible repeat (first | refine blk_drewN ?_ _ | refine blk_drew ?_ | refine blk_alloc ?_ _)); refine blk_put (cs := #[.int .i64 t167, .int .i64 0, .int .i64 0]) ?_ 1 _ rfl; (with_reducible repeat (first | refine blk_drewN ?_ _ | refine blk_drew ?_ | refine blk_alloc ?_ _)); refine blk_put (cs := #[.int .i64 0, .int .i64 0, .int .i64 0]) ?_ 0 _ rfl; (with_reducible repeat (first | refine blk_drewN ?_ _ | refine blk_drew ?_ | refine blk_alloc ?_ _)); exact BK170.out) hb); have n4_ := Aside0.mk (below_step (by repeat (first | (with_reducible first | exact HB.out | apply below_alloc | apply pw_below_drewN | apply below_drew1 | refine below_set ?_ GE158.out | refine below_set ?_ GE170.out) | exact HB.out)) hb); clear HO_6; clear HO_7; clear BK158; clear BK170; clear HB; have HO_6 := n0_; have HO_7 := n1_; have BK158 := n2_; have BK170 := n3_; have HB := n4_; clear n0_ n1_ n2_ n3_ n4_; (try clear hb); (try clear hb2); (try clear hk); (try clear hi); have p175 : 0 ≤ (1 : Int) := (by omega); have q175 : 1 < (t163.length : Int) := of_decide_eq_true (by first | (with_reducible assumption) | assumption); obtain ⟨ad175, e175, hx175_0⟩ := Kd.at_string (Kd.R_reads' HO_7.out).2.2 1 p175 q175; obtain rfl : ad172 = ad175 := (by injection e175); (try simp only [show (1 : Int).toNat = 1 from rfl, Nat.reduceMul, Nat.reduceEqDiff, Go.Addr.add, ↓reduceIte] at hx175_0); have qi175 : (1 < t163.length) = True := eq_true (by omega); (try rw [show ((1 : Int)).toNat = 1 from rfl] at hx175_0); replace p175 := eq_true p175; replace q175 := eq_true q175) | ((with_reducible refine gate_callee (f := 56) rfl ?_); refine goesL_ (some 85) rfl rfl Tryz.func56 (by kernel_rfl) rfl #[.string (rdOf ByteArray.empty t163 1), .int .i64 a1] rfl (by (try simp only [List.map_toArray, List.map_cons, List.map_nil]); first | done | rfl | (simp only [List.length_drop, List.length_take]; rfl)) ?_; (with_reducible refine (complineref17_Value.calls kj14 (rdOf ByteArray.empty t163 1) a1 t176 t177 _ A35.out).mono ?_); rintro e w50 ⟨rfl, hb⟩; refine ⟨_, rfl, ?_⟩; have n0_ := Aside0.mk (Kd.R_below (by (with_reducible repeat (first | apply Kd.R_alloc | apply Kd.R_drewN | apply Kd.R_drew)); exact HO_6.out) hb); have n1_ := Aside0.mk (Kd.R_below (by (with_reducible repeat (first | apply Kd.R_alloc | apply Kd.R_drewN | apply Kd.R_drew)); exact HO_7.out) hb); have n2_ := Aside0.mk (blk_below (g := gb158) (o := .cells #[.int .i64 0, .int .i64 0, .int .i64 0] 76 (0, 0)) (by (with_reducible repeat (first | refine blk_drewN ?_ _ | refine blk_drew ?_ | refine blk_alloc ?_ _)); exact BK158.out) hb); have n3_ := Aside0.mk (blk_below (g := gb170) (o := .cells #[.int .i64 t167, .int .i64 t168, .int .i64 1] 76 (0, 0)) (by (with_reducible repeat (first | refine blk_drewN ?_ _ | refine blk_drew ?_ | refine blk_alloc ?_ _)); exact BK170.out) hb); have n4_ := Aside0.mk (below_step (by repeat (first | (with_reducible first | exact HB.out | apply below_alloc | apply pw_below_drewN | apply below_drew1 | refine below_set ?_ GE158.out | refine below_set ?_ GE170.out) | exact HB.out)) hb); clear HO_6; clear HO_7; clear BK158; clear BK170; clear HB; have HO_6 := n0_; have HO_7 := n1_; have BK158 := n2_; have BK170 := n3_; have HB := n4_; clear n0_ n1_ n2_ n3_ n4_; (try clear hb); (try clear hb2); (try clear hk); (try clear hi); have hnb51 := NB158_170.out; have hnc51 := NB170_158.out; have hcz52_0 : w50.cell? ⟨gb158, 0, none⟩ = some (.int .i64 0) := (blk_cell BK158.out 0).trans rfl; have hcz52_1 : w50.cell? ⟨gb158, 1, none⟩ = some (.int .i64 0) := (blk_cell BK158.out 1).trans rfl; have hcz52_2 : w50.cell? ⟨gb158, 2, none⟩ = some (.int .i64 0) := (blk_cell BK158.out 2).trans rfl; have hfz52_0 := blk_frozen BK158.out 0; have hfz52_1 := blk_frozen BK158.out 1; have hfz52_2 := blk_frozen BK158.out 2))
                 refine bodyPost_ret (results_ct rfl _ _ gb158 76 #[.int .i64 0, .int .i64 0, .int .i64 0] (0, 0) _ rfl (by (with_reducible repeat (first | refine blk_drewN ?_ _ | refine blk_drew ?_ | refine blk_alloc ?_ _)); refine blk_put (cs := #[.int .i64 0, .int .i64 0, .int .i64 0]) ?_ 2 _ rfl; (with_reducible repeat (first | refine blk_drewN ?_ _ | refine blk_drew ?_ | refine blk_alloc ?_ _)); refine blk_put (cs := #[.int .i64 0, .int .i64 0, .int .i64 0]) ?_ 1 _ rfl; (with_reducible repeat (first | refine blk_drewN ?_ _ | refine blk_drew ?_ | refine blk_alloc ?_ _)); refine blk_put (cs := #[.int .i64 0, .int .i64 0, .int .i64 0]) ?_ 0 _ rfl; (with_reducible repeat (first | refine blk_drewN ?_ _ | refine blk_drew ?_ | refine blk_alloc ?_ _)); exact BK158.out) Tryz.underlying76 rfl (by kernel_rfl)) rfl ?_
                 exact ⟨by first | rfl | (simp [errW_none, errW_some] <;> rfl) | (simp [*, errW_none, errW_some] <;> rfl), by repeat (first | (with_reducible first | exact HB.out | apply below_alloc | apply pw_below_drewN | apply below_drew1 | refine below_set ?_ GE158.out | refine below_set ?_ GE170.out) | exact HB.out)⟩
               ·rw [if_neg c34] at H
                exact absurd H (by simp)
              ·rw [if_neg c33] at H
               have c33b0 : ((t163.length : Int) == 2) = false := beq_eq_false_iff_ne.mpr c33
               have c33b1 : ((t163.length : Int) != 2) = true := bne_iff_ne.mpr c33
               by_cases c53 : t173 < t173
               ·exact absurd c53 (Int.lt_irrefl _)
               ·rw [if_neg c53] at H
                have c53b0 : decide (t173 < t173) = false := decide_eq_false c53
                clear c53
                have H' := Aside0.mk H
                clear H
                obtain ⟨Ao58, co58, eo58⟩ := Kd.R_slice HO_7.out
                subst eo58
                have p172 : 0 ≤ (0 : Int) := (by omega)
                have q172 : 0 < (t163.length : Int) := of_decide_eq_true (by first | (with_reducible assumption) | assumption)
                obtain ⟨ad172, e172, hx172_0⟩ := Kd.at_string (Kd.R_reads' HO_7.out).2.2 0 p172 q172
                cases e172
                have qi172 : (0 < t163.length) = True := eq_true (by omega)
                (try rw [show ((0 : Int)).toNat = 0 from rfl] at hx172_0)
                (try rw [Addr.add_zero'] at hx172_0)
                have hn172_0 : ad172.block ≠ gb170 := Kd.own_blk (Kd.R_ne HO_7.out BK170.out (by decide))
                have hn172_1 : ad172.block ≠ gb170 := Kd.own_blk (Kd.R_ne HO_7.out BK170.out (by decide))
                have hn172_2 : ad172.block ≠ gb170 := Kd.own_blk (Kd.R_ne HO_7.out BK170.out (by decide))
                replace hx172_0 := (cell_far (p := ⟨gb170, 0, none⟩) (by first | (rw [add_block]; exact hn172_0) | (show (Addr.add _ _).block ≠ _; rw [add_block]; exact hn172_0) | exact hn172_0) (.int .i64 t167)).trans hx172_0
                replace hx172_0 := (cell_far (p := ⟨gb170, 1, none⟩) (by first | (rw [add_block]; exact hn172_1) | (show (Addr.add _ _).block ≠ _; rw [add_block]; exact hn172_1) | exact hn172_1) (.int .i64 t168)).trans hx172_0
                replace hx172_0 := (cell_far (p := ⟨gb170, 2, none⟩) (by first | (rw [add_block]; exact hn172_2) | (show (Addr.add _ _).block ≠ _; rw [add_block]; exact hn172_2) | exact hn172_2) (.int .i64 1)).trans hx172_0
                clear hn172_0
                clear hn172_1
                clear hn172_2
                replace p172 := eq_true p172
                replace q172 := eq_true q172
                go_wp2_with (first | ((with_reducible refine gate_callee (f := 56) rfl ?_); refine goesL_ (some 69) rfl rfl Tryz.func56 (by kernel_rfl) rfl #[.string (rdOf ByteArray.empty t163 0), .int .i64 a1] rfl (by (try simp only [List.map_toArray, List.map_cons, List.map_nil]); first | done | rfl | (simp only [List.length_drop, List.length_take]; rfl)) ?_; (with_reducible refine (complineref17_Value.calls kj14 (rdOf ByteArray.empty t163 0) a1 t173 t174 _ A31.out).mono ?_); rintro e w59 ⟨rfl, hb⟩; refine ⟨_, rfl, ?_⟩; have n0_ := Aside0.mk (Kd.R_below (by (with_reducible repeat (first | apply Kd.R_alloc | apply Kd.R_drewN | apply Kd.R_drew)); exact (Kd.R_mono (Kd.R_far (p := ⟨gb170, 2, none⟩) (Kd.R_far (p := ⟨gb170, 1, none⟩) (Kd.R_far (p := ⟨gb170, 0, none⟩) (Kd.R_types HO_6.out BK170.out (by decide)) (fun _ hk => hk.2) (.int .i64 t167)) (fun _ hk => hk.2) (.int .i64 t168)) (fun _ hk => hk.2) (.int .i64 1)) (fun _ h_ => h_.1))) hb); have n1_ := Aside0.mk (Kd.R_below (by (with_reducible repeat (first | apply Kd.R_alloc | apply Kd.R_drewN | apply Kd.R_drew)); exact (Kd.R_mono (Kd.R_far (p := ⟨gb170, 2, none⟩) (Kd.R_far (p := ⟨gb170, 1, none⟩) (Kd.R_far (p := ⟨gb170, 0, none⟩) (Kd.R_types HO_7.out BK170.out (by decide)) (fun _ hk => hk.2) (.int .i64 t167)) (fun _ hk => hk.2) (.int .i64 t168)) (fun _ hk => hk.2) (.int .i64 1)) (fun _ h_ => h_.1))) hb); have n2_ := Aside0.mk (blk_below (g := gb158) (o := .cells #[.int .i64 0, .int .i64 0, .int .i64 0] 76 (0, 0)) (by (with_reducible repeat (first | refine blk_drewN ?_ _ | refine blk_drew ?_ | refine blk_alloc ?_ _)); refine blk_far ?_ NB158_170.out _; (with_reducible repeat (first | refine blk_drewN ?_ _ | refine blk_drew ?_ | refine blk_alloc ?_ _)); refine blk_far ?_ NB158_170.out _; (with_reducible repeat (first | refine blk_drewN ?_ _ | refine blk_drew ?_ | refine blk_alloc ?_ _)); refine blk_far ?_ NB158_170.out _; (with_reducible repeat (first | refine blk_drewN ?_ _ | refine blk_drew ?_ | refine blk_alloc ?_ _)); exact BK158.out) hb); have n3_ := Aside0.mk (blk_below (g := gb170) (o := .cells #[.int .i64 t167, .int .i64 t168, .int .i64 1] 76 (0, 0)) (by (with_reducible repeat (first | refine blk_drewN ?_ _ | refine blk_drew ?_ | refine blk_alloc ?_ _)); refine blk_put (cs := #[.int .i64 t167, .int .i64 t168, .int .i64 0]) ?_ 2 _ rfl; (with_reducible repeat (first | refine blk_drewN ?_ _ | refine blk_drew ?_ | refine blk_alloc ?_ _)); refine blk_put (cs := #[.int .i64 t167, .int .i64 0, .int .i64 0]) ?_ 1 _ rfl; (with_reducible repeat (first | refine blk_drewN ?_ _ | refine blk_drew ?_ | refine blk_alloc ?_ _)); refine blk_put (cs := #[.int .i64 0, .int .i64 0, .int .i64 0]) ?_ 0 _ rfl; (with_reducible repeat (first | refine blk_drewN ?_ _ | refine blk_drew ?_ | refine blk_alloc ?_ _)); exact BK170.out) hb); have n4_ := Aside0.mk (below_step (by repeat (first | (with_reducible first | exact HB.out | apply below_alloc | apply pw_below_drewN | apply below_drew1 | refine below_set ?_ GE158.out | refine below_set ?_ GE170.out) | exact HB.out)) hb); clear HO_6; clear HO_7; clear BK158; clear BK170; clear HB; have HO_6 := n0_; have HO_7 := n1_; have BK158 := n2_; have BK170 := n3_; have HB := n4_; clear n0_ n1_ n2_ n3_ n4_; (try clear hb); (try clear hb2); (try clear hk); (try clear hi); have hnb60 := NB170_158.out; have hnc60 := NB158_170.out; have hcz61_0 : w59.cell? ⟨gb170, 0, none⟩ = some (.int .i64 t167) := (blk_cell BK170.out 0).trans rfl; have hcz61_1 : w59.cell? ⟨gb170, 1, none⟩ = some (.int .i64 t168) := (blk_cell BK170.out 1).trans rfl; have hcz61_2 : w59.cell? ⟨gb170, 2, none⟩ = some (.int .i64 1) := (blk_cell BK170.out 2).trans rfl; have hfz61_0 := blk_frozen BK170.out 0; have hfz61_1 := blk_frozen BK170.out 1; have hfz61_2 := blk_frozen BK170.out 2))
                go_meet
                case rel => exact ⟨_, (0), (0), (0), (t173), (t173), (1), H', ⟨by have := HJ5.out; have := HJ14.out; first | omega | exact Nat.le_refl _⟩, ⟨by (with_reducible repeat (first | apply Kd.R_alloc | apply Kd.R_drewN | apply Kd.R_drew)); exact Kd.R_mono (Kd.R_far (p := ⟨gb170, 2, none⟩) (Kd.R_far (p := ⟨gb170, 1, none⟩) (Kd.R_far (p := ⟨gb170, 0, none⟩) (Kd.R_types HO_6.out BK170.out (by decide)) (fun _ hk => hk.2) (.int .i64 t173)) (fun _ hk => hk.2) (.int .i64 t173)) (fun _ hk => hk.2) (.int .i64 1)) (fun _ hk => trivial)⟩, ⟨by (with_reducible repeat (first | refine blk_drewN ?_ _ | refine blk_drew ?_ | refine blk_alloc ?_ _)); refine blk_far ?_ NB158_170.out _; (with_reducible repeat (first | refine blk_drewN ?_ _ | refine blk_drew ?_ | refine blk_alloc ?_ _)); refine blk_far ?_ NB158_170.out _; (with_reducible repeat (first | refine blk_drewN ?_ _ | refine blk_drew ?_ | refine blk_alloc ?_ _)); refine blk_far ?_ NB158_170.out _; (with_reducible repeat (first | refine blk_drewN ?_ _ | refine blk_drew ?_ | refine blk_alloc ?_ _)); exact BK158.out⟩, ⟨by (with_reducible repeat (first | refine blk_drewN ?_ _ | refine blk_drew ?_ | refine blk_alloc ?_ _)); refine blk_put (cs := #[.int .i64 t173, .int .i64 t173, .int .i64 1]) ?_ 2 _ rfl; (with_reducible repeat (first | refine blk_drewN ?_ _ | refine blk_drew ?_ | refine blk_alloc ?_ _)); refine blk_put (cs := #[.int .i64 t173, .int .i64 t168, .int .i64 1]) ?_ 1 _ rfl; (with_reducible repeat (first | refine blk_drewN ?_ _ | refine blk_drew ?_ | refine blk_alloc ?_ _)); refine blk_put (cs := #[.int .i64 t167, .int .i64 t168, .int .i64 1]) ?_ 0 _ rfl; (with_reducible repeat (first | refine blk_drewN ?_ _ | refine blk_drew ?_ | refine blk_alloc ?_ _)); exact BK170.out⟩, ⟨by repeat (first | (with_reducible first | exact HB.out | apply below_alloc | apply pw_below_drewN | apply below_drew1 | refine below_set ?_ GE158.out | refine below_set ?_ GE170.out) | exact HB.out)⟩⟩
             ·rw [if_neg c32] at H
              have c32b0 : (t174 == 0) = false := beq_eq_false_iff_ne.mpr c32
              have c32b1 : (t174 != 0) = true := bne_iff_ne.mpr c32
              simp only [Option.some.injEq, Prod.mk.injEq] at H
              obtain ⟨rfl, rfl, rfl, rfl⟩ := H
              obtain ⟨Ao62, co62, eo62⟩ := Kd.R_slice HO_7.out
              subst eo62
              have p172 : 0 ≤ (0 : Int) := (by omega)
              have q172 : 0 < (t163.length : Int) := of_decide_eq_true (by first | (with_reducible assumption) | assumption)
              obtain ⟨ad172, e172, hx172_0⟩ := Kd.at_string (Kd.R_reads' HO_7.out).2.2 0 p172 q172
              cases e172
              have qi172 : (0 < t163.length) = True := eq_true (by omega)
              (try rw [show ((0 : Int)).toNat = 0 from rfl] at hx172_0)
              (try rw [Addr.add_zero'] at hx172_0)
              have hn172_0 : ad172.block ≠ gb170 := Kd.own_blk (Kd.R_ne HO_7.out BK170.out (by decide))
              have hn172_1 : ad172.block ≠ gb170 := Kd.own_blk (Kd.R_ne HO_7.out BK170.out (by decide))
              have hn172_2 : ad172.block ≠ gb170 := Kd.own_blk (Kd.R_ne HO_7.out BK170.out (by decide))
              replace hx172_0 := (cell_far (p := ⟨gb170, 0, none⟩) (by first | (rw [add_block]; exact hn172_0) | (show (Addr.add _ _).block ≠ _; rw [add_block]; exact hn172_0) | exact hn172_0) (.int .i64 t167)).trans hx172_0
              replace hx172_0 := (cell_far (p := ⟨gb170, 1, none⟩) (by first | (rw [add_block]; exact hn172_1) | (show (Addr.add _ _).block ≠ _; rw [add_block]; exact hn172_1) | exact hn172_1) (.int .i64 t168)).trans hx172_0
              replace hx172_0 := (cell_far (p := ⟨gb170, 2, none⟩) (by first | (rw [add_block]; exact hn172_2) | (show (Addr.add _ _).block ≠ _; rw [add_block]; exact hn172_2) | exact hn172_2) (.int .i64 1)).trans hx172_0
              clear hn172_0
              clear hn172_1
              clear hn172_2
              replace p172 := eq_true p172
              replace q172 := eq_true q172
              go_wp2_with (first | ((with_reducible refine gate_callee (f := 56) rfl ?_); refine goesL_ (some 69) rfl rfl Tryz.func56 (by kernel_rfl) rfl #[.string (rdOf ByteArray.empty t163 0), .int .i64 a1] rfl (by (try simp only [List.map_toArray, List.map_cons, List.map_nil]); first | done | rfl | (simp only [List.length_drop, List.length_take]; rfl)) ?_; (with_reducible refine (complineref17_Value.calls kj14 (rdOf ByteArray.empty t163 0) a1 t173 t174 _ A31.out).mono ?_); rintro e w63 ⟨rfl, hb⟩; refine ⟨_, rfl, ?_⟩; have n0_ := Aside0.mk (Kd.R_below (by (with_reducible repeat (first | apply Kd.R_alloc | apply Kd.R_drewN | apply Kd.R_drew)); exact (Kd.R_mono (Kd.R_far (p := ⟨gb170, 2, none⟩) (Kd.R_far (p := ⟨gb170, 1, none⟩) (Kd.R_far (p := ⟨gb170, 0, none⟩) (Kd.R_types HO_6.out BK170.out (by decide)) (fun _ hk => hk.2) (.int .i64 t167)) (fun _ hk => hk.2) (.int .i64 t168)) (fun _ hk => hk.2) (.int .i64 1)) (fun _ h_ => h_.1))) hb); have n1_ := Aside0.mk (Kd.R_below (by (with_reducible repeat (first | apply Kd.R_alloc | apply Kd.R_drewN | apply Kd.R_drew)); exact (Kd.R_mono (Kd.R_far (p := ⟨gb170, 2, none⟩) (Kd.R_far (p := ⟨gb170, 1, none⟩) (Kd.R_far (p := ⟨gb170, 0, none⟩) (Kd.R_types HO_7.out BK170.out (by decide)) (fun _ hk => hk.2) (.int .i64 t167)) (fun _ hk => hk.2) (.int .i64 t168)) (fun _ hk => hk.2) (.int .i64 1)) (fun _ h_ => h_.1))) hb); have n2_ := Aside0.mk (blk_below (g := gb158) (o := .cells #[.int .i64 0, .int .i64 0, .int .i64 0] 76 (0, 0)) (by (with_reducible repeat (first | refine blk_drewN ?_ _ | refine blk_drew ?_ | refine blk_alloc ?_ _)); refine blk_far ?_ NB158_170.out _; (with_reducible repeat (first | refine blk_drewN ?_ _ | refine blk_drew ?_ | refine blk_alloc ?_ _)); refine blk_far ?_ NB158_170.out _; (with_reducible repeat (first | refine blk_drewN ?_ _ | refine blk_drew ?_ | refine blk_alloc ?_ _)); refine blk_far ?_ NB158_170.out _; (with_reducible repeat (first | refine blk_drewN ?_ _ | refine blk_drew ?_ | refine blk_alloc ?_ _)); exact BK158.out) hb); have n3_ := Aside0.mk (blk_below (g := gb170) (o := .cells #[.int .i64 t167, .int .i64 t168, .int .i64 1] 76 (0, 0)) (by (with_reducible repeat (first | refine blk_drewN ?_ _ | refine blk_drew ?_ | refine blk_alloc ?_ _)); refine blk_put (cs := #[.int .i64 t167, .int .i64 t168, .int .i64 0]) ?_ 2 _ rfl; (with_reducible repeat (first | refine blk_drewN ?_ _ | refine blk_drew ?_ | refine blk_alloc ?_ _)); refine blk_put (cs := #[.int .i64 t167, .int .i64 0, .int .i64 0]) ?_ 1 _ rfl; (with_reducible repeat (first | refine blk_drewN ?_ _ | refine blk_drew ?_ | refine blk_alloc ?_ _)); refine blk_put (cs := #[.int .i64 0, .int .i64 0, .int .i64 0]) ?_ 0 _ rfl; (with_reducible repeat (first | refine blk_drewN ?_ _ | refine blk_drew ?_ | refine blk_alloc ?_ _)); exact BK170.out) hb); have n4_ := Aside0.mk (below_step (by repeat (first | (with_reducible first | exact HB.out | apply below_alloc | apply pw_below_drewN | apply below_drew1 | refine below_set ?_ GE158.out | refine below_set ?_ GE170.out) | exact HB.out)) hb); clear HO_6; clear HO_7; clear BK158; clear BK170; clear HB; have HO_6 := n0_; have HO_7 := n1_; have BK158 := n2_; have BK170 := n3_; have HB := n4_; clear n0_ n1_ n2_ n3_ n4_; (try clear hb); (try clear hb2); (try clear hk); (try clear hi); have hnb64 := NB158_170.out; have hnc64 := NB170_158.out; have hcz65_0 : w63.cell? ⟨gb158, 0, none⟩ = some (.int .i64 0) := (blk_cell BK158.out 0).trans rfl; have hcz65_1 : w63.cell? ⟨gb158, 1, none⟩ = some (.int .i64 0) := (blk_cell BK158.out 1).trans rfl; have hcz65_2 : w63.cell? ⟨gb158, 2, none⟩ = some (.int .i64 0) := (blk_cell BK158.out 2).trans rfl; have hfz65_0 := blk_frozen BK158.out 0; have hfz65_1 := blk_frozen BK158.out 1; have hfz65_2 := blk_frozen BK158.out 2))
              refine bodyPost_ret (results_ct rfl _ _ gb158 76 #[.int .i64 0, .int .i64 0, .int .i64 0] (0, 0) _ rfl (by (with_reducible repeat (first | refine blk_drewN ?_ _ | refine blk_drew ?_ | refine blk_alloc ?_ _)); refine blk_put (cs := #[.int .i64 0, .int .i64 0, .int .i64 0]) ?_ 2 _ rfl; (with_reducible repeat (first | refine blk_drewN ?_ _ | refine blk_drew ?_ | refine blk_alloc ?_ _)); refine blk_put (cs := #[.int .i64 0, .int .i64 0, .int .i64 0]) ?_ 1 _ rfl; (with_reducible repeat (first | refine blk_drewN ?_ _ | refine blk_drew ?_ | refine blk_alloc ?_ _)); refine blk_put (cs := #[.int .i64 0, .int .i64 0, .int .i64 0]) ?_ 0 _ rfl; (with_reducible repeat (first | refine blk_drewN ?_ _ | refine blk_drew ?_ | refine blk_alloc ?_ _)); exact BK158.out) Tryz.underlying76 rfl (by kernel_rfl)) rfl ?_
              exact ⟨by first | rfl | (simp [errW_none, errW_some] <;> rfl) | (simp [*, errW_none, errW_some] <;> rfl), by repeat (first | (with_reducible first | exact HB.out | apply below_alloc | apply pw_below_drewN | apply below_drew1 | refine below_set ?_ GE158.out | refine below_set ?_ GE170.out) | exact HB.out)⟩
            ·rw [if_neg c30] at H
             exact absurd H (by simp)
          case rest =>
           clear HC25
           try clear c1
           try clear p1
           try clear q1
           try clear hx1
           try clear qi1
           try clear c2
           try clear p2
           try clear c3
           try clear c4
           try clear c4b0
           try clear c4b1
           try clear c5
           try clear c6
           try clear c11
           try clear c11b0
           try clear c11b1
           try clear c13
           try clear c16
           try clear c16b0
           try clear c16b1
           try clear p16
           try clear q16
           try clear hx16
           try clear qi16
           try clear c17
           try clear c17b0
           try clear c17b1
           try clear p17
           try clear q17
           try clear hx17
           try clear qi17
           try clear c18
           try clear c18b0
           try clear c18b1
           try clear c20
           try clear c23
           try clear c23b0
           try clear c23b1
           try clear c24
           try clear c24b0
           try clear c24b1
           try clear c27
           try clear c29
           try clear c29b0
           try clear c29b1
           try clear c30
           try clear c30b0
           try clear c30b1
           try clear c32
           try clear c32b0
           try clear c32b1
           try clear c33
           try clear c33b0
           try clear c33b1
           try clear c34
           try clear c34b0
           try clear c34b1
           try clear c36
           try clear c36b0
           try clear c36b1
           try clear c37
           try clear c37b0
           try clear c41
           try clear c42
           try clear c46
           try clear c51
           try clear c53
           try clear c53b0
           try clear c55
           try clear c56
           try clear c60
           try clear c64
           try clear hcz14_0
           try clear hcz14_1
           try clear hcz14_2
           try clear hcz21_0
           try clear hcz21_1
           try clear hcz21_2
           try clear hcz28_0
           try clear hcz28_1
           try clear hcz28_2
           try clear hcz42_0
           try clear hcz42_1
           try clear hcz42_2
           try clear hcz47_0
           try clear hcz47_1
           try clear hcz47_2
           try clear hcz52_0
           try clear hcz52_1
           try clear hcz52_2
           try clear hcz57_0
           try clear hcz57_1
           try clear hcz57_2
           try clear hcz61_0
           try clear hcz61_1
           try clear hcz61_2
           try clear hcz65_0
           try clear hcz65_1
           try clear hcz65_2
           try clear hfz14_0
           try clear hfz14_1
           try clear hfz14_2
           try clear hfz21_0
           try clear hfz21_1
           try clear hfz21_2
           try clear hfz28_0
           try clear hfz28_1
           try clear hfz28_2
           try clear hfz42_0
           try clear hfz42_1
           try clear hfz42_2
           try clear hfz47_0
           try clear hfz47_1
           try clear hfz47_2
           try clear hfz52_0
           try clear hfz52_1
           try clear hfz52_2
           try clear hfz57_0
           try clear hfz57_1
           try clear hfz57_2
           try clear hfz61_0
           try clear hfz61_1
           try clear hfz61_2
           try clear hfz65_0
           try clear hfz65_1
           try clear hfz65_2
           try clear hx162_0
           try clear hx166_0
           try clear hx171_0
           try clear hx172_0
           try clear hx175_0
           try clear p1
           try clear p16
           try clear p162
           try clear p166
           try clear p171
           try clear p172
           try clear p175
           try clear p2
           try clear q1
           try clear q16
           try clear q162
           try clear q166
           try clear q171
           try clear q172
           try clear q175
           obtain ⟨kq, x159000_24, x159001_24, x159002_24, x171000_24, x171001_24, x171002_24, HA, HJ24, HO_6, BK158, BK170, HB⟩ := hcut
           cases kq with
           | zero => exact absurd HA.out (by simp [complineref18_Item.j2])
           | succ kj24 =>
            have H := HA.out
            clear HA
            simp only [complineref18_Item.j2] at H
            by_cases c66 : (t159.length : Int) = 2
            ·rw [if_pos c66] at H
             have c66b0 : ((t159.length : Int) == 2) = true := beq_iff_eq.mpr c66
             have c66b1 : ((t159.length : Int) != 2) = false := bne_eq_false_iff_eq.mpr c66
             clear c66
             by_cases c67 : 1 < (t159.length : Int)
             ·rw [if_pos c67] at H
              have c67b0 : decide (1 < (t159.length : Int)) = true := decide_eq_true c67
              have c67b1 : decide (1 < t159.length) = true := decide_eq_true (by omega)
              clear c67
              replace H := Option.bind_eq_some_iff.mp H
              obtain ⟨⟨t179, t180⟩, A680, H⟩ := H
              replace H : (if t180 = 0 then (if t179 = 0 then (some (0, 0, 0, 1)) else (some (x171000_24, x171001_24, t179, 0))) else (some (0, 0, 0, t180))) = some (r1, r2, r3, r4) := H
              have A68 := Aside0.mk A680
              clear A680
              by_cases c69 : t180 = 0
              ·rw [if_pos c69] at H
               have c69b0 : (t180 == 0) = true := beq_iff_eq.mpr c69
               have c69b1 : (t180 != 0) = false := bne_eq_false_iff_eq.mpr c69
               clear c69
               by_cases c70 : t179 = 0
               ·rw [if_pos c70] at H
                have c70b0 : (t179 == 0) = true := beq_iff_eq.mpr c70
                have c70b1 : (t179 != 0) = false := bne_eq_false_iff_eq.mpr c70
                clear c70
                simp only [Option.some.injEq, Prod.mk.injEq] at H
                obtain ⟨rfl, rfl, rfl, rfl⟩ := H
                have p178 : 0 ≤ (1 : Int) := (by omega)
                have q178 : 1 < (t159.length : Int) := of_decide_eq_true (by first | (with_reducible assumption) | assumption)
                obtain ⟨ad178, e178, hx178_0⟩ := Kd.at_string (Kd.R_reads' HO_6.out).2.2 1 p178 q178
                obtain rfl : ad162 = ad178 := (by injection e178)
                (try simp only [show (1 : Int).toNat = 1 from rfl, Nat.reduceMul, Nat.reduceEqDiff, Go.Addr.add, ↓reduceIte] at hx178_0)
                have qi178 : (1 < t159.length) = True := eq_true (by omega)
                (try rw [show ((1 : Int)).toNat = 1 from rfl] at hx178_0)
                replace p178 := eq_true p178
                replace q178 := eq_true q178
                go_wp2_with (first | ((with_reducible refine gate_callee (f := 57) rfl ?_); refine goesL_ (some 106) rfl rfl Tryz.func57 (by kernel_rfl) rfl #[.string (rdOf ByteArray.empty t159 1)] rfl (by (try simp only [List.map_toArray, List.map_cons, List.map_nil]); first | done | rfl | (simp only [List.length_drop, List.length_take]; rfl)) ?_; (with_reducible refine (complineref17_Number.calls kj24 (rdOf ByteArray.empty t159 1) t179 t180 _ A68.out).mono ?_); rintro e w' ⟨rfl, ⟨nd, rfl⟩⟩; refine ⟨_, rfl, ?_⟩; (try (rw [drewN_self wc]; generalize hq_ : World.drewN wc _ = wc; have n0_ : Aside0 (Kd.R Kd.string 9 wc w.heap.size (fun _ => True) (.slice (some ad162) t159.length co9) t159) := ⟨by rw [← hq_]; exact (by (with_reducible repeat (first | apply Kd.R_alloc | apply Kd.R_drewN | apply Kd.R_drew)); exact HO_6.out)⟩; have n1_ : Aside0 (wc.heap[gb158]? = some (.cells #[.int .i64 x159000_24, .int .i64 x159001_24, .int .i64 x159002_24] 76 (0, 0))) := ⟨by rw [← hq_]; exact (by (with_reducible repeat (first | refine blk_drewN ?_ _ | refine blk_drew ?_ | refine blk_alloc ?_ _)); exact BK158.out)⟩; have n2_ : Aside0 (wc.heap[gb170]? = some (.cells #[.int .i64 x171000_24, .int .i64 x171001_24, .int .i64 x171002_24] 76 (0, 0))) := ⟨by rw [← hq_]; exact (by (with_reducible repeat (first | refine blk_drewN ?_ _ | refine blk_drew ?_ | refine blk_alloc ?_ _)); exact BK170.out)⟩; have n3_ : Aside0 (Below w.heap.size w wc) := ⟨by rw [← hq_]; exact (by repeat (first | (with_reducible first | exact HB.out | apply below_alloc | apply pw_below_drewN | apply below_drew1 | refine below_set ?_ GE158.out | refine below_set ?_ GE170.out) | exact HB.out))⟩; clear HO_6 BK158 BK170 HB hq_; have HO_6 := n0_; have BK158 := n1_; have BK170 := n2_; have HB := n3_; clear n0_ n1_ n2_ n3_)); have hnb71 := NB158_170.out; have hnc71 := NB170_158.out; have hcz72_0 : wc.cell? ⟨gb158, 0, none⟩ = some (.int .i64 x159000_24) := (blk_cell BK158.out 0).trans rfl; have hcz72_1 : wc.cell? ⟨gb158, 1, none⟩ = some (.int .i64 x159001_24) := (blk_cell BK158.out 1).trans rfl; have hcz72_2 : wc.cell? ⟨gb158, 2, none⟩ = some (.int .i64 x159002_24) := (blk_cell BK158.out 2).trans rfl; have hfz72_0 := blk_frozen BK158.out 0; have hfz72_1 := blk_frozen BK158.out 1; have hfz72_2 := blk_frozen BK158.out 2))
                refine bodyPost_ret (results_ct rfl _ _ gb158 76 #[.int .i64 0, .int .i64 0, .int .i64 0] (0, 0) _ rfl (by (with_reducible repeat (first | refine blk_drewN ?_ _ | refine blk_drew ?_ | refine blk_alloc ?_ _)); refine blk_put (cs := #[.int .i64 0, .int .i64 0, .int .i64 x159002_24]) ?_ 2 _ rfl; (with_reducible repeat (first | refine blk_drewN ?_ _ | refine blk_drew ?_ | refine blk_alloc ?_ _)); refine blk_put (cs := #[.int .i64 0, .int .i64 x159001_24, .int .i64 x159002_24]) ?_ 1 _ rfl; (with_reducible repeat (first | refine blk_drewN ?_ _ | refine blk_drew ?_ | refine blk_alloc ?_ _)); refine blk_put (cs := #[.int .i64 x159000_24, .int .i64 x159001_24, .int .i64 x159002_24]) ?_ 0 _ rfl; (with_reducible repeat (first | refine blk_drewN ?_ _ | refine blk_drew ?_ | refine blk_alloc ?_ _)); exact BK158.out) Tryz.underlying76 rfl (by kernel_rfl)) rfl ?_
                exact ⟨by first | rfl | (simp [errW_none, errW_some] <;> rfl) | (simp [*, errW_none, errW_some] <;> rfl), by repeat (first | (with_reducible first | exact HB.out | apply below_alloc | apply pw_below_drewN | apply below_drew1 | refine below_set ?_ GE158.out | refine below_set ?_ GE170.out) | exact HB.out)⟩
               ·rw [if_neg c70] at H
                have c70b0 : (t179 == 0) = false := beq_eq_false_iff_ne.mpr c70
                have c70b1 : (t179 != 0) = true := bne_iff_ne.mpr c70
                simp only [Option.some.injEq, Prod.mk.injEq] at H
                obtain ⟨rfl, rfl, rfl, rfl⟩ := H
                have p178 : 0 ≤ (1 : Int) := (by omega)
                have q178 : 1 < (t159.length : Int) := of_decide_eq_true (by first | (with_reducible assumption) | assumption)
                obtain ⟨ad178, e178, hx178_0⟩ := Kd.at_string (Kd.R_reads' HO_6.out).2.2 1 p178 q178
                obtain rfl : ad162 = ad178 := (by injection e178)
                (try simp only [show (1 : Int).toNat = 1 from rfl, Nat.reduceMul, Nat.reduceEqDiff, Go.Addr.add, ↓reduceIte] at hx178_0)
                have qi178 : (1 < t159.length) = True := eq_true (by omega)
                (try rw [show ((1 : Int)).toNat = 1 from rfl] at hx178_0)
                replace p178 := eq_true p178
                replace q178 := eq_true q178
                go_wp2_with (first | ((with_reducible refine gate_callee (f := 57) rfl ?_); refine goesL_ (some 106) rfl rfl Tryz.func57 (by kernel_rfl) rfl #[.string (rdOf ByteArray.empty t159 1)] rfl (by (try simp only [List.map_toArray, List.map_cons, List.map_nil]); first | done | rfl | (simp only [List.length_drop, List.length_take]; rfl)) ?_; (with_reducible refine (complineref17_Number.calls kj24 (rdOf ByteArray.empty t159 1) t179 t180 _ A68.out).mono ?_); rintro e w' ⟨rfl, ⟨nd, rfl⟩⟩; refine ⟨_, rfl, ?_⟩; (try (rw [drewN_self wc]; generalize hq_ : World.drewN wc _ = wc; have n0_ : Aside0 (Kd.R Kd.string 9 wc w.heap.size (fun _ => True) (.slice (some ad162) t159.length co9) t159) := ⟨by rw [← hq_]; exact (by (with_reducible repeat (first | apply Kd.R_alloc | apply Kd.R_drewN | apply Kd.R_drew)); exact HO_6.out)⟩; have n1_ : Aside0 (wc.heap[gb158]? = some (.cells #[.int .i64 x159000_24, .int .i64 x159001_24, .int .i64 x159002_24] 76 (0, 0))) := ⟨by rw [← hq_]; exact (by (with_reducible repeat (first | refine blk_drewN ?_ _ | refine blk_drew ?_ | refine blk_alloc ?_ _)); exact BK158.out)⟩; have n2_ : Aside0 (wc.heap[gb170]? = some (.cells #[.int .i64 x171000_24, .int .i64 x171001_24, .int .i64 x171002_24] 76 (0, 0))) := ⟨by rw [← hq_]; exact (by (with_reducible repeat (first | refine blk_drewN ?_ _ | refine blk_drew ?_ | refine blk_alloc ?_ _)); exact BK170.out)⟩; have n3_ : Aside0 (Below w.heap.size w wc) := ⟨by rw [← hq_]; exact (by repeat (first | (with_reducible first | exact HB.out | apply below_alloc | apply pw_below_drewN | apply below_drew1 | refine below_set ?_ GE158.out | refine below_set ?_ GE170.out) | exact HB.out))⟩; clear HO_6 BK158 BK170 HB hq_; have HO_6 := n0_; have BK158 := n1_; have BK170 := n2_; have HB := n3_; clear n0_ n1_ n2_ n3_)); have hnb73 := NB170_158.out; have hnc73 := NB158_170.out; have hcz74_0 : wc.cell? ⟨gb170, 0, none⟩ = some (.int .i64 x171000_24) := (blk_cell BK170.out 0).trans rfl; have hcz74_1 : wc.cell? ⟨gb170, 1, none⟩ = some (.int .i64 x171001_24) := (blk_cell BK170.out 1).trans rfl; have hcz74_2 : wc.cell? ⟨gb170, 2, none⟩ = some (.int .i64 x171002_24) := (blk_cell BK170.out 2).trans rfl; have hfz74_0 := blk_frozen BK170.out 0; have hfz74_1 := blk_frozen BK170.out 1; have hfz74_2 := blk_frozen BK170.out 2; have hcz75_0 : wc.cell? ⟨gb158, 0, none⟩ = some (.int .i64 x159000_24) := (blk_cell BK158.out 0).trans rfl; have hcz75_1 : wc.cell? ⟨gb158, 1, none⟩ = some (.int .i64 x159001_24) := (blk_cell BK158.out 1).trans rfl; have hcz75_2 : wc.cell? ⟨gb158, 2, none⟩ = some (.int .i64 x159002_24) := (blk_cell BK158.out 2).trans rfl; have hfz75_0 := blk_frozen BK158.out 0; have hfz75_1 := blk_frozen BK158.out 1; have hfz75_2 := blk_frozen BK158.out 2))
                refine bodyPost_ret (results_ct rfl _ _ gb158 76 #[.int .i64 x171000_24, .int .i64 x171001_24, .int .i64 t179] (0, 0) _ rfl (by (with_reducible repeat (first | refine blk_drewN ?_ _ | refine blk_drew ?_ | refine blk_alloc ?_ _)); refine blk_put (cs := #[.int .i64 x171000_24, .int .i64 x171001_24, .int .i64 x159002_24]) ?_ 2 _ rfl; (with_reducible repeat (first | refine blk_drewN ?_ _ | refine blk_drew ?_ | refine blk_alloc ?_ _)); refine blk_put (cs := #[.int .i64 x171000_24, .int .i64 x159001_24, .int .i64 x159002_24]) ?_ 1 _ rfl; (with_reducible repeat (first | refine blk_drewN ?_ _ | refine blk_drew ?_ | refine blk_alloc ?_ _)); refine blk_put (cs := #[.int .i64 x159000_24, .int .i64 x159001_24, .int .i64 x159002_24]) ?_ 0 _ rfl; (with_reducible repeat (first | refine blk_drewN ?_ _ | refine blk_drew ?_ | refine blk_alloc ?_ _)); refine blk_far ?_ NB158_170.out _; (with_reducible repeat (first | refine blk_drewN ?_ _ | refine blk_drew ?_ | refine blk_alloc ?_ _)); exact BK158.out) Tryz.underlying76 rfl (by kernel_rfl)) rfl ?_
                exact ⟨by first | rfl | (simp [errW_none, errW_some] <;> rfl) | (simp [*, errW_none, errW_some] <;> rfl), by repeat (first | (with_reducible first | exact HB.out | apply below_alloc | apply pw_below_drewN | apply below_drew1 | refine below_set ?_ GE158.out | refine below_set ?_ GE170.out) | exact HB.out)⟩
              ·rw [if_neg c69] at H
               have c69b0 : (t180 == 0) = false := beq_eq_false_iff_ne.mpr c69
               have c69b1 : (t180 != 0) = true := bne_iff_ne.mpr c69
               simp only [Option.some.injEq, Prod.mk.injEq] at H
               obtain ⟨rfl, rfl, rfl, rfl⟩ := H
               have p178 : 0 ≤ (1 : Int) := (by omega)
               have q178 : 1 < (t159.length : Int) := of_decide_eq_true (by first | (with_reducible assumption) | assumption)
               obtain ⟨ad178, e178, hx178_0⟩ := Kd.at_string (Kd.R_reads' HO_6.out).2.2 1 p178 q178
               obtain rfl : ad162 = ad178 := (by injection e178)
               (try simp only [show (1 : Int).toNat = 1 from rfl, Nat.reduceMul, Nat.reduceEqDiff, Go.Addr.add, ↓reduceIte] at hx178_0)
               have qi178 : (1 < t159.length) = True := eq_true (by omega)
               (try rw [show ((1 : Int)).toNat = 1 from rfl] at hx178_0)
               replace p178 := eq_true p178
               replace q178 := eq_true q178
               go_wp2_with (first | ((with_reducible refine gate_callee (f := 57) rfl ?_); refine goesL_ (some 106) rfl rfl Tryz.func57 (by kernel_rfl) rfl #[.string (rdOf ByteArray.empty t159 1)] rfl (by (try simp only [List.map_toArray, List.map_cons, List.map_nil]); first | done | rfl | (simp only [List.length_drop, List.length_take]; rfl)) ?_; (with_reducible refine (complineref17_Number.calls kj24 (rdOf ByteArray.empty t159 1) t179 t180 _ A68.out).mono ?_); rintro e w' ⟨rfl, ⟨nd, rfl⟩⟩; refine ⟨_, rfl, ?_⟩; (try (rw [drewN_self wc]; generalize hq_ : World.drewN wc _ = wc; have n0_ : Aside0 (Kd.R Kd.string 9 wc w.heap.size (fun _ => True) (.slice (some ad162) t159.length co9) t159) := ⟨by rw [← hq_]; exact (by (with_reducible repeat (first | apply Kd.R_alloc | apply Kd.R_drewN | apply Kd.R_drew)); exact HO_6.out)⟩; have n1_ : Aside0 (wc.heap[gb158]? = some (.cells #[.int .i64 x159000_24, .int .i64 x159001_24, .int .i64 x159002_24] 76 (0, 0))) := ⟨by rw [← hq_]; exact (by (with_reducible repeat (first | refine blk_drewN ?_ _ | refine blk_drew ?_ | refine blk_alloc ?_ _)); exact BK158.out)⟩; have n2_ : Aside0 (wc.heap[gb170]? = some (.cells #[.int .i64 x171000_24, .int .i64 x171001_24, .int .i64 x171002_24] 76 (0, 0))) := ⟨by rw [← hq_]; exact (by (with_reducible repeat (first | refine blk_drewN ?_ _ | refine blk_drew ?_ | refine blk_alloc ?_ _)); exact BK170.out)⟩; have n3_ : Aside0 (Below w.heap.size w wc) := ⟨by rw [← hq_]; exact (by repeat (first | (with_reducible first | exact HB.out | apply below_alloc | apply pw_below_drewN | apply below_drew1 | refine below_set ?_ GE158.out | refine below_set ?_ GE170.out) | exact HB.out))⟩; clear HO_6 BK158 BK170 HB hq_; have HO_6 := n0_; have BK158 := n1_; have BK170 := n2_; have HB := n3_; clear n0_ n1_ n2_ n3_)); have hnb76 := NB158_170.out; have hnc76 := NB170_158.out; have hcz77_0 : wc.cell? ⟨gb158, 0, none⟩ = some (.int .i64 x159000_24) := (blk_cell BK158.out 0).trans rfl; have hcz77_1 : wc.cell? ⟨gb158, 1, none⟩ = some (.int .i64 x159001_24) := (blk_cell BK158.out 1).trans rfl; have hcz77_2 : wc.cell? ⟨gb158, 2, none⟩ = some (.int .i64 x159002_24) := (blk_cell BK158.out 2).trans rfl; have hfz77_0 := blk_frozen BK158.out 0; have hfz77_1 := blk_frozen BK158.out 1; have hfz77_2 := blk_frozen BK158.out 2))
               refine bodyPost_ret (results_ct rfl _ _ gb158 76 #[.int .i64 0, .int .i64 0, .int .i64 0] (0, 0) _ rfl (by (with_reducible repeat (first | refine blk_drewN ?_ _ | refine blk_drew ?_ | refine blk_alloc ?_ _)); refine blk_put (cs := #[.int .i64 0, .int .i64 0, .int .i64 x159002_24]) ?_ 2 _ rfl; (with_reducible repeat (first | refine blk_drewN ?_ _ | refine blk_drew ?_ | refine blk_alloc ?_ _)); refine blk_put (cs := #[.int .i64 0, .int .i64 x159001_24, .int .i64 x159002_24]) ?_ 1 _ rfl; (with_reducible repeat (first | refine blk_drewN ?_ _ | refine blk_drew ?_ | refine blk_alloc ?_ _)); refine blk_put (cs := #[.int .i64 x159000_24, .int .i64 x159001_24, .int .i64 x159002_24]) ?_ 0 _ rfl; (with_reducible repeat (first | refine blk_drewN ?_ _ | refine blk_drew ?_ | refine blk_alloc ?_ _)); exact BK158.out) Tryz.underlying76 rfl (by kernel_rfl)) rfl ?_
               exact ⟨by first | rfl | (simp [errW_none, errW_some] <;> rfl) | (simp [*, errW_none, errW_some] <;> rfl), by repeat (first | (with_reducible first | exact HB.out | apply below_alloc | apply pw_below_drewN | apply below_drew1 | refine below_set ?_ GE158.out | refine below_set ?_ GE170.out) | exact HB.out)⟩
             ·rw [if_neg c67] at H
              exact absurd H (by simp)
            ·rw [if_neg c66] at H
             have c66b0 : ((t159.length : Int) == 2) = false := beq_eq_false_iff_ne.mpr c66
             have c66b1 : ((t159.length : Int) != 2) = true := bne_iff_ne.mpr c66
             simp only [Option.some.injEq, Prod.mk.injEq] at H
             obtain ⟨rfl, rfl, rfl, rfl⟩ := H
             have hnb78 := NB170_158.out
             have hnc78 := NB158_170.out
             have hcz79_0 : wc.cell? ⟨gb170, 0, none⟩ = some (.int .i64 x171000_24) := (blk_cell BK170.out 0).trans rfl
             have hcz79_1 : wc.cell? ⟨gb170, 1, none⟩ = some (.int .i64 x171001_24) := (blk_cell BK170.out 1).trans rfl
             have hcz79_2 : wc.cell? ⟨gb170, 2, none⟩ = some (.int .i64 x171002_24) := (blk_cell BK170.out 2).trans rfl
             have hfz79_0 := blk_frozen BK170.out 0
             have hfz79_1 := blk_frozen BK170.out 1
             have hfz79_2 := blk_frozen BK170.out 2
             have hcz80_0 : wc.cell? ⟨gb158, 0, none⟩ = some (.int .i64 x159000_24) := (blk_cell BK158.out 0).trans rfl
             have hcz80_1 : wc.cell? ⟨gb158, 1, none⟩ = some (.int .i64 x159001_24) := (blk_cell BK158.out 1).trans rfl
             have hcz80_2 : wc.cell? ⟨gb158, 2, none⟩ = some (.int .i64 x159002_24) := (blk_cell BK158.out 2).trans rfl
             have hfz80_0 := blk_frozen BK158.out 0
             have hfz80_1 := blk_frozen BK158.out 1
             have hfz80_2 := blk_frozen BK158.out 2
             go_wp2
             refine bodyPost_ret (results_ct rfl _ _ gb158 76 #[.int .i64 x171000_24, .int .i64 x171001_24, .int .i64 x171002_24] (0, 0) _ rfl (by (with_reducible repeat (first | refine blk_drewN ?_ _ | refine blk_drew ?_ | refine blk_alloc ?_ _)); refine blk_put (cs := #[.int .i64 x171000_24, .int .i64 x171001_24, .int .i64 x159002_24]) ?_ 2 _ rfl; (with_reducible repeat (first | refine blk_drewN ?_ _ | refine blk_drew ?_ | refine blk_alloc ?_ _)); refine blk_put (cs := #[.int .i64 x171000_24, .int .i64 x159001_24, .int .i64 x159002_24]) ?_ 1 _ rfl; (with_reducible repeat (first | refine blk_drewN ?_ _ | refine blk_drew ?_ | refine blk_alloc ?_ _)); refine blk_put (cs := #[.int .i64 x159000_24, .int .i64 x159001_24, .int .i64 x159002_24]) ?_ 0 _ rfl; (with_reducible repeat (first | refine blk_drewN ?_ _ | refine blk_drew ?_ | refine blk_alloc ?_ _)); exact BK158.out) Tryz.underlying76 rfl (by kernel_rfl)) rfl ?_
             exact ⟨by first | rfl | (simp [errW_none, errW_some] <;> rfl) | (simp [*, errW_none, errW_some] <;> rfl), by repeat (first | (with_reducible first | exact HB.out | apply below_alloc | apply pw_below_drewN | apply below_drew1 | refine below_set ?_ GE158.out | refine below_set ?_ GE170.out) | exact HB.out)⟩
         ·rw [if_neg c24] at H
          exact absurd H (by simp)
        ·rw [if_neg c23] at H
         have c23b0 : (t169 == 0) = false := beq_eq_false_iff_ne.mpr c23
         have c23b1 : (t169 != 0) = true := bne_iff_ne.mpr c23
         simp only [Option.some.injEq, Prod.mk.injEq] at H
         obtain ⟨rfl, rfl, rfl, rfl⟩ := H
         go_wp2_with (first | ((with_reducible refine gate_callee (f := 55) rfl ?_); refine goesL_ (some 49) rfl rfl Tryz.func55 (by kernel_rfl) rfl #[.int .i64 a1] rfl (by (try simp only [List.map_toArray, List.map_cons, List.map_nil]); first | done | rfl | (simp only [List.length_drop, List.length_take]; rfl)) ?_; (with_reducible refine (complineref17_Limits.calls a1 t167 t168 t169 _ A22.out).mono ?_); rintro e w' ⟨rfl, ⟨nd, rfl⟩⟩; refine ⟨_, rfl, ?_⟩; (try (rw [drewN_self wc]; generalize hq_ : World.drewN wc _ = wc; have n0_ : Aside0 (Kd.R Kd.string 9 wc w.heap.size (fun k_ => some k_ ≠ (v164 : Value).ownBlock) (.slice (some ad162) t159.length co9) t159) := ⟨by rw [← hq_]; exact (by (with_reducible repeat (first | apply Kd.R_alloc | apply Kd.R_drewN | apply Kd.R_drew)); exact HO_6.out)⟩; have n1_ : Aside0 (Kd.R Kd.string 9 wc w.heap.size (fun k_ => some k_ ≠ (.slice (some ad162) t159.length co9 : Value).ownBlock) v164 t163) := ⟨by rw [← hq_]; exact (by (with_reducible repeat (first | apply Kd.R_alloc | apply Kd.R_drewN | apply Kd.R_drew)); exact HO_7.out)⟩; have n2_ : Aside0 (wc.heap[gb158]? = some (.cells #[.int .i64 0, .int .i64 0, .int .i64 0] 76 (0, 0))) := ⟨by rw [← hq_]; exact (by (with_reducible repeat (first | refine blk_drewN ?_ _ | refine blk_drew ?_ | refine blk_alloc ?_ _)); exact BK158.out)⟩; have n3_ : Aside0 (Below w.heap.size w wc) := ⟨by rw [← hq_]; exact (by repeat (first | (with_reducible first | exact HB.out | apply below_alloc | apply pw_below_drewN | apply below_drew1 | refine below_set ?_ GE158.out) | exact HB.out))⟩; clear HO_6 HO_7 BK158 HB hq_; have HO_6 := n0_; have HO_7 := n1_; have BK158 := n2_; have HB := n3_; clear n0_ n1_ n2_ n3_)); have hcz81_0 : wc.cell? ⟨gb158, 0, none⟩ = some (.int .i64 0) := (blk_cell BK158.out 0).trans rfl; have hcz81_1 : wc.cell? ⟨gb158, 1, none⟩ = some (.int .i64 0) := (blk_cell BK158.out 1).trans rfl; have hcz81_2 : wc.cell? ⟨gb158, 2, none⟩ = some (.int .i64 0) := (blk_cell BK158.out 2).trans rfl; have hfz81_0 := blk_frozen BK158.out 0; have hfz81_1 := blk_frozen BK158.out 1; have hfz81_2 := blk_frozen BK158.out 2))
         refine bodyPost_ret (results_ct rfl _ _ gb158 76 #[.int .i64 0, .int .i64 0, .int .i64 0] (0, 0) _ rfl (by (with_reducible repeat (first | refine blk_drewN ?_ _ | refine blk_drew ?_ | refine blk_alloc ?_ _)); refine blk_put (cs := #[.int .i64 0, .int .i64 0, .int .i64 0]) ?_ 2 _ rfl; (with_reducible repeat (first | refine blk_drewN ?_ _ | refine blk_drew ?_ | refine blk_alloc ?_ _)); refine blk_put (cs := #[.int .i64 0, .int .i64 0, .int .i64 0]) ?_ 1 _ rfl; (with_reducible repeat (first | refine blk_drewN ?_ _ | refine blk_drew ?_ | refine blk_alloc ?_ _)); refine blk_put (cs := #[.int .i64 0, .int .i64 0, .int .i64 0]) ?_ 0 _ rfl; (with_reducible repeat (first | refine blk_drewN ?_ _ | refine blk_drew ?_ | refine blk_alloc ?_ _)); exact BK158.out) Tryz.underlying76 rfl (by kernel_rfl)) rfl ?_
         exact ⟨by first | rfl | (simp [errW_none, errW_some] <;> rfl) | (simp [*, errW_none, errW_some] <;> rfl), by repeat (first | (with_reducible first | exact HB.out | apply below_alloc | apply pw_below_drewN | apply below_drew1 | refine below_set ?_ GE158.out) | exact HB.out)⟩
 ·rw [if_neg c4] at H
  exact absurd H (by simp)

end Go.Proofs.YtjddfpciblhpaaaGreatDoor.PSpp
