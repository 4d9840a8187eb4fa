-- Written by a program of this session (gprint.py) over the kit's print.
import Derived.Test.YtgajipaenoepiaaPLexx0
import Derived.Test.YtgajipaenoepiaaPLexx1
import Derived.Test.YtgajipaenoepiaaPLexx3
namespace Go.Proofs.Ytgajipaenoepiaa.PLex
open Go.RowKit Go.Proofs.YtgajipaenoepiaaW.PrintWords Go.Proofs.YtgajipaenoepiaaW.PrintLast Go.Proofs.YtgajipaenoepiaaW.PrintMore
attribute [local go_sem] max2_int min2_int max_two min_two max_three min_three max_four min_four   -- for this text's walks alone
set_option linter.unusedVariables false
set_option linter.unusedSimpArgs false

/-! ### complinelaw17_LexJoins: function 5 -/
mutual
def complinelaw17_LexJoins.j0 : Nat → List ByteArray → List Int → Bool → Bool → Option (Bool)
  | 0, _, _, _, _ => none
  | k + 1, x0, x1, x5, x24 => if x24 = true then (some x5) else (complinelaw17_LexJoins.l0 k x0 x1 x5 (⟨#[]⟩ : ByteArray) 0)
def complinelaw17_LexJoins.l0 : Nat → List ByteArray → List Int → Bool → ByteArray → Int → Option (Bool)
  | 0, _, _, _, _, _ => none
  | k + 1, x0, x1, x5, x6, x7 => if x7 < 6 then (if 0 ≤ x7 then (if x7 < (x1.length : Int) then (if (rd x1 x7) < 0 then (complinelaw17_LexJoins.j2 k x0 x1 x5 x6 x7 true) else (complinelaw17_LexJoins.j2 k x0 x1 x5 x6 x7 (decide ((rd x1 x7) > 9)))) else (none)) else (none)) else ((lex_Fields.f x6).bind fun bt187 => ((complineref17_Same.f k bt187.1 x0).bind fun t191 => (if x5 = true then (if bt187.2 = 0 then (some t191) else (some false)) else (some false))))
def complinelaw17_LexJoins.j2 : Nat → List ByteArray → List Int → Bool → ByteArray → Int → Bool → Option (Bool)
  | 0, _, _, _, _, _, _ => none
  | k + 1, x0, x1, x5, x6, x7, x41 => if x41 = true then (some x5) else (if x7 > 0 then (complinelaw17_LexJoins.j3 k x0 x1 x5 x6 x7 (decide (x7 < 5))) else (complinelaw17_LexJoins.j3 k x0 x1 x5 x6 x7 false))
def complinelaw17_LexJoins.j3 : Nat → List ByteArray → List Int → Bool → ByteArray → Int → Bool → Option (Bool)
  | 0, _, _, _, _, _, _ => none
  | k + 1, x0, x1, x5, x6, x7, x48 => if x48 = true then (if x6.size + 1 ≤ 9223372036854775807 then (complinelaw17_LexJoins.j4 k x0 x1 x5 (x6 ++ (⟨#[32]⟩ : ByteArray)) x7) else (none)) else (complinelaw17_LexJoins.j4 k x0 x1 x5 x6 x7)
def complinelaw17_LexJoins.j4 : Nat → List ByteArray → List Int → Bool → ByteArray → Int → Option (Bool)
  | 0, _, _, _, _, _ => none
  | k + 1, x0, x1, x5, x6, x7 => complinelaw17_LexJoins.l1 k x0 x1 x5 x6 x7 0
def complinelaw17_LexJoins.l1 : Nat → List ByteArray → List Int → Bool → ByteArray → Int → Int → Option (Bool)
  | 0, _, _, _, _, _, _ => none
  | k + 1, x0, x1, x5, x6, x7, x8 => if 0 ≤ x7 then (if x7 < (x1.length : Int) then (if x8 < (rd x1 x7) then (if (Int.tmod x8 2) = 0 then (if x6.size + 1 ≤ 9223372036854775807 then (complinelaw17_LexJoins.l1 k x0 x1 x5 (x6 ++ (⟨#[9]⟩ : ByteArray)) x7 (wrap64 (x8 + 1))) else (none)) else (if x6.size + 1 ≤ 9223372036854775807 then (complinelaw17_LexJoins.l1 k x0 x1 x5 (x6 ++ (⟨#[32]⟩ : ByteArray)) x7 (wrap64 (x8 + 1))) else (none))) else (if x7 = 5 then (complinelaw17_LexJoins.l0 k x0 x1 x5 x6 (wrap64 (x7 + 1))) else (if x7 < (x0.length : Int) then (if 8 + (rdOf ByteArray.empty x0 x7).size ≤ 9223372036854775807 then ((lex_Fields.f ((⟨#[48, 32, 48, 32, 48, 32, 48, 32]⟩ : ByteArray) ++ (rdOf ByteArray.empty x0 x7))).bind fun bt196 => (if ((rdOf ByteArray.empty x0 x7).size : Int) > 30 then (some x5) else (if bt196.2 = 0 then (if (bt196.1.length : Int) = 5 then (if 4 < (bt196.1.length : Int) then (if (rdOf ByteArray.empty bt196.1 4).toList = (rdOf ByteArray.empty x0 x7).toList then (if x6.size + (rdOf ByteArray.empty x0 x7).size ≤ 9223372036854775807 then (complinelaw17_LexJoins.l0 k x0 x1 x5 (x6 ++ (rdOf ByteArray.empty x0 x7)) (wrap64 (x7 + 1))) else (none)) else (some x5)) else (none)) else (some x5)) else (some x5)))) else (none)) else (none)))) else (none)) else (none)
end
def complinelaw17_LexJoins.f (k : Nat) (l0 : List ByteArray) (l1 : List Int) : Option (Bool) := (complinelaw17_works.f k).bind fun t186 => (if t186 = true then (if (l0.length : Int) = 5 then (complinelaw17_LexJoins.j0 k l0 l1 t186 ((l1.length : Int) != 6)) else (complinelaw17_LexJoins.j0 k l0 l1 t186 true)) else (some false))
theorem complinelaw17_LexJoins.mono_l : ∀ k, (∀ y0 y1 y2 y3, LeO (complinelaw17_LexJoins.j0 k y0 y1 y2 y3) (complinelaw17_LexJoins.j0 (k + 1) y0 y1 y2 y3)) ∧ (∀ y0 y1 y2 y3 y4, LeO (complinelaw17_LexJoins.l0 k y0 y1 y2 y3 y4) (complinelaw17_LexJoins.l0 (k + 1) y0 y1 y2 y3 y4)) ∧ (∀ y0 y1 y2 y3 y4 y5, LeO (complinelaw17_LexJoins.j2 k y0 y1 y2 y3 y4 y5) (complinelaw17_LexJoins.j2 (k + 1) y0 y1 y2 y3 y4 y5)) ∧ (∀ y0 y1 y2 y3 y4 y5, LeO (complinelaw17_LexJoins.j3 k y0 y1 y2 y3 y4 y5) (complinelaw17_LexJoins.j3 (k + 1) y0 y1 y2 y3 y4 y5)) ∧ (∀ y0 y1 y2 y3 y4, LeO (complinelaw17_LexJoins.j4 k y0 y1 y2 y3 y4) (complinelaw17_LexJoins.j4 (k + 1) y0 y1 y2 y3 y4)) ∧ (∀ y0 y1 y2 y3 y4 y5, LeO (complinelaw17_LexJoins.l1 k y0 y1 y2 y3 y4 y5) (complinelaw17_LexJoins.l1 (k + 1) y0 y1 y2 y3 y4 y5))
  | 0 => ⟨fun _ _ _ _ r h => by simp [complinelaw17_LexJoins.j0] at h, fun _ _ _ _ _ r h => by simp [complinelaw17_LexJoins.l0] at h, fun _ _ _ _ _ _ r h => by simp [complinelaw17_LexJoins.j2] at h, fun _ _ _ _ _ _ r h => by simp [complinelaw17_LexJoins.j3] at h, fun _ _ _ _ _ r h => by simp [complinelaw17_LexJoins.j4] at h, fun _ _ _ _ _ _ r h => by simp [complinelaw17_LexJoins.l1] at h⟩
  | k + 1 => by
    obtain ⟨ih0, ih1, ih2, ih3, ih4, ih5⟩ := complinelaw17_LexJoins.mono_l k
    refine ⟨?_, ?_, ?_, ?_, ?_, ?_⟩
    · intro y0 y1 y2 y3
      unfold complinelaw17_LexJoins.j0
      repeat' first
      | (with_reducible exact ih0 _ _ _ _)
      | (with_reducible exact ih1 _ _ _ _ _)
      | (with_reducible exact ih2 _ _ _ _ _ _)
      | (with_reducible exact ih3 _ _ _ _ _ _)
      | (with_reducible exact ih4 _ _ _ _ _)
      | (with_reducible exact ih5 _ _ _ _ _ _)
      | (with_reducible exact complinelaw17_works.mono _)
      | (with_reducible exact complineref17_Same.mono _ _ _)
      | (with_reducible exact LeO.refl _)
      | (with_reducible exact LeO.none _)
      | (with_reducible refine LeO.ite ?_ ?_)
      | (with_reducible refine LeO.bind ?_ (fun _ => ?_))
      | exact ih0 _ _ _ _
      | exact ih1 _ _ _ _ _
      | exact ih2 _ _ _ _ _ _
      | exact ih3 _ _ _ _ _ _
      | exact ih4 _ _ _ _ _
      | exact ih5 _ _ _ _ _ _
      | exact complinelaw17_works.mono _
      | exact complineref17_Same.mono _ _ _
      | exact LeO.none _
      | refine LeO.ite ?_ ?_
      | refine LeO.bind ?_ (fun _ => ?_)
    · intro y0 y1 y2 y3 y4
      unfold complinelaw17_LexJoins.l0
      repeat' first
      | (with_reducible exact ih0 _ _ _ _)
      | (with_reducible exact ih1 _ _ _ _ _)
      | (with_reducible exact ih2 _ _ _ _ _ _)
      | (with_reducible exact ih3 _ _ _ _ _ _)
      | (with_reducible exact ih4 _ _ _ _ _)
      | (with_reducible exact ih5 _ _ _ _ _ _)
      | (with_reducible exact complinelaw17_works.mono _)
      | (with_reducible exact complineref17_Same.mono _ _ _)
      | (with_reducible exact LeO.refl _)
      | (with_reducible exact LeO.none _)
      | (with_reducible refine LeO.ite ?_ ?_)
      | (with_reducible refine LeO.bind ?_ (fun _ => ?_))
      | exact ih0 _ _ _ _
      | exact ih1 _ _ _ _ _
      | exact ih2 _ _ _ _ _ _
      | exact ih3 _ _ _ _ _ _
      | exact ih4 _ _ _ _ _
      | exact ih5 _ _ _ _ _ _
      | exact complinelaw17_works.mono _
      | exact complineref17_Same.mono _ _ _
      | exact LeO.none _
      | refine LeO.ite ?_ ?_
      | refine LeO.bind ?_ (fun _ => ?_)
    · intro y0 y1 y2 y3 y4 y5
      unfold complinelaw17_LexJoins.j2
      repeat' first
      | (with_reducible exact ih0 _ _ _ _)
      | (with_reducible exact ih1 _ _ _ _ _)
      | (with_reducible exact ih2 _ _ _ _ _ _)
      | (with_reducible exact ih3 _ _ _ _ _ _)
      | (with_reducible exact ih4 _ _ _ _ _)
      | (with_reducible exact ih5 _ _ _ _ _ _)
      | (with_reducible exact complinelaw17_works.mono _)
      | (with_reducible exact complineref17_Same.mono _ _ _)
      | (with_reducible exact LeO.refl _)
      | (with_reducible exact LeO.none _)
      | (with_reducible refine LeO.ite ?_ ?_)
      | (with_reducible refine LeO.bind ?_ (fun _ => ?_))
      | exact ih0 _ _ _ _
      | exact ih1 _ _ _ _ _
      | exact ih2 _ _ _ _ _ _
      | exact ih3 _ _ _ _ _ _
      | exact ih4 _ _ _ _ _
      | exact ih5 _ _ _ _ _ _
      | exact complinelaw17_works.mono _
      | exact complineref17_Same.mono _ _ _
      | exact LeO.none _
      | refine LeO.ite ?_ ?_
      | refine LeO.bind ?_ (fun _ => ?_)
    · intro y0 y1 y2 y3 y4 y5
      unfold complinelaw17_LexJoins.j3
      repeat' first
      | (with_reducible exact ih0 _ _ _ _)
      | (with_reducible exact ih1 _ _ _ _ _)
      | (with_reducible exact ih2 _ _ _ _ _ _)
      | (with_reducible exact ih3 _ _ _ _ _ _)
      | (with_reducible exact ih4 _ _ _ _ _)
      | (with_reducible exact ih5 _ _ _ _ _ _)
      | (with_reducible exact complinelaw17_works.mono _)
      | (with_reducible exact complineref17_Same.mono _ _ _)
      | (with_reducible exact LeO.refl _)
      | (with_reducible exact LeO.none _)
      | (with_reducible refine LeO.ite ?_ ?_)
      | (with_reducible refine LeO.bind ?_ (fun _ => ?_))
      | exact ih0 _ _ _ _
      | exact ih1 _ _ _ _ _
      | exact ih2 _ _ _ _ _ _
      | exact ih3 _ _ _ _ _ _
      | exact ih4 _ _ _ _ _
      | exact ih5 _ _ _ _ _ _
      | exact complinelaw17_works.mono _
      | exact complineref17_Same.mono _ _ _
      | exact LeO.none _
      | refine LeO.ite ?_ ?_
      | refine LeO.bind ?_ (fun _ => ?_)
    · intro y0 y1 y2 y3 y4
      unfold complinelaw17_LexJoins.j4
      repeat' first
      | (with_reducible exact ih0 _ _ _ _)
      | (with_reducible exact ih1 _ _ _ _ _)
      | (with_reducible exact ih2 _ _ _ _ _ _)
      | (with_reducible exact ih3 _ _ _ _ _ _)
      | (with_reducible exact ih4 _ _ _ _ _)
      | (with_reducible exact ih5 _ _ _ _ _ _)
      | (with_reducible exact complinelaw17_works.mono _)
      | (with_reducible exact complineref17_Same.mono _ _ _)
      | (with_reducible exact LeO.refl _)
      | (with_reducible exact LeO.none _)
      | (with_reducible refine LeO.ite ?_ ?_)
      | (with_reducible refine LeO.bind ?_ (fun _ => ?_))
      | exact ih0 _ _ _ _
      | exact ih1 _ _ _ _ _
      | exact ih2 _ _ _ _ _ _
      | exact ih3 _ _ _ _ _ _
      | exact ih4 _ _ _ _ _
      | exact ih5 _ _ _ _ _ _
      | exact complinelaw17_works.mono _
      | exact complineref17_Same.mono _ _ _
      | exact LeO.none _
      | refine LeO.ite ?_ ?_
      | refine LeO.bind ?_ (fun _ => ?_)
    · intro y0 y1 y2 y3 y4 y5
      unfold complinelaw17_LexJoins.l1
      repeat' first
      | (with_reducible exact ih0 _ _ _ _)
      | (with_reducible exact ih1 _ _ _ _ _)
      | (with_reducible exact ih2 _ _ _ _ _ _)
      | (with_reducible exact ih3 _ _ _ _ _ _)
      | (with_reducible exact ih4 _ _ _ _ _)
      | (with_reducible exact ih5 _ _ _ _ _ _)
      | (with_reducible exact complinelaw17_works.mono _)
      | (with_reducible exact complineref17_Same.mono _ _ _)
      | (with_reducible exact LeO.refl _)
      | (with_reducible exact LeO.none _)
      | (with_reducible refine LeO.ite ?_ ?_)
      | (with_reducible refine LeO.bind ?_ (fun _ => ?_))
      | exact ih0 _ _ _ _
      | exact ih1 _ _ _ _ _
      | exact ih2 _ _ _ _ _ _
      | exact ih3 _ _ _ _ _ _
      | exact ih4 _ _ _ _ _
      | exact ih5 _ _ _ _ _ _
      | exact complinelaw17_works.mono _
      | exact complineref17_Same.mono _ _ _
      | exact LeO.none _
      | refine LeO.ite ?_ ?_
      | refine LeO.bind ?_ (fun _ => ?_)
theorem complinelaw17_LexJoins.mono : ∀ a0 a1 k, LeO (complinelaw17_LexJoins.f k a0 a1) (complinelaw17_LexJoins.f (k + 1) a0 a1) := by
  intro a0 a1 k
  obtain ⟨ih0, ih1, ih2, ih3, ih4, ih5⟩ := complinelaw17_LexJoins.mono_l k
  unfold complinelaw17_LexJoins.f
  repeat' first
      | (with_reducible exact ih0 _ _ _ _)
      | (with_reducible exact ih1 _ _ _ _ _)
      | (with_reducible exact ih2 _ _ _ _ _ _)
      | (with_reducible exact ih3 _ _ _ _ _ _)
      | (with_reducible exact ih4 _ _ _ _ _)
      | (with_reducible exact ih5 _ _ _ _ _ _)
      | (with_reducible exact complinelaw17_works.mono _)
      | (with_reducible exact complineref17_Same.mono _ _ _)
      | (with_reducible exact LeO.refl _)
      | (with_reducible exact LeO.none _)
      | (with_reducible refine LeO.ite ?_ ?_)
      | (with_reducible refine LeO.bind ?_ (fun _ => ?_))
      | exact ih0 _ _ _ _
      | exact ih1 _ _ _ _ _
      | exact ih2 _ _ _ _ _ _
      | exact ih3 _ _ _ _ _ _
      | exact ih4 _ _ _ _ _
      | exact ih5 _ _ _ _ _ _
      | exact complinelaw17_works.mono _
      | exact complineref17_Same.mono _ _ _
      | exact LeO.none _
      | refine LeO.ite ?_ ?_
      | refine LeO.bind ?_ (fun _ => ?_)
set_option maxHeartbeats 8000000 in
set_option maxRecDepth 100000 in
theorem complinelaw17_LexJoins.calls (k : Nat) (A0 : Option Addr) (c0 : Nat) (l0 : List ByteArray) (A1 : Option Addr) (c1 : Nat) (l1 : List Int) (r : Bool) (w : World) (hr0 : Kd.C Kd.string w A0 l0.length l0) (hc0 : l0.length ≤ c0) (hr1 : Kd.C (Kd.int .i64) w A1 l1.length l1) (hc1 : l1.length ≤ c1) (h : complinelaw17_LexJoins.f k l0 l1 = some r) :
    Calls Try.prog 5 #[.slice A0 l0.length c0, .slice A1 l1.length c1] w fun e w' => e = .returned (.bool r) ∧ Below w.heap.size w w' := by
  have HR0 := Aside0.mk hr0
  have HC0 := Aside0.mk hc0
  clear hr0 hc0
  have HR1 := Aside0.mk hr1
  have HC1 := Aside0.mk hc1
  clear hr1 hc1
  have HB := Aside0.mk (Below.refl w.heap.size w)
  have H : ((complinelaw17_works.f k).bind fun t186 => (if t186 = true then (if (l0.length : Int) = 5 then (complinelaw17_LexJoins.j0 k l0 l1 t186 ((l1.length : Int) != 6)) else (complinelaw17_LexJoins.j0 k l0 l1 t186 true)) else (some false))) = some r := h
  clear h
  replace H := Option.bind_eq_some_iff.mp H
  obtain ⟨t186, A30, H⟩ := H
  replace H : (if t186 = true then (if (l0.length : Int) = 5 then (complinelaw17_LexJoins.j0 k l0 l1 t186 ((l1.length : Int) != 6)) else (complinelaw17_LexJoins.j0 k l0 l1 t186 true)) else (some false)) = some r := H
  have A3 := Aside0.mk A30
  clear A30
  by_cases c4 : t186 = true
  · subst c4
    have H1 : (if (l0.length : Int) = 5 then (complinelaw17_LexJoins.j0 k l0 l1 true ((l1.length : Int) != 6)) else (complinelaw17_LexJoins.j0 k l0 l1 true true)) = some r := by rw [if_pos rfl] at H; exact H
    clear H
    have H := H1
    clear H1
    have HC5 := Aside0.mk H
    clear H
    go_enter Try.func5, Try.ntmps5
    go_upto_region 4 with (first | (go_at_call 8; (with_reducible refine (complinelaw17_works.calls k  true _ A3.out).mono ?_); rintro e w6 ⟨rfl, hb⟩; have n0_ := Aside0.mk (below_step (by repeat (first | (with_reducible first | exact HB.out | apply below_alloc | apply pw_below_drewN | apply below_drew1) | exact HB.out)) hb); clear HB; have HB := n0_; clear n0_; (try clear hb); (try clear hb2); (try clear hk); (try clear hi)))
    repeat (go_quiet (first | (go_at_call 8; (with_reducible refine (complinelaw17_works.calls k  true _ A3.out).mono ?_); rintro e w6 ⟨rfl, hb⟩; have n0_ := Aside0.mk (below_step (by repeat (first | (with_reducible first | exact HB.out | apply below_alloc | apply pw_below_drewN | apply below_drew1) | exact HB.out)) hb); clear HB; have HB := n0_; clear n0_; (try clear hb); (try clear hb2); (try clear hk); (try clear hi))); go_upto_region 4 with (first | (go_at_call 8; (with_reducible refine (complinelaw17_works.calls k  true _ A3.out).mono ?_); rintro e w6 ⟨rfl, hb⟩; have n0_ := Aside0.mk (below_step (by repeat (first | (with_reducible first | exact HB.out | apply below_alloc | apply pw_below_drewN | apply below_drew1) | exact HB.out)) hb); clear HB; have HB := n0_; clear n0_; (try clear hb); (try clear hb2); (try clear hk); (try clear hi))))
    (try simp only [Act.put, List.setIfInBounds_toArray, List.set_cons_zero, List.set_cons_succ])
    go_cut [24] (fun v24 wc => ∃ (kq : Nat) (x24_4 : Bool), v24 = .bool x24_4 ∧ Aside0 (complinelaw17_LexJoins.j0 kq l0 l1 true x24_4 = some r) ∧ Aside0 (kq ≤ k) ∧ Aside0 (Below w.heap.size w wc))
    case first =>
      have H := HC5.out
      clear HC5
      by_cases c7 : (l0.length : Int) = 5
      · rw [if_pos c7] at H
        have c7b0 : ((l0.length : Int) == 5) = true := beq_iff_eq.mpr c7
        have c7b1 : ((l0.length : Int) != 5) = false := bne_eq_false_iff_eq.mpr c7
        clear c7
        (first | rw [c7b0] | (simp only [i64_w, i32_w]; rw [c7b0]) | skip)
        have H' := Aside0.mk H
        clear H
        go_wp2
        repeat (go_quiet (fail); try go_wp2)
        go_meet
        case rel => exact ⟨_, (((l1.length : Int) != 6)), (by first | rfl | (simp; done) | (simp [*]; done)), H', ⟨by first | omega | exact Nat.le_refl _⟩, ⟨by repeat (first | (with_reducible first | exact HB.out | apply below_alloc | apply pw_below_drewN | apply below_drew1) | exact HB.out)⟩⟩
      · rw [if_neg c7] at H
        have c7b0 : ((l0.length : Int) == 5) = false := beq_eq_false_iff_ne.mpr c7
        have c7b1 : ((l0.length : Int) != 5) = true := bne_iff_ne.mpr c7
        (first | rw [c7b0] | (simp only [i64_w, i32_w]; rw [c7b0]) | skip)
        have H' := Aside0.mk H
        clear H
        go_wp2
        repeat (go_quiet (fail); try go_wp2)
        go_meet
        case rel => exact ⟨_, (true), (by first | rfl | (simp; done) | (simp [*]; done)), H', ⟨by first | omega | exact Nat.le_refl _⟩, ⟨by repeat (first | (with_reducible first | exact HB.out | apply below_alloc | apply pw_below_drewN | apply below_drew1) | exact HB.out)⟩⟩
    case rest =>
      clear HC5
      try clear c1
      try clear p2
      try clear c4
      try clear c5
      try clear c7
      try clear c7b0
      try clear c7b1
      obtain ⟨kq, x24_4, rfl, HA, HJ4, HB⟩ := hcut
      cases kq with
      | zero => exact absurd HA.out (by simp [complinelaw17_LexJoins.j0])
      | succ kj4 =>
        have H := HA.out
        clear HA
        simp only [complinelaw17_LexJoins.j0] at H
        by_cases c8 : x24_4 = true
        · subst c8
          have H1 : (some true) = some r := by rw [if_pos rfl] at H; exact H
          clear H
          have H := H1
          clear H1
          obtain rfl := Option.some.inj H
          go_wp2
          repeat (go_quiet (fail); try go_wp2)
          go_ret
          exact ⟨by first | rfl | (simp [errW_none, errW_some] <;> rfl) | (simp [*, errW_none, errW_some] <;> rfl), by repeat (first | (with_reducible first | exact HB.out | apply below_alloc | apply pw_below_drewN | apply below_drew1) | exact HB.out)⟩
        · replace c8 := Bool.eq_false_iff.mpr c8
          subst c8
          have H1 : (complinelaw17_LexJoins.l0 kj4 l0 l1 true (⟨#[]⟩ : ByteArray) 0) = some r := by rw [if_neg (show ¬ (false = true) by decide)] at H; exact H
          clear H
          have H := H1
          clear H1
          have H' := Aside0.mk H
          clear H
          go_wp2
          repeat (go_quiet (fail); try go_wp2)
          go_loopg [6, 7] kj4 (fun kq v6 v7 w' => ∃ (x6_2 : ByteArray) (x7_2 : Int), v6 = .string x6_2 ∧ v7 = .int .i64 x7_2 ∧ Aside0 (complinelaw17_LexJoins.l0 kq l0 l1 true x6_2 x7_2 = some r) ∧ Aside0 (kq ≤ kj4) ∧ Aside0 (Below w.heap.size w w'))
          case atStart => exact ⟨((⟨#[]⟩ : ByteArray)), (0), (by first | rfl | (simp; done) | (simp [*]; done)), (by first | rfl | (simp; done) | (simp [*]; done)), H', ⟨Nat.le_refl _⟩, ⟨by repeat (first | (with_reducible first | exact HB.out | apply below_alloc | apply pw_below_drewN | apply below_drew1) | exact HB.out)⟩⟩
          case round =>
            clear H'
            try clear c1
            try clear p2
            try clear c4
            try clear c5
            try clear c7
            try clear c7b0
            try clear c7b1
            try clear c8
            try clear p2
            obtain ⟨x6_2, x7_2, rfl, rfl, HA, HK2, HB⟩ := hrel
            cases gk with
            | zero => exact absurd HA.out (by simp [complinelaw17_LexJoins.l0])
            | succ k2 =>
              have H := HA.out
              clear HA
              simp only [complinelaw17_LexJoins.l0] at H
              by_cases c9 : x7_2 < 6
              · rw [if_pos c9] at H
                have c9b0 : decide (x7_2 < 6) = true := decide_eq_true c9
                clear c9
                have HC10 := Aside0.mk H
                clear H
                go_upto_region 10 with (fail)
                repeat (go_quiet (fail); go_upto_region 10 with (fail))
                go_cut [41] (fun v41 wc => ∃ (kq : Nat) (x41_9 : Bool), v41 = .bool x41_9 ∧ Aside0 (complinelaw17_LexJoins.j2 kq l0 l1 true x6_2 x7_2 x41_9 = some r) ∧ Aside0 (kq ≤ k2) ∧ Aside0 (Below w.heap.size w wc))
                case first =>
                  have H := HC10.out
                  clear HC10
                  by_cases c11 : 0 ≤ x7_2
                  · rw [if_pos c11] at H
                    have c11b0 : decide (0 ≤ x7_2) = true := decide_eq_true c11
                    clear c11
                    (first | rw [c11b0] | (simp only [i64_w, i32_w]; rw [c11b0]) | skip)
                    by_cases c12 : x7_2 < (l1.length : Int)
                    · rw [if_pos c12] at H
                      have c12b0 : decide (x7_2 < (l1.length : Int)) = true := decide_eq_true c12
                      clear c12
                      by_cases c13 : (rd l1 x7_2) < 0
                      · rw [if_pos c13] at H
                        have c13b0 : decide ((rd l1 x7_2) < 0) = true := decide_eq_true c13
                        clear c13
                        have H' := Aside0.mk H
                        clear H
                        have p192 : 0 ≤ (x7_2 : Int) := of_decide_eq_true (by first | (with_reducible assumption) | assumption)
                        have q192 : x7_2 < (l1.length : Int) := of_decide_eq_true (by first | (with_reducible assumption) | assumption)
                        obtain ⟨ad192, e192, hx192_0⟩ := Kd.at_int HR1.out x7_2 p192 q192
                        cases e192
                        replace hx192_0 := (HB.out.cell (World.block_lt_of_cell? w _ hx192_0)).trans hx192_0
                        replace p192 := eq_true p192
                        replace q192 := eq_true q192
                        go_wp2
                        repeat (go_quiet (fail); try go_wp2)
                        go_meet
                        case rel => exact ⟨_, (true), (by first | rfl | (simp; done) | (simp [*]; done)), H', ⟨by have := HJ4.out; have := HK2.out; first | omega | exact Nat.le_refl _⟩, ⟨by repeat (first | (with_reducible first | exact HB.out | apply below_alloc | apply pw_below_drewN | apply below_drew1) | exact HB.out)⟩⟩
                      · rw [if_neg c13] at H
                        have c13b0 : decide ((rd l1 x7_2) < 0) = false := decide_eq_false c13
                        clear c13
                        have H' := Aside0.mk H
                        clear H
                        have p192 : 0 ≤ (x7_2 : Int) := of_decide_eq_true (by first | (with_reducible assumption) | assumption)
                        have q192 : x7_2 < (l1.length : Int) := of_decide_eq_true (by first | (with_reducible assumption) | assumption)
                        obtain ⟨ad192, e192, hx192_0⟩ := Kd.at_int HR1.out x7_2 p192 q192
                        cases e192
                        replace hx192_0 := (HB.out.cell (World.block_lt_of_cell? w _ hx192_0)).trans hx192_0
                        replace p192 := eq_true p192
                        replace q192 := eq_true q192
                        have p193 : 0 ≤ (x7_2 : Int) := of_decide_eq_true (by first | (with_reducible assumption) | assumption)
                        have q193 : x7_2 < (l1.length : Int) := of_decide_eq_true (by first | (with_reducible assumption) | assumption)
                        obtain ⟨ad193, e193, hx193_0⟩ := Kd.at_int HR1.out x7_2 p193 q193
                        obtain rfl : ad192 = ad193 := (by injection e193)
                        replace hx193_0 := (HB.out.cell (World.block_lt_of_cell? w _ hx193_0)).trans hx193_0
                        replace p193 := eq_true p193
                        replace q193 := eq_true q193
                        go_wp2
                        repeat (go_quiet (fail); try go_wp2)
                        go_meet
                        case rel => exact ⟨_, (decide ((rd l1 x7_2) > 9)), (by first | rfl | (simp; done) | (simp [*]; done)), H', ⟨by have := HJ4.out; have := HK2.out; first | omega | exact Nat.le_refl _⟩, ⟨by repeat (first | (with_reducible first | exact HB.out | apply below_alloc | apply pw_below_drewN | apply below_drew1) | exact HB.out)⟩⟩
                    · rw [if_neg c12] at H
                      exact absurd H (by simp)
                  · rw [if_neg c11] at H
                    exact absurd H (by simp)
                case rest =>
                  clear HC10
                  try clear c1
                  try clear p1
                  try clear q1
                  try clear hx1
                  try clear p2
                  try clear c4
                  try clear c5
                  try clear c7
                  try clear c7b0
                  try clear c7b1
                  try clear c8
                  try clear c9
                  try clear c9b0
                  try clear c11
                  try clear c11b0
                  try clear c12
                  try clear c12b0
                  try clear c13
                  try clear c13b0
                  try clear hx192_0
                  try clear hx193_0
                  try clear p192
                  try clear p193
                  try clear p2
                  try clear q192
                  try clear q193
                  obtain ⟨kq, x41_9, rfl, HA, HJ9, HB⟩ := hcut
                  cases kq with
                  | zero => exact absurd HA.out (by simp [complinelaw17_LexJoins.j2])
                  | succ kj9 =>
                    have H := HA.out
                    clear HA
                    simp only [complinelaw17_LexJoins.j2] at H
                    by_cases c14 : x41_9 = true
                    · subst c14
                      have H1 : (some true) = some r := by rw [if_pos rfl] at H; exact H
                      clear H
                      have H := H1
                      clear H1
                      obtain rfl := Option.some.inj H
                      go_wp2
                      repeat (go_quiet (fail); try go_wp2)
                      go_ret
                      exact ⟨by first | rfl | (simp [errW_none, errW_some] <;> rfl) | (simp [*, errW_none, errW_some] <;> rfl), by repeat (first | (with_reducible first | exact HB.out | apply below_alloc | apply pw_below_drewN | apply below_drew1) | exact HB.out)⟩
                    · replace c14 := Bool.eq_false_iff.mpr c14
                      subst c14
                      have H1 : (if x7_2 > 0 then (complinelaw17_LexJoins.j3 kj9 l0 l1 true x6_2 x7_2 (decide (x7_2 < 5))) else (complinelaw17_LexJoins.j3 kj9 l0 l1 true x6_2 x7_2 false)) = some r := by rw [if_neg (show ¬ (false = true) by decide)] at H; exact H
                      clear H
                      have H := H1
                      clear H1
                      have HC15 := Aside0.mk H
                      clear H
                      go_upto_region 12 with (fail)
                      repeat (go_quiet (fail); go_upto_region 12 with (fail))
                      go_cut [48] (fun v48 wc => ∃ (kq : Nat) (x48_14 : Bool), v48 = .bool x48_14 ∧ Aside0 (complinelaw17_LexJoins.j3 kq l0 l1 true x6_2 x7_2 x48_14 = some r) ∧ Aside0 (kq ≤ kj9) ∧ Aside0 (Below w.heap.size w wc))
                      case first =>
                        have H := HC15.out
                        clear HC15
                        by_cases c16 : x7_2 > 0
                        · rw [if_pos c16] at H
                          have c16b0 : decide (0 < x7_2) = true := decide_eq_true c16
                          clear c16
                          (first | rw [c16b0] | (simp only [i64_w, i32_w]; rw [c16b0]) | skip)
                          have H' := Aside0.mk H
                          clear H
                          go_wp2
                          repeat (go_quiet (fail); try go_wp2)
                          go_meet
                          case rel => exact ⟨_, (decide (x7_2 < 5)), (by first | rfl | (simp; done) | (simp [*]; done)), H', ⟨by have := HJ4.out; have := HK2.out; have := HJ9.out; first | omega | exact Nat.le_refl _⟩, ⟨by repeat (first | (with_reducible first | exact HB.out | apply below_alloc | apply pw_below_drewN | apply below_drew1) | exact HB.out)⟩⟩
                        · rw [if_neg c16] at H
                          have c16b0 : decide (0 < x7_2) = false := decide_eq_false c16
                          clear c16
                          (first | rw [c16b0] | (simp only [i64_w, i32_w]; rw [c16b0]) | skip)
                          have H' := Aside0.mk H
                          clear H
                          go_wp2
                          repeat (go_quiet (fail); try go_wp2)
                          go_meet
                          case rel => exact ⟨_, (false), (by first | rfl | (simp; done) | (simp [*]; done)), H', ⟨by have := HJ4.out; have := HK2.out; have := HJ9.out; first | omega | exact Nat.le_refl _⟩, ⟨by repeat (first | (with_reducible first | exact HB.out | apply below_alloc | apply pw_below_drewN | apply below_drew1) | exact HB.out)⟩⟩
                      case rest =>
                        clear HC15
                        try clear c1
                        try clear p1
                        try clear q1
                        try clear hx1
                        try clear p2
                        try clear c4
                        try clear c5
                        try clear c7
                        try clear c7b0
                        try clear c7b1
                        try clear c8
                        try clear c9
                        try clear c9b0
                        try clear c11
                        try clear c11b0
                        try clear c12
                        try clear c12b0
                        try clear c13
                        try clear c13b0
                        try clear c14
                        try clear c16
                        try clear c16b0
                        try clear hx192_0
                        try clear hx193_0
                        try clear p1
                        try clear p192
                        try clear p193
                        try clear p2
                        try clear q1
                        try clear q192
                        try clear q193
                        obtain ⟨kq, x48_14, rfl, HA, HJ14, HB⟩ := hcut
                        cases kq with
                        | zero => exact absurd HA.out (by simp [complinelaw17_LexJoins.j3])
                        | succ kj14 =>
                          have H := HA.out
                          clear HA
                          simp only [complinelaw17_LexJoins.j3] at H
                          have HC17 := Aside0.mk H
                          clear H
                          go_upto_if 48 with (fail)
                          repeat (go_quiet (fail); go_upto_if 48 with (fail))
                          go_cut [6] (fun v6 wc => ∃ (kq : Nat) (x6_16 : ByteArray), v6 = .string x6_16 ∧ Aside0 (complinelaw17_LexJoins.j4 kq l0 l1 true x6_16 x7_2 = some r) ∧ Aside0 (kq ≤ kj14) ∧ Aside0 (Below w.heap.size w wc))
                          case first =>
                            have H := HC17.out
                            clear HC17
                            by_cases c18 : x48_14 = true
                            · subst c18
                              have H1 : (if x6_2.size + 1 ≤ 9223372036854775807 then (complinelaw17_LexJoins.j4 kj14 l0 l1 true (x6_2 ++ (⟨#[32]⟩ : ByteArray)) x7_2) else (none)) = some r := by rw [if_pos rfl] at H; exact H
                              clear H
                              have H := H1
                              clear H1
                              by_cases c19 : x6_2.size + 1 ≤ 9223372036854775807
                              · rw [if_pos c19] at H
                                have c19b0 := eq_true c19
                                have c19b1 : decide (x6_2.size + 1 ≤ 9223372036854775807) = true := decide_eq_true c19
                                try have c19b2 : (9223372036854775807 < x6_2.size + 1) = False := eq_false (Nat.not_lt.2 c19)
                                have H' := Aside0.mk H
                                clear H
                                go_wp2
                                repeat (go_quiet (fail); try go_wp2)
                                go_meet
                                case rel => exact ⟨_, (x6_2 ++ (⟨#[32]⟩ : ByteArray)), (by first | rfl | (simp; done) | (simp [*]; done)), H', ⟨by have := HJ4.out; have := HK2.out; have := HJ9.out; have := HJ14.out; first | omega | exact Nat.le_refl _⟩, ⟨by repeat (first | (with_reducible first | exact HB.out | apply below_alloc | apply pw_below_drewN | apply below_drew1) | exact HB.out)⟩⟩
                              · rw [if_neg c19] at H
                                exact absurd H (by simp)
                            · replace c18 := Bool.eq_false_iff.mpr c18
                              subst c18
                              have H1 : (complinelaw17_LexJoins.j4 kj14 l0 l1 true x6_2 x7_2) = some r := by rw [if_neg (show ¬ (false = true) by decide)] at H; exact H
                              clear H
                              have H := H1
                              clear H1
                              have H' := Aside0.mk H
                              clear H
                              go_wp2
                              repeat (go_quiet (fail); try go_wp2)
                              go_meet
                              case rel => exact ⟨_, (x6_2), (by first | rfl | (simp; done) | (simp [*]; done)), H', ⟨by have := HJ4.out; have := HK2.out; have := HJ9.out; have := HJ14.out; first | omega | exact Nat.le_refl _⟩, ⟨by repeat (first | (with_reducible first | exact HB.out | apply below_alloc | apply pw_below_drewN | apply below_drew1) | exact HB.out)⟩⟩
                          case rest =>
                            clear HC17
                            try clear c1
                            try clear p1
                            try clear q1
                            try clear hx1
                            try clear p2
                            try clear c4
                            try clear c5
                            try clear c7
                            try clear c7b0
                            try clear c7b1
                            try clear c8
                            try clear c9
                            try clear c9b0
                            try clear c11
                            try clear c11b0
                            try clear c12
                            try clear c12b0
                            try clear c13
                            try clear c13b0
                            try clear c14
                            try clear c16
                            try clear c16b0
                            try clear c18
                            try clear c19
                            try clear c19b0
                            try clear c19b1
                            try clear c19b2
                            try clear p19
                            try clear q19
                            try clear hx19
                            try clear hx192_0
                            try clear hx193_0
                            try clear p1
                            try clear p192
                            try clear p193
                            try clear p2
                            try clear q1
                            try clear q192
                            try clear q193
                            obtain ⟨kq, x6_16, rfl, HA, HJ16, HB⟩ := hcut
                            cases kq with
                            | zero => exact absurd HA.out (by simp [complinelaw17_LexJoins.j4])
                            | succ kj16 =>
                              have H := HA.out
                              clear HA
                              simp only [complinelaw17_LexJoins.j4] at H
                              have H' := Aside0.mk H
                              clear H
                              go_wp2
                              repeat (go_quiet (fail); try go_wp2)
                              go_loopg [6, 8] kj16 (fun kq v6 v8 w' => ∃ (x6_6 : ByteArray) (x8_6 : Int), v6 = .string x6_6 ∧ v8 = .int .i64 x8_6 ∧ Aside0 (complinelaw17_LexJoins.l1 kq l0 l1 true x6_6 x7_2 x8_6 = some r) ∧ Aside0 (kq ≤ kj16) ∧ Aside0 (Below w.heap.size w w'))
                              case atStart => exact ⟨(x6_16), (0), (by first | rfl | (simp; done) | (simp [*]; done)), (by first | rfl | (simp; done) | (simp [*]; done)), H', ⟨Nat.le_refl _⟩, ⟨by repeat (first | (with_reducible first | exact HB.out | apply below_alloc | apply pw_below_drewN | apply below_drew1) | exact HB.out)⟩⟩
                              case round =>
                                clear H'
                                try clear c1
                                try clear p1
                                try clear q1
                                try clear hx1
                                try clear p2
                                try clear c4
                                try clear c5
                                try clear c7
                                try clear c7b0
                                try clear c7b1
                                try clear c8
                                try clear c9
                                try clear c9b0
                                try clear c11
                                try clear c11b0
                                try clear c12
                                try clear c12b0
                                try clear c13
                                try clear c13b0
                                try clear c14
                                try clear c16
                                try clear c16b0
                                try clear c18
                                try clear c19
                                try clear c19b0
                                try clear c19b1
                                try clear c19b2
                                try clear p19
                                try clear q19
                                try clear hx19
                                try clear hx192_0
                                try clear hx193_0
                                try clear p1
                                try clear p19
                                try clear p192
                                try clear p193
                                try clear p2
                                try clear q1
                                try clear q19
                                try clear q192
                                try clear q193
                                obtain ⟨x6_6, x8_6, rfl, rfl, HA, HK6, HB⟩ := hrel
                                cases gk with
                                | zero => exact absurd HA.out (by simp [complinelaw17_LexJoins.l1])
                                | succ k6 =>
                                  have H := HA.out
                                  clear HA
                                  simp only [complinelaw17_LexJoins.l1] at H
                                  by_cases c20 : 0 ≤ x7_2
                                  · rw [if_pos c20] at H
                                    have c20b0 : decide (0 ≤ x7_2) = true := decide_eq_true c20
                                    clear c20
                                    by_cases c21 : x7_2 < (l1.length : Int)
                                    · rw [if_pos c21] at H
                                      have c21b0 : decide (x7_2 < (l1.length : Int)) = true := decide_eq_true c21
                                      clear c21
                                      by_cases c22 : x8_6 < (rd l1 x7_2)
                                      · rw [if_pos c22] at H
                                        have c22b0 : decide (x8_6 < (rd l1 x7_2)) = true := decide_eq_true c22
                                        clear c22
                                        by_cases c23 : (Int.tmod x8_6 2) = 0
                                        · rw [if_pos c23] at H
                                          have c23b0 : ((Int.tmod x8_6 2) == 0) = true := beq_iff_eq.mpr c23
                                          have c23b1 : ((Int.tmod x8_6 2) != 0) = false := bne_eq_false_iff_eq.mpr c23
                                          clear c23
                                          by_cases c24 : x6_6.size + 1 ≤ 9223372036854775807
                                          · rw [if_pos c24] at H
                                            have c24b0 := eq_true c24
                                            have c24b1 : decide (x6_6.size + 1 ≤ 9223372036854775807) = true := decide_eq_true c24
                                            try have c24b2 : (9223372036854775807 < x6_6.size + 1) = False := eq_false (Nat.not_lt.2 c24)
                                            have H' := Aside0.mk H
                                            clear H
                                            have p194 : 0 ≤ (x7_2 : Int) := of_decide_eq_true (by first | (with_reducible assumption) | assumption)
                                            have q194 : x7_2 < (l1.length : Int) := of_decide_eq_true (by first | (with_reducible assumption) | assumption)
                                            obtain ⟨ad194, e194, hx194_0⟩ := Kd.at_int HR1.out x7_2 p194 q194
                                            cases e194
                                            replace hx194_0 := (HB.out.cell (World.block_lt_of_cell? w _ hx194_0)).trans hx194_0
                                            replace p194 := eq_true p194
                                            replace q194 := eq_true q194
                                            go_wp2
                                            repeat (go_quiet (fail); try go_wp2)
                                            go_roundg k6
                                            case measure => have := HJ4.out; have := HK2.out; have := HJ9.out; have := HJ14.out; have := HJ16.out; have := HK6.out; omega
                                            case rel => exact ⟨(x6_6 ++ (⟨#[9]⟩ : ByteArray)), (wrap64 (x8_6 + 1)), (by first | rfl | (simp; done) | (simp [*]; done)), (by first | rfl | (simp; done) | (simp [*]; done)), H', ⟨by have := HJ4.out; have := HK2.out; have := HJ9.out; have := HJ14.out; have := HJ16.out; have := HK6.out; omega⟩, ⟨by repeat (first | (with_reducible first | exact HB.out | apply below_alloc | apply pw_below_drewN | apply below_drew1) | exact HB.out)⟩⟩
                                          · rw [if_neg c24] at H
                                            exact absurd H (by simp)
                                        · rw [if_neg c23] at H
                                          have c23b0 : ((Int.tmod x8_6 2) == 0) = false := beq_eq_false_iff_ne.mpr c23
                                          have c23b1 : ((Int.tmod x8_6 2) != 0) = true := bne_iff_ne.mpr c23
                                          by_cases c25 : x6_6.size + 1 ≤ 9223372036854775807
                                          · rw [if_pos c25] at H
                                            have c25b0 := eq_true c25
                                            have c25b1 : decide (x6_6.size + 1 ≤ 9223372036854775807) = true := decide_eq_true c25
                                            try have c25b2 : (9223372036854775807 < x6_6.size + 1) = False := eq_false (Nat.not_lt.2 c25)
                                            have H' := Aside0.mk H
                                            clear H
                                            have p194 : 0 ≤ (x7_2 : Int) := of_decide_eq_true (by first | (with_reducible assumption) | assumption)
                                            have q194 : x7_2 < (l1.length : Int) := of_decide_eq_true (by first | (with_reducible assumption) | assumption)
                                            obtain ⟨ad194, e194, hx194_0⟩ := Kd.at_int HR1.out x7_2 p194 q194
                                            cases e194
                                            replace hx194_0 := (HB.out.cell (World.block_lt_of_cell? w _ hx194_0)).trans hx194_0
                                            replace p194 := eq_true p194
                                            replace q194 := eq_true q194
                                            go_wp2
                                            repeat (go_quiet (fail); try go_wp2)
                                            go_roundg k6
                                            case measure => have := HJ4.out; have := HK2.out; have := HJ9.out; have := HJ14.out; have := HJ16.out; have := HK6.out; omega
                                            case rel => exact ⟨(x6_6 ++ (⟨#[32]⟩ : ByteArray)), (wrap64 (x8_6 + 1)), (by first | rfl | (simp; done) | (simp [*]; done)), (by first | rfl | (simp; done) | (simp [*]; done)), H', ⟨by have := HJ4.out; have := HK2.out; have := HJ9.out; have := HJ14.out; have := HJ16.out; have := HK6.out; omega⟩, ⟨by repeat (first | (with_reducible first | exact HB.out | apply below_alloc | apply pw_below_drewN | apply below_drew1) | exact HB.out)⟩⟩
                                          · rw [if_neg c25] at H
                                            exact absurd H (by simp)
                                      · rw [if_neg c22] at H
                                        have c22b0 : decide (x8_6 < (rd l1 x7_2)) = false := decide_eq_false c22
                                        clear c22
                                        by_cases c26 : x7_2 = 5
                                        · rw [if_pos c26] at H
                                          have c26b0 : (x7_2 == 5) = true := beq_iff_eq.mpr c26
                                          have c26b1 : (x7_2 != 5) = false := bne_eq_false_iff_eq.mpr c26
                                          clear c26
                                          have H' := Aside0.mk H
                                          clear H
                                          have p194 : 0 ≤ (x7_2 : Int) := of_decide_eq_true (by first | (with_reducible assumption) | assumption)
                                          have q194 : x7_2 < (l1.length : Int) := of_decide_eq_true (by first | (with_reducible assumption) | assumption)
                                          obtain ⟨ad194, e194, hx194_0⟩ := Kd.at_int HR1.out x7_2 p194 q194
                                          cases e194
                                          replace hx194_0 := (HB.out.cell (World.block_lt_of_cell? w _ hx194_0)).trans hx194_0
                                          replace p194 := eq_true p194
                                          replace q194 := eq_true q194
                                          go_wp2
                                          repeat (go_quiet (fail); try go_wp2)
                                          go_roundg k6
                                          case measure => have := HJ4.out; have := HK2.out; have := HJ9.out; have := HJ14.out; have := HJ16.out; have := HK6.out; omega
                                          case rel => exact ⟨(x6_6), (wrap64 (x7_2 + 1)), (by first | rfl | (simp; done) | (simp [*]; done)), (by first | rfl | (simp; done) | (simp [*]; done)), H', ⟨by have := HJ4.out; have := HK2.out; have := HJ9.out; have := HJ14.out; have := HJ16.out; have := HK6.out; omega⟩, ⟨by repeat (first | (with_reducible first | exact HB.out | apply below_alloc | apply pw_below_drewN | apply below_drew1) | exact HB.out)⟩⟩
                                        · rw [if_neg c26] at H
                                          have c26b0 : (x7_2 == 5) = false := beq_eq_false_iff_ne.mpr c26
                                          have c26b1 : (x7_2 != 5) = true := bne_iff_ne.mpr c26
                                          by_cases c27 : x7_2 < (l0.length : Int)
                                          · rw [if_pos c27] at H
                                            have c27b0 : decide (x7_2 < (l0.length : Int)) = true := decide_eq_true c27
                                            clear c27
                                            by_cases c28 : 8 + (rdOf ByteArray.empty l0 x7_2).size ≤ 9223372036854775807
                                            · rw [if_pos c28] at H
                                              have c28b0 := eq_true c28
                                              have c28b1 : decide (8 + (rdOf ByteArray.empty l0 x7_2).size ≤ 9223372036854775807) = true := decide_eq_true c28
                                              try have c28b2 : (9223372036854775807 < 8 + (rdOf ByteArray.empty l0 x7_2).size) = False := eq_false (Nat.not_lt.2 c28)
                                              replace H := Option.bind_eq_some_iff.mp H
                                              obtain ⟨⟨t196, t197⟩, A290, H⟩ := H
                                              replace H : (if ((rdOf ByteArray.empty l0 x7_2).size : Int) > 30 then (some true) else (if t197 = 0 then (if (t196.length : Int) = 5 then (if 4 < (t196.length : Int) then (if (rdOf ByteArray.empty t196 4).toList = (rdOf ByteArray.empty l0 x7_2).toList then (if x6_6.size + (rdOf ByteArray.empty l0 x7_2).size ≤ 9223372036854775807 then (complinelaw17_LexJoins.l0 k6 l0 l1 true (x6_6 ++ (rdOf ByteArray.empty l0 x7_2)) (wrap64 (x7_2 + 1))) else (none)) else (some true)) else (none)) else (some true)) else (some true))) = some r := H
                                              have A29 := Aside0.mk A290
                                              clear A290
                                              by_cases c30 : ((rdOf ByteArray.empty l0 x7_2).size : Int) > 30
                                              · rw [if_pos c30] at H
                                                have c30b0 : decide (30 < ((rdOf ByteArray.empty l0 x7_2).size : Int)) = true := decide_eq_true c30
                                                have c30b1 : decide (30 < (rdOf ByteArray.empty l0 x7_2).size) = true := decide_eq_true (by omega)
                                                clear c30
                                                obtain rfl := Option.some.inj H
                                                have p194 : 0 ≤ (x7_2 : Int) := of_decide_eq_true (by first | (with_reducible assumption) | assumption)
                                                have q194 : x7_2 < (l1.length : Int) := of_decide_eq_true (by first | (with_reducible assumption) | assumption)
                                                obtain ⟨ad194, e194, hx194_0⟩ := Kd.at_int HR1.out x7_2 p194 q194
                                                cases e194
                                                replace hx194_0 := (HB.out.cell (World.block_lt_of_cell? w _ hx194_0)).trans hx194_0
                                                replace p194 := eq_true p194
                                                replace q194 := eq_true q194
                                                have p195 : 0 ≤ (x7_2 : Int) := of_decide_eq_true (by first | (with_reducible assumption) | assumption)
                                                have q195 : x7_2 < (l0.length : Int) := of_decide_eq_true (by first | (with_reducible assumption) | assumption)
                                                obtain ⟨ad195, e195, hx195_0⟩ := Kd.at_string HR0.out x7_2 p195 q195
                                                cases e195
                                                replace hx195_0 := (HB.out.cell (World.block_lt_of_cell? w _ hx195_0)).trans hx195_0
                                                replace p195 := eq_true p195
                                                replace q195 := eq_true q195
                                                go_wp2_with (first | (go_at_call 9; (with_reducible refine (lex_Fields.calls ((⟨#[48, 32, 48, 32, 48, 32, 48, 32]⟩ : ByteArray) ++ (rdOf ByteArray.empty l0 x7_2)) t196 t197 _ A29.out).mono ?_); rintro e w31 ⟨v198, rfl, ho0, hb⟩; have n0_ := Aside0.mk (Kd.R_lower ho0 (below_size (by repeat (first | (with_reducible first | exact HB.out | apply below_alloc | apply pw_below_drewN | apply below_drew1) | exact HB.out)))); have n1_ := Aside0.mk (below_step (by repeat (first | (with_reducible first | exact HB.out | apply below_alloc | apply pw_below_drewN | apply below_drew1) | exact HB.out)) hb); clear HB; have HO199 := n0_; have HB := n1_; clear n0_ n1_; (try clear hb); (try clear hb2); (try clear hk); (try clear hi); (try clear ho0); have p200 : 0 ≤ (x7_2 : Int) := of_decide_eq_true (by first | (with_reducible assumption) | assumption); have q200 : x7_2 < (l0.length : Int) := of_decide_eq_true (by first | (with_reducible assumption) | assumption); obtain ⟨ad200, e200, hx200_0⟩ := Kd.at_string HR0.out x7_2 p200 q200; obtain rfl : ad195 = ad200 := (by injection e200); replace hx200_0 := (HB.out.cell (World.block_lt_of_cell? w _ hx200_0)).trans hx200_0; replace p200 := eq_true p200; replace q200 := eq_true q200))
                                                repeat (go_quiet (first | (go_at_call 9; (with_reducible refine (lex_Fields.calls ((⟨#[48, 32, 48, 32, 48, 32, 48, 32]⟩ : ByteArray) ++ (rdOf ByteArray.empty l0 x7_2)) t196 t197 _ A29.out).mono ?_); rintro e w31 ⟨v198, rfl, ho0, hb⟩; have n0_ := Aside0.mk (Kd.R_lower ho0 (below_size (by repeat (first | (with_reducible first | exact HB.out | apply below_alloc | apply pw_below_drewN | apply below_drew1) | exact HB.out)))); have n1_ := Aside0.mk (below_step (by repeat (first | (with_reducible first | exact HB.out | apply below_alloc | apply pw_below_drewN | apply below_drew1) | exact HB.out)) hb); clear HB; have HO199 := n0_; have HB := n1_; clear n0_ n1_; (try clear hb); (try clear hb2); (try clear hk); (try clear hi); (try clear ho0); have p200 : 0 ≤ (x7_2 : Int) := of_decide_eq_true (by first | (with_reducible assumption) | assumption); have q200 : x7_2 < (l0.length : Int) := of_decide_eq_true (by first | (with_reducible assumption) | assumption); obtain ⟨ad200, e200, hx200_0⟩ := Kd.at_string HR0.out x7_2 p200 q200; obtain rfl : ad195 = ad200 := (by injection e200); replace hx200_0 := (HB.out.cell (World.block_lt_of_cell? w _ hx200_0)).trans hx200_0; replace p200 := eq_true p200; replace q200 := eq_true q200)); try go_wp2_with (first | (go_at_call 9; (with_reducible refine (lex_Fields.calls ((⟨#[48, 32, 48, 32, 48, 32, 48, 32]⟩ : ByteArray) ++ (rdOf ByteArray.empty l0 x7_2)) t196 t197 _ A29.out).mono ?_); rintro e w31 ⟨v198, rfl, ho0, hb⟩; have n0_ := Aside0.mk (Kd.R_lower ho0 (below_size (by repeat (first | (with_reducible first | exact HB.out | apply below_alloc | apply pw_below_drewN | apply below_drew1) | exact HB.out)))); have n1_ := Aside0.mk (below_step (by repeat (first | (with_reducible first | exact HB.out | apply below_alloc | apply pw_below_drewN | apply below_drew1) | exact HB.out)) hb); clear HB; have HO199 := n0_; have HB := n1_; clear n0_ n1_; (try clear hb); (try clear hb2); (try clear hk); (try clear hi); (try clear ho0); have p200 : 0 ≤ (x7_2 : Int) := of_decide_eq_true (by first | (with_reducible assumption) | assumption); have q200 : x7_2 < (l0.length : Int) := of_decide_eq_true (by first | (with_reducible assumption) | assumption); obtain ⟨ad200, e200, hx200_0⟩ := Kd.at_string HR0.out x7_2 p200 q200; obtain rfl : ad195 = ad200 := (by injection e200); replace hx200_0 := (HB.out.cell (World.block_lt_of_cell? w _ hx200_0)).trans hx200_0; replace p200 := eq_true p200; replace q200 := eq_true q200)))
                                                go_ret
                                                exact ⟨by first | rfl | (simp [errW_none, errW_some] <;> rfl) | (simp [*, errW_none, errW_some] <;> rfl), by repeat (first | (with_reducible first | exact HB.out | apply below_alloc | apply pw_below_drewN | apply below_drew1) | exact HB.out)⟩
                                              · rw [if_neg c30] at H
                                                have c30b0 : decide (30 < ((rdOf ByteArray.empty l0 x7_2).size : Int)) = false := decide_eq_false c30
                                                have c30b1 : decide (30 < (rdOf ByteArray.empty l0 x7_2).size) = false := decide_eq_false (by omega)
                                                clear c30
                                                by_cases c32 : t197 = 0
                                                · rw [if_pos c32] at H
                                                  have c32b0 : (t197 == 0) = true := beq_iff_eq.mpr c32
                                                  have c32b1 : (t197 != 0) = false := bne_eq_false_iff_eq.mpr c32
                                                  clear c32
                                                  by_cases c33 : (t196.length : Int) = 5
                                                  · rw [if_pos c33] at H
                                                    have c33b0 : ((t196.length : Int) == 5) = true := beq_iff_eq.mpr c33
                                                    have c33b1 : ((t196.length : Int) != 5) = false := bne_eq_false_iff_eq.mpr c33
                                                    clear c33
                                                    by_cases c34 : 4 < (t196.length : Int)
                                                    · rw [if_pos c34] at H
                                                      have c34b0 : decide (4 < (t196.length : Int)) = true := decide_eq_true c34
                                                      have c34b1 : decide (4 < t196.length) = true := decide_eq_true (by omega)
                                                      clear c34
                                                      by_cases c35 : (rdOf ByteArray.empty t196 4).toList = (rdOf ByteArray.empty l0 x7_2).toList
                                                      · rw [if_pos c35] at H
                                                        have c35b0 : ((rdOf ByteArray.empty t196 4).toList == (rdOf ByteArray.empty l0 x7_2).toList) = true := beq_iff_eq.mpr c35
                                                        have c35b1 : ((rdOf ByteArray.empty t196 4).toList != (rdOf ByteArray.empty l0 x7_2).toList) = false := bne_eq_false_iff_eq.mpr c35
                                                        clear c35
                                                        by_cases c36 : x6_6.size + (rdOf ByteArray.empty l0 x7_2).size ≤ 9223372036854775807
                                                        · rw [if_pos c36] at H
                                                          have c36b0 := eq_true c36
                                                          have c36b1 : decide (x6_6.size + (rdOf ByteArray.empty l0 x7_2).size ≤ 9223372036854775807) = true := decide_eq_true c36
                                                          try have c36b2 : (9223372036854775807 < x6_6.size + (rdOf ByteArray.empty l0 x7_2).size) = False := eq_false (Nat.not_lt.2 c36)
                                                          have H' := Aside0.mk H
                                                          clear H
                                                          have p194 : 0 ≤ (x7_2 : Int) := of_decide_eq_true (by first | (with_reducible assumption) | assumption)
                                                          have q194 : x7_2 < (l1.length : Int) := of_decide_eq_true (by first | (with_reducible assumption) | assumption)
                                                          obtain ⟨ad194, e194, hx194_0⟩ := Kd.at_int HR1.out x7_2 p194 q194
                                                          cases e194
                                                          replace hx194_0 := (HB.out.cell (World.block_lt_of_cell? w _ hx194_0)).trans hx194_0
                                                          replace p194 := eq_true p194
                                                          replace q194 := eq_true q194
                                                          have p195 : 0 ≤ (x7_2 : Int) := of_decide_eq_true (by first | (with_reducible assumption) | assumption)
                                                          have q195 : x7_2 < (l0.length : Int) := of_decide_eq_true (by first | (with_reducible assumption) | assumption)
                                                          obtain ⟨ad195, e195, hx195_0⟩ := Kd.at_string HR0.out x7_2 p195 q195
                                                          cases e195
                                                          replace hx195_0 := (HB.out.cell (World.block_lt_of_cell? w _ hx195_0)).trans hx195_0
                                                          replace p195 := eq_true p195
                                                          replace q195 := eq_true q195
                                                          go_wp2_with (first | (go_at_call 9; (with_reducible refine (lex_Fields.calls ((⟨#[48, 32, 48, 32, 48, 32, 48, 32]⟩ : ByteArray) ++ (rdOf ByteArray.empty l0 x7_2)) t196 t197 _ A29.out).mono ?_); rintro e w37 ⟨v198, rfl, ho0, hb⟩; have n0_ := Aside0.mk (Kd.R_lower ho0 (below_size (by repeat (first | (with_reducible first | exact HB.out | apply below_alloc | apply pw_below_drewN | apply below_drew1) | exact HB.out)))); have n1_ := Aside0.mk (below_step (by repeat (first | (with_reducible first | exact HB.out | apply below_alloc | apply pw_below_drewN | apply below_drew1) | exact HB.out)) hb); clear HB; have HO199 := n0_; have HB := n1_; clear n0_ n1_; (try clear hb); (try clear hb2); (try clear hk); (try clear hi); (try clear ho0); have p200 : 0 ≤ (x7_2 : Int) := of_decide_eq_true (by first | (with_reducible assumption) | assumption); have q200 : x7_2 < (l0.length : Int) := of_decide_eq_true (by first | (with_reducible assumption) | assumption); obtain ⟨ad200, e200, hx200_0⟩ := Kd.at_string HR0.out x7_2 p200 q200; obtain rfl : ad195 = ad200 := (by injection e200); replace hx200_0 := (HB.out.cell (World.block_lt_of_cell? w _ hx200_0)).trans hx200_0; replace p200 := eq_true p200; replace q200 := eq_true q200; obtain ⟨Ao38, co38, eo38⟩ := Kd.R_slice HO199.out; subst eo38; have p201 : 0 ≤ (4 : Int) := (by omega); have q201 : 4 < (t196.length : Int) := of_decide_eq_true (by first | (with_reducible assumption) | assumption); obtain ⟨ad201, e201, hx201_0⟩ := Kd.at_string (Kd.R_reads' HO199.out).2.2 4 p201 q201; cases e201; (try simp only [show (4 : Int).toNat = 4 from rfl, Nat.reduceMul, Nat.reduceEqDiff, Go.Addr.add, ↓reduceIte] at hx201_0); have qi201 : (4 < t196.length) = True := eq_true (by omega); (try rw [show ((4 : Int)).toNat = 4 from rfl] at hx201_0); replace p201 := eq_true p201; replace q201 := eq_true q201; have p202 : 0 ≤ (x7_2 : Int) := of_decide_eq_true (by first | (with_reducible assumption) | assumption); have q202 : x7_2 < (l0.length : Int) := of_decide_eq_true (by first | (with_reducible assumption) | assumption); obtain ⟨ad202, e202, hx202_0⟩ := Kd.at_string HR0.out x7_2 p202 q202; obtain rfl : ad195 = ad202 := (by injection e202); replace hx202_0 := (HB.out.cell (World.block_lt_of_cell? w _ hx202_0)).trans hx202_0; replace p202 := eq_true p202; replace q202 := eq_true q202; have p203 : 0 ≤ (x7_2 : Int) := of_decide_eq_true (by first | (with_reducible assumption) | assumption); have q203 : x7_2 < (l0.length : Int) := of_decide_eq_true (by first | (with_reducible assumption) | assumption); obtain ⟨ad203, e203, hx203_0⟩ := Kd.at_string HR0.out x7_2 p203 q203; obtain rfl : ad195 = ad203 := (by injection e203); replace hx203_0 := (HB.out.cell (World.block_lt_of_cell? w _ hx203_0)).trans hx203_0; replace p203 := eq_true p203; replace q203 := eq_true q203))
                                                          repeat (go_quiet (first | (go_at_call 9; (with_reducible refine (lex_Fields.calls ((⟨#[48, 32, 48, 32, 48, 32, 48, 32]⟩ : ByteArray) ++ (rdOf ByteArray.empty l0 x7_2)) t196 t197 _ A29.out).mono ?_); rintro e w37 ⟨v198, rfl, ho0, hb⟩; have n0_ := Aside0.mk (Kd.R_lower ho0 (below_size (by repeat (first | (with_reducible first | exact HB.out | apply below_alloc | apply pw_below_drewN | apply below_drew1) | exact HB.out)))); have n1_ := Aside0.mk (below_step (by repeat (first | (with_reducible first | exact HB.out | apply below_alloc | apply pw_below_drewN | apply below_drew1) | exact HB.out)) hb); clear HB; have HO199 := n0_; have HB := n1_; clear n0_ n1_; (try clear hb); (try clear hb2); (try clear hk); (try clear hi); (try clear ho0); have p200 : 0 ≤ (x7_2 : Int) := of_decide_eq_true (by first | (with_reducible assumption) | assumption); have q200 : x7_2 < (l0.length : Int) := of_decide_eq_true (by first | (with_reducible assumption) | assumption); obtain ⟨ad200, e200, hx200_0⟩ := Kd.at_string HR0.out x7_2 p200 q200; obtain rfl : ad195 = ad200 := (by injection e200); replace hx200_0 := (HB.out.cell (World.block_lt_of_cell? w _ hx200_0)).trans hx200_0; replace p200 := eq_true p200; replace q200 := eq_true q200; obtain ⟨Ao38, co38, eo38⟩ := Kd.R_slice HO199.out; subst eo38; have p201 : 0 ≤ (4 : Int) := (by omega); have q201 : 4 < (t196.length : Int) := of_decide_eq_true (by first | (with_reducible assumption) | assumption); obtain ⟨ad201, e201, hx201_0⟩ := Kd.at_string (Kd.R_reads' HO199.out).2.2 4 p201 q201; cases e201; (try simp only [show (4 : Int).toNat = 4 from rfl, Nat.reduceMul, Nat.reduceEqDiff, Go.Addr.add, ↓reduceIte] at hx201_0); have qi201 : (4 < t196.length) = True := eq_true (by omega); (try rw [show ((4 : Int)).toNat = 4 from rfl] at hx201_0); replace p201 := eq_true p201; replace q201 := eq_true q201; have p202 : 0 ≤ (x7_2 : Int) := of_decide_eq_true (by first | (with_reducible assumption) | assumption); have q202 : x7_2 < (l0.length : Int) := of_decide_eq_true (by first | (with_reducible assumption) | assumption); obtain ⟨ad202, e202, hx202_0⟩ := Kd.at_string HR0.out x7_2 p202 q202; obtain rfl : ad195 = ad202 := (by injection e202); replace hx202_0 := (HB.out.cell (World.block_lt_of_cell? w _ hx202_0)).trans hx202_0; replace p202 := eq_true p202; replace q202 := eq_true q202; have p203 : 0 ≤ (x7_2 : Int) := of_decide_eq_true (by first | (with_reducible assumption) | assumption); have q203 : x7_2 < (l0.length : Int) := of_decide_eq_true (by first | (with_reducible assumption) | assumption); obtain ⟨ad203, e203, hx203_0⟩ := Kd.at_string HR0.out x7_2 p203 q203; obtain rfl : ad195 = ad203 := (by injection e203); replace hx203_0 := (HB.out.cell (World.block_lt_of_cell? w _ hx203_0)).trans hx203_0; replace p203 := eq_true p203; replace q203 := eq_true q203)); try go_wp2_with (first | (go_at_call 9; (with_reducible refine (lex_Fields.calls ((⟨#[48, 32, 48, 32, 48, 32, 48, 32]⟩ : ByteArray) ++ (rdOf ByteArray.empty l0 x7_2)) t196 t197 _ A29.out).mono ?_); rintro e w37 ⟨v198, rfl, ho0, hb⟩; have n0_ := Aside0.mk (Kd.R_lower ho0 (below_size (by repeat (first | (with_reducible first | exact HB.out | apply below_alloc | apply pw_below_drewN | apply below_drew1) | exact HB.out)))); have n1_ := Aside0.mk (below_step (by repeat (first | (with_reducible first | exact HB.out | apply below_alloc | apply pw_below_drewN | apply below_drew1) | exact HB.out)) hb); clear HB; have HO199 := n0_; have HB := n1_; clear n0_ n1_; (try clear hb); (try clear hb2); (try clear hk); (try clear hi); (try clear ho0); have p200 : 0 ≤ (x7_2 : Int) := of_decide_eq_true (by first | (with_reducible assumption) | assumption); have q200 : x7_2 < (l0.length : Int) := of_decide_eq_true (by first | (with_reducible assumption) | assumption); obtain ⟨ad200, e200, hx200_0⟩ := Kd.at_string HR0.out x7_2 p200 q200; obtain rfl : ad195 = ad200 := (by injection e200); replace hx200_0 := (HB.out.cell (World.block_lt_of_cell? w _ hx200_0)).trans hx200_0; replace p200 := eq_true p200; replace q200 := eq_true q200; obtain ⟨Ao38, co38, eo38⟩ := Kd.R_slice HO199.out; subst eo38; have p201 : 0 ≤ (4 : Int) := (by omega); have q201 : 4 < (t196.length : Int) := of_decide_eq_true (by first | (with_reducible assumption) | assumption); obtain ⟨ad201, e201, hx201_0⟩ := Kd.at_string (Kd.R_reads' HO199.out).2.2 4 p201 q201; cases e201; (try simp only [show (4 : Int).toNat = 4 from rfl, Nat.reduceMul, Nat.reduceEqDiff, Go.Addr.add, ↓reduceIte] at hx201_0); have qi201 : (4 < t196.length) = True := eq_true (by omega); (try rw [show ((4 : Int)).toNat = 4 from rfl] at hx201_0); replace p201 := eq_true p201; replace q201 := eq_true q201; have p202 : 0 ≤ (x7_2 : Int) := of_decide_eq_true (by first | (with_reducible assumption) | assumption); have q202 : x7_2 < (l0.length : Int) := of_decide_eq_true (by first | (with_reducible assumption) | assumption); obtain ⟨ad202, e202, hx202_0⟩ := Kd.at_string HR0.out x7_2 p202 q202; obtain rfl : ad195 = ad202 := (by injection e202); replace hx202_0 := (HB.out.cell (World.block_lt_of_cell? w _ hx202_0)).trans hx202_0; replace p202 := eq_true p202; replace q202 := eq_true q202; have p203 : 0 ≤ (x7_2 : Int) := of_decide_eq_true (by first | (with_reducible assumption) | assumption); have q203 : x7_2 < (l0.length : Int) := of_decide_eq_true (by first | (with_reducible assumption) | assumption); obtain ⟨ad203, e203, hx203_0⟩ := Kd.at_string HR0.out x7_2 p203 q203; obtain rfl : ad195 = ad203 := (by injection e203); replace hx203_0 := (HB.out.cell (World.block_lt_of_cell? w _ hx203_0)).trans hx203_0; replace p203 := eq_true p203; replace q203 := eq_true q203)))
                                                          go_roundg k6
                                                          case measure => have := HJ4.out; have := HK2.out; have := HJ9.out; have := HJ14.out; have := HJ16.out; have := HK6.out; omega
                                                          case rel => exact ⟨(x6_6 ++ (rdOf ByteArray.empty l0 x7_2)), (wrap64 (x7_2 + 1)), (by first | rfl | (simp; done) | (simp [*]; done)), (by first | rfl | (simp; done) | (simp [*]; done)), H', ⟨by have := HJ4.out; have := HK2.out; have := HJ9.out; have := HJ14.out; have := HJ16.out; have := HK6.out; omega⟩, ⟨by repeat (first | (with_reducible first | exact HB.out | apply below_alloc | apply pw_below_drewN | apply below_drew1) | exact HB.out)⟩⟩
                                                        · rw [if_neg c36] at H
                                                          exact absurd H (by simp)
                                                      · rw [if_neg c35] at H
                                                        have c35b0 : ((rdOf ByteArray.empty t196 4).toList == (rdOf ByteArray.empty l0 x7_2).toList) = false := beq_eq_false_iff_ne.mpr c35
                                                        have c35b1 : ((rdOf ByteArray.empty t196 4).toList != (rdOf ByteArray.empty l0 x7_2).toList) = true := bne_iff_ne.mpr c35
                                                        obtain rfl := Option.some.inj H
                                                        have p194 : 0 ≤ (x7_2 : Int) := of_decide_eq_true (by first | (with_reducible assumption) | assumption)
                                                        have q194 : x7_2 < (l1.length : Int) := of_decide_eq_true (by first | (with_reducible assumption) | assumption)
                                                        obtain ⟨ad194, e194, hx194_0⟩ := Kd.at_int HR1.out x7_2 p194 q194
                                                        cases e194
                                                        replace hx194_0 := (HB.out.cell (World.block_lt_of_cell? w _ hx194_0)).trans hx194_0
                                                        replace p194 := eq_true p194
                                                        replace q194 := eq_true q194
                                                        have p195 : 0 ≤ (x7_2 : Int) := of_decide_eq_true (by first | (with_reducible assumption) | assumption)
                                                        have q195 : x7_2 < (l0.length : Int) := of_decide_eq_true (by first | (with_reducible assumption) | assumption)
                                                        obtain ⟨ad195, e195, hx195_0⟩ := Kd.at_string HR0.out x7_2 p195 q195
                                                        cases e195
                                                        replace hx195_0 := (HB.out.cell (World.block_lt_of_cell? w _ hx195_0)).trans hx195_0
                                                        replace p195 := eq_true p195
                                                        replace q195 := eq_true q195
                                                        go_wp2_with (first | (go_at_call 9; (with_reducible refine (lex_Fields.calls ((⟨#[48, 32, 48, 32, 48, 32, 48, 32]⟩ : ByteArray) ++ (rdOf ByteArray.empty l0 x7_2)) t196 t197 _ A29.out).mono ?_); rintro e w39 ⟨v198, rfl, ho0, hb⟩; have n0_ := Aside0.mk (Kd.R_lower ho0 (below_size (by repeat (first | (with_reducible first | exact HB.out | apply below_alloc | apply pw_below_drewN | apply below_drew1) | exact HB.out)))); have n1_ := Aside0.mk (below_step (by repeat (first | (with_reducible first | exact HB.out | apply below_alloc | apply pw_below_drewN | apply below_drew1) | exact HB.out)) hb); clear HB; have HO199 := n0_; have HB := n1_; clear n0_ n1_; (try clear hb); (try clear hb2); (try clear hk); (try clear hi); (try clear ho0); have p200 : 0 ≤ (x7_2 : Int) := of_decide_eq_true (by first | (with_reducible assumption) | assumption); have q200 : x7_2 < (l0.length : Int) := of_decide_eq_true (by first | (with_reducible assumption) | assumption); obtain ⟨ad200, e200, hx200_0⟩ := Kd.at_string HR0.out x7_2 p200 q200; obtain rfl : ad195 = ad200 := (by injection e200); replace hx200_0 := (HB.out.cell (World.block_lt_of_cell? w _ hx200_0)).trans hx200_0; replace p200 := eq_true p200; replace q200 := eq_true q200; obtain ⟨Ao40, co40, eo40⟩ := Kd.R_slice HO199.out; subst eo40; have p201 : 0 ≤ (4 : Int) := (by omega); have q201 : 4 < (t196.length : Int) := of_decide_eq_true (by first | (with_reducible assumption) | assumption); obtain ⟨ad201, e201, hx201_0⟩ := Kd.at_string (Kd.R_reads' HO199.out).2.2 4 p201 q201; cases e201; (try simp only [show (4 : Int).toNat = 4 from rfl, Nat.reduceMul, Nat.reduceEqDiff, Go.Addr.add, ↓reduceIte] at hx201_0); have qi201 : (4 < t196.length) = True := eq_true (by omega); (try rw [show ((4 : Int)).toNat = 4 from rfl] at hx201_0); replace p201 := eq_true p201; replace q201 := eq_true q201; have p202 : 0 ≤ (x7_2 : Int) := of_decide_eq_true (by first | (with_reducible assumption) | assumption); have q202 : x7_2 < (l0.length : Int) := of_decide_eq_true (by first | (with_reducible assumption) | assumption); obtain ⟨ad202, e202, hx202_0⟩ := Kd.at_string HR0.out x7_2 p202 q202; obtain rfl : ad195 = ad202 := (by injection e202); replace hx202_0 := (HB.out.cell (World.block_lt_of_cell? w _ hx202_0)).trans hx202_0; replace p202 := eq_true p202; replace q202 := eq_true q202))
                                                        repeat (go_quiet (first | (go_at_call 9; (with_reducible refine (lex_Fields.calls ((⟨#[48, 32, 48, 32, 48, 32, 48, 32]⟩ : ByteArray) ++ (rdOf ByteArray.empty l0 x7_2)) t196 t197 _ A29.out).mono ?_); rintro e w39 ⟨v198, rfl, ho0, hb⟩; have n0_ := Aside0.mk (Kd.R_lower ho0 (below_size (by repeat (first | (with_reducible first | exact HB.out | apply below_alloc | apply pw_below_drewN | apply below_drew1) | exact HB.out)))); have n1_ := Aside0.mk (below_step (by repeat (first | (with_reducible first | exact HB.out | apply below_alloc | apply pw_below_drewN | apply below_drew1) | exact HB.out)) hb); clear HB; have HO199 := n0_; have HB := n1_; clear n0_ n1_; (try clear hb); (try clear hb2); (try clear hk); (try clear hi); (try clear ho0); have p200 : 0 ≤ (x7_2 : Int) := of_decide_eq_true (by first | (with_reducible assumption) | assumption); have q200 : x7_2 < (l0.length : Int) := of_decide_eq_true (by first | (with_reducible assumption) | assumption); obtain ⟨ad200, e200, hx200_0⟩ := Kd.at_string HR0.out x7_2 p200 q200; obtain rfl : ad195 = ad200 := (by injection e200); replace hx200_0 := (HB.out.cell (World.block_lt_of_cell? w _ hx200_0)).trans hx200_0; replace p200 := eq_true p200; replace q200 := eq_true q200; obtain ⟨Ao40, co40, eo40⟩ := Kd.R_slice HO199.out; subst eo40; have p201 : 0 ≤ (4 : Int) := (by omega); have q201 : 4 < (t196.length : Int) := of_decide_eq_true (by first | (with_reducible assumption) | assumption); obtain ⟨ad201, e201, hx201_0⟩ := Kd.at_string (Kd.R_reads' HO199.out).2.2 4 p201 q201; cases e201; (try simp only [show (4 : Int).toNat = 4 from rfl, Nat.reduceMul, Nat.reduceEqDiff, Go.Addr.add, ↓reduceIte] at hx201_0); have qi201 : (4 < t196.length) = True := eq_true (by omega); (try rw [show ((4 : Int)).toNat = 4 from rfl] at hx201_0); replace p201 := eq_true p201; replace q201 := eq_true q201; have p202 : 0 ≤ (x7_2 : Int) := of_decide_eq_true (by first | (with_reducible assumption) | assumption); have q202 : x7_2 < (l0.length : Int) := of_decide_eq_true (by first | (with_reducible assumption) | assumption); obtain ⟨ad202, e202, hx202_0⟩ := Kd.at_string HR0.out x7_2 p202 q202; obtain rfl : ad195 = ad202 := (by injection e202); replace hx202_0 := (HB.out.cell (World.block_lt_of_cell? w _ hx202_0)).trans hx202_0; replace p202 := eq_true p202; replace q202 := eq_true q202)); try go_wp2_with (first | (go_at_call 9; (with_reducible refine (lex_Fields.calls ((⟨#[48, 32, 48, 32, 48, 32, 48, 32]⟩ : ByteArray) ++ (rdOf ByteArray.empty l0 x7_2)) t196 t197 _ A29.out).mono ?_); rintro e w39 ⟨v198, rfl, ho0, hb⟩; have n0_ := Aside0.mk (Kd.R_lower ho0 (below_size (by repeat (first | (with_reducible first | exact HB.out | apply below_alloc | apply pw_below_drewN | apply below_drew1) | exact HB.out)))); have n1_ := Aside0.mk (below_step (by repeat (first | (with_reducible first | exact HB.out | apply below_alloc | apply pw_below_drewN | apply below_drew1) | exact HB.out)) hb); clear HB; have HO199 := n0_; have HB := n1_; clear n0_ n1_; (try clear hb); (try clear hb2); (try clear hk); (try clear hi); (try clear ho0); have p200 : 0 ≤ (x7_2 : Int) := of_decide_eq_true (by first | (with_reducible assumption) | assumption); have q200 : x7_2 < (l0.length : Int) := of_decide_eq_true (by first | (with_reducible assumption) | assumption); obtain ⟨ad200, e200, hx200_0⟩ := Kd.at_string HR0.out x7_2 p200 q200; obtain rfl : ad195 = ad200 := (by injection e200); replace hx200_0 := (HB.out.cell (World.block_lt_of_cell? w _ hx200_0)).trans hx200_0; replace p200 := eq_true p200; replace q200 := eq_true q200; obtain ⟨Ao40, co40, eo40⟩ := Kd.R_slice HO199.out; subst eo40; have p201 : 0 ≤ (4 : Int) := (by omega); have q201 : 4 < (t196.length : Int) := of_decide_eq_true (by first | (with_reducible assumption) | assumption); obtain ⟨ad201, e201, hx201_0⟩ := Kd.at_string (Kd.R_reads' HO199.out).2.2 4 p201 q201; cases e201; (try simp only [show (4 : Int).toNat = 4 from rfl, Nat.reduceMul, Nat.reduceEqDiff, Go.Addr.add, ↓reduceIte] at hx201_0); have qi201 : (4 < t196.length) = True := eq_true (by omega); (try rw [show ((4 : Int)).toNat = 4 from rfl] at hx201_0); replace p201 := eq_true p201; replace q201 := eq_true q201; have p202 : 0 ≤ (x7_2 : Int) := of_decide_eq_true (by first | (with_reducible assumption) | assumption); have q202 : x7_2 < (l0.length : Int) := of_decide_eq_true (by first | (with_reducible assumption) | assumption); obtain ⟨ad202, e202, hx202_0⟩ := Kd.at_string HR0.out x7_2 p202 q202; obtain rfl : ad195 = ad202 := (by injection e202); replace hx202_0 := (HB.out.cell (World.block_lt_of_cell? w _ hx202_0)).trans hx202_0; replace p202 := eq_true p202; replace q202 := eq_true q202)))
                                                        go_ret
                                                        exact ⟨by first | rfl | (simp [errW_none, errW_some] <;> rfl) | (simp [*, errW_none, errW_some] <;> rfl), by repeat (first | (with_reducible first | exact HB.out | apply below_alloc | apply pw_below_drewN | apply below_drew1) | exact HB.out)⟩
                                                    · rw [if_neg c34] at H
                                                      exact absurd H (by simp)
                                                  · rw [if_neg c33] at H
                                                    have c33b0 : ((t196.length : Int) == 5) = false := beq_eq_false_iff_ne.mpr c33
                                                    have c33b1 : ((t196.length : Int) != 5) = true := bne_iff_ne.mpr c33
                                                    obtain rfl := Option.some.inj H
                                                    have p194 : 0 ≤ (x7_2 : Int) := of_decide_eq_true (by first | (with_reducible assumption) | assumption)
                                                    have q194 : x7_2 < (l1.length : Int) := of_decide_eq_true (by first | (with_reducible assumption) | assumption)
                                                    obtain ⟨ad194, e194, hx194_0⟩ := Kd.at_int HR1.out x7_2 p194 q194
                                                    cases e194
                                                    replace hx194_0 := (HB.out.cell (World.block_lt_of_cell? w _ hx194_0)).trans hx194_0
                                                    replace p194 := eq_true p194
                                                    replace q194 := eq_true q194
                                                    have p195 : 0 ≤ (x7_2 : Int) := of_decide_eq_true (by first | (with_reducible assumption) | assumption)
                                                    have q195 : x7_2 < (l0.length : Int) := of_decide_eq_true (by first | (with_reducible assumption) | assumption)
                                                    obtain ⟨ad195, e195, hx195_0⟩ := Kd.at_string HR0.out x7_2 p195 q195
                                                    cases e195
                                                    replace hx195_0 := (HB.out.cell (World.block_lt_of_cell? w _ hx195_0)).trans hx195_0
                                                    replace p195 := eq_true p195
                                                    replace q195 := eq_true q195
                                                    go_wp2_with (first | (go_at_call 9; (with_reducible refine (lex_Fields.calls ((⟨#[48, 32, 48, 32, 48, 32, 48, 32]⟩ : ByteArray) ++ (rdOf ByteArray.empty l0 x7_2)) t196 t197 _ A29.out).mono ?_); rintro e w41 ⟨v198, rfl, ho0, hb⟩; have n0_ := Aside0.mk (Kd.R_lower ho0 (below_size (by repeat (first | (with_reducible first | exact HB.out | apply below_alloc | apply pw_below_drewN | apply below_drew1) | exact HB.out)))); have n1_ := Aside0.mk (below_step (by repeat (first | (with_reducible first | exact HB.out | apply below_alloc | apply pw_below_drewN | apply below_drew1) | exact HB.out)) hb); clear HB; have HO199 := n0_; have HB := n1_; clear n0_ n1_; (try clear hb); (try clear hb2); (try clear hk); (try clear hi); (try clear ho0); have p200 : 0 ≤ (x7_2 : Int) := of_decide_eq_true (by first | (with_reducible assumption) | assumption); have q200 : x7_2 < (l0.length : Int) := of_decide_eq_true (by first | (with_reducible assumption) | assumption); obtain ⟨ad200, e200, hx200_0⟩ := Kd.at_string HR0.out x7_2 p200 q200; obtain rfl : ad195 = ad200 := (by injection e200); replace hx200_0 := (HB.out.cell (World.block_lt_of_cell? w _ hx200_0)).trans hx200_0; replace p200 := eq_true p200; replace q200 := eq_true q200; obtain ⟨Ao42, co42, eo42⟩ := Kd.R_slice HO199.out; subst eo42))
                                                    repeat (go_quiet (first | (go_at_call 9; (with_reducible refine (lex_Fields.calls ((⟨#[48, 32, 48, 32, 48, 32, 48, 32]⟩ : ByteArray) ++ (rdOf ByteArray.empty l0 x7_2)) t196 t197 _ A29.out).mono ?_); rintro e w41 ⟨v198, rfl, ho0, hb⟩; have n0_ := Aside0.mk (Kd.R_lower ho0 (below_size (by repeat (first | (with_reducible first | exact HB.out | apply below_alloc | apply pw_below_drewN | apply below_drew1) | exact HB.out)))); have n1_ := Aside0.mk (below_step (by repeat (first | (with_reducible first | exact HB.out | apply below_alloc | apply pw_below_drewN | apply below_drew1) | exact HB.out)) hb); clear HB; have HO199 := n0_; have HB := n1_; clear n0_ n1_; (try clear hb); (try clear hb2); (try clear hk); (try clear hi); (try clear ho0); have p200 : 0 ≤ (x7_2 : Int) := of_decide_eq_true (by first | (with_reducible assumption) | assumption); have q200 : x7_2 < (l0.length : Int) := of_decide_eq_true (by first | (with_reducible assumption) | assumption); obtain ⟨ad200, e200, hx200_0⟩ := Kd.at_string HR0.out x7_2 p200 q200; obtain rfl : ad195 = ad200 := (by injection e200); replace hx200_0 := (HB.out.cell (World.block_lt_of_cell? w _ hx200_0)).trans hx200_0; replace p200 := eq_true p200; replace q200 := eq_true q200; obtain ⟨Ao42, co42, eo42⟩ := Kd.R_slice HO199.out; subst eo42)); try go_wp2_with (first | (go_at_call 9; (with_reducible refine (lex_Fields.calls ((⟨#[48, 32, 48, 32, 48, 32, 48, 32]⟩ : ByteArray) ++ (rdOf ByteArray.empty l0 x7_2)) t196 t197 _ A29.out).mono ?_); rintro e w41 ⟨v198, rfl, ho0, hb⟩; have n0_ := Aside0.mk (Kd.R_lower ho0 (below_size (by repeat (first | (with_reducible first | exact HB.out | apply below_alloc | apply pw_below_drewN | apply below_drew1) | exact HB.out)))); have n1_ := Aside0.mk (below_step (by repeat (first | (with_reducible first | exact HB.out | apply below_alloc | apply pw_below_drewN | apply below_drew1) | exact HB.out)) hb); clear HB; have HO199 := n0_; have HB := n1_; clear n0_ n1_; (try clear hb); (try clear hb2); (try clear hk); (try clear hi); (try clear ho0); have p200 : 0 ≤ (x7_2 : Int) := of_decide_eq_true (by first | (with_reducible assumption) | assumption); have q200 : x7_2 < (l0.length : Int) := of_decide_eq_true (by first | (with_reducible assumption) | assumption); obtain ⟨ad200, e200, hx200_0⟩ := Kd.at_string HR0.out x7_2 p200 q200; obtain rfl : ad195 = ad200 := (by injection e200); replace hx200_0 := (HB.out.cell (World.block_lt_of_cell? w _ hx200_0)).trans hx200_0; replace p200 := eq_true p200; replace q200 := eq_true q200; obtain ⟨Ao42, co42, eo42⟩ := Kd.R_slice HO199.out; subst eo42)))
                                                    go_ret
                                                    exact ⟨by first | rfl | (simp [errW_none, errW_some] <;> rfl) | (simp [*, errW_none, errW_some] <;> rfl), by repeat (first | (with_reducible first | exact HB.out | apply below_alloc | apply pw_below_drewN | apply below_drew1) | exact HB.out)⟩
                                                · rw [if_neg c32] at H
                                                  have c32b0 : (t197 == 0) = false := beq_eq_false_iff_ne.mpr c32
                                                  have c32b1 : (t197 != 0) = true := bne_iff_ne.mpr c32
                                                  obtain rfl := Option.some.inj H
                                                  have p194 : 0 ≤ (x7_2 : Int) := of_decide_eq_true (by first | (with_reducible assumption) | assumption)
                                                  have q194 : x7_2 < (l1.length : Int) := of_decide_eq_true (by first | (with_reducible assumption) | assumption)
                                                  obtain ⟨ad194, e194, hx194_0⟩ := Kd.at_int HR1.out x7_2 p194 q194
                                                  cases e194
                                                  replace hx194_0 := (HB.out.cell (World.block_lt_of_cell? w _ hx194_0)).trans hx194_0
                                                  replace p194 := eq_true p194
                                                  replace q194 := eq_true q194
                                                  have p195 : 0 ≤ (x7_2 : Int) := of_decide_eq_true (by first | (with_reducible assumption) | assumption)
                                                  have q195 : x7_2 < (l0.length : Int) := of_decide_eq_true (by first | (with_reducible assumption) | assumption)
                                                  obtain ⟨ad195, e195, hx195_0⟩ := Kd.at_string HR0.out x7_2 p195 q195
                                                  cases e195
                                                  replace hx195_0 := (HB.out.cell (World.block_lt_of_cell? w _ hx195_0)).trans hx195_0
                                                  replace p195 := eq_true p195
                                                  replace q195 := eq_true q195
                                                  go_wp2_with (first | (go_at_call 9; (with_reducible refine (lex_Fields.calls ((⟨#[48, 32, 48, 32, 48, 32, 48, 32]⟩ : ByteArray) ++ (rdOf ByteArray.empty l0 x7_2)) t196 t197 _ A29.out).mono ?_); rintro e w43 ⟨v198, rfl, ho0, hb⟩; have n0_ := Aside0.mk (Kd.R_lower ho0 (below_size (by repeat (first | (with_reducible first | exact HB.out | apply below_alloc | apply pw_below_drewN | apply below_drew1) | exact HB.out)))); have n1_ := Aside0.mk (below_step (by repeat (first | (with_reducible first | exact HB.out | apply below_alloc | apply pw_below_drewN | apply below_drew1) | exact HB.out)) hb); clear HB; have HO199 := n0_; have HB := n1_; clear n0_ n1_; (try clear hb); (try clear hb2); (try clear hk); (try clear hi); (try clear ho0); have p200 : 0 ≤ (x7_2 : Int) := of_decide_eq_true (by first | (with_reducible assumption) | assumption); have q200 : x7_2 < (l0.length : Int) := of_decide_eq_true (by first | (with_reducible assumption) | assumption); obtain ⟨ad200, e200, hx200_0⟩ := Kd.at_string HR0.out x7_2 p200 q200; obtain rfl : ad195 = ad200 := (by injection e200); replace hx200_0 := (HB.out.cell (World.block_lt_of_cell? w _ hx200_0)).trans hx200_0; replace p200 := eq_true p200; replace q200 := eq_true q200))
                                                  repeat (go_quiet (first | (go_at_call 9; (with_reducible refine (lex_Fields.calls ((⟨#[48, 32, 48, 32, 48, 32, 48, 32]⟩ : ByteArray) ++ (rdOf ByteArray.empty l0 x7_2)) t196 t197 _ A29.out).mono ?_); rintro e w43 ⟨v198, rfl, ho0, hb⟩; have n0_ := Aside0.mk (Kd.R_lower ho0 (below_size (by repeat (first | (with_reducible first | exact HB.out | apply below_alloc | apply pw_below_drewN | apply below_drew1) | exact HB.out)))); have n1_ := Aside0.mk (below_step (by repeat (first | (with_reducible first | exact HB.out | apply below_alloc | apply pw_below_drewN | apply below_drew1) | exact HB.out)) hb); clear HB; have HO199 := n0_; have HB := n1_; clear n0_ n1_; (try clear hb); (try clear hb2); (try clear hk); (try clear hi); (try clear ho0); have p200 : 0 ≤ (x7_2 : Int) := of_decide_eq_true (by first | (with_reducible assumption) | assumption); have q200 : x7_2 < (l0.length : Int) := of_decide_eq_true (by first | (with_reducible assumption) | assumption); obtain ⟨ad200, e200, hx200_0⟩ := Kd.at_string HR0.out x7_2 p200 q200; obtain rfl : ad195 = ad200 := (by injection e200); replace hx200_0 := (HB.out.cell (World.block_lt_of_cell? w _ hx200_0)).trans hx200_0; replace p200 := eq_true p200; replace q200 := eq_true q200)); try go_wp2_with (first | (go_at_call 9; (with_reducible refine (lex_Fields.calls ((⟨#[48, 32, 48, 32, 48, 32, 48, 32]⟩ : ByteArray) ++ (rdOf ByteArray.empty l0 x7_2)) t196 t197 _ A29.out).mono ?_); rintro e w43 ⟨v198, rfl, ho0, hb⟩; have n0_ := Aside0.mk (Kd.R_lower ho0 (below_size (by repeat (first | (with_reducible first | exact HB.out | apply below_alloc | apply pw_below_drewN | apply below_drew1) | exact HB.out)))); have n1_ := Aside0.mk (below_step (by repeat (first | (with_reducible first | exact HB.out | apply below_alloc | apply pw_below_drewN | apply below_drew1) | exact HB.out)) hb); clear HB; have HO199 := n0_; have HB := n1_; clear n0_ n1_; (try clear hb); (try clear hb2); (try clear hk); (try clear hi); (try clear ho0); have p200 : 0 ≤ (x7_2 : Int) := of_decide_eq_true (by first | (with_reducible assumption) | assumption); have q200 : x7_2 < (l0.length : Int) := of_decide_eq_true (by first | (with_reducible assumption) | assumption); obtain ⟨ad200, e200, hx200_0⟩ := Kd.at_string HR0.out x7_2 p200 q200; obtain rfl : ad195 = ad200 := (by injection e200); replace hx200_0 := (HB.out.cell (World.block_lt_of_cell? w _ hx200_0)).trans hx200_0; replace p200 := eq_true p200; replace q200 := eq_true q200)))
                                                  go_ret
                                                  exact ⟨by first | rfl | (simp [errW_none, errW_some] <;> rfl) | (simp [*, errW_none, errW_some] <;> rfl), by repeat (first | (with_reducible first | exact HB.out | apply below_alloc | apply pw_below_drewN | apply below_drew1) | exact HB.out)⟩
                                            · rw [if_neg c28] at H
                                              exact absurd H (by simp)
                                          · rw [if_neg c27] at H
                                            exact absurd H (by simp)
                                    · rw [if_neg c21] at H
                                      exact absurd H (by simp)
                                  · rw [if_neg c20] at H
                                    exact absurd H (by simp)
              · rw [if_neg c9] at H
                have c9b0 : decide (x7_2 < 6) = false := decide_eq_false c9
                clear c9
                replace H := Option.bind_eq_some_iff.mp H
                obtain ⟨⟨t187, t188⟩, A440, H⟩ := H
                replace H : ((complineref17_Same.f k2 t187 l0).bind fun t191 => (if true = true then (if t188 = 0 then (some t191) else (some false)) else (some false))) = some r := H
                have A44 := Aside0.mk A440
                clear A440
                replace H := Option.bind_eq_some_iff.mp H
                obtain ⟨t191, A450, H⟩ := H
                replace H : (if true = true then (if t188 = 0 then (some t191) else (some false)) else (some false)) = some r := H
                have A45 := Aside0.mk A450
                clear A450
                by_cases c46 : true = true
                · clear c46
                  have H1 : (if t188 = 0 then (some t191) else (some false)) = some r := by rw [if_pos rfl] at H; exact H
                  clear H
                  have H := H1
                  clear H1
                  by_cases c47 : t188 = 0
                  · rw [if_pos c47] at H
                    have c47b0 : (t188 == 0) = true := beq_iff_eq.mpr c47
                    have c47b1 : (t188 != 0) = false := bne_eq_false_iff_eq.mpr c47
                    clear c47
                    obtain rfl := Option.some.inj H
                    go_wp2_with (first | (go_at_call 9; (with_reducible refine (lex_Fields.calls x6_2 t187 t188 _ A44.out).mono ?_); rintro e w48 ⟨v189, rfl, ho0, hb⟩; have n0_ := Aside0.mk (Kd.R_lower ho0 (below_size (by repeat (first | (with_reducible first | exact HB.out | apply below_alloc | apply pw_below_drewN | apply below_drew1) | exact HB.out)))); have n1_ := Aside0.mk (below_step (by repeat (first | (with_reducible first | exact HB.out | apply below_alloc | apply pw_below_drewN | apply below_drew1) | exact HB.out)) hb); clear HB; have HO190 := n0_; have HB := n1_; clear n0_ n1_; (try clear hb); (try clear hb2); (try clear hk); (try clear hi); (try clear ho0); obtain ⟨Ao49, co49, eo49⟩ := Kd.R_slice HO190.out; subst eo49) | (go_at_call 11; (with_reducible refine (complineref17_Same.calls k2 _ _ t187 _ _ l0 t191 _ ?side1 ?side2 ?side3 ?side4 A45.out).mono ?_); (case side1 => repeat (first | exact (Kd.R_reads' HO190.out).2.2 | (with_reducible refine Kd.C_alloc ?_ _) | (with_reducible refine Kd.C_drewN ?_ _) | (with_reducible refine Kd.C_drew ?_))); (case side2 => exact (Kd.R_reads' HO190.out).2.1); (case side3 => repeat (first | exact (Kd.C_below HR0.out HB.out) | (with_reducible refine Kd.C_alloc ?_ _) | (with_reducible refine Kd.C_drewN ?_ _) | (with_reducible refine Kd.C_drew ?_))); (case side4 => exact HC0.out); rintro e w' ⟨rfl, ⟨nd, rfl⟩⟩; (try first | exact ⟨rfl, _, World.drewN_drewN _ _ _⟩ | exact ⟨rfl, _, Eq.trans (World.drewN_drewN _ _ _) (congrArg (World.drewN _) (Nat.add_assoc _ _ _))⟩)))
                    repeat (go_quiet (first | (go_at_call 9; (with_reducible refine (lex_Fields.calls x6_2 t187 t188 _ A44.out).mono ?_); rintro e w48 ⟨v189, rfl, ho0, hb⟩; have n0_ := Aside0.mk (Kd.R_lower ho0 (below_size (by repeat (first | (with_reducible first | exact HB.out | apply below_alloc | apply pw_below_drewN | apply below_drew1) | exact HB.out)))); have n1_ := Aside0.mk (below_step (by repeat (first | (with_reducible first | exact HB.out | apply below_alloc | apply pw_below_drewN | apply below_drew1) | exact HB.out)) hb); clear HB; have HO190 := n0_; have HB := n1_; clear n0_ n1_; (try clear hb); (try clear hb2); (try clear hk); (try clear hi); (try clear ho0); obtain ⟨Ao49, co49, eo49⟩ := Kd.R_slice HO190.out; subst eo49) | (go_at_call 11; (with_reducible refine (complineref17_Same.calls k2 _ _ t187 _ _ l0 t191 _ ?side1 ?side2 ?side3 ?side4 A45.out).mono ?_); (case side1 => repeat (first | exact (Kd.R_reads' HO190.out).2.2 | (with_reducible refine Kd.C_alloc ?_ _) | (with_reducible refine Kd.C_drewN ?_ _) | (with_reducible refine Kd.C_drew ?_))); (case side2 => exact (Kd.R_reads' HO190.out).2.1); (case side3 => repeat (first | exact (Kd.C_below HR0.out HB.out) | (with_reducible refine Kd.C_alloc ?_ _) | (with_reducible refine Kd.C_drewN ?_ _) | (with_reducible refine Kd.C_drew ?_))); (case side4 => exact HC0.out); rintro e w' ⟨rfl, ⟨nd, rfl⟩⟩; (try first | exact ⟨rfl, _, World.drewN_drewN _ _ _⟩ | exact ⟨rfl, _, Eq.trans (World.drewN_drewN _ _ _) (congrArg (World.drewN _) (Nat.add_assoc _ _ _))⟩))); try go_wp2_with (first | (go_at_call 9; (with_reducible refine (lex_Fields.calls x6_2 t187 t188 _ A44.out).mono ?_); rintro e w48 ⟨v189, rfl, ho0, hb⟩; have n0_ := Aside0.mk (Kd.R_lower ho0 (below_size (by repeat (first | (with_reducible first | exact HB.out | apply below_alloc | apply pw_below_drewN | apply below_drew1) | exact HB.out)))); have n1_ := Aside0.mk (below_step (by repeat (first | (with_reducible first | exact HB.out | apply below_alloc | apply pw_below_drewN | apply below_drew1) | exact HB.out)) hb); clear HB; have HO190 := n0_; have HB := n1_; clear n0_ n1_; (try clear hb); (try clear hb2); (try clear hk); (try clear hi); (try clear ho0); obtain ⟨Ao49, co49, eo49⟩ := Kd.R_slice HO190.out; subst eo49) | (go_at_call 11; (with_reducible refine (complineref17_Same.calls k2 _ _ t187 _ _ l0 t191 _ ?side1 ?side2 ?side3 ?side4 A45.out).mono ?_); (case side1 => repeat (first | exact (Kd.R_reads' HO190.out).2.2 | (with_reducible refine Kd.C_alloc ?_ _) | (with_reducible refine Kd.C_drewN ?_ _) | (with_reducible refine Kd.C_drew ?_))); (case side2 => exact (Kd.R_reads' HO190.out).2.1); (case side3 => repeat (first | exact (Kd.C_below HR0.out HB.out) | (with_reducible refine Kd.C_alloc ?_ _) | (with_reducible refine Kd.C_drewN ?_ _) | (with_reducible refine Kd.C_drew ?_))); (case side4 => exact HC0.out); rintro e w' ⟨rfl, ⟨nd, rfl⟩⟩; (try first | exact ⟨rfl, _, World.drewN_drewN _ _ _⟩ | exact ⟨rfl, _, Eq.trans (World.drewN_drewN _ _ _) (congrArg (World.drewN _) (Nat.add_assoc _ _ _))⟩))))
                    go_ret
                    exact ⟨by first | rfl | (simp [errW_none, errW_some] <;> rfl) | (simp [*, errW_none, errW_some] <;> rfl), by repeat (first | (with_reducible first | exact HB.out | apply below_alloc | apply pw_below_drewN | apply below_drew1) | exact HB.out)⟩
                  · rw [if_neg c47] at H
                    have c47b0 : (t188 == 0) = false := beq_eq_false_iff_ne.mpr c47
                    have c47b1 : (t188 != 0) = true := bne_iff_ne.mpr c47
                    obtain rfl := Option.some.inj H
                    go_wp2_with (first | (go_at_call 9; (with_reducible refine (lex_Fields.calls x6_2 t187 t188 _ A44.out).mono ?_); rintro e w50 ⟨v189, rfl, ho0, hb⟩; have n0_ := Aside0.mk (Kd.R_lower ho0 (below_size (by repeat (first | (with_reducible first | exact HB.out | apply below_alloc | apply pw_below_drewN | apply below_drew1) | exact HB.out)))); have n1_ := Aside0.mk (below_step (by repeat (first | (with_reducible first | exact HB.out | apply below_alloc | apply pw_below_drewN | apply below_drew1) | exact HB.out)) hb); clear HB; have HO190 := n0_; have HB := n1_; clear n0_ n1_; (try clear hb); (try clear hb2); (try clear hk); (try clear hi); (try clear ho0); obtain ⟨Ao51, co51, eo51⟩ := Kd.R_slice HO190.out; subst eo51) | (go_at_call 11; (with_reducible refine (complineref17_Same.calls k2 _ _ t187 _ _ l0 t191 _ ?side1 ?side2 ?side3 ?side4 A45.out).mono ?_); (case side1 => repeat (first | exact (Kd.R_reads' HO190.out).2.2 | (with_reducible refine Kd.C_alloc ?_ _) | (with_reducible refine Kd.C_drewN ?_ _) | (with_reducible refine Kd.C_drew ?_))); (case side2 => exact (Kd.R_reads' HO190.out).2.1); (case side3 => repeat (first | exact (Kd.C_below HR0.out HB.out) | (with_reducible refine Kd.C_alloc ?_ _) | (with_reducible refine Kd.C_drewN ?_ _) | (with_reducible refine Kd.C_drew ?_))); (case side4 => exact HC0.out); rintro e w' ⟨rfl, ⟨nd, rfl⟩⟩; (try first | exact ⟨rfl, _, World.drewN_drewN _ _ _⟩ | exact ⟨rfl, _, Eq.trans (World.drewN_drewN _ _ _) (congrArg (World.drewN _) (Nat.add_assoc _ _ _))⟩)))
                    repeat (go_quiet (first | (go_at_call 9; (with_reducible refine (lex_Fields.calls x6_2 t187 t188 _ A44.out).mono ?_); rintro e w50 ⟨v189, rfl, ho0, hb⟩; have n0_ := Aside0.mk (Kd.R_lower ho0 (below_size (by repeat (first | (with_reducible first | exact HB.out | apply below_alloc | apply pw_below_drewN | apply below_drew1) | exact HB.out)))); have n1_ := Aside0.mk (below_step (by repeat (first | (with_reducible first | exact HB.out | apply below_alloc | apply pw_below_drewN | apply below_drew1) | exact HB.out)) hb); clear HB; have HO190 := n0_; have HB := n1_; clear n0_ n1_; (try clear hb); (try clear hb2); (try clear hk); (try clear hi); (try clear ho0); obtain ⟨Ao51, co51, eo51⟩ := Kd.R_slice HO190.out; subst eo51) | (go_at_call 11; (with_reducible refine (complineref17_Same.calls k2 _ _ t187 _ _ l0 t191 _ ?side1 ?side2 ?side3 ?side4 A45.out).mono ?_); (case side1 => repeat (first | exact (Kd.R_reads' HO190.out).2.2 | (with_reducible refine Kd.C_alloc ?_ _) | (with_reducible refine Kd.C_drewN ?_ _) | (with_reducible refine Kd.C_drew ?_))); (case side2 => exact (Kd.R_reads' HO190.out).2.1); (case side3 => repeat (first | exact (Kd.C_below HR0.out HB.out) | (with_reducible refine Kd.C_alloc ?_ _) | (with_reducible refine Kd.C_drewN ?_ _) | (with_reducible refine Kd.C_drew ?_))); (case side4 => exact HC0.out); rintro e w' ⟨rfl, ⟨nd, rfl⟩⟩; (try first | exact ⟨rfl, _, World.drewN_drewN _ _ _⟩ | exact ⟨rfl, _, Eq.trans (World.drewN_drewN _ _ _) (congrArg (World.drewN _) (Nat.add_assoc _ _ _))⟩))); try go_wp2_with (first | (go_at_call 9; (with_reducible refine (lex_Fields.calls x6_2 t187 t188 _ A44.out).mono ?_); rintro e w50 ⟨v189, rfl, ho0, hb⟩; have n0_ := Aside0.mk (Kd.R_lower ho0 (below_size (by repeat (first | (with_reducible first | exact HB.out | apply below_alloc | apply pw_below_drewN | apply below_drew1) | exact HB.out)))); have n1_ := Aside0.mk (below_step (by repeat (first | (with_reducible first | exact HB.out | apply below_alloc | apply pw_below_drewN | apply below_drew1) | exact HB.out)) hb); clear HB; have HO190 := n0_; have HB := n1_; clear n0_ n1_; (try clear hb); (try clear hb2); (try clear hk); (try clear hi); (try clear ho0); obtain ⟨Ao51, co51, eo51⟩ := Kd.R_slice HO190.out; subst eo51) | (go_at_call 11; (with_reducible refine (complineref17_Same.calls k2 _ _ t187 _ _ l0 t191 _ ?side1 ?side2 ?side3 ?side4 A45.out).mono ?_); (case side1 => repeat (first | exact (Kd.R_reads' HO190.out).2.2 | (with_reducible refine Kd.C_alloc ?_ _) | (with_reducible refine Kd.C_drewN ?_ _) | (with_reducible refine Kd.C_drew ?_))); (case side2 => exact (Kd.R_reads' HO190.out).2.1); (case side3 => repeat (first | exact (Kd.C_below HR0.out HB.out) | (with_reducible refine Kd.C_alloc ?_ _) | (with_reducible refine Kd.C_drewN ?_ _) | (with_reducible refine Kd.C_drew ?_))); (case side4 => exact HC0.out); rintro e w' ⟨rfl, ⟨nd, rfl⟩⟩; (try first | exact ⟨rfl, _, World.drewN_drewN _ _ _⟩ | exact ⟨rfl, _, Eq.trans (World.drewN_drewN _ _ _) (congrArg (World.drewN _) (Nat.add_assoc _ _ _))⟩))))
                    go_ret
                    exact ⟨by first | rfl | (simp [errW_none, errW_some] <;> rfl) | (simp [*, errW_none, errW_some] <;> rfl), by repeat (first | (with_reducible first | exact HB.out | apply below_alloc | apply pw_below_drewN | apply below_drew1) | exact HB.out)⟩
                · exact absurd rfl c46
  · replace c4 := Bool.eq_false_iff.mpr c4
    subst c4
    have H1 : (some false) = some r := by rw [if_neg (show ¬ (false = true) by decide)] at H; exact H
    clear H
    have H := H1
    clear H1
    obtain rfl := Option.some.inj H
    go_enter Try.func5, Try.ntmps5
    go_wp2_with (first | (go_at_call 8; (with_reducible refine (complinelaw17_works.calls k  false _ A3.out).mono ?_); rintro e w54 ⟨rfl, hb⟩; have n0_ := Aside0.mk (below_step (by repeat (first | (with_reducible first | exact HB.out | apply below_alloc | apply pw_below_drewN | apply below_drew1) | exact HB.out)) hb); clear HB; have HB := n0_; clear n0_; (try clear hb); (try clear hb2); (try clear hk); (try clear hi)))
    repeat (go_quiet (first | (go_at_call 8; (with_reducible refine (complinelaw17_works.calls k  false _ A3.out).mono ?_); rintro e w54 ⟨rfl, hb⟩; have n0_ := Aside0.mk (below_step (by repeat (first | (with_reducible first | exact HB.out | apply below_alloc | apply pw_below_drewN | apply below_drew1) | exact HB.out)) hb); clear HB; have HB := n0_; clear n0_; (try clear hb); (try clear hb2); (try clear hk); (try clear hi))); try go_wp2_with (first | (go_at_call 8; (with_reducible refine (complinelaw17_works.calls k  false _ A3.out).mono ?_); rintro e w54 ⟨rfl, hb⟩; have n0_ := Aside0.mk (below_step (by repeat (first | (with_reducible first | exact HB.out | apply below_alloc | apply pw_below_drewN | apply below_drew1) | exact HB.out)) hb); clear HB; have HB := n0_; clear n0_; (try clear hb); (try clear hb2); (try clear hk); (try clear hi))))
    go_ret
    exact ⟨by first | rfl | (simp [errW_none, errW_some] <;> rfl) | (simp [*, errW_none, errW_some] <;> rfl), by repeat (first | (with_reducible first | exact HB.out | apply below_alloc | apply pw_below_drewN | apply below_drew1) | exact HB.out)⟩

end Go.Proofs.Ytgajipaenoepiaa.PLex
