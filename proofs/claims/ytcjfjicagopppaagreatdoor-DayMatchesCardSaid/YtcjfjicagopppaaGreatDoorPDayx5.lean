-- Written by a program of this session (gprint.py) over the kit's print.
import Derived.Test.YtcjfjicagopppaaGreatDoorPDayx0
import Derived.Test.YtcjfjicagopppaaGreatDoorPDayx2
import Derived.Test.YtcjfjicagopppaaGreatDoorPDayx3
import Derived.Test.YtcjfjicagopppaaGreatDoorPDayx4
namespace Go.Proofs.YtcjfjicagopppaaGreatDoor.PDay
open Go.RowKit Go.Proofs.YtcjfjicagopppaaGreatDoorW.PrintWords Go.Proofs.YtcjfjicagopppaaGreatDoorW.PrintLast Go.Proofs.YtcjfjicagopppaaGreatDoorW.PrintMore
attribute [local go_sem] max2_int min2_int max_two min_two max_three min_three max_four min_four   -- for this text's walks alone
set_option linter.unusedVariables false
set_option linter.unusedSimpArgs false

/-! ### day_Match: function 12 -/
def day_Match.f (a0_0 : Int) (a0_1 : Bool) (a0_2 : Int) (a0_3 : Bool) (a0_4 : Int) (a0_5 : Bool) (a0_6 : Int) (a0_7 : Bool) (a0_8 : Int) (a0_9 : Bool) (a1 : Int) : Option (Bool × Int) := if Dy.okS a0_0 a0_2 a0_4 a0_6 a0_8 = true then (day_odd.f a0_0 a0_1 a0_2 a0_3 a0_4 a0_5 a0_6 a0_7 a0_8 a0_9).bind fun o => some (Dy.match_ o a0_0 a0_2 a0_4 a0_5 a0_6 a0_8 a0_9 a1) else none
set_option maxHeartbeats 8000000 in
set_option maxRecDepth 100000 in
theorem day_Match.calls (a0_0 : Int) (a0_1 : Bool) (a0_2 : Int) (a0_3 : Bool) (a0_4 : Int) (a0_5 : Bool) (a0_6 : Int) (a0_7 : Bool) (a0_8 : Int) (a0_9 : Bool) (a1 : Int) (r1 : Bool) (r2 : Int) (w : World) (h : day_Match.f a0_0 a0_1 a0_2 a0_3 a0_4 a0_5 a0_6 a0_7 a0_8 a0_9 a1 = some (r1, r2)) :
  Calls Tryz.prog 12 #[.agg #[.int .u64 a0_0, .bool a0_1, .int .u64 a0_2, .bool a0_3, .int .u64 a0_4, .bool a0_5, .int .u64 a0_6, .bool a0_7, .int .u64 a0_8, .bool a0_9], .int .i64 a1] w fun e w' => e = .returned (.tuple #[.bool r1, .int .i64 r2]) ∧ Below w.heap.size w w' := by
 have hh : (if Dy.okS a0_0 a0_2 a0_4 a0_6 a0_8 = true then (day_odd.f a0_0 a0_1 a0_2 a0_3 a0_4 a0_5 a0_6 a0_7 a0_8 a0_9).bind fun o => some (Dy.match_ o a0_0 a0_2 a0_4 a0_5 a0_6 a0_8 a0_9 a1) else none) = some (r1, r2) := h
 clear h
 by_cases hok : Dy.okS a0_0 a0_2 a0_4 a0_6 a0_8 = true
 ·rw [if_pos hok] at hh
  obtain ⟨o, A, hm⟩ := Option.bind_eq_some_iff.1 hh
  obtain ⟨h0, h1, h2, h3, h4⟩ := of_decide_eq_true hok
  have k := Dy.match_top a0_0 a0_1 a0_2 a0_3 a0_4 a0_5 a0_6 a0_7 a0_8 a0_9 a1 o A w h0 h1 h2 h3 h4
  rw [Option.some.inj hm] at k
  exact k
 ·rw [if_neg hok] at hh
  cases hh

/-! ### day_Minutes: function 14 -/
def day_Minutes.f (a0_0 : Int) (a0_1 : Bool) (a0_2 : Int) (a0_3 : Bool) (a0_4 : Int) (a0_5 : Bool) (a0_6 : Int) (a0_7 : Bool) (a0_8 : Int) (a0_9 : Bool) : Option (Int × Int) := (day_odd.f a0_0 a0_1 a0_2 a0_3 a0_4 a0_5 a0_6 a0_7 a0_8 a0_9).bind fun o => if o = true then some (0, 2) else (field_Count.f a0_2 a0_3).bind fun h => (field_Count.f a0_0 a0_1).bind fun m => some (wrap64 (h * m), 0)
set_option maxHeartbeats 8000000 in
set_option maxRecDepth 100000 in
theorem day_Minutes.calls (a0_0 : Int) (a0_1 : Bool) (a0_2 : Int) (a0_3 : Bool) (a0_4 : Int) (a0_5 : Bool) (a0_6 : Int) (a0_7 : Bool) (a0_8 : Int) (a0_9 : Bool) (r1 : Int) (r2 : Int) (w : World) (h : day_Minutes.f a0_0 a0_1 a0_2 a0_3 a0_4 a0_5 a0_6 a0_7 a0_8 a0_9 = some (r1, r2)) :
  Calls Tryz.prog 14 #[.agg #[.int .u64 a0_0, .bool a0_1, .int .u64 a0_2, .bool a0_3, .int .u64 a0_4, .bool a0_5, .int .u64 a0_6, .bool a0_7, .int .u64 a0_8, .bool a0_9]] w fun e w' => e = .returned (.tuple #[.int .i64 r1, .int .i64 r2]) ∧ Below w.heap.size w w' := by
 have hh : ((day_odd.f a0_0 a0_1 a0_2 a0_3 a0_4 a0_5 a0_6 a0_7 a0_8 a0_9).bind fun o => if o = true then some (0, 2) else (field_Count.f a0_2 a0_3).bind fun h => (field_Count.f a0_0 a0_1).bind fun m => some (wrap64 (h * m), 0)) = some (r1, r2) := h
 clear h
 obtain ⟨o, A, hm⟩ := Option.bind_eq_some_iff.1 hh
 cases o with
 | true =>
  rw [if_pos rfl] at hm
  obtain ⟨rfl, rfl⟩ := Prod.mk.inj (Option.some.inj hm)
  exact Dy.minutes_bad a0_0 a0_1 a0_2 a0_3 a0_4 a0_5 a0_6 a0_7 a0_8 a0_9 A w
 | false =>
  rw [if_neg (by decide)] at hm
  obtain ⟨n1, A1, hm⟩ := Option.bind_eq_some_iff.1 hm
  obtain ⟨n0, A0, hm⟩ := Option.bind_eq_some_iff.1 hm
  have k := Dy.minutes_top a0_0 a0_1 a0_2 a0_3 a0_4 a0_5 a0_6 a0_7 a0_8 a0_9 n1 n0 A1 A0 false A w
  rw [if_neg (by decide), Option.some.inj hm] at k
  exact k

/-! ### lex_sign_blank: function 71 -/
def lex_sign_blank.f (a0 : Int) : Option (Bool) := if a0 = 32 then (some true) else (some (a0 == 9))
set_option maxHeartbeats 8000000 in
set_option maxRecDepth 100000 in
theorem lex_sign_blank.calls (a0 : Int) (r : Bool) (w : World) (h : lex_sign_blank.f a0 = some r) :
  Calls Tryz.prog 71 #[.int .i32 a0] w fun e w' => e = .returned (.bool r) ∧ Drawn0 w w' := by
 have H : (if a0 = 32 then (some true) else (some (a0 == 9))) = some r := h
 clear h
 by_cases c2 : a0 = 32
 ·rw [if_pos c2] at H
  have c2b0 : (a0 == 32) = true := beq_iff_eq.mpr c2
  have c2b1 : (a0 != 32) = false := bne_eq_false_iff_eq.mpr c2
  clear c2
  obtain rfl := Option.some.inj H
  go_enter Tryz.func71, Tryz.ntmps71
  go_wp2
  go_ret
  exact ⟨by first | rfl | (simp; done) | (simp [*]; done), by repeat (first | exact Drawn0.refl _ | apply Drawn0.step)⟩
 ·rw [if_neg c2] at H
  have c2b0 : (a0 == 32) = false := beq_eq_false_iff_ne.mpr c2
  have c2b1 : (a0 != 32) = true := bne_iff_ne.mpr c2
  obtain rfl := Option.some.inj H
  go_enter Tryz.func71, Tryz.ntmps71
  go_wp2
  go_ret
  exact ⟨by first | rfl | (simp; done) | (simp [*]; done), by repeat (first | exact Drawn0.refl _ | apply Drawn0.step)⟩

/-! ### lex_sign_digit: function 84 -/
def lex_sign_digit.f (a0 : Int) : Option (Bool) := if a0 ≥ 48 then (some (decide (a0 ≤ 57))) else (some false)
set_option maxHeartbeats 8000000 in
set_option maxRecDepth 100000 in
theorem lex_sign_digit.calls (a0 : Int) (r : Bool) (w : World) (h : lex_sign_digit.f a0 = some r) :
  Calls Tryz.prog 84 #[.int .i32 a0] w fun e w' => e = .returned (.bool r) ∧ Drawn0 w w' := by
 have H : (if a0 ≥ 48 then (some (decide (a0 ≤ 57))) else (some false)) = some r := h
 clear h
 by_cases c2 : a0 ≥ 48
 ·rw [if_pos c2] at H
  have c2b0 : decide (48 ≤ a0) = true := decide_eq_true c2
  clear c2
  obtain rfl := Option.some.inj H
  go_enter Tryz.func84, Tryz.ntmps84
  go_wp2
  go_ret
  exact ⟨by first | rfl | (simp; done) | (simp [*]; done), by repeat (first | exact Drawn0.refl _ | apply Drawn0.step)⟩
 ·rw [if_neg c2] at H
  have c2b0 : decide (48 ≤ a0) = false := decide_eq_false c2
  clear c2
  obtain rfl := Option.some.inj H
  go_enter Tryz.func84, Tryz.ntmps84
  go_wp2
  go_ret
  exact ⟨by first | rfl | (simp; done) | (simp [*]; done), by repeat (first | exact Drawn0.refl _ | apply Drawn0.step)⟩

/-! ### lex_sign_known: function 70 -/
mutual
def lex_sign_known.j1 : Nat → Int → Option (Bool)
 | 0, _ => none
 | k + 1, x0 => if x0 = 42 then (some true) else (if x0 = 44 then (some true) else (if x0 = 45 then (some true) else (if x0 = 47 then (some true) else (some false))))
def lex_sign_known.j0 : Nat → Int → Bool → Option (Bool)
 | 0, _, _ => none
 | k + 1, x0, x3 => if x3 = true then (some true) else (if x0 ≥ 65 then (if x0 ≤ 90 then (some true) else (lex_sign_known.j1 k x0)) else (lex_sign_known.j1 k x0))
end
def lex_sign_known.f (k : Nat) (a0 : Int) : Option (Bool) := (lex_sign_blank.f a0).bind fun t129 => (if t129 = true then (some true) else ((lex_sign_digit.f a0).bind fun t130 => (if t130 = true then (some true) else (if a0 ≥ 97 then (lex_sign_known.j0 k a0 (decide (a0 ≤ 122))) else (lex_sign_known.j0 k a0 false)))))
theorem lex_sign_known.mono_l : ∀ k, (∀ y0, LeO (lex_sign_known.j1 k y0) (lex_sign_known.j1 (k + 1) y0)) ∧ (∀ y0 y1, LeO (lex_sign_known.j0 k y0 y1) (lex_sign_known.j0 (k + 1) y0 y1))
 | 0 => ⟨fun _ r h => by simp [lex_sign_known.j1] at h, fun _ _ r h => by simp [lex_sign_known.j0] at h⟩
 | k + 1 => by
  obtain ⟨ih0, ih1⟩ := lex_sign_known.mono_l k
  refine ⟨?_, ?_⟩
  ·intro y0
   unfold lex_sign_known.j1
   repeat' first
   | (with_reducible exact ih0 _)
   | (with_reducible exact ih1 _ _)
   | (with_reducible exact LeO.refl _)
   | (with_reducible exact LeO.none _)
   | (with_reducible refine LeO.ite ?_ ?_)
   | (with_reducible refine LeO.bind ?_ (fun _ => ?_))
   | exact ih0 _
   | exact ih1 _ _
   | exact LeO.none _
   | refine LeO.ite ?_ ?_
   | refine LeO.bind ?_ (fun _ => ?_)
  ·intro y0 y1
   unfold lex_sign_known.j0
   repeat' first
   | (with_reducible exact ih0 _)
   | (with_reducible exact ih1 _ _)
   | (with_reducible exact LeO.refl _)
   | (with_reducible exact LeO.none _)
   | (with_reducible refine LeO.ite ?_ ?_)
   | (with_reducible refine LeO.bind ?_ (fun _ => ?_))
   | exact ih0 _
   | exact ih1 _ _
   | exact LeO.none _
   | refine LeO.ite ?_ ?_
   | refine LeO.bind ?_ (fun _ => ?_)
theorem lex_sign_known.mono : ∀ a0 k, LeO (lex_sign_known.f k a0) (lex_sign_known.f (k + 1) a0) := by
 intro a0 k
 obtain ⟨ih0, ih1⟩ := lex_sign_known.mono_l k
 unfold lex_sign_known.f
 repeat' first
   | (with_reducible exact ih0 _)
   | (with_reducible exact ih1 _ _)
   | (with_reducible exact LeO.refl _)
   | (with_reducible exact LeO.none _)
   | (with_reducible refine LeO.ite ?_ ?_)
   | (with_reducible refine LeO.bind ?_ (fun _ => ?_))
   | exact ih0 _
   | exact ih1 _ _
   | exact LeO.none _
   | refine LeO.ite ?_ ?_
   | refine LeO.bind ?_ (fun _ => ?_)
set_option maxHeartbeats 8000000 in
set_option maxRecDepth 100000 in
theorem lex_sign_known.calls (k : Nat) (a0 : Int) (r : Bool) (w : World) (h : lex_sign_known.f k a0 = some r) :
  Calls Tryz.prog 70 #[.int .i32 a0] w fun e w' => e = .returned (.bool r) ∧ Drawn0 w w' := by
 have H : ((lex_sign_blank.f a0).bind fun t129 => (if t129 = true then (some true) else ((lex_sign_digit.f a0).bind fun t130 => (if t130 = true then (some true) else (if a0 ≥ 97 then (lex_sign_known.j0 k a0 (decide (a0 ≤ 122))) else (lex_sign_known.j0 k a0 false)))))) = some r := h
 clear h
 have HC2 := Aside0.mk H
 clear H
 go_enter Tryz.func70, Tryz.ntmps70
 go_upto_block 0 with (fail)
 go_cut [] (fun wc => ∃ (kq : Nat), Aside0 (lex_sign_known.j1 kq a0 = some r) ∧ Aside0 (kq ≤ k) ∧ Drawn0 w wc)
 case first =>
  have H := HC2.out
  clear HC2
  replace H := Option.bind_eq_some_iff.mp H
  obtain ⟨t129, A30, H⟩ := H
  replace H : (if t129 = true then (some true) else ((lex_sign_digit.f a0).bind fun t130 => (if t130 = true then (some true) else (if a0 ≥ 97 then (lex_sign_known.j0 k a0 (decide (a0 ≤ 122))) else (lex_sign_known.j0 k a0 false))))) = some r := H
  have A3 := Aside0.mk A30
  clear A30
  by_cases c4 : t129 = true
  ·subst c4
   have H1 : (some true) = some r := by rw [if_pos rfl] at H; exact H
   clear H
   have H := H1
   clear H1
   obtain rfl := Option.some.inj H
   go_wp2_with (first | ((with_reducible refine gate_callee (f := 71) rfl ?_); refine goesL_ (some 5) rfl rfl Tryz.func71 (by kernel_rfl) rfl #[.int .i32 a0] rfl (by (try simp only [List.map_toArray, List.map_cons, List.map_nil]); first | done | rfl | (simp only [List.length_drop, List.length_take]; rfl)) ?_; (with_reducible refine (lex_sign_blank.calls a0 true _ A3.out).mono ?_); rintro e w' ⟨rfl, ⟨nd, rfl⟩⟩; refine ⟨_, rfl, ?_⟩))
   go_ret
   exact ⟨by first | rfl | (simp; done) | (simp [*]; done), by repeat (first | exact Drawn0.refl _ | apply Drawn0.step)⟩
  ·replace c4 := Bool.eq_false_iff.mpr c4
   subst c4
   have H1 : ((lex_sign_digit.f a0).bind fun t130 => (if t130 = true then (some true) else (if a0 ≥ 97 then (lex_sign_known.j0 k a0 (decide (a0 ≤ 122))) else (lex_sign_known.j0 k a0 false)))) = some r := by rw [if_neg (show ¬ (false = true) by decide)] at H; exact H
   clear H
   have H := H1
   clear H1
   replace H := Option.bind_eq_some_iff.mp H
   obtain ⟨t130, A50, H⟩ := H
   replace H : (if t130 = true then (some true) else (if a0 ≥ 97 then (lex_sign_known.j0 k a0 (decide (a0 ≤ 122))) else (lex_sign_known.j0 k a0 false))) = some r := H
   have A5 := Aside0.mk A50
   clear A50
   by_cases c6 : t130 = true
   ·subst c6
    have H1 : (some true) = some r := by rw [if_pos rfl] at H; exact H
    clear H
    have H := H1
    clear H1
    obtain rfl := Option.some.inj H
    go_wp2_with (first | ((with_reducible refine gate_callee (f := 71) rfl ?_); refine goesL_ (some 5) rfl rfl Tryz.func71 (by kernel_rfl) rfl #[.int .i32 a0] rfl (by (try simp only [List.map_toArray, List.map_cons, List.map_nil]); first | done | rfl | (simp only [List.length_drop, List.length_take]; rfl)) ?_; (with_reducible refine (lex_sign_blank.calls a0 false _ A3.out).mono ?_); rintro e w' ⟨rfl, ⟨nd, rfl⟩⟩; refine ⟨_, rfl, ?_⟩) | ((with_reducible refine gate_callee (f := 84) rfl ?_); refine goesL_ (some 7) rfl rfl Tryz.func84 (by kernel_rfl) rfl #[.int .i32 a0] rfl (by (try simp only [List.map_toArray, List.map_cons, List.map_nil]); first | done | rfl | (simp only [List.length_drop, List.length_take]; rfl)) ?_; (with_reducible refine (lex_sign_digit.calls a0 true _ A5.out).mono ?_); rintro e w' ⟨rfl, ⟨nd, rfl⟩⟩; refine ⟨_, rfl, ?_⟩))
    go_ret
    exact ⟨by first | rfl | (simp; done) | (simp [*]; done), by repeat (first | exact Drawn0.refl _ | apply Drawn0.step)⟩
   ·replace c6 := Bool.eq_false_iff.mpr c6
    subst c6
    have H1 : (if a0 ≥ 97 then (lex_sign_known.j0 k a0 (decide (a0 ≤ 122))) else (lex_sign_known.j0 k a0 false)) = some r := by rw [if_neg (show ¬ (false = true) by decide)] at H; exact H
    clear H
    have H := H1
    clear H1
    have HC7 := Aside0.mk H
    clear H
    go_upto_region 3 with (first | ((with_reducible refine gate_callee (f := 71) rfl ?_); refine goesL_ (some 5) rfl rfl Tryz.func71 (by kernel_rfl) rfl #[.int .i32 a0] rfl (by (try simp only [List.map_toArray, List.map_cons, List.map_nil]); first | done | rfl | (simp only [List.length_drop, List.length_take]; rfl)) ?_; (with_reducible refine (lex_sign_blank.calls a0 false _ A3.out).mono ?_); rintro e w' ⟨rfl, ⟨nd, rfl⟩⟩; refine ⟨_, rfl, ?_⟩) | ((with_reducible refine gate_callee (f := 84) rfl ?_); refine goesL_ (some 7) rfl rfl Tryz.func84 (by kernel_rfl) rfl #[.int .i32 a0] rfl (by (try simp only [List.map_toArray, List.map_cons, List.map_nil]); first | done | rfl | (simp only [List.length_drop, List.length_take]; rfl)) ?_; (with_reducible refine (lex_sign_digit.calls a0 false _ A5.out).mono ?_); rintro e w' ⟨rfl, ⟨nd, rfl⟩⟩; refine ⟨_, rfl, ?_⟩))
    (try simp only [Act.put, List.setIfInBounds_toArray, List.set_cons_zero, List.set_cons_succ])
    go_cut [3] (fun v3 wc => ∃ (kq : Nat) (x3_6 : Bool), v3 = .bool x3_6 ∧ Aside0 (lex_sign_known.j0 kq a0 x3_6 = some r) ∧ Aside0 (kq ≤ k) ∧ Drawn0 w wc)
    case first =>
     have H := HC7.out
     clear HC7
     by_cases c8 : a0 ≥ 97
     ·rw [if_pos c8] at H
      have c8b0 : decide (97 ≤ a0) = true := decide_eq_true c8
      clear c8
      (first | rw [c8b0] | (simp only [i64_w, i32_w]; rw [c8b0]) | skip)
      have H' := Aside0.mk H
      clear H
      go_wp2
      go_meet
      case rel => exact ⟨_, (decide (a0 ≤ 122)), (by first | rfl | (simp; done) | (simp [*]; done)), H', ⟨by first | omega | exact Nat.le_refl _⟩, by repeat (first | exact Drawn0.refl _ | apply Drawn0.step)⟩
     ·rw [if_neg c8] at H
      have c8b0 : decide (97 ≤ a0) = false := decide_eq_false c8
      clear c8
      (first | rw [c8b0] | (simp only [i64_w, i32_w]; rw [c8b0]) | skip)
      have H' := Aside0.mk H
      clear H
      go_wp2
      go_meet
      case rel => exact ⟨_, (false), (by first | rfl | (simp; done) | (simp [*]; done)), H', ⟨by first | omega | exact Nat.le_refl _⟩, by repeat (first | exact Drawn0.refl _ | apply Drawn0.step)⟩
    case rest =>
     clear HC7
     try clear p2
     try clear c4
     try clear c6
     try clear c7
     try clear c8
     try clear c8b0
     obtain ⟨kq, x3_6, rfl, HA, HJ6, ⟨mc6, rfl⟩⟩ := hcut
     cases kq with
     | zero => exact absurd HA.out (by simp [lex_sign_known.j0])
     | succ kj6 =>
      have H := HA.out
      clear HA
      simp only [lex_sign_known.j0] at H
      by_cases c9 : x3_6 = true
      ·subst c9
       have H1 : (some true) = some r := by rw [if_pos rfl] at H; exact H
       clear H
       have H := H1
       clear H1
       obtain rfl := Option.some.inj H
       go_wp2
       go_ret
       exact ⟨by first | rfl | (simp; done) | (simp [*]; done), by repeat (first | exact Drawn0.refl _ | apply Drawn0.step)⟩
      ·replace c9 := Bool.eq_false_iff.mpr c9
       subst c9
       have H1 : (if a0 ≥ 65 then (if a0 ≤ 90 then (some true) else (lex_sign_known.j1 kj6 a0)) else (lex_sign_known.j1 kj6 a0)) = some r := by rw [if_neg (show ¬ (false = true) by decide)] at H; exact H
       clear H
       have H := H1
       clear H1
       by_cases c10 : a0 ≥ 65
       ·rw [if_pos c10] at H
        have c10b0 : decide (65 ≤ a0) = true := decide_eq_true c10
        clear c10
        by_cases c11 : a0 ≤ 90
        ·rw [if_pos c11] at H
         have c11b0 : decide (a0 ≤ 90) = true := decide_eq_true c11
         clear c11
         obtain rfl := Option.some.inj H
         go_wp2
         go_ret
         exact ⟨by first | rfl | (simp; done) | (simp [*]; done), by repeat (first | exact Drawn0.refl _ | apply Drawn0.step)⟩
        ·rw [if_neg c11] at H
         have c11b0 : decide (a0 ≤ 90) = false := decide_eq_false c11
         clear c11
         have H' := Aside0.mk H
         clear H
         go_wp2
         go_meet
         case rel => exact ⟨_, H', ⟨by have := HJ6.out; first | omega | exact Nat.le_refl _⟩, by repeat (first | exact Drawn0.refl _ | apply Drawn0.step)⟩
       ·rw [if_neg c10] at H
        have c10b0 : decide (65 ≤ a0) = false := decide_eq_false c10
        clear c10
        have H' := Aside0.mk H
        clear H
        go_wp2
        go_meet
        case rel => exact ⟨_, H', ⟨by have := HJ6.out; first | omega | exact Nat.le_refl _⟩, by repeat (first | exact Drawn0.refl _ | apply Drawn0.step)⟩
 case rest =>
  clear HC2
  try clear c1
  try clear p2
  try clear c4
  try clear c6
  try clear c7
  try clear c8
  try clear c8b0
  try clear c9
  try clear c10
  try clear c10b0
  try clear c11
  try clear c11b0
  try clear p2
  obtain ⟨kq, HA, HJ1, ⟨mc1, rfl⟩⟩ := hcut
  cases kq with
  | zero => exact absurd HA.out (by simp [lex_sign_known.j1])
  | succ kj1 =>
   have H := HA.out
   clear HA
   simp only [lex_sign_known.j1] at H
   by_cases c12 : a0 = 42
   ·rw [if_pos c12] at H
    have c12b0 : (a0 == 42) = true := beq_iff_eq.mpr c12
    have c12b1 : (a0 != 42) = false := bne_eq_false_iff_eq.mpr c12
    clear c12
    obtain rfl := Option.some.inj H
    go_wp2
    go_ret
    exact ⟨by first | rfl | (simp; done) | (simp [*]; done), by repeat (first | exact Drawn0.refl _ | apply Drawn0.step)⟩
   ·rw [if_neg c12] at H
    have c12b0 : (a0 == 42) = false := beq_eq_false_iff_ne.mpr c12
    have c12b1 : (a0 != 42) = true := bne_iff_ne.mpr c12
    by_cases c13 : a0 = 44
    ·rw [if_pos c13] at H
     have c13b0 : (a0 == 44) = true := beq_iff_eq.mpr c13
     have c13b1 : (a0 != 44) = false := bne_eq_false_iff_eq.mpr c13
     clear c13
     obtain rfl := Option.some.inj H
     go_wp2
     go_ret
     exact ⟨by first | rfl | (simp; done) | (simp [*]; done), by repeat (first | exact Drawn0.refl _ | apply Drawn0.step)⟩
    ·rw [if_neg c13] at H
     have c13b0 : (a0 == 44) = false := beq_eq_false_iff_ne.mpr c13
     have c13b1 : (a0 != 44) = true := bne_iff_ne.mpr c13
     by_cases c14 : a0 = 45
     ·rw [if_pos c14] at H
      have c14b0 : (a0 == 45) = true := beq_iff_eq.mpr c14
      have c14b1 : (a0 != 45) = false := bne_eq_false_iff_eq.mpr c14
      clear c14
      obtain rfl := Option.some.inj H
      go_wp2
      go_ret
      exact ⟨by first | rfl | (simp; done) | (simp [*]; done), by repeat (first | exact Drawn0.refl _ | apply Drawn0.step)⟩
     ·rw [if_neg c14] at H
      have c14b0 : (a0 == 45) = false := beq_eq_false_iff_ne.mpr c14
      have c14b1 : (a0 != 45) = true := bne_iff_ne.mpr c14
      by_cases c15 : a0 = 47
      ·rw [if_pos c15] at H
       have c15b0 : (a0 == 47) = true := beq_iff_eq.mpr c15
       have c15b1 : (a0 != 47) = false := bne_eq_false_iff_eq.mpr c15
       clear c15
       obtain rfl := Option.some.inj H
       go_wp2
       go_ret
       exact ⟨by first | rfl | (simp; done) | (simp [*]; done), by repeat (first | exact Drawn0.refl _ | apply Drawn0.step)⟩
      ·rw [if_neg c15] at H
       have c15b0 : (a0 == 47) = false := beq_eq_false_iff_ne.mpr c15
       have c15b1 : (a0 != 47) = true := bne_iff_ne.mpr c15
       obtain rfl := Option.some.inj H
       go_wp2
       go_ret
       exact ⟨by first | rfl | (simp; done) | (simp [*]; done), by repeat (first | exact Drawn0.refl _ | apply Drawn0.step)⟩

/-! ### lex_Fields: function 46 -/
/-! This session's own: words for the walks of lex. -/
/-- What a string's byte says of the rune that begins there. -/
theorem Lex.rune_at (s : ByteArray) (pos : Nat) (h : pos < s.size) :
  ((s[pos]'h).toNat < 128 ∧ Utf8.decode s pos = ((s[pos]'h).toNat, 1)) ∨ (128 ≤ (s[pos]'h).toNat ∧ 128 ≤ (Utf8.decode s pos).1) := by
 by_cases ha : (s[pos]'h).toNat < 128
 ·exact .inl ⟨ha, decode_ascii s pos h ha⟩
 ·refine .inr ⟨by omega, ?_⟩
  have hb : (s.get! (pos + 0)).toNat = (s[pos]'h).toNat := by
   have e : s.get! pos = s[pos]'h := by
    show s.data[pos]! = s.data[pos]'h
    exact getElem!_pos s.data pos h
   rw [Nat.add_zero, e]
  unfold Utf8.decode
  simp only [hb]
  rw [if_neg (by omega)]
  repeat' split
  all_goals first | decide | (simp only [Bool.and_eq_true, decide_eq_true_eq] at *; omega)
theorem Lex.below_it {w W : World} {B k : Nat} (h : Below B w W) (hk : B ≤ k) (s : ByteArray) (pos : Nat) : Below B w (W.iterAt k s pos) := Lib.below_iterAt h hk s pos
theorem Lex.ret2 {x : Int × Int} {a b : Int} (h : x = (a, b)) : Ending.returned (.tuple #[.int .i64 a, .int .i64 b]) = .returned (.tuple #[.int .i64 x.1, .int .i64 x.2]) := by rw [h]
theorem Lex.ret2' {x : Int × Int} {a b a' b' : Int} (ha : a' = a) (hb : b' = b) (h : x = (a, b)) : Ending.returned (.tuple #[.int .i64 a', .int .i64 b']) = .returned (.tuple #[.int .i64 x.1, .int .i64 x.2]) := by rw [h, ha, hb]
theorem Lex.behind {w W w' : World} (hb : Below W.heap.size W w') (hs : w.heap.size ≤ W.heap.size) (h : Below w.heap.size w W) : Below w.heap.size w w' := h.trans (hb.mono hs)
theorem Lex.slice_run (nm : ByteArray) (pos : Nat) (h : pos + 3 ≤ nm.size) (W : World) : (Instr.slice 9 (.string nm) (some (.int .i64 (pos : Int))) (some (.int .i64 ((pos : Int) + 3))) none).run Tryz.prog W = .ok (.string (nm.extract pos (pos + 3))) W := by
 have m4 : (pos : Int) + 3 ≤ (nm.size : Int) := by omega
 have m5 : ((pos : Int) + 3).toNat = pos + 3 := by omega
 have m6 : 0 ≤ (pos : Int) + 3 := by omega
 have hu := run_underlying Tryz.underlying9
 simp [Instr.slice, Instr.sliceBounds, Instr.sliceBound, hu, go_sem, m4, m5, m6]
theorem Lex.index0 (s : ByteArray) (h : 0 < s.size) (W : World) : (Instr.index 9 (.string s) (.int .i64 0)).run Tryz.prog W = .ok (.int .u8 (bt s 0)) W := by
 have hu := run_underlying Tryz.underlying9
 have e : s[0]? = some (s[0]'h) := getElem?_pos s 0 h
 have hb := bt_at s 0 (by simpa using h)
 simp only [Int.toNat_zero] at hb
 simp [Instr.index, hu, go_sem, e, hb]
theorem Lex.empty_yes {s : ByteArray} (h : s.size = 0) : s.toList.isEmpty = true := by
 rw [ByteArray.toList_eq]
 have : s.data.toList.length = s.size := by rw [Array.length_toList]; rfl
 cases hl : s.data.toList with
 | nil => rfl
 | cons _ _ => rw [hl, h] at this; simp at this
theorem Lex.empty_no {s : ByteArray} (h : ¬ s.size = 0) : s.toList.isEmpty = false := by
  rw [ByteArray.toList_eq]
  cases hl : s.data.toList with
  | nil => have : s.data.toList.length = s.size := by rw [Array.length_toList]; rfl
           rw [hl] at this; exact absurd this.symm h
  | cons _ _ => rfl
def Lex.lays229_ren : Go.Shelf.Ren := ⟨fun | 229 => 72 | n => n, fun | 9 => 9 | 40 => 90 | 31 => 74 | 152 => 103 | 3 => 3 | 0 => 0 | 4 => 4 | 21 => 21 | 154 => 105 | n => n, fun | n => n⟩
theorem Lex.lays229 : Go.Proofs.Lays.n229 Tryz.prog Lex.lays229_ren := {
 mixed := by kernel_rfl
 f229 := Tryz.func72.trans (congrArg some (by kernel_rfl))
 t0 := Tryz.underlying0
 a0 := Tryz.isAgg0
 z0 := Tryz.sizeOf0
 v0 := Tryz.zeroValue0
 t3 := Tryz.underlying3
 a3 := Tryz.isAgg3
 z3 := Tryz.sizeOf3
 v3 := Tryz.zeroValue3
 t4 := Tryz.underlying4
 a4 := Tryz.isAgg4
 z4 := Tryz.sizeOf4
 v4 := Tryz.zeroValue4
 t9 := Tryz.underlying9
 a9 := Tryz.isAgg9
 z9 := Tryz.sizeOf9
 v9 := Tryz.zeroValue9
 t21 := Tryz.underlying21
 a21 := Tryz.isAgg21
 z21 := Tryz.sizeOf21
 v21 := Tryz.zeroValue21
 t31 := Tryz.underlying74
 a31 := Tryz.isAgg74
 z31 := Tryz.sizeOf74
 v31 := Tryz.zeroValue74
 t40 := Tryz.underlying90
 a40 := Tryz.isAgg90
 z40 := Tryz.sizeOf90
 v40 := Tryz.zeroValue90
 t152 := Tryz.underlying103
 a152 := Tryz.isAgg103
 z152 := Tryz.sizeOf103
 v152 := Tryz.zeroValue103
 t154 := Tryz.underlying105
 a154 := Tryz.isAgg105
 z154 := Tryz.sizeOf105
 v154 := Tryz.zeroValue105 }
theorem Lex.strings_FieldsFunc_runes (g : Nat) (lb : Array Value) (eg : ∀ args w, (callFunc g args).run Tryz.prog w = .ok (.enter g args) w) (p : Nat → Bool) (s : ByteArray) (w : World) (hs : s.size ≤ 4294967296) (hp : PredAtRunes Tryz.prog g lb p w) :
  Calls Tryz.prog 72 #[.string s, .func (.func g) #[] lb] w fun e w' => ∃ A, e = .returned (.slice (some ⟨A, 0, none⟩) (Lib.goFieldsP p s).length (Lib.goFieldsP p s).length) ∧ w.heap.size ≤ A ∧
   w'.ownsRow w.heap.size 9 1 (.slice (some ⟨A, 0, none⟩) (Lib.goFieldsP p s).length (Lib.goFieldsP p s).length) (Lib.goFieldsP p s).length ((Lib.goFieldsP p s).map Value.string) ∧ Below w.heap.size w w' := Any.strings_FieldsFunc_runes Lex.lays229 g lb eg p s w hs hp (by kernel_rfl) (by kernel_rfl)

/-! This session's own: lex.Fields. -/
def Lex.blankN (x : Nat) : Bool := x == 32 || x == 9
def Lex.knownI (c : Int) : Bool := decide (c = 32) || decide (c = 9) || (decide (48 ≤ c) && decide (c ≤ 57)) || (decide (97 ≤ c) && decide (c ≤ 122)) || (decide (65 ≤ c) && decide (c ≤ 90)) || decide (c = 42) || decide (c = 44) || decide (c = 45) || decide (c = 47)
def Lex.knownAll (l : List UInt8) : Bool := l.all fun b => Lex.knownI b.toNat
def Lex.fields (s : ByteArray) : List ByteArray × Int :=
 if 256 < s.size then ([], 3) else if Lex.knownAll s.data.toList = false then ([], 2) else if (Lib.goFieldsP Lex.blankN s).length ≠ 5 then ([], 2) else (Lib.goFieldsP Lex.blankN s, 0)
theorem Lex.known_j1 (c : Int) (k : Nat) : lex_sign_known.j1 (k + 1) c = some (decide (c = 42) || decide (c = 44) || decide (c = 45) || decide (c = 47)) := by
 simp only [lex_sign_known.j1]
 by_cases h1 : c = 42
 ·simp [h1]
 by_cases h2 : c = 44
 ·simp [h2]
 by_cases h3 : c = 45
 ·simp [h3]
 by_cases h4 : c = 47
 ·simp [h4]
 simp [h1, h2, h3, h4]
theorem Lex.known_j (c : Int) (k : Nat) (b : Bool) : lex_sign_known.j0 (k + 1 + 1) c b = some (b || (decide (65 ≤ c) && decide (c ≤ 90)) || (decide (c = 42) || decide (c = 44) || decide (c = 45) || decide (c = 47))) := by
 simp only [lex_sign_known.j0, Lex.known_j1]
 cases b
 ·by_cases h1 : c ≥ 65
  ·by_cases h2 : c ≤ 90
   ·simp [h1, h2]
   ·simp [h1, h2]
  ·simp [h1]
 ·simp
theorem Lex.known_f (c : Int) (k : Nat) (hk : 4 ≤ k) : lex_sign_known.f k c = some (Lex.knownI c) := by
 obtain ⟨k, rfl⟩ : ∃ j, k = j + 1 + 1 := ⟨k - 2, by omega⟩
 unfold lex_sign_known.f lex_sign_blank.f lex_sign_digit.f Lex.knownI
 rw [Lex.known_j, Lex.known_j]
 by_cases h1 : c = 32
 ·simp [h1]
 by_cases h2 : c = 9
 ·simp [h2]
 have h2' : (c == 9) = false := by simpa using h2
 by_cases h3 : c ≥ 48
 ·by_cases h4 : c ≤ 57
  ·simp [h1, h2', h3, h4]
  ·by_cases h5 : c ≥ 97
   ·simp [h1, h2, h2', h3, h4, h5, Bool.or_assoc]
   ·simp [h1, h2, h2', h3, h4, h5, Bool.or_assoc]
 ·have h5 : ¬ c ≥ 97 := by omega
  simp [h1, h2, h2', h3, h5, Bool.or_assoc]
theorem Lex.knownAll_drop (s : ByteArray) (pos : Nat) (h : pos < s.size) : Lex.knownAll (s.data.toList.drop pos) = (Lex.knownI (s[pos]'h).toNat && Lex.knownAll (s.data.toList.drop (pos + 1))) := by
 rw [show s.data.toList.drop pos = (s[pos]'h) :: s.data.toList.drop (pos + 1) by rw [List.drop_eq_getElem_cons (by simpa using h)]; rfl]
 rfl
theorem Lex.known_big {c : Nat} (h : 128 ≤ c) : Lex.knownI c = false := by
 unfold Lex.knownI
 simp only [Bool.or_eq_false_iff, Bool.and_eq_false_iff, decide_eq_false_iff_not]
 omega
theorem Lex.blank_f (x : Nat) : lex_sign_blank.f (x : Int) = some (Lex.blankN x) := by
 unfold lex_sign_blank.f Lex.blankN
 by_cases h : (x : Int) = 32
 ·rw [if_pos h]; have : x = 32 := by omega
  subst this; rfl
 ·rw [if_neg h]; have : (x == 32) = false := by simp; omega
  rw [this]; congr 1
  by_cases h9 : x = 9
  ·subst h9; rfl
  ·have h1 : (x == 9) = false := by simpa using h9
   have h2 : ((x : Int) == 9) = false := by simp; omega
   rw [h1, h2]; rfl
set_option maxHeartbeats 8000000 in
set_option maxRecDepth 100000 in
theorem between_pays (w : World) (B : Nat) (hB : B < w.heap.size) (hc : w.cell? ⟨B, 0, none⟩ = some (.func (.func 71) #[] #[])) : PredAtRunes Tryz.prog 73 #[.pointer (some ⟨B, 0, none⟩)] Lex.blankN w := by
 intro W x _ hb
 have hc' := (hb.cell (p := ⟨B, 0, none⟩) hB).trans hc
 have hx := Lib.hid (Lex.blank_f x)
 unfold FnGives
 clear hc hb
 go_enter Tryz.func73, Tryz.ntmps73
 go_wp2_with (go_at_call 71; refine (lex_sign_blank.calls _ _ _ hx.out).mono ?_; rintro e w' ⟨rfl, ⟨nd, rfl⟩⟩)
 go_ret
 exact ⟨rfl, _, rfl⟩
set_option maxHeartbeats 8000000 in
set_option maxRecDepth 100000 in
theorem fields_calls (s : ByteArray) (w : World) (h1 : s.size ≤ 256) :
  Calls Tryz.prog 46 #[.string s] w fun e w' => ∃ v0_ : Value, e = .returned (.tuple #[v0_, .int .i64 (Lex.fields s).2]) ∧ Kd.R Kd.string 9 w' w.heap.size (fun _ => True) v0_ (Lex.fields s).1 ∧ Below w.heap.size w w' := by
 have e2 : decide (256 < (s.size : Int)) = false := decide_eq_false (by omega)
 have e3 : decide (256 < s.size) = false := decide_eq_false (by omega)
 have HF : Hid (Lex.fields s = if Lex.knownAll s.data.toList = false then ([], 2) else if (Lib.goFieldsP Lex.blankN s).length ≠ 5 then ([], 2) else (Lib.goFieldsP Lex.blankN s, 0)) := Lib.hid (by unfold Lex.fields; rw [if_neg (by omega)])
 obtain ⟨X, hX⟩ : ∃ X, Lex.fields s = X := ⟨_, rfl⟩
 rw [hX] at HF ⊢
 clear hX
 go_enter Tryz.func46, Tryz.ntmps46
 go_wp2
 go_loopg [5] s.size (fun gf _ wr => ∃ (pos : Nat), pos + gf = s.size ∧ Hid (Lex.knownAll s.data.toList = Lex.knownAll (s.data.toList.drop pos)) ∧
   wr.heap[w.heap.size]? = some (.stringIter s pos) ∧ Below w.heap.size w wr)
 case atStart =>
  exact ⟨0, by omega, Lib.hid rfl, World.iter_heap w s 0, (Below.refl _ _).alloc (Nat.le_refl _) _⟩
 case round =>
  obtain ⟨pos, hg, hK, hit, hb⟩ := hrel
  by_cases hlt : pos < s.size
  ·obtain ⟨g', rfl⟩ : ∃ g', gk = g' + 1 := ⟨gk - 1, by omega⟩
   have hnx : ∀ ty, (Instr.next (.pointer (some ⟨w.heap.size, 0, none⟩)) true ty).run Tryz.prog wr = _ := fun ty => Lib.run_next_any_at wr w.heap.size s pos ty hit hlt
   have hr := Lex.rune_at s pos hlt
   have hk := hK.out
   rw [Lex.knownAll_drop s pos hlt] at hk
   replace hK := Lib.hid hk
   clear hk
   obtain ⟨R, hR⟩ : ∃ R, (Utf8.decode s pos).1 = R := ⟨_, rfl⟩
   obtain ⟨K, hKK⟩ : ∃ K, (Utf8.decode s pos).2 = K := ⟨_, rfl⟩
   have hit2 := Lib.iterAt_heap wr w.heap.size s pos (pos + K) hit
   have hb2 := Lex.below_it hb (k := w.heap.size) (Nat.le_refl _) s (pos + K)
   obtain ⟨W, hW⟩ : ∃ W, wr.iterAt w.heap.size s (pos + K) = W := ⟨_, rfl⟩
   rw [hR, hKK, hW] at hnx
   rw [hW] at hb2 hit2
   replace hW := Lib.hid hW
   clear hit hb
   by_cases hkn : Lex.knownI (s[pos]'hlt).toNat = true
   ·have hd : Utf8.decode s pos = ((s[pos]'hlt).toNat, 1) := by
     rcases hr with ⟨_, h⟩ | ⟨h, _⟩
     ·exact h
     ·rw [Lex.known_big h] at hkn; simp at hkn
    rw [hd] at hR hKK
    have hcall : Hid (lex_sign_known.f 4 (R : Int) = some true) := Lib.hid (by rw [Lex.known_f _ _ (by omega), ← hR]; exact congrArg some hkn)
    have hk2 := hK.out
    rw [hkn, Bool.true_and] at hk2
    replace hK := Lib.hid hk2
    have hK1 : K = 1 := hKK.symm
    subst hK1
    clear hk2 hd hr
    replace hR := Lib.hid hR
    replace hkn := Lib.hid hkn
    go_wp2_with (go_at_call 70; refine (lex_sign_known.calls 4 _ _ _ hcall.out).mono ?_; rintro e w' ⟨rfl, ⟨nd, rfl⟩⟩)
    go_roundg g'
    case measure => omega
    case rel => exact ⟨pos + 1, by omega, hK, hit2, pw_below_drewN hb2 _⟩
   ·have hkn' : Lex.knownI (s[pos]'hlt).toNat = false := by simpa using hkn
    have hall := hK.out
    rw [hkn', Bool.false_and] at hall
    have hv : X = ([], 2) := by rw [HF.out, if_pos hall]
    have hcall : Hid (lex_sign_known.f 4 (R : Int) = some false) := by
     refine Lib.hid ?_
     rw [Lex.known_f _ _ (by omega)]
     rcases hr with ⟨hl, h⟩ | ⟨h, h'⟩
     ·rw [h] at hR; rw [← hR]; exact congrArg some hkn'
     ·rw [hR] at h'; rw [Lex.known_big h']
    replace hR := Lib.hid hR; replace hKK := Lib.hid hKK
    replace hv := Lib.hid hv
    clear hall hkn hkn' hr hit2
    go_wp2_with (go_at_call 70; refine (lex_sign_known.calls 4 _ _ _ hcall.out).mono ?_; rintro e w' ⟨rfl, ⟨nd, rfl⟩⟩)
    go_ret2
    refine ⟨.slice none 0 0, ?_, ?_, pw_below_drewN hb2 _⟩
    ·rw [hv.out]; rfl
    ·rw [hv.out]; exact Kd.R_nil _ _ _ _ _
  ·have hpos : pos = s.size := by omega
   have hnx : ∀ ty, (Instr.next (.pointer (some ⟨w.heap.size, 0, none⟩)) true ty).run Tryz.prog wr = _ := fun ty => Lib.run_next_end_at wr w.heap.size s pos ty hit hlt
   have hk := hK.out
   rw [hpos, List.drop_of_length_le (by simp)] at hk
   have HF2 := HF.out
   rw [hk, if_neg (by simp [Lex.knownAll])] at HF2
   replace HF := Lib.hid HF2
   have hszw := hb.size
   have hC : Hid (∀ (W : World) (B : Nat), B < W.heap.size → W.cell? ⟨B, 0, none⟩ = some (.func (.func 71) #[] #[]) → _) := Lib.hid (fun W B h1 h2 => Lex.strings_FieldsFunc_runes 73 #[.pointer (some ⟨B, 0, none⟩)] (enters_of Tryz.func73 (by kernel_rfl) rfl) Lex.blankN s W (by omega) (between_pays W B h1 h2))
   replace hpos := Lib.hid hpos
   clear hk HF2 hK hit
   obtain ⟨L, hL⟩ : ∃ L, Lib.goFieldsP Lex.blankN s = L := ⟨_, rfl⟩
   rw [hL] at hC HF
   replace hL := Lib.hid hL
   by_cases h5 : L.length = 5
   ·have hv : Hid (X = (L, 0)) := Lib.hid (by rw [HF.out, if_neg (by omega)])
    have q1 : ((L.length : Int) != 5) = false := by simp [h5]
    have q2 : (L.length != 5) = false := by simp [h5]
    replace h5 := Lib.hid h5
    go_wp2_with (go_at_call 72; refine (hC.out _ _ (by simp) (by go_simp)).mono ?_; rintro e w' ⟨A, rfl, hA, hown, hbw⟩)
    go_ret2
    refine ⟨_, by rw [hv.out]; rfl, ?_, ?_⟩
    ·rw [hv.out]
     exact Kd.R_lower (Kd.R_of_own hown (fun _ _ => trivial)) (by simp; omega)
    ·exact Lex.behind hbw (by simp; omega) (hb.alloc hszw _)
   ·have hv : Hid (X = ([], 2)) := Lib.hid (by rw [HF.out, if_pos h5])
    have q1 : ((L.length : Int) != 5) = true := by simp; omega
    have q2 : (L.length != 5) = true := by simpa using h5
    replace h5 := Lib.hid h5
    go_wp2_with (go_at_call 72; refine (hC.out _ _ (by simp) (by go_simp)).mono ?_; rintro e w' ⟨A, rfl, hA, hown, hbw⟩)
    go_ret2
    refine ⟨.slice none 0 0, by rw [hv.out]; rfl, ?_, ?_⟩
    ·rw [hv.out]; exact Kd.R_nil _ _ _ _ _
    ·exact Lex.behind hbw (by simp; omega) (hb.alloc hszw _)
def lex_Fields.f (a0 : ByteArray) : Option (List ByteArray × Int) := some (Lex.fields a0)
set_option maxHeartbeats 8000000 in
set_option maxRecDepth 100000 in
theorem lex_Fields.calls (a0 : ByteArray) (r1 : List ByteArray) (r2 : Int) (w : World) (h : lex_Fields.f a0 = some (r1, r2)) :
  Calls Tryz.prog 46 #[.string a0] w fun e w' => ∃ v0_ : Value, e = .returned (.tuple #[v0_, .int .i64 r2]) ∧ Kd.R Kd.string 9 w' w.heap.size (fun _ => True) v0_ r1 ∧ Below w.heap.size w w' := by
 obtain ⟨rfl, rfl⟩ : r1 = (Lex.fields a0).1 ∧ r2 = (Lex.fields a0).2 := by have := Option.some.inj h; rw [this]; exact ⟨rfl, rfl⟩
 clear h
 by_cases h1 : 256 < a0.size
 ·have hv : Hid (Lex.fields a0 = ([], 3)) := Lib.hid (by unfold Lex.fields; rw [if_pos h1])
  have e2 : decide (256 < (a0.size : Int)) = true := decide_eq_true (by omega)
  have e3 : decide (256 < a0.size) = true := decide_eq_true h1
  replace h1 := Lib.hid h1
  go_enter Tryz.func46, Tryz.ntmps46
  go_wp2
  go_ret2
  refine ⟨.slice none 0 0, ?_, ?_, Below.refl _ _⟩
  ·rw [hv.out]; rfl
  ·rw [hv.out]; exact Kd.R_nil _ _ _ _ _
 exact fields_calls a0 w (by omega)

/-! ### lex_Number: function 90 -/
theorem Lex.digit_f (c : Int) : lex_sign_digit.f c = some (decide (48 ≤ c) && decide (c ≤ 57)) := by
 unfold lex_sign_digit.f
 by_cases h : c ≥ 48
 ·rw [if_pos h, decide_eq_true h]; rfl
 ·rw [if_neg h, decide_eq_false h]; rfl
/-! This session's own: lex.Number, by its own pure function. -/
def Lex.dig (b : UInt8) : Bool := decide (48 ≤ b.toNat) && decide (b.toNat ≤ 57)
def Lex.digs : List UInt8 → Int → Option Int
 | [], n => some n
 | c :: l, n => if Lex.dig c then Lex.digs l (10 * n + c.toNat - 48) else none
def Lex.number (s : ByteArray) : Int × Int :=
 if s.size = 0 ∨ 4 < s.size then (0, 2) else match Lex.digs s.data.toList 0 with
  | some n => (n, 0)
  | none => (0, 2)
def Lex.top : Nat → Int | 0 => 0 | 1 => 9 | 2 => 99 | 3 => 999 | _ => 9999
theorem Lex.drop_at (s : ByteArray) (pos : Nat) (h : pos < s.size) : s.data.toList.drop pos = (s[pos]'h) :: s.data.toList.drop (pos + 1) := by
 rw [List.drop_eq_getElem_cons (by simpa using h)]; rfl
set_option maxHeartbeats 8000000 in
set_option maxRecDepth 100000 in
theorem number_calls (s : ByteArray) (w : World) (h1 : ¬ s.size = 0) (h2 : s.size ≤ 4) :
    Calls Tryz.prog 90 #[.string s] w fun e w' => e = .returned (.tuple #[.int .i64 (Lex.number s).1, .int .i64 (Lex.number s).2]) ∧ Below w.heap.size w w' := by
  have hN : Hid (Lex.number s = match Lex.digs s.data.toList 0 with | some n => (n, 0) | none => (0, 2)) := Lib.hid (by unfold Lex.number; rw [if_neg (by omega)])
  have e0 : s.toList.isEmpty = false := by
    rw [ByteArray.toList_eq]
    cases hl : s.data.toList with
    | nil => have : s.data.toList.length = s.size := by rw [Array.length_toList]; rfl
             rw [hl] at this; exact absurd this.symm h1
    | cons _ _ => rfl
  have e1 : (s.toList == ([] : List UInt8)) = false := by
    cases hl : s.toList with
    | nil => rw [hl] at e0; exact absurd e0 (by simp)
    | cons _ _ => rfl
  have e2 : decide (4 < (s.size : Int)) = false := decide_eq_false (by omega)
  have e3 : decide (4 < s.size) = false := decide_eq_false (by omega)
  go_enter Tryz.func90, Tryz.ntmps90
  go_wp2
  go_loopg [4] s.size (fun gf n wr => ∃ (pos : Nat) (z : Int), n = .int .i64 z ∧ pos + gf = s.size ∧ 0 ≤ z ∧ Hid (z ≤ Lex.top pos) ∧ Hid (Lex.digs (s.data.toList.drop pos) z = Lex.digs s.data.toList 0) ∧
      wr.heap[w.heap.size]? = some (.stringIter s pos) ∧ Below w.heap.size w wr)
  case atStart =>
    exact ⟨0, 0, rfl, by omega, by omega, Lib.hid (by decide), Lib.hid rfl, World.iter_heap w s 0, (Below.refl _ _).alloc (Nat.le_refl _) _⟩
  case round =>
    obtain ⟨pos, z, rfl, hg, hz0, hz1, hD, hit, hb⟩ := hrel
    by_cases hlt : pos < s.size
    · obtain ⟨g', rfl⟩ : ∃ g', gk = g' + 1 := ⟨gk - 1, by omega⟩
      have hnx : ∀ ty, (Instr.next (.pointer (some ⟨w.heap.size, 0, none⟩)) true ty).run Tryz.prog wr = _ := fun ty => Lib.run_next_any_at wr w.heap.size s pos ty hit hlt
      have hr := Lex.rune_at s pos hlt
      have hstep : Lex.digs (s.data.toList.drop pos) z = if Lex.dig (s[pos]'hlt) then Lex.digs (s.data.toList.drop (pos + 1)) (10 * z + (s[pos]'hlt).toNat - 48) else none := by
        rw [Lex.drop_at s pos hlt]; rfl
      have hd := hD.out
      rw [hstep] at hd
      replace hd := Lib.hid hd
      clear hstep hD
      have hzb : z ≤ 999 ∧ 10 * Lex.top pos + 9 ≤ Lex.top (pos + 1) := by
        have := hz1.out
        have h4 : pos = 0 ∨ pos = 1 ∨ pos = 2 ∨ pos = 3 := by omega
        rcases h4 with rfl | rfl | rfl | rfl <;> (simp only [Lex.top] at *; omega)
      have hzt := Lib.hid hzb.2
      have hzb := hzb.1
      by_cases hdg : Lex.dig (s[pos]'hlt) = true
      · have hdb : 48 ≤ (s[pos]'hlt).toNat ∧ (s[pos]'hlt).toNat ≤ 57 := by simpa [Lex.dig] using hdg
        obtain ⟨B, hB⟩ : ∃ B, (s[pos]'hlt).toNat = B := ⟨_, rfl⟩
        have hr2 : Utf8.decode s pos = (B, 1) := by
          rcases hr with ⟨_, h⟩ | ⟨h, _⟩
          · rw [h, hB]
          · omega
        rw [hr2] at hnx
        rw [hB] at hdb
        have hd2 := hd.out
        rw [if_pos hdg, hB] at hd2
        have hd := Lib.hid hd2
        clear hd2 hr hr2
        have hcall := Lib.hid (show lex_sign_digit.f (B : Int) = some true by rw [Lex.digit_f, decide_eq_true (by omega), decide_eq_true (by omega)]; rfl)
        have hit2 := Lib.iterAt_heap wr w.heap.size s pos (pos + 1) hit
        have hb2 := Lex.below_it hb (k := w.heap.size) (Nat.le_refl _) s (pos + 1)
        replace hB := Lib.hid hB
        obtain ⟨W, hW⟩ : ∃ W, wr.iterAt w.heap.size s (pos + 1) = W := ⟨_, rfl⟩
        rw [hW] at hnx hit2 hb2
        replace hW := Lib.hid hW
        clear hit hb
        go_wp2_with (go_at_call 84; refine (lex_sign_digit.calls _ _ _ hcall.out).mono ?_; rintro e w' ⟨rfl, ⟨nd, rfl⟩⟩)
        go_roundg g'
        case measure => omega
        case rel =>
          refine ⟨pos + 1, 10 * z + B - 48, by first | rfl | (congr 1; omega), by omega, by omega, Lib.hid ?_, hd, hit2, pw_below_drewN hb2 _⟩
          have := hz1.out; have := hzt.out; omega
      · have hdn : Lex.dig (s[pos]'hlt) = false := by simpa using hdg
        have hd2 := hd.out
        rw [hdn, if_neg (by simp)] at hd2
        have hv : Lex.number s = (0, 2) := by rw [hN.out, ← hd2]
        replace hv := Lib.hid hv
        have hcall : Hid (lex_sign_digit.f ((Utf8.decode s pos).1 : Int) = some false) := by
          refine Lib.hid ?_
          rw [Lex.digit_f]
          rcases hr with ⟨hl, h⟩ | ⟨h, h'⟩
          · rw [h]
            simp only [Lex.dig, Bool.and_eq_false_iff, decide_eq_false_iff_not] at hdn
            congr 1
            simp only [Bool.and_eq_false_iff, decide_eq_false_iff_not]
            omega
          · congr 1
            simp only [Bool.and_eq_false_iff, decide_eq_false_iff_not]
            omega
        have hb2 := Lex.below_it hb (k := w.heap.size) (Nat.le_refl _) s (pos + (Utf8.decode s pos).2)
        obtain ⟨R, hR⟩ : ∃ R, (Utf8.decode s pos).1 = R := ⟨_, rfl⟩
        obtain ⟨K, hK⟩ : ∃ K, (Utf8.decode s pos).2 = K := ⟨_, rfl⟩
        obtain ⟨W, hW⟩ : ∃ W, wr.iterAt w.heap.size s (pos + K) = W := ⟨_, rfl⟩
        rw [hR, hK, hW] at hnx
        rw [hK, hW] at hb2
        rw [hR] at hcall
        replace hW := Lib.hid hW; replace hR := Lib.hid hR; replace hK := Lib.hid hK
        clear hit hb hd hd2 hr hdn hdg
        go_wp2_with (go_at_call 84; refine (lex_sign_digit.calls _ _ _ hcall.out).mono ?_; rintro e w' ⟨rfl, ⟨nd, rfl⟩⟩)
        go_ret2
        exact ⟨Lex.ret2 hv.out, pw_below_drewN hb2 _⟩
    · have hpos : pos = s.size := by omega
      have hnx : ∀ ty, (Instr.next (.pointer (some ⟨w.heap.size, 0, none⟩)) true ty).run Tryz.prog wr = _ := fun ty => Lib.run_next_end_at wr w.heap.size s pos ty hit hlt
      have hd2 := hD.out
      rw [hpos, List.drop_of_length_le (by simp)] at hd2
      have hv : Lex.number s = (z, 0) := by
        have := hN.out
        rw [← hd2] at this
        exact this
      replace hv := Lib.hid hv
      clear hd2 hD
      replace hpos := Lib.hid hpos
      go_wp2
      go_ret2
      exact ⟨Lex.ret2 hv.out, hb⟩
def lex_Number.f (a0 : ByteArray) : Option (Int × Int) := some (Lex.number a0)
set_option maxHeartbeats 8000000 in
set_option maxRecDepth 100000 in
theorem lex_Number.calls (a0 : ByteArray) (r1 : Int) (r2 : Int) (w : World) (h : lex_Number.f a0 = some (r1, r2)) :
  Calls Tryz.prog 90 #[.string a0] w fun e w' => e = .returned (.tuple #[.int .i64 r1, .int .i64 r2]) ∧ Below w.heap.size w w' := by
 obtain ⟨rfl, rfl⟩ : r1 = (Lex.number a0).1 ∧ r2 = (Lex.number a0).2 := by have := Option.some.inj h; rw [this]; exact ⟨rfl, rfl⟩
 clear h
 by_cases h0 : a0.size = 0
 ·have hv : Hid (Lex.number a0 = (0, 2)) := Lib.hid (by unfold Lex.number; rw [if_pos (.inl h0)])
  have e0 := Lex.empty_yes h0
  have e1 : (a0.toList == ([] : List UInt8)) = true := by simpa using e0
  replace h0 := Lib.hid h0
  go_enter Tryz.func90, Tryz.ntmps90
  go_wp2
  go_ret2
  exact ⟨Lex.ret2 hv.out, Below.refl _ _⟩
 by_cases h4 : 4 < a0.size
 ·have hv : Hid (Lex.number a0 = (0, 2)) := Lib.hid (by unfold Lex.number; rw [if_pos (.inr h4)])
  have e0 := Lex.empty_no h0
  have e1 : (a0.toList == ([] : List UInt8)) = false := by simpa using e0
  have e2 : decide (4 < (a0.size : Int)) = true := decide_eq_true (by omega)
  have e3 : decide (4 < a0.size) = true := decide_eq_true h4
  replace h0 := Lib.hid h0
  replace h4 := Lib.hid h4
  go_enter Tryz.func90, Tryz.ntmps90
  go_wp2
  go_ret2
  exact ⟨Lex.ret2 hv.out, Below.refl _ _⟩
 exact number_calls a0 w h0 (by omega)

end Go.Proofs.YtcjfjicagopppaaGreatDoor.PDay
