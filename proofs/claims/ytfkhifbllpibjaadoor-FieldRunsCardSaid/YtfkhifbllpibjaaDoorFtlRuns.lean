-- Written by a program of this session (gprint.py) over the kit's print.
import Derived.Test.YtfkhifbllpibjaaDoorPFtlx4
namespace Go.Proofs.YtfkhifbllpibjaaDoor.PFtl
open Go.RowKit Go.Proofs.YtfkhifbllpibjaaDoorW.PrintWords Go.Proofs.YtfkhifbllpibjaaDoorW.PrintLast Go.Proofs.YtfkhifbllpibjaaDoorW.PrintMore
attribute [local go_sem] max2_int min2_int max_two min_two max_three min_three max_four min_four   -- for this text's walks alone
set_option linter.unusedVariables false
set_option linter.unusedSimpArgs false

abbrev T_ : Bool := true
abbrev F_ : Bool := false
theorem l6_ {α : Type} (xs : List α) (i : Nat) (a : α) : xs.toArray.setIfInBounds i a = (xs.set i a).toArray := by simp
theorem l7_ {α : Type} (xs : List α) (a b : α) : (a :: xs).set 0 b = b :: xs := rfl
theorem l8_ {α : Type} (xs : List α) (n : Nat) (a b : α) : (a :: xs).set (n + 1) b = a :: xs.set n b := rfl
/-! ### complinelaw18_FieldRuns: function 7 -/
mutual
def complinelaw18_FieldRuns.j0 : Nat → ByteArray → ByteArray → ByteArray → Int → Int → Bool → Bool → Option (Bool)
 | 0, _, _, _, _, _, _, _ => none
 | k + 1, x0, x1, x2, x3, x4, x11, x36 => if x36 = true then (some x11) else ((lex_Value.f x0 x3).bind fun bt120 => ((lex_Value.f x1 x3).bind fun bt122 => ((lex_Number.f x2).bind fun bt124 => (if bt120.2 = 0 then (if bt122.2 = 0 then (complinelaw18_FieldRuns.j1 k x0 x1 x2 x3 x4 x11 bt120.1 bt122.1 bt124.1 (bt124.2 != 0)) else (complinelaw18_FieldRuns.j1 k x0 x1 x2 x3 x4 x11 bt120.1 bt122.1 bt124.1 true)) else (complinelaw18_FieldRuns.j1 k x0 x1 x2 x3 x4 x11 bt120.1 bt122.1 bt124.1 true)))))
def complinelaw18_FieldRuns.j1 : Nat → ByteArray → ByteArray → ByteArray → Int → Int → Bool → Int → Int → Int → Bool → Option (Bool)
 | 0, _, _, _, _, _, _, _, _, _, _ => none
 | k + 1, x0, x1, x2, x3, x4, x11, x12, x14, x16, x64 => if x64 = true then (some x11) else (if x0.size + 1 ≤ 9223372036854775807 then (if (x0 ++ (⟨#[45]⟩ : ByteArray)).size + x1.size ≤ 9223372036854775807 then (if ((x0 ++ (⟨#[45]⟩ : ByteArray)) ++ x1).size + 1 ≤ 9223372036854775807 then (if (((x0 ++ (⟨#[45]⟩ : ByteArray)) ++ x1) ++ (⟨#[47]⟩ : ByteArray)).size + x2.size ≤ 9223372036854775807 then ((field_Parse.f ((((x0 ++ (⟨#[45]⟩ : ByteArray)) ++ x1) ++ (⟨#[47]⟩ : ByteArray)) ++ x2) x3).bind fun bt126 => (if x12 > x14 then (if x11 = true then (some (bt126.2.2 == 12)) else (some false)) else (if x16 = 0 then (if x11 = true then (some (bt126.2.2 == 1)) else (some false)) else (if x4 ≥ x12 then (if x4 ≤ x14 then (if x3 = 4 then (if (Int.tmod (wrap64 (x4 - x12)) x16) = 0 then (if x4 < 7 then (if x11 = true then (if bt126.2.2 = 0 then ((field_Has.f bt126.1 bt126.2.1 x4).bind fun t130 => (some (t130 == true))) else (some false)) else (some false)) else (if x4 = 0 then (if x14 = 7 then (if x11 = true then (if bt126.2.2 = 0 then ((field_Has.f bt126.1 bt126.2.1 x4).bind fun t131 => (some (t131 == ((Int.tmod (wrap64 (7 - x12)) x16) == 0)))) else (some false)) else (some false)) else (if x11 = true then (if bt126.2.2 = 0 then ((field_Has.f bt126.1 bt126.2.1 x4).bind fun t132 => (some (t132 == false))) else (some false)) else (some false))) else (if x11 = true then (if bt126.2.2 = 0 then ((field_Has.f bt126.1 bt126.2.1 x4).bind fun t133 => (some (t133 == false))) else (some false)) else (some false)))) else (if x4 = 0 then (if x14 = 7 then (if x11 = true then (if bt126.2.2 = 0 then ((field_Has.f bt126.1 bt126.2.1 x4).bind fun t134 => (some (t134 == ((Int.tmod (wrap64 (7 - x12)) x16) == 0)))) else (some false)) else (some false)) else (if x11 = true then (if bt126.2.2 = 0 then ((field_Has.f bt126.1 bt126.2.1 x4).bind fun t135 => (some (t135 == false))) else (some false)) else (some false))) else (if x11 = true then (if bt126.2.2 = 0 then ((field_Has.f bt126.1 bt126.2.1 x4).bind fun t136 => (some (t136 == false))) else (some false)) else (some false)))) else (if x11 = true then (if bt126.2.2 = 0 then ((field_Has.f bt126.1 bt126.2.1 x4).bind fun t137 => (some (t137 == ((Int.tmod (wrap64 (x4 - x12)) x16) == 0)))) else (some false)) else (some false))) else (if x3 = 4 then (if x4 = 0 then (if x14 = 7 then (if x11 = true then (if bt126.2.2 = 0 then ((field_Has.f bt126.1 bt126.2.1 x4).bind fun t138 => (some (t138 == ((Int.tmod (wrap64 (7 - x12)) x16) == 0)))) else (some false)) else (some false)) else (if x11 = true then (if bt126.2.2 = 0 then ((field_Has.f bt126.1 bt126.2.1 x4).bind fun t139 => (some (t139 == false))) else (some false)) else (some false))) else (if x11 = true then (if bt126.2.2 = 0 then ((field_Has.f bt126.1 bt126.2.1 x4).bind fun t140 => (some (t140 == false))) else (some false)) else (some false))) else (if x11 = true then (if bt126.2.2 = 0 then ((field_Has.f bt126.1 bt126.2.1 x4).bind fun t141 => (some (t141 == false))) else (some false)) else (some false)))) else (if x3 = 4 then (if x4 = 0 then (if x14 = 7 then (if x11 = true then (if bt126.2.2 = 0 then ((field_Has.f bt126.1 bt126.2.1 x4).bind fun t142 => (some (t142 == ((Int.tmod (wrap64 (7 - x12)) x16) == 0)))) else (some false)) else (some false)) else (if x11 = true then (if bt126.2.2 = 0 then ((field_Has.f bt126.1 bt126.2.1 x4).bind fun t143 => (some (t143 == false))) else (some false)) else (some false))) else (if x11 = true then (if bt126.2.2 = 0 then ((field_Has.f bt126.1 bt126.2.1 x4).bind fun t144 => (some (t144 == false))) else (some false)) else (some false))) else (if x11 = true then (if bt126.2.2 = 0 then ((field_Has.f bt126.1 bt126.2.1 x4).bind fun t145 => (some (t145 == false))) else (some false)) else (some false))))))) else (none)) else (none)) else (none)) else (none))
end
def complinelaw18_FieldRuns.f (k : Nat) (a0 : ByteArray) (a1 : ByteArray) (a2 : ByteArray) (a3 : Int) (a4 : Int) : Option (Bool) := (complinelaw18_works.f).bind fun t119 => (if t119 = true then (if (a0.size : Int) > 50 then (complinelaw18_FieldRuns.j0 k a0 a1 a2 a3 a4 t119 true) else (if (a1.size : Int) > 50 then (complinelaw18_FieldRuns.j0 k a0 a1 a2 a3 a4 t119 true) else (complinelaw18_FieldRuns.j0 k a0 a1 a2 a3 a4 t119 (decide ((a2.size : Int) > 50))))) else (some false))
theorem complinelaw18_FieldRuns.mono_l : ∀ k, (∀ y0 y1 y2 y3 y4 y5 y6, LeO (complinelaw18_FieldRuns.j0 k y0 y1 y2 y3 y4 y5 y6) (complinelaw18_FieldRuns.j0 (k + 1) y0 y1 y2 y3 y4 y5 y6)) ∧ (∀ y0 y1 y2 y3 y4 y5 y6 y7 y8 y9, LeO (complinelaw18_FieldRuns.j1 k y0 y1 y2 y3 y4 y5 y6 y7 y8 y9) (complinelaw18_FieldRuns.j1 (k + 1) y0 y1 y2 y3 y4 y5 y6 y7 y8 y9))
 | 0 => ⟨fun _ _ _ _ _ _ _ r h => by simp [complinelaw18_FieldRuns.j0] at h, fun _ _ _ _ _ _ _ _ _ _ r h => by simp [complinelaw18_FieldRuns.j1] at h⟩
 | k + 1 => by
  obtain ⟨ih0, ih1⟩ := complinelaw18_FieldRuns.mono_l k
  refine ⟨?_, ?_⟩
  ·intro y0 y1 y2 y3 y4 y5 y6
   unfold complinelaw18_FieldRuns.j0
   repeat' first
   | (with_reducible exact ih0 _ _ _ _ _ _ _)
   | (with_reducible exact ih1 _ _ _ _ _ _ _ _ _ _)
   | (with_reducible exact LeO.refl _)
   | (with_reducible exact LeO.none _)
   | (with_reducible refine LeO.ite ?_ ?_)
   | (with_reducible refine LeO.bind ?_ (fun _ => ?_))
   | exact ih0 _ _ _ _ _ _ _
   | exact ih1 _ _ _ _ _ _ _ _ _ _
   | exact LeO.none _
   | refine LeO.ite ?_ ?_
   | refine LeO.bind ?_ (fun _ => ?_)
  ·intro y0 y1 y2 y3 y4 y5 y6 y7 y8 y9
   unfold complinelaw18_FieldRuns.j1
   repeat' first
   | (with_reducible exact ih0 _ _ _ _ _ _ _)
   | (with_reducible exact ih1 _ _ _ _ _ _ _ _ _ _)
   | (with_reducible exact LeO.refl _)
   | (with_reducible exact LeO.none _)
   | (with_reducible refine LeO.ite ?_ ?_)
   | (with_reducible refine LeO.bind ?_ (fun _ => ?_))
   | exact ih0 _ _ _ _ _ _ _
   | exact ih1 _ _ _ _ _ _ _ _ _ _
   | exact LeO.none _
   | refine LeO.ite ?_ ?_
   | refine LeO.bind ?_ (fun _ => ?_)
theorem complinelaw18_FieldRuns.mono : ∀ a0 a1 a2 a3 a4 k, LeO (complinelaw18_FieldRuns.f k a0 a1 a2 a3 a4) (complinelaw18_FieldRuns.f (k + 1) a0 a1 a2 a3 a4) := by
 intro a0 a1 a2 a3 a4 k
 obtain ⟨ih0, ih1⟩ := complinelaw18_FieldRuns.mono_l k
 unfold complinelaw18_FieldRuns.f
 repeat' first
   | (with_reducible exact ih0 _ _ _ _ _ _ _)
   | (with_reducible exact ih1 _ _ _ _ _ _ _ _ _ _)
   | (with_reducible exact LeO.refl _)
   | (with_reducible exact LeO.none _)
   | (with_reducible refine LeO.ite ?_ ?_)
   | (with_reducible refine LeO.bind ?_ (fun _ => ?_))
   | exact ih0 _ _ _ _ _ _ _
   | exact ih1 _ _ _ _ _ _ _ _ _ _
   | exact LeO.none _
   | refine LeO.ite ?_ ?_
   | refine LeO.bind ?_ (fun _ => ?_)
set_option maxHeartbeats 8000000 in
set_option maxRecDepth 100000 in
theorem complinelaw18_FieldRuns.calls (k : Nat) (a0 : ByteArray) (a1 : ByteArray) (a2 : ByteArray) (a3 : Int) (a4 : Int) (r : Bool) (w : World) (hT : Tab w) (h : complinelaw18_FieldRuns.f k a0 a1 a2 a3 a4 = some r) :
  Calls Tryd.prog 7 #[.string a0, .string a1, .string a2, .int .i64 a3, .int .i64 a4] w fun e w' => e = .returned (.bool r) ∧ Below w.heap.size w w' := by
 have hu25 := Tryd.underlying25
 have HB := Aside0.mk (Below.refl w.heap.size w)
 have H : ((complinelaw18_works.f).bind fun t119 => (if t119 = true then (if (a0.size : Int) > 50 then (complinelaw18_FieldRuns.j0 k a0 a1 a2 a3 a4 t119 true) else (if (a1.size : Int) > 50 then (complinelaw18_FieldRuns.j0 k a0 a1 a2 a3 a4 t119 true) else (complinelaw18_FieldRuns.j0 k a0 a1 a2 a3 a4 t119 (decide ((a2.size : Int) > 50))))) else (some false))) = some r := h
 clear h
 replace H := Option.bind_eq_some_iff.mp H
 obtain ⟨t119, A60, H⟩ := H
 replace H : (if t119 = true then (if (a0.size : Int) > 50 then (complinelaw18_FieldRuns.j0 k a0 a1 a2 a3 a4 t119 true) else (if (a1.size : Int) > 50 then (complinelaw18_FieldRuns.j0 k a0 a1 a2 a3 a4 t119 true) else (complinelaw18_FieldRuns.j0 k a0 a1 a2 a3 a4 t119 (decide ((a2.size : Int) > 50))))) else (some false)) = some r := H
 have A6 := Aside0.mk A60
 clear A60
 by_cases c7 : t119 = true
 ·subst c7
  have H1 : (if (a0.size : Int) > 50 then (complinelaw18_FieldRuns.j0 k a0 a1 a2 a3 a4 true true) else (if (a1.size : Int) > 50 then (complinelaw18_FieldRuns.j0 k a0 a1 a2 a3 a4 true true) else (complinelaw18_FieldRuns.j0 k a0 a1 a2 a3 a4 true (decide ((a2.size : Int) > 50))))) = some r := by rw [if_pos rfl] at H; exact H
  clear H
  have H := H1
  clear H1
  have HC8 := Aside0.mk H
  clear H
  go_enter Tryd.func7, Tryd.ntmps7
  go_upto_region 4 with (first | ((with_reducible refine gate_callee (f := 9) rfl ?_); refine goesL_ (some 21) rfl rfl Tryd.func9 (by kernel_rfl) rfl #[] rfl (by (try simp only [List.map_toArray, List.map_cons, List.map_nil]); first | done | rfl | (simp only [List.length_drop, List.length_take]; rfl)) ?_; (with_reducible refine (complinelaw18_works.calls  true _ (hT.keep (by repeat (first | (with_reducible first | exact HB.out | apply below_alloc | apply pw_below_drewN | apply below_drew1 | refine below_set ?_ GE129.out) | exact HB.out))) A6.out).mono ?_); rintro e w9 ⟨rfl, hb⟩; refine ⟨_, rfl, ?_⟩; have n0_ := Aside0.mk (below_step (by repeat (first | (with_reducible first | exact HB.out | apply below_alloc | apply pw_below_drewN | apply below_drew1) | exact HB.out)) hb); clear HB; have HB := n0_; clear n0_; (try clear hb); (try clear hb2); (try clear hk); (try clear hi)))
  (try simp only [Act.put, l6_, l7_, l8_])
  go_cut [36] (fun v36 wc => ∃ (kq : Nat) (x36_7 : Bool), v36 = .bool x36_7 ∧ Aside0 (complinelaw18_FieldRuns.j0 kq a0 a1 a2 a3 a4 true x36_7 = some r) ∧ Aside0 (kq ≤ k) ∧ Aside0 (Below w.heap.size w wc))
  case first =>
   have H := HC8.out
   clear HC8
   by_cases c10 : (a0.size : Int) > 50
   ·rw [if_pos c10] at H
    have c10b0 : decide (50 < (a0.size : Int)) = true := decide_eq_true c10
    have c10b1 : decide (50 < a0.size) = true := decide_eq_true (by omega)
    clear c10
    (first | rw [c10b0] | (simp only [i64_w, i32_w]; rw [c10b0]) | skip)
    have H' := Aside0.mk H
    clear H
    go_wp2
    go_meet
    case rel => exact ⟨_, (true), (by first | rfl | (simp; done) | (simp [*]; done)), H', ⟨by first | omega | exact Nat.le_refl _⟩, ⟨by repeat (first | (with_reducible first | exact HB.out | apply below_alloc | apply pw_below_drewN | apply below_drew1) | exact HB.out)⟩⟩
   ·rw [if_neg c10] at H
    have c10b0 : decide (50 < (a0.size : Int)) = false := decide_eq_false c10
    have c10b1 : decide (50 < a0.size) = false := decide_eq_false (by omega)
    clear c10
    (first | rw [c10b0] | (simp only [i64_w, i32_w]; rw [c10b0]) | skip)
    by_cases c11 : (a1.size : Int) > 50
    ·rw [if_pos c11] at H
     have c11b0 : decide (50 < (a1.size : Int)) = true := decide_eq_true c11
     have c11b1 : decide (50 < a1.size) = true := decide_eq_true (by omega)
     clear c11
     have H' := Aside0.mk H
     clear H
     go_wp2
     go_meet
     case rel => exact ⟨_, (true), (by first | rfl | (simp; done) | (simp [*]; done)), H', ⟨by first | omega | exact Nat.le_refl _⟩, ⟨by repeat (first | (with_reducible first | exact HB.out | apply below_alloc | apply pw_below_drewN | apply below_drew1) | exact HB.out)⟩⟩
    ·rw [if_neg c11] at H
     have c11b0 : decide (50 < (a1.size : Int)) = false := decide_eq_false c11
     have c11b1 : decide (50 < a1.size) = false := decide_eq_false (by omega)
     clear c11
     have H' := Aside0.mk H
     clear H
     go_wp2
     go_meet
     case rel => exact ⟨_, (decide ((a2.size : Int) > 50)), (by first | rfl | (simp; done) | (simp [*]; done)), H', ⟨by first | omega | exact Nat.le_refl _⟩, ⟨by repeat (first | (with_reducible first | exact HB.out | apply below_alloc | apply pw_below_drewN | apply below_drew1) | exact HB.out)⟩⟩
  case rest =>
   clear HC8
   try clear c1
   try clear p2
   try clear c7
   try clear c9
   try clear c10
   try clear c10b0
   try clear c10b1
   try clear c11
   try clear c11b0
   try clear c11b1
   obtain ⟨kq, x36_7, rfl, HA, HJ7, HB⟩ := hcut
   cases kq with
   | zero => exact absurd HA.out (by simp [complinelaw18_FieldRuns.j0])
   | succ kj7 =>
    have H := HA.out
    clear HA
    simp only [complinelaw18_FieldRuns.j0] at H
    by_cases c12 : x36_7 = true
    ·subst c12
     have H1 : (some true) = some r := by rw [if_pos rfl] at H; exact H
     clear H
     have H := H1
     clear H1
     obtain rfl := Option.some.inj H
     go_wp2
     go_ret
     exact ⟨by first | rfl | (simp [errW_none, errW_some] <;> rfl) | (simp [*, errW_none, errW_some] <;> rfl), by repeat (first | (with_reducible first | exact HB.out | apply below_alloc | apply pw_below_drewN | apply below_drew1) | exact HB.out)⟩
    ·replace c12 := Bool.eq_false_iff.mpr c12
     subst c12
     have H1 : ((lex_Value.f a0 a3).bind fun bt120 => ((lex_Value.f a1 a3).bind fun bt122 => ((lex_Number.f a2).bind fun bt124 => (if bt120.2 = 0 then (if bt122.2 = 0 then (complinelaw18_FieldRuns.j1 kj7 a0 a1 a2 a3 a4 true bt120.1 bt122.1 bt124.1 (bt124.2 != 0)) else (complinelaw18_FieldRuns.j1 kj7 a0 a1 a2 a3 a4 true bt120.1 bt122.1 bt124.1 true)) else (complinelaw18_FieldRuns.j1 kj7 a0 a1 a2 a3 a4 true bt120.1 bt122.1 bt124.1 true))))) = some r := by rw [if_neg (show ¬ (false = true) by decide)] at H; exact H
     clear H
     have H := H1
     clear H1
     replace H := Option.bind_eq_some_iff.mp H
     obtain ⟨⟨t120, t121⟩, A130, H⟩ := H
     replace H : ((lex_Value.f a1 a3).bind fun bt122 => ((lex_Number.f a2).bind fun bt124 => (if t121 = 0 then (if bt122.2 = 0 then (complinelaw18_FieldRuns.j1 kj7 a0 a1 a2 a3 a4 true t120 bt122.1 bt124.1 (bt124.2 != 0)) else (complinelaw18_FieldRuns.j1 kj7 a0 a1 a2 a3 a4 true t120 bt122.1 bt124.1 true)) else (complinelaw18_FieldRuns.j1 kj7 a0 a1 a2 a3 a4 true t120 bt122.1 bt124.1 true)))) = some r := H
     have A13 := Aside0.mk A130
     clear A130
     replace H := Option.bind_eq_some_iff.mp H
     obtain ⟨⟨t122, t123⟩, A140, H⟩ := H
     replace H : ((lex_Number.f a2).bind fun bt124 => (if t121 = 0 then (if t123 = 0 then (complinelaw18_FieldRuns.j1 kj7 a0 a1 a2 a3 a4 true t120 t122 bt124.1 (bt124.2 != 0)) else (complinelaw18_FieldRuns.j1 kj7 a0 a1 a2 a3 a4 true t120 t122 bt124.1 true)) else (complinelaw18_FieldRuns.j1 kj7 a0 a1 a2 a3 a4 true t120 t122 bt124.1 true))) = some r := H
     have A14 := Aside0.mk A140
     clear A140
     replace H := Option.bind_eq_some_iff.mp H
     obtain ⟨⟨t124, t125⟩, A150, H⟩ := H
     replace H : (if t121 = 0 then (if t123 = 0 then (complinelaw18_FieldRuns.j1 kj7 a0 a1 a2 a3 a4 true t120 t122 t124 (t125 != 0)) else (complinelaw18_FieldRuns.j1 kj7 a0 a1 a2 a3 a4 true t120 t122 t124 true)) else (complinelaw18_FieldRuns.j1 kj7 a0 a1 a2 a3 a4 true t120 t122 t124 true)) = some r := H
     have A15 := Aside0.mk A150
     clear A150
     have HC16 := Aside0.mk H
     clear H
     go_upto_region 9 with (first | ((with_reducible refine gate_callee (f := 22) rfl ?_); refine goesL_ (some 41) rfl rfl Tryd.func22 (by kernel_rfl) rfl #[.string a0, .int .i64 a3] rfl (by (try simp only [List.map_toArray, List.map_cons, List.map_nil]); first | done | rfl | (simp only [List.length_drop, List.length_take]; rfl)) ?_; (with_reducible refine (lex_Value.calls a0 a3 t120 t121 _ A13.out).mono ?_); rintro e w17 ⟨rfl, hb⟩; refine ⟨_, rfl, ?_⟩; have n0_ := Aside0.mk (below_step (by repeat (first | (with_reducible first | exact HB.out | apply below_alloc | apply pw_below_drewN | apply below_drew1) | exact HB.out)) hb); clear HB; have HB := n0_; clear n0_; (try clear hb); (try clear hb2); (try clear hk); (try clear hi)) | ((with_reducible refine gate_callee (f := 22) rfl ?_); refine goesL_ (some 47) rfl rfl Tryd.func22 (by kernel_rfl) rfl #[.string a1, .int .i64 a3] rfl (by (try simp only [List.map_toArray, List.map_cons, List.map_nil]); first | done | rfl | (simp only [List.length_drop, List.length_take]; rfl)) ?_; (with_reducible refine (lex_Value.calls a1 a3 t122 t123 _ A14.out).mono ?_); rintro e w18 ⟨rfl, hb⟩; refine ⟨_, rfl, ?_⟩; have n0_ := Aside0.mk (below_step (by repeat (first | (with_reducible first | exact HB.out | apply below_alloc | apply pw_below_drewN | apply below_drew1) | exact HB.out)) hb); clear HB; have HB := n0_; clear n0_; (try clear hb); (try clear hb2); (try clear hk); (try clear hi)) | ((with_reducible refine gate_callee (f := 23) rfl ?_); refine goesL_ (some 52) rfl rfl Tryd.func23 (by kernel_rfl) rfl #[.string a2] rfl (by (try simp only [List.map_toArray, List.map_cons, List.map_nil]); first | done | rfl | (simp only [List.length_drop, List.length_take]; rfl)) ?_; (with_reducible refine (lex_Number.calls a2 t124 t125 _ A15.out).mono ?_); rintro e w19 ⟨rfl, hb⟩; refine ⟨_, rfl, ?_⟩; have n0_ := Aside0.mk (below_step (by repeat (first | (with_reducible first | exact HB.out | apply below_alloc | apply pw_below_drewN | apply below_drew1) | exact HB.out)) hb); clear HB; have HB := n0_; clear n0_; (try clear hb); (try clear hb2); (try clear hk); (try clear hi)))
     (try simp only [Act.put, l6_, l7_, l8_])
     go_cut [64] (fun v64 wc => ∃ (kq : Nat) (x64_15 : Bool), v64 = .bool x64_15 ∧ Aside0 (complinelaw18_FieldRuns.j1 kq a0 a1 a2 a3 a4 true t120 t122 t124 x64_15 = some r) ∧ Aside0 (kq ≤ kj7) ∧ Aside0 (Below w.heap.size w wc))
     case first =>
      have H := HC16.out
      clear HC16
      by_cases c20 : t121 = 0
      ·rw [if_pos c20] at H
       have c20b0 : (t121 == 0) = true := beq_iff_eq.mpr c20
       have c20b1 : (t121 != 0) = false := bne_eq_false_iff_eq.mpr c20
       clear c20
       (first | rw [c20b0] | (simp only [i64_w, i32_w]; rw [c20b0]) | skip)
       by_cases c21 : t123 = 0
       ·rw [if_pos c21] at H
        have c21b0 : (t123 == 0) = true := beq_iff_eq.mpr c21
        have c21b1 : (t123 != 0) = false := bne_eq_false_iff_eq.mpr c21
        clear c21
        have H' := Aside0.mk H
        clear H
        go_wp2
        go_meet
        case rel => exact ⟨_, ((t125 != 0)), (by first | rfl | (simp; done) | (simp [*]; done)), H', ⟨by have := HJ7.out; first | omega | exact Nat.le_refl _⟩, ⟨by repeat (first | (with_reducible first | exact HB.out | apply below_alloc | apply pw_below_drewN | apply below_drew1) | exact HB.out)⟩⟩
       ·rw [if_neg c21] at H
        have c21b0 : (t123 == 0) = false := beq_eq_false_iff_ne.mpr c21
        have c21b1 : (t123 != 0) = true := bne_iff_ne.mpr c21
        have H' := Aside0.mk H
        clear H
        go_wp2
        go_meet
        case rel => exact ⟨_, (true), (by first | rfl | (simp; done) | (simp [*]; done)), H', ⟨by have := HJ7.out; first | omega | exact Nat.le_refl _⟩, ⟨by repeat (first | (with_reducible first | exact HB.out | apply below_alloc | apply pw_below_drewN | apply below_drew1) | exact HB.out)⟩⟩
      ·rw [if_neg c20] at H
       have c20b0 : (t121 == 0) = false := beq_eq_false_iff_ne.mpr c20
       have c20b1 : (t121 != 0) = true := bne_iff_ne.mpr c20
       (first | rw [c20b0] | (simp only [i64_w, i32_w]; rw [c20b0]) | skip)
       have H' := Aside0.mk H
       clear H
       go_wp2
       go_meet
       case rel => exact ⟨_, (true), (by first | rfl | (simp; done) | (simp [*]; done)), H', ⟨by have := HJ7.out; first | omega | exact Nat.le_refl _⟩, ⟨by repeat (first | (with_reducible first | exact HB.out | apply below_alloc | apply pw_below_drewN | apply below_drew1) | exact HB.out)⟩⟩
     case rest =>
      clear HC16
      try clear c1
      try clear c2
      try clear p2
      try clear c7
      try clear c9
      try clear c10
      try clear c10b0
      try clear c10b1
      try clear c11
      try clear c11b0
      try clear c11b1
      try clear c12
      try clear c20
      try clear c20b0
      try clear c20b1
      try clear c21
      try clear c21b0
      try clear c21b1
      try clear p2
      obtain ⟨kq, x64_15, rfl, HA, HJ15, HB⟩ := hcut
      cases kq with
      | zero => exact absurd HA.out (by simp [complinelaw18_FieldRuns.j1])
      | succ kj15 =>
       have H := HA.out
       clear HA
       simp only [complinelaw18_FieldRuns.j1] at H
       by_cases c22 : x64_15 = true
       ·subst c22
        have H1 : (some true) = some r := by rw [if_pos rfl] at H; exact H
        clear H
        have H := H1
        clear H1
        obtain rfl := Option.some.inj H
        go_wp2
        go_ret
        exact ⟨by first | rfl | (simp [errW_none, errW_some] <;> rfl) | (simp [*, errW_none, errW_some] <;> rfl), by repeat (first | (with_reducible first | exact HB.out | apply below_alloc | apply pw_below_drewN | apply below_drew1) | exact HB.out)⟩
       ·replace c22 := Bool.eq_false_iff.mpr c22
        subst c22
        have H1 : (if a0.size + 1 ≤ 9223372036854775807 then (if (a0 ++ (⟨#[45]⟩ : ByteArray)).size + a1.size ≤ 9223372036854775807 then (if ((a0 ++ (⟨#[45]⟩ : ByteArray)) ++ a1).size + 1 ≤ 9223372036854775807 then (if (((a0 ++ (⟨#[45]⟩ : ByteArray)) ++ a1) ++ (⟨#[47]⟩ : ByteArray)).size + a2.size ≤ 9223372036854775807 then ((field_Parse.f ((((a0 ++ (⟨#[45]⟩ : ByteArray)) ++ a1) ++ (⟨#[47]⟩ : ByteArray)) ++ a2) a3).bind fun bt126 => (if t120 > t122 then (if true = true then (some (bt126.2.2 == 12)) else (some false)) else (if t124 = 0 then (if true = true then (some (bt126.2.2 == 1)) else (some false)) else (if a4 ≥ t120 then (if a4 ≤ t122 then (if a3 = 4 then (if (Int.tmod (wrap64 (a4 - t120)) t124) = 0 then (if a4 < 7 then (if true = true then (if bt126.2.2 = 0 then ((field_Has.f bt126.1 bt126.2.1 a4).bind fun t130 => (some (t130 == true))) else (some false)) else (some false)) else (if a4 = 0 then (if t122 = 7 then (if true = true then (if bt126.2.2 = 0 then ((field_Has.f bt126.1 bt126.2.1 a4).bind fun t131 => (some (t131 == ((Int.tmod (wrap64 (7 - t120)) t124) == 0)))) else (some false)) else (some false)) else (if true = true then (if bt126.2.2 = 0 then ((field_Has.f bt126.1 bt126.2.1 a4).bind fun t132 => (some (t132 == false))) else (some false)) else (some false))) else (if true = true then (if bt126.2.2 = 0 then ((field_Has.f bt126.1 bt126.2.1 a4).bind fun t133 => (some (t133 == false))) else (some false)) else (some false)))) else (if a4 = 0 then (if t122 = 7 then (if true = true then (if bt126.2.2 = 0 then ((field_Has.f bt126.1 bt126.2.1 a4).bind fun t134 => (some (t134 == ((Int.tmod (wrap64 (7 - t120)) t124) == 0)))) else (some false)) else (some false)) else (if true = true then (if bt126.2.2 = 0 then ((field_Has.f bt126.1 bt126.2.1 a4).bind fun t135 => (some (t135 == false))) else (some false)) else (some false))) else (if true = true then (if bt126.2.2 = 0 then ((field_Has.f bt126.1 bt126.2.1 a4).bind fun t136 => (some (t136 == false))) else (some false)) else (some false)))) else (if true = true then (if bt126.2.2 = 0 then ((field_Has.f bt126.1 bt126.2.1 a4).bind fun t137 => (some (t137 == ((Int.tmod (wrap64 (a4 - t120)) t124) == 0)))) else (some false)) else (some false))) else (if a3 = 4 then (if a4 = 0 then (if t122 = 7 then (if true = true then (if bt126.2.2 = 0 then ((field_Has.f bt126.1 bt126.2.1 a4).bind fun t138 => (some (t138 == ((Int.tmod (wrap64 (7 - t120)) t124) == 0)))) else (some false)) else (some false)) else (if true = true then (if bt126.2.2 = 0 then ((field_Has.f bt126.1 bt126.2.1 a4).bind fun t139 => (some (t139 == false))) else (some false)) else (some false))) else (if true = true then (if bt126.2.2 = 0 then ((field_Has.f bt126.1 bt126.2.1 a4).bind fun t140 => (some (t140 == false))) else (some false)) else (some false))) else (if true = true then (if bt126.2.2 = 0 then ((field_Has.f bt126.1 bt126.2.1 a4).bind fun t141 => (some (t141 == false))) else (some false)) else (some false)))) else (if a3 = 4 then (if a4 = 0 then (if t122 = 7 then (if true = true then (if bt126.2.2 = 0 then ((field_Has.f bt126.1 bt126.2.1 a4).bind fun t142 => (some (t142 == ((Int.tmod (wrap64 (7 - t120)) t124) == 0)))) else (some false)) else (some false)) else (if true = true then (if bt126.2.2 = 0 then ((field_Has.f bt126.1 bt126.2.1 a4).bind fun t143 => (some (t143 == false))) else (some false)) else (some false))) else (if true = true then (if bt126.2.2 = 0 then ((field_Has.f bt126.1 bt126.2.1 a4).bind fun t144 => (some (t144 == false))) else (some false)) else (some false))) else (if true = true then (if bt126.2.2 = 0 then ((field_Has.f bt126.1 bt126.2.1 a4).bind fun t145 => (some (t145 == false))) else (some false)) else (some false))))))) else (none)) else (none)) else (none)) else (none)) = some r := by rw [if_neg (show ¬ (false = true) by decide)] at H; exact H
        clear H
        have H := H1
        clear H1
        by_cases c23 : a0.size + 1 ≤ 9223372036854775807
        ·rw [if_pos c23] at H
         have c23b0 := eq_true c23
         have c23b1 : decide (a0.size + 1 ≤ 9223372036854775807) = true := decide_eq_true c23
         try have c23b2 : (9223372036854775807 < a0.size + 1) = False := eq_false (Nat.not_lt.2 c23)
         by_cases c24 : (a0 ++ (⟨#[45]⟩ : ByteArray)).size + a1.size ≤ 9223372036854775807
         ·rw [if_pos c24] at H
          have c24b0 := eq_true c24
          have c24b1 : decide ((a0 ++ (⟨#[45]⟩ : ByteArray)).size + a1.size ≤ 9223372036854775807) = true := decide_eq_true c24
          try have c24b2 : (9223372036854775807 < (a0 ++ (⟨#[45]⟩ : ByteArray)).size + a1.size) = False := eq_false (Nat.not_lt.2 c24)
          have c24b3 : (9223372036854775807 < a0.size + 1 + a1.size) = False := eq_false (by have h_ := c24; have l0_ : (⟨#[45]⟩ : ByteArray).size = 1 := rfl; try simp only [ByteArray.size_append, ByteArray.size_extract] at h_; omega)
          by_cases c25 : ((a0 ++ (⟨#[45]⟩ : ByteArray)) ++ a1).size + 1 ≤ 9223372036854775807
          ·rw [if_pos c25] at H
           have c25b0 := eq_true c25
           have c25b1 : decide (((a0 ++ (⟨#[45]⟩ : ByteArray)) ++ a1).size + 1 ≤ 9223372036854775807) = true := decide_eq_true c25
           try have c25b2 : (9223372036854775807 < ((a0 ++ (⟨#[45]⟩ : ByteArray)) ++ a1).size + 1) = False := eq_false (Nat.not_lt.2 c25)
           have c25b3 : (9223372036854775807 < a0.size + 1 + a1.size + 1) = False := eq_false (by have h_ := c25; have l0_ : (⟨#[45]⟩ : ByteArray).size = 1 := rfl; try simp only [ByteArray.size_append, ByteArray.size_extract] at h_; omega)
           by_cases c26 : (((a0 ++ (⟨#[45]⟩ : ByteArray)) ++ a1) ++ (⟨#[47]⟩ : ByteArray)).size + a2.size ≤ 9223372036854775807
           ·rw [if_pos c26] at H
            have c26b0 := eq_true c26
            have c26b1 : decide ((((a0 ++ (⟨#[45]⟩ : ByteArray)) ++ a1) ++ (⟨#[47]⟩ : ByteArray)).size + a2.size ≤ 9223372036854775807) = true := decide_eq_true c26
            try have c26b2 : (9223372036854775807 < (((a0 ++ (⟨#[45]⟩ : ByteArray)) ++ a1) ++ (⟨#[47]⟩ : ByteArray)).size + a2.size) = False := eq_false (Nat.not_lt.2 c26)
            have c26b3 : (9223372036854775807 < a0.size + 1 + a1.size + 1 + a2.size) = False := eq_false (by have h_ := c26; have l0_ : (⟨#[45]⟩ : ByteArray).size = 1 := rfl; have l1_ : (⟨#[47]⟩ : ByteArray).size = 1 := rfl; try simp only [ByteArray.size_append, ByteArray.size_extract] at h_; omega)
            replace H := Option.bind_eq_some_iff.mp H
            obtain ⟨⟨t126, t127, t128⟩, A270, H⟩ := H
            replace H : (if t120 > t122 then (if true = true then (some (t128 == 12)) else (some false)) else (if t124 = 0 then (if true = true then (some (t128 == 1)) else (some false)) else (if a4 ≥ t120 then (if a4 ≤ t122 then (if a3 = 4 then (if (Int.tmod (wrap64 (a4 - t120)) t124) = 0 then (if a4 < 7 then (if true = true then (if t128 = 0 then ((field_Has.f t126 t127 a4).bind fun t130 => (some (t130 == true))) else (some false)) else (some false)) else (if a4 = 0 then (if t122 = 7 then (if true = true then (if t128 = 0 then ((field_Has.f t126 t127 a4).bind fun t131 => (some (t131 == ((Int.tmod (wrap64 (7 - t120)) t124) == 0)))) else (some false)) else (some false)) else (if true = true then (if t128 = 0 then ((field_Has.f t126 t127 a4).bind fun t132 => (some (t132 == false))) else (some false)) else (some false))) else (if true = true then (if t128 = 0 then ((field_Has.f t126 t127 a4).bind fun t133 => (some (t133 == false))) else (some false)) else (some false)))) else (if a4 = 0 then (if t122 = 7 then (if true = true then (if t128 = 0 then ((field_Has.f t126 t127 a4).bind fun t134 => (some (t134 == ((Int.tmod (wrap64 (7 - t120)) t124) == 0)))) else (some false)) else (some false)) else (if true = true then (if t128 = 0 then ((field_Has.f t126 t127 a4).bind fun t135 => (some (t135 == false))) else (some false)) else (some false))) else (if true = true then (if t128 = 0 then ((field_Has.f t126 t127 a4).bind fun t136 => (some (t136 == false))) else (some false)) else (some false)))) else (if true = true then (if t128 = 0 then ((field_Has.f t126 t127 a4).bind fun t137 => (some (t137 == ((Int.tmod (wrap64 (a4 - t120)) t124) == 0)))) else (some false)) else (some false))) else (if a3 = 4 then (if a4 = 0 then (if t122 = 7 then (if true = true then (if t128 = 0 then ((field_Has.f t126 t127 a4).bind fun t138 => (some (t138 == ((Int.tmod (wrap64 (7 - t120)) t124) == 0)))) else (some false)) else (some false)) else (if true = true then (if t128 = 0 then ((field_Has.f t126 t127 a4).bind fun t139 => (some (t139 == false))) else (some false)) else (some false))) else (if true = true then (if t128 = 0 then ((field_Has.f t126 t127 a4).bind fun t140 => (some (t140 == false))) else (some false)) else (some false))) else (if true = true then (if t128 = 0 then ((field_Has.f t126 t127 a4).bind fun t141 => (some (t141 == false))) else (some false)) else (some false)))) else (if a3 = 4 then (if a4 = 0 then (if t122 = 7 then (if true = true then (if t128 = 0 then ((field_Has.f t126 t127 a4).bind fun t142 => (some (t142 == ((Int.tmod (wrap64 (7 - t120)) t124) == 0)))) else (some false)) else (some false)) else (if true = true then (if t128 = 0 then ((field_Has.f t126 t127 a4).bind fun t143 => (some (t143 == false))) else (some false)) else (some false))) else (if true = true then (if t128 = 0 then ((field_Has.f t126 t127 a4).bind fun t144 => (some (t144 == false))) else (some false)) else (some false))) else (if true = true then (if t128 = 0 then ((field_Has.f t126 t127 a4).bind fun t145 => (some (t145 == false))) else (some false)) else (some false)))))) = some r := H
            have A27 := Aside0.mk A270
            clear A270
            by_cases c28 : t120 > t122
            ·rw [if_pos c28] at H
             have c28b0 : decide (t122 < t120) = true := decide_eq_true c28
             clear c28
             by_cases c29 : true = true
             ·clear c29
              have H1 : (some (t128 == 12)) = some r := by rw [if_pos rfl] at H; exact H
              clear H
              have H := H1
              clear H1
              obtain rfl := Option.some.inj H
              go_wp2_with (first | ((with_reducible refine gate_callee (f := 10) rfl ?_); refine goesL_ (some 75) rfl rfl Tryd.func10 (by kernel_rfl) rfl #[.string ((((a0 ++ (⟨#[45]⟩ : ByteArray)) ++ a1) ++ (⟨#[47]⟩ : ByteArray)) ++ a2), .int .i64 a3] rfl (by (try simp only [List.map_toArray, List.map_cons, List.map_nil]); first | done | rfl | (simp only [List.length_drop, List.length_take]; rfl)) ?_; (with_reducible refine (field_Parse.calls ((((a0 ++ (⟨#[45]⟩ : ByteArray)) ++ a1) ++ (⟨#[47]⟩ : ByteArray)) ++ a2) a3 t126 t127 t128 _ (hT.keep (by repeat (first | (with_reducible first | exact HB.out | apply below_alloc | apply pw_below_drewN | apply below_drew1 | refine below_set ?_ GE129.out) | exact HB.out))) A27.out).mono ?_); rintro e w30 ⟨rfl, hb⟩; refine ⟨_, rfl, ?_⟩; have n0_ := Aside0.mk (below_step (by repeat (first | (with_reducible first | exact HB.out | apply below_alloc | apply pw_below_drewN | apply below_drew1) | exact HB.out)) hb); clear HB; have HB := n0_; clear n0_; (try clear hb); (try clear hb2); (try clear hk); (try clear hi)) | ((with_reducible refine gate_dst (N := 18) rfl ?_); (try (refine gate_guard (by rfl) ?_; dsimp only)); refine box_event ?hg (N := 18) ?hd (cs := #[.int .u64 0, .bool false]) (t := 25) ?hr ?_; (case hd => rfl); (case hg => rfl); (case hr => first | (go_simp; done) | (go_simp; rfl)); intro gb129 hg w31 hbox hb; have n0_ := Aside0.mk (below_step (by repeat (first | (with_reducible first | exact HB.out | apply below_alloc | apply pw_below_drewN | apply below_drew1) | exact HB.out)) hb); have n1_ := Aside0.mk (hbox); have n2_ := Aside0.mk ((by rw [hg]; exact (below_size (by repeat (first | (with_reducible first | exact HB.out | apply below_alloc | apply pw_below_drewN | apply below_drew1) | exact HB.out))) : w.heap.size ≤ gb129)); have n3_ := Aside0.mk ((by rw [hg]; exact (below_size (by repeat (first | (with_reducible first | exact HB.out | apply below_alloc | apply pw_below_drewN | apply below_drew1) | exact HB.out))) : w.heap.size ≤ gb129)); clear HB; have HB := n0_; have BK129 := n1_; have GW129 := n2_; have GE129 := n3_; clear n0_ n1_ n2_ n3_; clear hb hbox hg; have hcz32_0 : w31.cell? ⟨gb129, 0, none⟩ = some (.int .u64 0) := (blk_cell BK129.out 0).trans rfl; have hcz32_1 : w31.cell? ⟨gb129, 1, none⟩ = some (.bool false) := (blk_cell BK129.out 1).trans rfl; have hfz32_0 := blk_frozen BK129.out 0; have hfz32_1 := blk_frozen BK129.out 1))
              go_ret
              exact ⟨by first | rfl | (simp [errW_none, errW_some] <;> rfl) | (simp [*, errW_none, errW_some] <;> rfl), by repeat (first | (with_reducible first | exact HB.out | apply below_alloc | apply pw_below_drewN | apply below_drew1 | refine below_set ?_ GE129.out) | exact HB.out)⟩
             ·exact absurd rfl c29
            ·rw [if_neg c28] at H
             have c28b0 : decide (t122 < t120) = false := decide_eq_false c28
             clear c28
             by_cases c36 : t124 = 0
             ·rw [if_pos c36] at H
              have c36b0 : (t124 == 0) = true := beq_iff_eq.mpr c36
              have c36b1 : (t124 != 0) = false := bne_eq_false_iff_eq.mpr c36
              clear c36
              by_cases c37 : true = true
              ·clear c37
               have H1 : (some (t128 == 1)) = some r := by rw [if_pos rfl] at H; exact H
               clear H
               have H := H1
               clear H1
               obtain rfl := Option.some.inj H
               go_wp2_with (first | ((with_reducible refine gate_callee (f := 10) rfl ?_); refine goesL_ (some 75) rfl rfl Tryd.func10 (by kernel_rfl) rfl #[.string ((((a0 ++ (⟨#[45]⟩ : ByteArray)) ++ a1) ++ (⟨#[47]⟩ : ByteArray)) ++ a2), .int .i64 a3] rfl (by (try simp only [List.map_toArray, List.map_cons, List.map_nil]); first | done | rfl | (simp only [List.length_drop, List.length_take]; rfl)) ?_; (with_reducible refine (field_Parse.calls ((((a0 ++ (⟨#[45]⟩ : ByteArray)) ++ a1) ++ (⟨#[47]⟩ : ByteArray)) ++ a2) a3 t126 t127 t128 _ (hT.keep (by repeat (first | (with_reducible first | exact HB.out | apply below_alloc | apply pw_below_drewN | apply below_drew1 | refine below_set ?_ GE129.out) | exact HB.out))) A27.out).mono ?_); rintro e w38 ⟨rfl, hb⟩; refine ⟨_, rfl, ?_⟩; have n0_ := Aside0.mk (below_step (by repeat (first | (with_reducible first | exact HB.out | apply below_alloc | apply pw_below_drewN | apply below_drew1) | exact HB.out)) hb); clear HB; have HB := n0_; clear n0_; (try clear hb); (try clear hb2); (try clear hk); (try clear hi)) | ((with_reducible refine gate_dst (N := 18) rfl ?_); (try (refine gate_guard (by rfl) ?_; dsimp only)); refine box_event ?hg (N := 18) ?hd (cs := #[.int .u64 0, .bool false]) (t := 25) ?hr ?_; (case hd => rfl); (case hg => rfl); (case hr => first | (go_simp; done) | (go_simp; rfl)); intro gb129 hg w39 hbox hb; have n0_ := Aside0.mk (below_step (by repeat (first | (with_reducible first | exact HB.out | apply below_alloc | apply pw_below_drewN | apply below_drew1) | exact HB.out)) hb); have n1_ := Aside0.mk (hbox); have n2_ := Aside0.mk ((by rw [hg]; exact (below_size (by repeat (first | (with_reducible first | exact HB.out | apply below_alloc | apply pw_below_drewN | apply below_drew1) | exact HB.out))) : w.heap.size ≤ gb129)); have n3_ := Aside0.mk ((by rw [hg]; exact (below_size (by repeat (first | (with_reducible first | exact HB.out | apply below_alloc | apply pw_below_drewN | apply below_drew1) | exact HB.out))) : w.heap.size ≤ gb129)); clear HB; have HB := n0_; have BK129 := n1_; have GW129 := n2_; have GE129 := n3_; clear n0_ n1_ n2_ n3_; clear hb hbox hg; have hcz40_0 : w39.cell? ⟨gb129, 0, none⟩ = some (.int .u64 0) := (blk_cell BK129.out 0).trans rfl; have hcz40_1 : w39.cell? ⟨gb129, 1, none⟩ = some (.bool false) := (blk_cell BK129.out 1).trans rfl; have hfz40_0 := blk_frozen BK129.out 0; have hfz40_1 := blk_frozen BK129.out 1))
               go_ret
               exact ⟨by first | rfl | (simp [errW_none, errW_some] <;> rfl) | (simp [*, errW_none, errW_some] <;> rfl), by repeat (first | (with_reducible first | exact HB.out | apply below_alloc | apply pw_below_drewN | apply below_drew1 | refine below_set ?_ GE129.out) | exact HB.out)⟩
              ·exact absurd rfl c37
             ·rw [if_neg c36] at H
              have c36b0 : (t124 == 0) = false := beq_eq_false_iff_ne.mpr c36
              have c36b1 : (t124 != 0) = true := bne_iff_ne.mpr c36
              by_cases c44 : a4 ≥ t120
              ·rw [if_pos c44] at H
               have c44b0 : decide (t120 ≤ a4) = true := decide_eq_true c44
               clear c44
               by_cases c45 : a4 ≤ t122
               ·rw [if_pos c45] at H
                have c45b0 : decide (a4 ≤ t122) = true := decide_eq_true c45
                clear c45
                by_cases c46 : a3 = 4
                ·rw [if_pos c46] at H
                 have c46b0 : (a3 == 4) = true := beq_iff_eq.mpr c46
                 have c46b1 : (a3 != 4) = false := bne_eq_false_iff_eq.mpr c46
                 clear c46
                 by_cases c47 : (Int.tmod (wrap64 (a4 - t120)) t124) = 0
                 ·rw [if_pos c47] at H
                  have c47b0 : ((Int.tmod (wrap64 (a4 - t120)) t124) == 0) = true := beq_iff_eq.mpr c47
                  have c47b1 : ((Int.tmod (wrap64 (a4 - t120)) t124) != 0) = false := bne_eq_false_iff_eq.mpr c47
                  clear c47
                  by_cases c48 : a4 < 7
                  ·rw [if_pos c48] at H
                   have c48b0 : decide (a4 < 7) = true := decide_eq_true c48
                   clear c48
                   by_cases c49 : true = true
                   ·clear c49
                    have H1 : (if t128 = 0 then ((field_Has.f t126 t127 a4).bind fun t130 => (some (t130 == true))) else (some false)) = some r := by rw [if_pos rfl] at H; exact H
                    clear H
                    have H := H1
                    clear H1
                    by_cases c50 : t128 = 0
                    ·rw [if_pos c50] at H
                     have c50b0 : (t128 == 0) = true := beq_iff_eq.mpr c50
                     have c50b1 : (t128 != 0) = false := bne_eq_false_iff_eq.mpr c50
                     clear c50
                     replace H := Option.bind_eq_some_iff.mp H
                     obtain ⟨t130, A510, H⟩ := H
                     replace H : (some (t130 == true)) = some r := H
                     have A51 := Aside0.mk A510
                     clear A510
                     obtain rfl := Option.some.inj H
                     go_wp2_with (first | ((with_reducible refine gate_callee (f := 10) rfl ?_); refine goesL_ (some 75) rfl rfl Tryd.func10 (by kernel_rfl) rfl #[.string ((((a0 ++ (⟨#[45]⟩ : ByteArray)) ++ a1) ++ (⟨#[47]⟩ : ByteArray)) ++ a2), .int .i64 a3] rfl (by (try simp only [List.map_toArray, List.map_cons, List.map_nil]); first | done | rfl | (simp only [List.length_drop, List.length_take]; rfl)) ?_; (with_reducible refine (field_Parse.calls ((((a0 ++ (⟨#[45]⟩ : ByteArray)) ++ a1) ++ (⟨#[47]⟩ : ByteArray)) ++ a2) a3 t126 t127 t128 _ (hT.keep (by repeat (first | (with_reducible first | exact HB.out | apply below_alloc | apply pw_below_drewN | apply below_drew1 | refine below_set ?_ GE129.out) | exact HB.out))) A27.out).mono ?_); rintro e w52 ⟨rfl, hb⟩; refine ⟨_, rfl, ?_⟩; have n0_ := Aside0.mk (below_step (by repeat (first | (with_reducible first | exact HB.out | apply below_alloc | apply pw_below_drewN | apply below_drew1) | exact HB.out)) hb); clear HB; have HB := n0_; clear n0_; (try clear hb); (try clear hb2); (try clear hk); (try clear hi)) | ((with_reducible refine gate_dst (N := 18) rfl ?_); (try (refine gate_guard (by rfl) ?_; dsimp only)); refine box_event ?hg (N := 18) ?hd (cs := #[.int .u64 0, .bool false]) (t := 25) ?hr ?_; (case hd => rfl); (case hg => rfl); (case hr => first | (go_simp; done) | (go_simp; rfl)); intro gb129 hg w53 hbox hb; have n0_ := Aside0.mk (below_step (by repeat (first | (with_reducible first | exact HB.out | apply below_alloc | apply pw_below_drewN | apply below_drew1) | exact HB.out)) hb); have n1_ := Aside0.mk (hbox); have n2_ := Aside0.mk ((by rw [hg]; exact (below_size (by repeat (first | (with_reducible first | exact HB.out | apply below_alloc | apply pw_below_drewN | apply below_drew1) | exact HB.out))) : w.heap.size ≤ gb129)); have n3_ := Aside0.mk ((by rw [hg]; exact (below_size (by repeat (first | (with_reducible first | exact HB.out | apply below_alloc | apply pw_below_drewN | apply below_drew1) | exact HB.out))) : w.heap.size ≤ gb129)); clear HB; have HB := n0_; have BK129 := n1_; have GW129 := n2_; have GE129 := n3_; clear n0_ n1_ n2_ n3_; clear hb hbox hg; have hcz54_0 : w53.cell? ⟨gb129, 0, none⟩ = some (.int .u64 0) := (blk_cell BK129.out 0).trans rfl; have hcz54_1 : w53.cell? ⟨gb129, 1, none⟩ = some (.bool false) := (blk_cell BK129.out 1).trans rfl; have hfz54_0 := blk_frozen BK129.out 0; have hfz54_1 := blk_frozen BK129.out 1) | (go_at_call 18; (with_reducible refine (field_Has.calls t126 t127 a4 t130 _ A51.out).mono ?_); rintro e w55 ⟨rfl, hb⟩; have n0_ := Aside0.mk (blk_below (g := gb129) (o := .cells #[.int .u64 t126, .bool t127] 25 (0, 0)) (by (with_reducible repeat (first | refine blk_drewN ?_ _ | refine blk_drew ?_ | refine blk_alloc ?_ _)); refine blk_put (cs := #[.int .u64 t126, .bool false]) ?_ 1 _ rfl; (with_reducible repeat (first | refine blk_drewN ?_ _ | refine blk_drew ?_ | refine blk_alloc ?_ _)); refine blk_put (cs := #[.int .u64 0, .bool false]) ?_ 0 _ rfl; (with_reducible repeat (first | refine blk_drewN ?_ _ | refine blk_drew ?_ | refine blk_alloc ?_ _)); exact BK129.out) hb); have n1_ := Aside0.mk (below_step (by repeat (first | (with_reducible first | exact HB.out | apply below_alloc | apply pw_below_drewN | apply below_drew1 | refine below_set ?_ GE129.out) | exact HB.out)) hb); clear BK129; clear HB; have BK129 := n0_; have HB := n1_; clear n0_ n1_; (try clear hb); (try clear hb2); (try clear hk); (try clear hi)))
                     go_ret
                     exact ⟨by first | rfl | (simp [errW_none, errW_some] <;> rfl) | (simp [*, errW_none, errW_some] <;> rfl), by repeat (first | (with_reducible first | exact HB.out | apply below_alloc | apply pw_below_drewN | apply below_drew1 | refine below_set ?_ GE129.out) | exact HB.out)⟩
                    ·rw [if_neg c50] at H
                     have c50b0 : (t128 == 0) = false := beq_eq_false_iff_ne.mpr c50
                     have c50b1 : (t128 != 0) = true := bne_iff_ne.mpr c50
                     obtain rfl := Option.some.inj H
                     go_wp2_with (first | ((with_reducible refine gate_callee (f := 10) rfl ?_); refine goesL_ (some 75) rfl rfl Tryd.func10 (by kernel_rfl) rfl #[.string ((((a0 ++ (⟨#[45]⟩ : ByteArray)) ++ a1) ++ (⟨#[47]⟩ : ByteArray)) ++ a2), .int .i64 a3] rfl (by (try simp only [List.map_toArray, List.map_cons, List.map_nil]); first | done | rfl | (simp only [List.length_drop, List.length_take]; rfl)) ?_; (with_reducible refine (field_Parse.calls ((((a0 ++ (⟨#[45]⟩ : ByteArray)) ++ a1) ++ (⟨#[47]⟩ : ByteArray)) ++ a2) a3 t126 t127 t128 _ (hT.keep (by repeat (first | (with_reducible first | exact HB.out | apply below_alloc | apply pw_below_drewN | apply below_drew1 | refine below_set ?_ GE129.out) | exact HB.out))) A27.out).mono ?_); rintro e w56 ⟨rfl, hb⟩; refine ⟨_, rfl, ?_⟩; have n0_ := Aside0.mk (below_step (by repeat (first | (with_reducible first | exact HB.out | apply below_alloc | apply pw_below_drewN | apply below_drew1) | exact HB.out)) hb); clear HB; have HB := n0_; clear n0_; (try clear hb); (try clear hb2); (try clear hk); (try clear hi)) | ((with_reducible refine gate_dst (N := 18) rfl ?_); (try (refine gate_guard (by rfl) ?_; dsimp only)); refine box_event ?hg (N := 18) ?hd (cs := #[.int .u64 0, .bool false]) (t := 25) ?hr ?_; (case hd => rfl); (case hg => rfl); (case hr => first | (go_simp; done) | (go_simp; rfl)); intro gb129 hg w57 hbox hb; have n0_ := Aside0.mk (below_step (by repeat (first | (with_reducible first | exact HB.out | apply below_alloc | apply pw_below_drewN | apply below_drew1) | exact HB.out)) hb); have n1_ := Aside0.mk (hbox); have n2_ := Aside0.mk ((by rw [hg]; exact (below_size (by repeat (first | (with_reducible first | exact HB.out | apply below_alloc | apply pw_below_drewN | apply below_drew1) | exact HB.out))) : w.heap.size ≤ gb129)); have n3_ := Aside0.mk ((by rw [hg]; exact (below_size (by repeat (first | (with_reducible first | exact HB.out | apply below_alloc | apply pw_below_drewN | apply below_drew1) | exact HB.out))) : w.heap.size ≤ gb129)); clear HB; have HB := n0_; have BK129 := n1_; have GW129 := n2_; have GE129 := n3_; clear n0_ n1_ n2_ n3_; clear hb hbox hg; have hcz58_0 : w57.cell? ⟨gb129, 0, none⟩ = some (.int .u64 0) := (blk_cell BK129.out 0).trans rfl; have hcz58_1 : w57.cell? ⟨gb129, 1, none⟩ = some (.bool false) := (blk_cell BK129.out 1).trans rfl; have hfz58_0 := blk_frozen BK129.out 0; have hfz58_1 := blk_frozen BK129.out 1))
                     go_ret
                     exact ⟨by first | rfl | (simp [errW_none, errW_some] <;> rfl) | (simp [*, errW_none, errW_some] <;> rfl), by repeat (first | (with_reducible first | exact HB.out | apply below_alloc | apply pw_below_drewN | apply below_drew1 | refine below_set ?_ GE129.out) | exact HB.out)⟩
                   ·exact absurd rfl c49
                  ·rw [if_neg c48] at H
                   have c48b0 : decide (a4 < 7) = false := decide_eq_false c48
                   clear c48
                   by_cases c62 : a4 = 0
                   ·rw [if_pos c62] at H
                    have c62b0 : (a4 == 0) = true := beq_iff_eq.mpr c62
                    have c62b1 : (a4 != 0) = false := bne_eq_false_iff_eq.mpr c62
                    clear c62
                    by_cases c63 : t122 = 7
                    ·rw [if_pos c63] at H
                     have c63b0 : (t122 == 7) = true := beq_iff_eq.mpr c63
                     have c63b1 : (t122 != 7) = false := bne_eq_false_iff_eq.mpr c63
                     clear c63
                     by_cases c64 : true = true
                     ·clear c64
                      have H1 : (if t128 = 0 then ((field_Has.f t126 t127 a4).bind fun t131 => (some (t131 == ((Int.tmod (wrap64 (7 - t120)) t124) == 0)))) else (some false)) = some r := by rw [if_pos rfl] at H; exact H
                      clear H
                      have H := H1
                      clear H1
                      by_cases c65 : t128 = 0
                      ·rw [if_pos c65] at H
                       have c65b0 : (t128 == 0) = true := beq_iff_eq.mpr c65
                       have c65b1 : (t128 != 0) = false := bne_eq_false_iff_eq.mpr c65
                       clear c65
                       replace H := Option.bind_eq_some_iff.mp H
                       obtain ⟨t131, A660, H⟩ := H
                       replace H : (some (t131 == ((Int.tmod (wrap64 (7 - t120)) t124) == 0))) = some r := H
                       have A66 := Aside0.mk A660
                       clear A660
                       obtain rfl := Option.some.inj H
                       go_wp2_with (first | ((with_reducible refine gate_callee (f := 10) rfl ?_); refine goesL_ (some 75) rfl rfl Tryd.func10 (by kernel_rfl) rfl #[.string ((((a0 ++ (⟨#[45]⟩ : ByteArray)) ++ a1) ++ (⟨#[47]⟩ : ByteArray)) ++ a2), .int .i64 a3] rfl (by (try simp only [List.map_toArray, List.map_cons, List.map_nil]); first | done | rfl | (simp only [List.length_drop, List.length_take]; rfl)) ?_; (with_reducible refine (field_Parse.calls ((((a0 ++ (⟨#[45]⟩ : ByteArray)) ++ a1) ++ (⟨#[47]⟩ : ByteArray)) ++ a2) a3 t126 t127 t128 _ (hT.keep (by repeat (first | (with_reducible first | exact HB.out | apply below_alloc | apply pw_below_drewN | apply below_drew1 | refine below_set ?_ GE129.out) | exact HB.out))) A27.out).mono ?_); rintro e w67 ⟨rfl, hb⟩; refine ⟨_, rfl, ?_⟩; have n0_ := Aside0.mk (below_step (by repeat (first | (with_reducible first | exact HB.out | apply below_alloc | apply pw_below_drewN | apply below_drew1) | exact HB.out)) hb); clear HB; have HB := n0_; clear n0_; (try clear hb); (try clear hb2); (try clear hk); (try clear hi)) | ((with_reducible refine gate_dst (N := 18) rfl ?_); (try (refine gate_guard (by rfl) ?_; dsimp only)); refine box_event ?hg (N := 18) ?hd (cs := #[.int .u64 0, .bool false]) (t := 25) ?hr ?_; (case hd => rfl); (case hg => rfl); (case hr => first | (go_simp; done) | (go_simp; rfl)); intro gb129 hg w68 hbox hb; have n0_ := Aside0.mk (below_step (by repeat (first | (with_reducible first | exact HB.out | apply below_alloc | apply pw_below_drewN | apply below_drew1) | exact HB.out)) hb); have n1_ := Aside0.mk (hbox); have n2_ := Aside0.mk ((by rw [hg]; exact (below_size (by repeat (first | (with_reducible first | exact HB.out | apply below_alloc | apply pw_below_drewN | apply below_drew1) | exact HB.out))) : w.heap.size ≤ gb129)); have n3_ := Aside0.mk ((by rw [hg]; exact (below_size (by repeat (first | (with_reducible first | exact HB.out | apply below_alloc | apply pw_below_drewN | apply below_drew1) | exact HB.out))) : w.heap.size ≤ gb129)); clear HB; have HB := n0_; have BK129 := n1_; have GW129 := n2_; have GE129 := n3_; clear n0_ n1_ n2_ n3_; clear hb hbox hg; have hcz69_0 : w68.cell? ⟨gb129, 0, none⟩ = some (.int .u64 0) := (blk_cell BK129.out 0).trans rfl; have hcz69_1 : w68.cell? ⟨gb129, 1, none⟩ = some (.bool false) := (blk_cell BK129.out 1).trans rfl; have hfz69_0 := blk_frozen BK129.out 0; have hfz69_1 := blk_frozen BK129.out 1) | (go_at_call 18; (with_reducible refine (field_Has.calls t126 t127 a4 t131 _ A66.out).mono ?_); rintro e w70 ⟨rfl, hb⟩; have n0_ := Aside0.mk (blk_below (g := gb129) (o := .cells #[.int .u64 t126, .bool t127] 25 (0, 0)) (by (with_reducible repeat (first | refine blk_drewN ?_ _ | refine blk_drew ?_ | refine blk_alloc ?_ _)); refine blk_put (cs := #[.int .u64 t126, .bool false]) ?_ 1 _ rfl; (with_reducible repeat (first | refine blk_drewN ?_ _ | refine blk_drew ?_ | refine blk_alloc ?_ _)); refine blk_put (cs := #[.int .u64 0, .bool false]) ?_ 0 _ rfl; (with_reducible repeat (first | refine blk_drewN ?_ _ | refine blk_drew ?_ | refine blk_alloc ?_ _)); exact BK129.out) hb); have n1_ := Aside0.mk (below_step (by repeat (first | (with_reducible first | exact HB.out | apply below_alloc | apply pw_below_drewN | apply below_drew1 | refine below_set ?_ GE129.out) | exact HB.out)) hb); clear BK129; clear HB; have BK129 := n0_; have HB := n1_; clear n0_ n1_; (try clear hb); (try clear hb2); (try clear hk); (try clear hi)))
                       go_ret
                       exact ⟨by first | rfl | (simp [errW_none, errW_some] <;> rfl) | (simp [*, errW_none, errW_some] <;> rfl), by repeat (first | (with_reducible first | exact HB.out | apply below_alloc | apply pw_below_drewN | apply below_drew1 | refine below_set ?_ GE129.out) | exact HB.out)⟩
                      ·rw [if_neg c65] at H
                       have c65b0 : (t128 == 0) = false := beq_eq_false_iff_ne.mpr c65
                       have c65b1 : (t128 != 0) = true := bne_iff_ne.mpr c65
                       obtain rfl := Option.some.inj H
                       go_wp2_with (first | ((with_reducible refine gate_callee (f := 10) rfl ?_); refine goesL_ (some 75) rfl rfl Tryd.func10 (by kernel_rfl) rfl #[.string ((((a0 ++ (⟨#[45]⟩ : ByteArray)) ++ a1) ++ (⟨#[47]⟩ : ByteArray)) ++ a2), .int .i64 a3] rfl (by (try simp only [List.map_toArray, List.map_cons, List.map_nil]); first | done | rfl | (simp only [List.length_drop, List.length_take]; rfl)) ?_; (with_reducible refine (field_Parse.calls ((((a0 ++ (⟨#[45]⟩ : ByteArray)) ++ a1) ++ (⟨#[47]⟩ : ByteArray)) ++ a2) a3 t126 t127 t128 _ (hT.keep (by repeat (first | (with_reducible first | exact HB.out | apply below_alloc | apply pw_below_drewN | apply below_drew1 | refine below_set ?_ GE129.out) | exact HB.out))) A27.out).mono ?_); rintro e w71 ⟨rfl, hb⟩; refine ⟨_, rfl, ?_⟩; have n0_ := Aside0.mk (below_step (by repeat (first | (with_reducible first | exact HB.out | apply below_alloc | apply pw_below_drewN | apply below_drew1) | exact HB.out)) hb); clear HB; have HB := n0_; clear n0_; (try clear hb); (try clear hb2); (try clear hk); (try clear hi)) | ((with_reducible refine gate_dst (N := 18) rfl ?_); (try (refine gate_guard (by rfl) ?_; dsimp only)); refine box_event ?hg (N := 18) ?hd (cs := #[.int .u64 0, .bool false]) (t := 25) ?hr ?_; (case hd => rfl); (case hg => rfl); (case hr => first | (go_simp; done) | (go_simp; rfl)); intro gb129 hg w72 hbox hb; have n0_ := Aside0.mk (below_step (by repeat (first | (with_reducible first | exact HB.out | apply below_alloc | apply pw_below_drewN | apply below_drew1) | exact HB.out)) hb); have n1_ := Aside0.mk (hbox); have n2_ := Aside0.mk ((by rw [hg]; exact (below_size (by repeat (first | (with_reducible first | exact HB.out | apply below_alloc | apply pw_below_drewN | apply below_drew1) | exact HB.out))) : w.heap.size ≤ gb129)); have n3_ := Aside0.mk ((by rw [hg]; exact (below_size (by repeat (first | (with_reducible first | exact HB.out | apply below_alloc | apply pw_below_drewN | apply below_drew1) | exact HB.out))) : w.heap.size ≤ gb129)); clear HB; have HB := n0_; have BK129 := n1_; have GW129 := n2_; have GE129 := n3_; clear n0_ n1_ n2_ n3_; clear hb hbox hg; have hcz73_0 : w72.cell? ⟨gb129, 0, none⟩ = some (.int .u64 0) := (blk_cell BK129.out 0).trans rfl; have hcz73_1 : w72.cell? ⟨gb129, 1, none⟩ = some (.bool false) := (blk_cell BK129.out 1).trans rfl; have hfz73_0 := blk_frozen BK129.out 0; have hfz73_1 := blk_frozen BK129.out 1))
                       go_ret
                       exact ⟨by first | rfl | (simp [errW_none, errW_some] <;> rfl) | (simp [*, errW_none, errW_some] <;> rfl), by repeat (first | (with_reducible first | exact HB.out | apply below_alloc | apply pw_below_drewN | apply below_drew1 | refine below_set ?_ GE129.out) | exact HB.out)⟩
                     ·exact absurd rfl c64
                    ·rw [if_neg c63] at H
                     have c63b0 : (t122 == 7) = false := beq_eq_false_iff_ne.mpr c63
                     have c63b1 : (t122 != 7) = true := bne_iff_ne.mpr c63
                     by_cases c77 : true = true
                     ·clear c77
                      have H1 : (if t128 = 0 then ((field_Has.f t126 t127 a4).bind fun t132 => (some (t132 == false))) else (some false)) = some r := by rw [if_pos rfl] at H; exact H
                      clear H
                      have H := H1
                      clear H1
                      by_cases c78 : t128 = 0
                      ·rw [if_pos c78] at H
                       have c78b0 : (t128 == 0) = true := beq_iff_eq.mpr c78
                       have c78b1 : (t128 != 0) = false := bne_eq_false_iff_eq.mpr c78
                       clear c78
                       replace H := Option.bind_eq_some_iff.mp H
                       obtain ⟨t132, A790, H⟩ := H
                       replace H : (some (t132 == false)) = some r := H
                       have A79 := Aside0.mk A790
                       clear A790
                       obtain rfl := Option.some.inj H
                       go_wp2_with (first | ((with_reducible refine gate_callee (f := 10) rfl ?_); refine goesL_ (some 75) rfl rfl Tryd.func10 (by kernel_rfl) rfl #[.string ((((a0 ++ (⟨#[45]⟩ : ByteArray)) ++ a1) ++ (⟨#[47]⟩ : ByteArray)) ++ a2), .int .i64 a3] rfl (by (try simp only [List.map_toArray, List.map_cons, List.map_nil]); first | done | rfl | (simp only [List.length_drop, List.length_take]; rfl)) ?_; (with_reducible refine (field_Parse.calls ((((a0 ++ (⟨#[45]⟩ : ByteArray)) ++ a1) ++ (⟨#[47]⟩ : ByteArray)) ++ a2) a3 t126 t127 t128 _ (hT.keep (by repeat (first | (with_reducible first | exact HB.out | apply below_alloc | apply pw_below_drewN | apply below_drew1 | refine below_set ?_ GE129.out) | exact HB.out))) A27.out).mono ?_); rintro e w80 ⟨rfl, hb⟩; refine ⟨_, rfl, ?_⟩; have n0_ := Aside0.mk (below_step (by repeat (first | (with_reducible first | exact HB.out | apply below_alloc | apply pw_below_drewN | apply below_drew1) | exact HB.out)) hb); clear HB; have HB := n0_; clear n0_; (try clear hb); (try clear hb2); (try clear hk); (try clear hi)) | ((with_reducible refine gate_dst (N := 18) rfl ?_); (try (refine gate_guard (by rfl) ?_; dsimp only)); refine box_event ?hg (N := 18) ?hd (cs := #[.int .u64 0, .bool false]) (t := 25) ?hr ?_; (case hd => rfl); (case hg => rfl); (case hr => first | (go_simp; done) | (go_simp; rfl)); intro gb129 hg w81 hbox hb; have n0_ := Aside0.mk (below_step (by repeat (first | (with_reducible first | exact HB.out | apply below_alloc | apply pw_below_drewN | apply below_drew1) | exact HB.out)) hb); have n1_ := Aside0.mk (hbox); have n2_ := Aside0.mk ((by rw [hg]; exact (below_size (by repeat (first | (with_reducible first | exact HB.out | apply below_alloc | apply pw_below_drewN | apply below_drew1) | exact HB.out))) : w.heap.size ≤ gb129)); have n3_ := Aside0.mk ((by rw [hg]; exact (below_size (by repeat (first | (with_reducible first | exact HB.out | apply below_alloc | apply pw_below_drewN | apply below_drew1) | exact HB.out))) : w.heap.size ≤ gb129)); clear HB; have HB := n0_; have BK129 := n1_; have GW129 := n2_; have GE129 := n3_; clear n0_ n1_ n2_ n3_; clear hb hbox hg; have hcz82_0 : w81.cell? ⟨gb129, 0, none⟩ = some (.int .u64 0) := (blk_cell BK129.out 0).trans rfl; have hcz82_1 : w81.cell? ⟨gb129, 1, none⟩ = some (.bool false) := (blk_cell BK129.out 1).trans rfl; have hfz82_0 := blk_frozen BK129.out 0; have hfz82_1 := blk_frozen BK129.out 1) | (go_at_call 18; (with_reducible refine (field_Has.calls t126 t127 a4 t132 _ A79.out).mono ?_); rintro e w83 ⟨rfl, hb⟩; have n0_ := Aside0.mk (blk_below (g := gb129) (o := .cells #[.int .u64 t126, .bool t127] 25 (0, 0)) (by (with_reducible repeat (first | refine blk_drewN ?_ _ | refine blk_drew ?_ | refine blk_alloc ?_ _)); refine blk_put (cs := #[.int .u64 t126, .bool false]) ?_ 1 _ rfl; (with_reducible repeat (first | refine blk_drewN ?_ _ | refine blk_drew ?_ | refine blk_alloc ?_ _)); refine blk_put (cs := #[.int .u64 0, .bool false]) ?_ 0 _ rfl; (with_reducible repeat (first | refine blk_drewN ?_ _ | refine blk_drew ?_ | refine blk_alloc ?_ _)); exact BK129.out) hb); have n1_ := Aside0.mk (below_step (by repeat (first | (with_reducible first | exact HB.out | apply below_alloc | apply pw_below_drewN | apply below_drew1 | refine below_set ?_ GE129.out) | exact HB.out)) hb); clear BK129; clear HB; have BK129 := n0_; have HB := n1_; clear n0_ n1_; (try clear hb); (try clear hb2); (try clear hk); (try clear hi)))
                       go_ret
                       exact ⟨by first | rfl | (simp [errW_none, errW_some] <;> rfl) | (simp [*, errW_none, errW_some] <;> rfl), by repeat (first | (with_reducible first | exact HB.out | apply below_alloc | apply pw_below_drewN | apply below_drew1 | refine below_set ?_ GE129.out) | exact HB.out)⟩
                      ·rw [if_neg c78] at H
                       have c78b0 : (t128 == 0) = false := beq_eq_false_iff_ne.mpr c78
                       have c78b1 : (t128 != 0) = true := bne_iff_ne.mpr c78
                       obtain rfl := Option.some.inj H
                       go_wp2_with (first | ((with_reducible refine gate_callee (f := 10) rfl ?_); refine goesL_ (some 75) rfl rfl Tryd.func10 (by kernel_rfl) rfl #[.string ((((a0 ++ (⟨#[45]⟩ : ByteArray)) ++ a1) ++ (⟨#[47]⟩ : ByteArray)) ++ a2), .int .i64 a3] rfl (by (try simp only [List.map_toArray, List.map_cons, List.map_nil]); first | done | rfl | (simp only [List.length_drop, List.length_take]; rfl)) ?_; (with_reducible refine (field_Parse.calls ((((a0 ++ (⟨#[45]⟩ : ByteArray)) ++ a1) ++ (⟨#[47]⟩ : ByteArray)) ++ a2) a3 t126 t127 t128 _ (hT.keep (by repeat (first | (with_reducible first | exact HB.out | apply below_alloc | apply pw_below_drewN | apply below_drew1 | refine below_set ?_ GE129.out) | exact HB.out))) A27.out).mono ?_); rintro e w84 ⟨rfl, hb⟩; refine ⟨_, rfl, ?_⟩; have n0_ := Aside0.mk (below_step (by repeat (first | (with_reducible first | exact HB.out | apply below_alloc | apply pw_below_drewN | apply below_drew1) | exact HB.out)) hb); clear HB; have HB := n0_; clear n0_; (try clear hb); (try clear hb2); (try clear hk); (try clear hi)) | ((with_reducible refine gate_dst (N := 18) rfl ?_); (try (refine gate_guard (by rfl) ?_; dsimp only)); refine box_event ?hg (N := 18) ?hd (cs := #[.int .u64 0, .bool false]) (t := 25) ?hr ?_; (case hd => rfl); (case hg => rfl); (case hr => first | (go_simp; done) | (go_simp; rfl)); intro gb129 hg w85 hbox hb; have n0_ := Aside0.mk (below_step (by repeat (first | (with_reducible first | exact HB.out | apply below_alloc | apply pw_below_drewN | apply below_drew1) | exact HB.out)) hb); have n1_ := Aside0.mk (hbox); have n2_ := Aside0.mk ((by rw [hg]; exact (below_size (by repeat (first | (with_reducible first | exact HB.out | apply below_alloc | apply pw_below_drewN | apply below_drew1) | exact HB.out))) : w.heap.size ≤ gb129)); have n3_ := Aside0.mk ((by rw [hg]; exact (below_size (by repeat (first | (with_reducible first | exact HB.out | apply below_alloc | apply pw_below_drewN | apply below_drew1) | exact HB.out))) : w.heap.size ≤ gb129)); clear HB; have HB := n0_; have BK129 := n1_; have GW129 := n2_; have GE129 := n3_; clear n0_ n1_ n2_ n3_; clear hb hbox hg; have hcz86_0 : w85.cell? ⟨gb129, 0, none⟩ = some (.int .u64 0) := (blk_cell BK129.out 0).trans rfl; have hcz86_1 : w85.cell? ⟨gb129, 1, none⟩ = some (.bool false) := (blk_cell BK129.out 1).trans rfl; have hfz86_0 := blk_frozen BK129.out 0; have hfz86_1 := blk_frozen BK129.out 1))
                       go_ret
                       exact ⟨by first | rfl | (simp [errW_none, errW_some] <;> rfl) | (simp [*, errW_none, errW_some] <;> rfl), by repeat (first | (with_reducible first | exact HB.out | apply below_alloc | apply pw_below_drewN | apply below_drew1 | refine below_set ?_ GE129.out) | exact HB.out)⟩
                     ·exact absurd rfl c77
                   ·rw [if_neg c62] at H
                    have c62b0 : (a4 == 0) = false := beq_eq_false_iff_ne.mpr c62
                    have c62b1 : (a4 != 0) = true := bne_iff_ne.mpr c62
                    by_cases c90 : true = true
                    ·clear c90
                     have H1 : (if t128 = 0 then ((field_Has.f t126 t127 a4).bind fun t133 => (some (t133 == false))) else (some false)) = some r := by rw [if_pos rfl] at H; exact H
                     clear H
                     have H := H1
                     clear H1
                     by_cases c91 : t128 = 0
                     ·rw [if_pos c91] at H
                      have c91b0 : (t128 == 0) = true := beq_iff_eq.mpr c91
                      have c91b1 : (t128 != 0) = false := bne_eq_false_iff_eq.mpr c91
                      clear c91
                      replace H := Option.bind_eq_some_iff.mp H
                      obtain ⟨t133, A920, H⟩ := H
                      replace H : (some (t133 == false)) = some r := H
                      have A92 := Aside0.mk A920
                      clear A920
                      obtain rfl := Option.some.inj H
                      go_wp2_with (first | ((with_reducible refine gate_callee (f := 10) rfl ?_); refine goesL_ (some 75) rfl rfl Tryd.func10 (by kernel_rfl) rfl #[.string ((((a0 ++ (⟨#[45]⟩ : ByteArray)) ++ a1) ++ (⟨#[47]⟩ : ByteArray)) ++ a2), .int .i64 a3] rfl (by (try simp only [List.map_toArray, List.map_cons, List.map_nil]); first | done | rfl | (simp only [List.length_drop, List.length_take]; rfl)) ?_; (with_reducible refine (field_Parse.calls ((((a0 ++ (⟨#[45]⟩ : ByteArray)) ++ a1) ++ (⟨#[47]⟩ : ByteArray)) ++ a2) a3 t126 t127 t128 _ (hT.keep (by repeat (first | (with_reducible first | exact HB.out | apply below_alloc | apply pw_below_drewN | apply below_drew1 | refine below_set ?_ GE129.out) | exact HB.out))) A27.out).mono ?_); rintro e w93 ⟨rfl, hb⟩; refine ⟨_, rfl, ?_⟩; have n0_ := Aside0.mk (below_step (by repeat (first | (with_reducible first | exact HB.out | apply below_alloc | apply pw_below_drewN | apply below_drew1) | exact HB.out)) hb); clear HB; have HB := n0_; clear n0_; (try clear hb); (try clear hb2); (try clear hk); (try clear hi)) | ((with_reducible refine gate_dst (N := 18) rfl ?_); (try (refine gate_guard (by rfl) ?_; dsimp only)); refine box_event ?hg (N := 18) ?hd (cs := #[.int .u64 0, .bool false]) (t := 25) ?hr ?_; (case hd => rfl); (case hg => rfl); (case hr => first | (go_simp; done) | (go_simp; rfl)); intro gb129 hg w94 hbox hb; have n0_ := Aside0.mk (below_step (by repeat (first | (with_reducible first | exact HB.out | apply below_alloc | apply pw_below_drewN | apply below_drew1) | exact HB.out)) hb); have n1_ := Aside0.mk (hbox); have n2_ := Aside0.mk ((by rw [hg]; exact (below_size (by repeat (first | (with_reducible first | exact HB.out | apply below_alloc | apply pw_below_drewN | apply below_drew1) | exact HB.out))) : w.heap.size ≤ gb129)); have n3_ := Aside0.mk ((by rw [hg]; exact (below_size (by repeat (first | (with_reducible first | exact HB.out | apply below_alloc | apply pw_below_drewN | apply below_drew1) | exact HB.out))) : w.heap.size ≤ gb129)); clear HB; have HB := n0_; have BK129 := n1_; have GW129 := n2_; have GE129 := n3_; clear n0_ n1_ n2_ n3_; clear hb hbox hg; have hcz95_0 : w94.cell? ⟨gb129, 0, none⟩ = some (.int .u64 0) := (blk_cell BK129.out 0).trans rfl; have hcz95_1 : w94.cell? ⟨gb129, 1, none⟩ = some (.bool false) := (blk_cell BK129.out 1).trans rfl; have hfz95_0 := blk_frozen BK129.out 0; have hfz95_1 := blk_frozen BK129.out 1) | (go_at_call 18; (with_reducible refine (field_Has.calls t126 t127 a4 t133 _ A92.out).mono ?_); rintro e w96 ⟨rfl, hb⟩; have n0_ := Aside0.mk (blk_below (g := gb129) (o := .cells #[.int .u64 t126, .bool t127] 25 (0, 0)) (by (with_reducible repeat (first | refine blk_drewN ?_ _ | refine blk_drew ?_ | refine blk_alloc ?_ _)); refine blk_put (cs := #[.int .u64 t126, .bool false]) ?_ 1 _ rfl; (with_reducible repeat (first | refine blk_drewN ?_ _ | refine blk_drew ?_ | refine blk_alloc ?_ _)); refine blk_put (cs := #[.int .u64 0, .bool false]) ?_ 0 _ rfl; (with_reducible repeat (first | refine blk_drewN ?_ _ | refine blk_drew ?_ | refine blk_alloc ?_ _)); exact BK129.out) hb); have n1_ := Aside0.mk (below_step (by repeat (first | (with_reducible first | exact HB.out | apply below_alloc | apply pw_below_drewN | apply below_drew1 | refine below_set ?_ GE129.out) | exact HB.out)) hb); clear BK129; clear HB; have BK129 := n0_; have HB := n1_; clear n0_ n1_; (try clear hb); (try clear hb2); (try clear hk); (try clear hi)))
                      go_ret
                      exact ⟨by first | rfl | (simp [errW_none, errW_some] <;> rfl) | (simp [*, errW_none, errW_some] <;> rfl), by repeat (first | (with_reducible first | exact HB.out | apply below_alloc | apply pw_below_drewN | apply below_drew1 | refine below_set ?_ GE129.out) | exact HB.out)⟩
                     ·rw [if_neg c91] at H
                      have c91b0 : (t128 == 0) = false := beq_eq_false_iff_ne.mpr c91
                      have c91b1 : (t128 != 0) = true := bne_iff_ne.mpr c91
                      obtain rfl := Option.some.inj H
                      go_wp2_with (first | ((with_reducible refine gate_callee (f := 10) rfl ?_); refine goesL_ (some 75) rfl rfl Tryd.func10 (by kernel_rfl) rfl #[.string ((((a0 ++ (⟨#[45]⟩ : ByteArray)) ++ a1) ++ (⟨#[47]⟩ : ByteArray)) ++ a2), .int .i64 a3] rfl (by (try simp only [List.map_toArray, List.map_cons, List.map_nil]); first | done | rfl | (simp only [List.length_drop, List.length_take]; rfl)) ?_; (with_reducible refine (field_Parse.calls ((((a0 ++ (⟨#[45]⟩ : ByteArray)) ++ a1) ++ (⟨#[47]⟩ : ByteArray)) ++ a2) a3 t126 t127 t128 _ (hT.keep (by repeat (first | (with_reducible first | exact HB.out | apply below_alloc | apply pw_below_drewN | apply below_drew1 | refine below_set ?_ GE129.out) | exact HB.out))) A27.out).mono ?_); rintro e w97 ⟨rfl, hb⟩; refine ⟨_, rfl, ?_⟩; have n0_ := Aside0.mk (below_step (by repeat (first | (with_reducible first | exact HB.out | apply below_alloc | apply pw_below_drewN | apply below_drew1) | exact HB.out)) hb); clear HB; have HB := n0_; clear n0_; (try clear hb); (try clear hb2); (try clear hk); (try clear hi)) | ((with_reducible refine gate_dst (N := 18) rfl ?_); (try (refine gate_guard (by rfl) ?_; dsimp only)); refine box_event ?hg (N := 18) ?hd (cs := #[.int .u64 0, .bool false]) (t := 25) ?hr ?_; (case hd => rfl); (case hg => rfl); (case hr => first | (go_simp; done) | (go_simp; rfl)); intro gb129 hg w98 hbox hb; have n0_ := Aside0.mk (below_step (by repeat (first | (with_reducible first | exact HB.out | apply below_alloc | apply pw_below_drewN | apply below_drew1) | exact HB.out)) hb); have n1_ := Aside0.mk (hbox); have n2_ := Aside0.mk ((by rw [hg]; exact (below_size (by repeat (first | (with_reducible first | exact HB.out | apply below_alloc | apply pw_below_drewN | apply below_drew1) | exact HB.out))) : w.heap.size ≤ gb129)); have n3_ := Aside0.mk ((by rw [hg]; exact (below_size (by repeat (first | (with_reducible first | exact HB.out | apply below_alloc | apply pw_below_drewN | apply below_drew1) | exact HB.out))) : w.heap.size ≤ gb129)); clear HB; have HB := n0_; have BK129 := n1_; have GW129 := n2_; have GE129 := n3_; clear n0_ n1_ n2_ n3_; clear hb hbox hg; have hcz99_0 : w98.cell? ⟨gb129, 0, none⟩ = some (.int .u64 0) := (blk_cell BK129.out 0).trans rfl; have hcz99_1 : w98.cell? ⟨gb129, 1, none⟩ = some (.bool false) := (blk_cell BK129.out 1).trans rfl; have hfz99_0 := blk_frozen BK129.out 0; have hfz99_1 := blk_frozen BK129.out 1))
                      go_ret
                      exact ⟨by first | rfl | (simp [errW_none, errW_some] <;> rfl) | (simp [*, errW_none, errW_some] <;> rfl), by repeat (first | (with_reducible first | exact HB.out | apply below_alloc | apply pw_below_drewN | apply below_drew1 | refine below_set ?_ GE129.out) | exact HB.out)⟩
                    ·exact absurd rfl c90
                 ·rw [if_neg c47] at H
                  have c47b0 : ((Int.tmod (wrap64 (a4 - t120)) t124) == 0) = false := beq_eq_false_iff_ne.mpr c47
                  have c47b1 : ((Int.tmod (wrap64 (a4 - t120)) t124) != 0) = true := bne_iff_ne.mpr c47
                  by_cases c103 : a4 = 0
                  ·rw [if_pos c103] at H
                   have c103b0 : (a4 == 0) = true := beq_iff_eq.mpr c103
                   have c103b1 : (a4 != 0) = false := bne_eq_false_iff_eq.mpr c103
                   clear c103
                   by_cases c104 : t122 = 7
                   ·rw [if_pos c104] at H
                    have c104b0 : (t122 == 7) = true := beq_iff_eq.mpr c104
                    have c104b1 : (t122 != 7) = false := bne_eq_false_iff_eq.mpr c104
                    clear c104
                    by_cases c105 : true = true
                    ·clear c105
                     have H1 : (if t128 = 0 then ((field_Has.f t126 t127 a4).bind fun t134 => (some (t134 == ((Int.tmod (wrap64 (7 - t120)) t124) == 0)))) else (some false)) = some r := by rw [if_pos rfl] at H; exact H
                     clear H
                     have H := H1
                     clear H1
                     by_cases c106 : t128 = 0
                     ·rw [if_pos c106] at H
                      have c106b0 : (t128 == 0) = true := beq_iff_eq.mpr c106
                      have c106b1 : (t128 != 0) = false := bne_eq_false_iff_eq.mpr c106
                      clear c106
                      replace H := Option.bind_eq_some_iff.mp H
                      obtain ⟨t134, A1070, H⟩ := H
                      replace H : (some (t134 == ((Int.tmod (wrap64 (7 - t120)) t124) == 0))) = some r := H
                      have A107 := Aside0.mk A1070
                      clear A1070
                      obtain rfl := Option.some.inj H
                      go_wp2_with (first | ((with_reducible refine gate_callee (f := 10) rfl ?_); refine goesL_ (some 75) rfl rfl Tryd.func10 (by kernel_rfl) rfl #[.string ((((a0 ++ (⟨#[45]⟩ : ByteArray)) ++ a1) ++ (⟨#[47]⟩ : ByteArray)) ++ a2), .int .i64 a3] rfl (by (try simp only [List.map_toArray, List.map_cons, List.map_nil]); first | done | rfl | (simp only [List.length_drop, List.length_take]; rfl)) ?_; (with_reducible refine (field_Parse.calls ((((a0 ++ (⟨#[45]⟩ : ByteArray)) ++ a1) ++ (⟨#[47]⟩ : ByteArray)) ++ a2) a3 t126 t127 t128 _ (hT.keep (by repeat (first | (with_reducible first | exact HB.out | apply below_alloc | apply pw_below_drewN | apply below_drew1 | refine below_set ?_ GE129.out) | exact HB.out))) A27.out).mono ?_); rintro e w108 ⟨rfl, hb⟩; refine ⟨_, rfl, ?_⟩; have n0_ := Aside0.mk (below_step (by repeat (first | (with_reducible first | exact HB.out | apply below_alloc | apply pw_below_drewN | apply below_drew1) | exact HB.out)) hb); clear HB; have HB := n0_; clear n0_; (try clear hb); (try clear hb2); (try clear hk); (try clear hi)) | ((with_reducible refine gate_dst (N := 18) rfl ?_); (try (refine gate_guard (by rfl) ?_; dsimp only)); refine box_event ?hg (N := 18) ?hd (cs := #[.int .u64 0, .bool false]) (t := 25) ?hr ?_; (case hd => rfl); (case hg => rfl); (case hr => first | (go_simp; done) | (go_simp; rfl)); intro gb129 hg w109 hbox hb; have n0_ := Aside0.mk (below_step (by repeat (first | (with_reducible first | exact HB.out | apply below_alloc | apply pw_below_drewN | apply below_drew1) | exact HB.out)) hb); have n1_ := Aside0.mk (hbox); have n2_ := Aside0.mk ((by rw [hg]; exact (below_size (by repeat (first | (with_reducible first | exact HB.out | apply below_alloc | apply pw_below_drewN | apply below_drew1) | exact HB.out))) : w.heap.size ≤ gb129)); have n3_ := Aside0.mk ((by rw [hg]; exact (below_size (by repeat (first | (with_reducible first | exact HB.out | apply below_alloc | apply pw_below_drewN | apply below_drew1) | exact HB.out))) : w.heap.size ≤ gb129)); clear HB; have HB := n0_; have BK129 := n1_; have GW129 := n2_; have GE129 := n3_; clear n0_ n1_ n2_ n3_; clear hb hbox hg; have hcz110_0 : w109.cell? ⟨gb129, 0, none⟩ = some (.int .u64 0) := (blk_cell BK129.out 0).trans rfl; have hcz110_1 : w109.cell? ⟨gb129, 1, none⟩ = some (.bool false) := (blk_cell BK129.out 1).trans rfl; have hfz110_0 := blk_frozen BK129.out 0; have hfz110_1 := blk_frozen BK129.out 1) | (go_at_call 18; (with_reducible refine (field_Has.calls t126 t127 a4 t134 _ A107.out).mono ?_); rintro e w111 ⟨rfl, hb⟩; have n0_ := Aside0.mk (blk_below (g := gb129) (o := .cells #[.int .u64 t126, .bool t127] 25 (0, 0)) (by (with_reducible repeat (first | refine blk_drewN ?_ _ | refine blk_drew ?_ | refine blk_alloc ?_ _)); refine blk_put (cs := #[.int .u64 t126, .bool false]) ?_ 1 _ rfl; (with_reducible repeat (first | refine blk_drewN ?_ _ | refine blk_drew ?_ | refine blk_alloc ?_ _)); refine blk_put (cs := #[.int .u64 0, .bool false]) ?_ 0 _ rfl; (with_reducible repeat (first | refine blk_drewN ?_ _ | refine blk_drew ?_ | refine blk_alloc ?_ _)); exact BK129.out) hb); have n1_ := Aside0.mk (below_step (by repeat (first | (with_reducible first | exact HB.out | apply below_alloc | apply pw_below_drewN | apply below_drew1 | refine below_set ?_ GE129.out) | exact HB.out)) hb); clear BK129; clear HB; have BK129 := n0_; have HB := n1_; clear n0_ n1_; (try clear hb); (try clear hb2); (try clear hk); (try clear hi)))
                      go_ret
                      exact ⟨by first | rfl | (simp [errW_none, errW_some] <;> rfl) | (simp [*, errW_none, errW_some] <;> rfl), by repeat (first | (with_reducible first | exact HB.out | apply below_alloc | apply pw_below_drewN | apply below_drew1 | refine below_set ?_ GE129.out) | exact HB.out)⟩
                     ·rw [if_neg c106] at H
                      have c106b0 : (t128 == 0) = false := beq_eq_false_iff_ne.mpr c106
                      have c106b1 : (t128 != 0) = true := bne_iff_ne.mpr c106
                      obtain rfl := Option.some.inj H
                      go_wp2_with (first | ((with_reducible refine gate_callee (f := 10) rfl ?_); refine goesL_ (some 75) rfl rfl Tryd.func10 (by kernel_rfl) rfl #[.string ((((a0 ++ (⟨#[45]⟩ : ByteArray)) ++ a1) ++ (⟨#[47]⟩ : ByteArray)) ++ a2), .int .i64 a3] rfl (by (try simp only [List.map_toArray, List.map_cons, List.map_nil]); first | done | rfl | (simp only [List.length_drop, List.length_take]; rfl)) ?_; (with_reducible refine (field_Parse.calls ((((a0 ++ (⟨#[45]⟩ : ByteArray)) ++ a1) ++ (⟨#[47]⟩ : ByteArray)) ++ a2) a3 t126 t127 t128 _ (hT.keep (by repeat (first | (with_reducible first | exact HB.out | apply below_alloc | apply pw_below_drewN | apply below_drew1 | refine below_set ?_ GE129.out) | exact HB.out))) A27.out).mono ?_); rintro e w112 ⟨rfl, hb⟩; refine ⟨_, rfl, ?_⟩; have n0_ := Aside0.mk (below_step (by repeat (first | (with_reducible first | exact HB.out | apply below_alloc | apply pw_below_drewN | apply below_drew1) | exact HB.out)) hb); clear HB; have HB := n0_; clear n0_; (try clear hb); (try clear hb2); (try clear hk); (try clear hi)) | ((with_reducible refine gate_dst (N := 18) rfl ?_); (try (refine gate_guard (by rfl) ?_; dsimp only)); refine box_event ?hg (N := 18) ?hd (cs := #[.int .u64 0, .bool false]) (t := 25) ?hr ?_; (case hd => rfl); (case hg => rfl); (case hr => first | (go_simp; done) | (go_simp; rfl)); intro gb129 hg w113 hbox hb; have n0_ := Aside0.mk (below_step (by repeat (first | (with_reducible first | exact HB.out | apply below_alloc | apply pw_below_drewN | apply below_drew1) | exact HB.out)) hb); have n1_ := Aside0.mk (hbox); have n2_ := Aside0.mk ((by rw [hg]; exact (below_size (by repeat (first | (with_reducible first | exact HB.out | apply below_alloc | apply pw_below_drewN | apply below_drew1) | exact HB.out))) : w.heap.size ≤ gb129)); have n3_ := Aside0.mk ((by rw [hg]; exact (below_size (by repeat (first | (with_reducible first | exact HB.out | apply below_alloc | apply pw_below_drewN | apply below_drew1) | exact HB.out))) : w.heap.size ≤ gb129)); clear HB; have HB := n0_; have BK129 := n1_; have GW129 := n2_; have GE129 := n3_; clear n0_ n1_ n2_ n3_; clear hb hbox hg; have hcz114_0 : w113.cell? ⟨gb129, 0, none⟩ = some (.int .u64 0) := (blk_cell BK129.out 0).trans rfl; have hcz114_1 : w113.cell? ⟨gb129, 1, none⟩ = some (.bool false) := (blk_cell BK129.out 1).trans rfl; have hfz114_0 := blk_frozen BK129.out 0; have hfz114_1 := blk_frozen BK129.out 1))
                      go_ret
                      exact ⟨by first | rfl | (simp [errW_none, errW_some] <;> rfl) | (simp [*, errW_none, errW_some] <;> rfl), by repeat (first | (with_reducible first | exact HB.out | apply below_alloc | apply pw_below_drewN | apply below_drew1 | refine below_set ?_ GE129.out) | exact HB.out)⟩
                    ·exact absurd rfl c105
                   ·rw [if_neg c104] at H
                    have c104b0 : (t122 == 7) = false := beq_eq_false_iff_ne.mpr c104
                    have c104b1 : (t122 != 7) = true := bne_iff_ne.mpr c104
                    by_cases c118 : true = true
                    ·clear c118
                     have H1 : (if t128 = 0 then ((field_Has.f t126 t127 a4).bind fun t135 => (some (t135 == false))) else (some false)) = some r := by rw [if_pos rfl] at H; exact H
                     clear H
                     have H := H1
                     clear H1
                     by_cases c119 : t128 = 0
                     ·rw [if_pos c119] at H
                      have c119b0 : (t128 == 0) = true := beq_iff_eq.mpr c119
                      have c119b1 : (t128 != 0) = false := bne_eq_false_iff_eq.mpr c119
                      clear c119
                      replace H := Option.bind_eq_some_iff.mp H
                      obtain ⟨t135, A1200, H⟩ := H
                      replace H : (some (t135 == false)) = some r := H
                      have A120 := Aside0.mk A1200
                      clear A1200
                      obtain rfl := Option.some.inj H
                      go_wp2_with (first | ((with_reducible refine gate_callee (f := 10) rfl ?_); refine goesL_ (some 75) rfl rfl Tryd.func10 (by kernel_rfl) rfl #[.string ((((a0 ++ (⟨#[45]⟩ : ByteArray)) ++ a1) ++ (⟨#[47]⟩ : ByteArray)) ++ a2), .int .i64 a3] rfl (by (try simp only [List.map_toArray, List.map_cons, List.map_nil]); first | done | rfl | (simp only [List.length_drop, List.length_take]; rfl)) ?_; (with_reducible refine (field_Parse.calls ((((a0 ++ (⟨#[45]⟩ : ByteArray)) ++ a1) ++ (⟨#[47]⟩ : ByteArray)) ++ a2) a3 t126 t127 t128 _ (hT.keep (by repeat (first | (with_reducible first | exact HB.out | apply below_alloc | apply pw_below_drewN | apply below_drew1 | refine below_set ?_ GE129.out) | exact HB.out))) A27.out).mono ?_); rintro e w121 ⟨rfl, hb⟩; refine ⟨_, rfl, ?_⟩; have n0_ := Aside0.mk (below_step (by repeat (first | (with_reducible first | exact HB.out | apply below_alloc | apply pw_below_drewN | apply below_drew1) | exact HB.out)) hb); clear HB; have HB := n0_; clear n0_; (try clear hb); (try clear hb2); (try clear hk); (try clear hi)) | ((with_reducible refine gate_dst (N := 18) rfl ?_); (try (refine gate_guard (by rfl) ?_; dsimp only)); refine box_event ?hg (N := 18) ?hd (cs := #[.int .u64 0, .bool false]) (t := 25) ?hr ?_; (case hd => rfl); (case hg => rfl); (case hr => first | (go_simp; done) | (go_simp; rfl)); intro gb129 hg w122 hbox hb; have n0_ := Aside0.mk (below_step (by repeat (first | (with_reducible first | exact HB.out | apply below_alloc | apply pw_below_drewN | apply below_drew1) | exact HB.out)) hb); have n1_ := Aside0.mk (hbox); have n2_ := Aside0.mk ((by rw [hg]; exact (below_size (by repeat (first | (with_reducible first | exact HB.out | apply below_alloc | apply pw_below_drewN | apply below_drew1) | exact HB.out))) : w.heap.size ≤ gb129)); have n3_ := Aside0.mk ((by rw [hg]; exact (below_size (by repeat (first | (with_reducible first | exact HB.out | apply below_alloc | apply pw_below_drewN | apply below_drew1) | exact HB.out))) : w.heap.size ≤ gb129)); clear HB; have HB := n0_; have BK129 := n1_; have GW129 := n2_; have GE129 := n3_; clear n0_ n1_ n2_ n3_; clear hb hbox hg; have hcz123_0 : w122.cell? ⟨gb129, 0, none⟩ = some (.int .u64 0) := (blk_cell BK129.out 0).trans rfl; have hcz123_1 : w122.cell? ⟨gb129, 1, none⟩ = some (.bool false) := (blk_cell BK129.out 1).trans rfl; have hfz123_0 := blk_frozen BK129.out 0; have hfz123_1 := blk_frozen BK129.out 1) | (go_at_call 18; (with_reducible refine (field_Has.calls t126 t127 a4 t135 _ A120.out).mono ?_); rintro e w124 ⟨rfl, hb⟩; have n0_ := Aside0.mk (blk_below (g := gb129) (o := .cells #[.int .u64 t126, .bool t127] 25 (0, 0)) (by (with_reducible repeat (first | refine blk_drewN ?_ _ | refine blk_drew ?_ | refine blk_alloc ?_ _)); refine blk_put (cs := #[.int .u64 t126, .bool false]) ?_ 1 _ rfl; (with_reducible repeat (first | refine blk_drewN ?_ _ | refine blk_drew ?_ | refine blk_alloc ?_ _)); refine blk_put (cs := #[.int .u64 0, .bool false]) ?_ 0 _ rfl; (with_reducible repeat (first | refine blk_drewN ?_ _ | refine blk_drew ?_ | refine blk_alloc ?_ _)); exact BK129.out) hb); have n1_ := Aside0.mk (below_step (by repeat (first | (with_reducible first | exact HB.out | apply below_alloc | apply pw_below_drewN | apply below_drew1 | refine below_set ?_ GE129.out) | exact HB.out)) hb); clear BK129; clear HB; have BK129 := n0_; have HB := n1_; clear n0_ n1_; (try clear hb); (try clear hb2); (try clear hk); (try clear hi)))
                      go_ret
                      exact ⟨by first | rfl | (simp [errW_none, errW_some] <;> rfl) | (simp [*, errW_none, errW_some] <;> rfl), by repeat (first | (with_reducible first | exact HB.out | apply below_alloc | apply pw_below_drewN | apply below_drew1 | refine below_set ?_ GE129.out) | exact HB.out)⟩
                     ·rw [if_neg c119] at H
                      have c119b0 : (t128 == 0) = false := beq_eq_false_iff_ne.mpr c119
                      have c119b1 : (t128 != 0) = true := bne_iff_ne.mpr c119
                      obtain rfl := Option.some.inj H
                      go_wp2_with (first | ((with_reducible refine gate_callee (f := 10) rfl ?_); refine goesL_ (some 75) rfl rfl Tryd.func10 (by kernel_rfl) rfl #[.string ((((a0 ++ (⟨#[45]⟩ : ByteArray)) ++ a1) ++ (⟨#[47]⟩ : ByteArray)) ++ a2), .int .i64 a3] rfl (by (try simp only [List.map_toArray, List.map_cons, List.map_nil]); first | done | rfl | (simp only [List.length_drop, List.length_take]; rfl)) ?_; (with_reducible refine (field_Parse.calls ((((a0 ++ (⟨#[45]⟩ : ByteArray)) ++ a1) ++ (⟨#[47]⟩ : ByteArray)) ++ a2) a3 t126 t127 t128 _ (hT.keep (by repeat (first | (with_reducible first | exact HB.out | apply below_alloc | apply pw_below_drewN | apply below_drew1 | refine below_set ?_ GE129.out) | exact HB.out))) A27.out).mono ?_); rintro e w125 ⟨rfl, hb⟩; refine ⟨_, rfl, ?_⟩; have n0_ := Aside0.mk (below_step (by repeat (first | (with_reducible first | exact HB.out | apply below_alloc | apply pw_below_drewN | apply below_drew1) | exact HB.out)) hb); clear HB; have HB := n0_; clear n0_; (try clear hb); (try clear hb2); (try clear hk); (try clear hi)) | ((with_reducible refine gate_dst (N := 18) rfl ?_); (try (refine gate_guard (by rfl) ?_; dsimp only)); refine box_event ?hg (N := 18) ?hd (cs := #[.int .u64 0, .bool false]) (t := 25) ?hr ?_; (case hd => rfl); (case hg => rfl); (case hr => first | (go_simp; done) | (go_simp; rfl)); intro gb129 hg w126 hbox hb; have n0_ := Aside0.mk (below_step (by repeat (first | (with_reducible first | exact HB.out | apply below_alloc | apply pw_below_drewN | apply below_drew1) | exact HB.out)) hb); have n1_ := Aside0.mk (hbox); have n2_ := Aside0.mk ((by rw [hg]; exact (below_size (by repeat (first | (with_reducible first | exact HB.out | apply below_alloc | apply pw_below_drewN | apply below_drew1) | exact HB.out))) : w.heap.size ≤ gb129)); have n3_ := Aside0.mk ((by rw [hg]; exact (below_size (by repeat (first | (with_reducible first | exact HB.out | apply below_alloc | apply pw_below_drewN | apply below_drew1) | exact HB.out))) : w.heap.size ≤ gb129)); clear HB; have HB := n0_; have BK129 := n1_; have GW129 := n2_; have GE129 := n3_; clear n0_ n1_ n2_ n3_; clear hb hbox hg; have hcz127_0 : w126.cell? ⟨gb129, 0, none⟩ = some (.int .u64 0) := (blk_cell BK129.out 0).trans rfl; have hcz127_1 : w126.cell? ⟨gb129, 1, none⟩ = some (.bool false) := (blk_cell BK129.out 1).trans rfl; have hfz127_0 := blk_frozen BK129.out 0; have hfz127_1 := blk_frozen BK129.out 1))
                      go_ret
                      exact ⟨by first | rfl | (simp [errW_none, errW_some] <;> rfl) | (simp [*, errW_none, errW_some] <;> rfl), by repeat (first | (with_reducible first | exact HB.out | apply below_alloc | apply pw_below_drewN | apply below_drew1 | refine below_set ?_ GE129.out) | exact HB.out)⟩
                    ·exact absurd rfl c118
                  ·rw [if_neg c103] at H
                   have c103b0 : (a4 == 0) = false := beq_eq_false_iff_ne.mpr c103
                   have c103b1 : (a4 != 0) = true := bne_iff_ne.mpr c103
                   by_cases c131 : true = true
                   ·clear c131
                    have H1 : (if t128 = 0 then ((field_Has.f t126 t127 a4).bind fun t136 => (some (t136 == false))) else (some false)) = some r := by rw [if_pos rfl] at H; exact H
                    clear H
                    have H := H1
                    clear H1
                    by_cases c132 : t128 = 0
                    ·rw [if_pos c132] at H
                     have c132b0 : (t128 == 0) = true := beq_iff_eq.mpr c132
                     have c132b1 : (t128 != 0) = false := bne_eq_false_iff_eq.mpr c132
                     clear c132
                     replace H := Option.bind_eq_some_iff.mp H
                     obtain ⟨t136, A1330, H⟩ := H
                     replace H : (some (t136 == false)) = some r := H
                     have A133 := Aside0.mk A1330
                     clear A1330
                     obtain rfl := Option.some.inj H
                     go_wp2_with (first | ((with_reducible refine gate_callee (f := 10) rfl ?_); refine goesL_ (some 75) rfl rfl Tryd.func10 (by kernel_rfl) rfl #[.string ((((a0 ++ (⟨#[45]⟩ : ByteArray)) ++ a1) ++ (⟨#[47]⟩ : ByteArray)) ++ a2), .int .i64 a3] rfl (by (try simp only [List.map_toArray, List.map_cons, List.map_nil]); first | done | rfl | (simp only [List.length_drop, List.length_take]; rfl)) ?_; (with_reducible refine (field_Parse.calls ((((a0 ++ (⟨#[45]⟩ : ByteArray)) ++ a1) ++ (⟨#[47]⟩ : ByteArray)) ++ a2) a3 t126 t127 t128 _ (hT.keep (by repeat (first | (with_reducible first | exact HB.out | apply below_alloc | apply pw_below_drewN | apply below_drew1 | refine below_set ?_ GE129.out) | exact HB.out))) A27.out).mono ?_); rintro e w134 ⟨rfl, hb⟩; refine ⟨_, rfl, ?_⟩; have n0_ := Aside0.mk (below_step (by repeat (first | (with_reducible first | exact HB.out | apply below_alloc | apply pw_below_drewN | apply below_drew1) | exact HB.out)) hb); clear HB; have HB := n0_; clear n0_; (try clear hb); (try clear hb2); (try clear hk); (try clear hi)) | ((with_reducible refine gate_dst (N := 18) rfl ?_); (try (refine gate_guard (by rfl) ?_; dsimp only)); refine box_event ?hg (N := 18) ?hd (cs := #[.int .u64 0, .bool false]) (t := 25) ?hr ?_; (case hd => rfl); (case hg => rfl); (case hr => first | (go_simp; done) | (go_simp; rfl)); intro gb129 hg w135 hbox hb; have n0_ := Aside0.mk (below_step (by repeat (first | (with_reducible first | exact HB.out | apply below_alloc | apply pw_below_drewN | apply below_drew1) | exact HB.out)) hb); have n1_ := Aside0.mk (hbox); have n2_ := Aside0.mk ((by rw [hg]; exact (below_size (by repeat (first | (with_reducible first | exact HB.out | apply below_alloc | apply pw_below_drewN | apply below_drew1) | exact HB.out))) : w.heap.size ≤ gb129)); have n3_ := Aside0.mk ((by rw [hg]; exact (below_size (by repeat (first | (with_reducible first | exact HB.out | apply below_alloc | apply pw_below_drewN | apply below_drew1) | exact HB.out))) : w.heap.size ≤ gb129)); clear HB; have HB := n0_; have BK129 := n1_; have GW129 := n2_; have GE129 := n3_; clear n0_ n1_ n2_ n3_; clear hb hbox hg; have hcz136_0 : w135.cell? ⟨gb129, 0, none⟩ = some (.int .u64 0) := (blk_cell BK129.out 0).trans rfl; have hcz136_1 : w135.cell? ⟨gb129, 1, none⟩ = some (.bool false) := (blk_cell BK129.out 1).trans rfl; have hfz136_0 := blk_frozen BK129.out 0; have hfz136_1 := blk_frozen BK129.out 1) | (go_at_call 18; (with_reducible refine (field_Has.calls t126 t127 a4 t136 _ A133.out).mono ?_); rintro e w137 ⟨rfl, hb⟩; have n0_ := Aside0.mk (blk_below (g := gb129) (o := .cells #[.int .u64 t126, .bool t127] 25 (0, 0)) (by (with_reducible repeat (first | refine blk_drewN ?_ _ | refine blk_drew ?_ | refine blk_alloc ?_ _)); refine blk_put (cs := #[.int .u64 t126, .bool false]) ?_ 1 _ rfl; (with_reducible repeat (first | refine blk_drewN ?_ _ | refine blk_drew ?_ | refine blk_alloc ?_ _)); refine blk_put (cs := #[.int .u64 0, .bool false]) ?_ 0 _ rfl; (with_reducible repeat (first | refine blk_drewN ?_ _ | refine blk_drew ?_ | refine blk_alloc ?_ _)); exact BK129.out) hb); have n1_ := Aside0.mk (below_step (by repeat (first | (with_reducible first | exact HB.out | apply below_alloc | apply pw_below_drewN | apply below_drew1 | refine below_set ?_ GE129.out) | exact HB.out)) hb); clear BK129; clear HB; have BK129 := n0_; have HB := n1_; clear n0_ n1_; (try clear hb); (try clear hb2); (try clear hk); (try clear hi)))
                     go_ret
                     exact ⟨by first | rfl | (simp [errW_none, errW_some] <;> rfl) | (simp [*, errW_none, errW_some] <;> rfl), by repeat (first | (with_reducible first | exact HB.out | apply below_alloc | apply pw_below_drewN | apply below_drew1 | refine below_set ?_ GE129.out) | exact HB.out)⟩
                    ·rw [if_neg c132] at H
                     have c132b0 : (t128 == 0) = false := beq_eq_false_iff_ne.mpr c132
                     have c132b1 : (t128 != 0) = true := bne_iff_ne.mpr c132
                     obtain rfl := Option.some.inj H
                     go_wp2_with (first | ((with_reducible refine gate_callee (f := 10) rfl ?_); refine goesL_ (some 75) rfl rfl Tryd.func10 (by kernel_rfl) rfl #[.string ((((a0 ++ (⟨#[45]⟩ : ByteArray)) ++ a1) ++ (⟨#[47]⟩ : ByteArray)) ++ a2), .int .i64 a3] rfl (by (try simp only [List.map_toArray, List.map_cons, List.map_nil]); first | done | rfl | (simp only [List.length_drop, List.length_take]; rfl)) ?_; (with_reducible refine (field_Parse.calls ((((a0 ++ (⟨#[45]⟩ : ByteArray)) ++ a1) ++ (⟨#[47]⟩ : ByteArray)) ++ a2) a3 t126 t127 t128 _ (hT.keep (by repeat (first | (with_reducible first | exact HB.out | apply below_alloc | apply pw_below_drewN | apply below_drew1 | refine below_set ?_ GE129.out) | exact HB.out))) A27.out).mono ?_); rintro e w138 ⟨rfl, hb⟩; refine ⟨_, rfl, ?_⟩; have n0_ := Aside0.mk (below_step (by repeat (first | (with_reducible first | exact HB.out | apply below_alloc | apply pw_below_drewN | apply below_drew1) | exact HB.out)) hb); clear HB; have HB := n0_; clear n0_; (try clear hb); (try clear hb2); (try clear hk); (try clear hi)) | ((with_reducible refine gate_dst (N := 18) rfl ?_); (try (refine gate_guard (by rfl) ?_; dsimp only)); refine box_event ?hg (N := 18) ?hd (cs := #[.int .u64 0, .bool false]) (t := 25) ?hr ?_; (case hd => rfl); (case hg => rfl); (case hr => first | (go_simp; done) | (go_simp; rfl)); intro gb129 hg w139 hbox hb; have n0_ := Aside0.mk (below_step (by repeat (first | (with_reducible first | exact HB.out | apply below_alloc | apply pw_below_drewN | apply below_drew1) | exact HB.out)) hb); have n1_ := Aside0.mk (hbox); have n2_ := Aside0.mk ((by rw [hg]; exact (below_size (by repeat (first | (with_reducible first | exact HB.out | apply below_alloc | apply pw_below_drewN | apply below_drew1) | exact HB.out))) : w.heap.size ≤ gb129)); have n3_ := Aside0.mk ((by rw [hg]; exact (below_size (by repeat (first | (with_reducible first | exact HB.out | apply below_alloc | apply pw_below_drewN | apply below_drew1) | exact HB.out))) : w.heap.size ≤ gb129)); clear HB; have HB := n0_; have BK129 := n1_; have GW129 := n2_; have GE129 := n3_; clear n0_ n1_ n2_ n3_; clear hb hbox hg; have hcz140_0 : w139.cell? ⟨gb129, 0, none⟩ = some (.int .u64 0) := (blk_cell BK129.out 0).trans rfl; have hcz140_1 : w139.cell? ⟨gb129, 1, none⟩ = some (.bool false) := (blk_cell BK129.out 1).trans rfl; have hfz140_0 := blk_frozen BK129.out 0; have hfz140_1 := blk_frozen BK129.out 1))
                     go_ret
                     exact ⟨by first | rfl | (simp [errW_none, errW_some] <;> rfl) | (simp [*, errW_none, errW_some] <;> rfl), by repeat (first | (with_reducible first | exact HB.out | apply below_alloc | apply pw_below_drewN | apply below_drew1 | refine below_set ?_ GE129.out) | exact HB.out)⟩
                   ·exact absurd rfl c131
                ·rw [if_neg c46] at H
                 have c46b0 : (a3 == 4) = false := beq_eq_false_iff_ne.mpr c46
                 have c46b1 : (a3 != 4) = true := bne_iff_ne.mpr c46
                 by_cases c144 : true = true
                 ·clear c144
                  have H1 : (if t128 = 0 then ((field_Has.f t126 t127 a4).bind fun t137 => (some (t137 == ((Int.tmod (wrap64 (a4 - t120)) t124) == 0)))) else (some false)) = some r := by rw [if_pos rfl] at H; exact H
                  clear H
                  have H := H1
                  clear H1
                  by_cases c145 : t128 = 0
                  ·rw [if_pos c145] at H
                   have c145b0 : (t128 == 0) = true := beq_iff_eq.mpr c145
                   have c145b1 : (t128 != 0) = false := bne_eq_false_iff_eq.mpr c145
                   clear c145
                   replace H := Option.bind_eq_some_iff.mp H
                   obtain ⟨t137, A1460, H⟩ := H
                   replace H : (some (t137 == ((Int.tmod (wrap64 (a4 - t120)) t124) == 0))) = some r := H
                   have A146 := Aside0.mk A1460
                   clear A1460
                   obtain rfl := Option.some.inj H
                   go_wp2_with (first | ((with_reducible refine gate_callee (f := 10) rfl ?_); refine goesL_ (some 75) rfl rfl Tryd.func10 (by kernel_rfl) rfl #[.string ((((a0 ++ (⟨#[45]⟩ : ByteArray)) ++ a1) ++ (⟨#[47]⟩ : ByteArray)) ++ a2), .int .i64 a3] rfl (by (try simp only [List.map_toArray, List.map_cons, List.map_nil]); first | done | rfl | (simp only [List.length_drop, List.length_take]; rfl)) ?_; (with_reducible refine (field_Parse.calls ((((a0 ++ (⟨#[45]⟩ : ByteArray)) ++ a1) ++ (⟨#[47]⟩ : ByteArray)) ++ a2) a3 t126 t127 t128 _ (hT.keep (by repeat (first | (with_reducible first | exact HB.out | apply below_alloc | apply pw_below_drewN | apply below_drew1 | refine below_set ?_ GE129.out) | exact HB.out))) A27.out).mono ?_); rintro e w147 ⟨rfl, hb⟩; refine ⟨_, rfl, ?_⟩; have n0_ := Aside0.mk (below_step (by repeat (first | (with_reducible first | exact HB.out | apply below_alloc | apply pw_below_drewN | apply below_drew1) | exact HB.out)) hb); clear HB; have HB := n0_; clear n0_; (try clear hb); (try clear hb2); (try clear hk); (try clear hi)) | ((with_reducible refine gate_dst (N := 18) rfl ?_); (try (refine gate_guard (by rfl) ?_; dsimp only)); refine box_event ?hg (N := 18) ?hd (cs := #[.int .u64 0, .bool false]) (t := 25) ?hr ?_; (case hd => rfl); (case hg => rfl); (case hr => first | (go_simp; done) | (go_simp; rfl)); intro gb129 hg w148 hbox hb; have n0_ := Aside0.mk (below_step (by repeat (first | (with_reducible first | exact HB.out | apply below_alloc | apply pw_below_drewN | apply below_drew1) | exact HB.out)) hb); have n1_ := Aside0.mk (hbox); have n2_ := Aside0.mk ((by rw [hg]; exact (below_size (by repeat (first | (with_reducible first | exact HB.out | apply below_alloc | apply pw_below_drewN | apply below_drew1) | exact HB.out))) : w.heap.size ≤ gb129)); have n3_ := Aside0.mk ((by rw [hg]; exact (below_size (by repeat (first | (with_reducible first | exact HB.out | apply below_alloc | apply pw_below_drewN | apply below_drew1) | exact HB.out))) : w.heap.size ≤ gb129)); clear HB; have HB := n0_; have BK129 := n1_; have GW129 := n2_; have GE129 := n3_; clear n0_ n1_ n2_ n3_; clear hb hbox hg; have hcz149_0 : w148.cell? ⟨gb129, 0, none⟩ = some (.int .u64 0) := (blk_cell BK129.out 0).trans rfl; have hcz149_1 : w148.cell? ⟨gb129, 1, none⟩ = some (.bool false) := (blk_cell BK129.out 1).trans rfl; have hfz149_0 := blk_frozen BK129.out 0; have hfz149_1 := blk_frozen BK129.out 1) | (go_at_call 18; (with_reducible refine (field_Has.calls t126 t127 a4 t137 _ A146.out).mono ?_); rintro e w150 ⟨rfl, hb⟩; have n0_ := Aside0.mk (blk_below (g := gb129) (o := .cells #[.int .u64 t126, .bool t127] 25 (0, 0)) (by (with_reducible repeat (first | refine blk_drewN ?_ _ | refine blk_drew ?_ | refine blk_alloc ?_ _)); refine blk_put (cs := #[.int .u64 t126, .bool false]) ?_ 1 _ rfl; (with_reducible repeat (first | refine blk_drewN ?_ _ | refine blk_drew ?_ | refine blk_alloc ?_ _)); refine blk_put (cs := #[.int .u64 0, .bool false]) ?_ 0 _ rfl; (with_reducible repeat (first | refine blk_drewN ?_ _ | refine blk_drew ?_ | refine blk_alloc ?_ _)); exact BK129.out) hb); have n1_ := Aside0.mk (below_step (by repeat (first | (with_reducible first | exact HB.out | apply below_alloc | apply pw_below_drewN | apply below_drew1 | refine below_set ?_ GE129.out) | exact HB.out)) hb); clear BK129; clear HB; have BK129 := n0_; have HB := n1_; clear n0_ n1_; (try clear hb); (try clear hb2); (try clear hk); (try clear hi)))
                   go_ret
                   exact ⟨by first | rfl | (simp [errW_none, errW_some] <;> rfl) | (simp [*, errW_none, errW_some] <;> rfl), by repeat (first | (with_reducible first | exact HB.out | apply below_alloc | apply pw_below_drewN | apply below_drew1 | refine below_set ?_ GE129.out) | exact HB.out)⟩
                  ·rw [if_neg c145] at H
                   have c145b0 : (t128 == 0) = false := beq_eq_false_iff_ne.mpr c145
                   have c145b1 : (t128 != 0) = true := bne_iff_ne.mpr c145
                   obtain rfl := Option.some.inj H
                   go_wp2_with (first | ((with_reducible refine gate_callee (f := 10) rfl ?_); refine goesL_ (some 75) rfl rfl Tryd.func10 (by kernel_rfl) rfl #[.string ((((a0 ++ (⟨#[45]⟩ : ByteArray)) ++ a1) ++ (⟨#[47]⟩ : ByteArray)) ++ a2), .int .i64 a3] rfl (by (try simp only [List.map_toArray, List.map_cons, List.map_nil]); first | done | rfl | (simp only [List.length_drop, List.length_take]; rfl)) ?_; (with_reducible refine (field_Parse.calls ((((a0 ++ (⟨#[45]⟩ : ByteArray)) ++ a1) ++ (⟨#[47]⟩ : ByteArray)) ++ a2) a3 t126 t127 t128 _ (hT.keep (by repeat (first | (with_reducible first | exact HB.out | apply below_alloc | apply pw_below_drewN | apply below_drew1 | refine below_set ?_ GE129.out) | exact HB.out))) A27.out).mono ?_); rintro e w151 ⟨rfl, hb⟩; refine ⟨_, rfl, ?_⟩; have n0_ := Aside0.mk (below_step (by repeat (first | (with_reducible first | exact HB.out | apply below_alloc | apply pw_below_drewN | apply below_drew1) | exact HB.out)) hb); clear HB; have HB := n0_; clear n0_; (try clear hb); (try clear hb2); (try clear hk); (try clear hi)) | ((with_reducible refine gate_dst (N := 18) rfl ?_); (try (refine gate_guard (by rfl) ?_; dsimp only)); refine box_event ?hg (N := 18) ?hd (cs := #[.int .u64 0, .bool false]) (t := 25) ?hr ?_; (case hd => rfl); (case hg => rfl); (case hr => first | (go_simp; done) | (go_simp; rfl)); intro gb129 hg w152 hbox hb; have n0_ := Aside0.mk (below_step (by repeat (first | (with_reducible first | exact HB.out | apply below_alloc | apply pw_below_drewN | apply below_drew1) | exact HB.out)) hb); have n1_ := Aside0.mk (hbox); have n2_ := Aside0.mk ((by rw [hg]; exact (below_size (by repeat (first | (with_reducible first | exact HB.out | apply below_alloc | apply pw_below_drewN | apply below_drew1) | exact HB.out))) : w.heap.size ≤ gb129)); have n3_ := Aside0.mk ((by rw [hg]; exact (below_size (by repeat (first | (with_reducible first | exact HB.out | apply below_alloc | apply pw_below_drewN | apply below_drew1) | exact HB.out))) : w.heap.size ≤ gb129)); clear HB; have HB := n0_; have BK129 := n1_; have GW129 := n2_; have GE129 := n3_; clear n0_ n1_ n2_ n3_; clear hb hbox hg; have hcz153_0 : w152.cell? ⟨gb129, 0, none⟩ = some (.int .u64 0) := (blk_cell BK129.out 0).trans rfl; have hcz153_1 : w152.cell? ⟨gb129, 1, none⟩ = some (.bool false) := (blk_cell BK129.out 1).trans rfl; have hfz153_0 := blk_frozen BK129.out 0; have hfz153_1 := blk_frozen BK129.out 1))
                   go_ret
                   exact ⟨by first | rfl | (simp [errW_none, errW_some] <;> rfl) | (simp [*, errW_none, errW_some] <;> rfl), by repeat (first | (with_reducible first | exact HB.out | apply below_alloc | apply pw_below_drewN | apply below_drew1 | refine below_set ?_ GE129.out) | exact HB.out)⟩
                 ·exact absurd rfl c144
               ·rw [if_neg c45] at H
                have c45b0 : decide (a4 ≤ t122) = false := decide_eq_false c45
                clear c45
                by_cases c157 : a3 = 4
                ·rw [if_pos c157] at H
                 have c157b0 : (a3 == 4) = true := beq_iff_eq.mpr c157
                 have c157b1 : (a3 != 4) = false := bne_eq_false_iff_eq.mpr c157
                 clear c157
                 by_cases c158 : a4 = 0
                 ·rw [if_pos c158] at H
                  have c158b0 : (a4 == 0) = true := beq_iff_eq.mpr c158
                  have c158b1 : (a4 != 0) = false := bne_eq_false_iff_eq.mpr c158
                  clear c158
                  by_cases c159 : t122 = 7
                  ·rw [if_pos c159] at H
                   have c159b0 : (t122 == 7) = true := beq_iff_eq.mpr c159
                   have c159b1 : (t122 != 7) = false := bne_eq_false_iff_eq.mpr c159
                   clear c159
                   by_cases c160 : true = true
                   ·clear c160
                    have H1 : (if t128 = 0 then ((field_Has.f t126 t127 a4).bind fun t138 => (some (t138 == ((Int.tmod (wrap64 (7 - t120)) t124) == 0)))) else (some false)) = some r := by rw [if_pos rfl] at H; exact H
                    clear H
                    have H := H1
                    clear H1
                    by_cases c161 : t128 = 0
                    ·rw [if_pos c161] at H
                     have c161b0 : (t128 == 0) = true := beq_iff_eq.mpr c161
                     have c161b1 : (t128 != 0) = false := bne_eq_false_iff_eq.mpr c161
                     clear c161
                     replace H := Option.bind_eq_some_iff.mp H
                     obtain ⟨t138, A1620, H⟩ := H
                     replace H : (some (t138 == ((Int.tmod (wrap64 (7 - t120)) t124) == 0))) = some r := H
                     have A162 := Aside0.mk A1620
                     clear A1620
                     obtain rfl := Option.some.inj H
                     go_wp2_with (first | ((with_reducible refine gate_callee (f := 10) rfl ?_); refine goesL_ (some 75) rfl rfl Tryd.func10 (by kernel_rfl) rfl #[.string ((((a0 ++ (⟨#[45]⟩ : ByteArray)) ++ a1) ++ (⟨#[47]⟩ : ByteArray)) ++ a2), .int .i64 a3] rfl (by (try simp only [List.map_toArray, List.map_cons, List.map_nil]); first | done | rfl | (simp only [List.length_drop, List.length_take]; rfl)) ?_; (with_reducible refine (field_Parse.calls ((((a0 ++ (⟨#[45]⟩ : ByteArray)) ++ a1) ++ (⟨#[47]⟩ : ByteArray)) ++ a2) a3 t126 t127 t128 _ (hT.keep (by repeat (first | (with_reducible first | exact HB.out | apply below_alloc | apply pw_below_drewN | apply below_drew1 | refine below_set ?_ GE129.out) | exact HB.out))) A27.out).mono ?_); rintro e w163 ⟨rfl, hb⟩; refine ⟨_, rfl, ?_⟩; have n0_ := Aside0.mk (below_step (by repeat (first | (with_reducible first | exact HB.out | apply below_alloc | apply pw_below_drewN | apply below_drew1) | exact HB.out)) hb); clear HB; have HB := n0_; clear n0_; (try clear hb); (try clear hb2); (try clear hk); (try clear hi)) | ((with_reducible refine gate_dst (N := 18) rfl ?_); (try (refine gate_guard (by rfl) ?_; dsimp only)); refine box_event ?hg (N := 18) ?hd (cs := #[.int .u64 0, .bool false]) (t := 25) ?hr ?_; (case hd => rfl); (case hg => rfl); (case hr => first | (go_simp; done) | (go_simp; rfl)); intro gb129 hg w164 hbox hb; have n0_ := Aside0.mk (below_step (by repeat (first | (with_reducible first | exact HB.out | apply below_alloc | apply pw_below_drewN | apply below_drew1) | exact HB.out)) hb); have n1_ := Aside0.mk (hbox); have n2_ := Aside0.mk ((by rw [hg]; exact (below_size (by repeat (first | (with_reducible first | exact HB.out | apply below_alloc | apply pw_below_drewN | apply below_drew1) | exact HB.out))) : w.heap.size ≤ gb129)); have n3_ := Aside0.mk ((by rw [hg]; exact (below_size (by repeat (first | (with_reducible first | exact HB.out | apply below_alloc | apply pw_below_drewN | apply below_drew1) | exact HB.out))) : w.heap.size ≤ gb129)); clear HB; have HB := n0_; have BK129 := n1_; have GW129 := n2_; have GE129 := n3_; clear n0_ n1_ n2_ n3_; clear hb hbox hg; have hcz165_0 : w164.cell? ⟨gb129, 0, none⟩ = some (.int .u64 0) := (blk_cell BK129.out 0).trans rfl; have hcz165_1 : w164.cell? ⟨gb129, 1, none⟩ = some (.bool false) := (blk_cell BK129.out 1).trans rfl; have hfz165_0 := blk_frozen BK129.out 0; have hfz165_1 := blk_frozen BK129.out 1) | (go_at_call 18; (with_reducible refine (field_Has.calls t126 t127 a4 t138 _ A162.out).mono ?_); rintro e w166 ⟨rfl, hb⟩; have n0_ := Aside0.mk (blk_below (g := gb129) (o := .cells #[.int .u64 t126, .bool t127] 25 (0, 0)) (by (with_reducible repeat (first | refine blk_drewN ?_ _ | refine blk_drew ?_ | refine blk_alloc ?_ _)); refine blk_put (cs := #[.int .u64 t126, .bool false]) ?_ 1 _ rfl; (with_reducible repeat (first | refine blk_drewN ?_ _ | refine blk_drew ?_ | refine blk_alloc ?_ _)); refine blk_put (cs := #[.int .u64 0, .bool false]) ?_ 0 _ rfl; (with_reducible repeat (first | refine blk_drewN ?_ _ | refine blk_drew ?_ | refine blk_alloc ?_ _)); exact BK129.out) hb); have n1_ := Aside0.mk (below_step (by repeat (first | (with_reducible first | exact HB.out | apply below_alloc | apply pw_below_drewN | apply below_drew1 | refine below_set ?_ GE129.out) | exact HB.out)) hb); clear BK129; clear HB; have BK129 := n0_; have HB := n1_; clear n0_ n1_; (try clear hb); (try clear hb2); (try clear hk); (try clear hi)))
                     go_ret
                     exact ⟨by first | rfl | (simp [errW_none, errW_some] <;> rfl) | (simp [*, errW_none, errW_some] <;> rfl), by repeat (first | (with_reducible first | exact HB.out | apply below_alloc | apply pw_below_drewN | apply below_drew1 | refine below_set ?_ GE129.out) | exact HB.out)⟩
                    ·rw [if_neg c161] at H
                     have c161b0 : (t128 == 0) = false := beq_eq_false_iff_ne.mpr c161
                     have c161b1 : (t128 != 0) = true := bne_iff_ne.mpr c161
                     obtain rfl := Option.some.inj H
                     go_wp2_with (first | ((with_reducible refine gate_callee (f := 10) rfl ?_); refine goesL_ (some 75) rfl rfl Tryd.func10 (by kernel_rfl) rfl #[.string ((((a0 ++ (⟨#[45]⟩ : ByteArray)) ++ a1) ++ (⟨#[47]⟩ : ByteArray)) ++ a2), .int .i64 a3] rfl (by (try simp only [List.map_toArray, List.map_cons, List.map_nil]); first | done | rfl | (simp only [List.length_drop, List.length_take]; rfl)) ?_; (with_reducible refine (field_Parse.calls ((((a0 ++ (⟨#[45]⟩ : ByteArray)) ++ a1) ++ (⟨#[47]⟩ : ByteArray)) ++ a2) a3 t126 t127 t128 _ (hT.keep (by repeat (first | (with_reducible first | exact HB.out | apply below_alloc | apply pw_below_drewN | apply below_drew1 | refine below_set ?_ GE129.out) | exact HB.out))) A27.out).mono ?_); rintro e w167 ⟨rfl, hb⟩; refine ⟨_, rfl, ?_⟩; have n0_ := Aside0.mk (below_step (by repeat (first | (with_reducible first | exact HB.out | apply below_alloc | apply pw_below_drewN | apply below_drew1) | exact HB.out)) hb); clear HB; have HB := n0_; clear n0_; (try clear hb); (try clear hb2); (try clear hk); (try clear hi)) | ((with_reducible refine gate_dst (N := 18) rfl ?_); (try (refine gate_guard (by rfl) ?_; dsimp only)); refine box_event ?hg (N := 18) ?hd (cs := #[.int .u64 0, .bool false]) (t := 25) ?hr ?_; (case hd => rfl); (case hg => rfl); (case hr => first | (go_simp; done) | (go_simp; rfl)); intro gb129 hg w168 hbox hb; have n0_ := Aside0.mk (below_step (by repeat (first | (with_reducible first | exact HB.out | apply below_alloc | apply pw_below_drewN | apply below_drew1) | exact HB.out)) hb); have n1_ := Aside0.mk (hbox); have n2_ := Aside0.mk ((by rw [hg]; exact (below_size (by repeat (first | (with_reducible first | exact HB.out | apply below_alloc | apply pw_below_drewN | apply below_drew1) | exact HB.out))) : w.heap.size ≤ gb129)); have n3_ := Aside0.mk ((by rw [hg]; exact (below_size (by repeat (first | (with_reducible first | exact HB.out | apply below_alloc | apply pw_below_drewN | apply below_drew1) | exact HB.out))) : w.heap.size ≤ gb129)); clear HB; have HB := n0_; have BK129 := n1_; have GW129 := n2_; have GE129 := n3_; clear n0_ n1_ n2_ n3_; clear hb hbox hg; have hcz169_0 : w168.cell? ⟨gb129, 0, none⟩ = some (.int .u64 0) := (blk_cell BK129.out 0).trans rfl; have hcz169_1 : w168.cell? ⟨gb129, 1, none⟩ = some (.bool false) := (blk_cell BK129.out 1).trans rfl; have hfz169_0 := blk_frozen BK129.out 0; have hfz169_1 := blk_frozen BK129.out 1))
                     go_ret
                     exact ⟨by first | rfl | (simp [errW_none, errW_some] <;> rfl) | (simp [*, errW_none, errW_some] <;> rfl), by repeat (first | (with_reducible first | exact HB.out | apply below_alloc | apply pw_below_drewN | apply below_drew1 | refine below_set ?_ GE129.out) | exact HB.out)⟩
                   ·exact absurd rfl c160
                  ·rw [if_neg c159] at H
                   have c159b0 : (t122 == 7) = false := beq_eq_false_iff_ne.mpr c159
                   have c159b1 : (t122 != 7) = true := bne_iff_ne.mpr c159
                   by_cases c173 : true = true
                   ·clear c173
                    have H1 : (if t128 = 0 then ((field_Has.f t126 t127 a4).bind fun t139 => (some (t139 == false))) else (some false)) = some r := by rw [if_pos rfl] at H; exact H
                    clear H
                    have H := H1
                    clear H1
                    by_cases c174 : t128 = 0
                    ·rw [if_pos c174] at H
                     have c174b0 : (t128 == 0) = true := beq_iff_eq.mpr c174
                     have c174b1 : (t128 != 0) = false := bne_eq_false_iff_eq.mpr c174
                     clear c174
                     replace H := Option.bind_eq_some_iff.mp H
                     obtain ⟨t139, A1750, H⟩ := H
                     replace H : (some (t139 == false)) = some r := H
                     have A175 := Aside0.mk A1750
                     clear A1750
                     obtain rfl := Option.some.inj H
                     go_wp2_with (first | ((with_reducible refine gate_callee (f := 10) rfl ?_); refine goesL_ (some 75) rfl rfl Tryd.func10 (by kernel_rfl) rfl #[.string ((((a0 ++ (⟨#[45]⟩ : ByteArray)) ++ a1) ++ (⟨#[47]⟩ : ByteArray)) ++ a2), .int .i64 a3] rfl (by (try simp only [List.map_toArray, List.map_cons, List.map_nil]); first | done | rfl | (simp only [List.length_drop, List.length_take]; rfl)) ?_; (with_reducible refine (field_Parse.calls ((((a0 ++ (⟨#[45]⟩ : ByteArray)) ++ a1) ++ (⟨#[47]⟩ : ByteArray)) ++ a2) a3 t126 t127 t128 _ (hT.keep (by repeat (first | (with_reducible first | exact HB.out | apply below_alloc | apply pw_below_drewN | apply below_drew1 | refine below_set ?_ GE129.out) | exact HB.out))) A27.out).mono ?_); rintro e w176 ⟨rfl, hb⟩; refine ⟨_, rfl, ?_⟩; have n0_ := Aside0.mk (below_step (by repeat (first | (with_reducible first | exact HB.out | apply below_alloc | apply pw_below_drewN | apply below_drew1) | exact HB.out)) hb); clear HB; have HB := n0_; clear n0_; (try clear hb); (try clear hb2); (try clear hk); (try clear hi)) | ((with_reducible refine gate_dst (N := 18) rfl ?_); (try (refine gate_guard (by rfl) ?_; dsimp only)); refine box_event ?hg (N := 18) ?hd (cs := #[.int .u64 0, .bool false]) (t := 25) ?hr ?_; (case hd => rfl); (case hg => rfl); (case hr => first | (go_simp; done) | (go_simp; rfl)); intro gb129 hg w177 hbox hb; have n0_ := Aside0.mk (below_step (by repeat (first | (with_reducible first | exact HB.out | apply below_alloc | apply pw_below_drewN | apply below_drew1) | exact HB.out)) hb); have n1_ := Aside0.mk (hbox); have n2_ := Aside0.mk ((by rw [hg]; exact (below_size (by repeat (first | (with_reducible first | exact HB.out | apply below_alloc | apply pw_below_drewN | apply below_drew1) | exact HB.out))) : w.heap.size ≤ gb129)); have n3_ := Aside0.mk ((by rw [hg]; exact (below_size (by repeat (first | (with_reducible first | exact HB.out | apply below_alloc | apply pw_below_drewN | apply below_drew1) | exact HB.out))) : w.heap.size ≤ gb129)); clear HB; have HB := n0_; have BK129 := n1_; have GW129 := n2_; have GE129 := n3_; clear n0_ n1_ n2_ n3_; clear hb hbox hg; have hcz178_0 : w177.cell? ⟨gb129, 0, none⟩ = some (.int .u64 0) := (blk_cell BK129.out 0).trans rfl; have hcz178_1 : w177.cell? ⟨gb129, 1, none⟩ = some (.bool false) := (blk_cell BK129.out 1).trans rfl; have hfz178_0 := blk_frozen BK129.out 0; have hfz178_1 := blk_frozen BK129.out 1) | (go_at_call 18; (with_reducible refine (field_Has.calls t126 t127 a4 t139 _ A175.out).mono ?_); rintro e w179 ⟨rfl, hb⟩; have n0_ := Aside0.mk (blk_below (g := gb129) (o := .cells #[.int .u64 t126, .bool t127] 25 (0, 0)) (by (with_reducible repeat (first | refine blk_drewN ?_ _ | refine blk_drew ?_ | refine blk_alloc ?_ _)); refine blk_put (cs := #[.int .u64 t126, .bool false]) ?_ 1 _ rfl; (with_reducible repeat (first | refine blk_drewN ?_ _ | refine blk_drew ?_ | refine blk_alloc ?_ _)); refine blk_put (cs := #[.int .u64 0, .bool false]) ?_ 0 _ rfl; (with_reducible repeat (first | refine blk_drewN ?_ _ | refine blk_drew ?_ | refine blk_alloc ?_ _)); exact BK129.out) hb); have n1_ := Aside0.mk (below_step (by repeat (first | (with_reducible first | exact HB.out | apply below_alloc | apply pw_below_drewN | apply below_drew1 | refine below_set ?_ GE129.out) | exact HB.out)) hb); clear BK129; clear HB; have BK129 := n0_; have HB := n1_; clear n0_ n1_; (try clear hb); (try clear hb2); (try clear hk); (try clear hi)))
                     go_ret
                     exact ⟨by first | rfl | (simp [errW_none, errW_some] <;> rfl) | (simp [*, errW_none, errW_some] <;> rfl), by repeat (first | (with_reducible first | exact HB.out | apply below_alloc | apply pw_below_drewN | apply below_drew1 | refine below_set ?_ GE129.out) | exact HB.out)⟩
                    ·rw [if_neg c174] at H
                     have c174b0 : (t128 == 0) = false := beq_eq_false_iff_ne.mpr c174
                     have c174b1 : (t128 != 0) = true := bne_iff_ne.mpr c174
                     obtain rfl := Option.some.inj H
                     go_wp2_with (first | ((with_reducible refine gate_callee (f := 10) rfl ?_); refine goesL_ (some 75) rfl rfl Tryd.func10 (by kernel_rfl) rfl #[.string ((((a0 ++ (⟨#[45]⟩ : ByteArray)) ++ a1) ++ (⟨#[47]⟩ : ByteArray)) ++ a2), .int .i64 a3] rfl (by (try simp only [List.map_toArray, List.map_cons, List.map_nil]); first | done | rfl | (simp only [List.length_drop, List.length_take]; rfl)) ?_; (with_reducible refine (field_Parse.calls ((((a0 ++ (⟨#[45]⟩ : ByteArray)) ++ a1) ++ (⟨#[47]⟩ : ByteArray)) ++ a2) a3 t126 t127 t128 _ (hT.keep (by repeat (first | (with_reducible first | exact HB.out | apply below_alloc | apply pw_below_drewN | apply below_drew1 | refine below_set ?_ GE129.out) | exact HB.out))) A27.out).mono ?_); rintro e w180 ⟨rfl, hb⟩; refine ⟨_, rfl, ?_⟩; have n0_ := Aside0.mk (below_step (by repeat (first | (with_reducible first | exact HB.out | apply below_alloc | apply pw_below_drewN | apply below_drew1) | exact HB.out)) hb); clear HB; have HB := n0_; clear n0_; (try clear hb); (try clear hb2); (try clear hk); (try clear hi)) | ((with_reducible refine gate_dst (N := 18) rfl ?_); (try (refine gate_guard (by rfl) ?_; dsimp only)); refine box_event ?hg (N := 18) ?hd (cs := #[.int .u64 0, .bool false]) (t := 25) ?hr ?_; (case hd => rfl); (case hg => rfl); (case hr => first | (go_simp; done) | (go_simp; rfl)); intro gb129 hg w181 hbox hb; have n0_ := Aside0.mk (below_step (by repeat (first | (with_reducible first | exact HB.out | apply below_alloc | apply pw_below_drewN | apply below_drew1) | exact HB.out)) hb); have n1_ := Aside0.mk (hbox); have n2_ := Aside0.mk ((by rw [hg]; exact (below_size (by repeat (first | (with_reducible first | exact HB.out | apply below_alloc | apply pw_below_drewN | apply below_drew1) | exact HB.out))) : w.heap.size ≤ gb129)); have n3_ := Aside0.mk ((by rw [hg]; exact (below_size (by repeat (first | (with_reducible first | exact HB.out | apply below_alloc | apply pw_below_drewN | apply below_drew1) | exact HB.out))) : w.heap.size ≤ gb129)); clear HB; have HB := n0_; have BK129 := n1_; have GW129 := n2_; have GE129 := n3_; clear n0_ n1_ n2_ n3_; clear hb hbox hg; have hcz182_0 : w181.cell? ⟨gb129, 0, none⟩ = some (.int .u64 0) := (blk_cell BK129.out 0).trans rfl; have hcz182_1 : w181.cell? ⟨gb129, 1, none⟩ = some (.bool false) := (blk_cell BK129.out 1).trans rfl; have hfz182_0 := blk_frozen BK129.out 0; have hfz182_1 := blk_frozen BK129.out 1))
                     go_ret
                     exact ⟨by first | rfl | (simp [errW_none, errW_some] <;> rfl) | (simp [*, errW_none, errW_some] <;> rfl), by repeat (first | (with_reducible first | exact HB.out | apply below_alloc | apply pw_below_drewN | apply below_drew1 | refine below_set ?_ GE129.out) | exact HB.out)⟩
                   ·exact absurd rfl c173
                 ·rw [if_neg c158] at H
                  have c158b0 : (a4 == 0) = false := beq_eq_false_iff_ne.mpr c158
                  have c158b1 : (a4 != 0) = true := bne_iff_ne.mpr c158
                  by_cases c186 : true = true
                  ·clear c186
                   have H1 : (if t128 = 0 then ((field_Has.f t126 t127 a4).bind fun t140 => (some (t140 == false))) else (some false)) = some r := by rw [if_pos rfl] at H; exact H
                   clear H
                   have H := H1
                   clear H1
                   by_cases c187 : t128 = 0
                   ·rw [if_pos c187] at H
                    have c187b0 : (t128 == 0) = true := beq_iff_eq.mpr c187
                    have c187b1 : (t128 != 0) = false := bne_eq_false_iff_eq.mpr c187
                    clear c187
                    replace H := Option.bind_eq_some_iff.mp H
                    obtain ⟨t140, A1880, H⟩ := H
                    replace H : (some (t140 == false)) = some r := H
                    have A188 := Aside0.mk A1880
                    clear A1880
                    obtain rfl := Option.some.inj H
                    go_wp2_with (first | ((with_reducible refine gate_callee (f := 10) rfl ?_); refine goesL_ (some 75) rfl rfl Tryd.func10 (by kernel_rfl) rfl #[.string ((((a0 ++ (⟨#[45]⟩ : ByteArray)) ++ a1) ++ (⟨#[47]⟩ : ByteArray)) ++ a2), .int .i64 a3] rfl (by (try simp only [List.map_toArray, List.map_cons, List.map_nil]); first | done | rfl | (simp only [List.length_drop, List.length_take]; rfl)) ?_; (with_reducible refine (field_Parse.calls ((((a0 ++ (⟨#[45]⟩ : ByteArray)) ++ a1) ++ (⟨#[47]⟩ : ByteArray)) ++ a2) a3 t126 t127 t128 _ (hT.keep (by repeat (first | (with_reducible first | exact HB.out | apply below_alloc | apply pw_below_drewN | apply below_drew1 | refine below_set ?_ GE129.out) | exact HB.out))) A27.out).mono ?_); rintro e w189 ⟨rfl, hb⟩; refine ⟨_, rfl, ?_⟩; have n0_ := Aside0.mk (below_step (by repeat (first | (with_reducible first | exact HB.out | apply below_alloc | apply pw_below_drewN | apply below_drew1) | exact HB.out)) hb); clear HB; have HB := n0_; clear n0_; (try clear hb); (try clear hb2); (try clear hk); (try clear hi)) | ((with_reducible refine gate_dst (N := 18) rfl ?_); (try (refine gate_guard (by rfl) ?_; dsimp only)); refine box_event ?hg (N := 18) ?hd (cs := #[.int .u64 0, .bool false]) (t := 25) ?hr ?_; (case hd => rfl); (case hg => rfl); (case hr => first | (go_simp; done) | (go_simp; rfl)); intro gb129 hg w190 hbox hb; have n0_ := Aside0.mk (below_step (by repeat (first | (with_reducible first | exact HB.out | apply below_alloc | apply pw_below_drewN | apply below_drew1) | exact HB.out)) hb); have n1_ := Aside0.mk (hbox); have n2_ := Aside0.mk ((by rw [hg]; exact (below_size (by repeat (first | (with_reducible first | exact HB.out | apply below_alloc | apply pw_below_drewN | apply below_drew1) | exact HB.out))) : w.heap.size ≤ gb129)); have n3_ := Aside0.mk ((by rw [hg]; exact (below_size (by repeat (first | (with_reducible first | exact HB.out | apply below_alloc | apply pw_below_drewN | apply below_drew1) | exact HB.out))) : w.heap.size ≤ gb129)); clear HB; have HB := n0_; have BK129 := n1_; have GW129 := n2_; have GE129 := n3_; clear n0_ n1_ n2_ n3_; clear hb hbox hg; have hcz191_0 : w190.cell? ⟨gb129, 0, none⟩ = some (.int .u64 0) := (blk_cell BK129.out 0).trans rfl; have hcz191_1 : w190.cell? ⟨gb129, 1, none⟩ = some (.bool false) := (blk_cell BK129.out 1).trans rfl; have hfz191_0 := blk_frozen BK129.out 0; have hfz191_1 := blk_frozen BK129.out 1) | (go_at_call 18; (with_reducible refine (field_Has.calls t126 t127 a4 t140 _ A188.out).mono ?_); rintro e w192 ⟨rfl, hb⟩; have n0_ := Aside0.mk (blk_below (g := gb129) (o := .cells #[.int .u64 t126, .bool t127] 25 (0, 0)) (by (with_reducible repeat (first | refine blk_drewN ?_ _ | refine blk_drew ?_ | refine blk_alloc ?_ _)); refine blk_put (cs := #[.int .u64 t126, .bool false]) ?_ 1 _ rfl; (with_reducible repeat (first | refine blk_drewN ?_ _ | refine blk_drew ?_ | refine blk_alloc ?_ _)); refine blk_put (cs := #[.int .u64 0, .bool false]) ?_ 0 _ rfl; (with_reducible repeat (first | refine blk_drewN ?_ _ | refine blk_drew ?_ | refine blk_alloc ?_ _)); exact BK129.out) hb); have n1_ := Aside0.mk (below_step (by repeat (first | (with_reducible first | exact HB.out | apply below_alloc | apply pw_below_drewN | apply below_drew1 | refine below_set ?_ GE129.out) | exact HB.out)) hb); clear BK129; clear HB; have BK129 := n0_; have HB := n1_; clear n0_ n1_; (try clear hb); (try clear hb2); (try clear hk); (try clear hi)))
                    go_ret
                    exact ⟨by first | rfl | (simp [errW_none, errW_some] <;> rfl) | (simp [*, errW_none, errW_some] <;> rfl), by repeat (first | (with_reducible first | exact HB.out | apply below_alloc | apply pw_below_drewN | apply below_drew1 | refine below_set ?_ GE129.out) | exact HB.out)⟩
                   ·rw [if_neg c187] at H
                    have c187b0 : (t128 == 0) = false := beq_eq_false_iff_ne.mpr c187
                    have c187b1 : (t128 != 0) = true := bne_iff_ne.mpr c187
                    obtain rfl := Option.some.inj H
                    go_wp2_with (first | ((with_reducible refine gate_callee (f := 10) rfl ?_); refine goesL_ (some 75) rfl rfl Tryd.func10 (by kernel_rfl) rfl #[.string ((((a0 ++ (⟨#[45]⟩ : ByteArray)) ++ a1) ++ (⟨#[47]⟩ : ByteArray)) ++ a2), .int .i64 a3] rfl (by (try simp only [List.map_toArray, List.map_cons, List.map_nil]); first | done | rfl | (simp only [List.length_drop, List.length_take]; rfl)) ?_; (with_reducible refine (field_Parse.calls ((((a0 ++ (⟨#[45]⟩ : ByteArray)) ++ a1) ++ (⟨#[47]⟩ : ByteArray)) ++ a2) a3 t126 t127 t128 _ (hT.keep (by repeat (first | (with_reducible first | exact HB.out | apply below_alloc | apply pw_below_drewN | apply below_drew1 | refine below_set ?_ GE129.out) | exact HB.out))) A27.out).mono ?_); rintro e w193 ⟨rfl, hb⟩; refine ⟨_, rfl, ?_⟩; have n0_ := Aside0.mk (below_step (by repeat (first | (with_reducible first | exact HB.out | apply below_alloc | apply pw_below_drewN | apply below_drew1) | exact HB.out)) hb); clear HB; have HB := n0_; clear n0_; (try clear hb); (try clear hb2); (try clear hk); (try clear hi)) | ((with_reducible refine gate_dst (N := 18) rfl ?_); (try (refine gate_guard (by rfl) ?_; dsimp only)); refine box_event ?hg (N := 18) ?hd (cs := #[.int .u64 0, .bool false]) (t := 25) ?hr ?_; (case hd => rfl); (case hg => rfl); (case hr => first | (go_simp; done) | (go_simp; rfl)); intro gb129 hg w194 hbox hb; have n0_ := Aside0.mk (below_step (by repeat (first | (with_reducible first | exact HB.out | apply below_alloc | apply pw_below_drewN | apply below_drew1) | exact HB.out)) hb); have n1_ := Aside0.mk (hbox); have n2_ := Aside0.mk ((by rw [hg]; exact (below_size (by repeat (first | (with_reducible first | exact HB.out | apply below_alloc | apply pw_below_drewN | apply below_drew1) | exact HB.out))) : w.heap.size ≤ gb129)); have n3_ := Aside0.mk ((by rw [hg]; exact (below_size (by repeat (first | (with_reducible first | exact HB.out | apply below_alloc | apply pw_below_drewN | apply below_drew1) | exact HB.out))) : w.heap.size ≤ gb129)); clear HB; have HB := n0_; have BK129 := n1_; have GW129 := n2_; have GE129 := n3_; clear n0_ n1_ n2_ n3_; clear hb hbox hg; have hcz195_0 : w194.cell? ⟨gb129, 0, none⟩ = some (.int .u64 0) := (blk_cell BK129.out 0).trans rfl; have hcz195_1 : w194.cell? ⟨gb129, 1, none⟩ = some (.bool false) := (blk_cell BK129.out 1).trans rfl; have hfz195_0 := blk_frozen BK129.out 0; have hfz195_1 := blk_frozen BK129.out 1))
                    go_ret
                    exact ⟨by first | rfl | (simp [errW_none, errW_some] <;> rfl) | (simp [*, errW_none, errW_some] <;> rfl), by repeat (first | (with_reducible first | exact HB.out | apply below_alloc | apply pw_below_drewN | apply below_drew1 | refine below_set ?_ GE129.out) | exact HB.out)⟩
                  ·exact absurd rfl c186
                ·rw [if_neg c157] at H
                 have c157b0 : (a3 == 4) = false := beq_eq_false_iff_ne.mpr c157
                 have c157b1 : (a3 != 4) = true := bne_iff_ne.mpr c157
                 by_cases c199 : true = true
                 ·clear c199
                  have H1 : (if t128 = 0 then ((field_Has.f t126 t127 a4).bind fun t141 => (some (t141 == false))) else (some false)) = some r := by rw [if_pos rfl] at H; exact H
                  clear H
                  have H := H1
                  clear H1
                  by_cases c200 : t128 = 0
                  ·rw [if_pos c200] at H
                   have c200b0 : (t128 == 0) = true := beq_iff_eq.mpr c200
                   have c200b1 : (t128 != 0) = false := bne_eq_false_iff_eq.mpr c200
                   clear c200
                   replace H := Option.bind_eq_some_iff.mp H
                   obtain ⟨t141, A2010, H⟩ := H
                   replace H : (some (t141 == false)) = some r := H
                   have A201 := Aside0.mk A2010
                   clear A2010
                   obtain rfl := Option.some.inj H
                   go_wp2_with (first | ((with_reducible refine gate_callee (f := 10) rfl ?_); refine goesL_ (some 75) rfl rfl Tryd.func10 (by kernel_rfl) rfl #[.string ((((a0 ++ (⟨#[45]⟩ : ByteArray)) ++ a1) ++ (⟨#[47]⟩ : ByteArray)) ++ a2), .int .i64 a3] rfl (by (try simp only [List.map_toArray, List.map_cons, List.map_nil]); first | done | rfl | (simp only [List.length_drop, List.length_take]; rfl)) ?_; (with_reducible refine (field_Parse.calls ((((a0 ++ (⟨#[45]⟩ : ByteArray)) ++ a1) ++ (⟨#[47]⟩ : ByteArray)) ++ a2) a3 t126 t127 t128 _ (hT.keep (by repeat (first | (with_reducible first | exact HB.out | apply below_alloc | apply pw_below_drewN | apply below_drew1 | refine below_set ?_ GE129.out) | exact HB.out))) A27.out).mono ?_); rintro e w202 ⟨rfl, hb⟩; refine ⟨_, rfl, ?_⟩; have n0_ := Aside0.mk (below_step (by repeat (first | (with_reducible first | exact HB.out | apply below_alloc | apply pw_below_drewN | apply below_drew1) | exact HB.out)) hb); clear HB; have HB := n0_; clear n0_; (try clear hb); (try clear hb2); (try clear hk); (try clear hi)) | ((with_reducible refine gate_dst (N := 18) rfl ?_); (try (refine gate_guard (by rfl) ?_; dsimp only)); refine box_event ?hg (N := 18) ?hd (cs := #[.int .u64 0, .bool false]) (t := 25) ?hr ?_; (case hd => rfl); (case hg => rfl); (case hr => first | (go_simp; done) | (go_simp; rfl)); intro gb129 hg w203 hbox hb; have n0_ := Aside0.mk (below_step (by repeat (first | (with_reducible first | exact HB.out | apply below_alloc | apply pw_below_drewN | apply below_drew1) | exact HB.out)) hb); have n1_ := Aside0.mk (hbox); have n2_ := Aside0.mk ((by rw [hg]; exact (below_size (by repeat (first | (with_reducible first | exact HB.out | apply below_alloc | apply pw_below_drewN | apply below_drew1) | exact HB.out))) : w.heap.size ≤ gb129)); have n3_ := Aside0.mk ((by rw [hg]; exact (below_size (by repeat (first | (with_reducible first | exact HB.out | apply below_alloc | apply pw_below_drewN | apply below_drew1) | exact HB.out))) : w.heap.size ≤ gb129)); clear HB; have HB := n0_; have BK129 := n1_; have GW129 := n2_; have GE129 := n3_; clear n0_ n1_ n2_ n3_; clear hb hbox hg; have hcz204_0 : w203.cell? ⟨gb129, 0, none⟩ = some (.int .u64 0) := (blk_cell BK129.out 0).trans rfl; have hcz204_1 : w203.cell? ⟨gb129, 1, none⟩ = some (.bool false) := (blk_cell BK129.out 1).trans rfl; have hfz204_0 := blk_frozen BK129.out 0; have hfz204_1 := blk_frozen BK129.out 1) | (go_at_call 18; (with_reducible refine (field_Has.calls t126 t127 a4 t141 _ A201.out).mono ?_); rintro e w205 ⟨rfl, hb⟩; have n0_ := Aside0.mk (blk_below (g := gb129) (o := .cells #[.int .u64 t126, .bool t127] 25 (0, 0)) (by (with_reducible repeat (first | refine blk_drewN ?_ _ | refine blk_drew ?_ | refine blk_alloc ?_ _)); refine blk_put (cs := #[.int .u64 t126, .bool false]) ?_ 1 _ rfl; (with_reducible repeat (first | refine blk_drewN ?_ _ | refine blk_drew ?_ | refine blk_alloc ?_ _)); refine blk_put (cs := #[.int .u64 0, .bool false]) ?_ 0 _ rfl; (with_reducible repeat (first | refine blk_drewN ?_ _ | refine blk_drew ?_ | refine blk_alloc ?_ _)); exact BK129.out) hb); have n1_ := Aside0.mk (below_step (by repeat (first | (with_reducible first | exact HB.out | apply below_alloc | apply pw_below_drewN | apply below_drew1 | refine below_set ?_ GE129.out) | exact HB.out)) hb); clear BK129; clear HB; have BK129 := n0_; have HB := n1_; clear n0_ n1_; (try clear hb); (try clear hb2); (try clear hk); (try clear hi)))
                   go_ret
                   exact ⟨by first | rfl | (simp [errW_none, errW_some] <;> rfl) | (simp [*, errW_none, errW_some] <;> rfl), by repeat (first | (with_reducible first | exact HB.out | apply below_alloc | apply pw_below_drewN | apply below_drew1 | refine below_set ?_ GE129.out) | exact HB.out)⟩
                  ·rw [if_neg c200] at H
                   have c200b0 : (t128 == 0) = false := beq_eq_false_iff_ne.mpr c200
                   have c200b1 : (t128 != 0) = true := bne_iff_ne.mpr c200
                   obtain rfl := Option.some.inj H
                   go_wp2_with (first | ((with_reducible refine gate_callee (f := 10) rfl ?_); refine goesL_ (some 75) rfl rfl Tryd.func10 (by kernel_rfl) rfl #[.string ((((a0 ++ (⟨#[45]⟩ : ByteArray)) ++ a1) ++ (⟨#[47]⟩ : ByteArray)) ++ a2), .int .i64 a3] rfl (by (try simp only [List.map_toArray, List.map_cons, List.map_nil]); first | done | rfl | (simp only [List.length_drop, List.length_take]; rfl)) ?_; (with_reducible refine (field_Parse.calls ((((a0 ++ (⟨#[45]⟩ : ByteArray)) ++ a1) ++ (⟨#[47]⟩ : ByteArray)) ++ a2) a3 t126 t127 t128 _ (hT.keep (by repeat (first | (with_reducible first | exact HB.out | apply below_alloc | apply pw_below_drewN | apply below_drew1 | refine below_set ?_ GE129.out) | exact HB.out))) A27.out).mono ?_); rintro e w206 ⟨rfl, hb⟩; refine ⟨_, rfl, ?_⟩; have n0_ := Aside0.mk (below_step (by repeat (first | (with_reducible first | exact HB.out | apply below_alloc | apply pw_below_drewN | apply below_drew1) | exact HB.out)) hb); clear HB; have HB := n0_; clear n0_; (try clear hb); (try clear hb2); (try clear hk); (try clear hi)) | ((with_reducible refine gate_dst (N := 18) rfl ?_); (try (refine gate_guard (by rfl) ?_; dsimp only)); refine box_event ?hg (N := 18) ?hd (cs := #[.int .u64 0, .bool false]) (t := 25) ?hr ?_; (case hd => rfl); (case hg => rfl); (case hr => first | (go_simp; done) | (go_simp; rfl)); intro gb129 hg w207 hbox hb; have n0_ := Aside0.mk (below_step (by repeat (first | (with_reducible first | exact HB.out | apply below_alloc | apply pw_below_drewN | apply below_drew1) | exact HB.out)) hb); have n1_ := Aside0.mk (hbox); have n2_ := Aside0.mk ((by rw [hg]; exact (below_size (by repeat (first | (with_reducible first | exact HB.out | apply below_alloc | apply pw_below_drewN | apply below_drew1) | exact HB.out))) : w.heap.size ≤ gb129)); have n3_ := Aside0.mk ((by rw [hg]; exact (below_size (by repeat (first | (with_reducible first | exact HB.out | apply below_alloc | apply pw_below_drewN | apply below_drew1) | exact HB.out))) : w.heap.size ≤ gb129)); clear HB; have HB := n0_; have BK129 := n1_; have GW129 := n2_; have GE129 := n3_; clear n0_ n1_ n2_ n3_; clear hb hbox hg; have hcz208_0 : w207.cell? ⟨gb129, 0, none⟩ = some (.int .u64 0) := (blk_cell BK129.out 0).trans rfl; have hcz208_1 : w207.cell? ⟨gb129, 1, none⟩ = some (.bool false) := (blk_cell BK129.out 1).trans rfl; have hfz208_0 := blk_frozen BK129.out 0; have hfz208_1 := blk_frozen BK129.out 1))
                   go_ret
                   exact ⟨by first | rfl | (simp [errW_none, errW_some] <;> rfl) | (simp [*, errW_none, errW_some] <;> rfl), by repeat (first | (with_reducible first | exact HB.out | apply below_alloc | apply pw_below_drewN | apply below_drew1 | refine below_set ?_ GE129.out) | exact HB.out)⟩
                 ·exact absurd rfl c199
              ·rw [if_neg c44] at H
               have c44b0 : decide (t120 ≤ a4) = false := decide_eq_false c44
               clear c44
               by_cases c212 : a3 = 4
               ·rw [if_pos c212] at H
                have c212b0 : (a3 == 4) = true := beq_iff_eq.mpr c212
                have c212b1 : (a3 != 4) = false := bne_eq_false_iff_eq.mpr c212
                clear c212
                by_cases c213 : a4 = 0
                ·rw [if_pos c213] at H
                 have c213b0 : (a4 == 0) = true := beq_iff_eq.mpr c213
                 have c213b1 : (a4 != 0) = false := bne_eq_false_iff_eq.mpr c213
                 clear c213
                 by_cases c214 : t122 = 7
                 ·rw [if_pos c214] at H
                  have c214b0 : (t122 == 7) = true := beq_iff_eq.mpr c214
                  have c214b1 : (t122 != 7) = false := bne_eq_false_iff_eq.mpr c214
                  clear c214
                  by_cases c215 : true = true
                  ·clear c215
                   have H1 : (if t128 = 0 then ((field_Has.f t126 t127 a4).bind fun t142 => (some (t142 == ((Int.tmod (wrap64 (7 - t120)) t124) == 0)))) else (some false)) = some r := by rw [if_pos rfl] at H; exact H
                   clear H
                   have H := H1
                   clear H1
                   by_cases c216 : t128 = 0
                   ·rw [if_pos c216] at H
                    have c216b0 : (t128 == 0) = true := beq_iff_eq.mpr c216
                    have c216b1 : (t128 != 0) = false := bne_eq_false_iff_eq.mpr c216
                    clear c216
                    replace H := Option.bind_eq_some_iff.mp H
                    obtain ⟨t142, A2170, H⟩ := H
                    replace H : (some (t142 == ((Int.tmod (wrap64 (7 - t120)) t124) == 0))) = some r := H
                    have A217 := Aside0.mk A2170
                    clear A2170
                    obtain rfl := Option.some.inj H
                    go_wp2_with (first | ((with_reducible refine gate_callee (f := 10) rfl ?_); refine goesL_ (some 75) rfl rfl Tryd.func10 (by kernel_rfl) rfl #[.string ((((a0 ++ (⟨#[45]⟩ : ByteArray)) ++ a1) ++ (⟨#[47]⟩ : ByteArray)) ++ a2), .int .i64 a3] rfl (by (try simp only [List.map_toArray, List.map_cons, List.map_nil]); first | done | rfl | (simp only [List.length_drop, List.length_take]; rfl)) ?_; (with_reducible refine (field_Parse.calls ((((a0 ++ (⟨#[45]⟩ : ByteArray)) ++ a1) ++ (⟨#[47]⟩ : ByteArray)) ++ a2) a3 t126 t127 t128 _ (hT.keep (by repeat (first | (with_reducible first | exact HB.out | apply below_alloc | apply pw_below_drewN | apply below_drew1 | refine below_set ?_ GE129.out) | exact HB.out))) A27.out).mono ?_); rintro e w218 ⟨rfl, hb⟩; refine ⟨_, rfl, ?_⟩; have n0_ := Aside0.mk (below_step (by repeat (first | (with_reducible first | exact HB.out | apply below_alloc | apply pw_below_drewN | apply below_drew1) | exact HB.out)) hb); clear HB; have HB := n0_; clear n0_; (try clear hb); (try clear hb2); (try clear hk); (try clear hi)) | ((with_reducible refine gate_dst (N := 18) rfl ?_); (try (refine gate_guard (by rfl) ?_; dsimp only)); refine box_event ?hg (N := 18) ?hd (cs := #[.int .u64 0, .bool false]) (t := 25) ?hr ?_; (case hd => rfl); (case hg => rfl); (case hr => first | (go_simp; done) | (go_simp; rfl)); intro gb129 hg w219 hbox hb; have n0_ := Aside0.mk (below_step (by repeat (first | (with_reducible first | exact HB.out | apply below_alloc | apply pw_below_drewN | apply below_drew1) | exact HB.out)) hb); have n1_ := Aside0.mk (hbox); have n2_ := Aside0.mk ((by rw [hg]; exact (below_size (by repeat (first | (with_reducible first | exact HB.out | apply below_alloc | apply pw_below_drewN | apply below_drew1) | exact HB.out))) : w.heap.size ≤ gb129)); have n3_ := Aside0.mk ((by rw [hg]; exact (below_size (by repeat (first | (with_reducible first | exact HB.out | apply below_alloc | apply pw_below_drewN | apply below_drew1) | exact HB.out))) : w.heap.size ≤ gb129)); clear HB; have HB := n0_; have BK129 := n1_; have GW129 := n2_; have GE129 := n3_; clear n0_ n1_ n2_ n3_; clear hb hbox hg; have hcz220_0 : w219.cell? ⟨gb129, 0, none⟩ = some (.int .u64 0) := (blk_cell BK129.out 0).trans rfl; have hcz220_1 : w219.cell? ⟨gb129, 1, none⟩ = some (.bool false) := (blk_cell BK129.out 1).trans rfl; have hfz220_0 := blk_frozen BK129.out 0; have hfz220_1 := blk_frozen BK129.out 1) | (go_at_call 18; (with_reducible refine (field_Has.calls t126 t127 a4 t142 _ A217.out).mono ?_); rintro e w221 ⟨rfl, hb⟩; have n0_ := Aside0.mk (blk_below (g := gb129) (o := .cells #[.int .u64 t126, .bool t127] 25 (0, 0)) (by (with_reducible repeat (first | refine blk_drewN ?_ _ | refine blk_drew ?_ | refine blk_alloc ?_ _)); refine blk_put (cs := #[.int .u64 t126, .bool false]) ?_ 1 _ rfl; (with_reducible repeat (first | refine blk_drewN ?_ _ | refine blk_drew ?_ | refine blk_alloc ?_ _)); refine blk_put (cs := #[.int .u64 0, .bool false]) ?_ 0 _ rfl; (with_reducible repeat (first | refine blk_drewN ?_ _ | refine blk_drew ?_ | refine blk_alloc ?_ _)); exact BK129.out) hb); have n1_ := Aside0.mk (below_step (by repeat (first | (with_reducible first | exact HB.out | apply below_alloc | apply pw_below_drewN | apply below_drew1 | refine below_set ?_ GE129.out) | exact HB.out)) hb); clear BK129; clear HB; have BK129 := n0_; have HB := n1_; clear n0_ n1_; (try clear hb); (try clear hb2); (try clear hk); (try clear hi)))
                    go_ret
                    exact ⟨by first | rfl | (simp [errW_none, errW_some] <;> rfl) | (simp [*, errW_none, errW_some] <;> rfl), by repeat (first | (with_reducible first | exact HB.out | apply below_alloc | apply pw_below_drewN | apply below_drew1 | refine below_set ?_ GE129.out) | exact HB.out)⟩
                   ·rw [if_neg c216] at H
                    have c216b0 : (t128 == 0) = false := beq_eq_false_iff_ne.mpr c216
                    have c216b1 : (t128 != 0) = true := bne_iff_ne.mpr c216
                    obtain rfl := Option.some.inj H
                    go_wp2_with (first | ((with_reducible refine gate_callee (f := 10) rfl ?_); refine goesL_ (some 75) rfl rfl Tryd.func10 (by kernel_rfl) rfl #[.string ((((a0 ++ (⟨#[45]⟩ : ByteArray)) ++ a1) ++ (⟨#[47]⟩ : ByteArray)) ++ a2), .int .i64 a3] rfl (by (try simp only [List.map_toArray, List.map_cons, List.map_nil]); first | done | rfl | (simp only [List.length_drop, List.length_take]; rfl)) ?_; (with_reducible refine (field_Parse.calls ((((a0 ++ (⟨#[45]⟩ : ByteArray)) ++ a1) ++ (⟨#[47]⟩ : ByteArray)) ++ a2) a3 t126 t127 t128 _ (hT.keep (by repeat (first | (with_reducible first | exact HB.out | apply below_alloc | apply pw_below_drewN | apply below_drew1 | refine below_set ?_ GE129.out) | exact HB.out))) A27.out).mono ?_); rintro e w222 ⟨rfl, hb⟩; refine ⟨_, rfl, ?_⟩; have n0_ := Aside0.mk (below_step (by repeat (first | (with_reducible first | exact HB.out | apply below_alloc | apply pw_below_drewN | apply below_drew1) | exact HB.out)) hb); clear HB; have HB := n0_; clear n0_; (try clear hb); (try clear hb2); (try clear hk); (try clear hi)) | ((with_reducible refine gate_dst (N := 18) rfl ?_); (try (refine gate_guard (by rfl) ?_; dsimp only)); refine box_event ?hg (N := 18) ?hd (cs := #[.int .u64 0, .bool false]) (t := 25) ?hr ?_; (case hd => rfl); (case hg => rfl); (case hr => first | (go_simp; done) | (go_simp; rfl)); intro gb129 hg w223 hbox hb; have n0_ := Aside0.mk (below_step (by repeat (first | (with_reducible first | exact HB.out | apply below_alloc | apply pw_below_drewN | apply below_drew1) | exact HB.out)) hb); have n1_ := Aside0.mk (hbox); have n2_ := Aside0.mk ((by rw [hg]; exact (below_size (by repeat (first | (with_reducible first | exact HB.out | apply below_alloc | apply pw_below_drewN | apply below_drew1) | exact HB.out))) : w.heap.size ≤ gb129)); have n3_ := Aside0.mk ((by rw [hg]; exact (below_size (by repeat (first | (with_reducible first | exact HB.out | apply below_alloc | apply pw_below_drewN | apply below_drew1) | exact HB.out))) : w.heap.size ≤ gb129)); clear HB; have HB := n0_; have BK129 := n1_; have GW129 := n2_; have GE129 := n3_; clear n0_ n1_ n2_ n3_; clear hb hbox hg; have hcz224_0 : w223.cell? ⟨gb129, 0, none⟩ = some (.int .u64 0) := (blk_cell BK129.out 0).trans rfl; have hcz224_1 : w223.cell? ⟨gb129, 1, none⟩ = some (.bool false) := (blk_cell BK129.out 1).trans rfl; have hfz224_0 := blk_frozen BK129.out 0; have hfz224_1 := blk_frozen BK129.out 1))
                    go_ret
                    exact ⟨by first | rfl | (simp [errW_none, errW_some] <;> rfl) | (simp [*, errW_none, errW_some] <;> rfl), by repeat (first | (with_reducible first | exact HB.out | apply below_alloc | apply pw_below_drewN | apply below_drew1 | refine below_set ?_ GE129.out) | exact HB.out)⟩
                  ·exact absurd rfl c215
                 ·rw [if_neg c214] at H
                  have c214b0 : (t122 == 7) = false := beq_eq_false_iff_ne.mpr c214
                  have c214b1 : (t122 != 7) = true := bne_iff_ne.mpr c214
                  by_cases c228 : true = true
                  ·clear c228
                   have H1 : (if t128 = 0 then ((field_Has.f t126 t127 a4).bind fun t143 => (some (t143 == false))) else (some false)) = some r := by rw [if_pos rfl] at H; exact H
                   clear H
                   have H := H1
                   clear H1
                   by_cases c229 : t128 = 0
                   ·rw [if_pos c229] at H
                    have c229b0 : (t128 == 0) = true := beq_iff_eq.mpr c229
                    have c229b1 : (t128 != 0) = false := bne_eq_false_iff_eq.mpr c229
                    clear c229
                    replace H := Option.bind_eq_some_iff.mp H
                    obtain ⟨t143, A2300, H⟩ := H
                    replace H : (some (t143 == false)) = some r := H
                    have A230 := Aside0.mk A2300
                    clear A2300
                    obtain rfl := Option.some.inj H
                    go_wp2_with (first | ((with_reducible refine gate_callee (f := 10) rfl ?_); refine goesL_ (some 75) rfl rfl Tryd.func10 (by kernel_rfl) rfl #[.string ((((a0 ++ (⟨#[45]⟩ : ByteArray)) ++ a1) ++ (⟨#[47]⟩ : ByteArray)) ++ a2), .int .i64 a3] rfl (by (try simp only [List.map_toArray, List.map_cons, List.map_nil]); first | done | rfl | (simp only [List.length_drop, List.length_take]; rfl)) ?_; (with_reducible refine (field_Parse.calls ((((a0 ++ (⟨#[45]⟩ : ByteArray)) ++ a1) ++ (⟨#[47]⟩ : ByteArray)) ++ a2) a3 t126 t127 t128 _ (hT.keep (by repeat (first | (with_reducible first | exact HB.out | apply below_alloc | apply pw_below_drewN | apply below_drew1 | refine below_set ?_ GE129.out) | exact HB.out))) A27.out).mono ?_); rintro e w231 ⟨rfl, hb⟩; refine ⟨_, rfl, ?_⟩; have n0_ := Aside0.mk (below_step (by repeat (first | (with_reducible first | exact HB.out | apply below_alloc | apply pw_below_drewN | apply below_drew1) | exact HB.out)) hb); clear HB; have HB := n0_; clear n0_; (try clear hb); (try clear hb2); (try clear hk); (try clear hi)) | ((with_reducible refine gate_dst (N := 18) rfl ?_); (try (refine gate_guard (by rfl) ?_; dsimp only)); refine box_event ?hg (N := 18) ?hd (cs := #[.int .u64 0, .bool false]) (t := 25) ?hr ?_; (case hd => rfl); (case hg => rfl); (case hr => first | (go_simp; done) | (go_simp; rfl)); intro gb129 hg w232 hbox hb; have n0_ := Aside0.mk (below_step (by repeat (first | (with_reducible first | exact HB.out | apply below_alloc | apply pw_below_drewN | apply below_drew1) | exact HB.out)) hb); have n1_ := Aside0.mk (hbox); have n2_ := Aside0.mk ((by rw [hg]; exact (below_size (by repeat (first | (with_reducible first | exact HB.out | apply below_alloc | apply pw_below_drewN | apply below_drew1) | exact HB.out))) : w.heap.size ≤ gb129)); have n3_ := Aside0.mk ((by rw [hg]; exact (below_size (by repeat (first | (with_reducible first | exact HB.out | apply below_alloc | apply pw_below_drewN | apply below_drew1) | exact HB.out))) : w.heap.size ≤ gb129)); clear HB; have HB := n0_; have BK129 := n1_; have GW129 := n2_; have GE129 := n3_; clear n0_ n1_ n2_ n3_; clear hb hbox hg; have hcz233_0 : w232.cell? ⟨gb129, 0, none⟩ = some (.int .u64 0) := (blk_cell BK129.out 0).trans rfl; have hcz233_1 : w232.cell? ⟨gb129, 1, none⟩ = some (.bool false) := (blk_cell BK129.out 1).trans rfl; have hfz233_0 := blk_frozen BK129.out 0; have hfz233_1 := blk_frozen BK129.out 1) | (go_at_call 18; (with_reducible refine (field_Has.calls t126 t127 a4 t143 _ A230.out).mono ?_); rintro e w234 ⟨rfl, hb⟩; have n0_ := Aside0.mk (blk_below (g := gb129) (o := .cells #[.int .u64 t126, .bool t127] 25 (0, 0)) (by (with_reducible repeat (first | refine blk_drewN ?_ _ | refine blk_drew ?_ | refine blk_alloc ?_ _)); refine blk_put (cs := #[.int .u64 t126, .bool false]) ?_ 1 _ rfl; (with_reducible repeat (first | refine blk_drewN ?_ _ | refine blk_drew ?_ | refine blk_alloc ?_ _)); refine blk_put (cs := #[.int .u64 0, .bool false]) ?_ 0 _ rfl; (with_reducible repeat (first | refine blk_drewN ?_ _ | refine blk_drew ?_ | refine blk_alloc ?_ _)); exact BK129.out) hb); have n1_ := Aside0.mk (below_step (by repeat (first | (with_reducible first | exact HB.out | apply below_alloc | apply pw_below_drewN | apply below_drew1 | refine below_set ?_ GE129.out) | exact HB.out)) hb); clear BK129; clear HB; have BK129 := n0_; have HB := n1_; clear n0_ n1_; (try clear hb); (try clear hb2); (try clear hk); (try clear hi)))
                    go_ret
                    exact ⟨by first | rfl | (simp [errW_none, errW_some] <;> rfl) | (simp [*, errW_none, errW_some] <;> rfl), by repeat (first | (with_reducible first | exact HB.out | apply below_alloc | apply pw_below_drewN | apply below_drew1 | refine below_set ?_ GE129.out) | exact HB.out)⟩
                   ·rw [if_neg c229] at H
                    have c229b0 : (t128 == 0) = false := beq_eq_false_iff_ne.mpr c229
                    have c229b1 : (t128 != 0) = true := bne_iff_ne.mpr c229
                    obtain rfl := Option.some.inj H
                    go_wp2_with (first | ((with_reducible refine gate_callee (f := 10) rfl ?_); refine goesL_ (some 75) rfl rfl Tryd.func10 (by kernel_rfl) rfl #[.string ((((a0 ++ (⟨#[45]⟩ : ByteArray)) ++ a1) ++ (⟨#[47]⟩ : ByteArray)) ++ a2), .int .i64 a3] rfl (by (try simp only [List.map_toArray, List.map_cons, List.map_nil]); first | done | rfl | (simp only [List.length_drop, List.length_take]; rfl)) ?_; (with_reducible refine (field_Parse.calls ((((a0 ++ (⟨#[45]⟩ : ByteArray)) ++ a1) ++ (⟨#[47]⟩ : ByteArray)) ++ a2) a3 t126 t127 t128 _ (hT.keep (by repeat (first | (with_reducible first | exact HB.out | apply below_alloc | apply pw_below_drewN | apply below_drew1 | refine below_set ?_ GE129.out) | exact HB.out))) A27.out).mono ?_); rintro e w235 ⟨rfl, hb⟩; refine ⟨_, rfl, ?_⟩; have n0_ := Aside0.mk (below_step (by repeat (first | (with_reducible first | exact HB.out | apply below_alloc | apply pw_below_drewN | apply below_drew1) | exact HB.out)) hb); clear HB; have HB := n0_; clear n0_; (try clear hb); (try clear hb2); (try clear hk); (try clear hi)) | ((with_reducible refine gate_dst (N := 18) rfl ?_); (try (refine gate_guard (by rfl) ?_; dsimp only)); refine box_event ?hg (N := 18) ?hd (cs := #[.int .u64 0, .bool false]) (t := 25) ?hr ?_; (case hd => rfl); (case hg => rfl); (case hr => first | (go_simp; done) | (go_simp; rfl)); intro gb129 hg w236 hbox hb; have n0_ := Aside0.mk (below_step (by repeat (first | (with_reducible first | exact HB.out | apply below_alloc | apply pw_below_drewN | apply below_drew1) | exact HB.out)) hb); have n1_ := Aside0.mk (hbox); have n2_ := Aside0.mk ((by rw [hg]; exact (below_size (by repeat (first | (with_reducible first | exact HB.out | apply below_alloc | apply pw_below_drewN | apply below_drew1) | exact HB.out))) : w.heap.size ≤ gb129)); have n3_ := Aside0.mk ((by rw [hg]; exact (below_size (by repeat (first | (with_reducible first | exact HB.out | apply below_alloc | apply pw_below_drewN | apply below_drew1) | exact HB.out))) : w.heap.size ≤ gb129)); clear HB; have HB := n0_; have BK129 := n1_; have GW129 := n2_; have GE129 := n3_; clear n0_ n1_ n2_ n3_; clear hb hbox hg; have hcz237_0 : w236.cell? ⟨gb129, 0, none⟩ = some (.int .u64 0) := (blk_cell BK129.out 0).trans rfl; have hcz237_1 : w236.cell? ⟨gb129, 1, none⟩ = some (.bool false) := (blk_cell BK129.out 1).trans rfl; have hfz237_0 := blk_frozen BK129.out 0; have hfz237_1 := blk_frozen BK129.out 1))
                    go_ret
                    exact ⟨by first | rfl | (simp [errW_none, errW_some] <;> rfl) | (simp [*, errW_none, errW_some] <;> rfl), by repeat (first | (with_reducible first | exact HB.out | apply below_alloc | apply pw_below_drewN | apply below_drew1 | refine below_set ?_ GE129.out) | exact HB.out)⟩
                  ·exact absurd rfl c228
                ·rw [if_neg c213] at H
                 have c213b0 : (a4 == 0) = false := beq_eq_false_iff_ne.mpr c213
                 have c213b1 : (a4 != 0) = true := bne_iff_ne.mpr c213
                 by_cases c241 : true = true
                 ·clear c241
                  have H1 : (if t128 = 0 then ((field_Has.f t126 t127 a4).bind fun t144 => (some (t144 == false))) else (some false)) = some r := by rw [if_pos rfl] at H; exact H
                  clear H
                  have H := H1
                  clear H1
                  by_cases c242 : t128 = 0
                  ·rw [if_pos c242] at H
                   have c242b0 : (t128 == 0) = true := beq_iff_eq.mpr c242
                   have c242b1 : (t128 != 0) = false := bne_eq_false_iff_eq.mpr c242
                   clear c242
                   replace H := Option.bind_eq_some_iff.mp H
                   obtain ⟨t144, A2430, H⟩ := H
                   replace H : (some (t144 == false)) = some r := H
                   have A243 := Aside0.mk A2430
                   clear A2430
                   obtain rfl := Option.some.inj H
                   go_wp2_with (first | ((with_reducible refine gate_callee (f := 10) rfl ?_); refine goesL_ (some 75) rfl rfl Tryd.func10 (by kernel_rfl) rfl #[.string ((((a0 ++ (⟨#[45]⟩ : ByteArray)) ++ a1) ++ (⟨#[47]⟩ : ByteArray)) ++ a2), .int .i64 a3] rfl (by (try simp only [List.map_toArray, List.map_cons, List.map_nil]); first | done | rfl | (simp only [List.length_drop, List.length_take]; rfl)) ?_; (with_reducible refine (field_Parse.calls ((((a0 ++ (⟨#[45]⟩ : ByteArray)) ++ a1) ++ (⟨#[47]⟩ : ByteArray)) ++ a2) a3 t126 t127 t128 _ (hT.keep (by repeat (first | (with_reducible first | exact HB.out | apply below_alloc | apply pw_below_drewN | apply below_drew1 | refine below_set ?_ GE129.out) | exact HB.out))) A27.out).mono ?_); rintro e w244 ⟨rfl, hb⟩; refine ⟨_, rfl, ?_⟩; have n0_ := Aside0.mk (below_step (by repeat (first | (with_reducible first | exact HB.out | apply below_alloc | apply pw_below_drewN | apply below_drew1) | exact HB.out)) hb); clear HB; have HB := n0_; clear n0_; (try clear hb); (try clear hb2); (try clear hk); (try clear hi)) | ((with_reducible refine gate_dst (N := 18) rfl ?_); (try (refine gate_guard (by rfl) ?_; dsimp only)); refine box_event ?hg (N := 18) ?hd (cs := #[.int .u64 0, .bool false]) (t := 25) ?hr ?_; (case hd => rfl); (case hg => rfl); (case hr => first | (go_simp; done) | (go_simp; rfl)); intro gb129 hg w245 hbox hb; have n0_ := Aside0.mk (below_step (by repeat (first | (with_reducible first | exact HB.out | apply below_alloc | apply pw_below_drewN | apply below_drew1) | exact HB.out)) hb); have n1_ := Aside0.mk (hbox); have n2_ := Aside0.mk ((by rw [hg]; exact (below_size (by repeat (first | (with_reducible first | exact HB.out | apply below_alloc | apply pw_below_drewN | apply below_drew1) | exact HB.out))) : w.heap.size ≤ gb129)); have n3_ := Aside0.mk ((by rw [hg]; exact (below_size (by repeat (first | (with_reducible first | exact HB.out | apply below_alloc | apply pw_below_drewN | apply below_drew1) | exact HB.out))) : w.heap.size ≤ gb129)); clear HB; have HB := n0_; have BK129 := n1_; have GW129 := n2_; have GE129 := n3_; clear n0_ n1_ n2_ n3_; clear hb hbox hg; have hcz246_0 : w245.cell? ⟨gb129, 0, none⟩ = some (.int .u64 0) := (blk_cell BK129.out 0).trans rfl; have hcz246_1 : w245.cell? ⟨gb129, 1, none⟩ = some (.bool false) := (blk_cell BK129.out 1).trans rfl; have hfz246_0 := blk_frozen BK129.out 0; have hfz246_1 := blk_frozen BK129.out 1) | (go_at_call 18; (with_reducible refine (field_Has.calls t126 t127 a4 t144 _ A243.out).mono ?_); rintro e w247 ⟨rfl, hb⟩; have n0_ := Aside0.mk (blk_below (g := gb129) (o := .cells #[.int .u64 t126, .bool t127] 25 (0, 0)) (by (with_reducible repeat (first | refine blk_drewN ?_ _ | refine blk_drew ?_ | refine blk_alloc ?_ _)); refine blk_put (cs := #[.int .u64 t126, .bool false]) ?_ 1 _ rfl; (with_reducible repeat (first | refine blk_drewN ?_ _ | refine blk_drew ?_ | refine blk_alloc ?_ _)); refine blk_put (cs := #[.int .u64 0, .bool false]) ?_ 0 _ rfl; (with_reducible repeat (first | refine blk_drewN ?_ _ | refine blk_drew ?_ | refine blk_alloc ?_ _)); exact BK129.out) hb); have n1_ := Aside0.mk (below_step (by repeat (first | (with_reducible first | exact HB.out | apply below_alloc | apply pw_below_drewN | apply below_drew1 | refine below_set ?_ GE129.out) | exact HB.out)) hb); clear BK129; clear HB; have BK129 := n0_; have HB := n1_; clear n0_ n1_; (try clear hb); (try clear hb2); (try clear hk); (try clear hi)))
                   go_ret
                   exact ⟨by first | rfl | (simp [errW_none, errW_some] <;> rfl) | (simp [*, errW_none, errW_some] <;> rfl), by repeat (first | (with_reducible first | exact HB.out | apply below_alloc | apply pw_below_drewN | apply below_drew1 | refine below_set ?_ GE129.out) | exact HB.out)⟩
                  ·rw [if_neg c242] at H
                   have c242b0 : (t128 == 0) = false := beq_eq_false_iff_ne.mpr c242
                   have c242b1 : (t128 != 0) = true := bne_iff_ne.mpr c242
                   obtain rfl := Option.some.inj H
                   go_wp2_with (first | ((with_reducible refine gate_callee (f := 10) rfl ?_); refine goesL_ (some 75) rfl rfl Tryd.func10 (by kernel_rfl) rfl #[.string ((((a0 ++ (⟨#[45]⟩ : ByteArray)) ++ a1) ++ (⟨#[47]⟩ : ByteArray)) ++ a2), .int .i64 a3] rfl (by (try simp only [List.map_toArray, List.map_cons, List.map_nil]); first | done | rfl | (simp only [List.length_drop, List.length_take]; rfl)) ?_; (with_reducible refine (field_Parse.calls ((((a0 ++ (⟨#[45]⟩ : ByteArray)) ++ a1) ++ (⟨#[47]⟩ : ByteArray)) ++ a2) a3 t126 t127 t128 _ (hT.keep (by repeat (first | (with_reducible first | exact HB.out | apply below_alloc | apply pw_below_drewN | apply below_drew1 | refine below_set ?_ GE129.out) | exact HB.out))) A27.out).mono ?_); rintro e w248 ⟨rfl, hb⟩; refine ⟨_, rfl, ?_⟩; have n0_ := Aside0.mk (below_step (by repeat (first | (with_reducible first | exact HB.out | apply below_alloc | apply pw_below_drewN | apply below_drew1) | exact HB.out)) hb); clear HB; have HB := n0_; clear n0_; (try clear hb); (try clear hb2); (try clear hk); (try clear hi)) | ((with_reducible refine gate_dst (N := 18) rfl ?_); (try (refine gate_guard (by rfl) ?_; dsimp only)); refine box_event ?hg (N := 18) ?hd (cs := #[.int .u64 0, .bool false]) (t := 25) ?hr ?_; (case hd => rfl); (case hg => rfl); (case hr => first | (go_simp; done) | (go_simp; rfl)); intro gb129 hg w249 hbox hb; have n0_ := Aside0.mk (below_step (by repeat (first | (with_reducible first | exact HB.out | apply below_alloc | apply pw_below_drewN | apply below_drew1) | exact HB.out)) hb); have n1_ := Aside0.mk (hbox); have n2_ := Aside0.mk ((by rw [hg]; exact (below_size (by repeat (first | (with_reducible first | exact HB.out | apply below_alloc | apply pw_below_drewN | apply below_drew1) | exact HB.out))) : w.heap.size ≤ gb129)); have n3_ := Aside0.mk ((by rw [hg]; exact (below_size (by repeat (first | (with_reducible first | exact HB.out | apply below_alloc | apply pw_below_drewN | apply below_drew1) | exact HB.out))) : w.heap.size ≤ gb129)); clear HB; have HB := n0_; have BK129 := n1_; have GW129 := n2_; have GE129 := n3_; clear n0_ n1_ n2_ n3_; clear hb hbox hg; have hcz250_0 : w249.cell? ⟨gb129, 0, none⟩ = some (.int .u64 0) := (blk_cell BK129.out 0).trans rfl; have hcz250_1 : w249.cell? ⟨gb129, 1, none⟩ = some (.bool false) := (blk_cell BK129.out 1).trans rfl; have hfz250_0 := blk_frozen BK129.out 0; have hfz250_1 := blk_frozen BK129.out 1))
                   go_ret
                   exact ⟨by first | rfl | (simp [errW_none, errW_some] <;> rfl) | (simp [*, errW_none, errW_some] <;> rfl), by repeat (first | (with_reducible first | exact HB.out | apply below_alloc | apply pw_below_drewN | apply below_drew1 | refine below_set ?_ GE129.out) | exact HB.out)⟩
                 ·exact absurd rfl c241
               ·rw [if_neg c212] at H
                have c212b0 : (a3 == 4) = false := beq_eq_false_iff_ne.mpr c212
                have c212b1 : (a3 != 4) = true := bne_iff_ne.mpr c212
                by_cases c254 : true = true
                ·clear c254
                 have H1 : (if t128 = 0 then ((field_Has.f t126 t127 a4).bind fun t145 => (some (t145 == false))) else (some false)) = some r := by rw [if_pos rfl] at H; exact H
                 clear H
                 have H := H1
                 clear H1
                 by_cases c255 : t128 = 0
                 ·rw [if_pos c255] at H
                  have c255b0 : (t128 == 0) = true := beq_iff_eq.mpr c255
                  have c255b1 : (t128 != 0) = false := bne_eq_false_iff_eq.mpr c255
                  clear c255
                  replace H := Option.bind_eq_some_iff.mp H
                  obtain ⟨t145, A2560, H⟩ := H
                  replace H : (some (t145 == false)) = some r := H
                  have A256 := Aside0.mk A2560
                  clear A2560
                  obtain rfl := Option.some.inj H
                  go_wp2_with (first | ((with_reducible refine gate_callee (f := 10) rfl ?_); refine goesL_ (some 75) rfl rfl Tryd.func10 (by kernel_rfl) rfl #[.string ((((a0 ++ (⟨#[45]⟩ : ByteArray)) ++ a1) ++ (⟨#[47]⟩ : ByteArray)) ++ a2), .int .i64 a3] rfl (by (try simp only [List.map_toArray, List.map_cons, List.map_nil]); first | done | rfl | (simp only [List.length_drop, List.length_take]; rfl)) ?_; (with_reducible refine (field_Parse.calls ((((a0 ++ (⟨#[45]⟩ : ByteArray)) ++ a1) ++ (⟨#[47]⟩ : ByteArray)) ++ a2) a3 t126 t127 t128 _ (hT.keep (by repeat (first | (with_reducible first | exact HB.out | apply below_alloc | apply pw_below_drewN | apply below_drew1 | refine below_set ?_ GE129.out) | exact HB.out))) A27.out).mono ?_); rintro e w257 ⟨rfl, hb⟩; refine ⟨_, rfl, ?_⟩; have n0_ := Aside0.mk (below_step (by repeat (first | (with_reducible first | exact HB.out | apply below_alloc | apply pw_below_drewN | apply below_drew1) | exact HB.out)) hb); clear HB; have HB := n0_; clear n0_; (try clear hb); (try clear hb2); (try clear hk); (try clear hi)) | ((with_reducible refine gate_dst (N := 18) rfl ?_); (try (refine gate_guard (by rfl) ?_; dsimp only)); refine box_event ?hg (N := 18) ?hd (cs := #[.int .u64 0, .bool false]) (t := 25) ?hr ?_; (case hd => rfl); (case hg => rfl); (case hr => first | (go_simp; done) | (go_simp; rfl)); intro gb129 hg w258 hbox hb; have n0_ := Aside0.mk (below_step (by repeat (first | (with_reducible first | exact HB.out | apply below_alloc | apply pw_below_drewN | apply below_drew1) | exact HB.out)) hb); have n1_ := Aside0.mk (hbox); have n2_ := Aside0.mk ((by rw [hg]; exact (below_size (by repeat (first | (with_reducible first | exact HB.out | apply below_alloc | apply pw_below_drewN | apply below_drew1) | exact HB.out))) : w.heap.size ≤ gb129)); have n3_ := Aside0.mk ((by rw [hg]; exact (below_size (by repeat (first | (with_reducible first | exact HB.out | apply below_alloc | apply pw_below_drewN | apply below_drew1) | exact HB.out))) : w.heap.size ≤ gb129)); clear HB; have HB := n0_; have BK129 := n1_; have GW129 := n2_; have GE129 := n3_; clear n0_ n1_ n2_ n3_; clear hb hbox hg; have hcz259_0 : w258.cell? ⟨gb129, 0, none⟩ = some (.int .u64 0) := (blk_cell BK129.out 0).trans rfl; have hcz259_1 : w258.cell? ⟨gb129, 1, none⟩ = some (.bool false) := (blk_cell BK129.out 1).trans rfl; have hfz259_0 := blk_frozen BK129.out 0; have hfz259_1 := blk_frozen BK129.out 1) | (go_at_call 18; (with_reducible refine (field_Has.calls t126 t127 a4 t145 _ A256.out).mono ?_); rintro e w260 ⟨rfl, hb⟩; have n0_ := Aside0.mk (blk_below (g := gb129) (o := .cells #[.int .u64 t126, .bool t127] 25 (0, 0)) (by (with_reducible repeat (first | refine blk_drewN ?_ _ | refine blk_drew ?_ | refine blk_alloc ?_ _)); refine blk_put (cs := #[.int .u64 t126, .bool false]) ?_ 1 _ rfl; (with_reducible repeat (first | refine blk_drewN ?_ _ | refine blk_drew ?_ | refine blk_alloc ?_ _)); refine blk_put (cs := #[.int .u64 0, .bool false]) ?_ 0 _ rfl; (with_reducible repeat (first | refine blk_drewN ?_ _ | refine blk_drew ?_ | refine blk_alloc ?_ _)); exact BK129.out) hb); have n1_ := Aside0.mk (below_step (by repeat (first | (with_reducible first | exact HB.out | apply below_alloc | apply pw_below_drewN | apply below_drew1 | refine below_set ?_ GE129.out) | exact HB.out)) hb); clear BK129; clear HB; have BK129 := n0_; have HB := n1_; clear n0_ n1_; (try clear hb); (try clear hb2); (try clear hk); (try clear hi)))
                  go_ret
                  exact ⟨by first | rfl | (simp [errW_none, errW_some] <;> rfl) | (simp [*, errW_none, errW_some] <;> rfl), by repeat (first | (with_reducible first | exact HB.out | apply below_alloc | apply pw_below_drewN | apply below_drew1 | refine below_set ?_ GE129.out) | exact HB.out)⟩
                 ·rw [if_neg c255] at H
                  have c255b0 : (t128 == 0) = false := beq_eq_false_iff_ne.mpr c255
                  have c255b1 : (t128 != 0) = true := bne_iff_ne.mpr c255
                  obtain rfl := Option.some.inj H
                  go_wp2_with (first | ((with_reducible refine gate_callee (f := 10) rfl ?_); refine goesL_ (some 75) rfl rfl Tryd.func10 (by kernel_rfl) rfl #[.string ((((a0 ++ (⟨#[45]⟩ : ByteArray)) ++ a1) ++ (⟨#[47]⟩ : ByteArray)) ++ a2), .int .i64 a3] rfl (by (try simp only [List.map_toArray, List.map_cons, List.map_nil]); first | done | rfl | (simp only [List.length_drop, List.length_take]; rfl)) ?_; (with_reducible refine (field_Parse.calls ((((a0 ++ (⟨#[45]⟩ : ByteArray)) ++ a1) ++ (⟨#[47]⟩ : ByteArray)) ++ a2) a3 t126 t127 t128 _ (hT.keep (by repeat (first | (with_reducible first | exact HB.out | apply below_alloc | apply pw_below_drewN | apply below_drew1 | refine below_set ?_ GE129.out) | exact HB.out))) A27.out).mono ?_); rintro e w261 ⟨rfl, hb⟩; refine ⟨_, rfl, ?_⟩; have n0_ := Aside0.mk (below_step (by repeat (first | (with_reducible first | exact HB.out | apply below_alloc | apply pw_below_drewN | apply below_drew1) | exact HB.out)) hb); clear HB; have HB := n0_; clear n0_; (try clear hb); (try clear hb2); (try clear hk); (try clear hi)) | ((with_reducible refine gate_dst (N := 18) rfl ?_); (try (refine gate_guard (by rfl) ?_; dsimp only)); refine box_event ?hg (N := 18) ?hd (cs := #[.int .u64 0, .bool false]) (t := 25) ?hr ?_; (case hd => rfl); (case hg => rfl); (case hr => first | (go_simp; done) | (go_simp; rfl)); intro gb129 hg w262 hbox hb; have n0_ := Aside0.mk (below_step (by repeat (first | (with_reducible first | exact HB.out | apply below_alloc | apply pw_below_drewN | apply below_drew1) | exact HB.out)) hb); have n1_ := Aside0.mk (hbox); have n2_ := Aside0.mk ((by rw [hg]; exact (below_size (by repeat (first | (with_reducible first | exact HB.out | apply below_alloc | apply pw_below_drewN | apply below_drew1) | exact HB.out))) : w.heap.size ≤ gb129)); have n3_ := Aside0.mk ((by rw [hg]; exact (below_size (by repeat (first | (with_reducible first | exact HB.out | apply below_alloc | apply pw_below_drewN | apply below_drew1) | exact HB.out))) : w.heap.size ≤ gb129)); clear HB; have HB := n0_; have BK129 := n1_; have GW129 := n2_; have GE129 := n3_; clear n0_ n1_ n2_ n3_; clear hb hbox hg; have hcz263_0 : w262.cell? ⟨gb129, 0, none⟩ = some (.int .u64 0) := (blk_cell BK129.out 0).trans rfl; have hcz263_1 : w262.cell? ⟨gb129, 1, none⟩ = some (.bool false) := (blk_cell BK129.out 1).trans rfl; have hfz263_0 := blk_frozen BK129.out 0; have hfz263_1 := blk_frozen BK129.out 1))
                  go_ret
                  exact ⟨by first | rfl | (simp [errW_none, errW_some] <;> rfl) | (simp [*, errW_none, errW_some] <;> rfl), by repeat (first | (with_reducible first | exact HB.out | apply below_alloc | apply pw_below_drewN | apply below_drew1 | refine below_set ?_ GE129.out) | exact HB.out)⟩
                ·exact absurd rfl c254
           ·rw [if_neg c26] at H
            exact absurd H (by simp)
          ·rw [if_neg c25] at H
           exact absurd H (by simp)
         ·rw [if_neg c24] at H
          exact absurd H (by simp)
        ·rw [if_neg c23] at H
         exact absurd H (by simp)
 ·replace c7 := Bool.eq_false_iff.mpr c7
  subst c7
  have H1 : (some false) = some r := by rw [if_neg (show ¬ (false = true) by decide)] at H; exact H
  clear H
  have H := H1
  clear H1
  obtain rfl := Option.some.inj H
  go_enter Tryd.func7, Tryd.ntmps7
  go_wp2_with (first | ((with_reducible refine gate_callee (f := 9) rfl ?_); refine goesL_ (some 21) rfl rfl Tryd.func9 (by kernel_rfl) rfl #[] rfl (by (try simp only [List.map_toArray, List.map_cons, List.map_nil]); first | done | rfl | (simp only [List.length_drop, List.length_take]; rfl)) ?_; (with_reducible refine (complinelaw18_works.calls  false _ (hT.keep (by repeat (first | (with_reducible first | exact HB.out | apply below_alloc | apply pw_below_drewN | apply below_drew1 | refine below_set ?_ GE129.out) | exact HB.out))) A6.out).mono ?_); rintro e w267 ⟨rfl, hb⟩; refine ⟨_, rfl, ?_⟩; have n0_ := Aside0.mk (below_step (by repeat (first | (with_reducible first | exact HB.out | apply below_alloc | apply pw_below_drewN | apply below_drew1) | exact HB.out)) hb); clear HB; have HB := n0_; clear n0_; (try clear hb); (try clear hb2); (try clear hk); (try clear hi)))
  go_ret
  exact ⟨by first | rfl | (simp [errW_none, errW_some] <;> rfl) | (simp [*, errW_none, errW_some] <;> rfl), by repeat (first | (with_reducible first | exact HB.out | apply below_alloc | apply pw_below_drewN | apply below_drew1) | exact HB.out)⟩

/-- THE ONE PURE STATEMENT of complinelaw18_FieldRuns: yours. -/
def complinelaw18_FieldRuns.Pure : Prop := ∀ (a0 : ByteArray) (a1 : ByteArray) (a2 : ByteArray) (a3 : Int) (a4 : Int), a0.size ≤ 140737488351232 → a1.size ≤ 140737488351232 → a2.size ≤ 140737488351232 → (Lit.int .i64 a3).wf = true → (Lit.int .i64 a4).wf = true → ∃ k, complinelaw18_FieldRuns.f k a0 a1 a2 a3 a4 = some true
theorem complinelaw18_FieldRuns.walk (P : complinelaw18_FieldRuns.Pure) (a0 : ByteArray) (a1 : ByteArray) (a2 : ByteArray) (a3 : Int) (a4 : Int) (w : World) (hT : Tab w) (w0 : a0.size ≤ 140737488351232) (w1 : a1.size ≤ 140737488351232) (w2 : a2.size ≤ 140737488351232) (w3 : (Lit.int .i64 a3).wf = true) (w4 : (Lit.int .i64 a4).wf = true) :
  Calls Tryd.prog 7 #[.string a0, .string a1, .string a2, .int .i64 a3, .int .i64 a4] w fun e w' => e = .returned (.bool true) ∧ Below w.heap.size w w' := by
 have HB := Aside0.mk (Below.refl w.heap.size w)
 obtain ⟨k, h⟩ := P a0 a1 a2 a3 a4 w0 w1 w2 w3 w4
 refine (complinelaw18_FieldRuns.calls k a0 a1 a2 a3 a4 true w (hT.keep (by repeat (first | (with_reducible first | exact HB.out | apply below_alloc | apply pw_below_drewN | apply below_drew1) | exact HB.out))) h).mono ?_
 rintro e w' ⟨rfl, hd⟩
 exact ⟨rfl, hd⟩

end Go.Proofs.YtfkhifbllpibjaaDoor.PFtl
