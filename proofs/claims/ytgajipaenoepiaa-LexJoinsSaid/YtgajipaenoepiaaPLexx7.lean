-- Written by a program of this session (gprint.py) over the kit's print.
import Derived.Test.YtgajipaenoepiaaPLexx0
import Derived.Test.YtgajipaenoepiaaPLexx2
import Derived.Test.YtgajipaenoepiaaPLexx3
import Derived.Test.YtgajipaenoepiaaPLexx4
namespace Go.Proofs.Ytgajipaenoepiaa.PLex
open Go.RowKit Go.Proofs.YtgajipaenoepiaaW.PrintWords Go.Proofs.YtgajipaenoepiaaW.PrintLast Go.Proofs.YtgajipaenoepiaaW.PrintMore
attribute [local go_sem] max2_int min2_int max_two min_two max_three min_three max_four min_four   -- for this text's walks alone
set_option linter.unusedVariables false
set_option linter.unusedSimpArgs false

/-! ### complinelaw17_LexCase: function 6 -/
def complinelaw17_LexCase.f (k : Nat) (a0 : ByteArray) (a1 : Int) : Option (Bool) := (complinelaw17_works.f k).bind fun t204 => (if t204 = true then (if (a0.size : Int) > 400 then (some t204) else ((lex_Value.f a0 a1).bind fun bt205 => ((complineref17_Lower.f k a0).bind fun t207 => ((lex_Value.f t207 a1).bind fun bt208 => ((lex_Name.f a0 a1).bind fun bt210 => ((complineref17_Lower.f k a0).bind fun t212 => ((lex_Name.f t212 a1).bind fun bt213 => (if bt205.1 = bt208.1 then (if bt205.2 = bt208.2 then (if bt210.1 = bt213.1 then (some (bt210.2 == bt213.2)) else (some false)) else (some false)) else (some false))))))))) else (some false))
theorem complinelaw17_LexCase.mono : ∀ a0 a1 k, LeO (complinelaw17_LexCase.f k a0 a1) (complinelaw17_LexCase.f (k + 1) a0 a1) := by
  intro a0 a1 k
  unfold complinelaw17_LexCase.f
  repeat' first
      | (with_reducible exact complinelaw17_works.mono _)
      | (with_reducible exact complineref17_Lower.mono _ _)
      | (with_reducible exact LeO.refl _)
      | (with_reducible exact LeO.none _)
      | (with_reducible refine LeO.ite ?_ ?_)
      | (with_reducible refine LeO.bind ?_ (fun _ => ?_))
      | exact complinelaw17_works.mono _
      | exact complineref17_Lower.mono _ _
      | exact LeO.none _
      | refine LeO.ite ?_ ?_
      | refine LeO.bind ?_ (fun _ => ?_)
set_option maxHeartbeats 8000000 in
set_option maxRecDepth 100000 in
theorem complinelaw17_LexCase.calls (k : Nat) (a0 : ByteArray) (a1 : Int) (r : Bool) (w : World) (h : complinelaw17_LexCase.f k a0 a1 = some r) :
    Calls Try.prog 6 #[.string a0, .int .i64 a1] w fun e w' => e = .returned (.bool r) ∧ Below w.heap.size w w' := by
  have HB := Aside0.mk (Below.refl w.heap.size w)
  have H : ((complinelaw17_works.f k).bind fun t204 => (if t204 = true then (if (a0.size : Int) > 400 then (some t204) else ((lex_Value.f a0 a1).bind fun bt205 => ((complineref17_Lower.f k a0).bind fun t207 => ((lex_Value.f t207 a1).bind fun bt208 => ((lex_Name.f a0 a1).bind fun bt210 => ((complineref17_Lower.f k a0).bind fun t212 => ((lex_Name.f t212 a1).bind fun bt213 => (if bt205.1 = bt208.1 then (if bt205.2 = bt208.2 then (if bt210.1 = bt213.1 then (some (bt210.2 == bt213.2)) else (some false)) else (some false)) else (some false))))))))) else (some false))) = some r := h
  clear h
  replace H := Option.bind_eq_some_iff.mp H
  obtain ⟨t204, A30, H⟩ := H
  replace H : (if t204 = true then (if (a0.size : Int) > 400 then (some t204) else ((lex_Value.f a0 a1).bind fun bt205 => ((complineref17_Lower.f k a0).bind fun t207 => ((lex_Value.f t207 a1).bind fun bt208 => ((lex_Name.f a0 a1).bind fun bt210 => ((complineref17_Lower.f k a0).bind fun t212 => ((lex_Name.f t212 a1).bind fun bt213 => (if bt205.1 = bt208.1 then (if bt205.2 = bt208.2 then (if bt210.1 = bt213.1 then (some (bt210.2 == bt213.2)) else (some false)) else (some false)) else (some false))))))))) else (some false)) = some r := H
  have A3 := Aside0.mk A30
  clear A30
  by_cases c4 : t204 = true
  · subst c4
    have H1 : (if (a0.size : Int) > 400 then (some true) else ((lex_Value.f a0 a1).bind fun bt205 => ((complineref17_Lower.f k a0).bind fun t207 => ((lex_Value.f t207 a1).bind fun bt208 => ((lex_Name.f a0 a1).bind fun bt210 => ((complineref17_Lower.f k a0).bind fun t212 => ((lex_Name.f t212 a1).bind fun bt213 => (if bt205.1 = bt208.1 then (if bt205.2 = bt208.2 then (if bt210.1 = bt213.1 then (some (bt210.2 == bt213.2)) else (some false)) else (some false)) else (some false))))))))) = some r := by rw [if_pos rfl] at H; exact H
    clear H
    have H := H1
    clear H1
    by_cases c5 : (a0.size : Int) > 400
    · rw [if_pos c5] at H
      have c5b0 : decide (400 < (a0.size : Int)) = true := decide_eq_true c5
      have c5b1 : decide (400 < a0.size) = true := decide_eq_true (by omega)
      clear c5
      obtain rfl := Option.some.inj H
      go_enter Try.func6, Try.ntmps6
      go_wp2_with (first | ((with_reducible refine gate_callee (f := 8) rfl ?_); refine goesL_ (some 14) rfl rfl Try.func8 (by kernel_rfl) rfl #[] rfl (by (try simp only [List.map_toArray, List.map_cons, List.map_nil]); first | done | rfl | (simp only [List.length_drop, List.length_take]; rfl)) ?_; (with_reducible refine (complinelaw17_works.calls k  true _ A3.out).mono ?_); rintro e w6 ⟨rfl, hb⟩; refine ⟨_, rfl, ?_⟩; have n0_ := Aside0.mk (below_step (by repeat (first | (with_reducible first | exact HB.out | apply below_alloc | apply pw_below_drewN | apply below_drew1) | exact HB.out)) hb); clear HB; have HB := n0_; clear n0_; (try clear hb); (try clear hb2); (try clear hk); (try clear hi)))
      go_ret
      exact ⟨by first | rfl | (simp [errW_none, errW_some] <;> rfl) | (simp [*, errW_none, errW_some] <;> rfl), by repeat (first | (with_reducible first | exact HB.out | apply below_alloc | apply pw_below_drewN | apply below_drew1) | exact HB.out)⟩
    · rw [if_neg c5] at H
      have c5b0 : decide (400 < (a0.size : Int)) = false := decide_eq_false c5
      have c5b1 : decide (400 < a0.size) = false := decide_eq_false (by omega)
      clear c5
      replace H := Option.bind_eq_some_iff.mp H
      obtain ⟨⟨t205, t206⟩, A70, H⟩ := H
      replace H : ((complineref17_Lower.f k a0).bind fun t207 => ((lex_Value.f t207 a1).bind fun bt208 => ((lex_Name.f a0 a1).bind fun bt210 => ((complineref17_Lower.f k a0).bind fun t212 => ((lex_Name.f t212 a1).bind fun bt213 => (if t205 = bt208.1 then (if t206 = bt208.2 then (if bt210.1 = bt213.1 then (some (bt210.2 == bt213.2)) else (some false)) else (some false)) else (some false))))))) = some r := H
      have A7 := Aside0.mk A70
      clear A70
      replace H := Option.bind_eq_some_iff.mp H
      obtain ⟨t207, A80, H⟩ := H
      replace H : ((lex_Value.f t207 a1).bind fun bt208 => ((lex_Name.f a0 a1).bind fun bt210 => ((complineref17_Lower.f k a0).bind fun t212 => ((lex_Name.f t212 a1).bind fun bt213 => (if t205 = bt208.1 then (if t206 = bt208.2 then (if bt210.1 = bt213.1 then (some (bt210.2 == bt213.2)) else (some false)) else (some false)) else (some false)))))) = some r := H
      have A8 := Aside0.mk A80
      clear A80
      replace H := Option.bind_eq_some_iff.mp H
      obtain ⟨⟨t208, t209⟩, A90, H⟩ := H
      replace H : ((lex_Name.f a0 a1).bind fun bt210 => ((complineref17_Lower.f k a0).bind fun t212 => ((lex_Name.f t212 a1).bind fun bt213 => (if t205 = t208 then (if t206 = t209 then (if bt210.1 = bt213.1 then (some (bt210.2 == bt213.2)) else (some false)) else (some false)) else (some false))))) = some r := H
      have A9 := Aside0.mk A90
      clear A90
      replace H := Option.bind_eq_some_iff.mp H
      obtain ⟨⟨t210, t211⟩, A100, H⟩ := H
      replace H : ((complineref17_Lower.f k a0).bind fun t212 => ((lex_Name.f t212 a1).bind fun bt213 => (if t205 = t208 then (if t206 = t209 then (if t210 = bt213.1 then (some (t211 == bt213.2)) else (some false)) else (some false)) else (some false)))) = some r := H
      have A10 := Aside0.mk A100
      clear A100
      replace H := Option.bind_eq_some_iff.mp H
      obtain ⟨t212, A110, H⟩ := H
      replace H : ((lex_Name.f t212 a1).bind fun bt213 => (if t205 = t208 then (if t206 = t209 then (if t210 = bt213.1 then (some (t211 == bt213.2)) else (some false)) else (some false)) else (some false))) = some r := H
      have A11 := Aside0.mk A110
      clear A110
      replace H := Option.bind_eq_some_iff.mp H
      obtain ⟨⟨t213, t214⟩, A120, H⟩ := H
      replace H : (if t205 = t208 then (if t206 = t209 then (if t210 = t213 then (some (t211 == t214)) else (some false)) else (some false)) else (some false)) = some r := H
      have A12 := Aside0.mk A120
      clear A120
      by_cases c13 : t205 = t208
      · rw [if_pos c13] at H
        have c13b0 : (t205 == t208) = true := beq_iff_eq.mpr c13
        have c13b1 : (t205 != t208) = false := bne_eq_false_iff_eq.mpr c13
        clear c13
        by_cases c14 : t206 = t209
        · rw [if_pos c14] at H
          have c14b0 : (t206 == t209) = true := beq_iff_eq.mpr c14
          have c14b1 : (t206 != t209) = false := bne_eq_false_iff_eq.mpr c14
          clear c14
          by_cases c15 : t210 = t213
          · rw [if_pos c15] at H
            have c15b0 : (t210 == t213) = true := beq_iff_eq.mpr c15
            have c15b1 : (t210 != t213) = false := bne_eq_false_iff_eq.mpr c15
            clear c15
            obtain rfl := Option.some.inj H
            go_enter Try.func6, Try.ntmps6
            go_wp2_with (first | ((with_reducible refine gate_callee (f := 8) rfl ?_); refine goesL_ (some 14) rfl rfl Try.func8 (by kernel_rfl) rfl #[] rfl (by (try simp only [List.map_toArray, List.map_cons, List.map_nil]); first | done | rfl | (simp only [List.length_drop, List.length_take]; rfl)) ?_; (with_reducible refine (complinelaw17_works.calls k  true _ A3.out).mono ?_); rintro e w16 ⟨rfl, hb⟩; refine ⟨_, rfl, ?_⟩; have n0_ := Aside0.mk (below_step (by repeat (first | (with_reducible first | exact HB.out | apply below_alloc | apply pw_below_drewN | apply below_drew1) | exact HB.out)) hb); clear HB; have HB := n0_; clear n0_; (try clear hb); (try clear hb2); (try clear hk); (try clear hi)) | ((with_reducible refine gate_callee (f := 12) rfl ?_); refine goesL_ (some 24) rfl rfl Try.func12 (by kernel_rfl) rfl #[.string a0, .int .i64 a1] rfl (by (try simp only [List.map_toArray, List.map_cons, List.map_nil]); first | done | rfl | (simp only [List.length_drop, List.length_take]; rfl)) ?_; (with_reducible refine (lex_Value.calls a0 a1 t205 t206 _ A7.out).mono ?_); rintro e w17 ⟨rfl, hb⟩; refine ⟨_, rfl, ?_⟩; have n0_ := Aside0.mk (below_step (by repeat (first | (with_reducible first | exact HB.out | apply below_alloc | apply pw_below_drewN | apply below_drew1) | exact HB.out)) hb); clear HB; have HB := n0_; clear n0_; (try clear hb); (try clear hb2); (try clear hk); (try clear hi)) | ((with_reducible refine gate_callee (f := 20) rfl ?_); refine goesL_ (some 29) rfl rfl Try.func20 (by kernel_rfl) rfl #[.string a0] rfl (by (try simp only [List.map_toArray, List.map_cons, List.map_nil]); first | done | rfl | (simp only [List.length_drop, List.length_take]; rfl)) ?_; (with_reducible refine (complineref17_Lower.calls k a0 t207 _ A8.out).mono ?_); rintro e w18 ⟨rfl, hb⟩; refine ⟨_, rfl, ?_⟩; have n0_ := Aside0.mk (below_step (by repeat (first | (with_reducible first | exact HB.out | apply below_alloc | apply pw_below_drewN | apply below_drew1) | exact HB.out)) hb); clear HB; have HB := n0_; clear n0_; (try clear hb); (try clear hb2); (try clear hk); (try clear hi)) | ((with_reducible refine gate_callee (f := 12) rfl ?_); refine goesL_ (some 31) rfl rfl Try.func12 (by kernel_rfl) rfl #[.string t207, .int .i64 a1] rfl (by (try simp only [List.map_toArray, List.map_cons, List.map_nil]); first | done | rfl | (simp only [List.length_drop, List.length_take]; rfl)) ?_; (with_reducible refine (lex_Value.calls t207 a1 t208 t209 _ A9.out).mono ?_); rintro e w19 ⟨rfl, hb⟩; refine ⟨_, rfl, ?_⟩; have n0_ := Aside0.mk (below_step (by repeat (first | (with_reducible first | exact HB.out | apply below_alloc | apply pw_below_drewN | apply below_drew1) | exact HB.out)) hb); clear HB; have HB := n0_; clear n0_; (try clear hb); (try clear hb2); (try clear hk); (try clear hi)) | ((with_reducible refine gate_callee (f := 16) rfl ?_); refine goesL_ (some 37) rfl rfl Try.func16 (by kernel_rfl) rfl #[.string a0, .int .i64 a1] rfl (by (try simp only [List.map_toArray, List.map_cons, List.map_nil]); first | done | rfl | (simp only [List.length_drop, List.length_take]; rfl)) ?_; (with_reducible refine (lex_Name.calls a0 a1 t210 t211 _ A10.out).mono ?_); rintro e w20 ⟨rfl, hb⟩; refine ⟨_, rfl, ?_⟩; have n0_ := Aside0.mk (below_step (by repeat (first | (with_reducible first | exact HB.out | apply below_alloc | apply pw_below_drewN | apply below_drew1) | exact HB.out)) hb); clear HB; have HB := n0_; clear n0_; (try clear hb); (try clear hb2); (try clear hk); (try clear hi)) | ((with_reducible refine gate_callee (f := 20) rfl ?_); refine goesL_ (some 42) rfl rfl Try.func20 (by kernel_rfl) rfl #[.string a0] rfl (by (try simp only [List.map_toArray, List.map_cons, List.map_nil]); first | done | rfl | (simp only [List.length_drop, List.length_take]; rfl)) ?_; (with_reducible refine (complineref17_Lower.calls k a0 t212 _ A11.out).mono ?_); rintro e w21 ⟨rfl, hb⟩; refine ⟨_, rfl, ?_⟩; have n0_ := Aside0.mk (below_step (by repeat (first | (with_reducible first | exact HB.out | apply below_alloc | apply pw_below_drewN | apply below_drew1) | exact HB.out)) hb); clear HB; have HB := n0_; clear n0_; (try clear hb); (try clear hb2); (try clear hk); (try clear hi)) | ((with_reducible refine gate_callee (f := 16) rfl ?_); refine goesL_ (some 44) rfl rfl Try.func16 (by kernel_rfl) rfl #[.string t212, .int .i64 a1] rfl (by (try simp only [List.map_toArray, List.map_cons, List.map_nil]); first | done | rfl | (simp only [List.length_drop, List.length_take]; rfl)) ?_; (with_reducible refine (lex_Name.calls t212 a1 t213 t214 _ A12.out).mono ?_); rintro e w22 ⟨rfl, hb⟩; refine ⟨_, rfl, ?_⟩; have n0_ := Aside0.mk (below_step (by repeat (first | (with_reducible first | exact HB.out | apply below_alloc | apply pw_below_drewN | apply below_drew1) | exact HB.out)) hb); clear HB; have HB := n0_; clear n0_; (try clear hb); (try clear hb2); (try clear hk); (try clear hi)))
            go_ret
            exact ⟨by first | rfl | (simp [errW_none, errW_some] <;> rfl) | (simp [*, errW_none, errW_some] <;> rfl), by repeat (first | (with_reducible first | exact HB.out | apply below_alloc | apply pw_below_drewN | apply below_drew1) | exact HB.out)⟩
          · rw [if_neg c15] at H
            have c15b0 : (t210 == t213) = false := beq_eq_false_iff_ne.mpr c15
            have c15b1 : (t210 != t213) = true := bne_iff_ne.mpr c15
            obtain rfl := Option.some.inj H
            go_enter Try.func6, Try.ntmps6
            go_wp2_with (first | ((with_reducible refine gate_callee (f := 8) rfl ?_); refine goesL_ (some 14) rfl rfl Try.func8 (by kernel_rfl) rfl #[] rfl (by (try simp only [List.map_toArray, List.map_cons, List.map_nil]); first | done | rfl | (simp only [List.length_drop, List.length_take]; rfl)) ?_; (with_reducible refine (complinelaw17_works.calls k  true _ A3.out).mono ?_); rintro e w23 ⟨rfl, hb⟩; refine ⟨_, rfl, ?_⟩; have n0_ := Aside0.mk (below_step (by repeat (first | (with_reducible first | exact HB.out | apply below_alloc | apply pw_below_drewN | apply below_drew1) | exact HB.out)) hb); clear HB; have HB := n0_; clear n0_; (try clear hb); (try clear hb2); (try clear hk); (try clear hi)) | ((with_reducible refine gate_callee (f := 12) rfl ?_); refine goesL_ (some 24) rfl rfl Try.func12 (by kernel_rfl) rfl #[.string a0, .int .i64 a1] rfl (by (try simp only [List.map_toArray, List.map_cons, List.map_nil]); first | done | rfl | (simp only [List.length_drop, List.length_take]; rfl)) ?_; (with_reducible refine (lex_Value.calls a0 a1 t205 t206 _ A7.out).mono ?_); rintro e w24 ⟨rfl, hb⟩; refine ⟨_, rfl, ?_⟩; have n0_ := Aside0.mk (below_step (by repeat (first | (with_reducible first | exact HB.out | apply below_alloc | apply pw_below_drewN | apply below_drew1) | exact HB.out)) hb); clear HB; have HB := n0_; clear n0_; (try clear hb); (try clear hb2); (try clear hk); (try clear hi)) | ((with_reducible refine gate_callee (f := 20) rfl ?_); refine goesL_ (some 29) rfl rfl Try.func20 (by kernel_rfl) rfl #[.string a0] rfl (by (try simp only [List.map_toArray, List.map_cons, List.map_nil]); first | done | rfl | (simp only [List.length_drop, List.length_take]; rfl)) ?_; (with_reducible refine (complineref17_Lower.calls k a0 t207 _ A8.out).mono ?_); rintro e w25 ⟨rfl, hb⟩; refine ⟨_, rfl, ?_⟩; have n0_ := Aside0.mk (below_step (by repeat (first | (with_reducible first | exact HB.out | apply below_alloc | apply pw_below_drewN | apply below_drew1) | exact HB.out)) hb); clear HB; have HB := n0_; clear n0_; (try clear hb); (try clear hb2); (try clear hk); (try clear hi)) | ((with_reducible refine gate_callee (f := 12) rfl ?_); refine goesL_ (some 31) rfl rfl Try.func12 (by kernel_rfl) rfl #[.string t207, .int .i64 a1] rfl (by (try simp only [List.map_toArray, List.map_cons, List.map_nil]); first | done | rfl | (simp only [List.length_drop, List.length_take]; rfl)) ?_; (with_reducible refine (lex_Value.calls t207 a1 t208 t209 _ A9.out).mono ?_); rintro e w26 ⟨rfl, hb⟩; refine ⟨_, rfl, ?_⟩; have n0_ := Aside0.mk (below_step (by repeat (first | (with_reducible first | exact HB.out | apply below_alloc | apply pw_below_drewN | apply below_drew1) | exact HB.out)) hb); clear HB; have HB := n0_; clear n0_; (try clear hb); (try clear hb2); (try clear hk); (try clear hi)) | ((with_reducible refine gate_callee (f := 16) rfl ?_); refine goesL_ (some 37) rfl rfl Try.func16 (by kernel_rfl) rfl #[.string a0, .int .i64 a1] rfl (by (try simp only [List.map_toArray, List.map_cons, List.map_nil]); first | done | rfl | (simp only [List.length_drop, List.length_take]; rfl)) ?_; (with_reducible refine (lex_Name.calls a0 a1 t210 t211 _ A10.out).mono ?_); rintro e w27 ⟨rfl, hb⟩; refine ⟨_, rfl, ?_⟩; have n0_ := Aside0.mk (below_step (by repeat (first | (with_reducible first | exact HB.out | apply below_alloc | apply pw_below_drewN | apply below_drew1) | exact HB.out)) hb); clear HB; have HB := n0_; clear n0_; (try clear hb); (try clear hb2); (try clear hk); (try clear hi)) | ((with_reducible refine gate_callee (f := 20) rfl ?_); refine goesL_ (some 42) rfl rfl Try.func20 (by kernel_rfl) rfl #[.string a0] rfl (by (try simp only [List.map_toArray, List.map_cons, List.map_nil]); first | done | rfl | (simp only [List.length_drop, List.length_take]; rfl)) ?_; (with_reducible refine (complineref17_Lower.calls k a0 t212 _ A11.out).mono ?_); rintro e w28 ⟨rfl, hb⟩; refine ⟨_, rfl, ?_⟩; have n0_ := Aside0.mk (below_step (by repeat (first | (with_reducible first | exact HB.out | apply below_alloc | apply pw_below_drewN | apply below_drew1) | exact HB.out)) hb); clear HB; have HB := n0_; clear n0_; (try clear hb); (try clear hb2); (try clear hk); (try clear hi)) | ((with_reducible refine gate_callee (f := 16) rfl ?_); refine goesL_ (some 44) rfl rfl Try.func16 (by kernel_rfl) rfl #[.string t212, .int .i64 a1] rfl (by (try simp only [List.map_toArray, List.map_cons, List.map_nil]); first | done | rfl | (simp only [List.length_drop, List.length_take]; rfl)) ?_; (with_reducible refine (lex_Name.calls t212 a1 t213 t214 _ A12.out).mono ?_); rintro e w29 ⟨rfl, hb⟩; refine ⟨_, rfl, ?_⟩; have n0_ := Aside0.mk (below_step (by repeat (first | (with_reducible first | exact HB.out | apply below_alloc | apply pw_below_drewN | apply below_drew1) | exact HB.out)) hb); clear HB; have HB := n0_; clear n0_; (try clear hb); (try clear hb2); (try clear hk); (try clear hi)))
            go_ret
            exact ⟨by first | rfl | (simp [errW_none, errW_some] <;> rfl) | (simp [*, errW_none, errW_some] <;> rfl), by repeat (first | (with_reducible first | exact HB.out | apply below_alloc | apply pw_below_drewN | apply below_drew1) | exact HB.out)⟩
        · rw [if_neg c14] at H
          have c14b0 : (t206 == t209) = false := beq_eq_false_iff_ne.mpr c14
          have c14b1 : (t206 != t209) = true := bne_iff_ne.mpr c14
          obtain rfl := Option.some.inj H
          go_enter Try.func6, Try.ntmps6
          go_wp2_with (first | ((with_reducible refine gate_callee (f := 8) rfl ?_); refine goesL_ (some 14) rfl rfl Try.func8 (by kernel_rfl) rfl #[] rfl (by (try simp only [List.map_toArray, List.map_cons, List.map_nil]); first | done | rfl | (simp only [List.length_drop, List.length_take]; rfl)) ?_; (with_reducible refine (complinelaw17_works.calls k  true _ A3.out).mono ?_); rintro e w30 ⟨rfl, hb⟩; refine ⟨_, rfl, ?_⟩; have n0_ := Aside0.mk (below_step (by repeat (first | (with_reducible first | exact HB.out | apply below_alloc | apply pw_below_drewN | apply below_drew1) | exact HB.out)) hb); clear HB; have HB := n0_; clear n0_; (try clear hb); (try clear hb2); (try clear hk); (try clear hi)) | ((with_reducible refine gate_callee (f := 12) rfl ?_); refine goesL_ (some 24) rfl rfl Try.func12 (by kernel_rfl) rfl #[.string a0, .int .i64 a1] rfl (by (try simp only [List.map_toArray, List.map_cons, List.map_nil]); first | done | rfl | (simp only [List.length_drop, List.length_take]; rfl)) ?_; (with_reducible refine (lex_Value.calls a0 a1 t205 t206 _ A7.out).mono ?_); rintro e w31 ⟨rfl, hb⟩; refine ⟨_, rfl, ?_⟩; have n0_ := Aside0.mk (below_step (by repeat (first | (with_reducible first | exact HB.out | apply below_alloc | apply pw_below_drewN | apply below_drew1) | exact HB.out)) hb); clear HB; have HB := n0_; clear n0_; (try clear hb); (try clear hb2); (try clear hk); (try clear hi)) | ((with_reducible refine gate_callee (f := 20) rfl ?_); refine goesL_ (some 29) rfl rfl Try.func20 (by kernel_rfl) rfl #[.string a0] rfl (by (try simp only [List.map_toArray, List.map_cons, List.map_nil]); first | done | rfl | (simp only [List.length_drop, List.length_take]; rfl)) ?_; (with_reducible refine (complineref17_Lower.calls k a0 t207 _ A8.out).mono ?_); rintro e w32 ⟨rfl, hb⟩; refine ⟨_, rfl, ?_⟩; have n0_ := Aside0.mk (below_step (by repeat (first | (with_reducible first | exact HB.out | apply below_alloc | apply pw_below_drewN | apply below_drew1) | exact HB.out)) hb); clear HB; have HB := n0_; clear n0_; (try clear hb); (try clear hb2); (try clear hk); (try clear hi)) | ((with_reducible refine gate_callee (f := 12) rfl ?_); refine goesL_ (some 31) rfl rfl Try.func12 (by kernel_rfl) rfl #[.string t207, .int .i64 a1] rfl (by (try simp only [List.map_toArray, List.map_cons, List.map_nil]); first | done | rfl | (simp only [List.length_drop, List.length_take]; rfl)) ?_; (with_reducible refine (lex_Value.calls t207 a1 t208 t209 _ A9.out).mono ?_); rintro e w33 ⟨rfl, hb⟩; refine ⟨_, rfl, ?_⟩; have n0_ := Aside0.mk (below_step (by repeat (first | (with_reducible first | exact HB.out | apply below_alloc | apply pw_below_drewN | apply below_drew1) | exact HB.out)) hb); clear HB; have HB := n0_; clear n0_; (try clear hb); (try clear hb2); (try clear hk); (try clear hi)) | ((with_reducible refine gate_callee (f := 16) rfl ?_); refine goesL_ (some 37) rfl rfl Try.func16 (by kernel_rfl) rfl #[.string a0, .int .i64 a1] rfl (by (try simp only [List.map_toArray, List.map_cons, List.map_nil]); first | done | rfl | (simp only [List.length_drop, List.length_take]; rfl)) ?_; (with_reducible refine (lex_Name.calls a0 a1 t210 t211 _ A10.out).mono ?_); rintro e w34 ⟨rfl, hb⟩; refine ⟨_, rfl, ?_⟩; have n0_ := Aside0.mk (below_step (by repeat (first | (with_reducible first | exact HB.out | apply below_alloc | apply pw_below_drewN | apply below_drew1) | exact HB.out)) hb); clear HB; have HB := n0_; clear n0_; (try clear hb); (try clear hb2); (try clear hk); (try clear hi)) | ((with_reducible refine gate_callee (f := 20) rfl ?_); refine goesL_ (some 42) rfl rfl Try.func20 (by kernel_rfl) rfl #[.string a0] rfl (by (try simp only [List.map_toArray, List.map_cons, List.map_nil]); first | done | rfl | (simp only [List.length_drop, List.length_take]; rfl)) ?_; (with_reducible refine (complineref17_Lower.calls k a0 t212 _ A11.out).mono ?_); rintro e w35 ⟨rfl, hb⟩; refine ⟨_, rfl, ?_⟩; have n0_ := Aside0.mk (below_step (by repeat (first | (with_reducible first | exact HB.out | apply below_alloc | apply pw_below_drewN | apply below_drew1) | exact HB.out)) hb); clear HB; have HB := n0_; clear n0_; (try clear hb); (try clear hb2); (try clear hk); (try clear hi)) | ((with_reducible refine gate_callee (f := 16) rfl ?_); refine goesL_ (some 44) rfl rfl Try.func16 (by kernel_rfl) rfl #[.string t212, .int .i64 a1] rfl (by (try simp only [List.map_toArray, List.map_cons, List.map_nil]); first | done | rfl | (simp only [List.length_drop, List.length_take]; rfl)) ?_; (with_reducible refine (lex_Name.calls t212 a1 t213 t214 _ A12.out).mono ?_); rintro e w36 ⟨rfl, hb⟩; refine ⟨_, rfl, ?_⟩; have n0_ := Aside0.mk (below_step (by repeat (first | (with_reducible first | exact HB.out | apply below_alloc | apply pw_below_drewN | apply below_drew1) | exact HB.out)) hb); clear HB; have HB := n0_; clear n0_; (try clear hb); (try clear hb2); (try clear hk); (try clear hi)))
          go_ret
          exact ⟨by first | rfl | (simp [errW_none, errW_some] <;> rfl) | (simp [*, errW_none, errW_some] <;> rfl), by repeat (first | (with_reducible first | exact HB.out | apply below_alloc | apply pw_below_drewN | apply below_drew1) | exact HB.out)⟩
      · rw [if_neg c13] at H
        have c13b0 : (t205 == t208) = false := beq_eq_false_iff_ne.mpr c13
        have c13b1 : (t205 != t208) = true := bne_iff_ne.mpr c13
        obtain rfl := Option.some.inj H
        go_enter Try.func6, Try.ntmps6
        go_wp2_with (first | ((with_reducible refine gate_callee (f := 8) rfl ?_); refine goesL_ (some 14) rfl rfl Try.func8 (by kernel_rfl) rfl #[] rfl (by (try simp only [List.map_toArray, List.map_cons, List.map_nil]); first | done | rfl | (simp only [List.length_drop, List.length_take]; rfl)) ?_; (with_reducible refine (complinelaw17_works.calls k  true _ A3.out).mono ?_); rintro e w37 ⟨rfl, hb⟩; refine ⟨_, rfl, ?_⟩; have n0_ := Aside0.mk (below_step (by repeat (first | (with_reducible first | exact HB.out | apply below_alloc | apply pw_below_drewN | apply below_drew1) | exact HB.out)) hb); clear HB; have HB := n0_; clear n0_; (try clear hb); (try clear hb2); (try clear hk); (try clear hi)) | ((with_reducible refine gate_callee (f := 12) rfl ?_); refine goesL_ (some 24) rfl rfl Try.func12 (by kernel_rfl) rfl #[.string a0, .int .i64 a1] rfl (by (try simp only [List.map_toArray, List.map_cons, List.map_nil]); first | done | rfl | (simp only [List.length_drop, List.length_take]; rfl)) ?_; (with_reducible refine (lex_Value.calls a0 a1 t205 t206 _ A7.out).mono ?_); rintro e w38 ⟨rfl, hb⟩; refine ⟨_, rfl, ?_⟩; have n0_ := Aside0.mk (below_step (by repeat (first | (with_reducible first | exact HB.out | apply below_alloc | apply pw_below_drewN | apply below_drew1) | exact HB.out)) hb); clear HB; have HB := n0_; clear n0_; (try clear hb); (try clear hb2); (try clear hk); (try clear hi)) | ((with_reducible refine gate_callee (f := 20) rfl ?_); refine goesL_ (some 29) rfl rfl Try.func20 (by kernel_rfl) rfl #[.string a0] rfl (by (try simp only [List.map_toArray, List.map_cons, List.map_nil]); first | done | rfl | (simp only [List.length_drop, List.length_take]; rfl)) ?_; (with_reducible refine (complineref17_Lower.calls k a0 t207 _ A8.out).mono ?_); rintro e w39 ⟨rfl, hb⟩; refine ⟨_, rfl, ?_⟩; have n0_ := Aside0.mk (below_step (by repeat (first | (with_reducible first | exact HB.out | apply below_alloc | apply pw_below_drewN | apply below_drew1) | exact HB.out)) hb); clear HB; have HB := n0_; clear n0_; (try clear hb); (try clear hb2); (try clear hk); (try clear hi)) | ((with_reducible refine gate_callee (f := 12) rfl ?_); refine goesL_ (some 31) rfl rfl Try.func12 (by kernel_rfl) rfl #[.string t207, .int .i64 a1] rfl (by (try simp only [List.map_toArray, List.map_cons, List.map_nil]); first | done | rfl | (simp only [List.length_drop, List.length_take]; rfl)) ?_; (with_reducible refine (lex_Value.calls t207 a1 t208 t209 _ A9.out).mono ?_); rintro e w40 ⟨rfl, hb⟩; refine ⟨_, rfl, ?_⟩; have n0_ := Aside0.mk (below_step (by repeat (first | (with_reducible first | exact HB.out | apply below_alloc | apply pw_below_drewN | apply below_drew1) | exact HB.out)) hb); clear HB; have HB := n0_; clear n0_; (try clear hb); (try clear hb2); (try clear hk); (try clear hi)) | ((with_reducible refine gate_callee (f := 16) rfl ?_); refine goesL_ (some 37) rfl rfl Try.func16 (by kernel_rfl) rfl #[.string a0, .int .i64 a1] rfl (by (try simp only [List.map_toArray, List.map_cons, List.map_nil]); first | done | rfl | (simp only [List.length_drop, List.length_take]; rfl)) ?_; (with_reducible refine (lex_Name.calls a0 a1 t210 t211 _ A10.out).mono ?_); rintro e w41 ⟨rfl, hb⟩; refine ⟨_, rfl, ?_⟩; have n0_ := Aside0.mk (below_step (by repeat (first | (with_reducible first | exact HB.out | apply below_alloc | apply pw_below_drewN | apply below_drew1) | exact HB.out)) hb); clear HB; have HB := n0_; clear n0_; (try clear hb); (try clear hb2); (try clear hk); (try clear hi)) | ((with_reducible refine gate_callee (f := 20) rfl ?_); refine goesL_ (some 42) rfl rfl Try.func20 (by kernel_rfl) rfl #[.string a0] rfl (by (try simp only [List.map_toArray, List.map_cons, List.map_nil]); first | done | rfl | (simp only [List.length_drop, List.length_take]; rfl)) ?_; (with_reducible refine (complineref17_Lower.calls k a0 t212 _ A11.out).mono ?_); rintro e w42 ⟨rfl, hb⟩; refine ⟨_, rfl, ?_⟩; have n0_ := Aside0.mk (below_step (by repeat (first | (with_reducible first | exact HB.out | apply below_alloc | apply pw_below_drewN | apply below_drew1) | exact HB.out)) hb); clear HB; have HB := n0_; clear n0_; (try clear hb); (try clear hb2); (try clear hk); (try clear hi)) | ((with_reducible refine gate_callee (f := 16) rfl ?_); refine goesL_ (some 44) rfl rfl Try.func16 (by kernel_rfl) rfl #[.string t212, .int .i64 a1] rfl (by (try simp only [List.map_toArray, List.map_cons, List.map_nil]); first | done | rfl | (simp only [List.length_drop, List.length_take]; rfl)) ?_; (with_reducible refine (lex_Name.calls t212 a1 t213 t214 _ A12.out).mono ?_); rintro e w43 ⟨rfl, hb⟩; refine ⟨_, rfl, ?_⟩; have n0_ := Aside0.mk (below_step (by repeat (first | (with_reducible first | exact HB.out | apply below_alloc | apply pw_below_drewN | apply below_drew1) | exact HB.out)) hb); clear HB; have HB := n0_; clear n0_; (try clear hb); (try clear hb2); (try clear hk); (try clear hi)))
        go_ret
        exact ⟨by first | rfl | (simp [errW_none, errW_some] <;> rfl) | (simp [*, errW_none, errW_some] <;> rfl), by repeat (first | (with_reducible first | exact HB.out | apply below_alloc | apply pw_below_drewN | apply below_drew1) | exact HB.out)⟩
  · replace c4 := Bool.eq_false_iff.mpr c4
    subst c4
    have H1 : (some false) = some r := by rw [if_neg (show ¬ (false = true) by decide)] at H; exact H
    clear H
    have H := H1
    clear H1
    obtain rfl := Option.some.inj H
    go_enter Try.func6, Try.ntmps6
    go_wp2_with (first | ((with_reducible refine gate_callee (f := 8) rfl ?_); refine goesL_ (some 14) rfl rfl Try.func8 (by kernel_rfl) rfl #[] rfl (by (try simp only [List.map_toArray, List.map_cons, List.map_nil]); first | done | rfl | (simp only [List.length_drop, List.length_take]; rfl)) ?_; (with_reducible refine (complinelaw17_works.calls k  false _ A3.out).mono ?_); rintro e w44 ⟨rfl, hb⟩; refine ⟨_, rfl, ?_⟩; have n0_ := Aside0.mk (below_step (by repeat (first | (with_reducible first | exact HB.out | apply below_alloc | apply pw_below_drewN | apply below_drew1) | exact HB.out)) hb); clear HB; have HB := n0_; clear n0_; (try clear hb); (try clear hb2); (try clear hk); (try clear hi)))
    go_ret
    exact ⟨by first | rfl | (simp [errW_none, errW_some] <;> rfl) | (simp [*, errW_none, errW_some] <;> rfl), by repeat (first | (with_reducible first | exact HB.out | apply below_alloc | apply pw_below_drewN | apply below_drew1) | exact HB.out)⟩

/-- THE ONE PURE STATEMENT of complinelaw17_LexCase: yours. -/
def complinelaw17_LexCase.Pure : Prop := ∀ (a0 : ByteArray) (a1 : Int), a0.size ≤ 140737488351232 → (Lit.int .i64 a1).wf = true → ∃ k, complinelaw17_LexCase.f k a0 a1 = some true
theorem complinelaw17_LexCase.walk (P : complinelaw17_LexCase.Pure) (a0 : ByteArray) (a1 : Int) (w : World) (w0 : a0.size ≤ 140737488351232) (w1 : (Lit.int .i64 a1).wf = true) :
    Calls Try.prog 6 #[.string a0, .int .i64 a1] w fun e w' => e = .returned (.bool true) ∧ Below w.heap.size w w' := by
  obtain ⟨k, h⟩ := P a0 a1 w0 w1
  refine (complinelaw17_LexCase.calls k a0 a1 true w h).mono ?_
  rintro e w' ⟨rfl, hd⟩
  exact ⟨rfl, hd⟩

/-! ### complinelaw17_LexDigits: function 7 -/
mutual
def complinelaw17_LexDigits.j0 : Nat → Int → Int → Int → Bool → Bool → Option (Bool)
  | 0, _, _, _, _, _ => none
  | k + 1, x0, x1, x2, x7, x34 => if x34 = true then (some x7) else (complinelaw17_LexDigits.l0 k x0 x1 x2 x7 (⟨#[]⟩ : ByteArray) x0)
def complinelaw17_LexDigits.l0 : Nat → Int → Int → Int → Bool → ByteArray → Int → Option (Bool)
  | 0, _, _, _, _, _, _ => none
  | k + 1, x0, x1, x2, x7, x8, x9 => if x9 > 0 then ((some (([(wrap64 (48 + (Int.tmod x9 10))) % 256] : List Int) : List Int)).bind fun y216 => (if (strOfNums y216).size + x8.size ≤ 9223372036854775807 then (complinelaw17_LexDigits.l0 k x0 x1 x2 x7 ((strOfNums y216) ++ x8) (wrap64 (Int.tdiv x9 10))) else (none))) else (if x8.toList = ([] : List UInt8) then ((some (([(wrap64 (48 + (Int.tmod x9 10))) % 256] : List Int) : List Int)).bind fun y219 => (if (strOfNums y219).size + x8.size ≤ 9223372036854775807 then (complinelaw17_LexDigits.l0 k x0 x1 x2 x7 ((strOfNums y219) ++ x8) (wrap64 (Int.tdiv x9 10))) else (none))) else (complinelaw17_LexDigits.l1 k x0 x1 x2 x7 x8 0))
def complinelaw17_LexDigits.l1 : Nat → Int → Int → Int → Bool → ByteArray → Int → Option (Bool)
  | 0, _, _, _, _, _, _ => none
  | k + 1, x0, x1, x2, x7, x8, x10 => if x10 < x1 then (if 1 + x8.size ≤ 9223372036854775807 then (complinelaw17_LexDigits.l1 k x0 x1 x2 x7 ((⟨#[48]⟩ : ByteArray) ++ x8) (wrap64 (x10 + 1))) else (none)) else ((lex_Number.f x8).bind fun bt222 => (if (x8.size : Int) > 4 then (if x7 = true then (if bt222.2 = 2 then (some (bt222.1 == 0)) else (some false)) else (some false)) else ((lex_Limits.f x2).bind fun bt224 => ((lex_Value.f x8 x2).bind fun bt227 => (if bt222.1 = x0 then (complinelaw17_LexDigits.j3 k x0 x7 bt224.1 bt224.2.1 bt224.2.2 bt227.1 bt227.2 (bt222.2 != 0)) else (complinelaw17_LexDigits.j3 k x0 x7 bt224.1 bt224.2.1 bt224.2.2 bt227.1 bt227.2 true))))))
def complinelaw17_LexDigits.j3 : Nat → Int → Bool → Int → Int → Int → Int → Int → Bool → Option (Bool)
  | 0, _, _, _, _, _, _, _, _ => none
  | k + 1, x0, x7, x13, x14, x15, x16, x17, x95 => if x95 = true then (some false) else (if x15 = 0 then (if x7 = true then (if x0 ≥ x13 then (if ((x17 == 0) == (decide (x0 ≤ x14))) = true then (if x17 = 0 then (if x16 = x0 then (some true) else (if x17 = 1 then (some (x16 == 0)) else (some false))) else (if x17 = 1 then (some (x16 == 0)) else (some false))) else (some false)) else (if ((x17 == 0) == false) = true then (if x17 = 0 then (if x16 = x0 then (some true) else (if x17 = 1 then (some (x16 == 0)) else (some false))) else (if x17 = 1 then (some (x16 == 0)) else (some false))) else (some false))) else (some false)) else (if x7 = true then (if x17 = x15 then (some (x16 == 0)) else (some false)) else (some false)))
end
def complinelaw17_LexDigits.f (k : Nat) (a0 : Int) (a1 : Int) (a2 : Int) : Option (Bool) := (complinelaw17_works.f k).bind fun t215 => (if t215 = true then (if a0 < 0 then (complinelaw17_LexDigits.j0 k a0 a1 a2 t215 true) else (if a0 > 9999 then (complinelaw17_LexDigits.j0 k a0 a1 a2 t215 true) else (if a1 < 0 then (complinelaw17_LexDigits.j0 k a0 a1 a2 t215 true) else (complinelaw17_LexDigits.j0 k a0 a1 a2 t215 (decide (a1 > 3)))))) else (some false))
theorem complinelaw17_LexDigits.mono_l : ∀ k, (∀ y0 y1 y2 y3 y4, LeO (complinelaw17_LexDigits.j0 k y0 y1 y2 y3 y4) (complinelaw17_LexDigits.j0 (k + 1) y0 y1 y2 y3 y4)) ∧ (∀ y0 y1 y2 y3 y4 y5, LeO (complinelaw17_LexDigits.l0 k y0 y1 y2 y3 y4 y5) (complinelaw17_LexDigits.l0 (k + 1) y0 y1 y2 y3 y4 y5)) ∧ (∀ y0 y1 y2 y3 y4 y5, LeO (complinelaw17_LexDigits.l1 k y0 y1 y2 y3 y4 y5) (complinelaw17_LexDigits.l1 (k + 1) y0 y1 y2 y3 y4 y5)) ∧ (∀ y0 y1 y2 y3 y4 y5 y6 y7, LeO (complinelaw17_LexDigits.j3 k y0 y1 y2 y3 y4 y5 y6 y7) (complinelaw17_LexDigits.j3 (k + 1) y0 y1 y2 y3 y4 y5 y6 y7))
  | 0 => ⟨fun _ _ _ _ _ r h => by simp [complinelaw17_LexDigits.j0] at h, fun _ _ _ _ _ _ r h => by simp [complinelaw17_LexDigits.l0] at h, fun _ _ _ _ _ _ r h => by simp [complinelaw17_LexDigits.l1] at h, fun _ _ _ _ _ _ _ _ r h => by simp [complinelaw17_LexDigits.j3] at h⟩
  | k + 1 => by
    obtain ⟨ih0, ih1, ih2, ih3⟩ := complinelaw17_LexDigits.mono_l k
    refine ⟨?_, ?_, ?_, ?_⟩
    · intro y0 y1 y2 y3 y4
      unfold complinelaw17_LexDigits.j0
      repeat' first
      | (with_reducible exact ih0 _ _ _ _ _)
      | (with_reducible exact ih1 _ _ _ _ _ _)
      | (with_reducible exact ih2 _ _ _ _ _ _)
      | (with_reducible exact ih3 _ _ _ _ _ _ _ _)
      | (with_reducible exact complinelaw17_works.mono _)
      | (with_reducible exact LeO.refl _)
      | (with_reducible exact LeO.none _)
      | (with_reducible refine LeO.ite ?_ ?_)
      | (with_reducible refine LeO.bind ?_ (fun _ => ?_))
      | exact ih0 _ _ _ _ _
      | exact ih1 _ _ _ _ _ _
      | exact ih2 _ _ _ _ _ _
      | exact ih3 _ _ _ _ _ _ _ _
      | exact complinelaw17_works.mono _
      | exact LeO.none _
      | refine LeO.ite ?_ ?_
      | refine LeO.bind ?_ (fun _ => ?_)
    · intro y0 y1 y2 y3 y4 y5
      unfold complinelaw17_LexDigits.l0
      repeat' first
      | (with_reducible exact ih0 _ _ _ _ _)
      | (with_reducible exact ih1 _ _ _ _ _ _)
      | (with_reducible exact ih2 _ _ _ _ _ _)
      | (with_reducible exact ih3 _ _ _ _ _ _ _ _)
      | (with_reducible exact complinelaw17_works.mono _)
      | (with_reducible exact LeO.refl _)
      | (with_reducible exact LeO.none _)
      | (with_reducible refine LeO.ite ?_ ?_)
      | (with_reducible refine LeO.bind ?_ (fun _ => ?_))
      | exact ih0 _ _ _ _ _
      | exact ih1 _ _ _ _ _ _
      | exact ih2 _ _ _ _ _ _
      | exact ih3 _ _ _ _ _ _ _ _
      | exact complinelaw17_works.mono _
      | exact LeO.none _
      | refine LeO.ite ?_ ?_
      | refine LeO.bind ?_ (fun _ => ?_)
    · intro y0 y1 y2 y3 y4 y5
      unfold complinelaw17_LexDigits.l1
      repeat' first
      | (with_reducible exact ih0 _ _ _ _ _)
      | (with_reducible exact ih1 _ _ _ _ _ _)
      | (with_reducible exact ih2 _ _ _ _ _ _)
      | (with_reducible exact ih3 _ _ _ _ _ _ _ _)
      | (with_reducible exact complinelaw17_works.mono _)
      | (with_reducible exact LeO.refl _)
      | (with_reducible exact LeO.none _)
      | (with_reducible refine LeO.ite ?_ ?_)
      | (with_reducible refine LeO.bind ?_ (fun _ => ?_))
      | exact ih0 _ _ _ _ _
      | exact ih1 _ _ _ _ _ _
      | exact ih2 _ _ _ _ _ _
      | exact ih3 _ _ _ _ _ _ _ _
      | exact complinelaw17_works.mono _
      | exact LeO.none _
      | refine LeO.ite ?_ ?_
      | refine LeO.bind ?_ (fun _ => ?_)
    · intro y0 y1 y2 y3 y4 y5 y6 y7
      unfold complinelaw17_LexDigits.j3
      repeat' first
      | (with_reducible exact ih0 _ _ _ _ _)
      | (with_reducible exact ih1 _ _ _ _ _ _)
      | (with_reducible exact ih2 _ _ _ _ _ _)
      | (with_reducible exact ih3 _ _ _ _ _ _ _ _)
      | (with_reducible exact complinelaw17_works.mono _)
      | (with_reducible exact LeO.refl _)
      | (with_reducible exact LeO.none _)
      | (with_reducible refine LeO.ite ?_ ?_)
      | (with_reducible refine LeO.bind ?_ (fun _ => ?_))
      | exact ih0 _ _ _ _ _
      | exact ih1 _ _ _ _ _ _
      | exact ih2 _ _ _ _ _ _
      | exact ih3 _ _ _ _ _ _ _ _
      | exact complinelaw17_works.mono _
      | exact LeO.none _
      | refine LeO.ite ?_ ?_
      | refine LeO.bind ?_ (fun _ => ?_)
theorem complinelaw17_LexDigits.mono : ∀ a0 a1 a2 k, LeO (complinelaw17_LexDigits.f k a0 a1 a2) (complinelaw17_LexDigits.f (k + 1) a0 a1 a2) := by
  intro a0 a1 a2 k
  obtain ⟨ih0, ih1, ih2, ih3⟩ := complinelaw17_LexDigits.mono_l k
  unfold complinelaw17_LexDigits.f
  repeat' first
      | (with_reducible exact ih0 _ _ _ _ _)
      | (with_reducible exact ih1 _ _ _ _ _ _)
      | (with_reducible exact ih2 _ _ _ _ _ _)
      | (with_reducible exact ih3 _ _ _ _ _ _ _ _)
      | (with_reducible exact complinelaw17_works.mono _)
      | (with_reducible exact LeO.refl _)
      | (with_reducible exact LeO.none _)
      | (with_reducible refine LeO.ite ?_ ?_)
      | (with_reducible refine LeO.bind ?_ (fun _ => ?_))
      | exact ih0 _ _ _ _ _
      | exact ih1 _ _ _ _ _ _
      | exact ih2 _ _ _ _ _ _
      | exact ih3 _ _ _ _ _ _ _ _
      | exact complinelaw17_works.mono _
      | exact LeO.none _
      | refine LeO.ite ?_ ?_
      | refine LeO.bind ?_ (fun _ => ?_)
set_option maxHeartbeats 8000000 in
set_option maxRecDepth 100000 in
theorem complinelaw17_LexDigits.calls (k : Nat) (a0 : Int) (a1 : Int) (a2 : Int) (r : Bool) (w : World) (h : complinelaw17_LexDigits.f k a0 a1 a2 = some r) :
    Calls Try.prog 7 #[.int .i64 a0, .int .i64 a1, .int .i64 a2] w fun e w' => e = .returned (.bool r) ∧ Below w.heap.size w w' := by
  have HB := Aside0.mk (Below.refl w.heap.size w)
  have H : ((complinelaw17_works.f k).bind fun t215 => (if t215 = true then (if a0 < 0 then (complinelaw17_LexDigits.j0 k a0 a1 a2 t215 true) else (if a0 > 9999 then (complinelaw17_LexDigits.j0 k a0 a1 a2 t215 true) else (if a1 < 0 then (complinelaw17_LexDigits.j0 k a0 a1 a2 t215 true) else (complinelaw17_LexDigits.j0 k a0 a1 a2 t215 (decide (a1 > 3)))))) else (some false))) = some r := h
  clear h
  replace H := Option.bind_eq_some_iff.mp H
  obtain ⟨t215, A40, H⟩ := H
  replace H : (if t215 = true then (if a0 < 0 then (complinelaw17_LexDigits.j0 k a0 a1 a2 t215 true) else (if a0 > 9999 then (complinelaw17_LexDigits.j0 k a0 a1 a2 t215 true) else (if a1 < 0 then (complinelaw17_LexDigits.j0 k a0 a1 a2 t215 true) else (complinelaw17_LexDigits.j0 k a0 a1 a2 t215 (decide (a1 > 3)))))) else (some false)) = some r := H
  have A4 := Aside0.mk A40
  clear A40
  by_cases c5 : t215 = true
  · subst c5
    have H1 : (if a0 < 0 then (complinelaw17_LexDigits.j0 k a0 a1 a2 true true) else (if a0 > 9999 then (complinelaw17_LexDigits.j0 k a0 a1 a2 true true) else (if a1 < 0 then (complinelaw17_LexDigits.j0 k a0 a1 a2 true true) else (complinelaw17_LexDigits.j0 k a0 a1 a2 true (decide (a1 > 3)))))) = some r := by rw [if_pos rfl] at H; exact H
    clear H
    have H := H1
    clear H1
    have HC6 := Aside0.mk H
    clear H
    go_enter Try.func7, Try.ntmps7
    go_upto_region 4 with (first | ((with_reducible refine gate_callee (f := 8) rfl ?_); refine goesL_ (some 18) rfl rfl Try.func8 (by kernel_rfl) rfl #[] rfl (by (try simp only [List.map_toArray, List.map_cons, List.map_nil]); first | done | rfl | (simp only [List.length_drop, List.length_take]; rfl)) ?_; (with_reducible refine (complinelaw17_works.calls k  true _ A4.out).mono ?_); rintro e w7 ⟨rfl, hb⟩; refine ⟨_, rfl, ?_⟩; have n0_ := Aside0.mk (below_step (by repeat (first | (with_reducible first | exact HB.out | apply below_alloc | apply pw_below_drewN | apply below_drew1) | exact HB.out)) hb); clear HB; have HB := n0_; clear n0_; (try clear hb); (try clear hb2); (try clear hk); (try clear hi)))
    (try simp only [Act.put, List.setIfInBounds_toArray, List.set_cons_zero, List.set_cons_succ])
    go_cut [34] (fun v34 wc => ∃ (kq : Nat) (x34_5 : Bool), v34 = .bool x34_5 ∧ Aside0 (complinelaw17_LexDigits.j0 kq a0 a1 a2 true x34_5 = some r) ∧ Aside0 (kq ≤ k) ∧ Aside0 (Below w.heap.size w wc))
    case first =>
      have H := HC6.out
      clear HC6
      by_cases c8 : a0 < 0
      · rw [if_pos c8] at H
        have c8b0 : decide (a0 < 0) = true := decide_eq_true c8
        clear c8
        (first | rw [c8b0] | (simp only [i64_w, i32_w]; rw [c8b0]) | skip)
        have H' := Aside0.mk H
        clear H
        go_wp2
        go_meet
        case rel => exact ⟨_, (true), (by first | rfl | (simp; done) | (simp [*]; done)), H', ⟨by first | omega | exact Nat.le_refl _⟩, ⟨by repeat (first | (with_reducible first | exact HB.out | apply below_alloc | apply pw_below_drewN | apply below_drew1) | exact HB.out)⟩⟩
      · rw [if_neg c8] at H
        have c8b0 : decide (a0 < 0) = false := decide_eq_false c8
        clear c8
        (first | rw [c8b0] | (simp only [i64_w, i32_w]; rw [c8b0]) | skip)
        by_cases c9 : a0 > 9999
        · rw [if_pos c9] at H
          have c9b0 : decide (9999 < a0) = true := decide_eq_true c9
          clear c9
          have H' := Aside0.mk H
          clear H
          go_wp2
          go_meet
          case rel => exact ⟨_, (true), (by first | rfl | (simp; done) | (simp [*]; done)), H', ⟨by first | omega | exact Nat.le_refl _⟩, ⟨by repeat (first | (with_reducible first | exact HB.out | apply below_alloc | apply pw_below_drewN | apply below_drew1) | exact HB.out)⟩⟩
        · rw [if_neg c9] at H
          have c9b0 : decide (9999 < a0) = false := decide_eq_false c9
          clear c9
          by_cases c10 : a1 < 0
          · rw [if_pos c10] at H
            have c10b0 : decide (a1 < 0) = true := decide_eq_true c10
            clear c10
            have H' := Aside0.mk H
            clear H
            go_wp2
            go_meet
            case rel => exact ⟨_, (true), (by first | rfl | (simp; done) | (simp [*]; done)), H', ⟨by first | omega | exact Nat.le_refl _⟩, ⟨by repeat (first | (with_reducible first | exact HB.out | apply below_alloc | apply pw_below_drewN | apply below_drew1) | exact HB.out)⟩⟩
          · rw [if_neg c10] at H
            have c10b0 : decide (a1 < 0) = false := decide_eq_false c10
            clear c10
            have H' := Aside0.mk H
            clear H
            go_wp2
            go_meet
            case rel => exact ⟨_, (decide (a1 > 3)), (by first | rfl | (simp; done) | (simp [*]; done)), H', ⟨by first | omega | exact Nat.le_refl _⟩, ⟨by repeat (first | (with_reducible first | exact HB.out | apply below_alloc | apply pw_below_drewN | apply below_drew1) | exact HB.out)⟩⟩
    case rest =>
      clear HC6
      try clear c1
      try clear p2
      try clear c5
      try clear c7
      try clear c8
      try clear c8b0
      try clear c9
      try clear c9b0
      try clear c10
      try clear c10b0
      obtain ⟨kq, x34_5, rfl, HA, HJ5, HB⟩ := hcut
      cases kq with
      | zero => exact absurd HA.out (by simp [complinelaw17_LexDigits.j0])
      | succ kj5 =>
        have H := HA.out
        clear HA
        simp only [complinelaw17_LexDigits.j0] at H
        by_cases c11 : x34_5 = true
        · subst c11
          have H1 : (some true) = some r := by rw [if_pos rfl] at H; exact H
          clear H
          have H := H1
          clear H1
          obtain rfl := Option.some.inj H
          go_wp2
          go_ret
          exact ⟨by first | rfl | (simp [errW_none, errW_some] <;> rfl) | (simp [*, errW_none, errW_some] <;> rfl), by repeat (first | (with_reducible first | exact HB.out | apply below_alloc | apply pw_below_drewN | apply below_drew1) | exact HB.out)⟩
        · replace c11 := Bool.eq_false_iff.mpr c11
          subst c11
          have H1 : (complinelaw17_LexDigits.l0 kj5 a0 a1 a2 true (⟨#[]⟩ : ByteArray) a0) = some r := by rw [if_neg (show ¬ (false = true) by decide)] at H; exact H
          clear H
          have H := H1
          clear H1
          have H' := Aside0.mk H
          clear H
          go_wp2
          go_loopg [8, 9] kj5 (fun kq v8 v9 w' => ∃ (x8_2 : ByteArray) (x9_2 : Int), v8 = .string x8_2 ∧ v9 = .int .i64 x9_2 ∧ Aside0 (complinelaw17_LexDigits.l0 kq a0 a1 a2 true x8_2 x9_2 = some r) ∧ Aside0 (kq ≤ kj5) ∧ Aside0 (Below w.heap.size w w'))
          case atStart => exact ⟨((⟨#[]⟩ : ByteArray)), (a0), (by first | rfl | (simp; done) | (simp [*]; done)), (by first | rfl | (simp; done) | (simp [*]; done)), H', ⟨Nat.le_refl _⟩, ⟨by repeat (first | (with_reducible first | exact HB.out | apply below_alloc | apply pw_below_drewN | apply below_drew1) | exact HB.out)⟩⟩
          case round =>
            clear H'
            try clear c1
            try clear p2
            try clear c5
            try clear c7
            try clear c8
            try clear c8b0
            try clear c9
            try clear c9b0
            try clear c10
            try clear c10b0
            try clear c11
            try clear p2
            obtain ⟨x8_2, x9_2, rfl, rfl, HA, HK2, HB⟩ := hrel
            cases gk with
            | zero => exact absurd HA.out (by simp [complinelaw17_LexDigits.l0])
            | succ k2 =>
              have H := HA.out
              clear HA
              simp only [complinelaw17_LexDigits.l0] at H
              by_cases c12 : x9_2 > 0
              · rw [if_pos c12] at H
                have c12b0 : decide (0 < x9_2) = true := decide_eq_true c12
                clear c12
                obtain ⟨y216, hy216⟩ : ∃ y_ : List Int, y_ = (([(wrap64 (48 + (Int.tmod x9_2 10))) % 256] : List Int)) := ⟨_, rfl⟩
                replace H : (if (strOfNums y216).size + x8_2.size ≤ 9223372036854775807 then (complinelaw17_LexDigits.l0 k2 a0 a1 a2 true ((strOfNums y216) ++ x8_2) (wrap64 (Int.tdiv x9_2 10))) else (none)) = some r := by first | (rw [hy216]; with_reducible exact H) | (have H2_ := (Option.bind_some _ _).symm.trans H; rw [hy216]; with_reducible exact H2_) | (have H2_ := (Option.bind_some _ _).symm.trans H; with_reducible exact H2_) | with_reducible exact H | (rw [hy216]; exact H) | exact H
                have Ny216 := Aside0.mk hy216
                clear hy216
                by_cases c13 : (strOfNums y216).size + x8_2.size ≤ 9223372036854775807
                · rw [if_pos c13] at H
                  have c13b0 := eq_true c13
                  have c13b1 : decide ((strOfNums y216).size + x8_2.size ≤ 9223372036854775807) = true := decide_eq_true c13
                  try have c13b2 : (9223372036854775807 < (strOfNums y216).size + x8_2.size) = False := eq_false (Nat.not_lt.2 c13)
                  have H' := Aside0.mk H
                  clear H
                  go_wp2_with (first | ((with_reducible refine gate_dst (N := 49) rfl ?_); refine Kd.R_lit (Kd.int .u8) _ 5 ?hg (N := 49) ?hd (xs := ([(wrap64 (48 + (Int.tmod x9_2 10))) % 256] : List Int)) (inner := [.int .u8 ((wrap64 (48 + (Int.tmod x9_2 10))) % 256)]) (ok := fun _ => True) (okp := fun _ => True) ?hr ?hp (fun _ hk => hk) trivial (Below.refl _ _) (Nat.le_refl _) (by simp) ?_; (case hd => rfl); (case hg => rfl); (case hr => first | (go_simp; done) | (go_simp; rfl)); (case hp => exact (Reps.one (show Kd.M (Kd.int .u8) _ _ _ ((wrap64 (48 + (Int.tmod x9_2 10))) % 256) [.int .u8 ((wrap64 (48 + (Int.tmod x9_2 10))) % 256)] from rfl) (Reps.none _ _))); intro v217 w14 ho15 hb hg_ hnew_; clear hg_ hnew_; (first | rw [← Ny216.out] at ho15 | (simp only [Int.reduceToNat] at ho15; rw [← Ny216.out] at ho15)); have n0_ := Aside0.mk (Kd.R_lower ho15 (below_size (by repeat (first | (with_reducible first | exact HB.out | apply below_alloc | apply pw_below_drewN | apply below_drew1) | exact HB.out)))); have n1_ := Aside0.mk (below_step (by repeat (first | (with_reducible first | exact HB.out | apply below_alloc | apply pw_below_drewN | apply below_drew1) | exact HB.out)) hb); clear HB; have HO218 := n0_; have HB := n1_; clear n0_ n1_; clear hb ho15; have hcv16 := own_string (P := Try.prog) Try.underlying38 Try.underlying5 Try.underlying9 (Kd.own_of_R HO218.out)))
                  go_roundg k2
                  case measure => have := HJ5.out; have := HK2.out; omega
                  case rel => exact ⟨((strOfNums y216) ++ x8_2), (wrap64 (Int.tdiv x9_2 10)), (by first | rfl | (simp; done) | (simp [*]; done)), (by first | rfl | (simp; done) | (simp [*]; done)), H', ⟨by have := HJ5.out; have := HK2.out; omega⟩, ⟨by repeat (first | (with_reducible first | exact HB.out | apply below_alloc | apply pw_below_drewN | apply below_drew1) | exact HB.out)⟩⟩
                · rw [if_neg c13] at H
                  exact absurd H (by simp)
              · rw [if_neg c12] at H
                have c12b0 : decide (0 < x9_2) = false := decide_eq_false c12
                clear c12
                by_cases c17 : x8_2.toList = ([] : List UInt8)
                · rw [if_pos c17] at H
                  have c17b0 : (x8_2.toList == ([] : List UInt8)) = true := beq_iff_eq.mpr c17
                  have c17b1 : (x8_2.toList != ([] : List UInt8)) = false := bne_eq_false_iff_eq.mpr c17
                  clear c17
                  obtain ⟨y219, hy219⟩ : ∃ y_ : List Int, y_ = (([(wrap64 (48 + (Int.tmod x9_2 10))) % 256] : List Int)) := ⟨_, rfl⟩
                  replace H : (if (strOfNums y219).size + x8_2.size ≤ 9223372036854775807 then (complinelaw17_LexDigits.l0 k2 a0 a1 a2 true ((strOfNums y219) ++ x8_2) (wrap64 (Int.tdiv x9_2 10))) else (none)) = some r := by first | (rw [hy219]; with_reducible exact H) | (have H2_ := (Option.bind_some _ _).symm.trans H; rw [hy219]; with_reducible exact H2_) | (have H2_ := (Option.bind_some _ _).symm.trans H; with_reducible exact H2_) | with_reducible exact H | (rw [hy219]; exact H) | exact H
                  have Ny219 := Aside0.mk hy219
                  clear hy219
                  by_cases c18 : (strOfNums y219).size + x8_2.size ≤ 9223372036854775807
                  · rw [if_pos c18] at H
                    have c18b0 := eq_true c18
                    have c18b1 : decide ((strOfNums y219).size + x8_2.size ≤ 9223372036854775807) = true := decide_eq_true c18
                    try have c18b2 : (9223372036854775807 < (strOfNums y219).size + x8_2.size) = False := eq_false (Nat.not_lt.2 c18)
                    have H' := Aside0.mk H
                    clear H
                    go_wp2_with (first | ((with_reducible refine gate_dst (N := 49) rfl ?_); refine Kd.R_lit (Kd.int .u8) _ 5 ?hg (N := 49) ?hd (xs := ([(wrap64 (48 + (Int.tmod x9_2 10))) % 256] : List Int)) (inner := [.int .u8 ((wrap64 (48 + (Int.tmod x9_2 10))) % 256)]) (ok := fun _ => True) (okp := fun _ => True) ?hr ?hp (fun _ hk => hk) trivial (Below.refl _ _) (Nat.le_refl _) (by simp) ?_; (case hd => rfl); (case hg => rfl); (case hr => first | (go_simp; done) | (go_simp; rfl)); (case hp => exact (Reps.one (show Kd.M (Kd.int .u8) _ _ _ ((wrap64 (48 + (Int.tmod x9_2 10))) % 256) [.int .u8 ((wrap64 (48 + (Int.tmod x9_2 10))) % 256)] from rfl) (Reps.none _ _))); intro v220 w19 ho20 hb hg_ hnew_; clear hg_ hnew_; (first | rw [← Ny219.out] at ho20 | (simp only [Int.reduceToNat] at ho20; rw [← Ny219.out] at ho20)); have n0_ := Aside0.mk (Kd.R_lower ho20 (below_size (by repeat (first | (with_reducible first | exact HB.out | apply below_alloc | apply pw_below_drewN | apply below_drew1) | exact HB.out)))); have n1_ := Aside0.mk (below_step (by repeat (first | (with_reducible first | exact HB.out | apply below_alloc | apply pw_below_drewN | apply below_drew1) | exact HB.out)) hb); clear HB; have HO221 := n0_; have HB := n1_; clear n0_ n1_; clear hb ho20; have hcv21 := own_string (P := Try.prog) Try.underlying38 Try.underlying5 Try.underlying9 (Kd.own_of_R HO221.out)))
                    go_roundg k2
                    case measure => have := HJ5.out; have := HK2.out; omega
                    case rel => exact ⟨((strOfNums y219) ++ x8_2), (wrap64 (Int.tdiv x9_2 10)), (by first | rfl | (simp; done) | (simp [*]; done)), (by first | rfl | (simp; done) | (simp [*]; done)), H', ⟨by have := HJ5.out; have := HK2.out; omega⟩, ⟨by repeat (first | (with_reducible first | exact HB.out | apply below_alloc | apply pw_below_drewN | apply below_drew1) | exact HB.out)⟩⟩
                  · rw [if_neg c18] at H
                    exact absurd H (by simp)
                · rw [if_neg c17] at H
                  have c17b0 : (x8_2.toList == ([] : List UInt8)) = false := beq_eq_false_iff_ne.mpr c17
                  have c17b1 : (x8_2.toList != ([] : List UInt8)) = true := bne_iff_ne.mpr c17
                  have H' := Aside0.mk H
                  clear H
                  go_wp2
                  go_loopg [8, 10] k2 (fun kq v8 v10 w' => ∃ (x8_3 : ByteArray) (x10_3 : Int), v8 = .string x8_3 ∧ v10 = .int .i64 x10_3 ∧ Aside0 (complinelaw17_LexDigits.l1 kq a0 a1 a2 true x8_3 x10_3 = some r) ∧ Aside0 (kq ≤ k2) ∧ Aside0 (Below w.heap.size w w'))
                  case atStart => exact ⟨(x8_2), (0), (by first | rfl | (simp; done) | (simp [*]; done)), (by first | rfl | (simp; done) | (simp [*]; done)), H', ⟨Nat.le_refl _⟩, ⟨by repeat (first | (with_reducible first | exact HB.out | apply below_alloc | apply pw_below_drewN | apply below_drew1) | exact HB.out)⟩⟩
                  case round =>
                    clear H'
                    try clear c1
                    try clear hcv1
                    try clear p2
                    try clear hcv2
                    try clear c5
                    try clear p6
                    try clear c7
                    try clear c8
                    try clear c8b0
                    try clear c9
                    try clear c9b0
                    try clear c10
                    try clear c10b0
                    try clear c11
                    try clear c12
                    try clear c12b0
                    try clear c13
                    try clear c13b0
                    try clear c13b1
                    try clear c13b2
                    try clear hcv16
                    try clear c17
                    try clear c17b0
                    try clear c17b1
                    try clear c18
                    try clear c18b0
                    try clear c18b1
                    try clear c18b2
                    try clear hcv21
                    try clear p2
                    obtain ⟨x8_3, x10_3, rfl, rfl, HA, HK3, HB⟩ := hrel
                    cases gk with
                    | zero => exact absurd HA.out (by simp [complinelaw17_LexDigits.l1])
                    | succ k3 =>
                      have H := HA.out
                      clear HA
                      simp only [complinelaw17_LexDigits.l1] at H
                      by_cases c22 : x10_3 < a1
                      · rw [if_pos c22] at H
                        have c22b0 : decide (x10_3 < a1) = true := decide_eq_true c22
                        clear c22
                        by_cases c23 : 1 + x8_3.size ≤ 9223372036854775807
                        · rw [if_pos c23] at H
                          have c23b0 := eq_true c23
                          have c23b1 : decide (1 + x8_3.size ≤ 9223372036854775807) = true := decide_eq_true c23
                          try have c23b2 : (9223372036854775807 < 1 + x8_3.size) = False := eq_false (Nat.not_lt.2 c23)
                          have H' := Aside0.mk H
                          clear H
                          go_wp2
                          go_roundg k3
                          case measure => have := HJ5.out; have := HK2.out; have := HK3.out; omega
                          case rel => exact ⟨((⟨#[48]⟩ : ByteArray) ++ x8_3), (wrap64 (x10_3 + 1)), (by first | rfl | (simp; done) | (simp [*]; done)), (by first | rfl | (simp; done) | (simp [*]; done)), H', ⟨by have := HJ5.out; have := HK2.out; have := HK3.out; omega⟩, ⟨by repeat (first | (with_reducible first | exact HB.out | apply below_alloc | apply pw_below_drewN | apply below_drew1) | exact HB.out)⟩⟩
                        · rw [if_neg c23] at H
                          exact absurd H (by simp)
                      · rw [if_neg c22] at H
                        have c22b0 : decide (x10_3 < a1) = false := decide_eq_false c22
                        clear c22
                        replace H := Option.bind_eq_some_iff.mp H
                        obtain ⟨⟨t222, t223⟩, A240, H⟩ := H
                        replace H : (if (x8_3.size : Int) > 4 then (if true = true then (if t223 = 2 then (some (t222 == 0)) else (some false)) else (some false)) else ((lex_Limits.f a2).bind fun bt224 => ((lex_Value.f x8_3 a2).bind fun bt227 => (if t222 = a0 then (complinelaw17_LexDigits.j3 k3 a0 true bt224.1 bt224.2.1 bt224.2.2 bt227.1 bt227.2 (t223 != 0)) else (complinelaw17_LexDigits.j3 k3 a0 true bt224.1 bt224.2.1 bt224.2.2 bt227.1 bt227.2 true))))) = some r := H
                        have A24 := Aside0.mk A240
                        clear A240
                        by_cases c25 : (x8_3.size : Int) > 4
                        · rw [if_pos c25] at H
                          have c25b0 : decide (4 < (x8_3.size : Int)) = true := decide_eq_true c25
                          have c25b1 : decide (4 < x8_3.size) = true := decide_eq_true (by omega)
                          clear c25
                          by_cases c26 : true = true
                          · clear c26
                            have H1 : (if t223 = 2 then (some (t222 == 0)) else (some false)) = some r := by rw [if_pos rfl] at H; exact H
                            clear H
                            have H := H1
                            clear H1
                            by_cases c27 : t223 = 2
                            · rw [if_pos c27] at H
                              have c27b0 : (t223 == 2) = true := beq_iff_eq.mpr c27
                              have c27b1 : (t223 != 2) = false := bne_eq_false_iff_eq.mpr c27
                              clear c27
                              obtain rfl := Option.some.inj H
                              go_wp2_with (first | ((with_reducible refine gate_callee (f := 14) rfl ?_); refine goesL_ (some 62) rfl rfl Try.func14 (by kernel_rfl) rfl #[.string x8_3] rfl (by (try simp only [List.map_toArray, List.map_cons, List.map_nil]); first | done | rfl | (simp only [List.length_drop, List.length_take]; rfl)) ?_; (with_reducible refine (lex_Number.calls x8_3 t222 t223 _ A24.out).mono ?_); rintro e w28 ⟨rfl, hb⟩; refine ⟨_, rfl, ?_⟩; have n0_ := Aside0.mk (below_step (by repeat (first | (with_reducible first | exact HB.out | apply below_alloc | apply pw_below_drewN | apply below_drew1) | exact HB.out)) hb); clear HB; have HB := n0_; clear n0_; (try clear hb); (try clear hb2); (try clear hk); (try clear hi)))
                              go_ret
                              exact ⟨by first | rfl | (simp [errW_none, errW_some] <;> rfl) | (simp [*, errW_none, errW_some] <;> rfl), by repeat (first | (with_reducible first | exact HB.out | apply below_alloc | apply pw_below_drewN | apply below_drew1) | exact HB.out)⟩
                            · rw [if_neg c27] at H
                              have c27b0 : (t223 == 2) = false := beq_eq_false_iff_ne.mpr c27
                              have c27b1 : (t223 != 2) = true := bne_iff_ne.mpr c27
                              obtain rfl := Option.some.inj H
                              go_wp2_with (first | ((with_reducible refine gate_callee (f := 14) rfl ?_); refine goesL_ (some 62) rfl rfl Try.func14 (by kernel_rfl) rfl #[.string x8_3] rfl (by (try simp only [List.map_toArray, List.map_cons, List.map_nil]); first | done | rfl | (simp only [List.length_drop, List.length_take]; rfl)) ?_; (with_reducible refine (lex_Number.calls x8_3 t222 t223 _ A24.out).mono ?_); rintro e w29 ⟨rfl, hb⟩; refine ⟨_, rfl, ?_⟩; have n0_ := Aside0.mk (below_step (by repeat (first | (with_reducible first | exact HB.out | apply below_alloc | apply pw_below_drewN | apply below_drew1) | exact HB.out)) hb); clear HB; have HB := n0_; clear n0_; (try clear hb); (try clear hb2); (try clear hk); (try clear hi)))
                              go_ret
                              exact ⟨by first | rfl | (simp [errW_none, errW_some] <;> rfl) | (simp [*, errW_none, errW_some] <;> rfl), by repeat (first | (with_reducible first | exact HB.out | apply below_alloc | apply pw_below_drewN | apply below_drew1) | exact HB.out)⟩
                          · exact absurd rfl c26
                        · rw [if_neg c25] at H
                          have c25b0 : decide (4 < (x8_3.size : Int)) = false := decide_eq_false c25
                          have c25b1 : decide (4 < x8_3.size) = false := decide_eq_false (by omega)
                          clear c25
                          replace H := Option.bind_eq_some_iff.mp H
                          obtain ⟨⟨t224, t225, t226⟩, A310, H⟩ := H
                          replace H : ((lex_Value.f x8_3 a2).bind fun bt227 => (if t222 = a0 then (complinelaw17_LexDigits.j3 k3 a0 true t224 t225 t226 bt227.1 bt227.2 (t223 != 0)) else (complinelaw17_LexDigits.j3 k3 a0 true t224 t225 t226 bt227.1 bt227.2 true))) = some r := H
                          have A31 := Aside0.mk A310
                          clear A310
                          replace H := Option.bind_eq_some_iff.mp H
                          obtain ⟨⟨t227, t228⟩, A320, H⟩ := H
                          replace H : (if t222 = a0 then (complinelaw17_LexDigits.j3 k3 a0 true t224 t225 t226 t227 t228 (t223 != 0)) else (complinelaw17_LexDigits.j3 k3 a0 true t224 t225 t226 t227 t228 true)) = some r := H
                          have A32 := Aside0.mk A320
                          clear A320
                          have HC33 := Aside0.mk H
                          clear H
                          go_upto_region 20 with (first | ((with_reducible refine gate_callee (f := 14) rfl ?_); refine goesL_ (some 62) rfl rfl Try.func14 (by kernel_rfl) rfl #[.string x8_3] rfl (by (try simp only [List.map_toArray, List.map_cons, List.map_nil]); first | done | rfl | (simp only [List.length_drop, List.length_take]; rfl)) ?_; (with_reducible refine (lex_Number.calls x8_3 t222 t223 _ A24.out).mono ?_); rintro e w34 ⟨rfl, hb⟩; refine ⟨_, rfl, ?_⟩; have n0_ := Aside0.mk (below_step (by repeat (first | (with_reducible first | exact HB.out | apply below_alloc | apply pw_below_drewN | apply below_drew1) | exact HB.out)) hb); clear HB; have HB := n0_; clear n0_; (try clear hb); (try clear hb2); (try clear hk); (try clear hi)) | ((with_reducible refine gate_callee (f := 18) rfl ?_); refine goesL_ (some 79) rfl rfl Try.func18 (by kernel_rfl) rfl #[.int .i64 a2] rfl (by (try simp only [List.map_toArray, List.map_cons, List.map_nil]); first | done | rfl | (simp only [List.length_drop, List.length_take]; rfl)) ?_; (with_reducible refine (lex_Limits.calls a2 t224 t225 t226 _ A31.out).mono ?_); rintro e w' ⟨rfl, ⟨nd, rfl⟩⟩; refine ⟨_, rfl, ?_⟩) | ((with_reducible refine gate_callee (f := 12) rfl ?_); refine goesL_ (some 86) rfl rfl Try.func12 (by kernel_rfl) rfl #[.string x8_3, .int .i64 a2] rfl (by (try simp only [List.map_toArray, List.map_cons, List.map_nil]); first | done | rfl | (simp only [List.length_drop, List.length_take]; rfl)) ?_; (with_reducible refine (lex_Value.calls x8_3 a2 t227 t228 _ A32.out).mono ?_); rintro e w35 ⟨rfl, hb⟩; refine ⟨_, rfl, ?_⟩; have n0_ := Aside0.mk (below_step (by repeat (first | (with_reducible first | exact HB.out | apply below_alloc | apply pw_below_drewN | apply below_drew1) | exact HB.out)) hb); clear HB; have HB := n0_; clear n0_; (try clear hb); (try clear hb2); (try clear hk); (try clear hi)))
                          (try simp only [Act.put, List.setIfInBounds_toArray, List.set_cons_zero, List.set_cons_succ])
                          go_cut [95] (fun v95 wc => ∃ (kq : Nat) (x95_32 : Bool), v95 = .bool x95_32 ∧ Aside0 (complinelaw17_LexDigits.j3 kq a0 true t224 t225 t226 t227 t228 x95_32 = some r) ∧ Aside0 (kq ≤ k3) ∧ Aside0 (Below w.heap.size w wc))
                          case first =>
                            have H := HC33.out
                            clear HC33
                            by_cases c36 : t222 = a0
                            · rw [if_pos c36] at H
                              have c36b0 : (t222 == a0) = true := beq_iff_eq.mpr c36
                              have c36b1 : (t222 != a0) = false := bne_eq_false_iff_eq.mpr c36
                              clear c36
                              (first | rw [c36b0] | (simp only [i64_w, i32_w]; rw [c36b0]) | skip)
                              have H' := Aside0.mk H
                              clear H
                              go_wp2
                              go_meet
                              case rel => exact ⟨_, ((t223 != 0)), (by first | rfl | (simp; done) | (simp [*]; done)), H', ⟨by have := HJ5.out; have := HK2.out; have := HK3.out; first | omega | exact Nat.le_refl _⟩, ⟨by repeat (first | (with_reducible first | exact HB.out | apply below_alloc | apply pw_below_drewN | apply below_drew1) | exact HB.out)⟩⟩
                            · rw [if_neg c36] at H
                              have c36b0 : (t222 == a0) = false := beq_eq_false_iff_ne.mpr c36
                              have c36b1 : (t222 != a0) = true := bne_iff_ne.mpr c36
                              (first | rw [c36b0] | (simp only [i64_w, i32_w]; rw [c36b0]) | skip)
                              have H' := Aside0.mk H
                              clear H
                              go_wp2
                              go_meet
                              case rel => exact ⟨_, (true), (by first | rfl | (simp; done) | (simp [*]; done)), H', ⟨by have := HJ5.out; have := HK2.out; have := HK3.out; first | omega | exact Nat.le_refl _⟩, ⟨by repeat (first | (with_reducible first | exact HB.out | apply below_alloc | apply pw_below_drewN | apply below_drew1) | exact HB.out)⟩⟩
                          case rest =>
                            clear HC33
                            try clear c1
                            try clear hcv1
                            try clear c2
                            try clear p2
                            try clear hcv2
                            try clear c3
                            try clear c5
                            try clear p6
                            try clear c7
                            try clear c8
                            try clear c8b0
                            try clear c9
                            try clear c9b0
                            try clear c10
                            try clear c10b0
                            try clear c11
                            try clear c12
                            try clear c12b0
                            try clear c13
                            try clear c13b0
                            try clear c13b1
                            try clear c13b2
                            try clear c14
                            try clear hcv16
                            try clear c17
                            try clear c17b0
                            try clear c17b1
                            try clear c18
                            try clear c18b0
                            try clear c18b1
                            try clear c18b2
                            try clear hcv21
                            try clear c22
                            try clear c22b0
                            try clear c23
                            try clear c23b0
                            try clear c23b1
                            try clear c23b2
                            try clear c25
                            try clear c25b0
                            try clear c25b1
                            try clear c26
                            try clear c27
                            try clear c27b0
                            try clear c27b1
                            try clear c36
                            try clear c36b0
                            try clear c36b1
                            try clear p2
                            try clear p6
                            obtain ⟨kq, x95_32, rfl, HA, HJ32, HB⟩ := hcut
                            cases kq with
                            | zero => exact absurd HA.out (by simp [complinelaw17_LexDigits.j3])
                            | succ kj32 =>
                              have H := HA.out
                              clear HA
                              simp only [complinelaw17_LexDigits.j3] at H
                              by_cases c37 : x95_32 = true
                              · subst c37
                                have H1 : (some false) = some r := by rw [if_pos rfl] at H; exact H
                                clear H
                                have H := H1
                                clear H1
                                obtain rfl := Option.some.inj H
                                go_wp2
                                go_ret
                                exact ⟨by first | rfl | (simp [errW_none, errW_some] <;> rfl) | (simp [*, errW_none, errW_some] <;> rfl), by repeat (first | (with_reducible first | exact HB.out | apply below_alloc | apply pw_below_drewN | apply below_drew1) | exact HB.out)⟩
                              · replace c37 := Bool.eq_false_iff.mpr c37
                                subst c37
                                have H1 : (if t226 = 0 then (if true = true then (if a0 ≥ t224 then (if ((t228 == 0) == (decide (a0 ≤ t225))) = true then (if t228 = 0 then (if t227 = a0 then (some true) else (if t228 = 1 then (some (t227 == 0)) else (some false))) else (if t228 = 1 then (some (t227 == 0)) else (some false))) else (some false)) else (if ((t228 == 0) == false) = true then (if t228 = 0 then (if t227 = a0 then (some true) else (if t228 = 1 then (some (t227 == 0)) else (some false))) else (if t228 = 1 then (some (t227 == 0)) else (some false))) else (some false))) else (some false)) else (if true = true then (if t228 = t226 then (some (t227 == 0)) else (some false)) else (some false))) = some r := by rw [if_neg (show ¬ (false = true) by decide)] at H; exact H
                                clear H
                                have H := H1
                                clear H1
                                by_cases c38 : t226 = 0
                                · rw [if_pos c38] at H
                                  have c38b0 : (t226 == 0) = true := beq_iff_eq.mpr c38
                                  have c38b1 : (t226 != 0) = false := bne_eq_false_iff_eq.mpr c38
                                  clear c38
                                  by_cases c39 : true = true
                                  · clear c39
                                    have H1 : (if a0 ≥ t224 then (if ((t228 == 0) == (decide (a0 ≤ t225))) = true then (if t228 = 0 then (if t227 = a0 then (some true) else (if t228 = 1 then (some (t227 == 0)) else (some false))) else (if t228 = 1 then (some (t227 == 0)) else (some false))) else (some false)) else (if ((t228 == 0) == false) = true then (if t228 = 0 then (if t227 = a0 then (some true) else (if t228 = 1 then (some (t227 == 0)) else (some false))) else (if t228 = 1 then (some (t227 == 0)) else (some false))) else (some false))) = some r := by rw [if_pos rfl] at H; exact H
                                    clear H
                                    have H := H1
                                    clear H1
                                    by_cases c40 : a0 ≥ t224
                                    · rw [if_pos c40] at H
                                      have c40b0 : decide (t224 ≤ a0) = true := decide_eq_true c40
                                      clear c40
                                      by_cases c41 : ((t228 == 0) == (decide (a0 ≤ t225))) = true
                                      · rw [if_pos c41] at H
                                        have c41b0 : ((t228 == 0) == (decide (a0 ≤ t225))) = true := c41
                                        (try (have c41b1 : decide ((t228 == 0) = (decide (a0 ≤ t225))) = true := by simpa using c41))
                                        (try (have c41b2 : ((t228 == 0) == (decide (a0 ≤ t225))) = true := by simpa using c41))
                                        clear c41
                                        by_cases c42 : t228 = 0
                                        · rw [if_pos c42] at H
                                          have c42b0 : (t228 == 0) = true := beq_iff_eq.mpr c42
                                          (try (have c42b0x : decide (a0 ≤ t225) = true := by simpa [c42b0] using c41b0))
                                          have c42b1 : (t228 != 0) = false := bne_eq_false_iff_eq.mpr c42
                                          clear c42
                                          by_cases c43 : t227 = a0
                                          · rw [if_pos c43] at H
                                            have c43b0 : (t227 == a0) = true := beq_iff_eq.mpr c43
                                            have c43b1 : (t227 != a0) = false := bne_eq_false_iff_eq.mpr c43
                                            clear c43
                                            obtain rfl := Option.some.inj H
                                            go_wp2
                                            go_ret
                                            exact ⟨by first | rfl | (simp [errW_none, errW_some] <;> rfl) | (simp [*, errW_none, errW_some] <;> rfl), by repeat (first | (with_reducible first | exact HB.out | apply below_alloc | apply pw_below_drewN | apply below_drew1) | exact HB.out)⟩
                                          · rw [if_neg c43] at H
                                            have c43b0 : (t227 == a0) = false := beq_eq_false_iff_ne.mpr c43
                                            have c43b1 : (t227 != a0) = true := bne_iff_ne.mpr c43
                                            by_cases c44 : t228 = 1
                                            · rw [if_pos c44] at H
                                              have c44b0 : (t228 == 1) = true := beq_iff_eq.mpr c44
                                              have c44b1 : (t228 != 1) = false := bne_eq_false_iff_eq.mpr c44
                                              clear c44
                                              obtain rfl := Option.some.inj H
                                              go_wp2
                                              go_ret
                                              exact ⟨by first | rfl | (simp [errW_none, errW_some] <;> rfl) | (simp [*, errW_none, errW_some] <;> rfl), by repeat (first | (with_reducible first | exact HB.out | apply below_alloc | apply pw_below_drewN | apply below_drew1) | exact HB.out)⟩
                                            · rw [if_neg c44] at H
                                              have c44b0 : (t228 == 1) = false := beq_eq_false_iff_ne.mpr c44
                                              have c44b1 : (t228 != 1) = true := bne_iff_ne.mpr c44
                                              obtain rfl := Option.some.inj H
                                              go_wp2
                                              go_ret
                                              exact ⟨by first | rfl | (simp [errW_none, errW_some] <;> rfl) | (simp [*, errW_none, errW_some] <;> rfl), by repeat (first | (with_reducible first | exact HB.out | apply below_alloc | apply pw_below_drewN | apply below_drew1) | exact HB.out)⟩
                                        · rw [if_neg c42] at H
                                          have c42b0 : (t228 == 0) = false := beq_eq_false_iff_ne.mpr c42
                                          (try (have c42b0x : decide (a0 ≤ t225) = false := by simpa [c42b0] using c41b0))
                                          have c42b1 : (t228 != 0) = true := bne_iff_ne.mpr c42
                                          by_cases c45 : t228 = 1
                                          · rw [if_pos c45] at H
                                            have c45b0 : (t228 == 1) = true := beq_iff_eq.mpr c45
                                            have c45b1 : (t228 != 1) = false := bne_eq_false_iff_eq.mpr c45
                                            clear c45
                                            obtain rfl := Option.some.inj H
                                            go_wp2
                                            go_ret
                                            exact ⟨by first | rfl | (simp [errW_none, errW_some] <;> rfl) | (simp [*, errW_none, errW_some] <;> rfl), by repeat (first | (with_reducible first | exact HB.out | apply below_alloc | apply pw_below_drewN | apply below_drew1) | exact HB.out)⟩
                                          · rw [if_neg c45] at H
                                            have c45b0 : (t228 == 1) = false := beq_eq_false_iff_ne.mpr c45
                                            have c45b1 : (t228 != 1) = true := bne_iff_ne.mpr c45
                                            obtain rfl := Option.some.inj H
                                            go_wp2
                                            go_ret
                                            exact ⟨by first | rfl | (simp [errW_none, errW_some] <;> rfl) | (simp [*, errW_none, errW_some] <;> rfl), by repeat (first | (with_reducible first | exact HB.out | apply below_alloc | apply pw_below_drewN | apply below_drew1) | exact HB.out)⟩
                                      · rw [if_neg c41] at H
                                        have c41b0 : ((t228 == 0) == (decide (a0 ≤ t225))) = false := by simpa using c41
                                        (try (have c41b1 : decide ((t228 == 0) = (decide (a0 ≤ t225))) = false := by simpa using c41))
                                        (try (have c41b2 : ((t228 == 0) == (decide (a0 ≤ t225))) = false := by simpa using c41))
                                        (try (have c41b3 : ¬ ((t228 == 0) = (decide (a0 ≤ t225))) := by simpa using c41))
                                        clear c41
                                        obtain rfl := Option.some.inj H
                                        go_wp2
                                        go_ret
                                        exact ⟨by first | rfl | (simp [errW_none, errW_some] <;> rfl) | (simp [*, errW_none, errW_some] <;> rfl), by repeat (first | (with_reducible first | exact HB.out | apply below_alloc | apply pw_below_drewN | apply below_drew1) | exact HB.out)⟩
                                    · rw [if_neg c40] at H
                                      have c40b0 : decide (t224 ≤ a0) = false := decide_eq_false c40
                                      clear c40
                                      by_cases c46 : ((t228 == 0) == false) = true
                                      · rw [if_pos c46] at H
                                        have c46b0 : ((t228 == 0) == false) = true := c46
                                        (try (have c46b1 : decide ((t228 == 0) = false) = true := by simpa using c46))
                                        (try (have c46b2 : ((t228 == 0) == false) = true := by simpa using c46))
                                        clear c46
                                        by_cases c47 : t228 = 0
                                        · rw [if_pos c47] at H
                                          have c47b0 : (t228 == 0) = true := beq_iff_eq.mpr c47
                                          have c47b1 : (t228 != 0) = false := bne_eq_false_iff_eq.mpr c47
                                          clear c47
                                          by_cases c48 : t227 = a0
                                          · rw [if_pos c48] at H
                                            have c48b0 : (t227 == a0) = true := beq_iff_eq.mpr c48
                                            have c48b1 : (t227 != a0) = false := bne_eq_false_iff_eq.mpr c48
                                            clear c48
                                            obtain rfl := Option.some.inj H
                                            go_wp2
                                            go_ret
                                            exact ⟨by first | rfl | (exfalso; simp [c47b0] at c46b0; done) | (simp [errW_none, errW_some] <;> rfl) | (simp [*, errW_none, errW_some] <;> rfl), by repeat (first | (with_reducible first | exact HB.out | apply below_alloc | apply pw_below_drewN | apply below_drew1) | exact HB.out)⟩
                                          · rw [if_neg c48] at H
                                            have c48b0 : (t227 == a0) = false := beq_eq_false_iff_ne.mpr c48
                                            have c48b1 : (t227 != a0) = true := bne_iff_ne.mpr c48
                                            by_cases c49 : t228 = 1
                                            · rw [if_pos c49] at H
                                              have c49b0 : (t228 == 1) = true := beq_iff_eq.mpr c49
                                              have c49b1 : (t228 != 1) = false := bne_eq_false_iff_eq.mpr c49
                                              clear c49
                                              obtain rfl := Option.some.inj H
                                              go_wp2
                                              go_ret
                                              exact ⟨by first | rfl | (exfalso; simp [c47b0] at c46b0; done) | (simp [errW_none, errW_some] <;> rfl) | (simp [*, errW_none, errW_some] <;> rfl), by repeat (first | (with_reducible first | exact HB.out | apply below_alloc | apply pw_below_drewN | apply below_drew1) | exact HB.out)⟩
                                            · rw [if_neg c49] at H
                                              have c49b0 : (t228 == 1) = false := beq_eq_false_iff_ne.mpr c49
                                              have c49b1 : (t228 != 1) = true := bne_iff_ne.mpr c49
                                              obtain rfl := Option.some.inj H
                                              go_wp2
                                              go_ret
                                              exact ⟨by first | rfl | (exfalso; simp [c47b0] at c46b0; done) | (simp [errW_none, errW_some] <;> rfl) | (simp [*, errW_none, errW_some] <;> rfl), by repeat (first | (with_reducible first | exact HB.out | apply below_alloc | apply pw_below_drewN | apply below_drew1) | exact HB.out)⟩
                                        · rw [if_neg c47] at H
                                          have c47b0 : (t228 == 0) = false := beq_eq_false_iff_ne.mpr c47
                                          have c47b1 : (t228 != 0) = true := bne_iff_ne.mpr c47
                                          by_cases c50 : t228 = 1
                                          · rw [if_pos c50] at H
                                            have c50b0 : (t228 == 1) = true := beq_iff_eq.mpr c50
                                            have c50b1 : (t228 != 1) = false := bne_eq_false_iff_eq.mpr c50
                                            clear c50
                                            obtain rfl := Option.some.inj H
                                            go_wp2
                                            go_ret
                                            exact ⟨by first | rfl | (simp [errW_none, errW_some] <;> rfl) | (simp [*, errW_none, errW_some] <;> rfl), by repeat (first | (with_reducible first | exact HB.out | apply below_alloc | apply pw_below_drewN | apply below_drew1) | exact HB.out)⟩
                                          · rw [if_neg c50] at H
                                            have c50b0 : (t228 == 1) = false := beq_eq_false_iff_ne.mpr c50
                                            have c50b1 : (t228 != 1) = true := bne_iff_ne.mpr c50
                                            obtain rfl := Option.some.inj H
                                            go_wp2
                                            go_ret
                                            exact ⟨by first | rfl | (simp [errW_none, errW_some] <;> rfl) | (simp [*, errW_none, errW_some] <;> rfl), by repeat (first | (with_reducible first | exact HB.out | apply below_alloc | apply pw_below_drewN | apply below_drew1) | exact HB.out)⟩
                                      · rw [if_neg c46] at H
                                        have c46b0 : ((t228 == 0) == false) = false := by simpa using c46
                                        (try (have c46b1 : decide ((t228 == 0) = false) = false := by simpa using c46))
                                        (try (have c46b2 : ((t228 == 0) == false) = false := by simpa using c46))
                                        (try (have c46b3 : ¬ ((t228 == 0) = false) := by simpa using c46))
                                        clear c46
                                        obtain rfl := Option.some.inj H
                                        go_wp2
                                        go_ret
                                        exact ⟨by first | rfl | (simp [errW_none, errW_some] <;> rfl) | (simp [*, errW_none, errW_some] <;> rfl), by repeat (first | (with_reducible first | exact HB.out | apply below_alloc | apply pw_below_drewN | apply below_drew1) | exact HB.out)⟩
                                  · exact absurd rfl c39
                                · rw [if_neg c38] at H
                                  have c38b0 : (t226 == 0) = false := beq_eq_false_iff_ne.mpr c38
                                  have c38b1 : (t226 != 0) = true := bne_iff_ne.mpr c38
                                  by_cases c51 : true = true
                                  · clear c51
                                    have H1 : (if t228 = t226 then (some (t227 == 0)) else (some false)) = some r := by rw [if_pos rfl] at H; exact H
                                    clear H
                                    have H := H1
                                    clear H1
                                    by_cases c52 : t228 = t226
                                    · rw [if_pos c52] at H
                                      have c52b0 : (t228 == t226) = true := beq_iff_eq.mpr c52
                                      have c52b1 : (t228 != t226) = false := bne_eq_false_iff_eq.mpr c52
                                      clear c52
                                      obtain rfl := Option.some.inj H
                                      go_wp2
                                      go_ret
                                      exact ⟨by first | rfl | (simp [errW_none, errW_some] <;> rfl) | (simp [*, errW_none, errW_some] <;> rfl), by repeat (first | (with_reducible first | exact HB.out | apply below_alloc | apply pw_below_drewN | apply below_drew1) | exact HB.out)⟩
                                    · rw [if_neg c52] at H
                                      have c52b0 : (t228 == t226) = false := beq_eq_false_iff_ne.mpr c52
                                      have c52b1 : (t228 != t226) = true := bne_iff_ne.mpr c52
                                      obtain rfl := Option.some.inj H
                                      go_wp2
                                      go_ret
                                      exact ⟨by first | rfl | (simp [errW_none, errW_some] <;> rfl) | (simp [*, errW_none, errW_some] <;> rfl), by repeat (first | (with_reducible first | exact HB.out | apply below_alloc | apply pw_below_drewN | apply below_drew1) | exact HB.out)⟩
                                  · exact absurd rfl c51
  · replace c5 := Bool.eq_false_iff.mpr c5
    subst c5
    have H1 : (some false) = some r := by rw [if_neg (show ¬ (false = true) by decide)] at H; exact H
    clear H
    have H := H1
    clear H1
    obtain rfl := Option.some.inj H
    go_enter Try.func7, Try.ntmps7
    go_wp2_with (first | ((with_reducible refine gate_callee (f := 8) rfl ?_); refine goesL_ (some 18) rfl rfl Try.func8 (by kernel_rfl) rfl #[] rfl (by (try simp only [List.map_toArray, List.map_cons, List.map_nil]); first | done | rfl | (simp only [List.length_drop, List.length_take]; rfl)) ?_; (with_reducible refine (complinelaw17_works.calls k  false _ A4.out).mono ?_); rintro e w53 ⟨rfl, hb⟩; refine ⟨_, rfl, ?_⟩; have n0_ := Aside0.mk (below_step (by repeat (first | (with_reducible first | exact HB.out | apply below_alloc | apply pw_below_drewN | apply below_drew1) | exact HB.out)) hb); clear HB; have HB := n0_; clear n0_; (try clear hb); (try clear hb2); (try clear hk); (try clear hi)))
    go_ret
    exact ⟨by first | rfl | (simp [errW_none, errW_some] <;> rfl) | (simp [*, errW_none, errW_some] <;> rfl), by repeat (first | (with_reducible first | exact HB.out | apply below_alloc | apply pw_below_drewN | apply below_drew1) | exact HB.out)⟩

/-- THE ONE PURE STATEMENT of complinelaw17_LexDigits: yours. -/
def complinelaw17_LexDigits.Pure : Prop := ∀ (a0 : Int) (a1 : Int) (a2 : Int), (Lit.int .i64 a0).wf = true → (Lit.int .i64 a1).wf = true → (Lit.int .i64 a2).wf = true → ∃ k, complinelaw17_LexDigits.f k a0 a1 a2 = some true
theorem complinelaw17_LexDigits.walk (P : complinelaw17_LexDigits.Pure) (a0 : Int) (a1 : Int) (a2 : Int) (w : World) (w0 : (Lit.int .i64 a0).wf = true) (w1 : (Lit.int .i64 a1).wf = true) (w2 : (Lit.int .i64 a2).wf = true) :
    Calls Try.prog 7 #[.int .i64 a0, .int .i64 a1, .int .i64 a2] w fun e w' => e = .returned (.bool true) ∧ Below w.heap.size w w' := by
  obtain ⟨k, h⟩ := P a0 a1 a2 w0 w1 w2
  refine (complinelaw17_LexDigits.calls k a0 a1 a2 true w h).mono ?_
  rintro e w' ⟨rfl, hd⟩
  exact ⟨rfl, hd⟩

end Go.Proofs.Ytgajipaenoepiaa.PLex
