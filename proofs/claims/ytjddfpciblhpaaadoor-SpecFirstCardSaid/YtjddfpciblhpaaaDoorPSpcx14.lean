-- Written by a program of this session (gprint.py) over the kit's print.
import Derived.Test.YtjddfpciblhpaaaDoorPSpcx0
import Derived.Test.YtjddfpciblhpaaaDoorPSpcx2
import Derived.Test.YtjddfpciblhpaaaDoorPSpcx4
import Derived.Test.YtjddfpciblhpaaaDoorPSpcx6
import Derived.Test.YtjddfpciblhpaaaDoorPSpcx7
import Derived.Test.YtjddfpciblhpaaaDoorPSpcx9
namespace Go.Proofs.YtjddfpciblhpaaaDoor.PSpc
open Go.RowKit Go.Proofs.YtjddfpciblhpaaaDoorW.PrintWords Go.Proofs.YtjddfpciblhpaaaDoorW.PrintLast Go.Proofs.YtjddfpciblhpaaaDoorW.PrintMore
attribute [local go_sem] max2_int min2_int max_two min_two max_three min_three max_four min_four   -- for this text's walks alone
set_option linter.unusedVariables false
set_option linter.unusedSimpArgs false

attribute [local go_sem high] eqA26
/-! ### complinelaw19_SpecFirst: function 5 -/
mutual
def complinelaw19_SpecFirst.l0 : Nat → List ByteArray → Bool → ByteArray → Int → Option (Bool)
  | 0, _, _, _, _ => none
  | k + 1, x0, x3, x4, x5 => if x5 < 5 then (if 0 ≤ x5 then (if x5 < (x0.length : Int) then (if ((rdOf ByteArray.empty x0 x5).size : Int) > 40 then (some x3) else (if x4.size + 1 ≤ 9223372036854775807 then (if (x4 ++ (⟨#[32]⟩ : ByteArray)).size + (rdOf ByteArray.empty x0 x5).size ≤ 9223372036854775807 then (complinelaw19_SpecFirst.l0 k x0 x3 ((x4 ++ (⟨#[32]⟩ : ByteArray)) ++ (rdOf ByteArray.empty x0 x5)) (wrap64 (x5 + 1))) else (none)) else (none))) else (none)) else (none)) else ((lex_Fields.f x4).bind fun bt231 => (if bt231.2 = 0 then (complinelaw19_SpecFirst.j1 k x3 x4 bt231.1 bt231.2 ((bt231.1.length : Int) != 5)) else (complinelaw19_SpecFirst.j1 k x3 x4 bt231.1 bt231.2 true)))
def complinelaw19_SpecFirst.j1 : Nat → Bool → ByteArray → List ByteArray → Int → Bool → Option (Bool)
  | 0, _, _, _, _, _ => none
  | k + 1, x3, x4, x6, x7, x50 => if x50 = true then (if x3 = true then (some (x7 != 0)) else (some false)) else ((spec_Parse.f x4).bind fun bt235 => (complinelaw19_SpecFirst.l1 k x3 x6 bt235.2.2.2.2.2.2.2.2.2.2.1 bt235.2.2.2.2.2.2.2.2.2.2.2 0 bt235.1 bt235.2.1 bt235.2.2.1 bt235.2.2.2.1 bt235.2.2.2.2.1 bt235.2.2.2.2.2.1 bt235.2.2.2.2.2.2.1 bt235.2.2.2.2.2.2.2.1 bt235.2.2.2.2.2.2.2.2.1 bt235.2.2.2.2.2.2.2.2.2.1))
def complinelaw19_SpecFirst.l1 : Nat → Bool → List ByteArray → Int → Int → Int → Int → Bool → Int → Bool → Int → Bool → Int → Bool → Int → Bool → Option (Bool)
  | 0, _, _, _, _, _, _, _, _, _, _, _, _, _, _, _ => none
  | k + 1, x3, x6, x9, x10, x11, x248000, x248001, x248002, x248003, x248004, x248005, x248006, x248007, x248008, x248009 => if x11 < 5 then (if 0 ≤ x11 then (if x11 < (x6.length : Int) then ((field_Parse.f (rdOf ByteArray.empty x6 x11) x11).bind fun bt249 => (if bt249.2.2 = 0 then (complinelaw19_SpecFirst.l1 k x3 x6 x9 x10 (wrap64 (x11 + 1)) x248000 x248001 x248002 x248003 x248004 x248005 x248006 x248007 x248008 x248009) else (if x3 = true then (if x9 = (wrap64 (x11 + 1)) then (if x10 = bt249.2.2 then (some ((x248000 == 0 && (!x248001)) && ((x248002 == 0 && (!x248003)) && ((x248004 == 0 && (!x248005)) && ((x248006 == 0 && (!x248007)) && ((x248008 == 0 && (!x248009)))))))) else (some false)) else (some false)) else (some false)))) else (none)) else (none)) else (if x3 = true then (if x9 = 0 then (some (x10 == 0)) else (some false)) else (some false))
end
def complinelaw19_SpecFirst.f (k : Nat) (l0 : List ByteArray) : Option (Bool) := (complinelaw19_works.f).bind fun t228 => (if t228 = true then (if (l0.length : Int) = 5 then (complinelaw19_SpecFirst.l0 k l0 t228 (⟨#[]⟩ : ByteArray) 0) else (some t228)) else (some false))
theorem complinelaw19_SpecFirst.mono_l : ∀ k, (∀ y0 y1 y2 y3, LeO (complinelaw19_SpecFirst.l0 k y0 y1 y2 y3) (complinelaw19_SpecFirst.l0 (k + 1) y0 y1 y2 y3)) ∧ (∀ y0 y1 y2 y3 y4, LeO (complinelaw19_SpecFirst.j1 k y0 y1 y2 y3 y4) (complinelaw19_SpecFirst.j1 (k + 1) y0 y1 y2 y3 y4)) ∧ (∀ y0 y1 y2 y3 y4 y5 y6 y7 y8 y9 y10 y11 y12 y13 y14, LeO (complinelaw19_SpecFirst.l1 k y0 y1 y2 y3 y4 y5 y6 y7 y8 y9 y10 y11 y12 y13 y14) (complinelaw19_SpecFirst.l1 (k + 1) y0 y1 y2 y3 y4 y5 y6 y7 y8 y9 y10 y11 y12 y13 y14))
  | 0 => ⟨fun _ _ _ _ r h => by simp [complinelaw19_SpecFirst.l0] at h, fun _ _ _ _ _ r h => by simp [complinelaw19_SpecFirst.j1] at h, fun _ _ _ _ _ _ _ _ _ _ _ _ _ _ _ r h => by simp [complinelaw19_SpecFirst.l1] at h⟩
  | k + 1 => by
    obtain ⟨ih0, ih1, ih2⟩ := complinelaw19_SpecFirst.mono_l k
    refine ⟨?_, ?_, ?_⟩
    · intro y0 y1 y2 y3
      unfold complinelaw19_SpecFirst.l0
      repeat' first
      | (with_reducible exact ih0 _ _ _ _)
      | (with_reducible exact ih1 _ _ _ _ _)
      | (with_reducible exact ih2 _ _ _ _ _ _ _ _ _ _ _ _ _ _ _)
      | (with_reducible exact LeO.refl _)
      | (with_reducible exact LeO.none _)
      | (with_reducible refine LeO.ite ?_ ?_)
      | (with_reducible refine LeO.bind ?_ (fun _ => ?_))
      | exact ih0 _ _ _ _
      | exact ih1 _ _ _ _ _
      | exact ih2 _ _ _ _ _ _ _ _ _ _ _ _ _ _ _
      | exact LeO.none _
      | refine LeO.ite ?_ ?_
      | refine LeO.bind ?_ (fun _ => ?_)
    · intro y0 y1 y2 y3 y4
      unfold complinelaw19_SpecFirst.j1
      repeat' first
      | (with_reducible exact ih0 _ _ _ _)
      | (with_reducible exact ih1 _ _ _ _ _)
      | (with_reducible exact ih2 _ _ _ _ _ _ _ _ _ _ _ _ _ _ _)
      | (with_reducible exact LeO.refl _)
      | (with_reducible exact LeO.none _)
      | (with_reducible refine LeO.ite ?_ ?_)
      | (with_reducible refine LeO.bind ?_ (fun _ => ?_))
      | exact ih0 _ _ _ _
      | exact ih1 _ _ _ _ _
      | exact ih2 _ _ _ _ _ _ _ _ _ _ _ _ _ _ _
      | exact LeO.none _
      | refine LeO.ite ?_ ?_
      | refine LeO.bind ?_ (fun _ => ?_)
    · intro y0 y1 y2 y3 y4 y5 y6 y7 y8 y9 y10 y11 y12 y13 y14
      unfold complinelaw19_SpecFirst.l1
      repeat' first
      | (with_reducible exact ih0 _ _ _ _)
      | (with_reducible exact ih1 _ _ _ _ _)
      | (with_reducible exact ih2 _ _ _ _ _ _ _ _ _ _ _ _ _ _ _)
      | (with_reducible exact LeO.refl _)
      | (with_reducible exact LeO.none _)
      | (with_reducible refine LeO.ite ?_ ?_)
      | (with_reducible refine LeO.bind ?_ (fun _ => ?_))
      | exact ih0 _ _ _ _
      | exact ih1 _ _ _ _ _
      | exact ih2 _ _ _ _ _ _ _ _ _ _ _ _ _ _ _
      | exact LeO.none _
      | refine LeO.ite ?_ ?_
      | refine LeO.bind ?_ (fun _ => ?_)
theorem complinelaw19_SpecFirst.mono : ∀ a0 k, LeO (complinelaw19_SpecFirst.f k a0) (complinelaw19_SpecFirst.f (k + 1) a0) := by
  intro a0 k
  obtain ⟨ih0, ih1, ih2⟩ := complinelaw19_SpecFirst.mono_l k
  unfold complinelaw19_SpecFirst.f
  repeat' first
      | (with_reducible exact ih0 _ _ _ _)
      | (with_reducible exact ih1 _ _ _ _ _)
      | (with_reducible exact ih2 _ _ _ _ _ _ _ _ _ _ _ _ _ _ _)
      | (with_reducible exact LeO.refl _)
      | (with_reducible exact LeO.none _)
      | (with_reducible refine LeO.ite ?_ ?_)
      | (with_reducible refine LeO.bind ?_ (fun _ => ?_))
      | exact ih0 _ _ _ _
      | exact ih1 _ _ _ _ _
      | exact ih2 _ _ _ _ _ _ _ _ _ _ _ _ _ _ _
      | exact LeO.none _
      | refine LeO.ite ?_ ?_
      | refine LeO.bind ?_ (fun _ => ?_)
set_option maxHeartbeats 8000000 in
set_option maxRecDepth 100000 in
theorem complinelaw19_SpecFirst.calls (k : Nat) (A0 : Option Addr) (c0 : Nat) (l0 : List ByteArray) (r : Bool) (w : World) (hT : Tab w) (hr0 : Kd.C Kd.string w A0 l0.length l0) (hc0 : l0.length ≤ c0) (h : complinelaw19_SpecFirst.f k l0 = some r) :
    Calls Tryd.prog 5 #[.slice A0 l0.length c0] w fun e w' => e = .returned (.bool r) ∧ Below w.heap.size w w' := by
  have hu26 := Tryd.underlying26
  have hu24 := Tryd.underlying24
  have HR0 := Aside0.mk hr0
  have HC0 := Aside0.mk hc0
  clear hr0 hc0
  have HB := Aside0.mk (Below.refl w.heap.size w)
  have H : ((complinelaw19_works.f).bind fun t228 => (if t228 = true then (if (l0.length : Int) = 5 then (complinelaw19_SpecFirst.l0 k l0 t228 (⟨#[]⟩ : ByteArray) 0) else (some t228)) else (some false))) = some r := h
  clear h
  replace H := Option.bind_eq_some_iff.mp H
  obtain ⟨t228, A20, H⟩ := H
  replace H : (if t228 = true then (if (l0.length : Int) = 5 then (complinelaw19_SpecFirst.l0 k l0 t228 (⟨#[]⟩ : ByteArray) 0) else (some t228)) else (some false)) = some r := H
  have A2 := Aside0.mk A20
  clear A20
  by_cases c3 : t228 = true
  · subst c3
    have H1 : (if (l0.length : Int) = 5 then (complinelaw19_SpecFirst.l0 k l0 true (⟨#[]⟩ : ByteArray) 0) else (some true)) = some r := by first | (rw [if_pos rfl] at H; exact H) | (rw [if_pos trivial] at H; exact H)
    clear H
    have H := H1
    clear H1
    by_cases c4 : (l0.length : Int) = 5
    · rw [if_pos c4] at H
      have c4b0 : ((l0.length : Int) == 5) = true := beq_iff_eq.mpr c4
      have c4b1 : ((l0.length : Int) != 5) = false := bne_eq_false_iff_eq.mpr c4
      clear c4
      have H' := Aside0.mk H
      clear H
      go_enter Tryd.func5, Tryd.ntmps5
      go_wp2_with (first | ((with_reducible refine gate_callee (f := 7) rfl ?_); refine goesL_ (some 14) rfl rfl Tryd.func7 (by kernel_rfl) rfl #[] rfl (by (try simp only [List.map_toArray, List.map_cons, List.map_nil]); first | done | rfl | (simp only [List.length_drop, List.length_take]; rfl)) ?_; (with_reducible refine (complinelaw19_works.calls  true _ (hT.keep (by repeat (first | (with_reducible first | exact HB.out | apply below_alloc | apply pw_below_drewN | apply below_drew1 | refine below_set ?_ GE247.out | refine below_set ?_ GE252.out) | exact HB.out))) A2.out).mono ?_); rintro e w5 ⟨rfl, hb⟩; refine ⟨_, rfl, ?_⟩; have n0_ := Aside0.mk (below_step (by repeat (first | (with_reducible first | exact HB.out | apply below_alloc | apply pw_below_drewN | apply below_drew1) | exact HB.out)) hb); clear HB; have HB := n0_; clear n0_; (try clear hb); (try clear hb2); (try clear hk); (try clear hi)))
      go_loopg [4, 5] k (fun kq v4 v5 w' => ∃ (x4_1 : ByteArray) (x5_1 : Int), v4 = .string x4_1 ∧ v5 = .int .i64 x5_1 ∧ Aside0 (complinelaw19_SpecFirst.l0 kq l0 true x4_1 x5_1 = some r) ∧ Aside0 (kq ≤ k) ∧ Aside0 (Below w.heap.size w w'))
      case atStart => exact ⟨((⟨#[]⟩ : ByteArray)), (0), (by first | rfl | (simp; done) | (simp [*]; done)), (by first | rfl | (simp; done) | (simp [*]; done)), H', ⟨Nat.le_refl _⟩, ⟨by repeat (first | (with_reducible first | exact HB.out | apply below_alloc | apply pw_below_drewN | apply below_drew1) | exact HB.out)⟩⟩
      case round =>
        clear H'
        try clear p2
        try clear c3
        try clear c4
        try clear c4b0
        try clear c4b1
        try clear c5
        obtain ⟨x4_1, x5_1, rfl, rfl, HA, HK1, HB⟩ := hrel
        cases gk with
        | zero => exact absurd HA.out (by simp [complinelaw19_SpecFirst.l0])
        | succ k1 =>
          have H := HA.out
          clear HA
          simp only [complinelaw19_SpecFirst.l0] at H
          by_cases c6 : x5_1 < 5
          · rw [if_pos c6] at H
            have c6b0 : decide (x5_1 < 5) = true := decide_eq_true c6
            clear c6
            by_cases c7 : 0 ≤ x5_1
            · rw [if_pos c7] at H
              have c7b0 : decide (0 ≤ x5_1) = true := decide_eq_true c7
              clear c7
              by_cases c8 : x5_1 < (l0.length : Int)
              · rw [if_pos c8] at H
                have c8b0 : decide (x5_1 < (l0.length : Int)) = true := decide_eq_true c8
                clear c8
                by_cases c9 : ((rdOf ByteArray.empty l0 x5_1).size : Int) > 40
                · rw [if_pos c9] at H
                  have c9b0 : decide (40 < ((rdOf ByteArray.empty l0 x5_1).size : Int)) = true := decide_eq_true c9
                  have c9b1 : decide (40 < (rdOf ByteArray.empty l0 x5_1).size) = true := decide_eq_true (by omega)
                  clear c9
                  obtain rfl := Option.some.inj H
                  have p229 : 0 ≤ (x5_1 : Int) := of_decide_eq_true (by first | (with_reducible assumption) | assumption)
                  have q229 : x5_1 < (l0.length : Int) := of_decide_eq_true (by first | (with_reducible assumption) | assumption)
                  obtain ⟨ad229, e229, hx229_0⟩ := Kd.at_string HR0.out x5_1 p229 q229
                  cases e229
                  replace hx229_0 := (HB.out.cell (World.block_lt_of_cell? w _ hx229_0)).trans hx229_0
                  replace p229 := eq_true p229
                  replace q229 := eq_true q229
                  go_wp2
                  go_ret
                  exact ⟨by first | rfl | (simp [errW_none, errW_some] <;> rfl) | (simp [*, errW_none, errW_some] <;> rfl), by repeat (first | (with_reducible first | exact HB.out | apply below_alloc | apply pw_below_drewN | apply below_drew1) | exact HB.out)⟩
                · rw [if_neg c9] at H
                  have c9b0 : decide (40 < ((rdOf ByteArray.empty l0 x5_1).size : Int)) = false := decide_eq_false c9
                  have c9b1 : decide (40 < (rdOf ByteArray.empty l0 x5_1).size) = false := decide_eq_false (by omega)
                  clear c9
                  by_cases c10 : x4_1.size + 1 ≤ 9223372036854775807
                  · rw [if_pos c10] at H
                    have c10b0 := eq_true c10
                    have c10b1 : decide (x4_1.size + 1 ≤ 9223372036854775807) = true := decide_eq_true c10
                    try have c10b2 : (9223372036854775807 < x4_1.size + 1) = False := eq_false (Nat.not_lt.2 c10)
                    by_cases c11 : (x4_1 ++ (⟨#[32]⟩ : ByteArray)).size + (rdOf ByteArray.empty l0 x5_1).size ≤ 9223372036854775807
                    · rw [if_pos c11] at H
                      have c11b0 := eq_true c11
                      have c11b1 : decide ((x4_1 ++ (⟨#[32]⟩ : ByteArray)).size + (rdOf ByteArray.empty l0 x5_1).size ≤ 9223372036854775807) = true := decide_eq_true c11
                      try have c11b2 : (9223372036854775807 < (x4_1 ++ (⟨#[32]⟩ : ByteArray)).size + (rdOf ByteArray.empty l0 x5_1).size) = False := eq_false (Nat.not_lt.2 c11)
                      have H' := Aside0.mk H
                      clear H
                      have p229 : 0 ≤ (x5_1 : Int) := of_decide_eq_true (by first | (with_reducible assumption) | assumption)
                      have q229 : x5_1 < (l0.length : Int) := of_decide_eq_true (by first | (with_reducible assumption) | assumption)
                      obtain ⟨ad229, e229, hx229_0⟩ := Kd.at_string HR0.out x5_1 p229 q229
                      cases e229
                      replace hx229_0 := (HB.out.cell (World.block_lt_of_cell? w _ hx229_0)).trans hx229_0
                      replace p229 := eq_true p229
                      replace q229 := eq_true q229
                      have p230 : 0 ≤ (x5_1 : Int) := of_decide_eq_true (by first | (with_reducible assumption) | assumption)
                      have q230 : x5_1 < (l0.length : Int) := of_decide_eq_true (by first | (with_reducible assumption) | assumption)
                      obtain ⟨ad230, e230, hx230_0⟩ := Kd.at_string HR0.out x5_1 p230 q230
                      obtain rfl : ad229 = ad230 := (by injection e230)
                      replace hx230_0 := (HB.out.cell (World.block_lt_of_cell? w _ hx230_0)).trans hx230_0
                      replace p230 := eq_true p230
                      replace q230 := eq_true q230
                      go_wp2
                      go_roundg k1
                      case measure => have := HK1.out; omega
                      case rel => exact ⟨((x4_1 ++ (⟨#[32]⟩ : ByteArray)) ++ (rdOf ByteArray.empty l0 x5_1)), (wrap64 (x5_1 + 1)), (by first | rfl | (simp; done) | (simp [*]; done)), (by first | rfl | (simp; done) | (simp [*]; done)), H', ⟨by have := HK1.out; omega⟩, ⟨by repeat (first | (with_reducible first | exact HB.out | apply below_alloc | apply pw_below_drewN | apply below_drew1) | exact HB.out)⟩⟩
                    · rw [if_neg c11] at H
                      exact absurd H (by simp)
                  · rw [if_neg c10] at H
                    exact absurd H (by simp)
              · rw [if_neg c8] at H
                exact absurd H (by simp)
            · rw [if_neg c7] at H
              exact absurd H (by simp)
          · rw [if_neg c6] at H
            have c6b0 : decide (x5_1 < 5) = false := decide_eq_false c6
            clear c6
            replace H := Option.bind_eq_some_iff.mp H
            obtain ⟨⟨t231, t232⟩, A120, H⟩ := H
            replace H : (if t232 = 0 then (complinelaw19_SpecFirst.j1 k1 true x4_1 t231 t232 ((t231.length : Int) != 5)) else (complinelaw19_SpecFirst.j1 k1 true x4_1 t231 t232 true)) = some r := H
            have A12 := Aside0.mk A120
            clear A120
            have HC13 := Aside0.mk H
            clear H
            go_upto_region 14 with (first | ((with_reducible refine gate_callee (f := 14) rfl ?_); refine goesL_ (some 41) rfl rfl Tryd.func14 (by kernel_rfl) rfl #[.string x4_1] rfl (by (try simp only [List.map_toArray, List.map_cons, List.map_nil]); first | done | rfl | (simp only [List.length_drop, List.length_take]; rfl)) ?_; (with_reducible refine (lex_Fields.calls x4_1 t231 t232 _ A12.out).mono ?_); rintro e w14 ⟨v233, rfl, ho0, hb⟩; refine ⟨_, rfl, ?_⟩; have n0_ := Aside0.mk (Kd.R_lower ho0 (below_size (by repeat (first | (with_reducible first | exact HB.out | apply below_alloc | apply pw_below_drewN | apply below_drew1) | exact HB.out)))); have n1_ := Aside0.mk (below_step (by repeat (first | (with_reducible first | exact HB.out | apply below_alloc | apply pw_below_drewN | apply below_drew1) | exact HB.out)) hb); clear HB; have HO234 := n0_; have HB := n1_; clear n0_ n1_; (try clear hb); (try clear hb2); (try clear hk); (try clear hi); (try clear ho0)))
            (try simp only [Act.put, List.setIfInBounds_toArray, List.set_cons_zero, List.set_cons_succ])
            go_cut [50] (fun v50 wc => ∃ (kq : Nat) (x50_12 : Bool), v50 = .bool x50_12 ∧ Aside0 (complinelaw19_SpecFirst.j1 kq true x4_1 t231 t232 x50_12 = some r) ∧ Aside0 (kq ≤ k1) ∧ Aside0 (Kd.R Kd.string 9 wc w.heap.size (fun _ => True) v233 t231) ∧ Aside0 (Below w.heap.size w wc))
            case first =>
              have H := HC13.out
              clear HC13
              by_cases c15 : t232 = 0
              · rw [if_pos c15] at H
                have c15b0 : (t232 == 0) = true := beq_iff_eq.mpr c15
                have c15b1 : (t232 != 0) = false := bne_eq_false_iff_eq.mpr c15
                clear c15
                (first | rw [c15b0] | (simp only [i64_w, i32_w]; rw [c15b0]) | skip)
                have H' := Aside0.mk H
                clear H
                obtain ⟨Ao16, co16, eo16⟩ := Kd.R_slice HO234.out
                subst eo16
                go_wp2
                go_meet
                case rel => exact ⟨_, (((t231.length : Int) != 5)), (by first | rfl | (simp; done) | (simp [*]; done)), H', ⟨by have := HK1.out; first | omega | exact Nat.le_refl _⟩, ⟨by (with_reducible repeat (first | apply Kd.R_alloc | apply Kd.R_drewN | apply Kd.R_drew)); exact HO234.out⟩, ⟨by repeat (first | (with_reducible first | exact HB.out | apply below_alloc | apply pw_below_drewN | apply below_drew1) | exact HB.out)⟩⟩
              · rw [if_neg c15] at H
                have c15b0 : (t232 == 0) = false := beq_eq_false_iff_ne.mpr c15
                have c15b1 : (t232 != 0) = true := bne_iff_ne.mpr c15
                (first | rw [c15b0] | (simp only [i64_w, i32_w]; rw [c15b0]) | skip)
                have H' := Aside0.mk H
                clear H
                go_wp2
                go_meet
                case rel => exact ⟨_, (true), (by first | rfl | (simp; done) | (simp [*]; done)), H', ⟨by have := HK1.out; first | omega | exact Nat.le_refl _⟩, ⟨by (with_reducible repeat (first | apply Kd.R_alloc | apply Kd.R_drewN | apply Kd.R_drew)); exact HO234.out⟩, ⟨by repeat (first | (with_reducible first | exact HB.out | apply below_alloc | apply pw_below_drewN | apply below_drew1) | exact HB.out)⟩⟩
            case rest =>
              clear HC13
              try clear c1
              try clear p2
              try clear q2
              try clear hx2
              try clear c3
              try clear c4
              try clear c4b0
              try clear c4b1
              try clear c5
              try clear c6
              try clear c6b0
              try clear p6
              try clear c7
              try clear c7b0
              try clear c8
              try clear c8b0
              try clear c9
              try clear c9b0
              try clear c9b1
              try clear c10
              try clear c10b0
              try clear c10b1
              try clear c10b2
              try clear c11
              try clear c11b0
              try clear c11b1
              try clear c11b2
              try clear c14
              try clear c15
              try clear c15b0
              try clear c15b1
              try clear hx229_0
              try clear hx230_0
              try clear p2
              try clear p229
              try clear p230
              try clear q229
              try clear q230
              obtain ⟨kq, x50_12, rfl, HA, HJ12, HO_6, HB⟩ := hcut
              cases kq with
              | zero => exact absurd HA.out (by simp [complinelaw19_SpecFirst.j1])
              | succ kj12 =>
                have H := HA.out
                clear HA
                simp only [complinelaw19_SpecFirst.j1] at H
                by_cases c17 : x50_12 = true
                · subst c17
                  have H1 : (if true = true then (some (t232 != 0)) else (some false)) = some r := by first | (rw [if_pos rfl] at H; exact H) | (rw [if_pos trivial] at H; exact H)
                  clear H
                  have H := H1
                  clear H1
                  by_cases c18 : true = true
                  · clear c18
                    have H1 : (some (t232 != 0)) = some r := by first | (rw [if_pos rfl] at H; exact H) | (rw [if_pos trivial] at H; exact H)
                    clear H
                    have H := H1
                    clear H1
                    obtain rfl := Option.some.inj H
                    go_wp2
                    go_ret
                    exact ⟨by first | rfl | (simp [errW_none, errW_some] <;> rfl) | (simp [*, errW_none, errW_some] <;> rfl), by repeat (first | (with_reducible first | exact HB.out | apply below_alloc | apply pw_below_drewN | apply below_drew1) | exact HB.out)⟩
                  · exact absurd rfl c18
                · replace c17 := Bool.eq_false_iff.mpr c17
                  subst c17
                  have H1 : ((spec_Parse.f x4_1).bind fun bt235 => (complinelaw19_SpecFirst.l1 kj12 true t231 bt235.2.2.2.2.2.2.2.2.2.2.1 bt235.2.2.2.2.2.2.2.2.2.2.2 0 bt235.1 bt235.2.1 bt235.2.2.1 bt235.2.2.2.1 bt235.2.2.2.2.1 bt235.2.2.2.2.2.1 bt235.2.2.2.2.2.2.1 bt235.2.2.2.2.2.2.2.1 bt235.2.2.2.2.2.2.2.2.1 bt235.2.2.2.2.2.2.2.2.2.1)) = some r := by rw [if_neg (show ¬ (false = true) by decide)] at H; exact H
                  clear H
                  have H := H1
                  clear H1
                  replace H := Option.bind_eq_some_iff.mp H
                  obtain ⟨⟨t235, t236, t237, t238, t239, t240, t241, t242, t243, t244, t245, t246⟩, A190, H⟩ := H
                  replace H : (complinelaw19_SpecFirst.l1 kj12 true t231 t245 t246 0 t235 t236 t237 t238 t239 t240 t241 t242 t243 t244) = some r := H
                  have A19 := Aside0.mk A190
                  clear A190
                  have H' := Aside0.mk H
                  clear H
                  go_wp2_with (first | ((with_reducible refine gate_callee (f := 13) rfl ?_); refine goesL_ (some 58) rfl rfl Tryd.func13 (by kernel_rfl) rfl #[.string x4_1] rfl (by (try simp only [List.map_toArray, List.map_cons, List.map_nil]); first | done | rfl | (simp only [List.length_drop, List.length_take]; rfl)) ?_; (with_reducible refine (spec_Parse.calls x4_1 t235 t236 t237 t238 t239 t240 t241 t242 t243 t244 t245 t246 _ (hT.keep (by repeat (first | (with_reducible first | exact HB.out | apply below_alloc | apply pw_below_drewN | apply below_drew1 | refine below_set ?_ GE247.out | refine below_set ?_ GE252.out) | exact HB.out))) A19.out).mono ?_); rintro e w20 ⟨rfl, hb⟩; refine ⟨_, rfl, ?_⟩; have n0_ := Aside0.mk (Kd.R_below (by (with_reducible repeat (first | apply Kd.R_alloc | apply Kd.R_drewN | apply Kd.R_drew)); exact HO_6.out) hb); have n1_ := Aside0.mk (below_step (by repeat (first | (with_reducible first | exact HB.out | apply below_alloc | apply pw_below_drewN | apply below_drew1) | exact HB.out)) hb); clear HO_6; clear HB; have HO_6 := n0_; have HB := n1_; clear n0_ n1_; (try clear hb); (try clear hb2); (try clear hk); (try clear hi)) | ((with_reducible refine gate_dst (N := 8) rfl ?_); (try (refine gate_guard (by rfl) ?_; dsimp only)); refine box_event ?hg (N := 8) ?hd (cs := #[.int .u64 0, .bool false, .int .u64 0, .bool false, .int .u64 0, .bool false, .int .u64 0, .bool false, .int .u64 0, .bool false]) (t := 26) ?hr ?_; (case hd => rfl); (case hg => rfl); (case hr => first | (go_simp; done) | (go_simp; rfl)); intro gb247 hg w21 hbox hb; have n0_ := Aside0.mk (Kd.R_below (by (with_reducible repeat (first | apply Kd.R_alloc | apply Kd.R_drewN | apply Kd.R_drew)); exact HO_6.out) hb); have n1_ := Aside0.mk (below_step (by repeat (first | (with_reducible first | exact HB.out | apply below_alloc | apply pw_below_drewN | apply below_drew1) | exact HB.out)) hb); have n2_ := Aside0.mk (hbox); have n3_ := Aside0.mk ((by rw [hg]; exact (below_size (by repeat (first | (with_reducible first | exact HB.out | apply below_alloc | apply pw_below_drewN | apply below_drew1) | exact HB.out))) : w.heap.size ≤ gb247)); have n4_ := Aside0.mk ((by rw [hg]; exact (below_size (by repeat (first | (with_reducible first | exact HB.out | apply below_alloc | apply pw_below_drewN | apply below_drew1) | exact HB.out))) : w.heap.size ≤ gb247)); clear HO_6; clear HB; have HO_6 := n0_; have HB := n1_; have BK247 := n2_; have GW247 := n3_; have GE247 := n4_; clear n0_ n1_ n2_ n3_ n4_; clear hb hbox hg; have hcz22_0 : w21.cell? ⟨gb247, 0, none⟩ = some (.int .u64 0) := (blk_cell BK247.out 0).trans rfl; have hcz22_1 : w21.cell? ⟨gb247, 1, none⟩ = some (.bool false) := (blk_cell BK247.out 1).trans rfl; have hcz22_2 : w21.cell? ⟨gb247, 2, none⟩ = some (.int .u64 0) := (blk_cell BK247.out 2).trans rfl; have hcz22_3 : w21.cell? ⟨gb247, 3, none⟩ = some (.bool false) := (blk_cell BK247.out 3).trans rfl; have hcz22_4 : w21.cell? ⟨gb247, 4, none⟩ = some (.int .u64 0) := (blk_cell BK247.out 4).trans rfl; have hcz22_5 : w21.cell? ⟨gb247, 5, none⟩ = some (.bool false) := (blk_cell BK247.out 5).trans rfl; have hcz22_6 : w21.cell? ⟨gb247, 6, none⟩ = some (.int .u64 0) := (blk_cell BK247.out 6).trans rfl; have hcz22_7 : w21.cell? ⟨gb247, 7, none⟩ = some (.bool false) := (blk_cell BK247.out 7).trans rfl; have hcz22_8 : w21.cell? ⟨gb247, 8, none⟩ = some (.int .u64 0) := (blk_cell BK247.out 8).trans rfl; have hcz22_9 : w21.cell? ⟨gb247, 9, none⟩ = some (.bool false) := (blk_cell BK247.out 9).trans rfl; have hfz22_0 := blk_frozen BK247.out 0; have hfz22_1 := blk_frozen BK247.out 1; have hfz22_2 := blk_frozen BK247.out 2; have hfz22_3 := blk_frozen BK247.out 3; have hfz22_4 := blk_frozen BK247.out 4; have hfz22_5 := blk_frozen BK247.out 5; have hfz22_6 := blk_frozen BK247.out 6; have hfz22_7 := blk_frozen BK247.out 7; have hfz22_8 := blk_frozen BK247.out 8; have hfz22_9 := blk_frozen BK247.out 9))
                  go_loopg [11] kj12 (fun kq v11 w' => ∃ (x11_3 : Int), v11 = .int .i64 x11_3 ∧ Aside0 (complinelaw19_SpecFirst.l1 kq true t231 t245 t246 x11_3 t235 t236 t237 t238 t239 t240 t241 t242 t243 t244 = some r) ∧ Aside0 (kq ≤ kj12) ∧ Aside0 (Kd.R Kd.string 9 w' w.heap.size (fun _ => True) v233 t231) ∧ Aside0 (w'.heap[gb247]? = some (.cells #[.int .u64 t235, .bool t236, .int .u64 t237, .bool t238, .int .u64 t239, .bool t240, .int .u64 t241, .bool t242, .int .u64 t243, .bool t244] 26 (0, 0))) ∧ Aside0 (Below w.heap.size w w'))
                  case atStart => exact ⟨(0), (by first | rfl | (simp; done) | (simp [*]; done)), H', ⟨Nat.le_refl _⟩, ⟨by (with_reducible repeat (first | apply Kd.R_alloc | apply Kd.R_drewN | apply Kd.R_drew)); exact Kd.R_mono (Kd.R_far (p := ⟨gb247, 9, none⟩) (Kd.R_far (p := ⟨gb247, 8, none⟩) (Kd.R_far (p := ⟨gb247, 7, none⟩) (Kd.R_far (p := ⟨gb247, 6, none⟩) (Kd.R_far (p := ⟨gb247, 5, none⟩) (Kd.R_far (p := ⟨gb247, 4, none⟩) (Kd.R_far (p := ⟨gb247, 3, none⟩) (Kd.R_far (p := ⟨gb247, 2, none⟩) (Kd.R_far (p := ⟨gb247, 1, none⟩) (Kd.R_far (p := ⟨gb247, 0, none⟩) (Kd.R_types HO_6.out BK247.out (by decide)) (fun _ hk => hk.2) (.int .u64 t235)) (fun _ hk => hk.2) (.bool t236)) (fun _ hk => hk.2) (.int .u64 t237)) (fun _ hk => hk.2) (.bool t238)) (fun _ hk => hk.2) (.int .u64 t239)) (fun _ hk => hk.2) (.bool t240)) (fun _ hk => hk.2) (.int .u64 t241)) (fun _ hk => hk.2) (.bool t242)) (fun _ hk => hk.2) (.int .u64 t243)) (fun _ hk => hk.2) (.bool t244)) (fun _ hk => trivial)⟩, ⟨by (with_reducible repeat (first | refine blk_drewN ?_ _ | refine blk_drew ?_ | refine blk_alloc ?_ _)); refine blk_put (cs := #[.int .u64 t235, .bool t236, .int .u64 t237, .bool t238, .int .u64 t239, .bool t240, .int .u64 t241, .bool t242, .int .u64 t243, .bool false]) ?_ 9 _ rfl; (with_reducible repeat (first | refine blk_drewN ?_ _ | refine blk_drew ?_ | refine blk_alloc ?_ _)); refine blk_put (cs := #[.int .u64 t235, .bool t236, .int .u64 t237, .bool t238, .int .u64 t239, .bool t240, .int .u64 t241, .bool t242, .int .u64 0, .bool false]) ?_ 8 _ rfl; (with_reducible repeat (first | refine blk_drewN ?_ _ | refine blk_drew ?_ | refine blk_alloc ?_ _)); refine blk_put (cs := #[.int .u64 t235, .bool t236, .int .u64 t237, .bool t238, .int .u64 t239, .bool t240, .int .u64 t241, .bool false, .int .u64 0, .bool false]) ?_ 7 _ rfl; (with_reducible repeat (first | refine blk_drewN ?_ _ | refine blk_drew ?_ | refine blk_alloc ?_ _)); refine blk_put (cs := #[.int .u64 t235, .bool t236, .int .u64 t237, .bool t238, .int .u64 t239, .bool t240, .int .u64 0, .bool false, .int .u64 0, .bool false]) ?_ 6 _ rfl; (with_reducible repeat (first | refine blk_drewN ?_ _ | refine blk_drew ?_ | refine blk_alloc ?_ _)); refine blk_put (cs := #[.int .u64 t235, .bool t236, .int .u64 t237, .bool t238, .int .u64 t239, .bool false, .int .u64 0, .bool false, .int .u64 0, .bool false]) ?_ 5 _ rfl; (with_reducible repeat (first | refine blk_drewN ?_ _ | refine blk_drew ?_ | refine blk_alloc ?_ _)); refine blk_put (cs := #[.int .u64 t235, .bool t236, .int .u64 t237, .bool t238, .int .u64 0, .bool false, .int .u64 0, .bool false, .int .u64 0, .bool false]) ?_ 4 _ rfl; (with_reducible repeat (first | refine blk_drewN ?_ _ | refine blk_drew ?_ | refine blk_alloc ?_ _)); refine blk_put (cs := #[.int .u64 t235, .bool t236, .int .u64 t237, .bool false, .int .u64 0, .bool false, .int .u64 0, .bool false, .int .u64 0, .bool false]) ?_ 3 _ rfl; (with_reducible repeat (first | refine blk_drewN ?_ _ | refine blk_drew ?_ | refine blk_alloc ?_ _)); refine blk_put (cs := #[.int .u64 t235, .bool t236, .int .u64 0, .bool false, .int .u64 0, .bool false, .int .u64 0, .bool false, .int .u64 0, .bool false]) ?_ 2 _ rfl; (with_reducible repeat (first | refine blk_drewN ?_ _ | refine blk_drew ?_ | refine blk_alloc ?_ _)); refine blk_put (cs := #[.int .u64 t235, .bool false, .int .u64 0, .bool false, .int .u64 0, .bool false, .int .u64 0, .bool false, .int .u64 0, .bool false]) ?_ 1 _ rfl; (with_reducible repeat (first | refine blk_drewN ?_ _ | refine blk_drew ?_ | refine blk_alloc ?_ _)); refine blk_put (cs := #[.int .u64 0, .bool false, .int .u64 0, .bool false, .int .u64 0, .bool false, .int .u64 0, .bool false, .int .u64 0, .bool false]) ?_ 0 _ rfl; (with_reducible repeat (first | refine blk_drewN ?_ _ | refine blk_drew ?_ | refine blk_alloc ?_ _)); exact BK247.out⟩, ⟨by repeat (first | (with_reducible first | exact HB.out | apply below_alloc | apply pw_below_drewN | apply below_drew1 | refine below_set ?_ GE247.out) | exact HB.out)⟩⟩
                  case round =>
                    clear H'
                    try clear c1
                    try clear p2
                    try clear q2
                    try clear hx2
                    try clear c3
                    try clear c4
                    try clear c4b0
                    try clear c4b1
                    try clear c5
                    try clear c6
                    try clear c6b0
                    try clear p6
                    try clear c7
                    try clear c7b0
                    try clear c8
                    try clear c8b0
                    try clear c9
                    try clear c9b0
                    try clear c9b1
                    try clear c10
                    try clear c10b0
                    try clear c10b1
                    try clear c10b2
                    try clear c11
                    try clear c11b0
                    try clear c11b1
                    try clear c11b2
                    try clear c13
                    try clear c14
                    try clear c15
                    try clear c15b0
                    try clear c15b1
                    try clear c17
                    try clear c18
                    try clear p22
                    try clear q22
                    try clear hx22
                    try clear hcz22_0
                    try clear hcz22_1
                    try clear hcz22_2
                    try clear hcz22_3
                    try clear hcz22_4
                    try clear hcz22_5
                    try clear hcz22_6
                    try clear hcz22_7
                    try clear hcz22_8
                    try clear hcz22_9
                    try clear hfz22_0
                    try clear hfz22_1
                    try clear hfz22_2
                    try clear hfz22_3
                    try clear hfz22_4
                    try clear hfz22_5
                    try clear hfz22_6
                    try clear hfz22_7
                    try clear hfz22_8
                    try clear hfz22_9
                    try clear hx229_0
                    try clear hx230_0
                    try clear p2
                    try clear p229
                    try clear p230
                    try clear p6
                    try clear q2
                    try clear q229
                    try clear q230
                    obtain ⟨x11_3, rfl, HA, HK3, HO_6, BK247, HB⟩ := hrel
                    cases gk with
                    | zero => exact absurd HA.out (by simp [complinelaw19_SpecFirst.l1])
                    | succ k3 =>
                      have H := HA.out
                      clear HA
                      simp only [complinelaw19_SpecFirst.l1] at H
                      by_cases c23 : x11_3 < 5
                      · rw [if_pos c23] at H
                        have c23b0 : decide (x11_3 < 5) = true := decide_eq_true c23
                        clear c23
                        by_cases c24 : 0 ≤ x11_3
                        · rw [if_pos c24] at H
                          have c24b0 : decide (0 ≤ x11_3) = true := decide_eq_true c24
                          clear c24
                          by_cases c25 : x11_3 < (t231.length : Int)
                          · rw [if_pos c25] at H
                            have c25b0 : decide (x11_3 < (t231.length : Int)) = true := decide_eq_true c25
                            clear c25
                            replace H := Option.bind_eq_some_iff.mp H
                            obtain ⟨⟨t249, t250, t251⟩, A260, H⟩ := H
                            replace H : (if t251 = 0 then (complinelaw19_SpecFirst.l1 k3 true t231 t245 t246 (wrap64 (x11_3 + 1)) t235 t236 t237 t238 t239 t240 t241 t242 t243 t244) else (if true = true then (if t245 = (wrap64 (x11_3 + 1)) then (if t246 = t251 then (some ((t235 == 0 && (!t236)) && ((t237 == 0 && (!t238)) && ((t239 == 0 && (!t240)) && ((t241 == 0 && (!t242)) && ((t243 == 0 && (!t244)))))))) else (some false)) else (some false)) else (some false))) = some r := H
                            have A26 := Aside0.mk A260
                            clear A260
                            by_cases c27 : t251 = 0
                            · rw [if_pos c27] at H
                              have c27b0 : (t251 == 0) = true := beq_iff_eq.mpr c27
                              have c27b1 : (t251 != 0) = false := bne_eq_false_iff_eq.mpr c27
                              clear c27
                              have H' := Aside0.mk H
                              clear H
                              obtain ⟨Ao28, co28, eo28⟩ := Kd.R_slice HO_6.out
                              subst eo28
                              have p248 : 0 ≤ (x11_3 : Int) := of_decide_eq_true (by first | (with_reducible assumption) | assumption)
                              have q248 : x11_3 < (t231.length : Int) := of_decide_eq_true (by first | (with_reducible assumption) | assumption)
                              obtain ⟨ad248, e248, hx248_0⟩ := Kd.at_string (Kd.R_reads' HO_6.out).2.2 x11_3 p248 q248
                              cases e248
                              replace p248 := eq_true p248
                              replace q248 := eq_true q248
                              go_wp2_with (first | ((with_reducible refine gate_callee (f := 16) rfl ?_); refine goesL_ (some 72) rfl rfl Tryd.func16 (by kernel_rfl) rfl #[.string (rdOf ByteArray.empty t231 x11_3), .int .i64 x11_3] rfl (by (try simp only [List.map_toArray, List.map_cons, List.map_nil]); first | done | rfl | (simp only [List.length_drop, List.length_take]; rfl)) ?_; (with_reducible refine (field_Parse.calls (rdOf ByteArray.empty t231 x11_3) x11_3 t249 t250 t251 _ (hT.keep (by repeat (first | (with_reducible first | exact HB.out | apply below_alloc | apply pw_below_drewN | apply below_drew1 | refine below_set ?_ GE247.out | refine below_set ?_ GE252.out) | exact HB.out))) A26.out).mono ?_); rintro e w29 ⟨rfl, hb⟩; refine ⟨_, rfl, ?_⟩; have n0_ := Aside0.mk (Kd.R_below (by (with_reducible repeat (first | apply Kd.R_alloc | apply Kd.R_drewN | apply Kd.R_drew)); exact HO_6.out) hb); have n1_ := Aside0.mk (blk_below (g := gb247) (o := .cells #[.int .u64 t235, .bool t236, .int .u64 t237, .bool t238, .int .u64 t239, .bool t240, .int .u64 t241, .bool t242, .int .u64 t243, .bool t244] 26 (0, 0)) (by (with_reducible repeat (first | refine blk_drewN ?_ _ | refine blk_drew ?_ | refine blk_alloc ?_ _)); exact BK247.out) hb); have n2_ := Aside0.mk (below_step (by repeat (first | (with_reducible first | exact HB.out | apply below_alloc | apply pw_below_drewN | apply below_drew1 | refine below_set ?_ GE247.out) | exact HB.out)) hb); clear HO_6; clear BK247; clear HB; have HO_6 := n0_; have BK247 := n1_; have HB := n2_; clear n0_ n1_ n2_; (try clear hb); (try clear hb2); (try clear hk); (try clear hi)) | ((with_reducible refine gate_dst (N := 12) rfl ?_); (try (refine gate_guard (by rfl) ?_; dsimp only)); refine box_event ?hg (N := 12) ?hd (cs := #[.int .u64 0, .bool false]) (t := 24) ?hr ?_; (case hd => rfl); (case hg => rfl); (case hr => first | (go_simp; done) | (go_simp; rfl)); intro gb252 hg w30 hbox hb; have n0_ := Aside0.mk (Kd.R_below (by (with_reducible repeat (first | apply Kd.R_alloc | apply Kd.R_drewN | apply Kd.R_drew)); exact HO_6.out) hb); have n1_ := Aside0.mk (blk_below (g := gb247) (o := .cells #[.int .u64 t235, .bool t236, .int .u64 t237, .bool t238, .int .u64 t239, .bool t240, .int .u64 t241, .bool t242, .int .u64 t243, .bool t244] 26 (0, 0)) (by (with_reducible repeat (first | refine blk_drewN ?_ _ | refine blk_drew ?_ | refine blk_alloc ?_ _)); exact BK247.out) hb); have n2_ := Aside0.mk (below_step (by repeat (first | (with_reducible first | exact HB.out | apply below_alloc | apply pw_below_drewN | apply below_drew1 | refine below_set ?_ GE247.out) | exact HB.out)) hb); have n3_ := Aside0.mk (hbox); have n4_ := Aside0.mk ((by rw [hg]; exact (below_size (by repeat (first | (with_reducible first | exact HB.out | apply below_alloc | apply pw_below_drewN | apply below_drew1 | refine below_set ?_ GE247.out) | exact HB.out))) : w.heap.size ≤ gb252)); have n5_ := Aside0.mk ((by rw [hg]; exact (below_size (by repeat (first | (with_reducible first | exact HB.out | apply below_alloc | apply pw_below_drewN | apply below_drew1 | refine below_set ?_ GE247.out) | exact HB.out))) : w.heap.size ≤ gb252)); have n6_ := Aside0.mk ((by rw [hg]; exact Nat.ne_of_lt (blk_lt (g := gb247) (o := .cells #[.int .u64 t235, .bool t236, .int .u64 t237, .bool t238, .int .u64 t239, .bool t240, .int .u64 t241, .bool t242, .int .u64 t243, .bool t244] 26 (0, 0)) (by (with_reducible repeat (first | refine blk_drewN ?_ _ | refine blk_drew ?_ | refine blk_alloc ?_ _)); exact BK247.out)) : gb247 ≠ gb252)); have n7_ := Aside0.mk ((by rw [hg]; exact Nat.ne_of_gt (blk_lt (g := gb247) (o := .cells #[.int .u64 t235, .bool t236, .int .u64 t237, .bool t238, .int .u64 t239, .bool t240, .int .u64 t241, .bool t242, .int .u64 t243, .bool t244] 26 (0, 0)) (by (with_reducible repeat (first | refine blk_drewN ?_ _ | refine blk_drew ?_ | refine blk_alloc ?_ _)); exact BK247.out)) : gb252 ≠ gb247)); clear HO_6; clear BK247; clear HB; have HO_6 := n0_; have BK247 := n1_; have HB := n2_; have BK252 := n3_; have GW252 := n4_; have GE252 := n5_; have NB247_252 := n6_; have NB252_247 := n7_; clear n0_ n1_ n2_ n3_ n4_ n5_ n6_ n7_; clear hb hbox hg; have hnb31 := NB252_247.out; have hnc31 := NB247_252.out; have hcz32_0 : w30.cell? ⟨gb252, 0, none⟩ = some (.int .u64 0) := (blk_cell BK252.out 0).trans rfl; have hcz32_1 : w30.cell? ⟨gb252, 1, none⟩ = some (.bool false) := (blk_cell BK252.out 1).trans rfl; have hfz32_0 := blk_frozen BK252.out 0; have hfz32_1 := blk_frozen BK252.out 1))
                              go_roundg k3
                              case measure => have := HK1.out; have := HJ12.out; have := HK3.out; omega
                              case rel => exact ⟨(wrap64 (x11_3 + 1)), (by first | rfl | (simp; done) | (simp [*]; done)), H', ⟨by have := HK1.out; have := HJ12.out; have := HK3.out; omega⟩, ⟨by (with_reducible repeat (first | apply Kd.R_alloc | apply Kd.R_drewN | apply Kd.R_drew)); exact Kd.R_mono (Kd.R_far (p := ⟨gb252, 1, none⟩) (Kd.R_far (p := ⟨gb252, 0, none⟩) (Kd.R_types HO_6.out BK252.out (by decide)) (fun _ hk => hk.2) (.int .u64 t249)) (fun _ hk => hk.2) (.bool t250)) (fun _ hk => trivial)⟩, ⟨by (with_reducible repeat (first | refine blk_drewN ?_ _ | refine blk_drew ?_ | refine blk_alloc ?_ _)); refine blk_far ?_ NB247_252.out _; (with_reducible repeat (first | refine blk_drewN ?_ _ | refine blk_drew ?_ | refine blk_alloc ?_ _)); refine blk_far ?_ NB247_252.out _; (with_reducible repeat (first | refine blk_drewN ?_ _ | refine blk_drew ?_ | refine blk_alloc ?_ _)); exact BK247.out⟩, ⟨by repeat (first | (with_reducible first | exact HB.out | apply below_alloc | apply pw_below_drewN | apply below_drew1 | refine below_set ?_ GE247.out | refine below_set ?_ GE252.out) | exact HB.out)⟩⟩
                            · rw [if_neg c27] at H
                              have c27b0 : (t251 == 0) = false := beq_eq_false_iff_ne.mpr c27
                              have c27b1 : (t251 != 0) = true := bne_iff_ne.mpr c27
                              by_cases c33 : true = true
                              · clear c33
                                have H1 : (if t245 = (wrap64 (x11_3 + 1)) then (if t246 = t251 then (some ((t235 == 0 && (!t236)) && ((t237 == 0 && (!t238)) && ((t239 == 0 && (!t240)) && ((t241 == 0 && (!t242)) && ((t243 == 0 && (!t244)))))))) else (some false)) else (some false)) = some r := by first | (rw [if_pos rfl] at H; exact H) | (rw [if_pos trivial] at H; exact H)
                                clear H
                                have H := H1
                                clear H1
                                by_cases c34 : t245 = (wrap64 (x11_3 + 1))
                                · rw [if_pos c34] at H
                                  have c34b0 : (t245 == (wrap64 (x11_3 + 1))) = true := beq_iff_eq.mpr c34
                                  have c34b1 : (t245 != (wrap64 (x11_3 + 1))) = false := bne_eq_false_iff_eq.mpr c34
                                  clear c34
                                  by_cases c35 : t246 = t251
                                  · rw [if_pos c35] at H
                                    have c35b0 : (t246 == t251) = true := beq_iff_eq.mpr c35
                                    have c35b1 : (t246 != t251) = false := bne_eq_false_iff_eq.mpr c35
                                    clear c35
                                    obtain rfl := Option.some.inj H
                                    obtain ⟨Ao36, co36, eo36⟩ := Kd.R_slice HO_6.out
                                    subst eo36
                                    have p248 : 0 ≤ (x11_3 : Int) := of_decide_eq_true (by first | (with_reducible assumption) | assumption)
                                    have q248 : x11_3 < (t231.length : Int) := of_decide_eq_true (by first | (with_reducible assumption) | assumption)
                                    obtain ⟨ad248, e248, hx248_0⟩ := Kd.at_string (Kd.R_reads' HO_6.out).2.2 x11_3 p248 q248
                                    cases e248
                                    replace p248 := eq_true p248
                                    replace q248 := eq_true q248
                                    go_wp2_with (first | ((with_reducible refine gate_callee (f := 16) rfl ?_); refine goesL_ (some 72) rfl rfl Tryd.func16 (by kernel_rfl) rfl #[.string (rdOf ByteArray.empty t231 x11_3), .int .i64 x11_3] rfl (by (try simp only [List.map_toArray, List.map_cons, List.map_nil]); first | done | rfl | (simp only [List.length_drop, List.length_take]; rfl)) ?_; (with_reducible refine (field_Parse.calls (rdOf ByteArray.empty t231 x11_3) x11_3 t249 t250 t251 _ (hT.keep (by repeat (first | (with_reducible first | exact HB.out | apply below_alloc | apply pw_below_drewN | apply below_drew1 | refine below_set ?_ GE247.out | refine below_set ?_ GE252.out) | exact HB.out))) A26.out).mono ?_); rintro e w37 ⟨rfl, hb⟩; refine ⟨_, rfl, ?_⟩; have n0_ := Aside0.mk (Kd.R_below (by (with_reducible repeat (first | apply Kd.R_alloc | apply Kd.R_drewN | apply Kd.R_drew)); exact HO_6.out) hb); have n1_ := Aside0.mk (blk_below (g := gb247) (o := .cells #[.int .u64 t235, .bool t236, .int .u64 t237, .bool t238, .int .u64 t239, .bool t240, .int .u64 t241, .bool t242, .int .u64 t243, .bool t244] 26 (0, 0)) (by (with_reducible repeat (first | refine blk_drewN ?_ _ | refine blk_drew ?_ | refine blk_alloc ?_ _)); exact BK247.out) hb); have n2_ := Aside0.mk (below_step (by repeat (first | (with_reducible first | exact HB.out | apply below_alloc | apply pw_below_drewN | apply below_drew1 | refine below_set ?_ GE247.out) | exact HB.out)) hb); clear HO_6; clear BK247; clear HB; have HO_6 := n0_; have BK247 := n1_; have HB := n2_; clear n0_ n1_ n2_; (try clear hb); (try clear hb2); (try clear hk); (try clear hi)) | ((with_reducible refine gate_dst (N := 12) rfl ?_); (try (refine gate_guard (by rfl) ?_; dsimp only)); refine box_event ?hg (N := 12) ?hd (cs := #[.int .u64 0, .bool false]) (t := 24) ?hr ?_; (case hd => rfl); (case hg => rfl); (case hr => first | (go_simp; done) | (go_simp; rfl)); intro gb252 hg w38 hbox hb; have n0_ := Aside0.mk (Kd.R_below (by (with_reducible repeat (first | apply Kd.R_alloc | apply Kd.R_drewN | apply Kd.R_drew)); exact HO_6.out) hb); have n1_ := Aside0.mk (blk_below (g := gb247) (o := .cells #[.int .u64 t235, .bool t236, .int .u64 t237, .bool t238, .int .u64 t239, .bool t240, .int .u64 t241, .bool t242, .int .u64 t243, .bool t244] 26 (0, 0)) (by (with_reducible repeat (first | refine blk_drewN ?_ _ | refine blk_drew ?_ | refine blk_alloc ?_ _)); exact BK247.out) hb); have n2_ := Aside0.mk (below_step (by repeat (first | (with_reducible first | exact HB.out | apply below_alloc | apply pw_below_drewN | apply below_drew1 | refine below_set ?_ GE247.out) | exact HB.out)) hb); have n3_ := Aside0.mk (hbox); have n4_ := Aside0.mk ((by rw [hg]; exact (below_size (by repeat (first | (with_reducible first | exact HB.out | apply below_alloc | apply pw_below_drewN | apply below_drew1 | refine below_set ?_ GE247.out) | exact HB.out))) : w.heap.size ≤ gb252)); have n5_ := Aside0.mk ((by rw [hg]; exact (below_size (by repeat (first | (with_reducible first | exact HB.out | apply below_alloc | apply pw_below_drewN | apply below_drew1 | refine below_set ?_ GE247.out) | exact HB.out))) : w.heap.size ≤ gb252)); have n6_ := Aside0.mk ((by rw [hg]; exact Nat.ne_of_lt (blk_lt (g := gb247) (o := .cells #[.int .u64 t235, .bool t236, .int .u64 t237, .bool t238, .int .u64 t239, .bool t240, .int .u64 t241, .bool t242, .int .u64 t243, .bool t244] 26 (0, 0)) (by (with_reducible repeat (first | refine blk_drewN ?_ _ | refine blk_drew ?_ | refine blk_alloc ?_ _)); exact BK247.out)) : gb247 ≠ gb252)); have n7_ := Aside0.mk ((by rw [hg]; exact Nat.ne_of_gt (blk_lt (g := gb247) (o := .cells #[.int .u64 t235, .bool t236, .int .u64 t237, .bool t238, .int .u64 t239, .bool t240, .int .u64 t241, .bool t242, .int .u64 t243, .bool t244] 26 (0, 0)) (by (with_reducible repeat (first | refine blk_drewN ?_ _ | refine blk_drew ?_ | refine blk_alloc ?_ _)); exact BK247.out)) : gb252 ≠ gb247)); clear HO_6; clear BK247; clear HB; have HO_6 := n0_; have BK247 := n1_; have HB := n2_; have BK252 := n3_; have GW252 := n4_; have GE252 := n5_; have NB247_252 := n6_; have NB252_247 := n7_; clear n0_ n1_ n2_ n3_ n4_ n5_ n6_ n7_; clear hb hbox hg; have hnb39 := NB252_247.out; have hnc39 := NB247_252.out; have hcz40_0 : w38.cell? ⟨gb252, 0, none⟩ = some (.int .u64 0) := (blk_cell BK252.out 0).trans rfl; have hcz40_1 : w38.cell? ⟨gb252, 1, none⟩ = some (.bool false) := (blk_cell BK252.out 1).trans rfl; have hfz40_0 := blk_frozen BK252.out 0; have hfz40_1 := blk_frozen BK252.out 1; have hcz41_0 : w38.cell? ⟨gb247, 0, none⟩ = some (.int .u64 t235) := (blk_cell BK247.out 0).trans rfl; have hcz41_1 : w38.cell? ⟨gb247, 1, none⟩ = some (.bool t236) := (blk_cell BK247.out 1).trans rfl; have hcz41_2 : w38.cell? ⟨gb247, 2, none⟩ = some (.int .u64 t237) := (blk_cell BK247.out 2).trans rfl; have hcz41_3 : w38.cell? ⟨gb247, 3, none⟩ = some (.bool t238) := (blk_cell BK247.out 3).trans rfl; have hcz41_4 : w38.cell? ⟨gb247, 4, none⟩ = some (.int .u64 t239) := (blk_cell BK247.out 4).trans rfl; have hcz41_5 : w38.cell? ⟨gb247, 5, none⟩ = some (.bool t240) := (blk_cell BK247.out 5).trans rfl; have hcz41_6 : w38.cell? ⟨gb247, 6, none⟩ = some (.int .u64 t241) := (blk_cell BK247.out 6).trans rfl; have hcz41_7 : w38.cell? ⟨gb247, 7, none⟩ = some (.bool t242) := (blk_cell BK247.out 7).trans rfl; have hcz41_8 : w38.cell? ⟨gb247, 8, none⟩ = some (.int .u64 t243) := (blk_cell BK247.out 8).trans rfl; have hcz41_9 : w38.cell? ⟨gb247, 9, none⟩ = some (.bool t244) := (blk_cell BK247.out 9).trans rfl; have hfz41_0 := blk_frozen BK247.out 0; have hfz41_1 := blk_frozen BK247.out 1; have hfz41_2 := blk_frozen BK247.out 2; have hfz41_3 := blk_frozen BK247.out 3; have hfz41_4 := blk_frozen BK247.out 4; have hfz41_5 := blk_frozen BK247.out 5; have hfz41_6 := blk_frozen BK247.out 6; have hfz41_7 := blk_frozen BK247.out 7; have hfz41_8 := blk_frozen BK247.out 8; have hfz41_9 := blk_frozen BK247.out 9))
                                    go_ret
                                    exact ⟨by first | rfl | (simp [errW_none, errW_some] <;> rfl) | (simp [*, errW_none, errW_some] <;> rfl), by repeat (first | (with_reducible first | exact HB.out | apply below_alloc | apply pw_below_drewN | apply below_drew1 | refine below_set ?_ GE247.out | refine below_set ?_ GE252.out) | exact HB.out)⟩
                                  · rw [if_neg c35] at H
                                    have c35b0 : (t246 == t251) = false := beq_eq_false_iff_ne.mpr c35
                                    have c35b1 : (t246 != t251) = true := bne_iff_ne.mpr c35
                                    obtain rfl := Option.some.inj H
                                    obtain ⟨Ao42, co42, eo42⟩ := Kd.R_slice HO_6.out
                                    subst eo42
                                    have p248 : 0 ≤ (x11_3 : Int) := of_decide_eq_true (by first | (with_reducible assumption) | assumption)
                                    have q248 : x11_3 < (t231.length : Int) := of_decide_eq_true (by first | (with_reducible assumption) | assumption)
                                    obtain ⟨ad248, e248, hx248_0⟩ := Kd.at_string (Kd.R_reads' HO_6.out).2.2 x11_3 p248 q248
                                    cases e248
                                    replace p248 := eq_true p248
                                    replace q248 := eq_true q248
                                    go_wp2_with (first | ((with_reducible refine gate_callee (f := 16) rfl ?_); refine goesL_ (some 72) rfl rfl Tryd.func16 (by kernel_rfl) rfl #[.string (rdOf ByteArray.empty t231 x11_3), .int .i64 x11_3] rfl (by (try simp only [List.map_toArray, List.map_cons, List.map_nil]); first | done | rfl | (simp only [List.length_drop, List.length_take]; rfl)) ?_; (with_reducible refine (field_Parse.calls (rdOf ByteArray.empty t231 x11_3) x11_3 t249 t250 t251 _ (hT.keep (by repeat (first | (with_reducible first | exact HB.out | apply below_alloc | apply pw_below_drewN | apply below_drew1 | refine below_set ?_ GE247.out | refine below_set ?_ GE252.out) | exact HB.out))) A26.out).mono ?_); rintro e w43 ⟨rfl, hb⟩; refine ⟨_, rfl, ?_⟩; have n0_ := Aside0.mk (Kd.R_below (by (with_reducible repeat (first | apply Kd.R_alloc | apply Kd.R_drewN | apply Kd.R_drew)); exact HO_6.out) hb); have n1_ := Aside0.mk (blk_below (g := gb247) (o := .cells #[.int .u64 t235, .bool t236, .int .u64 t237, .bool t238, .int .u64 t239, .bool t240, .int .u64 t241, .bool t242, .int .u64 t243, .bool t244] 26 (0, 0)) (by (with_reducible repeat (first | refine blk_drewN ?_ _ | refine blk_drew ?_ | refine blk_alloc ?_ _)); exact BK247.out) hb); have n2_ := Aside0.mk (below_step (by repeat (first | (with_reducible first | exact HB.out | apply below_alloc | apply pw_below_drewN | apply below_drew1 | refine below_set ?_ GE247.out) | exact HB.out)) hb); clear HO_6; clear BK247; clear HB; have HO_6 := n0_; have BK247 := n1_; have HB := n2_; clear n0_ n1_ n2_; (try clear hb); (try clear hb2); (try clear hk); (try clear hi)) | ((with_reducible refine gate_dst (N := 12) rfl ?_); (try (refine gate_guard (by rfl) ?_; dsimp only)); refine box_event ?hg (N := 12) ?hd (cs := #[.int .u64 0, .bool false]) (t := 24) ?hr ?_; (case hd => rfl); (case hg => rfl); (case hr => first | (go_simp; done) | (go_simp; rfl)); intro gb252 hg w44 hbox hb; have n0_ := Aside0.mk (Kd.R_below (by (with_reducible repeat (first | apply Kd.R_alloc | apply Kd.R_drewN | apply Kd.R_drew)); exact HO_6.out) hb); have n1_ := Aside0.mk (blk_below (g := gb247) (o := .cells #[.int .u64 t235, .bool t236, .int .u64 t237, .bool t238, .int .u64 t239, .bool t240, .int .u64 t241, .bool t242, .int .u64 t243, .bool t244] 26 (0, 0)) (by (with_reducible repeat (first | refine blk_drewN ?_ _ | refine blk_drew ?_ | refine blk_alloc ?_ _)); exact BK247.out) hb); have n2_ := Aside0.mk (below_step (by repeat (first | (with_reducible first | exact HB.out | apply below_alloc | apply pw_below_drewN | apply below_drew1 | refine below_set ?_ GE247.out) | exact HB.out)) hb); have n3_ := Aside0.mk (hbox); have n4_ := Aside0.mk ((by rw [hg]; exact (below_size (by repeat (first | (with_reducible first | exact HB.out | apply below_alloc | apply pw_below_drewN | apply below_drew1 | refine below_set ?_ GE247.out) | exact HB.out))) : w.heap.size ≤ gb252)); have n5_ := Aside0.mk ((by rw [hg]; exact (below_size (by repeat (first | (with_reducible first | exact HB.out | apply below_alloc | apply pw_below_drewN | apply below_drew1 | refine below_set ?_ GE247.out) | exact HB.out))) : w.heap.size ≤ gb252)); have n6_ := Aside0.mk ((by rw [hg]; exact Nat.ne_of_lt (blk_lt (g := gb247) (o := .cells #[.int .u64 t235, .bool t236, .int .u64 t237, .bool t238, .int .u64 t239, .bool t240, .int .u64 t241, .bool t242, .int .u64 t243, .bool t244] 26 (0, 0)) (by (with_reducible repeat (first | refine blk_drewN ?_ _ | refine blk_drew ?_ | refine blk_alloc ?_ _)); exact BK247.out)) : gb247 ≠ gb252)); have n7_ := Aside0.mk ((by rw [hg]; exact Nat.ne_of_gt (blk_lt (g := gb247) (o := .cells #[.int .u64 t235, .bool t236, .int .u64 t237, .bool t238, .int .u64 t239, .bool t240, .int .u64 t241, .bool t242, .int .u64 t243, .bool t244] 26 (0, 0)) (by (with_reducible repeat (first | refine blk_drewN ?_ _ | refine blk_drew ?_ | refine blk_alloc ?_ _)); exact BK247.out)) : gb252 ≠ gb247)); clear HO_6; clear BK247; clear HB; have HO_6 := n0_; have BK247 := n1_; have HB := n2_; have BK252 := n3_; have GW252 := n4_; have GE252 := n5_; have NB247_252 := n6_; have NB252_247 := n7_; clear n0_ n1_ n2_ n3_ n4_ n5_ n6_ n7_; clear hb hbox hg; have hnb45 := NB252_247.out; have hnc45 := NB247_252.out; have hcz46_0 : w44.cell? ⟨gb252, 0, none⟩ = some (.int .u64 0) := (blk_cell BK252.out 0).trans rfl; have hcz46_1 : w44.cell? ⟨gb252, 1, none⟩ = some (.bool false) := (blk_cell BK252.out 1).trans rfl; have hfz46_0 := blk_frozen BK252.out 0; have hfz46_1 := blk_frozen BK252.out 1))
                                    go_ret
                                    exact ⟨by first | rfl | (simp [errW_none, errW_some] <;> rfl) | (simp [*, errW_none, errW_some] <;> rfl), by repeat (first | (with_reducible first | exact HB.out | apply below_alloc | apply pw_below_drewN | apply below_drew1 | refine below_set ?_ GE247.out | refine below_set ?_ GE252.out) | exact HB.out)⟩
                                · rw [if_neg c34] at H
                                  have c34b0 : (t245 == (wrap64 (x11_3 + 1))) = false := beq_eq_false_iff_ne.mpr c34
                                  have c34b1 : (t245 != (wrap64 (x11_3 + 1))) = true := bne_iff_ne.mpr c34
                                  obtain rfl := Option.some.inj H
                                  obtain ⟨Ao47, co47, eo47⟩ := Kd.R_slice HO_6.out
                                  subst eo47
                                  have p248 : 0 ≤ (x11_3 : Int) := of_decide_eq_true (by first | (with_reducible assumption) | assumption)
                                  have q248 : x11_3 < (t231.length : Int) := of_decide_eq_true (by first | (with_reducible assumption) | assumption)
                                  obtain ⟨ad248, e248, hx248_0⟩ := Kd.at_string (Kd.R_reads' HO_6.out).2.2 x11_3 p248 q248
                                  cases e248
                                  replace p248 := eq_true p248
                                  replace q248 := eq_true q248
                                  go_wp2_with (first | ((with_reducible refine gate_callee (f := 16) rfl ?_); refine goesL_ (some 72) rfl rfl Tryd.func16 (by kernel_rfl) rfl #[.string (rdOf ByteArray.empty t231 x11_3), .int .i64 x11_3] rfl (by (try simp only [List.map_toArray, List.map_cons, List.map_nil]); first | done | rfl | (simp only [List.length_drop, List.length_take]; rfl)) ?_; (with_reducible refine (field_Parse.calls (rdOf ByteArray.empty t231 x11_3) x11_3 t249 t250 t251 _ (hT.keep (by repeat (first | (with_reducible first | exact HB.out | apply below_alloc | apply pw_below_drewN | apply below_drew1 | refine below_set ?_ GE247.out | refine below_set ?_ GE252.out) | exact HB.out))) A26.out).mono ?_); rintro e w48 ⟨rfl, hb⟩; refine ⟨_, rfl, ?_⟩; have n0_ := Aside0.mk (Kd.R_below (by (with_reducible repeat (first | apply Kd.R_alloc | apply Kd.R_drewN | apply Kd.R_drew)); exact HO_6.out) hb); have n1_ := Aside0.mk (blk_below (g := gb247) (o := .cells #[.int .u64 t235, .bool t236, .int .u64 t237, .bool t238, .int .u64 t239, .bool t240, .int .u64 t241, .bool t242, .int .u64 t243, .bool t244] 26 (0, 0)) (by (with_reducible repeat (first | refine blk_drewN ?_ _ | refine blk_drew ?_ | refine blk_alloc ?_ _)); exact BK247.out) hb); have n2_ := Aside0.mk (below_step (by repeat (first | (with_reducible first | exact HB.out | apply below_alloc | apply pw_below_drewN | apply below_drew1 | refine below_set ?_ GE247.out) | exact HB.out)) hb); clear HO_6; clear BK247; clear HB; have HO_6 := n0_; have BK247 := n1_; have HB := n2_; clear n0_ n1_ n2_; (try clear hb); (try clear hb2); (try clear hk); (try clear hi)) | ((with_reducible refine gate_dst (N := 12) rfl ?_); (try (refine gate_guard (by rfl) ?_; dsimp only)); refine box_event ?hg (N := 12) ?hd (cs := #[.int .u64 0, .bool false]) (t := 24) ?hr ?_; (case hd => rfl); (case hg => rfl); (case hr => first | (go_simp; done) | (go_simp; rfl)); intro gb252 hg w49 hbox hb; have n0_ := Aside0.mk (Kd.R_below (by (with_reducible repeat (first | apply Kd.R_alloc | apply Kd.R_drewN | apply Kd.R_drew)); exact HO_6.out) hb); have n1_ := Aside0.mk (blk_below (g := gb247) (o := .cells #[.int .u64 t235, .bool t236, .int .u64 t237, .bool t238, .int .u64 t239, .bool t240, .int .u64 t241, .bool t242, .int .u64 t243, .bool t244] 26 (0, 0)) (by (with_reducible repeat (first | refine blk_drewN ?_ _ | refine blk_drew ?_ | refine blk_alloc ?_ _)); exact BK247.out) hb); have n2_ := Aside0.mk (below_step (by repeat (first | (with_reducible first | exact HB.out | apply below_alloc | apply pw_below_drewN | apply below_drew1 | refine below_set ?_ GE247.out) | exact HB.out)) hb); have n3_ := Aside0.mk (hbox); have n4_ := Aside0.mk ((by rw [hg]; exact (below_size (by repeat (first | (with_reducible first | exact HB.out | apply below_alloc | apply pw_below_drewN | apply below_drew1 | refine below_set ?_ GE247.out) | exact HB.out))) : w.heap.size ≤ gb252)); have n5_ := Aside0.mk ((by rw [hg]; exact (below_size (by repeat (first | (with_reducible first | exact HB.out | apply below_alloc | apply pw_below_drewN | apply below_drew1 | refine below_set ?_ GE247.out) | exact HB.out))) : w.heap.size ≤ gb252)); have n6_ := Aside0.mk ((by rw [hg]; exact Nat.ne_of_lt (blk_lt (g := gb247) (o := .cells #[.int .u64 t235, .bool t236, .int .u64 t237, .bool t238, .int .u64 t239, .bool t240, .int .u64 t241, .bool t242, .int .u64 t243, .bool t244] 26 (0, 0)) (by (with_reducible repeat (first | refine blk_drewN ?_ _ | refine blk_drew ?_ | refine blk_alloc ?_ _)); exact BK247.out)) : gb247 ≠ gb252)); have n7_ := Aside0.mk ((by rw [hg]; exact Nat.ne_of_gt (blk_lt (g := gb247) (o := .cells #[.int .u64 t235, .bool t236, .int .u64 t237, .bool t238, .int .u64 t239, .bool t240, .int .u64 t241, .bool t242, .int .u64 t243, .bool t244] 26 (0, 0)) (by (with_reducible repeat (first | refine blk_drewN ?_ _ | refine blk_drew ?_ | refine blk_alloc ?_ _)); exact BK247.out)) : gb252 ≠ gb247)); clear HO_6; clear BK247; clear HB; have HO_6 := n0_; have BK247 := n1_; have HB := n2_; have BK252 := n3_; have GW252 := n4_; have GE252 := n5_; have NB247_252 := n6_; have NB252_247 := n7_; clear n0_ n1_ n2_ n3_ n4_ n5_ n6_ n7_; clear hb hbox hg; have hnb50 := NB252_247.out; have hnc50 := NB247_252.out; have hcz51_0 : w49.cell? ⟨gb252, 0, none⟩ = some (.int .u64 0) := (blk_cell BK252.out 0).trans rfl; have hcz51_1 : w49.cell? ⟨gb252, 1, none⟩ = some (.bool false) := (blk_cell BK252.out 1).trans rfl; have hfz51_0 := blk_frozen BK252.out 0; have hfz51_1 := blk_frozen BK252.out 1))
                                  go_ret
                                  exact ⟨by first | rfl | (simp [errW_none, errW_some] <;> rfl) | (simp [*, errW_none, errW_some] <;> rfl), by repeat (first | (with_reducible first | exact HB.out | apply below_alloc | apply pw_below_drewN | apply below_drew1 | refine below_set ?_ GE247.out | refine below_set ?_ GE252.out) | exact HB.out)⟩
                              · exact absurd rfl c33
                          · rw [if_neg c25] at H
                            exact absurd H (by simp)
                        · rw [if_neg c24] at H
                          exact absurd H (by simp)
                      · rw [if_neg c23] at H
                        have c23b0 : decide (x11_3 < 5) = false := decide_eq_false c23
                        clear c23
                        by_cases c57 : true = true
                        · clear c57
                          have H1 : (if t245 = 0 then (some (t246 == 0)) else (some false)) = some r := by first | (rw [if_pos rfl] at H; exact H) | (rw [if_pos trivial] at H; exact H)
                          clear H
                          have H := H1
                          clear H1
                          by_cases c58 : t245 = 0
                          · rw [if_pos c58] at H
                            have c58b0 : (t245 == 0) = true := beq_iff_eq.mpr c58
                            have c58b1 : (t245 != 0) = false := bne_eq_false_iff_eq.mpr c58
                            clear c58
                            obtain rfl := Option.some.inj H
                            go_wp2
                            go_ret
                            exact ⟨by first | rfl | (simp [errW_none, errW_some] <;> rfl) | (simp [*, errW_none, errW_some] <;> rfl), by repeat (first | (with_reducible first | exact HB.out | apply below_alloc | apply pw_below_drewN | apply below_drew1 | refine below_set ?_ GE247.out) | exact HB.out)⟩
                          · rw [if_neg c58] at H
                            have c58b0 : (t245 == 0) = false := beq_eq_false_iff_ne.mpr c58
                            have c58b1 : (t245 != 0) = true := bne_iff_ne.mpr c58
                            obtain rfl := Option.some.inj H
                            go_wp2
                            go_ret
                            exact ⟨by first | rfl | (simp [errW_none, errW_some] <;> rfl) | (simp [*, errW_none, errW_some] <;> rfl), by repeat (first | (with_reducible first | exact HB.out | apply below_alloc | apply pw_below_drewN | apply below_drew1 | refine below_set ?_ GE247.out) | exact HB.out)⟩
                        · exact absurd rfl c57
    · rw [if_neg c4] at H
      have c4b0 : ((l0.length : Int) == 5) = false := beq_eq_false_iff_ne.mpr c4
      have c4b1 : ((l0.length : Int) != 5) = true := bne_iff_ne.mpr c4
      obtain rfl := Option.some.inj H
      go_enter Tryd.func5, Tryd.ntmps5
      go_wp2_with (first | ((with_reducible refine gate_callee (f := 7) rfl ?_); refine goesL_ (some 14) rfl rfl Tryd.func7 (by kernel_rfl) rfl #[] rfl (by (try simp only [List.map_toArray, List.map_cons, List.map_nil]); first | done | rfl | (simp only [List.length_drop, List.length_take]; rfl)) ?_; (with_reducible refine (complinelaw19_works.calls  true _ (hT.keep (by repeat (first | (with_reducible first | exact HB.out | apply below_alloc | apply pw_below_drewN | apply below_drew1 | refine below_set ?_ GE247.out | refine below_set ?_ GE252.out) | exact HB.out))) A2.out).mono ?_); rintro e w59 ⟨rfl, hb⟩; refine ⟨_, rfl, ?_⟩; have n0_ := Aside0.mk (below_step (by repeat (first | (with_reducible first | exact HB.out | apply below_alloc | apply pw_below_drewN | apply below_drew1) | exact HB.out)) hb); clear HB; have HB := n0_; clear n0_; (try clear hb); (try clear hb2); (try clear hk); (try clear hi)))
      go_ret
      exact ⟨by first | rfl | (simp [errW_none, errW_some] <;> rfl) | (simp [*, errW_none, errW_some] <;> rfl), by repeat (first | (with_reducible first | exact HB.out | apply below_alloc | apply pw_below_drewN | apply below_drew1) | exact HB.out)⟩
  · replace c3 := Bool.eq_false_iff.mpr c3
    subst c3
    have H1 : (some false) = some r := by rw [if_neg (show ¬ (false = true) by decide)] at H; exact H
    clear H
    have H := H1
    clear H1
    obtain rfl := Option.some.inj H
    go_enter Tryd.func5, Tryd.ntmps5
    go_wp2_with (first | ((with_reducible refine gate_callee (f := 7) rfl ?_); refine goesL_ (some 14) rfl rfl Tryd.func7 (by kernel_rfl) rfl #[] rfl (by (try simp only [List.map_toArray, List.map_cons, List.map_nil]); first | done | rfl | (simp only [List.length_drop, List.length_take]; rfl)) ?_; (with_reducible refine (complinelaw19_works.calls  false _ (hT.keep (by repeat (first | (with_reducible first | exact HB.out | apply below_alloc | apply pw_below_drewN | apply below_drew1 | refine below_set ?_ GE247.out | refine below_set ?_ GE252.out) | exact HB.out))) A2.out).mono ?_); rintro e w60 ⟨rfl, hb⟩; refine ⟨_, rfl, ?_⟩; have n0_ := Aside0.mk (below_step (by repeat (first | (with_reducible first | exact HB.out | apply below_alloc | apply pw_below_drewN | apply below_drew1) | exact HB.out)) hb); clear HB; have HB := n0_; clear n0_; (try clear hb); (try clear hb2); (try clear hk); (try clear hi)))
    go_ret
    exact ⟨by first | rfl | (simp [errW_none, errW_some] <;> rfl) | (simp [*, errW_none, errW_some] <;> rfl), by repeat (first | (with_reducible first | exact HB.out | apply below_alloc | apply pw_below_drewN | apply below_drew1) | exact HB.out)⟩

-- NOT PRINTED: function 6 (complinelaw19_SpecPuts)

end Go.Proofs.YtjddfpciblhpaaaDoor.PSpc
