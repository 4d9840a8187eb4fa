-- Written by a program of this session (gprint.py) over the kit's print.
import Derived.Test.YtabhfcoljgcpeaaGreatDoorPNexx0
import Derived.Test.YtabhfcoljgcpeaaGreatDoorPNexx5
import Derived.Test.YtabhfcoljgcpeaaGreatDoorPNexx6
import Derived.Test.YtabhfcoljgcpeaaGreatDoorPNexx8
import Derived.Test.YtabhfcoljgcpeaaGreatDoorPNexx13
namespace Go.Proofs.YtabhfcoljgcpeaaGreatDoor.PNex
open Go.RowKit Go.Proofs.YtabhfcoljgcpeaaGreatDoorW.PrintWords Go.Proofs.YtabhfcoljgcpeaaGreatDoorW.PrintLast Go.Proofs.YtabhfcoljgcpeaaGreatDoorW.PrintMore
attribute [local go_sem] max2_int min2_int max_two min_two max_three min_three max_four min_four
set_option linter.unusedVariables false
set_option linter.unusedSimpArgs false
mutual
def complinelaw22_NextLeast.j0 : Nat → Int → Int → Bool → Bool → Int → Bool → Int → Bool → Int → Bool → Int → Bool → Int → Bool → Option (Bool)
 | 0, _, _, _, _, _, _, _, _, _, _, _, _, _, _ => none
 | k + 1, x1, x2, x7, x25, x232000, x232001, x232002, x232003, x232004, x232005, x232006, x232007, x232008, x232009 => if x25 = true then (some x7) else ((next_Next.f x232000 x232001 x232002 x232003 x232004 x232005 x232006 x232007 x232008 x232009 x1).bind fun bt233 => (if bt233.2 = 2 then (if x7 = true then (some (bt233.1 == 0)) else (some false)) else (if bt233.2 = 0 then ((day_Match.f x232000 x232001 x232002 x232003 x232004 x232005 x232006 x232007 x232008 x232009 bt233.1).bind fun bt235 => (if bt233.1 ≤ x1 then (some false) else (if bt235.1 = true then (if bt235.2 = 0 then (complinelaw22_NextLeast.j1 k x1 x2 x7 bt233.1 bt233.2 bt233.1 x232000 x232001 x232002 x232003 x232004 x232005 x232006 x232007 x232008 x232009) else (some false)) else (some false)))) else (complinelaw22_NextLeast.j1 k x1 x2 x7 bt233.1 bt233.2 541728000 x232000 x232001 x232002 x232003 x232004 x232005 x232006 x232007 x232008 x232009))))
def complinelaw22_NextLeast.j1 : Nat → Int → Int → Bool → Int → Int → Int → Int → Bool → Int → Bool → Int → Bool → Int → Bool → Int → Bool → Option (Bool)
 | 0, _, _, _, _, _, _, _, _, _, _, _, _, _, _, _, _ => none
 | k + 1, x1, x2, x7, x8, x9, x10, x232000, x232001, x232002, x232003, x232004, x232005, x232006, x232007, x232008, x232009 => (next_Count.f x232000 x232001 x232002 x232003 x232004 x232005 x232006 x232007 x232008 x232009 (wrap64 (x1 + 1)) x10).bind fun bt237 => (if bt237.2 = 0 then (if bt237.1 = 0 then (if x9 = 0 then (complinelaw22_NextLeast.j2 k x1 x2 x7 x10 false x232000 x232001 x232002 x232003 x232004 x232005 x232006 x232007 x232008 x232009) else (if x9 = 11 then (complinelaw22_NextLeast.j2 k x1 x2 x7 x10 (x8 != 0) x232000 x232001 x232002 x232003 x232004 x232005 x232006 x232007 x232008 x232009) else (complinelaw22_NextLeast.j2 k x1 x2 x7 x10 true x232000 x232001 x232002 x232003 x232004 x232005 x232006 x232007 x232008 x232009))) else (complinelaw22_NextLeast.j2 k x1 x2 x7 x10 true x232000 x232001 x232002 x232003 x232004 x232005 x232006 x232007 x232008 x232009)) else (complinelaw22_NextLeast.j2 k x1 x2 x7 x10 true x232000 x232001 x232002 x232003 x232004 x232005 x232006 x232007 x232008 x232009))
def complinelaw22_NextLeast.j2 : Nat → Int → Int → Bool → Int → Bool → Int → Bool → Int → Bool → Int → Bool → Int → Bool → Int → Bool → Option (Bool)
 | 0, _, _, _, _, _, _, _, _, _, _, _, _, _, _, _ => none
 | k + 1, x1, x2, x7, x10, x85, x232000, x232001, x232002, x232003, x232004, x232005, x232006, x232007, x232008, x232009 => if x85 = true then (some false) else (if x2 ≤ x1 then (some x7) else (if x2 ≥ x10 then (some x7) else ((day_Match.f x232000 x232001 x232002 x232003 x232004 x232005 x232006 x232007 x232008 x232009 x2).bind fun bt239 => (if x7 = true then (if bt239.1 = true then (some false) else (some (bt239.2 == 0))) else (some false)))))
end
def complinelaw22_NextLeast.f (k : Nat) (a0_0 : Int) (a0_1 : Bool) (a0_2 : Int) (a0_3 : Bool) (a0_4 : Int) (a0_5 : Bool) (a0_6 : Int) (a0_7 : Bool) (a0_8 : Int) (a0_9 : Bool) (a1 : Int) (a2 : Int) : Option (Bool) := (complinelaw22_works.f).bind fun t232 => (if t232 = true then (if a1 < 0 then (complinelaw22_NextLeast.j0 k a1 a2 t232 true a0_0 a0_1 a0_2 a0_3 a0_4 a0_5 a0_6 a0_7 a0_8 a0_9) else (complinelaw22_NextLeast.j0 k a1 a2 t232 (decide (a1 > 541727999)) a0_0 a0_1 a0_2 a0_3 a0_4 a0_5 a0_6 a0_7 a0_8 a0_9)) else (some false))
set_option maxHeartbeats 8000000 in
set_option maxRecDepth 100000 in
theorem complinelaw22_NextLeast.calls (k : Nat) (a0_0 : Int) (a0_1 : Bool) (a0_2 : Int) (a0_3 : Bool) (a0_4 : Int) (a0_5 : Bool) (a0_6 : Int) (a0_7 : Bool) (a0_8 : Int) (a0_9 : Bool) (a1 : Int) (a2 : Int) (r : Bool) (w : World) (hT : Tab w) (h : complinelaw22_NextLeast.f k a0_0 a0_1 a0_2 a0_3 a0_4 a0_5 a0_6 a0_7 a0_8 a0_9 a1 a2 = some r) :
  Calls Tryz.prog 6 #[.agg #[.int .u64 a0_0, .bool a0_1, .int .u64 a0_2, .bool a0_3, .int .u64 a0_4, .bool a0_5, .int .u64 a0_6, .bool a0_7, .int .u64 a0_8, .bool a0_9], .int .i64 a1, .int .i64 a2] w fun e w' => e = .returned (.bool r) ∧ Below w.heap.size w w' := by
 have hu26 := Tryz.underlying26
 have HB := Aside0.mk (Below.refl w.heap.size w)
 have H : ((complinelaw22_works.f).bind fun t232 => (if t232 = true then (if a1 < 0 then (complinelaw22_NextLeast.j0 k a1 a2 t232 true a0_0 a0_1 a0_2 a0_3 a0_4 a0_5 a0_6 a0_7 a0_8 a0_9) else (complinelaw22_NextLeast.j0 k a1 a2 t232 (decide (a1 > 541727999)) a0_0 a0_1 a0_2 a0_3 a0_4 a0_5 a0_6 a0_7 a0_8 a0_9)) else (some false))) = some r := h
 clear h
 replace H := Option.bind_eq_some_iff.mp H
 obtain ⟨t232, A40, H⟩ := H
 replace H : (if t232 = true then (if a1 < 0 then (complinelaw22_NextLeast.j0 k a1 a2 t232 true a0_0 a0_1 a0_2 a0_3 a0_4 a0_5 a0_6 a0_7 a0_8 a0_9) else (complinelaw22_NextLeast.j0 k a1 a2 t232 (decide (a1 > 541727999)) a0_0 a0_1 a0_2 a0_3 a0_4 a0_5 a0_6 a0_7 a0_8 a0_9)) else (some false)) = some r := H
 have A4 := Aside0.mk A40
 clear A40
 by_cases c5 : t232 = true
 ·subst c5
  have H1 : (if a1 < 0 then (complinelaw22_NextLeast.j0 k a1 a2 true true a0_0 a0_1 a0_2 a0_3 a0_4 a0_5 a0_6 a0_7 a0_8 a0_9) else (complinelaw22_NextLeast.j0 k a1 a2 true (decide (a1 > 541727999)) a0_0 a0_1 a0_2 a0_3 a0_4 a0_5 a0_6 a0_7 a0_8 a0_9)) = some r := by rw [if_pos rfl] at H; exact H
  clear H
  have H := H1
  clear H1
  have HC6 := Aside0.mk H
  clear H
  go_enter Tryz.func6, Tryz.ntmps6
  go_upto_region 4 with (first | ((with_reducible refine gate_dst (N := 3) rfl ?_); refine box_event ?hg (N := 3) ?hd (cs := #[.int .u64 a0_0, .bool a0_1, .int .u64 a0_2, .bool a0_3, .int .u64 a0_4, .bool a0_5, .int .u64 a0_6, .bool a0_7, .int .u64 a0_8, .bool a0_9]) (t := 26) ?hr ?_; (case hd => rfl); (case hg => rfl); (case hr => first | (go_simp; done) | (go_simp; rfl)); intro gb231 hg w7 hbox hb; have n0_ := Aside0.mk (below_step (by repeat (first | (with_reducible first | exact HB.out | apply below_alloc | apply pw_below_drewN | apply below_drew1) | exact HB.out)) hb); have n1_ := Aside0.mk (hbox); have n2_ := Aside0.mk ((by rw [hg]; exact (below_size (by repeat (first | (with_reducible first | exact HB.out | apply below_alloc | apply pw_below_drewN | apply below_drew1) | exact HB.out))) : w.heap.size ≤ gb231)); have n3_ := Aside0.mk ((by rw [hg]; exact (below_size (by repeat (first | (with_reducible first | exact HB.out | apply below_alloc | apply pw_below_drewN | apply below_drew1) | exact HB.out))) : w.heap.size ≤ gb231)); clear HB; have HB := n0_; have BK231 := n1_; have GW231 := n2_; have GE231 := n3_; clear n0_ n1_ n2_ n3_; clear hb hbox hg) | ((with_reducible refine gate_callee (f := 10) rfl ?_); refine goesL_ (some 17) rfl rfl Tryz.func10 (by kernel_rfl) rfl #[] rfl (by (try simp only [List.map_toArray, List.map_cons, List.map_nil]); first | done | rfl | (simp only [List.length_drop, List.length_take]; rfl)) ?_; (with_reducible refine (complinelaw22_works.calls  true _ (hT.keep (by repeat (first | (with_reducible first | exact HB.out | apply below_alloc | apply pw_below_drewN | apply below_drew1 | refine below_set ?_ GE231.out) | exact HB.out))) A4.out).mono ?_); rintro e w8 ⟨rfl, hb⟩; refine ⟨_, rfl, ?_⟩; have n0_ := Aside0.mk (blk_below (g := gb231) (o := .cells #[.int .u64 a0_0, .bool a0_1, .int .u64 a0_2, .bool a0_3, .int .u64 a0_4, .bool a0_5, .int .u64 a0_6, .bool a0_7, .int .u64 a0_8, .bool a0_9] 26 (0, 0)) (by (with_reducible repeat (first | refine blk_drewN ?_ _ | refine blk_drew ?_ | refine blk_alloc ?_ _)); exact BK231.out) hb); have n1_ := Aside0.mk (below_step (by repeat (first | (with_reducible first | exact HB.out | apply below_alloc | apply pw_below_drewN | apply below_drew1 | refine below_set ?_ GE231.out) | exact HB.out)) hb); clear BK231; clear HB; have BK231 := n0_; have HB := n1_; clear n0_ n1_; (try clear hb); (try clear hb2); (try clear hk); (try clear hi)))
  (try simp only [Act.put, List.setIfInBounds_toArray, List.set_cons_zero, List.set_cons_succ])
  go_cut [25] (fun v25 wc => ∃ (kq : Nat) (x25_5 : Bool), v25 = .bool x25_5 ∧ Aside0 (complinelaw22_NextLeast.j0 kq a1 a2 true x25_5 a0_0 a0_1 a0_2 a0_3 a0_4 a0_5 a0_6 a0_7 a0_8 a0_9 = some r) ∧ Aside0 (kq ≤ k) ∧ Aside0 (wc.heap[gb231]? = some (.cells #[.int .u64 a0_0, .bool a0_1, .int .u64 a0_2, .bool a0_3, .int .u64 a0_4, .bool a0_5, .int .u64 a0_6, .bool a0_7, .int .u64 a0_8, .bool a0_9] 26 (0, 0))) ∧ Aside0 (Below w.heap.size w wc))
  case first =>
   have H := HC6.out
   clear HC6
   by_cases c9 : a1 < 0
   ·rw [if_pos c9] at H
    have c9b0 : decide (a1 < 0) = true := decide_eq_true c9
    clear c9
    (first | rw [c9b0] | (simp only [i64_w, i32_w]; rw [c9b0]) | skip)
    have H' := Aside0.mk H
    clear H
    go_wp2
    go_meet
    case rel => exact ⟨_, (true), (by first | rfl | (simp; done) | (simp [*]; done)), H', ⟨by first | omega | exact Nat.le_refl _⟩, ⟨by (with_reducible repeat (first | refine blk_drewN ?_ _ | refine blk_drew ?_ | refine blk_alloc ?_ _)); exact BK231.out⟩, ⟨by repeat (first | (with_reducible first | exact HB.out | apply below_alloc | apply pw_below_drewN | apply below_drew1 | refine below_set ?_ GE231.out) | exact HB.out)⟩⟩
   ·rw [if_neg c9] at H
    have c9b0 : decide (a1 < 0) = false := decide_eq_false c9
    clear c9
    (first | rw [c9b0] | (simp only [i64_w, i32_w]; rw [c9b0]) | skip)
    have H' := Aside0.mk H
    clear H
    go_wp2
    go_meet
    case rel => exact ⟨_, (decide (a1 > 541727999)), (by first | rfl | (simp; done) | (simp [*]; done)), H', ⟨by first | omega | exact Nat.le_refl _⟩, ⟨by (with_reducible repeat (first | refine blk_drewN ?_ _ | refine blk_drew ?_ | refine blk_alloc ?_ _)); exact BK231.out⟩, ⟨by repeat (first | (with_reducible first | exact HB.out | apply below_alloc | apply pw_below_drewN | apply below_drew1 | refine below_set ?_ GE231.out) | exact HB.out)⟩⟩
  case rest =>
   clear HC6
   try clear c1
   try clear p2
   try clear c5
   try clear c6
   try clear c9
   try clear c9b0
   obtain ⟨kq, x25_5, rfl, HA, HJ5, BK231, HB⟩ := hcut
   cases kq with
   | zero => exact absurd HA.out (by simp [complinelaw22_NextLeast.j0])
   | succ kj5 =>
    have H := HA.out
    clear HA
    simp only [complinelaw22_NextLeast.j0] at H
    by_cases c10 : x25_5 = true
    ·subst c10
     have H1 : (some true) = some r := by rw [if_pos rfl] at H; exact H
     clear H
     have H := H1
     clear H1
     obtain rfl := Option.some.inj H
     go_wp2
     go_ret
     exact ⟨by first | rfl | (simp [errW_none, errW_some] <;> rfl) | (simp [*, errW_none, errW_some] <;> rfl), by repeat (first | (with_reducible first | exact HB.out | apply below_alloc | apply pw_below_drewN | apply below_drew1 | refine below_set ?_ GE231.out) | exact HB.out)⟩
    ·replace c10 := Bool.eq_false_iff.mpr c10
     subst c10
     have H1 : ((next_Next.f a0_0 a0_1 a0_2 a0_3 a0_4 a0_5 a0_6 a0_7 a0_8 a0_9 a1).bind fun bt233 => (if bt233.2 = 2 then (if true = true then (some (bt233.1 == 0)) else (some false)) else (if bt233.2 = 0 then ((day_Match.f a0_0 a0_1 a0_2 a0_3 a0_4 a0_5 a0_6 a0_7 a0_8 a0_9 bt233.1).bind fun bt235 => (if bt233.1 ≤ a1 then (some false) else (if bt235.1 = true then (if bt235.2 = 0 then (complinelaw22_NextLeast.j1 kj5 a1 a2 true bt233.1 bt233.2 bt233.1 a0_0 a0_1 a0_2 a0_3 a0_4 a0_5 a0_6 a0_7 a0_8 a0_9) else (some false)) else (some false)))) else (complinelaw22_NextLeast.j1 kj5 a1 a2 true bt233.1 bt233.2 541728000 a0_0 a0_1 a0_2 a0_3 a0_4 a0_5 a0_6 a0_7 a0_8 a0_9)))) = some r := by rw [if_neg (show ¬ (false = true) by decide)] at H; exact H
     clear H
     have H := H1
     clear H1
     replace H := Option.bind_eq_some_iff.mp H
     obtain ⟨⟨t233, t234⟩, A110, H⟩ := H
     replace H : (if t234 = 2 then (if true = true then (some (t233 == 0)) else (some false)) else (if t234 = 0 then ((day_Match.f a0_0 a0_1 a0_2 a0_3 a0_4 a0_5 a0_6 a0_7 a0_8 a0_9 t233).bind fun bt235 => (if t233 ≤ a1 then (some false) else (if bt235.1 = true then (if bt235.2 = 0 then (complinelaw22_NextLeast.j1 kj5 a1 a2 true t233 t234 t233 a0_0 a0_1 a0_2 a0_3 a0_4 a0_5 a0_6 a0_7 a0_8 a0_9) else (some false)) else (some false)))) else (complinelaw22_NextLeast.j1 kj5 a1 a2 true t233 t234 541728000 a0_0 a0_1 a0_2 a0_3 a0_4 a0_5 a0_6 a0_7 a0_8 a0_9))) = some r := H
     have A11 := Aside0.mk A110
     clear A110
     by_cases c12 : t234 = 2
     ·rw [if_pos c12] at H
      have c12b0 : (t234 == 2) = true := beq_iff_eq.mpr c12
      have c12b1 : (t234 != 2) = false := bne_eq_false_iff_eq.mpr c12
      clear c12
      by_cases c13 : true = true
      ·clear c13
       have H1 : (some (t233 == 0)) = some r := by rw [if_pos rfl] at H; exact H
       clear H
       have H := H1
       clear H1
       obtain rfl := Option.some.inj H
       have hcz14_0 : wc.cell? ⟨gb231, 0, none⟩ = some (.int .u64 a0_0) := (blk_cell BK231.out 0).trans rfl
       have hcz14_1 : wc.cell? ⟨gb231, 1, none⟩ = some (.bool a0_1) := (blk_cell BK231.out 1).trans rfl
       have hcz14_2 : wc.cell? ⟨gb231, 2, none⟩ = some (.int .u64 a0_2) := (blk_cell BK231.out 2).trans rfl
       have hcz14_3 : wc.cell? ⟨gb231, 3, none⟩ = some (.bool a0_3) := (blk_cell BK231.out 3).trans rfl
       have hcz14_4 : wc.cell? ⟨gb231, 4, none⟩ = some (.int .u64 a0_4) := (blk_cell BK231.out 4).trans rfl
       have hcz14_5 : wc.cell? ⟨gb231, 5, none⟩ = some (.bool a0_5) := (blk_cell BK231.out 5).trans rfl
       have hcz14_6 : wc.cell? ⟨gb231, 6, none⟩ = some (.int .u64 a0_6) := (blk_cell BK231.out 6).trans rfl
       have hcz14_7 : wc.cell? ⟨gb231, 7, none⟩ = some (.bool a0_7) := (blk_cell BK231.out 7).trans rfl
       have hcz14_8 : wc.cell? ⟨gb231, 8, none⟩ = some (.int .u64 a0_8) := (blk_cell BK231.out 8).trans rfl
       have hcz14_9 : wc.cell? ⟨gb231, 9, none⟩ = some (.bool a0_9) := (blk_cell BK231.out 9).trans rfl
       have hfz14_0 := blk_frozen BK231.out 0
       have hfz14_1 := blk_frozen BK231.out 1
       have hfz14_2 := blk_frozen BK231.out 2
       have hfz14_3 := blk_frozen BK231.out 3
       have hfz14_4 := blk_frozen BK231.out 4
       have hfz14_5 := blk_frozen BK231.out 5
       have hfz14_6 := blk_frozen BK231.out 6
       have hfz14_7 := blk_frozen BK231.out 7
       have hfz14_8 := blk_frozen BK231.out 8
       have hfz14_9 := blk_frozen BK231.out 9
       go_wp2_with (first | ((with_reducible refine gate_callee (f := 11) rfl ?_); refine goesL_ (some 30) rfl rfl Tryz.func11 (by kernel_rfl) rfl #[.agg #[.int .u64 a0_0, .bool a0_1, .int .u64 a0_2, .bool a0_3, .int .u64 a0_4, .bool a0_5, .int .u64 a0_6, .bool a0_7, .int .u64 a0_8, .bool a0_9], .int .i64 a1] rfl (by (try simp only [List.map_toArray, List.map_cons, List.map_nil]); first | done | rfl | (simp only [List.length_drop, List.length_take]; rfl)) ?_; (with_reducible refine (next_Next.calls a0_0 a0_1 a0_2 a0_3 a0_4 a0_5 a0_6 a0_7 a0_8 a0_9 a1 t233 t234 _ (hT.keep (by repeat (first | (with_reducible first | exact HB.out | apply below_alloc | apply pw_below_drewN | apply below_drew1 | refine below_set ?_ GE231.out) | exact HB.out))) A11.out).mono ?_); rintro e w15 ⟨rfl, hb⟩; refine ⟨_, rfl, ?_⟩; have n0_ := Aside0.mk (blk_below (g := gb231) (o := .cells #[.int .u64 a0_0, .bool a0_1, .int .u64 a0_2, .bool a0_3, .int .u64 a0_4, .bool a0_5, .int .u64 a0_6, .bool a0_7, .int .u64 a0_8, .bool a0_9] 26 (0, 0)) (by (with_reducible repeat (first | refine blk_drewN ?_ _ | refine blk_drew ?_ | refine blk_alloc ?_ _)); exact BK231.out) hb); have n1_ := Aside0.mk (below_step (by repeat (first | (with_reducible first | exact HB.out | apply below_alloc | apply pw_below_drewN | apply below_drew1 | refine below_set ?_ GE231.out) | exact HB.out)) hb); clear BK231; clear HB; have BK231 := n0_; have HB := n1_; clear n0_ n1_; (try clear hb); (try clear hb2); (try clear hk); (try clear hi)))
       go_ret
       exact ⟨by first | rfl | (simp [errW_none, errW_some] <;> rfl) | (simp [*, errW_none, errW_some] <;> rfl), by repeat (first | (with_reducible first | exact HB.out | apply below_alloc | apply pw_below_drewN | apply below_drew1 | refine below_set ?_ GE231.out) | exact HB.out)⟩
      ·exact absurd rfl c13
     ·rw [if_neg c12] at H
      have c12b0 : (t234 == 2) = false := beq_eq_false_iff_ne.mpr c12
      have c12b1 : (t234 != 2) = true := bne_iff_ne.mpr c12
      have HC18 := Aside0.mk H
      clear H
      have hcz19_0 : wc.cell? ⟨gb231, 0, none⟩ = some (.int .u64 a0_0) := (blk_cell BK231.out 0).trans rfl
      have hcz19_1 : wc.cell? ⟨gb231, 1, none⟩ = some (.bool a0_1) := (blk_cell BK231.out 1).trans rfl
      have hcz19_2 : wc.cell? ⟨gb231, 2, none⟩ = some (.int .u64 a0_2) := (blk_cell BK231.out 2).trans rfl
      have hcz19_3 : wc.cell? ⟨gb231, 3, none⟩ = some (.bool a0_3) := (blk_cell BK231.out 3).trans rfl
      have hcz19_4 : wc.cell? ⟨gb231, 4, none⟩ = some (.int .u64 a0_4) := (blk_cell BK231.out 4).trans rfl
      have hcz19_5 : wc.cell? ⟨gb231, 5, none⟩ = some (.bool a0_5) := (blk_cell BK231.out 5).trans rfl
      have hcz19_6 : wc.cell? ⟨gb231, 6, none⟩ = some (.int .u64 a0_6) := (blk_cell BK231.out 6).trans rfl
      have hcz19_7 : wc.cell? ⟨gb231, 7, none⟩ = some (.bool a0_7) := (blk_cell BK231.out 7).trans rfl
      have hcz19_8 : wc.cell? ⟨gb231, 8, none⟩ = some (.int .u64 a0_8) := (blk_cell BK231.out 8).trans rfl
      have hcz19_9 : wc.cell? ⟨gb231, 9, none⟩ = some (.bool a0_9) := (blk_cell BK231.out 9).trans rfl
      have hfz19_0 := blk_frozen BK231.out 0
      have hfz19_1 := blk_frozen BK231.out 1
      have hfz19_2 := blk_frozen BK231.out 2
      have hfz19_3 := blk_frozen BK231.out 3
      have hfz19_4 := blk_frozen BK231.out 4
      have hfz19_5 := blk_frozen BK231.out 5
      have hfz19_6 := blk_frozen BK231.out 6
      have hfz19_7 := blk_frozen BK231.out 7
      have hfz19_8 := blk_frozen BK231.out 8
      have hfz19_9 := blk_frozen BK231.out 9
      go_upto_if 41 with (first | ((with_reducible refine gate_callee (f := 11) rfl ?_); refine goesL_ (some 30) rfl rfl Tryz.func11 (by kernel_rfl) rfl #[.agg #[.int .u64 a0_0, .bool a0_1, .int .u64 a0_2, .bool a0_3, .int .u64 a0_4, .bool a0_5, .int .u64 a0_6, .bool a0_7, .int .u64 a0_8, .bool a0_9], .int .i64 a1] rfl (by (try simp only [List.map_toArray, List.map_cons, List.map_nil]); first | done | rfl | (simp only [List.length_drop, List.length_take]; rfl)) ?_; (with_reducible refine (next_Next.calls a0_0 a0_1 a0_2 a0_3 a0_4 a0_5 a0_6 a0_7 a0_8 a0_9 a1 t233 t234 _ (hT.keep (by repeat (first | (with_reducible first | exact HB.out | apply below_alloc | apply pw_below_drewN | apply below_drew1 | refine below_set ?_ GE231.out) | exact HB.out))) A11.out).mono ?_); rintro e w20 ⟨rfl, hb⟩; refine ⟨_, rfl, ?_⟩; have n0_ := Aside0.mk (blk_below (g := gb231) (o := .cells #[.int .u64 a0_0, .bool a0_1, .int .u64 a0_2, .bool a0_3, .int .u64 a0_4, .bool a0_5, .int .u64 a0_6, .bool a0_7, .int .u64 a0_8, .bool a0_9] 26 (0, 0)) (by (with_reducible repeat (first | refine blk_drewN ?_ _ | refine blk_drew ?_ | refine blk_alloc ?_ _)); exact BK231.out) hb); have n1_ := Aside0.mk (below_step (by repeat (first | (with_reducible first | exact HB.out | apply below_alloc | apply pw_below_drewN | apply below_drew1 | refine below_set ?_ GE231.out) | exact HB.out)) hb); clear BK231; clear HB; have BK231 := n0_; have HB := n1_; clear n0_ n1_; (try clear hb); (try clear hb2); (try clear hk); (try clear hi)))
      (try simp only [Act.put, List.setIfInBounds_toArray, List.set_cons_zero, List.set_cons_succ])
      go_cut [10] (fun v10 wc => ∃ (kq : Nat) (x10_17 : Int), v10 = .int .i64 x10_17 ∧ Aside0 (complinelaw22_NextLeast.j1 kq a1 a2 true t233 t234 x10_17 a0_0 a0_1 a0_2 a0_3 a0_4 a0_5 a0_6 a0_7 a0_8 a0_9 = some r) ∧ Aside0 (kq ≤ kj5) ∧ Aside0 (wc.heap[gb231]? = some (.cells #[.int .u64 a0_0, .bool a0_1, .int .u64 a0_2, .bool a0_3, .int .u64 a0_4, .bool a0_5, .int .u64 a0_6, .bool a0_7, .int .u64 a0_8, .bool a0_9] 26 (0, 0))) ∧ Aside0 (Below w.heap.size w wc))
      case first =>
       have H := HC18.out
       clear HC18
       by_cases c21 : t234 = 0
       ·rw [if_pos c21] at H
        have c21b0 : (t234 == 0) = true := beq_iff_eq.mpr c21
        have c21b1 : (t234 != 0) = false := bne_eq_false_iff_eq.mpr c21
        clear c21
        (first | rw [c21b0] | (simp only [i64_w, i32_w]; rw [c21b0]) | skip)
        replace H := Option.bind_eq_some_iff.mp H
        obtain ⟨⟨t235, t236⟩, A220, H⟩ := H
        replace H : (if t233 ≤ a1 then (some false) else (if t235 = true then (if t236 = 0 then (complinelaw22_NextLeast.j1 kj5 a1 a2 true t233 t234 t233 a0_0 a0_1 a0_2 a0_3 a0_4 a0_5 a0_6 a0_7 a0_8 a0_9) else (some false)) else (some false))) = some r := H
        have A22 := Aside0.mk A220
        clear A220
        by_cases c23 : t233 ≤ a1
        ·rw [if_pos c23] at H
         have c23b0 : decide (t233 ≤ a1) = true := decide_eq_true c23
         clear c23
         obtain rfl := Option.some.inj H
         have hcz24_0 : w20.cell? ⟨gb231, 0, none⟩ = some (.int .u64 a0_0) := (blk_cell BK231.out 0).trans rfl
         have hcz24_1 : w20.cell? ⟨gb231, 1, none⟩ = some (.bool a0_1) := (blk_cell BK231.out 1).trans rfl
         have hcz24_2 : w20.cell? ⟨gb231, 2, none⟩ = some (.int .u64 a0_2) := (blk_cell BK231.out 2).trans rfl
         have hcz24_3 : w20.cell? ⟨gb231, 3, none⟩ = some (.bool a0_3) := (blk_cell BK231.out 3).trans rfl
         have hcz24_4 : w20.cell? ⟨gb231, 4, none⟩ = some (.int .u64 a0_4) := (blk_cell BK231.out 4).trans rfl
         have hcz24_5 : w20.cell? ⟨gb231, 5, none⟩ = some (.bool a0_5) := (blk_cell BK231.out 5).trans rfl
         have hcz24_6 : w20.cell? ⟨gb231, 6, none⟩ = some (.int .u64 a0_6) := (blk_cell BK231.out 6).trans rfl
         have hcz24_7 : w20.cell? ⟨gb231, 7, none⟩ = some (.bool a0_7) := (blk_cell BK231.out 7).trans rfl
         have hcz24_8 : w20.cell? ⟨gb231, 8, none⟩ = some (.int .u64 a0_8) := (blk_cell BK231.out 8).trans rfl
         have hcz24_9 : w20.cell? ⟨gb231, 9, none⟩ = some (.bool a0_9) := (blk_cell BK231.out 9).trans rfl
         have hfz24_0 := blk_frozen BK231.out 0
         have hfz24_1 := blk_frozen BK231.out 1
         have hfz24_2 := blk_frozen BK231.out 2
         have hfz24_3 := blk_frozen BK231.out 3
         have hfz24_4 := blk_frozen BK231.out 4
         have hfz24_5 := blk_frozen BK231.out 5
         have hfz24_6 := blk_frozen BK231.out 6
         have hfz24_7 := blk_frozen BK231.out 7
         have hfz24_8 := blk_frozen BK231.out 8
         have hfz24_9 := blk_frozen BK231.out 9
         go_wp2_with (first | ((with_reducible refine gate_callee (f := 17) rfl ?_); refine goesL_ (some 45) rfl rfl Tryz.func17 (by kernel_rfl) rfl #[.agg #[.int .u64 a0_0, .bool a0_1, .int .u64 a0_2, .bool a0_3, .int .u64 a0_4, .bool a0_5, .int .u64 a0_6, .bool a0_7, .int .u64 a0_8, .bool a0_9], .int .i64 t233] rfl (by (try simp only [List.map_toArray, List.map_cons, List.map_nil]); first | done | rfl | (simp only [List.length_drop, List.length_take]; rfl)) ?_; (with_reducible refine (day_Match.calls a0_0 a0_1 a0_2 a0_3 a0_4 a0_5 a0_6 a0_7 a0_8 a0_9 t233 t235 t236 _ A22.out).mono ?_); rintro e w25 ⟨rfl, hb⟩; refine ⟨_, rfl, ?_⟩; have n0_ := Aside0.mk (blk_below (g := gb231) (o := .cells #[.int .u64 a0_0, .bool a0_1, .int .u64 a0_2, .bool a0_3, .int .u64 a0_4, .bool a0_5, .int .u64 a0_6, .bool a0_7, .int .u64 a0_8, .bool a0_9] 26 (0, 0)) (by (with_reducible repeat (first | refine blk_drewN ?_ _ | refine blk_drew ?_ | refine blk_alloc ?_ _)); exact BK231.out) hb); have n1_ := Aside0.mk (below_step (by repeat (first | (with_reducible first | exact HB.out | apply below_alloc | apply pw_below_drewN | apply below_drew1 | refine below_set ?_ GE231.out) | exact HB.out)) hb); clear BK231; clear HB; have BK231 := n0_; have HB := n1_; clear n0_ n1_; (try clear hb); (try clear hb2); (try clear hk); (try clear hi)))
         go_ret
         exact ⟨by first | rfl | (simp [errW_none, errW_some] <;> rfl) | (simp [*, errW_none, errW_some] <;> rfl), by repeat (first | (with_reducible first | exact HB.out | apply below_alloc | apply pw_below_drewN | apply below_drew1 | refine below_set ?_ GE231.out) | exact HB.out)⟩
        ·rw [if_neg c23] at H
         have c23b0 : decide (t233 ≤ a1) = false := decide_eq_false c23
         clear c23
         by_cases c26 : t235 = true
         ·subst c26
          have H1 : (if t236 = 0 then (complinelaw22_NextLeast.j1 kj5 a1 a2 true t233 t234 t233 a0_0 a0_1 a0_2 a0_3 a0_4 a0_5 a0_6 a0_7 a0_8 a0_9) else (some false)) = some r := by rw [if_pos rfl] at H; exact H
          clear H
          have H := H1
          clear H1
          by_cases c27 : t236 = 0
          ·rw [if_pos c27] at H
           have c27b0 : (t236 == 0) = true := beq_iff_eq.mpr c27
           have c27b1 : (t236 != 0) = false := bne_eq_false_iff_eq.mpr c27
           clear c27
           have H' := Aside0.mk H
           clear H
           have hcz28_0 : w20.cell? ⟨gb231, 0, none⟩ = some (.int .u64 a0_0) := (blk_cell BK231.out 0).trans rfl
           have hcz28_1 : w20.cell? ⟨gb231, 1, none⟩ = some (.bool a0_1) := (blk_cell BK231.out 1).trans rfl
           have hcz28_2 : w20.cell? ⟨gb231, 2, none⟩ = some (.int .u64 a0_2) := (blk_cell BK231.out 2).trans rfl
           have hcz28_3 : w20.cell? ⟨gb231, 3, none⟩ = some (.bool a0_3) := (blk_cell BK231.out 3).trans rfl
           have hcz28_4 : w20.cell? ⟨gb231, 4, none⟩ = some (.int .u64 a0_4) := (blk_cell BK231.out 4).trans rfl
           have hcz28_5 : w20.cell? ⟨gb231, 5, none⟩ = some (.bool a0_5) := (blk_cell BK231.out 5).trans rfl
           have hcz28_6 : w20.cell? ⟨gb231, 6, none⟩ = some (.int .u64 a0_6) := (blk_cell BK231.out 6).trans rfl
           have hcz28_7 : w20.cell? ⟨gb231, 7, none⟩ = some (.bool a0_7) := (blk_cell BK231.out 7).trans rfl
           have hcz28_8 : w20.cell? ⟨gb231, 8, none⟩ = some (.int .u64 a0_8) := (blk_cell BK231.out 8).trans rfl
           have hcz28_9 : w20.cell? ⟨gb231, 9, none⟩ = some (.bool a0_9) := (blk_cell BK231.out 9).trans rfl
           have hfz28_0 := blk_frozen BK231.out 0
           have hfz28_1 := blk_frozen BK231.out 1
           have hfz28_2 := blk_frozen BK231.out 2
           have hfz28_3 := blk_frozen BK231.out 3
           have hfz28_4 := blk_frozen BK231.out 4
           have hfz28_5 := blk_frozen BK231.out 5
           have hfz28_6 := blk_frozen BK231.out 6
           have hfz28_7 := blk_frozen BK231.out 7
           have hfz28_8 := blk_frozen BK231.out 8
           have hfz28_9 := blk_frozen BK231.out 9
           go_wp2_with (first | ((with_reducible refine gate_callee (f := 17) rfl ?_); refine goesL_ (some 45) rfl rfl Tryz.func17 (by kernel_rfl) rfl #[.agg #[.int .u64 a0_0, .bool a0_1, .int .u64 a0_2, .bool a0_3, .int .u64 a0_4, .bool a0_5, .int .u64 a0_6, .bool a0_7, .int .u64 a0_8, .bool a0_9], .int .i64 t233] rfl (by (try simp only [List.map_toArray, List.map_cons, List.map_nil]); first | done | rfl | (simp only [List.length_drop, List.length_take]; rfl)) ?_; (with_reducible refine (day_Match.calls a0_0 a0_1 a0_2 a0_3 a0_4 a0_5 a0_6 a0_7 a0_8 a0_9 t233 true t236 _ A22.out).mono ?_); rintro e w29 ⟨rfl, hb⟩; refine ⟨_, rfl, ?_⟩; have n0_ := Aside0.mk (blk_below (g := gb231) (o := .cells #[.int .u64 a0_0, .bool a0_1, .int .u64 a0_2, .bool a0_3, .int .u64 a0_4, .bool a0_5, .int .u64 a0_6, .bool a0_7, .int .u64 a0_8, .bool a0_9] 26 (0, 0)) (by (with_reducible repeat (first | refine blk_drewN ?_ _ | refine blk_drew ?_ | refine blk_alloc ?_ _)); exact BK231.out) hb); have n1_ := Aside0.mk (below_step (by repeat (first | (with_reducible first | exact HB.out | apply below_alloc | apply pw_below_drewN | apply below_drew1 | refine below_set ?_ GE231.out) | exact HB.out)) hb); clear BK231; clear HB; have BK231 := n0_; have HB := n1_; clear n0_ n1_; (try clear hb); (try clear hb2); (try clear hk); (try clear hi)))
           go_meet
           case rel => exact ⟨_, (t233), (by first | rfl | (simp; done) | (simp [*]; done)), H', ⟨by have := HJ5.out; first | omega | exact Nat.le_refl _⟩, ⟨by (with_reducible repeat (first | refine blk_drewN ?_ _ | refine blk_drew ?_ | refine blk_alloc ?_ _)); exact BK231.out⟩, ⟨by repeat (first | (with_reducible first | exact HB.out | apply below_alloc | apply pw_below_drewN | apply below_drew1 | refine below_set ?_ GE231.out) | exact HB.out)⟩⟩
          ·rw [if_neg c27] at H
           have c27b0 : (t236 == 0) = false := beq_eq_false_iff_ne.mpr c27
           have c27b1 : (t236 != 0) = true := bne_iff_ne.mpr c27
           obtain rfl := Option.some.inj H
           have hcz30_0 : w20.cell? ⟨gb231, 0, none⟩ = some (.int .u64 a0_0) := (blk_cell BK231.out 0).trans rfl
           have hcz30_1 : w20.cell? ⟨gb231, 1, none⟩ = some (.bool a0_1) := (blk_cell BK231.out 1).trans rfl
           have hcz30_2 : w20.cell? ⟨gb231, 2, none⟩ = some (.int .u64 a0_2) := (blk_cell BK231.out 2).trans rfl
           have hcz30_3 : w20.cell? ⟨gb231, 3, none⟩ = some (.bool a0_3) := (blk_cell BK231.out 3).trans rfl
           have hcz30_4 : w20.cell? ⟨gb231, 4, none⟩ = some (.int .u64 a0_4) := (blk_cell BK231.out 4).trans rfl
           have hcz30_5 : w20.cell? ⟨gb231, 5, none⟩ = some (.bool a0_5) := (blk_cell BK231.out 5).trans rfl
           have hcz30_6 : w20.cell? ⟨gb231, 6, none⟩ = some (.int .u64 a0_6) := (blk_cell BK231.out 6).trans rfl
           have hcz30_7 : w20.cell? ⟨gb231, 7, none⟩ = some (.bool a0_7) := (blk_cell BK231.out 7).trans rfl
           have hcz30_8 : w20.cell? ⟨gb231, 8, none⟩ = some (.int .u64 a0_8) := (blk_cell BK231.out 8).trans rfl
           have hcz30_9 : w20.cell? ⟨gb231, 9, none⟩ = some (.bool a0_9) := (blk_cell BK231.out 9).trans rfl
           have hfz30_0 := blk_frozen BK231.out 0
           have hfz30_1 := blk_frozen BK231.out 1
           have hfz30_2 := blk_frozen BK231.out 2
           have hfz30_3 := blk_frozen BK231.out 3
           have hfz30_4 := blk_frozen BK231.out 4
           have hfz30_5 := blk_frozen BK231.out 5
           have hfz30_6 := blk_frozen BK231.out 6
           have hfz30_7 := blk_frozen BK231.out 7
           have hfz30_8 := blk_frozen BK231.out 8
           have hfz30_9 := blk_frozen BK231.out 9
           go_wp2_with (first | ((with_reducible refine gate_callee (f := 17) rfl ?_); refine goesL_ (some 45) rfl rfl Tryz.func17 (by kernel_rfl) rfl #[.agg #[.int .u64 a0_0, .bool a0_1, .int .u64 a0_2, .bool a0_3, .int .u64 a0_4, .bool a0_5, .int .u64 a0_6, .bool a0_7, .int .u64 a0_8, .bool a0_9], .int .i64 t233] rfl (by (try simp only [List.map_toArray, List.map_cons, List.map_nil]); first | done | rfl | (simp only [List.length_drop, List.length_take]; rfl)) ?_; (with_reducible refine (day_Match.calls a0_0 a0_1 a0_2 a0_3 a0_4 a0_5 a0_6 a0_7 a0_8 a0_9 t233 true t236 _ A22.out).mono ?_); rintro e w31 ⟨rfl, hb⟩; refine ⟨_, rfl, ?_⟩; have n0_ := Aside0.mk (blk_below (g := gb231) (o := .cells #[.int .u64 a0_0, .bool a0_1, .int .u64 a0_2, .bool a0_3, .int .u64 a0_4, .bool a0_5, .int .u64 a0_6, .bool a0_7, .int .u64 a0_8, .bool a0_9] 26 (0, 0)) (by (with_reducible repeat (first | refine blk_drewN ?_ _ | refine blk_drew ?_ | refine blk_alloc ?_ _)); exact BK231.out) hb); have n1_ := Aside0.mk (below_step (by repeat (first | (with_reducible first | exact HB.out | apply below_alloc | apply pw_below_drewN | apply below_drew1 | refine below_set ?_ GE231.out) | exact HB.out)) hb); clear BK231; clear HB; have BK231 := n0_; have HB := n1_; clear n0_ n1_; (try clear hb); (try clear hb2); (try clear hk); (try clear hi)))
           go_ret
           exact ⟨by first | rfl | (simp [errW_none, errW_some] <;> rfl) | (simp [*, errW_none, errW_some] <;> rfl), by repeat (first | (with_reducible first | exact HB.out | apply below_alloc | apply pw_below_drewN | apply below_drew1 | refine below_set ?_ GE231.out) | exact HB.out)⟩
         ·replace c26 := Bool.eq_false_iff.mpr c26
          subst c26
          have H1 : (some false) = some r := by rw [if_neg (show ¬ (false = true) by decide)] at H; exact H
          clear H
          have H := H1
          clear H1
          obtain rfl := Option.some.inj H
          have hcz32_0 : w20.cell? ⟨gb231, 0, none⟩ = some (.int .u64 a0_0) := (blk_cell BK231.out 0).trans rfl
          have hcz32_1 : w20.cell? ⟨gb231, 1, none⟩ = some (.bool a0_1) := (blk_cell BK231.out 1).trans rfl
          have hcz32_2 : w20.cell? ⟨gb231, 2, none⟩ = some (.int .u64 a0_2) := (blk_cell BK231.out 2).trans rfl
          have hcz32_3 : w20.cell? ⟨gb231, 3, none⟩ = some (.bool a0_3) := (blk_cell BK231.out 3).trans rfl
          have hcz32_4 : w20.cell? ⟨gb231, 4, none⟩ = some (.int .u64 a0_4) := (blk_cell BK231.out 4).trans rfl
          have hcz32_5 : w20.cell? ⟨gb231, 5, none⟩ = some (.bool a0_5) := (blk_cell BK231.out 5).trans rfl
          have hcz32_6 : w20.cell? ⟨gb231, 6, none⟩ = some (.int .u64 a0_6) := (blk_cell BK231.out 6).trans rfl
          have hcz32_7 : w20.cell? ⟨gb231, 7, none⟩ = some (.bool a0_7) := (blk_cell BK231.out 7).trans rfl
          have hcz32_8 : w20.cell? ⟨gb231, 8, none⟩ = some (.int .u64 a0_8) := (blk_cell BK231.out 8).trans rfl
          have hcz32_9 : w20.cell? ⟨gb231, 9, none⟩ = some (.bool a0_9) := (blk_cell BK231.out 9).trans rfl
          have hfz32_0 := blk_frozen BK231.out 0
          have hfz32_1 := blk_frozen BK231.out 1
          have hfz32_2 := blk_frozen BK231.out 2
          have hfz32_3 := blk_frozen BK231.out 3
          have hfz32_4 := blk_frozen BK231.out 4
          have hfz32_5 := blk_frozen BK231.out 5
          have hfz32_6 := blk_frozen BK231.out 6
          have hfz32_7 := blk_frozen BK231.out 7
          have hfz32_8 := blk_frozen BK231.out 8
          have hfz32_9 := blk_frozen BK231.out 9
          go_wp2_with (first | ((with_reducible refine gate_callee (f := 17) rfl ?_); refine goesL_ (some 45) rfl rfl Tryz.func17 (by kernel_rfl) rfl #[.agg #[.int .u64 a0_0, .bool a0_1, .int .u64 a0_2, .bool a0_3, .int .u64 a0_4, .bool a0_5, .int .u64 a0_6, .bool a0_7, .int .u64 a0_8, .bool a0_9], .int .i64 t233] rfl (by (try simp only [List.map_toArray, List.map_cons, List.map_nil]); first | done | rfl | (simp only [List.length_drop, List.length_take]; rfl)) ?_; (with_reducible refine (day_Match.calls a0_0 a0_1 a0_2 a0_3 a0_4 a0_5 a0_6 a0_7 a0_8 a0_9 t233 false t236 _ A22.out).mono ?_); rintro e w33 ⟨rfl, hb⟩; refine ⟨_, rfl, ?_⟩; have n0_ := Aside0.mk (blk_below (g := gb231) (o := .cells #[.int .u64 a0_0, .bool a0_1, .int .u64 a0_2, .bool a0_3, .int .u64 a0_4, .bool a0_5, .int .u64 a0_6, .bool a0_7, .int .u64 a0_8, .bool a0_9] 26 (0, 0)) (by (with_reducible repeat (first | refine blk_drewN ?_ _ | refine blk_drew ?_ | refine blk_alloc ?_ _)); exact BK231.out) hb); have n1_ := Aside0.mk (below_step (by repeat (first | (with_reducible first | exact HB.out | apply below_alloc | apply pw_below_drewN | apply below_drew1 | refine below_set ?_ GE231.out) | exact HB.out)) hb); clear BK231; clear HB; have BK231 := n0_; have HB := n1_; clear n0_ n1_; (try clear hb); (try clear hb2); (try clear hk); (try clear hi)))
          go_ret
          exact ⟨by first | rfl | (simp [errW_none, errW_some] <;> rfl) | (simp [*, errW_none, errW_some] <;> rfl), by repeat (first | (with_reducible first | exact HB.out | apply below_alloc | apply pw_below_drewN | apply below_drew1 | refine below_set ?_ GE231.out) | exact HB.out)⟩
       ·rw [if_neg c21] at H
        have c21b0 : (t234 == 0) = false := beq_eq_false_iff_ne.mpr c21
        have c21b1 : (t234 != 0) = true := bne_iff_ne.mpr c21
        (first | rw [c21b0] | (simp only [i64_w, i32_w]; rw [c21b0]) | skip)
        have H' := Aside0.mk H
        clear H
        go_wp2
        go_meet
        case rel => exact ⟨_, (541728000), (by first | rfl | (simp; done) | (simp [*]; done)), H', ⟨by have := HJ5.out; first | omega | exact Nat.le_refl _⟩, ⟨by (with_reducible repeat (first | refine blk_drewN ?_ _ | refine blk_drew ?_ | refine blk_alloc ?_ _)); exact BK231.out⟩, ⟨by repeat (first | (with_reducible first | exact HB.out | apply below_alloc | apply pw_below_drewN | apply below_drew1 | refine below_set ?_ GE231.out) | exact HB.out)⟩⟩
      case rest =>
       clear HC18
       try clear c1
       try clear c2
       try clear p2
       try clear c5
       try clear c6
       try clear c9
       try clear c9b0
       try clear c10
       try clear c11
       try clear c12
       try clear c12b0
       try clear c12b1
       try clear c13
       try clear c17
       try clear c21
       try clear c21b0
       try clear c21b1
       try clear c23
       try clear c23b0
       try clear c26
       try clear c27
       try clear c27b0
       try clear c27b1
       try clear hcz14_0
       try clear hcz14_1
       try clear hcz14_2
       try clear hcz14_3
       try clear hcz14_4
       try clear hcz14_5
       try clear hcz14_6
       try clear hcz14_7
       try clear hcz14_8
       try clear hcz14_9
       try clear hcz16_0
       try clear hcz16_1
       try clear hcz16_2
       try clear hcz16_3
       try clear hcz16_4
       try clear hcz16_5
       try clear hcz16_6
       try clear hcz16_7
       try clear hcz16_8
       try clear hcz16_9
       try clear hcz19_0
       try clear hcz19_1
       try clear hcz19_2
       try clear hcz19_3
       try clear hcz19_4
       try clear hcz19_5
       try clear hcz19_6
       try clear hcz19_7
       try clear hcz19_8
       try clear hcz19_9
       try clear hcz24_0
       try clear hcz24_1
       try clear hcz24_2
       try clear hcz24_3
       try clear hcz24_4
       try clear hcz24_5
       try clear hcz24_6
       try clear hcz24_7
       try clear hcz24_8
       try clear hcz24_9
       try clear hcz28_0
       try clear hcz28_1
       try clear hcz28_2
       try clear hcz28_3
       try clear hcz28_4
       try clear hcz28_5
       try clear hcz28_6
       try clear hcz28_7
       try clear hcz28_8
       try clear hcz28_9
       try clear hcz30_0
       try clear hcz30_1
       try clear hcz30_2
       try clear hcz30_3
       try clear hcz30_4
       try clear hcz30_5
       try clear hcz30_6
       try clear hcz30_7
       try clear hcz30_8
       try clear hcz30_9
       try clear hcz32_0
       try clear hcz32_1
       try clear hcz32_2
       try clear hcz32_3
       try clear hcz32_4
       try clear hcz32_5
       try clear hcz32_6
       try clear hcz32_7
       try clear hcz32_8
       try clear hcz32_9
       try clear hfz14_0
       try clear hfz14_1
       try clear hfz14_2
       try clear hfz14_3
       try clear hfz14_4
       try clear hfz14_5
       try clear hfz14_6
       try clear hfz14_7
       try clear hfz14_8
       try clear hfz14_9
       try clear hfz16_0
       try clear hfz16_1
       try clear hfz16_2
       try clear hfz16_3
       try clear hfz16_4
       try clear hfz16_5
       try clear hfz16_6
       try clear hfz16_7
       try clear hfz16_8
       try clear hfz16_9
       try clear hfz19_0
       try clear hfz19_1
       try clear hfz19_2
       try clear hfz19_3
       try clear hfz19_4
       try clear hfz19_5
       try clear hfz19_6
       try clear hfz19_7
       try clear hfz19_8
       try clear hfz19_9
       try clear hfz24_0
       try clear hfz24_1
       try clear hfz24_2
       try clear hfz24_3
       try clear hfz24_4
       try clear hfz24_5
       try clear hfz24_6
       try clear hfz24_7
       try clear hfz24_8
       try clear hfz24_9
       try clear hfz28_0
       try clear hfz28_1
       try clear hfz28_2
       try clear hfz28_3
       try clear hfz28_4
       try clear hfz28_5
       try clear hfz28_6
       try clear hfz28_7
       try clear hfz28_8
       try clear hfz28_9
       try clear hfz30_0
       try clear hfz30_1
       try clear hfz30_2
       try clear hfz30_3
       try clear hfz30_4
       try clear hfz30_5
       try clear hfz30_6
       try clear hfz30_7
       try clear hfz30_8
       try clear hfz30_9
       try clear hfz32_0
       try clear hfz32_1
       try clear hfz32_2
       try clear hfz32_3
       try clear hfz32_4
       try clear hfz32_5
       try clear hfz32_6
       try clear hfz32_7
       try clear hfz32_8
       try clear hfz32_9
       try clear p2
       obtain ⟨kq, x10_17, rfl, HA, HJ17, BK231, HB⟩ := hcut
       cases kq with
       | zero => exact absurd HA.out (by simp [complinelaw22_NextLeast.j1])
       | succ kj17 =>
        have H := HA.out
        clear HA
        simp only [complinelaw22_NextLeast.j1] at H
        replace H := Option.bind_eq_some_iff.mp H
        obtain ⟨⟨t237, t238⟩, A340, H⟩ := H
        replace H : (if t238 = 0 then (if t237 = 0 then (if t234 = 0 then (complinelaw22_NextLeast.j2 kj17 a1 a2 true x10_17 false a0_0 a0_1 a0_2 a0_3 a0_4 a0_5 a0_6 a0_7 a0_8 a0_9) else (if t234 = 11 then (complinelaw22_NextLeast.j2 kj17 a1 a2 true x10_17 (t233 != 0) a0_0 a0_1 a0_2 a0_3 a0_4 a0_5 a0_6 a0_7 a0_8 a0_9) else (complinelaw22_NextLeast.j2 kj17 a1 a2 true x10_17 true a0_0 a0_1 a0_2 a0_3 a0_4 a0_5 a0_6 a0_7 a0_8 a0_9))) else (complinelaw22_NextLeast.j2 kj17 a1 a2 true x10_17 true a0_0 a0_1 a0_2 a0_3 a0_4 a0_5 a0_6 a0_7 a0_8 a0_9)) else (complinelaw22_NextLeast.j2 kj17 a1 a2 true x10_17 true a0_0 a0_1 a0_2 a0_3 a0_4 a0_5 a0_6 a0_7 a0_8 a0_9)) = some r := H
        have A34 := Aside0.mk A340
        clear A340
        have HC35 := Aside0.mk H
        clear H
        have hcz36_0 : wc.cell? ⟨gb231, 0, none⟩ = some (.int .u64 a0_0) := (blk_cell BK231.out 0).trans rfl
        have hcz36_1 : wc.cell? ⟨gb231, 1, none⟩ = some (.bool a0_1) := (blk_cell BK231.out 1).trans rfl
        have hcz36_2 : wc.cell? ⟨gb231, 2, none⟩ = some (.int .u64 a0_2) := (blk_cell BK231.out 2).trans rfl
        have hcz36_3 : wc.cell? ⟨gb231, 3, none⟩ = some (.bool a0_3) := (blk_cell BK231.out 3).trans rfl
        have hcz36_4 : wc.cell? ⟨gb231, 4, none⟩ = some (.int .u64 a0_4) := (blk_cell BK231.out 4).trans rfl
        have hcz36_5 : wc.cell? ⟨gb231, 5, none⟩ = some (.bool a0_5) := (blk_cell BK231.out 5).trans rfl
        have hcz36_6 : wc.cell? ⟨gb231, 6, none⟩ = some (.int .u64 a0_6) := (blk_cell BK231.out 6).trans rfl
        have hcz36_7 : wc.cell? ⟨gb231, 7, none⟩ = some (.bool a0_7) := (blk_cell BK231.out 7).trans rfl
        have hcz36_8 : wc.cell? ⟨gb231, 8, none⟩ = some (.int .u64 a0_8) := (blk_cell BK231.out 8).trans rfl
        have hcz36_9 : wc.cell? ⟨gb231, 9, none⟩ = some (.bool a0_9) := (blk_cell BK231.out 9).trans rfl
        have hfz36_0 := blk_frozen BK231.out 0
        have hfz36_1 := blk_frozen BK231.out 1
        have hfz36_2 := blk_frozen BK231.out 2
        have hfz36_3 := blk_frozen BK231.out 3
        have hfz36_4 := blk_frozen BK231.out 4
        have hfz36_5 := blk_frozen BK231.out 5
        have hfz36_6 := blk_frozen BK231.out 6
        have hfz36_7 := blk_frozen BK231.out 7
        have hfz36_8 := blk_frozen BK231.out 8
        have hfz36_9 := blk_frozen BK231.out 9
        go_upto_region 16 with (first | ((with_reducible refine gate_callee (f := 15) rfl ?_); refine goesL_ (some 65) rfl rfl Tryz.func15 (by kernel_rfl) rfl #[.agg #[.int .u64 a0_0, .bool a0_1, .int .u64 a0_2, .bool a0_3, .int .u64 a0_4, .bool a0_5, .int .u64 a0_6, .bool a0_7, .int .u64 a0_8, .bool a0_9], .int .i64 (wrap64 (a1 + 1)), .int .i64 x10_17] rfl (by (try simp only [List.map_toArray, List.map_cons, List.map_nil]); first | done | rfl | (simp only [List.length_drop, List.length_take]; rfl)) ?_; (with_reducible refine (next_Count.calls a0_0 a0_1 a0_2 a0_3 a0_4 a0_5 a0_6 a0_7 a0_8 a0_9 (wrap64 (a1 + 1)) x10_17 t237 t238 _ (hT.keep (by repeat (first | (with_reducible first | exact HB.out | apply below_alloc | apply pw_below_drewN | apply below_drew1 | refine below_set ?_ GE231.out) | exact HB.out))) A34.out).mono ?_); rintro e w37 ⟨rfl, hb⟩; refine ⟨_, rfl, ?_⟩; have n0_ := Aside0.mk (blk_below (g := gb231) (o := .cells #[.int .u64 a0_0, .bool a0_1, .int .u64 a0_2, .bool a0_3, .int .u64 a0_4, .bool a0_5, .int .u64 a0_6, .bool a0_7, .int .u64 a0_8, .bool a0_9] 26 (0, 0)) (by (with_reducible repeat (first | refine blk_drewN ?_ _ | refine blk_drew ?_ | refine blk_alloc ?_ _)); exact BK231.out) hb); have n1_ := Aside0.mk (below_step (by repeat (first | (with_reducible first | exact HB.out | apply below_alloc | apply pw_below_drewN | apply below_drew1 | refine below_set ?_ GE231.out) | exact HB.out)) hb); clear BK231; clear HB; have BK231 := n0_; have HB := n1_; clear n0_ n1_; (try clear hb); (try clear hb2); (try clear hk); (try clear hi)))
        (try simp only [Act.put, List.setIfInBounds_toArray, List.set_cons_zero, List.set_cons_succ])
        go_cut [85] (fun v85 wc => ∃ (kq : Nat) (x85_34 : Bool), v85 = .bool x85_34 ∧ Aside0 (complinelaw22_NextLeast.j2 kq a1 a2 true x10_17 x85_34 a0_0 a0_1 a0_2 a0_3 a0_4 a0_5 a0_6 a0_7 a0_8 a0_9 = some r) ∧ Aside0 (kq ≤ kj17) ∧ Aside0 (wc.heap[gb231]? = some (.cells #[.int .u64 a0_0, .bool a0_1, .int .u64 a0_2, .bool a0_3, .int .u64 a0_4, .bool a0_5, .int .u64 a0_6, .bool a0_7, .int .u64 a0_8, .bool a0_9] 26 (0, 0))) ∧ Aside0 (Below w.heap.size w wc))
        case first =>
         have H := HC35.out
         clear HC35
         by_cases c38 : t238 = 0
         ·rw [if_pos c38] at H
          have c38b0 : (t238 == 0) = true := beq_iff_eq.mpr c38
          have c38b1 : (t238 != 0) = false := bne_eq_false_iff_eq.mpr c38
          clear c38
          (first | rw [c38b0] | (simp only [i64_w, i32_w]; rw [c38b0]) | skip)
          by_cases c39 : t237 = 0
          ·rw [if_pos c39] at H
           have c39b0 : (t237 == 0) = true := beq_iff_eq.mpr c39
           have c39b1 : (t237 != 0) = false := bne_eq_false_iff_eq.mpr c39
           clear c39
           by_cases c40 : t234 = 0
           ·rw [if_pos c40] at H
            have c40b0 : (t234 == 0) = true := beq_iff_eq.mpr c40
            have c40b1 : (t234 != 0) = false := bne_eq_false_iff_eq.mpr c40
            clear c40
            have H' := Aside0.mk H
            clear H
            go_wp2
            go_meet
            case rel => exact ⟨_, (false), (by first | rfl | (simp; done) | (simp [*]; done)), H', ⟨by have := HJ5.out; have := HJ17.out; first | omega | exact Nat.le_refl _⟩, ⟨by (with_reducible repeat (first | refine blk_drewN ?_ _ | refine blk_drew ?_ | refine blk_alloc ?_ _)); exact BK231.out⟩, ⟨by repeat (first | (with_reducible first | exact HB.out | apply below_alloc | apply pw_below_drewN | apply below_drew1 | refine below_set ?_ GE231.out) | exact HB.out)⟩⟩
           ·rw [if_neg c40] at H
            have c40b0 : (t234 == 0) = false := beq_eq_false_iff_ne.mpr c40
            have c40b1 : (t234 != 0) = true := bne_iff_ne.mpr c40
            by_cases c41 : t234 = 11
            ·rw [if_pos c41] at H
             have c41b0 : (t234 == 11) = true := beq_iff_eq.mpr c41
             have c41b1 : (t234 != 11) = false := bne_eq_false_iff_eq.mpr c41
             clear c41
             have H' := Aside0.mk H
             clear H
             go_wp2
             go_meet
             case rel => exact ⟨_, ((t233 != 0)), (by first | rfl | (simp; done) | (simp [*]; done)), H', ⟨by have := HJ5.out; have := HJ17.out; first | omega | exact Nat.le_refl _⟩, ⟨by (with_reducible repeat (first | refine blk_drewN ?_ _ | refine blk_drew ?_ | refine blk_alloc ?_ _)); exact BK231.out⟩, ⟨by repeat (first | (with_reducible first | exact HB.out | apply below_alloc | apply pw_below_drewN | apply below_drew1 | refine below_set ?_ GE231.out) | exact HB.out)⟩⟩
            ·rw [if_neg c41] at H
             have c41b0 : (t234 == 11) = false := beq_eq_false_iff_ne.mpr c41
             have c41b1 : (t234 != 11) = true := bne_iff_ne.mpr c41
             have H' := Aside0.mk H
             clear H
             go_wp2
             go_meet
             case rel => exact ⟨_, (true), (by first | rfl | (simp; done) | (simp [*]; done)), H', ⟨by have := HJ5.out; have := HJ17.out; first | omega | exact Nat.le_refl _⟩, ⟨by (with_reducible repeat (first | refine blk_drewN ?_ _ | refine blk_drew ?_ | refine blk_alloc ?_ _)); exact BK231.out⟩, ⟨by repeat (first | (with_reducible first | exact HB.out | apply below_alloc | apply pw_below_drewN | apply below_drew1 | refine below_set ?_ GE231.out) | exact HB.out)⟩⟩
          ·rw [if_neg c39] at H
           have c39b0 : (t237 == 0) = false := beq_eq_false_iff_ne.mpr c39
           have c39b1 : (t237 != 0) = true := bne_iff_ne.mpr c39
           have H' := Aside0.mk H
           clear H
           go_wp2
           go_meet
           case rel => exact ⟨_, (true), (by first | rfl | (simp; done) | (simp [*]; done)), H', ⟨by have := HJ5.out; have := HJ17.out; first | omega | exact Nat.le_refl _⟩, ⟨by (with_reducible repeat (first | refine blk_drewN ?_ _ | refine blk_drew ?_ | refine blk_alloc ?_ _)); exact BK231.out⟩, ⟨by repeat (first | (with_reducible first | exact HB.out | apply below_alloc | apply pw_below_drewN | apply below_drew1 | refine below_set ?_ GE231.out) | exact HB.out)⟩⟩
         ·rw [if_neg c38] at H
          have c38b0 : (t238 == 0) = false := beq_eq_false_iff_ne.mpr c38
          have c38b1 : (t238 != 0) = true := bne_iff_ne.mpr c38
          (first | rw [c38b0] | (simp only [i64_w, i32_w]; rw [c38b0]) | skip)
          have H' := Aside0.mk H
          clear H
          go_wp2
          go_meet
          case rel => exact ⟨_, (true), (by first | rfl | (simp; done) | (simp [*]; done)), H', ⟨by have := HJ5.out; have := HJ17.out; first | omega | exact Nat.le_refl _⟩, ⟨by (with_reducible repeat (first | refine blk_drewN ?_ _ | refine blk_drew ?_ | refine blk_alloc ?_ _)); exact BK231.out⟩, ⟨by repeat (first | (with_reducible first | exact HB.out | apply below_alloc | apply pw_below_drewN | apply below_drew1 | refine below_set ?_ GE231.out) | exact HB.out)⟩⟩
        case rest =>
         clear HC35
         try clear c1
         try clear c2
         try clear p2
         try clear c3
         try clear c4
         try clear c5
         try clear c6
         try clear p6
         try clear c9
         try clear c9b0
         try clear c10
         try clear c11
         try clear c12
         try clear c12b0
         try clear c12b1
         try clear c13
         try clear c15
         try clear c17
         try clear c21
         try clear c21b0
         try clear c21b1
         try clear c23
         try clear c23b0
         try clear c26
         try clear c27
         try clear c27b0
         try clear c27b1
         try clear c38
         try clear c38b0
         try clear c38b1
         try clear c39
         try clear c39b0
         try clear c39b1
         try clear c40
         try clear c40b0
         try clear c40b1
         try clear c41
         try clear c41b0
         try clear c41b1
         try clear hcz14_0
         try clear hcz14_1
         try clear hcz14_2
         try clear hcz14_3
         try clear hcz14_4
         try clear hcz14_5
         try clear hcz14_6
         try clear hcz14_7
         try clear hcz14_8
         try clear hcz14_9
         try clear hcz16_0
         try clear hcz16_1
         try clear hcz16_2
         try clear hcz16_3
         try clear hcz16_4
         try clear hcz16_5
         try clear hcz16_6
         try clear hcz16_7
         try clear hcz16_8
         try clear hcz16_9
         try clear hcz19_0
         try clear hcz19_1
         try clear hcz19_2
         try clear hcz19_3
         try clear hcz19_4
         try clear hcz19_5
         try clear hcz19_6
         try clear hcz19_7
         try clear hcz19_8
         try clear hcz19_9
         try clear hcz24_0
         try clear hcz24_1
         try clear hcz24_2
         try clear hcz24_3
         try clear hcz24_4
         try clear hcz24_5
         try clear hcz24_6
         try clear hcz24_7
         try clear hcz24_8
         try clear hcz24_9
         try clear hcz28_0
         try clear hcz28_1
         try clear hcz28_2
         try clear hcz28_3
         try clear hcz28_4
         try clear hcz28_5
         try clear hcz28_6
         try clear hcz28_7
         try clear hcz28_8
         try clear hcz28_9
         try clear hcz30_0
         try clear hcz30_1
         try clear hcz30_2
         try clear hcz30_3
         try clear hcz30_4
         try clear hcz30_5
         try clear hcz30_6
         try clear hcz30_7
         try clear hcz30_8
         try clear hcz30_9
         try clear hcz32_0
         try clear hcz32_1
         try clear hcz32_2
         try clear hcz32_3
         try clear hcz32_4
         try clear hcz32_5
         try clear hcz32_6
         try clear hcz32_7
         try clear hcz32_8
         try clear hcz32_9
         try clear hcz36_0
         try clear hcz36_1
         try clear hcz36_2
         try clear hcz36_3
         try clear hcz36_4
         try clear hcz36_5
         try clear hcz36_6
         try clear hcz36_7
         try clear hcz36_8
         try clear hcz36_9
         try clear hfz14_0
         try clear hfz14_1
         try clear hfz14_2
         try clear hfz14_3
         try clear hfz14_4
         try clear hfz14_5
         try clear hfz14_6
         try clear hfz14_7
         try clear hfz14_8
         try clear hfz14_9
         try clear hfz16_0
         try clear hfz16_1
         try clear hfz16_2
         try clear hfz16_3
         try clear hfz16_4
         try clear hfz16_5
         try clear hfz16_6
         try clear hfz16_7
         try clear hfz16_8
         try clear hfz16_9
         try clear hfz19_0
         try clear hfz19_1
         try clear hfz19_2
         try clear hfz19_3
         try clear hfz19_4
         try clear hfz19_5
         try clear hfz19_6
         try clear hfz19_7
         try clear hfz19_8
         try clear hfz19_9
         try clear hfz24_0
         try clear hfz24_1
         try clear hfz24_2
         try clear hfz24_3
         try clear hfz24_4
         try clear hfz24_5
         try clear hfz24_6
         try clear hfz24_7
         try clear hfz24_8
         try clear hfz24_9
         try clear hfz28_0
         try clear hfz28_1
         try clear hfz28_2
         try clear hfz28_3
         try clear hfz28_4
         try clear hfz28_5
         try clear hfz28_6
         try clear hfz28_7
         try clear hfz28_8
         try clear hfz28_9
         try clear hfz30_0
         try clear hfz30_1
         try clear hfz30_2
         try clear hfz30_3
         try clear hfz30_4
         try clear hfz30_5
         try clear hfz30_6
         try clear hfz30_7
         try clear hfz30_8
         try clear hfz30_9
         try clear hfz32_0
         try clear hfz32_1
         try clear hfz32_2
         try clear hfz32_3
         try clear hfz32_4
         try clear hfz32_5
         try clear hfz32_6
         try clear hfz32_7
         try clear hfz32_8
         try clear hfz32_9
         try clear hfz36_0
         try clear hfz36_1
         try clear hfz36_2
         try clear hfz36_3
         try clear hfz36_4
         try clear hfz36_5
         try clear hfz36_6
         try clear hfz36_7
         try clear hfz36_8
         try clear hfz36_9
         try clear p2
         obtain ⟨kq, x85_34, rfl, HA, HJ34, BK231, HB⟩ := hcut
         cases kq with
         | zero => exact absurd HA.out (by simp [complinelaw22_NextLeast.j2])
         | succ kj34 =>
          have H := HA.out
          clear HA
          simp only [complinelaw22_NextLeast.j2] at H
          by_cases c42 : x85_34 = true
          ·subst c42
           have H1 : (some false) = some r := by rw [if_pos rfl] at H; exact H
           clear H
           have H := H1
           clear H1
           obtain rfl := Option.some.inj H
           go_wp2
           go_ret
           exact ⟨by first | rfl | (simp [errW_none, errW_some] <;> rfl) | (simp [*, errW_none, errW_some] <;> rfl), by repeat (first | (with_reducible first | exact HB.out | apply below_alloc | apply pw_below_drewN | apply below_drew1 | refine below_set ?_ GE231.out) | exact HB.out)⟩
          ·replace c42 := Bool.eq_false_iff.mpr c42
           subst c42
           have H1 : (if a2 ≤ a1 then (some true) else (if a2 ≥ x10_17 then (some true) else ((day_Match.f a0_0 a0_1 a0_2 a0_3 a0_4 a0_5 a0_6 a0_7 a0_8 a0_9 a2).bind fun bt239 => (if true = true then (if bt239.1 = true then (some false) else (some (bt239.2 == 0))) else (some false))))) = some r := by rw [if_neg (show ¬ (false = true) by decide)] at H; exact H
           clear H
           have H := H1
           clear H1
           by_cases c43 : a2 ≤ a1
           ·rw [if_pos c43] at H
            have c43b0 : decide (a2 ≤ a1) = true := decide_eq_true c43
            clear c43
            obtain rfl := Option.some.inj H
            go_wp2
            go_ret
            exact ⟨by first | rfl | (simp [errW_none, errW_some] <;> rfl) | (simp [*, errW_none, errW_some] <;> rfl), by repeat (first | (with_reducible first | exact HB.out | apply below_alloc | apply pw_below_drewN | apply below_drew1 | refine below_set ?_ GE231.out) | exact HB.out)⟩
           ·rw [if_neg c43] at H
            have c43b0 : decide (a2 ≤ a1) = false := decide_eq_false c43
            clear c43
            by_cases c44 : a2 ≥ x10_17
            ·rw [if_pos c44] at H
             have c44b0 : decide (x10_17 ≤ a2) = true := decide_eq_true c44
             clear c44
             obtain rfl := Option.some.inj H
             go_wp2
             go_ret
             exact ⟨by first | rfl | (simp [errW_none, errW_some] <;> rfl) | (simp [*, errW_none, errW_some] <;> rfl), by repeat (first | (with_reducible first | exact HB.out | apply below_alloc | apply pw_below_drewN | apply below_drew1 | refine below_set ?_ GE231.out) | exact HB.out)⟩
            ·rw [if_neg c44] at H
             have c44b0 : decide (x10_17 ≤ a2) = false := decide_eq_false c44
             clear c44
             replace H := Option.bind_eq_some_iff.mp H
             obtain ⟨⟨t239, t240⟩, A450, H⟩ := H
             replace H : (if true = true then (if t239 = true then (some false) else (some (t240 == 0))) else (some false)) = some r := H
             have A45 := Aside0.mk A450
             clear A450
             by_cases c46 : true = true
             ·clear c46
              have H1 : (if t239 = true then (some false) else (some (t240 == 0))) = some r := by rw [if_pos rfl] at H; exact H
              clear H
              have H := H1
              clear H1
              by_cases c47 : t239 = true
              ·subst c47
               have H1 : (some false) = some r := by rw [if_pos rfl] at H; exact H
               clear H
               have H := H1
               clear H1
               obtain rfl := Option.some.inj H
               have hcz48_0 : wc.cell? ⟨gb231, 0, none⟩ = some (.int .u64 a0_0) := (blk_cell BK231.out 0).trans rfl
               have hcz48_1 : wc.cell? ⟨gb231, 1, none⟩ = some (.bool a0_1) := (blk_cell BK231.out 1).trans rfl
               have hcz48_2 : wc.cell? ⟨gb231, 2, none⟩ = some (.int .u64 a0_2) := (blk_cell BK231.out 2).trans rfl
               have hcz48_3 : wc.cell? ⟨gb231, 3, none⟩ = some (.bool a0_3) := (blk_cell BK231.out 3).trans rfl
               have hcz48_4 : wc.cell? ⟨gb231, 4, none⟩ = some (.int .u64 a0_4) := (blk_cell BK231.out 4).trans rfl
               have hcz48_5 : wc.cell? ⟨gb231, 5, none⟩ = some (.bool a0_5) := (blk_cell BK231.out 5).trans rfl
               have hcz48_6 : wc.cell? ⟨gb231, 6, none⟩ = some (.int .u64 a0_6) := (blk_cell BK231.out 6).trans rfl
               have hcz48_7 : wc.cell? ⟨gb231, 7, none⟩ = some (.bool a0_7) := (blk_cell BK231.out 7).trans rfl
               have hcz48_8 : wc.cell? ⟨gb231, 8, none⟩ = some (.int .u64 a0_8) := (blk_cell BK231.out 8).trans rfl
               have hcz48_9 : wc.cell? ⟨gb231, 9, none⟩ = some (.bool a0_9) := (blk_cell BK231.out 9).trans rfl
               have hfz48_0 := blk_frozen BK231.out 0
               have hfz48_1 := blk_frozen BK231.out 1
               have hfz48_2 := blk_frozen BK231.out 2
               have hfz48_3 := blk_frozen BK231.out 3
               have hfz48_4 := blk_frozen BK231.out 4
               have hfz48_5 := blk_frozen BK231.out 5
               have hfz48_6 := blk_frozen BK231.out 6
               have hfz48_7 := blk_frozen BK231.out 7
               have hfz48_8 := blk_frozen BK231.out 8
               have hfz48_9 := blk_frozen BK231.out 9
               go_wp2_with (first | ((with_reducible refine gate_callee (f := 17) rfl ?_); refine goesL_ (some 98) rfl rfl Tryz.func17 (by kernel_rfl) rfl #[.agg #[.int .u64 a0_0, .bool a0_1, .int .u64 a0_2, .bool a0_3, .int .u64 a0_4, .bool a0_5, .int .u64 a0_6, .bool a0_7, .int .u64 a0_8, .bool a0_9], .int .i64 a2] rfl (by (try simp only [List.map_toArray, List.map_cons, List.map_nil]); first | done | rfl | (simp only [List.length_drop, List.length_take]; rfl)) ?_; (with_reducible refine (day_Match.calls a0_0 a0_1 a0_2 a0_3 a0_4 a0_5 a0_6 a0_7 a0_8 a0_9 a2 true t240 _ A45.out).mono ?_); rintro e w49 ⟨rfl, hb⟩; refine ⟨_, rfl, ?_⟩; have n0_ := Aside0.mk (blk_below (g := gb231) (o := .cells #[.int .u64 a0_0, .bool a0_1, .int .u64 a0_2, .bool a0_3, .int .u64 a0_4, .bool a0_5, .int .u64 a0_6, .bool a0_7, .int .u64 a0_8, .bool a0_9] 26 (0, 0)) (by (with_reducible repeat (first | refine blk_drewN ?_ _ | refine blk_drew ?_ | refine blk_alloc ?_ _)); exact BK231.out) hb); have n1_ := Aside0.mk (below_step (by repeat (first | (with_reducible first | exact HB.out | apply below_alloc | apply pw_below_drewN | apply below_drew1 | refine below_set ?_ GE231.out) | exact HB.out)) hb); clear BK231; clear HB; have BK231 := n0_; have HB := n1_; clear n0_ n1_; (try clear hb); (try clear hb2); (try clear hk); (try clear hi)))
               go_ret
               exact ⟨by first | rfl | (simp [errW_none, errW_some] <;> rfl) | (simp [*, errW_none, errW_some] <;> rfl), by repeat (first | (with_reducible first | exact HB.out | apply below_alloc | apply pw_below_drewN | apply below_drew1 | refine below_set ?_ GE231.out) | exact HB.out)⟩
              ·replace c47 := Bool.eq_false_iff.mpr c47
               subst c47
               have H1 : (some (t240 == 0)) = some r := by rw [if_neg (show ¬ (false = true) by decide)] at H; exact H
               clear H
               have H := H1
               clear H1
               obtain rfl := Option.some.inj H
               have hcz50_0 : wc.cell? ⟨gb231, 0, none⟩ = some (.int .u64 a0_0) := (blk_cell BK231.out 0).trans rfl
               have hcz50_1 : wc.cell? ⟨gb231, 1, none⟩ = some (.bool a0_1) := (blk_cell BK231.out 1).trans rfl
               have hcz50_2 : wc.cell? ⟨gb231, 2, none⟩ = some (.int .u64 a0_2) := (blk_cell BK231.out 2).trans rfl
               have hcz50_3 : wc.cell? ⟨gb231, 3, none⟩ = some (.bool a0_3) := (blk_cell BK231.out 3).trans rfl
               have hcz50_4 : wc.cell? ⟨gb231, 4, none⟩ = some (.int .u64 a0_4) := (blk_cell BK231.out 4).trans rfl
               have hcz50_5 : wc.cell? ⟨gb231, 5, none⟩ = some (.bool a0_5) := (blk_cell BK231.out 5).trans rfl
               have hcz50_6 : wc.cell? ⟨gb231, 6, none⟩ = some (.int .u64 a0_6) := (blk_cell BK231.out 6).trans rfl
               have hcz50_7 : wc.cell? ⟨gb231, 7, none⟩ = some (.bool a0_7) := (blk_cell BK231.out 7).trans rfl
               have hcz50_8 : wc.cell? ⟨gb231, 8, none⟩ = some (.int .u64 a0_8) := (blk_cell BK231.out 8).trans rfl
               have hcz50_9 : wc.cell? ⟨gb231, 9, none⟩ = some (.bool a0_9) := (blk_cell BK231.out 9).trans rfl
               have hfz50_0 := blk_frozen BK231.out 0
               have hfz50_1 := blk_frozen BK231.out 1
               have hfz50_2 := blk_frozen BK231.out 2
               have hfz50_3 := blk_frozen BK231.out 3
               have hfz50_4 := blk_frozen BK231.out 4
               have hfz50_5 := blk_frozen BK231.out 5
               have hfz50_6 := blk_frozen BK231.out 6
               have hfz50_7 := blk_frozen BK231.out 7
               have hfz50_8 := blk_frozen BK231.out 8
               have hfz50_9 := blk_frozen BK231.out 9
               go_wp2_with (first | ((with_reducible refine gate_callee (f := 17) rfl ?_); refine goesL_ (some 98) rfl rfl Tryz.func17 (by kernel_rfl) rfl #[.agg #[.int .u64 a0_0, .bool a0_1, .int .u64 a0_2, .bool a0_3, .int .u64 a0_4, .bool a0_5, .int .u64 a0_6, .bool a0_7, .int .u64 a0_8, .bool a0_9], .int .i64 a2] rfl (by (try simp only [List.map_toArray, List.map_cons, List.map_nil]); first | done | rfl | (simp only [List.length_drop, List.length_take]; rfl)) ?_; (with_reducible refine (day_Match.calls a0_0 a0_1 a0_2 a0_3 a0_4 a0_5 a0_6 a0_7 a0_8 a0_9 a2 false t240 _ A45.out).mono ?_); rintro e w51 ⟨rfl, hb⟩; refine ⟨_, rfl, ?_⟩; have n0_ := Aside0.mk (blk_below (g := gb231) (o := .cells #[.int .u64 a0_0, .bool a0_1, .int .u64 a0_2, .bool a0_3, .int .u64 a0_4, .bool a0_5, .int .u64 a0_6, .bool a0_7, .int .u64 a0_8, .bool a0_9] 26 (0, 0)) (by (with_reducible repeat (first | refine blk_drewN ?_ _ | refine blk_drew ?_ | refine blk_alloc ?_ _)); exact BK231.out) hb); have n1_ := Aside0.mk (below_step (by repeat (first | (with_reducible first | exact HB.out | apply below_alloc | apply pw_below_drewN | apply below_drew1 | refine below_set ?_ GE231.out) | exact HB.out)) hb); clear BK231; clear HB; have BK231 := n0_; have HB := n1_; clear n0_ n1_; (try clear hb); (try clear hb2); (try clear hk); (try clear hi)))
               go_ret
               exact ⟨by first | rfl | (simp [errW_none, errW_some] <;> rfl) | (simp [*, errW_none, errW_some] <;> rfl), by repeat (first | (with_reducible first | exact HB.out | apply below_alloc | apply pw_below_drewN | apply below_drew1 | refine below_set ?_ GE231.out) | exact HB.out)⟩
             ·exact absurd rfl c46
 ·replace c5 := Bool.eq_false_iff.mpr c5
  subst c5
  have H1 : (some false) = some r := by rw [if_neg (show ¬ (false = true) by decide)] at H; exact H
  clear H
  have H := H1
  clear H1
  obtain rfl := Option.some.inj H
  go_enter Tryz.func6, Tryz.ntmps6
  go_wp2_with (first | ((with_reducible refine gate_dst (N := 3) rfl ?_); refine box_event ?hg (N := 3) ?hd (cs := #[.int .u64 a0_0, .bool a0_1, .int .u64 a0_2, .bool a0_3, .int .u64 a0_4, .bool a0_5, .int .u64 a0_6, .bool a0_7, .int .u64 a0_8, .bool a0_9]) (t := 26) ?hr ?_; (case hd => rfl); (case hg => rfl); (case hr => first | (go_simp; done) | (go_simp; rfl)); intro gb231 hg w54 hbox hb; have n0_ := Aside0.mk (below_step (by repeat (first | (with_reducible first | exact HB.out | apply below_alloc | apply pw_below_drewN | apply below_drew1) | exact HB.out)) hb); have n1_ := Aside0.mk (hbox); have n2_ := Aside0.mk ((by rw [hg]; exact (below_size (by repeat (first | (with_reducible first | exact HB.out | apply below_alloc | apply pw_below_drewN | apply below_drew1) | exact HB.out))) : w.heap.size ≤ gb231)); have n3_ := Aside0.mk ((by rw [hg]; exact (below_size (by repeat (first | (with_reducible first | exact HB.out | apply below_alloc | apply pw_below_drewN | apply below_drew1) | exact HB.out))) : w.heap.size ≤ gb231)); clear HB; have HB := n0_; have BK231 := n1_; have GW231 := n2_; have GE231 := n3_; clear n0_ n1_ n2_ n3_; clear hb hbox hg) | ((with_reducible refine gate_callee (f := 10) rfl ?_); refine goesL_ (some 17) rfl rfl Tryz.func10 (by kernel_rfl) rfl #[] rfl (by (try simp only [List.map_toArray, List.map_cons, List.map_nil]); first | done | rfl | (simp only [List.length_drop, List.length_take]; rfl)) ?_; (with_reducible refine (complinelaw22_works.calls  false _ (hT.keep (by repeat (first | (with_reducible first | exact HB.out | apply below_alloc | apply pw_below_drewN | apply below_drew1 | refine below_set ?_ GE231.out) | exact HB.out))) A4.out).mono ?_); rintro e w55 ⟨rfl, hb⟩; refine ⟨_, rfl, ?_⟩; have n0_ := Aside0.mk (blk_below (g := gb231) (o := .cells #[.int .u64 a0_0, .bool a0_1, .int .u64 a0_2, .bool a0_3, .int .u64 a0_4, .bool a0_5, .int .u64 a0_6, .bool a0_7, .int .u64 a0_8, .bool a0_9] 26 (0, 0)) (by (with_reducible repeat (first | refine blk_drewN ?_ _ | refine blk_drew ?_ | refine blk_alloc ?_ _)); exact BK231.out) hb); have n1_ := Aside0.mk (below_step (by repeat (first | (with_reducible first | exact HB.out | apply below_alloc | apply pw_below_drewN | apply below_drew1 | refine below_set ?_ GE231.out) | exact HB.out)) hb); clear BK231; clear HB; have BK231 := n0_; have HB := n1_; clear n0_ n1_; (try clear hb); (try clear hb2); (try clear hk); (try clear hi)))
  go_ret
  exact ⟨by first | rfl | (simp [errW_none, errW_some] <;> rfl) | (simp [*, errW_none, errW_some] <;> rfl), by repeat (first | (with_reducible first | exact HB.out | apply below_alloc | apply pw_below_drewN | apply below_drew1 | refine below_set ?_ GE231.out) | exact HB.out)⟩
end Go.Proofs.YtabhfcoljgcpeaaGreatDoor.PNex
