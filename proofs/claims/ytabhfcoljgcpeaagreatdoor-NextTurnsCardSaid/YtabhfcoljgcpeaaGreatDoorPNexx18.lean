-- Written by a program of this session (gprint.py) over the kit's print.
import Derived.Test.YtabhfcoljgcpeaaGreatDoorPNexx0
import Derived.Test.YtabhfcoljgcpeaaGreatDoorPNexx5
import Derived.Test.YtabhfcoljgcpeaaGreatDoorPNexx6
import Derived.Test.YtabhfcoljgcpeaaGreatDoorPNexx13
namespace Go.Proofs.YtabhfcoljgcpeaaGreatDoor.PNex
open Go.RowKit Go.Proofs.YtabhfcoljgcpeaaGreatDoorW.PrintWords Go.Proofs.YtabhfcoljgcpeaaGreatDoorW.PrintLast Go.Proofs.YtabhfcoljgcpeaaGreatDoorW.PrintMore
attribute [local go_sem] max2_int min2_int max_two min_two max_three min_three max_four min_four
set_option linter.unusedVariables false
set_option linter.unusedSimpArgs false
mutual
def complinelaw22_NextTurns.j0 : Nat → Int → Bool → Bool → Int → Bool → Int → Bool → Int → Bool → Int → Bool → Int → Bool → Option (Bool)
 | 0, _, _, _, _, _, _, _, _, _, _, _, _, _ => none
 | k + 1, x1, x5, x24, x242000, x242001, x242002, x242003, x242004, x242005, x242006, x242007, x242008, x242009 => if x24 = true then (some x5) else ((day_Match.f x242000 x242001 x242002 x242003 x242004 x242005 x242006 x242007 x242008 x242009 x1).bind fun bt243 => (if bt243.2 = 0 then ((next_Next.f x242000 x242001 x242002 x242003 x242004 x242005 x242006 x242007 x242008 x242009 x1).bind fun bt245 => ((next_Prev.f x242000 x242001 x242002 x242003 x242004 x242005 x242006 x242007 x242008 x242009 x1).bind fun bt247 => (if bt245.2 = 0 then ((next_Prev.f x242000 x242001 x242002 x242003 x242004 x242005 x242006 x242007 x242008 x242009 bt245.1).bind fun bt249 => (if bt243.1 = true then (if bt249.2 = 0 then (if bt249.1 = x1 then (complinelaw22_NextTurns.j1 k x1 x5 bt243.1 bt245.1 bt245.2 bt247.1 bt247.2 x242000 x242001 x242002 x242003 x242004 x242005 x242006 x242007 x242008 x242009) else (some false)) else (some false)) else (if bt249.2 = bt247.2 then (if bt249.1 = bt247.1 then (complinelaw22_NextTurns.j1 k x1 x5 bt243.1 bt245.1 bt245.2 bt247.1 bt247.2 x242000 x242001 x242002 x242003 x242004 x242005 x242006 x242007 x242008 x242009) else (some false)) else (some false)))) else (complinelaw22_NextTurns.j1 k x1 x5 bt243.1 bt245.1 bt245.2 bt247.1 bt247.2 x242000 x242001 x242002 x242003 x242004 x242005 x242006 x242007 x242008 x242009)))) else (some x5)))
def complinelaw22_NextTurns.j1 : Nat → Int → Bool → Bool → Int → Int → Int → Int → Int → Bool → Int → Bool → Int → Bool → Int → Bool → Int → Bool → Option (Bool)
 | 0, _, _, _, _, _, _, _, _, _, _, _, _, _, _, _, _, _ => none
 | k + 1, x1, x5, x6, x8, x9, x10, x11, x242000, x242001, x242002, x242003, x242004, x242005, x242006, x242007, x242008, x242009 => if x11 = 0 then ((next_Next.f x242000 x242001 x242002 x242003 x242004 x242005 x242006 x242007 x242008 x242009 x10).bind fun bt251 => (if x6 = true then (if bt251.2 = 0 then (if bt251.1 = x1 then (if x5 = true then (if x9 = 0 then (if x8 > x1 then (if x10 < x1 then (some true) else (if x11 = 11 then (some (x10 == 0)) else (some false))) else (if x9 = 11 then (if x8 = 0 then (if x10 < x1 then (some true) else (if x11 = 11 then (some (x10 == 0)) else (some false))) else (some false)) else (some false))) else (if x9 = 11 then (if x8 = 0 then (if x10 < x1 then (some true) else (if x11 = 11 then (some (x10 == 0)) else (some false))) else (some false)) else (some false))) else (some false)) else (some false)) else (some false)) else (if bt251.2 = x9 then (if bt251.1 = x8 then (if x5 = true then (if x9 = 0 then (if x8 > x1 then (if x10 < x1 then (some true) else (if x11 = 11 then (some (x10 == 0)) else (some false))) else (if x9 = 11 then (if x8 = 0 then (if x10 < x1 then (some true) else (if x11 = 11 then (some (x10 == 0)) else (some false))) else (some false)) else (some false))) else (if x9 = 11 then (if x8 = 0 then (if x10 < x1 then (some true) else (if x11 = 11 then (some (x10 == 0)) else (some false))) else (some false)) else (some false))) else (some false)) else (some false)) else (some false)))) else (if x5 = true then (if x9 = 0 then (if x8 > x1 then (if x11 = 11 then (some (x10 == 0)) else (some false)) else (if x9 = 11 then (if x8 = 0 then (if x11 = 11 then (some (x10 == 0)) else (some false)) else (some false)) else (some false))) else (if x9 = 11 then (if x8 = 0 then (if x11 = 11 then (some (x10 == 0)) else (some false)) else (some false)) else (some false))) else (some false))
end
def complinelaw22_NextTurns.f (k : Nat) (a0_0 : Int) (a0_1 : Bool) (a0_2 : Int) (a0_3 : Bool) (a0_4 : Int) (a0_5 : Bool) (a0_6 : Int) (a0_7 : Bool) (a0_8 : Int) (a0_9 : Bool) (a1 : Int) : Option (Bool) := (complinelaw22_works.f).bind fun t242 => (if t242 = true then (if a1 < 0 then (complinelaw22_NextTurns.j0 k a1 t242 true a0_0 a0_1 a0_2 a0_3 a0_4 a0_5 a0_6 a0_7 a0_8 a0_9) else (complinelaw22_NextTurns.j0 k a1 t242 (decide (a1 > 541727999)) a0_0 a0_1 a0_2 a0_3 a0_4 a0_5 a0_6 a0_7 a0_8 a0_9)) else (some false))
set_option maxHeartbeats 8000000 in
set_option maxRecDepth 100000 in
theorem complinelaw22_NextTurns.calls (k : Nat) (a0_0 : Int) (a0_1 : Bool) (a0_2 : Int) (a0_3 : Bool) (a0_4 : Int) (a0_5 : Bool) (a0_6 : Int) (a0_7 : Bool) (a0_8 : Int) (a0_9 : Bool) (a1 : Int) (r : Bool) (w : World) (hT : Tab w) (h : complinelaw22_NextTurns.f k a0_0 a0_1 a0_2 a0_3 a0_4 a0_5 a0_6 a0_7 a0_8 a0_9 a1 = some r) :
  Calls Tryz.prog 7 #[.agg #[.int .u64 a0_0, .bool a0_1, .int .u64 a0_2, .bool a0_3, .int .u64 a0_4, .bool a0_5, .int .u64 a0_6, .bool a0_7, .int .u64 a0_8, .bool a0_9], .int .i64 a1] w fun e w' => e = .returned (.bool r) ∧ Below w.heap.size w w' := by
 have hu26 := Tryz.underlying26
 have HB := Aside0.mk (Below.refl w.heap.size w)
 have H : ((complinelaw22_works.f).bind fun t242 => (if t242 = true then (if a1 < 0 then (complinelaw22_NextTurns.j0 k a1 t242 true a0_0 a0_1 a0_2 a0_3 a0_4 a0_5 a0_6 a0_7 a0_8 a0_9) else (complinelaw22_NextTurns.j0 k a1 t242 (decide (a1 > 541727999)) a0_0 a0_1 a0_2 a0_3 a0_4 a0_5 a0_6 a0_7 a0_8 a0_9)) else (some false))) = some r := h
 clear h
 replace H := Option.bind_eq_some_iff.mp H
 obtain ⟨t242, A30, H⟩ := H
 replace H : (if t242 = true then (if a1 < 0 then (complinelaw22_NextTurns.j0 k a1 t242 true a0_0 a0_1 a0_2 a0_3 a0_4 a0_5 a0_6 a0_7 a0_8 a0_9) else (complinelaw22_NextTurns.j0 k a1 t242 (decide (a1 > 541727999)) a0_0 a0_1 a0_2 a0_3 a0_4 a0_5 a0_6 a0_7 a0_8 a0_9)) else (some false)) = some r := H
 have A3 := Aside0.mk A30
 clear A30
 by_cases c4 : t242 = true
 ·subst c4
  have H1 : (if a1 < 0 then (complinelaw22_NextTurns.j0 k a1 true true a0_0 a0_1 a0_2 a0_3 a0_4 a0_5 a0_6 a0_7 a0_8 a0_9) else (complinelaw22_NextTurns.j0 k a1 true (decide (a1 > 541727999)) a0_0 a0_1 a0_2 a0_3 a0_4 a0_5 a0_6 a0_7 a0_8 a0_9)) = some r := by first | (rw [if_pos rfl] at H; exact H) | (rw [if_pos trivial] at H; exact H)
  clear H
  have H := H1
  clear H1
  have HC5 := Aside0.mk H
  clear H
  go_enter Tryz.func7, Tryz.ntmps7
  go_upto_region 4 with (first | ((with_reducible refine gate_dst (N := 2) rfl ?_); refine box_event ?hg (N := 2) ?hd (cs := #[.int .u64 a0_0, .bool a0_1, .int .u64 a0_2, .bool a0_3, .int .u64 a0_4, .bool a0_5, .int .u64 a0_6, .bool a0_7, .int .u64 a0_8, .bool a0_9]) (t := 26) ?hr ?_; (case hd => rfl); (case hg => rfl); (case hr => first | (go_simp; done) | (go_simp; rfl)); intro gb241 hg w6 hbox hb; have n0_ := Aside0.mk (below_step (by repeat (first | (with_reducible first | exact HB.out | apply below_alloc | apply pw_below_drewN | apply below_drew1) | exact HB.out)) hb); have n1_ := Aside0.mk (hbox); have n2_ := Aside0.mk ((by rw [hg]; exact (below_size (by repeat (first | (with_reducible first | exact HB.out | apply below_alloc | apply pw_below_drewN | apply below_drew1) | exact HB.out))) : w.heap.size ≤ gb241)); have n3_ := Aside0.mk ((by rw [hg]; exact (below_size (by repeat (first | (with_reducible first | exact HB.out | apply below_alloc | apply pw_below_drewN | apply below_drew1) | exact HB.out))) : w.heap.size ≤ gb241)); clear HB; have HB := n0_; have BK241 := n1_; have GW241 := n2_; have GE241 := n3_; clear n0_ n1_ n2_ n3_; clear hb hbox hg) | ((with_reducible refine gate_callee (f := 10) rfl ?_); refine goesL_ (some 16) rfl rfl Tryz.func10 (by kernel_rfl) rfl #[] rfl (by (try simp only [List.map_toArray, List.map_cons, List.map_nil]); first | done | rfl | (simp only [List.length_drop, List.length_take]; rfl)) ?_; (with_reducible refine (complinelaw22_works.calls  true _ (hT.keep (by repeat (first | (with_reducible first | exact HB.out | apply below_alloc | apply pw_below_drewN | apply below_drew1 | refine below_set ?_ GE241.out) | exact HB.out))) A3.out).mono ?_); rintro e w7 ⟨rfl, hb⟩; refine ⟨_, rfl, ?_⟩; have n0_ := Aside0.mk (blk_below (g := gb241) (o := .cells #[.int .u64 a0_0, .bool a0_1, .int .u64 a0_2, .bool a0_3, .int .u64 a0_4, .bool a0_5, .int .u64 a0_6, .bool a0_7, .int .u64 a0_8, .bool a0_9] 26 (0, 0)) (by (with_reducible repeat (first | refine blk_drewN ?_ _ | refine blk_drew ?_ | refine blk_alloc ?_ _)); exact BK241.out) hb); have n1_ := Aside0.mk (below_step (by repeat (first | (with_reducible first | exact HB.out | apply below_alloc | apply pw_below_drewN | apply below_drew1 | refine below_set ?_ GE241.out) | exact HB.out)) hb); clear BK241; clear HB; have BK241 := n0_; have HB := n1_; clear n0_ n1_; (try clear hb); (try clear hb2); (try clear hk); (try clear hi)))
  (try simp only [Act.put, List.setIfInBounds_toArray, List.set_cons_zero, List.set_cons_succ])
  go_cut [24] (fun v24 wc => ∃ (kq : Nat) (x24_4 : Bool), v24 = .bool x24_4 ∧ Aside0 (complinelaw22_NextTurns.j0 kq a1 true x24_4 a0_0 a0_1 a0_2 a0_3 a0_4 a0_5 a0_6 a0_7 a0_8 a0_9 = some r) ∧ Aside0 (kq ≤ k) ∧ Aside0 (wc.heap[gb241]? = some (.cells #[.int .u64 a0_0, .bool a0_1, .int .u64 a0_2, .bool a0_3, .int .u64 a0_4, .bool a0_5, .int .u64 a0_6, .bool a0_7, .int .u64 a0_8, .bool a0_9] 26 (0, 0))) ∧ Aside0 (Below w.heap.size w wc))
  case first =>
   have H := HC5.out
   clear HC5
   by_cases c8 : a1 < 0
   ·rw [if_pos c8] at H
    have c8b0 : decide (a1 < 0) = true := decide_eq_true c8
    clear c8
    (first | rw [c8b0] | (simp only [i64_w, i32_w]; rw [c8b0]) | skip)
    have H' := Aside0.mk H
    clear H
    go_wp2
    go_meet
    case rel => exact ⟨_, (true), (by first | rfl | (simp; done) | (simp [*]; done)), H', ⟨by first | omega | exact Nat.le_refl _⟩, ⟨by (with_reducible repeat (first | refine blk_drewN ?_ _ | refine blk_drew ?_ | refine blk_alloc ?_ _)); exact BK241.out⟩, ⟨by repeat (first | (with_reducible first | exact HB.out | apply below_alloc | apply pw_below_drewN | apply below_drew1 | refine below_set ?_ GE241.out) | exact HB.out)⟩⟩
   ·rw [if_neg c8] at H
    have c8b0 : decide (a1 < 0) = false := decide_eq_false c8
    clear c8
    (first | rw [c8b0] | (simp only [i64_w, i32_w]; rw [c8b0]) | skip)
    have H' := Aside0.mk H
    clear H
    go_wp2
    go_meet
    case rel => exact ⟨_, (decide (a1 > 541727999)), (by first | rfl | (simp; done) | (simp [*]; done)), H', ⟨by first | omega | exact Nat.le_refl _⟩, ⟨by (with_reducible repeat (first | refine blk_drewN ?_ _ | refine blk_drew ?_ | refine blk_alloc ?_ _)); exact BK241.out⟩, ⟨by repeat (first | (with_reducible first | exact HB.out | apply below_alloc | apply pw_below_drewN | apply below_drew1 | refine below_set ?_ GE241.out) | exact HB.out)⟩⟩
  case rest =>
   clear HC5
   try clear c4
   try clear c8
   try clear c8b0
   obtain ⟨kq, x24_4, rfl, HA, HJ4, BK241, HB⟩ := hcut
   cases kq with
   | zero => exact absurd HA.out (by simp [complinelaw22_NextTurns.j0])
   | succ kj4 =>
    have H := HA.out
    clear HA
    simp only [complinelaw22_NextTurns.j0] at H
    by_cases c9 : x24_4 = true
    ·subst c9
     have H1 : (some true) = some r := by first | (rw [if_pos rfl] at H; exact H) | (rw [if_pos trivial] at H; exact H)
     clear H
     have H := H1
     clear H1
     obtain rfl := Option.some.inj H
     go_wp2
     go_ret
     exact ⟨by first | rfl | (simp [*] <;> rfl), by repeat (first | (with_reducible first | exact HB.out | apply below_alloc | apply pw_below_drewN | apply below_drew1 | refine below_set ?_ GE241.out) | exact HB.out)⟩
    ·replace c9 := Bool.eq_false_iff.mpr c9
     subst c9
     have H1 : ((day_Match.f a0_0 a0_1 a0_2 a0_3 a0_4 a0_5 a0_6 a0_7 a0_8 a0_9 a1).bind fun bt243 => (if bt243.2 = 0 then ((next_Next.f a0_0 a0_1 a0_2 a0_3 a0_4 a0_5 a0_6 a0_7 a0_8 a0_9 a1).bind fun bt245 => ((next_Prev.f a0_0 a0_1 a0_2 a0_3 a0_4 a0_5 a0_6 a0_7 a0_8 a0_9 a1).bind fun bt247 => (if bt245.2 = 0 then ((next_Prev.f a0_0 a0_1 a0_2 a0_3 a0_4 a0_5 a0_6 a0_7 a0_8 a0_9 bt245.1).bind fun bt249 => (if bt243.1 = true then (if bt249.2 = 0 then (if bt249.1 = a1 then (complinelaw22_NextTurns.j1 kj4 a1 true bt243.1 bt245.1 bt245.2 bt247.1 bt247.2 a0_0 a0_1 a0_2 a0_3 a0_4 a0_5 a0_6 a0_7 a0_8 a0_9) else (some false)) else (some false)) else (if bt249.2 = bt247.2 then (if bt249.1 = bt247.1 then (complinelaw22_NextTurns.j1 kj4 a1 true bt243.1 bt245.1 bt245.2 bt247.1 bt247.2 a0_0 a0_1 a0_2 a0_3 a0_4 a0_5 a0_6 a0_7 a0_8 a0_9) else (some false)) else (some false)))) else (complinelaw22_NextTurns.j1 kj4 a1 true bt243.1 bt245.1 bt245.2 bt247.1 bt247.2 a0_0 a0_1 a0_2 a0_3 a0_4 a0_5 a0_6 a0_7 a0_8 a0_9)))) else (some true))) = some r := by rw [if_neg (show ¬ (false = true) by decide)] at H; exact H
     clear H
     have H := H1
     clear H1
     replace H := Option.bind_eq_some_iff.mp H
     obtain ⟨⟨t243, t244⟩, A100, H⟩ := H
     replace H : (if t244 = 0 then ((next_Next.f a0_0 a0_1 a0_2 a0_3 a0_4 a0_5 a0_6 a0_7 a0_8 a0_9 a1).bind fun bt245 => ((next_Prev.f a0_0 a0_1 a0_2 a0_3 a0_4 a0_5 a0_6 a0_7 a0_8 a0_9 a1).bind fun bt247 => (if bt245.2 = 0 then ((next_Prev.f a0_0 a0_1 a0_2 a0_3 a0_4 a0_5 a0_6 a0_7 a0_8 a0_9 bt245.1).bind fun bt249 => (if t243 = true then (if bt249.2 = 0 then (if bt249.1 = a1 then (complinelaw22_NextTurns.j1 kj4 a1 true t243 bt245.1 bt245.2 bt247.1 bt247.2 a0_0 a0_1 a0_2 a0_3 a0_4 a0_5 a0_6 a0_7 a0_8 a0_9) else (some false)) else (some false)) else (if bt249.2 = bt247.2 then (if bt249.1 = bt247.1 then (complinelaw22_NextTurns.j1 kj4 a1 true t243 bt245.1 bt245.2 bt247.1 bt247.2 a0_0 a0_1 a0_2 a0_3 a0_4 a0_5 a0_6 a0_7 a0_8 a0_9) else (some false)) else (some false)))) else (complinelaw22_NextTurns.j1 kj4 a1 true t243 bt245.1 bt245.2 bt247.1 bt247.2 a0_0 a0_1 a0_2 a0_3 a0_4 a0_5 a0_6 a0_7 a0_8 a0_9)))) else (some true)) = some r := H
     have A10 := Aside0.mk A100
     clear A100
     by_cases c11 : t244 = 0
     ·rw [if_pos c11] at H
      have c11b0 : (t244 == 0) = true := beq_iff_eq.mpr c11
      have c11b1 : (t244 != 0) = false := bne_eq_false_iff_eq.mpr c11
      clear c11
      replace H := Option.bind_eq_some_iff.mp H
      obtain ⟨⟨t245, t246⟩, A120, H⟩ := H
      replace H : ((next_Prev.f a0_0 a0_1 a0_2 a0_3 a0_4 a0_5 a0_6 a0_7 a0_8 a0_9 a1).bind fun bt247 => (if t246 = 0 then ((next_Prev.f a0_0 a0_1 a0_2 a0_3 a0_4 a0_5 a0_6 a0_7 a0_8 a0_9 t245).bind fun bt249 => (if t243 = true then (if bt249.2 = 0 then (if bt249.1 = a1 then (complinelaw22_NextTurns.j1 kj4 a1 true t243 t245 t246 bt247.1 bt247.2 a0_0 a0_1 a0_2 a0_3 a0_4 a0_5 a0_6 a0_7 a0_8 a0_9) else (some false)) else (some false)) else (if bt249.2 = bt247.2 then (if bt249.1 = bt247.1 then (complinelaw22_NextTurns.j1 kj4 a1 true t243 t245 t246 bt247.1 bt247.2 a0_0 a0_1 a0_2 a0_3 a0_4 a0_5 a0_6 a0_7 a0_8 a0_9) else (some false)) else (some false)))) else (complinelaw22_NextTurns.j1 kj4 a1 true t243 t245 t246 bt247.1 bt247.2 a0_0 a0_1 a0_2 a0_3 a0_4 a0_5 a0_6 a0_7 a0_8 a0_9))) = some r := H
      have A12 := Aside0.mk A120
      clear A120
      replace H := Option.bind_eq_some_iff.mp H
      obtain ⟨⟨t247, t248⟩, A130, H⟩ := H
      replace H : (if t246 = 0 then ((next_Prev.f a0_0 a0_1 a0_2 a0_3 a0_4 a0_5 a0_6 a0_7 a0_8 a0_9 t245).bind fun bt249 => (if t243 = true then (if bt249.2 = 0 then (if bt249.1 = a1 then (complinelaw22_NextTurns.j1 kj4 a1 true t243 t245 t246 t247 t248 a0_0 a0_1 a0_2 a0_3 a0_4 a0_5 a0_6 a0_7 a0_8 a0_9) else (some false)) else (some false)) else (if bt249.2 = t248 then (if bt249.1 = t247 then (complinelaw22_NextTurns.j1 kj4 a1 true t243 t245 t246 t247 t248 a0_0 a0_1 a0_2 a0_3 a0_4 a0_5 a0_6 a0_7 a0_8 a0_9) else (some false)) else (some false)))) else (complinelaw22_NextTurns.j1 kj4 a1 true t243 t245 t246 t247 t248 a0_0 a0_1 a0_2 a0_3 a0_4 a0_5 a0_6 a0_7 a0_8 a0_9)) = some r := H
      have A13 := Aside0.mk A130
      clear A130
      have HC14 := Aside0.mk H
      clear H
      have hcz15_0 : wc.cell? ⟨gb241, 0, none⟩ = some (.int .u64 a0_0) := (blk_cell BK241.out 0).trans rfl
      have hcz15_1 : wc.cell? ⟨gb241, 1, none⟩ = some (.bool a0_1) := (blk_cell BK241.out 1).trans rfl
      have hcz15_2 : wc.cell? ⟨gb241, 2, none⟩ = some (.int .u64 a0_2) := (blk_cell BK241.out 2).trans rfl
      have hcz15_3 : wc.cell? ⟨gb241, 3, none⟩ = some (.bool a0_3) := (blk_cell BK241.out 3).trans rfl
      have hcz15_4 : wc.cell? ⟨gb241, 4, none⟩ = some (.int .u64 a0_4) := (blk_cell BK241.out 4).trans rfl
      have hcz15_5 : wc.cell? ⟨gb241, 5, none⟩ = some (.bool a0_5) := (blk_cell BK241.out 5).trans rfl
      have hcz15_6 : wc.cell? ⟨gb241, 6, none⟩ = some (.int .u64 a0_6) := (blk_cell BK241.out 6).trans rfl
      have hcz15_7 : wc.cell? ⟨gb241, 7, none⟩ = some (.bool a0_7) := (blk_cell BK241.out 7).trans rfl
      have hcz15_8 : wc.cell? ⟨gb241, 8, none⟩ = some (.int .u64 a0_8) := (blk_cell BK241.out 8).trans rfl
      have hcz15_9 : wc.cell? ⟨gb241, 9, none⟩ = some (.bool a0_9) := (blk_cell BK241.out 9).trans rfl
      have hfz15_0 := blk_frozen BK241.out 0
      have hfz15_1 := blk_frozen BK241.out 1
      have hfz15_2 := blk_frozen BK241.out 2
      have hfz15_3 := blk_frozen BK241.out 3
      have hfz15_4 := blk_frozen BK241.out 4
      have hfz15_5 := blk_frozen BK241.out 5
      have hfz15_6 := blk_frozen BK241.out 6
      have hfz15_7 := blk_frozen BK241.out 7
      have hfz15_8 := blk_frozen BK241.out 8
      have hfz15_9 := blk_frozen BK241.out 9
      go_upto_if 48 with (first | ((with_reducible refine gate_callee (f := 17) rfl ?_); refine goesL_ (some 29) rfl rfl Tryz.func17 (by kernel_rfl) rfl #[.agg #[.int .u64 a0_0, .bool a0_1, .int .u64 a0_2, .bool a0_3, .int .u64 a0_4, .bool a0_5, .int .u64 a0_6, .bool a0_7, .int .u64 a0_8, .bool a0_9], .int .i64 a1] rfl (by (try simp only [List.map_toArray, List.map_cons, List.map_nil]); first | done | rfl | (simp only [List.length_drop, List.length_take]; rfl)) ?_; (with_reducible refine (day_Match.calls a0_0 a0_1 a0_2 a0_3 a0_4 a0_5 a0_6 a0_7 a0_8 a0_9 a1 t243 t244 _ A10.out).mono ?_); rintro e w16 ⟨rfl, hb⟩; refine ⟨_, rfl, ?_⟩; have n0_ := Aside0.mk (blk_below (g := gb241) (o := .cells #[.int .u64 a0_0, .bool a0_1, .int .u64 a0_2, .bool a0_3, .int .u64 a0_4, .bool a0_5, .int .u64 a0_6, .bool a0_7, .int .u64 a0_8, .bool a0_9] 26 (0, 0)) (by (with_reducible repeat (first | refine blk_drewN ?_ _ | refine blk_drew ?_ | refine blk_alloc ?_ _)); exact BK241.out) hb); have n1_ := Aside0.mk (below_step (by repeat (first | (with_reducible first | exact HB.out | apply below_alloc | apply pw_below_drewN | apply below_drew1 | refine below_set ?_ GE241.out) | exact HB.out)) hb); clear BK241; clear HB; have BK241 := n0_; have HB := n1_; clear n0_ n1_; (try clear hb); (try clear hb2); (try clear hk); (try clear hi); have hcz17_0 : w16.cell? ⟨gb241, 0, none⟩ = some (.int .u64 a0_0) := (blk_cell BK241.out 0).trans rfl; have hcz17_1 : w16.cell? ⟨gb241, 1, none⟩ = some (.bool a0_1) := (blk_cell BK241.out 1).trans rfl; have hcz17_2 : w16.cell? ⟨gb241, 2, none⟩ = some (.int .u64 a0_2) := (blk_cell BK241.out 2).trans rfl; have hcz17_3 : w16.cell? ⟨gb241, 3, none⟩ = some (.bool a0_3) := (blk_cell BK241.out 3).trans rfl; have hcz17_4 : w16.cell? ⟨gb241, 4, none⟩ = some (.int .u64 a0_4) := (blk_cell BK241.out 4).trans rfl; have hcz17_5 : w16.cell? ⟨gb241, 5, none⟩ = some (.bool a0_5) := (blk_cell BK241.out 5).trans rfl; have hcz17_6 : w16.cell? ⟨gb241, 6, none⟩ = some (.int .u64 a0_6) := (blk_cell BK241.out 6).trans rfl; have hcz17_7 : w16.cell? ⟨gb241, 7, none⟩ = some (.bool a0_7) := (blk_cell BK241.out 7).trans rfl; have hcz17_8 : w16.cell? ⟨gb241, 8, none⟩ = some (.int .u64 a0_8) := (blk_cell BK241.out 8).trans rfl; have hcz17_9 : w16.cell? ⟨gb241, 9, none⟩ = some (.bool a0_9) := (blk_cell BK241.out 9).trans rfl; have hfz17_0 := blk_frozen BK241.out 0; have hfz17_1 := blk_frozen BK241.out 1; have hfz17_2 := blk_frozen BK241.out 2; have hfz17_3 := blk_frozen BK241.out 3; have hfz17_4 := blk_frozen BK241.out 4; have hfz17_5 := blk_frozen BK241.out 5; have hfz17_6 := blk_frozen BK241.out 6; have hfz17_7 := blk_frozen BK241.out 7; have hfz17_8 := blk_frozen BK241.out 8; have hfz17_9 := blk_frozen BK241.out 9) | ((with_reducible refine gate_callee (f := 11) rfl ?_); refine goesL_ (some 38) rfl rfl Tryz.func11 (by kernel_rfl) rfl #[.agg #[.int .u64 a0_0, .bool a0_1, .int .u64 a0_2, .bool a0_3, .int .u64 a0_4, .bool a0_5, .int .u64 a0_6, .bool a0_7, .int .u64 a0_8, .bool a0_9], .int .i64 a1] rfl (by (try simp only [List.map_toArray, List.map_cons, List.map_nil]); first | done | rfl | (simp only [List.length_drop, List.length_take]; rfl)) ?_; (with_reducible refine (next_Next.calls a0_0 a0_1 a0_2 a0_3 a0_4 a0_5 a0_6 a0_7 a0_8 a0_9 a1 t245 t246 _ (hT.keep (by repeat (first | (with_reducible first | exact HB.out | apply below_alloc | apply pw_below_drewN | apply below_drew1 | refine below_set ?_ GE241.out) | exact HB.out))) A12.out).mono ?_); rintro e w18 ⟨rfl, hb⟩; refine ⟨_, rfl, ?_⟩; have n0_ := Aside0.mk (blk_below (g := gb241) (o := .cells #[.int .u64 a0_0, .bool a0_1, .int .u64 a0_2, .bool a0_3, .int .u64 a0_4, .bool a0_5, .int .u64 a0_6, .bool a0_7, .int .u64 a0_8, .bool a0_9] 26 (0, 0)) (by (with_reducible repeat (first | refine blk_drewN ?_ _ | refine blk_drew ?_ | refine blk_alloc ?_ _)); exact BK241.out) hb); have n1_ := Aside0.mk (below_step (by repeat (first | (with_reducible first | exact HB.out | apply below_alloc | apply pw_below_drewN | apply below_drew1 | refine below_set ?_ GE241.out) | exact HB.out)) hb); clear BK241; clear HB; have BK241 := n0_; have HB := n1_; clear n0_ n1_; (try clear hb); (try clear hb2); (try clear hk); (try clear hi); have hcz19_0 : w18.cell? ⟨gb241, 0, none⟩ = some (.int .u64 a0_0) := (blk_cell BK241.out 0).trans rfl; have hcz19_1 : w18.cell? ⟨gb241, 1, none⟩ = some (.bool a0_1) := (blk_cell BK241.out 1).trans rfl; have hcz19_2 : w18.cell? ⟨gb241, 2, none⟩ = some (.int .u64 a0_2) := (blk_cell BK241.out 2).trans rfl; have hcz19_3 : w18.cell? ⟨gb241, 3, none⟩ = some (.bool a0_3) := (blk_cell BK241.out 3).trans rfl; have hcz19_4 : w18.cell? ⟨gb241, 4, none⟩ = some (.int .u64 a0_4) := (blk_cell BK241.out 4).trans rfl; have hcz19_5 : w18.cell? ⟨gb241, 5, none⟩ = some (.bool a0_5) := (blk_cell BK241.out 5).trans rfl; have hcz19_6 : w18.cell? ⟨gb241, 6, none⟩ = some (.int .u64 a0_6) := (blk_cell BK241.out 6).trans rfl; have hcz19_7 : w18.cell? ⟨gb241, 7, none⟩ = some (.bool a0_7) := (blk_cell BK241.out 7).trans rfl; have hcz19_8 : w18.cell? ⟨gb241, 8, none⟩ = some (.int .u64 a0_8) := (blk_cell BK241.out 8).trans rfl; have hcz19_9 : w18.cell? ⟨gb241, 9, none⟩ = some (.bool a0_9) := (blk_cell BK241.out 9).trans rfl; have hfz19_0 := blk_frozen BK241.out 0; have hfz19_1 := blk_frozen BK241.out 1; have hfz19_2 := blk_frozen BK241.out 2; have hfz19_3 := blk_frozen BK241.out 3; have hfz19_4 := blk_frozen BK241.out 4; have hfz19_5 := blk_frozen BK241.out 5; have hfz19_6 := blk_frozen BK241.out 6; have hfz19_7 := blk_frozen BK241.out 7; have hfz19_8 := blk_frozen BK241.out 8; have hfz19_9 := blk_frozen BK241.out 9) | ((with_reducible refine gate_callee (f := 13) rfl ?_); refine goesL_ (some 44) rfl rfl Tryz.func13 (by kernel_rfl) rfl #[.agg #[.int .u64 a0_0, .bool a0_1, .int .u64 a0_2, .bool a0_3, .int .u64 a0_4, .bool a0_5, .int .u64 a0_6, .bool a0_7, .int .u64 a0_8, .bool a0_9], .int .i64 a1] rfl (by (try simp only [List.map_toArray, List.map_cons, List.map_nil]); first | done | rfl | (simp only [List.length_drop, List.length_take]; rfl)) ?_; (with_reducible refine (next_Prev.calls a0_0 a0_1 a0_2 a0_3 a0_4 a0_5 a0_6 a0_7 a0_8 a0_9 a1 t247 t248 _ (hT.keep (by repeat (first | (with_reducible first | exact HB.out | apply below_alloc | apply pw_below_drewN | apply below_drew1 | refine below_set ?_ GE241.out) | exact HB.out))) A13.out).mono ?_); rintro e w20 ⟨rfl, hb⟩; refine ⟨_, rfl, ?_⟩; have n0_ := Aside0.mk (blk_below (g := gb241) (o := .cells #[.int .u64 a0_0, .bool a0_1, .int .u64 a0_2, .bool a0_3, .int .u64 a0_4, .bool a0_5, .int .u64 a0_6, .bool a0_7, .int .u64 a0_8, .bool a0_9] 26 (0, 0)) (by (with_reducible repeat (first | refine blk_drewN ?_ _ | refine blk_drew ?_ | refine blk_alloc ?_ _)); exact BK241.out) hb); have n1_ := Aside0.mk (below_step (by repeat (first | (with_reducible first | exact HB.out | apply below_alloc | apply pw_below_drewN | apply below_drew1 | refine below_set ?_ GE241.out) | exact HB.out)) hb); clear BK241; clear HB; have BK241 := n0_; have HB := n1_; clear n0_ n1_; (try clear hb); (try clear hb2); (try clear hk); (try clear hi)))
      (try simp only [Act.put, List.setIfInBounds_toArray, List.set_cons_zero, List.set_cons_succ])
      go_cut [] (fun wc => ∃ (kq : Nat), Aside0 (complinelaw22_NextTurns.j1 kq a1 true t243 t245 t246 t247 t248 a0_0 a0_1 a0_2 a0_3 a0_4 a0_5 a0_6 a0_7 a0_8 a0_9 = some r) ∧ Aside0 (kq ≤ kj4) ∧ Aside0 (wc.heap[gb241]? = some (.cells #[.int .u64 a0_0, .bool a0_1, .int .u64 a0_2, .bool a0_3, .int .u64 a0_4, .bool a0_5, .int .u64 a0_6, .bool a0_7, .int .u64 a0_8, .bool a0_9] 26 (0, 0))) ∧ Aside0 (Below w.heap.size w wc))
      case first =>
       have H := HC14.out
       clear HC14
       by_cases c21 : t246 = 0
       ·rw [if_pos c21] at H
        have c21b0 : (t246 == 0) = true := beq_iff_eq.mpr c21
        have c21b1 : (t246 != 0) = false := bne_eq_false_iff_eq.mpr c21
        clear c21
        (first | rw [c21b0] | (simp only [i64_w, i32_w]; rw [c21b0]) | skip)
        replace H := Option.bind_eq_some_iff.mp H
        obtain ⟨⟨t249, t250⟩, A220, H⟩ := H
        replace H : (if t243 = true then (if t250 = 0 then (if t249 = a1 then (complinelaw22_NextTurns.j1 kj4 a1 true t243 t245 t246 t247 t248 a0_0 a0_1 a0_2 a0_3 a0_4 a0_5 a0_6 a0_7 a0_8 a0_9) else (some false)) else (some false)) else (if t250 = t248 then (if t249 = t247 then (complinelaw22_NextTurns.j1 kj4 a1 true t243 t245 t246 t247 t248 a0_0 a0_1 a0_2 a0_3 a0_4 a0_5 a0_6 a0_7 a0_8 a0_9) else (some false)) else (some false))) = some r := H
        have A22 := Aside0.mk A220
        clear A220
        by_cases c23 : t243 = true
        ·subst c23
         have H1 : (if t250 = 0 then (if t249 = a1 then (complinelaw22_NextTurns.j1 kj4 a1 true true t245 t246 t247 t248 a0_0 a0_1 a0_2 a0_3 a0_4 a0_5 a0_6 a0_7 a0_8 a0_9) else (some false)) else (some false)) = some r := by first | (rw [if_pos rfl] at H; exact H) | (rw [if_pos trivial] at H; exact H)
         clear H
         have H := H1
         clear H1
         by_cases c24 : t250 = 0
         ·rw [if_pos c24] at H
          have c24b0 : (t250 == 0) = true := beq_iff_eq.mpr c24
          have c24b1 : (t250 != 0) = false := bne_eq_false_iff_eq.mpr c24
          clear c24
          by_cases c25 : t249 = a1
          ·rw [if_pos c25] at H
           have c25b0 : (t249 == a1) = true := beq_iff_eq.mpr c25
           have c25b1 : (t249 != a1) = false := bne_eq_false_iff_eq.mpr c25
           clear c25
           have H' := Aside0.mk H
           clear H
           have hcz26_0 : w20.cell? ⟨gb241, 0, none⟩ = some (.int .u64 a0_0) := (blk_cell BK241.out 0).trans rfl
           have hcz26_1 : w20.cell? ⟨gb241, 1, none⟩ = some (.bool a0_1) := (blk_cell BK241.out 1).trans rfl
           have hcz26_2 : w20.cell? ⟨gb241, 2, none⟩ = some (.int .u64 a0_2) := (blk_cell BK241.out 2).trans rfl
           have hcz26_3 : w20.cell? ⟨gb241, 3, none⟩ = some (.bool a0_3) := (blk_cell BK241.out 3).trans rfl
           have hcz26_4 : w20.cell? ⟨gb241, 4, none⟩ = some (.int .u64 a0_4) := (blk_cell BK241.out 4).trans rfl
           have hcz26_5 : w20.cell? ⟨gb241, 5, none⟩ = some (.bool a0_5) := (blk_cell BK241.out 5).trans rfl
           have hcz26_6 : w20.cell? ⟨gb241, 6, none⟩ = some (.int .u64 a0_6) := (blk_cell BK241.out 6).trans rfl
           have hcz26_7 : w20.cell? ⟨gb241, 7, none⟩ = some (.bool a0_7) := (blk_cell BK241.out 7).trans rfl
           have hcz26_8 : w20.cell? ⟨gb241, 8, none⟩ = some (.int .u64 a0_8) := (blk_cell BK241.out 8).trans rfl
           have hcz26_9 : w20.cell? ⟨gb241, 9, none⟩ = some (.bool a0_9) := (blk_cell BK241.out 9).trans rfl
           have hfz26_0 := blk_frozen BK241.out 0
           have hfz26_1 := blk_frozen BK241.out 1
           have hfz26_2 := blk_frozen BK241.out 2
           have hfz26_3 := blk_frozen BK241.out 3
           have hfz26_4 := blk_frozen BK241.out 4
           have hfz26_5 := blk_frozen BK241.out 5
           have hfz26_6 := blk_frozen BK241.out 6
           have hfz26_7 := blk_frozen BK241.out 7
           have hfz26_8 := blk_frozen BK241.out 8
           have hfz26_9 := blk_frozen BK241.out 9
           go_wp2_with (first | ((with_reducible refine gate_callee (f := 13) rfl ?_); refine goesL_ (some 52) rfl rfl Tryz.func13 (by kernel_rfl) rfl #[.agg #[.int .u64 a0_0, .bool a0_1, .int .u64 a0_2, .bool a0_3, .int .u64 a0_4, .bool a0_5, .int .u64 a0_6, .bool a0_7, .int .u64 a0_8, .bool a0_9], .int .i64 t245] rfl (by (try simp only [List.map_toArray, List.map_cons, List.map_nil]); first | done | rfl | (simp only [List.length_drop, List.length_take]; rfl)) ?_; (with_reducible refine (next_Prev.calls a0_0 a0_1 a0_2 a0_3 a0_4 a0_5 a0_6 a0_7 a0_8 a0_9 t245 t249 t250 _ (hT.keep (by repeat (first | (with_reducible first | exact HB.out | apply below_alloc | apply pw_below_drewN | apply below_drew1 | refine below_set ?_ GE241.out) | exact HB.out))) A22.out).mono ?_); rintro e w27 ⟨rfl, hb⟩; refine ⟨_, rfl, ?_⟩; have n0_ := Aside0.mk (blk_below (g := gb241) (o := .cells #[.int .u64 a0_0, .bool a0_1, .int .u64 a0_2, .bool a0_3, .int .u64 a0_4, .bool a0_5, .int .u64 a0_6, .bool a0_7, .int .u64 a0_8, .bool a0_9] 26 (0, 0)) (by (with_reducible repeat (first | refine blk_drewN ?_ _ | refine blk_drew ?_ | refine blk_alloc ?_ _)); exact BK241.out) hb); have n1_ := Aside0.mk (below_step (by repeat (first | (with_reducible first | exact HB.out | apply below_alloc | apply pw_below_drewN | apply below_drew1 | refine below_set ?_ GE241.out) | exact HB.out)) hb); clear BK241; clear HB; have BK241 := n0_; have HB := n1_; clear n0_ n1_; (try clear hb); (try clear hb2); (try clear hk); (try clear hi)))
           go_meet
           case rel => exact ⟨_, H', ⟨by have := HJ4.out; first | omega | exact Nat.le_refl _⟩, ⟨by (with_reducible repeat (first | refine blk_drewN ?_ _ | refine blk_drew ?_ | refine blk_alloc ?_ _)); exact BK241.out⟩, ⟨by repeat (first | (with_reducible first | exact HB.out | apply below_alloc | apply pw_below_drewN | apply below_drew1 | refine below_set ?_ GE241.out) | exact HB.out)⟩⟩
          ·rw [if_neg c25] at H
           have c25b0 : (t249 == a1) = false := beq_eq_false_iff_ne.mpr c25
           have c25b1 : (t249 != a1) = true := bne_iff_ne.mpr c25
           obtain rfl := Option.some.inj H
           have hcz28_0 : w20.cell? ⟨gb241, 0, none⟩ = some (.int .u64 a0_0) := (blk_cell BK241.out 0).trans rfl
           have hcz28_1 : w20.cell? ⟨gb241, 1, none⟩ = some (.bool a0_1) := (blk_cell BK241.out 1).trans rfl
           have hcz28_2 : w20.cell? ⟨gb241, 2, none⟩ = some (.int .u64 a0_2) := (blk_cell BK241.out 2).trans rfl
           have hcz28_3 : w20.cell? ⟨gb241, 3, none⟩ = some (.bool a0_3) := (blk_cell BK241.out 3).trans rfl
           have hcz28_4 : w20.cell? ⟨gb241, 4, none⟩ = some (.int .u64 a0_4) := (blk_cell BK241.out 4).trans rfl
           have hcz28_5 : w20.cell? ⟨gb241, 5, none⟩ = some (.bool a0_5) := (blk_cell BK241.out 5).trans rfl
           have hcz28_6 : w20.cell? ⟨gb241, 6, none⟩ = some (.int .u64 a0_6) := (blk_cell BK241.out 6).trans rfl
           have hcz28_7 : w20.cell? ⟨gb241, 7, none⟩ = some (.bool a0_7) := (blk_cell BK241.out 7).trans rfl
           have hcz28_8 : w20.cell? ⟨gb241, 8, none⟩ = some (.int .u64 a0_8) := (blk_cell BK241.out 8).trans rfl
           have hcz28_9 : w20.cell? ⟨gb241, 9, none⟩ = some (.bool a0_9) := (blk_cell BK241.out 9).trans rfl
           have hfz28_0 := blk_frozen BK241.out 0
           have hfz28_1 := blk_frozen BK241.out 1
           have hfz28_2 := blk_frozen BK241.out 2
           have hfz28_3 := blk_frozen BK241.out 3
           have hfz28_4 := blk_frozen BK241.out 4
           have hfz28_5 := blk_frozen BK241.out 5
           have hfz28_6 := blk_frozen BK241.out 6
           have hfz28_7 := blk_frozen BK241.out 7
           have hfz28_8 := blk_frozen BK241.out 8
           have hfz28_9 := blk_frozen BK241.out 9
           go_wp2_with (first | ((with_reducible refine gate_callee (f := 13) rfl ?_); refine goesL_ (some 52) rfl rfl Tryz.func13 (by kernel_rfl) rfl #[.agg #[.int .u64 a0_0, .bool a0_1, .int .u64 a0_2, .bool a0_3, .int .u64 a0_4, .bool a0_5, .int .u64 a0_6, .bool a0_7, .int .u64 a0_8, .bool a0_9], .int .i64 t245] rfl (by (try simp only [List.map_toArray, List.map_cons, List.map_nil]); first | done | rfl | (simp only [List.length_drop, List.length_take]; rfl)) ?_; (with_reducible refine (next_Prev.calls a0_0 a0_1 a0_2 a0_3 a0_4 a0_5 a0_6 a0_7 a0_8 a0_9 t245 t249 t250 _ (hT.keep (by repeat (first | (with_reducible first | exact HB.out | apply below_alloc | apply pw_below_drewN | apply below_drew1 | refine below_set ?_ GE241.out) | exact HB.out))) A22.out).mono ?_); rintro e w29 ⟨rfl, hb⟩; refine ⟨_, rfl, ?_⟩; have n0_ := Aside0.mk (blk_below (g := gb241) (o := .cells #[.int .u64 a0_0, .bool a0_1, .int .u64 a0_2, .bool a0_3, .int .u64 a0_4, .bool a0_5, .int .u64 a0_6, .bool a0_7, .int .u64 a0_8, .bool a0_9] 26 (0, 0)) (by (with_reducible repeat (first | refine blk_drewN ?_ _ | refine blk_drew ?_ | refine blk_alloc ?_ _)); exact BK241.out) hb); have n1_ := Aside0.mk (below_step (by repeat (first | (with_reducible first | exact HB.out | apply below_alloc | apply pw_below_drewN | apply below_drew1 | refine below_set ?_ GE241.out) | exact HB.out)) hb); clear BK241; clear HB; have BK241 := n0_; have HB := n1_; clear n0_ n1_; (try clear hb); (try clear hb2); (try clear hk); (try clear hi)))
           go_ret
           exact ⟨by first | rfl | (simp [*] <;> rfl), by repeat (first | (with_reducible first | exact HB.out | apply below_alloc | apply pw_below_drewN | apply below_drew1 | refine below_set ?_ GE241.out) | exact HB.out)⟩
         ·rw [if_neg c24] at H
          have c24b0 : (t250 == 0) = false := beq_eq_false_iff_ne.mpr c24
          have c24b1 : (t250 != 0) = true := bne_iff_ne.mpr c24
          obtain rfl := Option.some.inj H
          have hcz30_0 : w20.cell? ⟨gb241, 0, none⟩ = some (.int .u64 a0_0) := (blk_cell BK241.out 0).trans rfl
          have hcz30_1 : w20.cell? ⟨gb241, 1, none⟩ = some (.bool a0_1) := (blk_cell BK241.out 1).trans rfl
          have hcz30_2 : w20.cell? ⟨gb241, 2, none⟩ = some (.int .u64 a0_2) := (blk_cell BK241.out 2).trans rfl
          have hcz30_3 : w20.cell? ⟨gb241, 3, none⟩ = some (.bool a0_3) := (blk_cell BK241.out 3).trans rfl
          have hcz30_4 : w20.cell? ⟨gb241, 4, none⟩ = some (.int .u64 a0_4) := (blk_cell BK241.out 4).trans rfl
          have hcz30_5 : w20.cell? ⟨gb241, 5, none⟩ = some (.bool a0_5) := (blk_cell BK241.out 5).trans rfl
          have hcz30_6 : w20.cell? ⟨gb241, 6, none⟩ = some (.int .u64 a0_6) := (blk_cell BK241.out 6).trans rfl
          have hcz30_7 : w20.cell? ⟨gb241, 7, none⟩ = some (.bool a0_7) := (blk_cell BK241.out 7).trans rfl
          have hcz30_8 : w20.cell? ⟨gb241, 8, none⟩ = some (.int .u64 a0_8) := (blk_cell BK241.out 8).trans rfl
          have hcz30_9 : w20.cell? ⟨gb241, 9, none⟩ = some (.bool a0_9) := (blk_cell BK241.out 9).trans rfl
          have hfz30_0 := blk_frozen BK241.out 0
          have hfz30_1 := blk_frozen BK241.out 1
          have hfz30_2 := blk_frozen BK241.out 2
          have hfz30_3 := blk_frozen BK241.out 3
          have hfz30_4 := blk_frozen BK241.out 4
          have hfz30_5 := blk_frozen BK241.out 5
          have hfz30_6 := blk_frozen BK241.out 6
          have hfz30_7 := blk_frozen BK241.out 7
          have hfz30_8 := blk_frozen BK241.out 8
          have hfz30_9 := blk_frozen BK241.out 9
          go_wp2_with (first | ((with_reducible refine gate_callee (f := 13) rfl ?_); refine goesL_ (some 52) rfl rfl Tryz.func13 (by kernel_rfl) rfl #[.agg #[.int .u64 a0_0, .bool a0_1, .int .u64 a0_2, .bool a0_3, .int .u64 a0_4, .bool a0_5, .int .u64 a0_6, .bool a0_7, .int .u64 a0_8, .bool a0_9], .int .i64 t245] rfl (by (try simp only [List.map_toArray, List.map_cons, List.map_nil]); first | done | rfl | (simp only [List.length_drop, List.length_take]; rfl)) ?_; (with_reducible refine (next_Prev.calls a0_0 a0_1 a0_2 a0_3 a0_4 a0_5 a0_6 a0_7 a0_8 a0_9 t245 t249 t250 _ (hT.keep (by repeat (first | (with_reducible first | exact HB.out | apply below_alloc | apply pw_below_drewN | apply below_drew1 | refine below_set ?_ GE241.out) | exact HB.out))) A22.out).mono ?_); rintro e w31 ⟨rfl, hb⟩; refine ⟨_, rfl, ?_⟩; have n0_ := Aside0.mk (blk_below (g := gb241) (o := .cells #[.int .u64 a0_0, .bool a0_1, .int .u64 a0_2, .bool a0_3, .int .u64 a0_4, .bool a0_5, .int .u64 a0_6, .bool a0_7, .int .u64 a0_8, .bool a0_9] 26 (0, 0)) (by (with_reducible repeat (first | refine blk_drewN ?_ _ | refine blk_drew ?_ | refine blk_alloc ?_ _)); exact BK241.out) hb); have n1_ := Aside0.mk (below_step (by repeat (first | (with_reducible first | exact HB.out | apply below_alloc | apply pw_below_drewN | apply below_drew1 | refine below_set ?_ GE241.out) | exact HB.out)) hb); clear BK241; clear HB; have BK241 := n0_; have HB := n1_; clear n0_ n1_; (try clear hb); (try clear hb2); (try clear hk); (try clear hi)))
          go_ret
          exact ⟨by first | rfl | (simp [*] <;> rfl), by repeat (first | (with_reducible first | exact HB.out | apply below_alloc | apply pw_below_drewN | apply below_drew1 | refine below_set ?_ GE241.out) | exact HB.out)⟩
        ·replace c23 := Bool.eq_false_iff.mpr c23
         subst c23
         have H1 : (if t250 = t248 then (if t249 = t247 then (complinelaw22_NextTurns.j1 kj4 a1 true false t245 t246 t247 t248 a0_0 a0_1 a0_2 a0_3 a0_4 a0_5 a0_6 a0_7 a0_8 a0_9) else (some false)) else (some false)) = some r := by rw [if_neg (show ¬ (false = true) by decide)] at H; exact H
         clear H
         have H := H1
         clear H1
         by_cases c32 : t250 = t248
         ·rw [if_pos c32] at H
          have c32b0 : (t250 == t248) = true := beq_iff_eq.mpr c32
          have c32b1 : (t250 != t248) = false := bne_eq_false_iff_eq.mpr c32
          clear c32
          by_cases c33 : t249 = t247
          ·rw [if_pos c33] at H
           have c33b0 : (t249 == t247) = true := beq_iff_eq.mpr c33
           have c33b1 : (t249 != t247) = false := bne_eq_false_iff_eq.mpr c33
           clear c33
           have H' := Aside0.mk H
           clear H
           have hcz34_0 : w20.cell? ⟨gb241, 0, none⟩ = some (.int .u64 a0_0) := (blk_cell BK241.out 0).trans rfl
           have hcz34_1 : w20.cell? ⟨gb241, 1, none⟩ = some (.bool a0_1) := (blk_cell BK241.out 1).trans rfl
           have hcz34_2 : w20.cell? ⟨gb241, 2, none⟩ = some (.int .u64 a0_2) := (blk_cell BK241.out 2).trans rfl
           have hcz34_3 : w20.cell? ⟨gb241, 3, none⟩ = some (.bool a0_3) := (blk_cell BK241.out 3).trans rfl
           have hcz34_4 : w20.cell? ⟨gb241, 4, none⟩ = some (.int .u64 a0_4) := (blk_cell BK241.out 4).trans rfl
           have hcz34_5 : w20.cell? ⟨gb241, 5, none⟩ = some (.bool a0_5) := (blk_cell BK241.out 5).trans rfl
           have hcz34_6 : w20.cell? ⟨gb241, 6, none⟩ = some (.int .u64 a0_6) := (blk_cell BK241.out 6).trans rfl
           have hcz34_7 : w20.cell? ⟨gb241, 7, none⟩ = some (.bool a0_7) := (blk_cell BK241.out 7).trans rfl
           have hcz34_8 : w20.cell? ⟨gb241, 8, none⟩ = some (.int .u64 a0_8) := (blk_cell BK241.out 8).trans rfl
           have hcz34_9 : w20.cell? ⟨gb241, 9, none⟩ = some (.bool a0_9) := (blk_cell BK241.out 9).trans rfl
           have hfz34_0 := blk_frozen BK241.out 0
           have hfz34_1 := blk_frozen BK241.out 1
           have hfz34_2 := blk_frozen BK241.out 2
           have hfz34_3 := blk_frozen BK241.out 3
           have hfz34_4 := blk_frozen BK241.out 4
           have hfz34_5 := blk_frozen BK241.out 5
           have hfz34_6 := blk_frozen BK241.out 6
           have hfz34_7 := blk_frozen BK241.out 7
           have hfz34_8 := blk_frozen BK241.out 8
           have hfz34_9 := blk_frozen BK241.out 9
           go_wp2_with (first | ((with_reducible refine gate_callee (f := 13) rfl ?_); refine goesL_ (some 52) rfl rfl Tryz.func13 (by kernel_rfl) rfl #[.agg #[.int .u64 a0_0, .bool a0_1, .int .u64 a0_2, .bool a0_3, .int .u64 a0_4, .bool a0_5, .int .u64 a0_6, .bool a0_7, .int .u64 a0_8, .bool a0_9], .int .i64 t245] rfl (by (try simp only [List.map_toArray, List.map_cons, List.map_nil]); first | done | rfl | (simp only [List.length_drop, List.length_take]; rfl)) ?_; (with_reducible refine (next_Prev.calls a0_0 a0_1 a0_2 a0_3 a0_4 a0_5 a0_6 a0_7 a0_8 a0_9 t245 t249 t250 _ (hT.keep (by repeat (first | (with_reducible first | exact HB.out | apply below_alloc | apply pw_below_drewN | apply below_drew1 | refine below_set ?_ GE241.out) | exact HB.out))) A22.out).mono ?_); rintro e w35 ⟨rfl, hb⟩; refine ⟨_, rfl, ?_⟩; have n0_ := Aside0.mk (blk_below (g := gb241) (o := .cells #[.int .u64 a0_0, .bool a0_1, .int .u64 a0_2, .bool a0_3, .int .u64 a0_4, .bool a0_5, .int .u64 a0_6, .bool a0_7, .int .u64 a0_8, .bool a0_9] 26 (0, 0)) (by (with_reducible repeat (first | refine blk_drewN ?_ _ | refine blk_drew ?_ | refine blk_alloc ?_ _)); exact BK241.out) hb); have n1_ := Aside0.mk (below_step (by repeat (first | (with_reducible first | exact HB.out | apply below_alloc | apply pw_below_drewN | apply below_drew1 | refine below_set ?_ GE241.out) | exact HB.out)) hb); clear BK241; clear HB; have BK241 := n0_; have HB := n1_; clear n0_ n1_; (try clear hb); (try clear hb2); (try clear hk); (try clear hi)))
           go_meet
           case rel => exact ⟨_, H', ⟨by have := HJ4.out; first | omega | exact Nat.le_refl _⟩, ⟨by (with_reducible repeat (first | refine blk_drewN ?_ _ | refine blk_drew ?_ | refine blk_alloc ?_ _)); exact BK241.out⟩, ⟨by repeat (first | (with_reducible first | exact HB.out | apply below_alloc | apply pw_below_drewN | apply below_drew1 | refine below_set ?_ GE241.out) | exact HB.out)⟩⟩
          ·rw [if_neg c33] at H
           have c33b0 : (t249 == t247) = false := beq_eq_false_iff_ne.mpr c33
           have c33b1 : (t249 != t247) = true := bne_iff_ne.mpr c33
           obtain rfl := Option.some.inj H
           have hcz36_0 : w20.cell? ⟨gb241, 0, none⟩ = some (.int .u64 a0_0) := (blk_cell BK241.out 0).trans rfl
           have hcz36_1 : w20.cell? ⟨gb241, 1, none⟩ = some (.bool a0_1) := (blk_cell BK241.out 1).trans rfl
           have hcz36_2 : w20.cell? ⟨gb241, 2, none⟩ = some (.int .u64 a0_2) := (blk_cell BK241.out 2).trans rfl
           have hcz36_3 : w20.cell? ⟨gb241, 3, none⟩ = some (.bool a0_3) := (blk_cell BK241.out 3).trans rfl
           have hcz36_4 : w20.cell? ⟨gb241, 4, none⟩ = some (.int .u64 a0_4) := (blk_cell BK241.out 4).trans rfl
           have hcz36_5 : w20.cell? ⟨gb241, 5, none⟩ = some (.bool a0_5) := (blk_cell BK241.out 5).trans rfl
           have hcz36_6 : w20.cell? ⟨gb241, 6, none⟩ = some (.int .u64 a0_6) := (blk_cell BK241.out 6).trans rfl
           have hcz36_7 : w20.cell? ⟨gb241, 7, none⟩ = some (.bool a0_7) := (blk_cell BK241.out 7).trans rfl
           have hcz36_8 : w20.cell? ⟨gb241, 8, none⟩ = some (.int .u64 a0_8) := (blk_cell BK241.out 8).trans rfl
           have hcz36_9 : w20.cell? ⟨gb241, 9, none⟩ = some (.bool a0_9) := (blk_cell BK241.out 9).trans rfl
           have hfz36_0 := blk_frozen BK241.out 0
           have hfz36_1 := blk_frozen BK241.out 1
           have hfz36_2 := blk_frozen BK241.out 2
           have hfz36_3 := blk_frozen BK241.out 3
           have hfz36_4 := blk_frozen BK241.out 4
           have hfz36_5 := blk_frozen BK241.out 5
           have hfz36_6 := blk_frozen BK241.out 6
           have hfz36_7 := blk_frozen BK241.out 7
           have hfz36_8 := blk_frozen BK241.out 8
           have hfz36_9 := blk_frozen BK241.out 9
           go_wp2_with (first | ((with_reducible refine gate_callee (f := 13) rfl ?_); refine goesL_ (some 52) rfl rfl Tryz.func13 (by kernel_rfl) rfl #[.agg #[.int .u64 a0_0, .bool a0_1, .int .u64 a0_2, .bool a0_3, .int .u64 a0_4, .bool a0_5, .int .u64 a0_6, .bool a0_7, .int .u64 a0_8, .bool a0_9], .int .i64 t245] rfl (by (try simp only [List.map_toArray, List.map_cons, List.map_nil]); first | done | rfl | (simp only [List.length_drop, List.length_take]; rfl)) ?_; (with_reducible refine (next_Prev.calls a0_0 a0_1 a0_2 a0_3 a0_4 a0_5 a0_6 a0_7 a0_8 a0_9 t245 t249 t250 _ (hT.keep (by repeat (first | (with_reducible first | exact HB.out | apply below_alloc | apply pw_below_drewN | apply below_drew1 | refine below_set ?_ GE241.out) | exact HB.out))) A22.out).mono ?_); rintro e w37 ⟨rfl, hb⟩; refine ⟨_, rfl, ?_⟩; have n0_ := Aside0.mk (blk_below (g := gb241) (o := .cells #[.int .u64 a0_0, .bool a0_1, .int .u64 a0_2, .bool a0_3, .int .u64 a0_4, .bool a0_5, .int .u64 a0_6, .bool a0_7, .int .u64 a0_8, .bool a0_9] 26 (0, 0)) (by (with_reducible repeat (first | refine blk_drewN ?_ _ | refine blk_drew ?_ | refine blk_alloc ?_ _)); exact BK241.out) hb); have n1_ := Aside0.mk (below_step (by repeat (first | (with_reducible first | exact HB.out | apply below_alloc | apply pw_below_drewN | apply below_drew1 | refine below_set ?_ GE241.out) | exact HB.out)) hb); clear BK241; clear HB; have BK241 := n0_; have HB := n1_; clear n0_ n1_; (try clear hb); (try clear hb2); (try clear hk); (try clear hi)))
           go_ret
           exact ⟨by first | rfl | (simp [*] <;> rfl), by repeat (first | (with_reducible first | exact HB.out | apply below_alloc | apply pw_below_drewN | apply below_drew1 | refine below_set ?_ GE241.out) | exact HB.out)⟩
         ·rw [if_neg c32] at H
          have c32b0 : (t250 == t248) = false := beq_eq_false_iff_ne.mpr c32
          have c32b1 : (t250 != t248) = true := bne_iff_ne.mpr c32
          obtain rfl := Option.some.inj H
          have hcz38_0 : w20.cell? ⟨gb241, 0, none⟩ = some (.int .u64 a0_0) := (blk_cell BK241.out 0).trans rfl
          have hcz38_1 : w20.cell? ⟨gb241, 1, none⟩ = some (.bool a0_1) := (blk_cell BK241.out 1).trans rfl
          have hcz38_2 : w20.cell? ⟨gb241, 2, none⟩ = some (.int .u64 a0_2) := (blk_cell BK241.out 2).trans rfl
          have hcz38_3 : w20.cell? ⟨gb241, 3, none⟩ = some (.bool a0_3) := (blk_cell BK241.out 3).trans rfl
          have hcz38_4 : w20.cell? ⟨gb241, 4, none⟩ = some (.int .u64 a0_4) := (blk_cell BK241.out 4).trans rfl
          have hcz38_5 : w20.cell? ⟨gb241, 5, none⟩ = some (.bool a0_5) := (blk_cell BK241.out 5).trans rfl
          have hcz38_6 : w20.cell? ⟨gb241, 6, none⟩ = some (.int .u64 a0_6) := (blk_cell BK241.out 6).trans rfl
          have hcz38_7 : w20.cell? ⟨gb241, 7, none⟩ = some (.bool a0_7) := (blk_cell BK241.out 7).trans rfl
          have hcz38_8 : w20.cell? ⟨gb241, 8, none⟩ = some (.int .u64 a0_8) := (blk_cell BK241.out 8).trans rfl
          have hcz38_9 : w20.cell? ⟨gb241, 9, none⟩ = some (.bool a0_9) := (blk_cell BK241.out 9).trans rfl
          have hfz38_0 := blk_frozen BK241.out 0
          have hfz38_1 := blk_frozen BK241.out 1
          have hfz38_2 := blk_frozen BK241.out 2
          have hfz38_3 := blk_frozen BK241.out 3
          have hfz38_4 := blk_frozen BK241.out 4
          have hfz38_5 := blk_frozen BK241.out 5
          have hfz38_6 := blk_frozen BK241.out 6
          have hfz38_7 := blk_frozen BK241.out 7
          have hfz38_8 := blk_frozen BK241.out 8
          have hfz38_9 := blk_frozen BK241.out 9
          go_wp2_with (first | ((with_reducible refine gate_callee (f := 13) rfl ?_); refine goesL_ (some 52) rfl rfl Tryz.func13 (by kernel_rfl) rfl #[.agg #[.int .u64 a0_0, .bool a0_1, .int .u64 a0_2, .bool a0_3, .int .u64 a0_4, .bool a0_5, .int .u64 a0_6, .bool a0_7, .int .u64 a0_8, .bool a0_9], .int .i64 t245] rfl (by (try simp only [List.map_toArray, List.map_cons, List.map_nil]); first | done | rfl | (simp only [List.length_drop, List.length_take]; rfl)) ?_; (with_reducible refine (next_Prev.calls a0_0 a0_1 a0_2 a0_3 a0_4 a0_5 a0_6 a0_7 a0_8 a0_9 t245 t249 t250 _ (hT.keep (by repeat (first | (with_reducible first | exact HB.out | apply below_alloc | apply pw_below_drewN | apply below_drew1 | refine below_set ?_ GE241.out) | exact HB.out))) A22.out).mono ?_); rintro e w39 ⟨rfl, hb⟩; refine ⟨_, rfl, ?_⟩; have n0_ := Aside0.mk (blk_below (g := gb241) (o := .cells #[.int .u64 a0_0, .bool a0_1, .int .u64 a0_2, .bool a0_3, .int .u64 a0_4, .bool a0_5, .int .u64 a0_6, .bool a0_7, .int .u64 a0_8, .bool a0_9] 26 (0, 0)) (by (with_reducible repeat (first | refine blk_drewN ?_ _ | refine blk_drew ?_ | refine blk_alloc ?_ _)); exact BK241.out) hb); have n1_ := Aside0.mk (below_step (by repeat (first | (with_reducible first | exact HB.out | apply below_alloc | apply pw_below_drewN | apply below_drew1 | refine below_set ?_ GE241.out) | exact HB.out)) hb); clear BK241; clear HB; have BK241 := n0_; have HB := n1_; clear n0_ n1_; (try clear hb); (try clear hb2); (try clear hk); (try clear hi)))
          go_ret
          exact ⟨by first | rfl | (simp [*] <;> rfl), by repeat (first | (with_reducible first | exact HB.out | apply below_alloc | apply pw_below_drewN | apply below_drew1 | refine below_set ?_ GE241.out) | exact HB.out)⟩
       ·rw [if_neg c21] at H
        have c21b0 : (t246 == 0) = false := beq_eq_false_iff_ne.mpr c21
        have c21b1 : (t246 != 0) = true := bne_iff_ne.mpr c21
        (first | rw [c21b0] | (simp only [i64_w, i32_w]; rw [c21b0]) | skip)
        have H' := Aside0.mk H
        clear H
        go_wp2
        go_meet
        case rel => exact ⟨_, H', ⟨by have := HJ4.out; first | omega | exact Nat.le_refl _⟩, ⟨by (with_reducible repeat (first | refine blk_drewN ?_ _ | refine blk_drew ?_ | refine blk_alloc ?_ _)); exact BK241.out⟩, ⟨by repeat (first | (with_reducible first | exact HB.out | apply below_alloc | apply pw_below_drewN | apply below_drew1 | refine below_set ?_ GE241.out) | exact HB.out)⟩⟩
      case rest =>
       clear HC14
       try clear c4
       try clear c8
       try clear c8b0
       try clear c9
       try clear c11
       try clear c11b0
       try clear c11b1
       try clear c21
       try clear c21b0
       try clear c21b1
       try clear c23
       try clear c24
       try clear c24b0
       try clear c24b1
       try clear c25
       try clear c25b0
       try clear c25b1
       try clear c32
       try clear c32b0
       try clear c32b1
       try clear c33
       try clear c33b0
       try clear c33b1
       try clear hcz15_0
       try clear hcz15_1
       try clear hcz15_2
       try clear hcz15_3
       try clear hcz15_4
       try clear hcz15_5
       try clear hcz15_6
       try clear hcz15_7
       try clear hcz15_8
       try clear hcz15_9
       try clear hcz17_0
       try clear hcz17_1
       try clear hcz17_2
       try clear hcz17_3
       try clear hcz17_4
       try clear hcz17_5
       try clear hcz17_6
       try clear hcz17_7
       try clear hcz17_8
       try clear hcz17_9
       try clear hcz19_0
       try clear hcz19_1
       try clear hcz19_2
       try clear hcz19_3
       try clear hcz19_4
       try clear hcz19_5
       try clear hcz19_6
       try clear hcz19_7
       try clear hcz19_8
       try clear hcz19_9
       try clear hcz26_0
       try clear hcz26_1
       try clear hcz26_2
       try clear hcz26_3
       try clear hcz26_4
       try clear hcz26_5
       try clear hcz26_6
       try clear hcz26_7
       try clear hcz26_8
       try clear hcz26_9
       try clear hcz28_0
       try clear hcz28_1
       try clear hcz28_2
       try clear hcz28_3
       try clear hcz28_4
       try clear hcz28_5
       try clear hcz28_6
       try clear hcz28_7
       try clear hcz28_8
       try clear hcz28_9
       try clear hcz30_0
       try clear hcz30_1
       try clear hcz30_2
       try clear hcz30_3
       try clear hcz30_4
       try clear hcz30_5
       try clear hcz30_6
       try clear hcz30_7
       try clear hcz30_8
       try clear hcz30_9
       try clear hcz34_0
       try clear hcz34_1
       try clear hcz34_2
       try clear hcz34_3
       try clear hcz34_4
       try clear hcz34_5
       try clear hcz34_6
       try clear hcz34_7
       try clear hcz34_8
       try clear hcz34_9
       try clear hcz36_0
       try clear hcz36_1
       try clear hcz36_2
       try clear hcz36_3
       try clear hcz36_4
       try clear hcz36_5
       try clear hcz36_6
       try clear hcz36_7
       try clear hcz36_8
       try clear hcz36_9
       try clear hcz38_0
       try clear hcz38_1
       try clear hcz38_2
       try clear hcz38_3
       try clear hcz38_4
       try clear hcz38_5
       try clear hcz38_6
       try clear hcz38_7
       try clear hcz38_8
       try clear hcz38_9
       try clear hfz15_0
       try clear hfz15_1
       try clear hfz15_2
       try clear hfz15_3
       try clear hfz15_4
       try clear hfz15_5
       try clear hfz15_6
       try clear hfz15_7
       try clear hfz15_8
       try clear hfz15_9
       try clear hfz17_0
       try clear hfz17_1
       try clear hfz17_2
       try clear hfz17_3
       try clear hfz17_4
       try clear hfz17_5
       try clear hfz17_6
       try clear hfz17_7
       try clear hfz17_8
       try clear hfz17_9
       try clear hfz19_0
       try clear hfz19_1
       try clear hfz19_2
       try clear hfz19_3
       try clear hfz19_4
       try clear hfz19_5
       try clear hfz19_6
       try clear hfz19_7
       try clear hfz19_8
       try clear hfz19_9
       try clear hfz26_0
       try clear hfz26_1
       try clear hfz26_2
       try clear hfz26_3
       try clear hfz26_4
       try clear hfz26_5
       try clear hfz26_6
       try clear hfz26_7
       try clear hfz26_8
       try clear hfz26_9
       try clear hfz28_0
       try clear hfz28_1
       try clear hfz28_2
       try clear hfz28_3
       try clear hfz28_4
       try clear hfz28_5
       try clear hfz28_6
       try clear hfz28_7
       try clear hfz28_8
       try clear hfz28_9
       try clear hfz30_0
       try clear hfz30_1
       try clear hfz30_2
       try clear hfz30_3
       try clear hfz30_4
       try clear hfz30_5
       try clear hfz30_6
       try clear hfz30_7
       try clear hfz30_8
       try clear hfz30_9
       try clear hfz34_0
       try clear hfz34_1
       try clear hfz34_2
       try clear hfz34_3
       try clear hfz34_4
       try clear hfz34_5
       try clear hfz34_6
       try clear hfz34_7
       try clear hfz34_8
       try clear hfz34_9
       try clear hfz36_0
       try clear hfz36_1
       try clear hfz36_2
       try clear hfz36_3
       try clear hfz36_4
       try clear hfz36_5
       try clear hfz36_6
       try clear hfz36_7
       try clear hfz36_8
       try clear hfz36_9
       try clear hfz38_0
       try clear hfz38_1
       try clear hfz38_2
       try clear hfz38_3
       try clear hfz38_4
       try clear hfz38_5
       try clear hfz38_6
       try clear hfz38_7
       try clear hfz38_8
       try clear hfz38_9
       obtain ⟨kq, HA, HJ13, BK241, HB⟩ := hcut
       cases kq with
       | zero => exact absurd HA.out (by simp [complinelaw22_NextTurns.j1])
       | succ kj13 =>
        have H := HA.out
        clear HA
        simp only [complinelaw22_NextTurns.j1] at H
        by_cases c40 : t248 = 0
        ·rw [if_pos c40] at H
         have c40b0 : (t248 == 0) = true := beq_iff_eq.mpr c40
         have c40b1 : (t248 != 0) = false := bne_eq_false_iff_eq.mpr c40
         clear c40
         replace H := Option.bind_eq_some_iff.mp H
         obtain ⟨⟨t251, t252⟩, A410, H⟩ := H
         replace H : (if t243 = true then (if t252 = 0 then (if t251 = a1 then (if true = true then (if t246 = 0 then (if t245 > a1 then (if t247 < a1 then (some true) else (if t248 = 11 then (some (t247 == 0)) else (some false))) else (if t246 = 11 then (if t245 = 0 then (if t247 < a1 then (some true) else (if t248 = 11 then (some (t247 == 0)) else (some false))) else (some false)) else (some false))) else (if t246 = 11 then (if t245 = 0 then (if t247 < a1 then (some true) else (if t248 = 11 then (some (t247 == 0)) else (some false))) else (some false)) else (some false))) else (some false)) else (some false)) else (some false)) else (if t252 = t246 then (if t251 = t245 then (if true = true then (if t246 = 0 then (if t245 > a1 then (if t247 < a1 then (some true) else (if t248 = 11 then (some (t247 == 0)) else (some false))) else (if t246 = 11 then (if t245 = 0 then (if t247 < a1 then (some true) else (if t248 = 11 then (some (t247 == 0)) else (some false))) else (some false)) else (some false))) else (if t246 = 11 then (if t245 = 0 then (if t247 < a1 then (some true) else (if t248 = 11 then (some (t247 == 0)) else (some false))) else (some false)) else (some false))) else (some false)) else (some false)) else (some false))) = some r := H
         have A41 := Aside0.mk A410
         clear A410
         by_cases c42 : t243 = true
         ·subst c42
          have H1 : (if t252 = 0 then (if t251 = a1 then (if true = true then (if t246 = 0 then (if t245 > a1 then (if t247 < a1 then (some true) else (if t248 = 11 then (some (t247 == 0)) else (some false))) else (if t246 = 11 then (if t245 = 0 then (if t247 < a1 then (some true) else (if t248 = 11 then (some (t247 == 0)) else (some false))) else (some false)) else (some false))) else (if t246 = 11 then (if t245 = 0 then (if t247 < a1 then (some true) else (if t248 = 11 then (some (t247 == 0)) else (some false))) else (some false)) else (some false))) else (some false)) else (some false)) else (some false)) = some r := by first | (rw [if_pos rfl] at H; exact H) | (rw [if_pos trivial] at H; exact H)
          clear H
          have H := H1
          clear H1
          by_cases c43 : t252 = 0
          ·rw [if_pos c43] at H
           have c43b0 : (t252 == 0) = true := beq_iff_eq.mpr c43
           have c43b1 : (t252 != 0) = false := bne_eq_false_iff_eq.mpr c43
           clear c43
           by_cases c44 : t251 = a1
           ·rw [if_pos c44] at H
            have c44b0 : (t251 == a1) = true := beq_iff_eq.mpr c44
            have c44b1 : (t251 != a1) = false := bne_eq_false_iff_eq.mpr c44
            clear c44
            by_cases c45 : true = true
            ·clear c45
             have H1 : (if t246 = 0 then (if t245 > a1 then (if t247 < a1 then (some true) else (if t248 = 11 then (some (t247 == 0)) else (some false))) else (if t246 = 11 then (if t245 = 0 then (if t247 < a1 then (some true) else (if t248 = 11 then (some (t247 == 0)) else (some false))) else (some false)) else (some false))) else (if t246 = 11 then (if t245 = 0 then (if t247 < a1 then (some true) else (if t248 = 11 then (some (t247 == 0)) else (some false))) else (some false)) else (some false))) = some r := by first | (rw [if_pos rfl] at H; exact H) | (rw [if_pos trivial] at H; exact H)
             clear H
             have H := H1
             clear H1
             by_cases c46 : t246 = 0
             ·rw [if_pos c46] at H
              have c46b0 : (t246 == 0) = true := beq_iff_eq.mpr c46
              have c46b1 : (t246 != 0) = false := bne_eq_false_iff_eq.mpr c46
              clear c46
              by_cases c47 : t245 > a1
              ·rw [if_pos c47] at H
               have c47b0 : decide (a1 < t245) = true := decide_eq_true c47
               clear c47
               by_cases c48 : t247 < a1
               ·rw [if_pos c48] at H
                have c48b0 : decide (t247 < a1) = true := decide_eq_true c48
                clear c48
                obtain rfl := Option.some.inj H
                have hcz49_0 : wc.cell? ⟨gb241, 0, none⟩ = some (.int .u64 a0_0) := (blk_cell BK241.out 0).trans rfl
                have hcz49_1 : wc.cell? ⟨gb241, 1, none⟩ = some (.bool a0_1) := (blk_cell BK241.out 1).trans rfl
                have hcz49_2 : wc.cell? ⟨gb241, 2, none⟩ = some (.int .u64 a0_2) := (blk_cell BK241.out 2).trans rfl
                have hcz49_3 : wc.cell? ⟨gb241, 3, none⟩ = some (.bool a0_3) := (blk_cell BK241.out 3).trans rfl
                have hcz49_4 : wc.cell? ⟨gb241, 4, none⟩ = some (.int .u64 a0_4) := (blk_cell BK241.out 4).trans rfl
                have hcz49_5 : wc.cell? ⟨gb241, 5, none⟩ = some (.bool a0_5) := (blk_cell BK241.out 5).trans rfl
                have hcz49_6 : wc.cell? ⟨gb241, 6, none⟩ = some (.int .u64 a0_6) := (blk_cell BK241.out 6).trans rfl
                have hcz49_7 : wc.cell? ⟨gb241, 7, none⟩ = some (.bool a0_7) := (blk_cell BK241.out 7).trans rfl
                have hcz49_8 : wc.cell? ⟨gb241, 8, none⟩ = some (.int .u64 a0_8) := (blk_cell BK241.out 8).trans rfl
                have hcz49_9 : wc.cell? ⟨gb241, 9, none⟩ = some (.bool a0_9) := (blk_cell BK241.out 9).trans rfl
                have hfz49_0 := blk_frozen BK241.out 0
                have hfz49_1 := blk_frozen BK241.out 1
                have hfz49_2 := blk_frozen BK241.out 2
                have hfz49_3 := blk_frozen BK241.out 3
                have hfz49_4 := blk_frozen BK241.out 4
                have hfz49_5 := blk_frozen BK241.out 5
                have hfz49_6 := blk_frozen BK241.out 6
                have hfz49_7 := blk_frozen BK241.out 7
                have hfz49_8 := blk_frozen BK241.out 8
                have hfz49_9 := blk_frozen BK241.out 9
                go_wp2_with (first | ((with_reducible refine gate_callee (f := 11) rfl ?_); refine goesL_ (some 84) rfl rfl Tryz.func11 (by kernel_rfl) rfl #[.agg #[.int .u64 a0_0, .bool a0_1, .int .u64 a0_2, .bool a0_3, .int .u64 a0_4, .bool a0_5, .int .u64 a0_6, .bool a0_7, .int .u64 a0_8, .bool a0_9], .int .i64 t247] rfl (by (try simp only [List.map_toArray, List.map_cons, List.map_nil]); first | done | rfl | (simp only [List.length_drop, List.length_take]; rfl)) ?_; (with_reducible refine (next_Next.calls a0_0 a0_1 a0_2 a0_3 a0_4 a0_5 a0_6 a0_7 a0_8 a0_9 t247 t251 t252 _ (hT.keep (by repeat (first | (with_reducible first | exact HB.out | apply below_alloc | apply pw_below_drewN | apply below_drew1 | refine below_set ?_ GE241.out) | exact HB.out))) A41.out).mono ?_); rintro e w50 ⟨rfl, hb⟩; refine ⟨_, rfl, ?_⟩; have n0_ := Aside0.mk (blk_below (g := gb241) (o := .cells #[.int .u64 a0_0, .bool a0_1, .int .u64 a0_2, .bool a0_3, .int .u64 a0_4, .bool a0_5, .int .u64 a0_6, .bool a0_7, .int .u64 a0_8, .bool a0_9] 26 (0, 0)) (by (with_reducible repeat (first | refine blk_drewN ?_ _ | refine blk_drew ?_ | refine blk_alloc ?_ _)); exact BK241.out) hb); have n1_ := Aside0.mk (below_step (by repeat (first | (with_reducible first | exact HB.out | apply below_alloc | apply pw_below_drewN | apply below_drew1 | refine below_set ?_ GE241.out) | exact HB.out)) hb); clear BK241; clear HB; have BK241 := n0_; have HB := n1_; clear n0_ n1_; (try clear hb); (try clear hb2); (try clear hk); (try clear hi)))
                go_ret
                exact ⟨by first | rfl | (simp [*] <;> rfl), by repeat (first | (with_reducible first | exact HB.out | apply below_alloc | apply pw_below_drewN | apply below_drew1 | refine below_set ?_ GE241.out) | exact HB.out)⟩
               ·rw [if_neg c48] at H
                have c48b0 : decide (t247 < a1) = false := decide_eq_false c48
                clear c48
                by_cases c51 : t248 = 11
                ·rw [if_pos c51] at H
                 have c51b0 : (t248 == 11) = true := beq_iff_eq.mpr c51
                 have c51b1 : (t248 != 11) = false := bne_eq_false_iff_eq.mpr c51
                 clear c51
                 obtain rfl := Option.some.inj H
                 have hcz52_0 : wc.cell? ⟨gb241, 0, none⟩ = some (.int .u64 a0_0) := (blk_cell BK241.out 0).trans rfl
                 have hcz52_1 : wc.cell? ⟨gb241, 1, none⟩ = some (.bool a0_1) := (blk_cell BK241.out 1).trans rfl
                 have hcz52_2 : wc.cell? ⟨gb241, 2, none⟩ = some (.int .u64 a0_2) := (blk_cell BK241.out 2).trans rfl
                 have hcz52_3 : wc.cell? ⟨gb241, 3, none⟩ = some (.bool a0_3) := (blk_cell BK241.out 3).trans rfl
                 have hcz52_4 : wc.cell? ⟨gb241, 4, none⟩ = some (.int .u64 a0_4) := (blk_cell BK241.out 4).trans rfl
                 have hcz52_5 : wc.cell? ⟨gb241, 5, none⟩ = some (.bool a0_5) := (blk_cell BK241.out 5).trans rfl
                 have hcz52_6 : wc.cell? ⟨gb241, 6, none⟩ = some (.int .u64 a0_6) := (blk_cell BK241.out 6).trans rfl
                 have hcz52_7 : wc.cell? ⟨gb241, 7, none⟩ = some (.bool a0_7) := (blk_cell BK241.out 7).trans rfl
                 have hcz52_8 : wc.cell? ⟨gb241, 8, none⟩ = some (.int .u64 a0_8) := (blk_cell BK241.out 8).trans rfl
                 have hcz52_9 : wc.cell? ⟨gb241, 9, none⟩ = some (.bool a0_9) := (blk_cell BK241.out 9).trans rfl
                 have hfz52_0 := blk_frozen BK241.out 0
                 have hfz52_1 := blk_frozen BK241.out 1
                 have hfz52_2 := blk_frozen BK241.out 2
                 have hfz52_3 := blk_frozen BK241.out 3
                 have hfz52_4 := blk_frozen BK241.out 4
                 have hfz52_5 := blk_frozen BK241.out 5
                 have hfz52_6 := blk_frozen BK241.out 6
                 have hfz52_7 := blk_frozen BK241.out 7
                 have hfz52_8 := blk_frozen BK241.out 8
                 have hfz52_9 := blk_frozen BK241.out 9
                 go_wp2_with (first | ((with_reducible refine gate_callee (f := 11) rfl ?_); refine goesL_ (some 84) rfl rfl Tryz.func11 (by kernel_rfl) rfl #[.agg #[.int .u64 a0_0, .bool a0_1, .int .u64 a0_2, .bool a0_3, .int .u64 a0_4, .bool a0_5, .int .u64 a0_6, .bool a0_7, .int .u64 a0_8, .bool a0_9], .int .i64 t247] rfl (by (try simp only [List.map_toArray, List.map_cons, List.map_nil]); first | done | rfl | (simp only [List.length_drop, List.length_take]; rfl)) ?_; (with_reducible refine (next_Next.calls a0_0 a0_1 a0_2 a0_3 a0_4 a0_5 a0_6 a0_7 a0_8 a0_9 t247 t251 t252 _ (hT.keep (by repeat (first | (with_reducible first | exact HB.out | apply below_alloc | apply pw_below_drewN | apply below_drew1 | refine below_set ?_ GE241.out) | exact HB.out))) A41.out).mono ?_); rintro e w53 ⟨rfl, hb⟩; refine ⟨_, rfl, ?_⟩; have n0_ := Aside0.mk (blk_below (g := gb241) (o := .cells #[.int .u64 a0_0, .bool a0_1, .int .u64 a0_2, .bool a0_3, .int .u64 a0_4, .bool a0_5, .int .u64 a0_6, .bool a0_7, .int .u64 a0_8, .bool a0_9] 26 (0, 0)) (by (with_reducible repeat (first | refine blk_drewN ?_ _ | refine blk_drew ?_ | refine blk_alloc ?_ _)); exact BK241.out) hb); have n1_ := Aside0.mk (below_step (by repeat (first | (with_reducible first | exact HB.out | apply below_alloc | apply pw_below_drewN | apply below_drew1 | refine below_set ?_ GE241.out) | exact HB.out)) hb); clear BK241; clear HB; have BK241 := n0_; have HB := n1_; clear n0_ n1_; (try clear hb); (try clear hb2); (try clear hk); (try clear hi)))
                 go_ret
                 exact ⟨by first | rfl | (simp [*] <;> rfl), by repeat (first | (with_reducible first | exact HB.out | apply below_alloc | apply pw_below_drewN | apply below_drew1 | refine below_set ?_ GE241.out) | exact HB.out)⟩
                ·rw [if_neg c51] at H
                 have c51b0 : (t248 == 11) = false := beq_eq_false_iff_ne.mpr c51
                 have c51b1 : (t248 != 11) = true := bne_iff_ne.mpr c51
                 obtain rfl := Option.some.inj H
                 have hcz54_0 : wc.cell? ⟨gb241, 0, none⟩ = some (.int .u64 a0_0) := (blk_cell BK241.out 0).trans rfl
                 have hcz54_1 : wc.cell? ⟨gb241, 1, none⟩ = some (.bool a0_1) := (blk_cell BK241.out 1).trans rfl
                 have hcz54_2 : wc.cell? ⟨gb241, 2, none⟩ = some (.int .u64 a0_2) := (blk_cell BK241.out 2).trans rfl
                 have hcz54_3 : wc.cell? ⟨gb241, 3, none⟩ = some (.bool a0_3) := (blk_cell BK241.out 3).trans rfl
                 have hcz54_4 : wc.cell? ⟨gb241, 4, none⟩ = some (.int .u64 a0_4) := (blk_cell BK241.out 4).trans rfl
                 have hcz54_5 : wc.cell? ⟨gb241, 5, none⟩ = some (.bool a0_5) := (blk_cell BK241.out 5).trans rfl
                 have hcz54_6 : wc.cell? ⟨gb241, 6, none⟩ = some (.int .u64 a0_6) := (blk_cell BK241.out 6).trans rfl
                 have hcz54_7 : wc.cell? ⟨gb241, 7, none⟩ = some (.bool a0_7) := (blk_cell BK241.out 7).trans rfl
                 have hcz54_8 : wc.cell? ⟨gb241, 8, none⟩ = some (.int .u64 a0_8) := (blk_cell BK241.out 8).trans rfl
                 have hcz54_9 : wc.cell? ⟨gb241, 9, none⟩ = some (.bool a0_9) := (blk_cell BK241.out 9).trans rfl
                 have hfz54_0 := blk_frozen BK241.out 0
                 have hfz54_1 := blk_frozen BK241.out 1
                 have hfz54_2 := blk_frozen BK241.out 2
                 have hfz54_3 := blk_frozen BK241.out 3
                 have hfz54_4 := blk_frozen BK241.out 4
                 have hfz54_5 := blk_frozen BK241.out 5
                 have hfz54_6 := blk_frozen BK241.out 6
                 have hfz54_7 := blk_frozen BK241.out 7
                 have hfz54_8 := blk_frozen BK241.out 8
                 have hfz54_9 := blk_frozen BK241.out 9
                 go_wp2_with (first | ((with_reducible refine gate_callee (f := 11) rfl ?_); refine goesL_ (some 84) rfl rfl Tryz.func11 (by kernel_rfl) rfl #[.agg #[.int .u64 a0_0, .bool a0_1, .int .u64 a0_2, .bool a0_3, .int .u64 a0_4, .bool a0_5, .int .u64 a0_6, .bool a0_7, .int .u64 a0_8, .bool a0_9], .int .i64 t247] rfl (by (try simp only [List.map_toArray, List.map_cons, List.map_nil]); first | done | rfl | (simp only [List.length_drop, List.length_take]; rfl)) ?_; (with_reducible refine (next_Next.calls a0_0 a0_1 a0_2 a0_3 a0_4 a0_5 a0_6 a0_7 a0_8 a0_9 t247 t251 t252 _ (hT.keep (by repeat (first | (with_reducible first | exact HB.out | apply below_alloc | apply pw_below_drewN | apply below_drew1 | refine below_set ?_ GE241.out) | exact HB.out))) A41.out).mono ?_); rintro e w55 ⟨rfl, hb⟩; refine ⟨_, rfl, ?_⟩; have n0_ := Aside0.mk (blk_below (g := gb241) (o := .cells #[.int .u64 a0_0, .bool a0_1, .int .u64 a0_2, .bool a0_3, .int .u64 a0_4, .bool a0_5, .int .u64 a0_6, .bool a0_7, .int .u64 a0_8, .bool a0_9] 26 (0, 0)) (by (with_reducible repeat (first | refine blk_drewN ?_ _ | refine blk_drew ?_ | refine blk_alloc ?_ _)); exact BK241.out) hb); have n1_ := Aside0.mk (below_step (by repeat (first | (with_reducible first | exact HB.out | apply below_alloc | apply pw_below_drewN | apply below_drew1 | refine below_set ?_ GE241.out) | exact HB.out)) hb); clear BK241; clear HB; have BK241 := n0_; have HB := n1_; clear n0_ n1_; (try clear hb); (try clear hb2); (try clear hk); (try clear hi)))
                 go_ret
                 exact ⟨by first | rfl | (simp [*] <;> rfl), by repeat (first | (with_reducible first | exact HB.out | apply below_alloc | apply pw_below_drewN | apply below_drew1 | refine below_set ?_ GE241.out) | exact HB.out)⟩
              ·rw [if_neg c47] at H
               have c47b0 : decide (a1 < t245) = false := decide_eq_false c47
               clear c47
               by_cases c56 : t246 = 11
               ·rw [if_pos c56] at H
                have c56b0 : (t246 == 11) = true := beq_iff_eq.mpr c56
                have c56b1 : (t246 != 11) = false := bne_eq_false_iff_eq.mpr c56
                clear c56
                by_cases c57 : t245 = 0
                ·rw [if_pos c57] at H
                 have c57b0 : (t245 == 0) = true := beq_iff_eq.mpr c57
                 have c57b1 : (t245 != 0) = false := bne_eq_false_iff_eq.mpr c57
                 clear c57
                 by_cases c58 : t247 < a1
                 ·rw [if_pos c58] at H
                  have c58b0 : decide (t247 < a1) = true := decide_eq_true c58
                  clear c58
                  obtain rfl := Option.some.inj H
                  have hcz59_0 : wc.cell? ⟨gb241, 0, none⟩ = some (.int .u64 a0_0) := (blk_cell BK241.out 0).trans rfl
                  have hcz59_1 : wc.cell? ⟨gb241, 1, none⟩ = some (.bool a0_1) := (blk_cell BK241.out 1).trans rfl
                  have hcz59_2 : wc.cell? ⟨gb241, 2, none⟩ = some (.int .u64 a0_2) := (blk_cell BK241.out 2).trans rfl
                  have hcz59_3 : wc.cell? ⟨gb241, 3, none⟩ = some (.bool a0_3) := (blk_cell BK241.out 3).trans rfl
                  have hcz59_4 : wc.cell? ⟨gb241, 4, none⟩ = some (.int .u64 a0_4) := (blk_cell BK241.out 4).trans rfl
                  have hcz59_5 : wc.cell? ⟨gb241, 5, none⟩ = some (.bool a0_5) := (blk_cell BK241.out 5).trans rfl
                  have hcz59_6 : wc.cell? ⟨gb241, 6, none⟩ = some (.int .u64 a0_6) := (blk_cell BK241.out 6).trans rfl
                  have hcz59_7 : wc.cell? ⟨gb241, 7, none⟩ = some (.bool a0_7) := (blk_cell BK241.out 7).trans rfl
                  have hcz59_8 : wc.cell? ⟨gb241, 8, none⟩ = some (.int .u64 a0_8) := (blk_cell BK241.out 8).trans rfl
                  have hcz59_9 : wc.cell? ⟨gb241, 9, none⟩ = some (.bool a0_9) := (blk_cell BK241.out 9).trans rfl
                  have hfz59_0 := blk_frozen BK241.out 0
                  have hfz59_1 := blk_frozen BK241.out 1
                  have hfz59_2 := blk_frozen BK241.out 2
                  have hfz59_3 := blk_frozen BK241.out 3
                  have hfz59_4 := blk_frozen BK241.out 4
                  have hfz59_5 := blk_frozen BK241.out 5
                  have hfz59_6 := blk_frozen BK241.out 6
                  have hfz59_7 := blk_frozen BK241.out 7
                  have hfz59_8 := blk_frozen BK241.out 8
                  have hfz59_9 := blk_frozen BK241.out 9
                  go_wp2_with (first | ((with_reducible refine gate_callee (f := 11) rfl ?_); refine goesL_ (some 84) rfl rfl Tryz.func11 (by kernel_rfl) rfl #[.agg #[.int .u64 a0_0, .bool a0_1, .int .u64 a0_2, .bool a0_3, .int .u64 a0_4, .bool a0_5, .int .u64 a0_6, .bool a0_7, .int .u64 a0_8, .bool a0_9], .int .i64 t247] rfl (by (try simp only [List.map_toArray, List.map_cons, List.map_nil]); first | done | rfl | (simp only [List.length_drop, List.length_take]; rfl)) ?_; (with_reducible refine (next_Next.calls a0_0 a0_1 a0_2 a0_3 a0_4 a0_5 a0_6 a0_7 a0_8 a0_9 t247 t251 t252 _ (hT.keep (by repeat (first | (with_reducible first | exact HB.out | apply below_alloc | apply pw_below_drewN | apply below_drew1 | refine below_set ?_ GE241.out) | exact HB.out))) A41.out).mono ?_); rintro e w60 ⟨rfl, hb⟩; refine ⟨_, rfl, ?_⟩; have n0_ := Aside0.mk (blk_below (g := gb241) (o := .cells #[.int .u64 a0_0, .bool a0_1, .int .u64 a0_2, .bool a0_3, .int .u64 a0_4, .bool a0_5, .int .u64 a0_6, .bool a0_7, .int .u64 a0_8, .bool a0_9] 26 (0, 0)) (by (with_reducible repeat (first | refine blk_drewN ?_ _ | refine blk_drew ?_ | refine blk_alloc ?_ _)); exact BK241.out) hb); have n1_ := Aside0.mk (below_step (by repeat (first | (with_reducible first | exact HB.out | apply below_alloc | apply pw_below_drewN | apply below_drew1 | refine below_set ?_ GE241.out) | exact HB.out)) hb); clear BK241; clear HB; have BK241 := n0_; have HB := n1_; clear n0_ n1_; (try clear hb); (try clear hb2); (try clear hk); (try clear hi)))
                  go_ret
                  exact ⟨by first | rfl | (simp [*] <;> rfl), by repeat (first | (with_reducible first | exact HB.out | apply below_alloc | apply pw_below_drewN | apply below_drew1 | refine below_set ?_ GE241.out) | exact HB.out)⟩
                 ·rw [if_neg c58] at H
                  have c58b0 : decide (t247 < a1) = false := decide_eq_false c58
                  clear c58
                  by_cases c61 : t248 = 11
                  ·rw [if_pos c61] at H
                   have c61b0 : (t248 == 11) = true := beq_iff_eq.mpr c61
                   have c61b1 : (t248 != 11) = false := bne_eq_false_iff_eq.mpr c61
                   clear c61
                   obtain rfl := Option.some.inj H
                   have hcz62_0 : wc.cell? ⟨gb241, 0, none⟩ = some (.int .u64 a0_0) := (blk_cell BK241.out 0).trans rfl
                   have hcz62_1 : wc.cell? ⟨gb241, 1, none⟩ = some (.bool a0_1) := (blk_cell BK241.out 1).trans rfl
                   have hcz62_2 : wc.cell? ⟨gb241, 2, none⟩ = some (.int .u64 a0_2) := (blk_cell BK241.out 2).trans rfl
                   have hcz62_3 : wc.cell? ⟨gb241, 3, none⟩ = some (.bool a0_3) := (blk_cell BK241.out 3).trans rfl
                   have hcz62_4 : wc.cell? ⟨gb241, 4, none⟩ = some (.int .u64 a0_4) := (blk_cell BK241.out 4).trans rfl
                   have hcz62_5 : wc.cell? ⟨gb241, 5, none⟩ = some (.bool a0_5) := (blk_cell BK241.out 5).trans rfl
                   have hcz62_6 : wc.cell? ⟨gb241, 6, none⟩ = some (.int .u64 a0_6) := (blk_cell BK241.out 6).trans rfl
                   have hcz62_7 : wc.cell? ⟨gb241, 7, none⟩ = some (.bool a0_7) := (blk_cell BK241.out 7).trans rfl
                   have hcz62_8 : wc.cell? ⟨gb241, 8, none⟩ = some (.int .u64 a0_8) := (blk_cell BK241.out 8).trans rfl
                   have hcz62_9 : wc.cell? ⟨gb241, 9, none⟩ = some (.bool a0_9) := (blk_cell BK241.out 9).trans rfl
                   have hfz62_0 := blk_frozen BK241.out 0
                   have hfz62_1 := blk_frozen BK241.out 1
                   have hfz62_2 := blk_frozen BK241.out 2
                   have hfz62_3 := blk_frozen BK241.out 3
                   have hfz62_4 := blk_frozen BK241.out 4
                   have hfz62_5 := blk_frozen BK241.out 5
                   have hfz62_6 := blk_frozen BK241.out 6
                   have hfz62_7 := blk_frozen BK241.out 7
                   have hfz62_8 := blk_frozen BK241.out 8
                   have hfz62_9 := blk_frozen BK241.out 9
                   go_wp2_with (first | ((with_reducible refine gate_callee (f := 11) rfl ?_); refine goesL_ (some 84) rfl rfl Tryz.func11 (by kernel_rfl) rfl #[.agg #[.int .u64 a0_0, .bool a0_1, .int .u64 a0_2, .bool a0_3, .int .u64 a0_4, .bool a0_5, .int .u64 a0_6, .bool a0_7, .int .u64 a0_8, .bool a0_9], .int .i64 t247] rfl (by (try simp only [List.map_toArray, List.map_cons, List.map_nil]); first | done | rfl | (simp only [List.length_drop, List.length_take]; rfl)) ?_; (with_reducible refine (next_Next.calls a0_0 a0_1 a0_2 a0_3 a0_4 a0_5 a0_6 a0_7 a0_8 a0_9 t247 t251 t252 _ (hT.keep (by repeat (first | (with_reducible first | exact HB.out | apply below_alloc | apply pw_below_drewN | apply below_drew1 | refine below_set ?_ GE241.out) | exact HB.out))) A41.out).mono ?_); rintro e w63 ⟨rfl, hb⟩; refine ⟨_, rfl, ?_⟩; have n0_ := Aside0.mk (blk_below (g := gb241) (o := .cells #[.int .u64 a0_0, .bool a0_1, .int .u64 a0_2, .bool a0_3, .int .u64 a0_4, .bool a0_5, .int .u64 a0_6, .bool a0_7, .int .u64 a0_8, .bool a0_9] 26 (0, 0)) (by (with_reducible repeat (first | refine blk_drewN ?_ _ | refine blk_drew ?_ | refine blk_alloc ?_ _)); exact BK241.out) hb); have n1_ := Aside0.mk (below_step (by repeat (first | (with_reducible first | exact HB.out | apply below_alloc | apply pw_below_drewN | apply below_drew1 | refine below_set ?_ GE241.out) | exact HB.out)) hb); clear BK241; clear HB; have BK241 := n0_; have HB := n1_; clear n0_ n1_; (try clear hb); (try clear hb2); (try clear hk); (try clear hi)))
                   go_ret
                   exact ⟨by first | rfl | (simp [*] <;> rfl), by repeat (first | (with_reducible first | exact HB.out | apply below_alloc | apply pw_below_drewN | apply below_drew1 | refine below_set ?_ GE241.out) | exact HB.out)⟩
                  ·rw [if_neg c61] at H
                   have c61b0 : (t248 == 11) = false := beq_eq_false_iff_ne.mpr c61
                   have c61b1 : (t248 != 11) = true := bne_iff_ne.mpr c61
                   obtain rfl := Option.some.inj H
                   have hcz64_0 : wc.cell? ⟨gb241, 0, none⟩ = some (.int .u64 a0_0) := (blk_cell BK241.out 0).trans rfl
                   have hcz64_1 : wc.cell? ⟨gb241, 1, none⟩ = some (.bool a0_1) := (blk_cell BK241.out 1).trans rfl
                   have hcz64_2 : wc.cell? ⟨gb241, 2, none⟩ = some (.int .u64 a0_2) := (blk_cell BK241.out 2).trans rfl
                   have hcz64_3 : wc.cell? ⟨gb241, 3, none⟩ = some (.bool a0_3) := (blk_cell BK241.out 3).trans rfl
                   have hcz64_4 : wc.cell? ⟨gb241, 4, none⟩ = some (.int .u64 a0_4) := (blk_cell BK241.out 4).trans rfl
                   have hcz64_5 : wc.cell? ⟨gb241, 5, none⟩ = some (.bool a0_5) := (blk_cell BK241.out 5).trans rfl
                   have hcz64_6 : wc.cell? ⟨gb241, 6, none⟩ = some (.int .u64 a0_6) := (blk_cell BK241.out 6).trans rfl
                   have hcz64_7 : wc.cell? ⟨gb241, 7, none⟩ = some (.bool a0_7) := (blk_cell BK241.out 7).trans rfl
                   have hcz64_8 : wc.cell? ⟨gb241, 8, none⟩ = some (.int .u64 a0_8) := (blk_cell BK241.out 8).trans rfl
                   have hcz64_9 : wc.cell? ⟨gb241, 9, none⟩ = some (.bool a0_9) := (blk_cell BK241.out 9).trans rfl
                   have hfz64_0 := blk_frozen BK241.out 0
                   have hfz64_1 := blk_frozen BK241.out 1
                   have hfz64_2 := blk_frozen BK241.out 2
                   have hfz64_3 := blk_frozen BK241.out 3
                   have hfz64_4 := blk_frozen BK241.out 4
                   have hfz64_5 := blk_frozen BK241.out 5
                   have hfz64_6 := blk_frozen BK241.out 6
                   have hfz64_7 := blk_frozen BK241.out 7
                   have hfz64_8 := blk_frozen BK241.out 8
                   have hfz64_9 := blk_frozen BK241.out 9
                   go_wp2_with (first | ((with_reducible refine gate_callee (f := 11) rfl ?_); refine goesL_ (some 84) rfl rfl Tryz.func11 (by kernel_rfl) rfl #[.agg #[.int .u64 a0_0, .bool a0_1, .int .u64 a0_2, .bool a0_3, .int .u64 a0_4, .bool a0_5, .int .u64 a0_6, .bool a0_7, .int .u64 a0_8, .bool a0_9], .int .i64 t247] rfl (by (try simp only [List.map_toArray, List.map_cons, List.map_nil]); first | done | rfl | (simp only [List.length_drop, List.length_take]; rfl)) ?_; (with_reducible refine (next_Next.calls a0_0 a0_1 a0_2 a0_3 a0_4 a0_5 a0_6 a0_7 a0_8 a0_9 t247 t251 t252 _ (hT.keep (by repeat (first | (with_reducible first | exact HB.out | apply below_alloc | apply pw_below_drewN | apply below_drew1 | refine below_set ?_ GE241.out) | exact HB.out))) A41.out).mono ?_); rintro e w65 ⟨rfl, hb⟩; refine ⟨_, rfl, ?_⟩; have n0_ := Aside0.mk (blk_below (g := gb241) (o := .cells #[.int .u64 a0_0, .bool a0_1, .int .u64 a0_2, .bool a0_3, .int .u64 a0_4, .bool a0_5, .int .u64 a0_6, .bool a0_7, .int .u64 a0_8, .bool a0_9] 26 (0, 0)) (by (with_reducible repeat (first | refine blk_drewN ?_ _ | refine blk_drew ?_ | refine blk_alloc ?_ _)); exact BK241.out) hb); have n1_ := Aside0.mk (below_step (by repeat (first | (with_reducible first | exact HB.out | apply below_alloc | apply pw_below_drewN | apply below_drew1 | refine below_set ?_ GE241.out) | exact HB.out)) hb); clear BK241; clear HB; have BK241 := n0_; have HB := n1_; clear n0_ n1_; (try clear hb); (try clear hb2); (try clear hk); (try clear hi)))
                   go_ret
                   exact ⟨by first | rfl | (simp [*] <;> rfl), by repeat (first | (with_reducible first | exact HB.out | apply below_alloc | apply pw_below_drewN | apply below_drew1 | refine below_set ?_ GE241.out) | exact HB.out)⟩
                ·rw [if_neg c57] at H
                 have c57b0 : (t245 == 0) = false := beq_eq_false_iff_ne.mpr c57
                 have c57b1 : (t245 != 0) = true := bne_iff_ne.mpr c57
                 obtain rfl := Option.some.inj H
                 have hcz66_0 : wc.cell? ⟨gb241, 0, none⟩ = some (.int .u64 a0_0) := (blk_cell BK241.out 0).trans rfl
                 have hcz66_1 : wc.cell? ⟨gb241, 1, none⟩ = some (.bool a0_1) := (blk_cell BK241.out 1).trans rfl
                 have hcz66_2 : wc.cell? ⟨gb241, 2, none⟩ = some (.int .u64 a0_2) := (blk_cell BK241.out 2).trans rfl
                 have hcz66_3 : wc.cell? ⟨gb241, 3, none⟩ = some (.bool a0_3) := (blk_cell BK241.out 3).trans rfl
                 have hcz66_4 : wc.cell? ⟨gb241, 4, none⟩ = some (.int .u64 a0_4) := (blk_cell BK241.out 4).trans rfl
                 have hcz66_5 : wc.cell? ⟨gb241, 5, none⟩ = some (.bool a0_5) := (blk_cell BK241.out 5).trans rfl
                 have hcz66_6 : wc.cell? ⟨gb241, 6, none⟩ = some (.int .u64 a0_6) := (blk_cell BK241.out 6).trans rfl
                 have hcz66_7 : wc.cell? ⟨gb241, 7, none⟩ = some (.bool a0_7) := (blk_cell BK241.out 7).trans rfl
                 have hcz66_8 : wc.cell? ⟨gb241, 8, none⟩ = some (.int .u64 a0_8) := (blk_cell BK241.out 8).trans rfl
                 have hcz66_9 : wc.cell? ⟨gb241, 9, none⟩ = some (.bool a0_9) := (blk_cell BK241.out 9).trans rfl
                 have hfz66_0 := blk_frozen BK241.out 0
                 have hfz66_1 := blk_frozen BK241.out 1
                 have hfz66_2 := blk_frozen BK241.out 2
                 have hfz66_3 := blk_frozen BK241.out 3
                 have hfz66_4 := blk_frozen BK241.out 4
                 have hfz66_5 := blk_frozen BK241.out 5
                 have hfz66_6 := blk_frozen BK241.out 6
                 have hfz66_7 := blk_frozen BK241.out 7
                 have hfz66_8 := blk_frozen BK241.out 8
                 have hfz66_9 := blk_frozen BK241.out 9
                 go_wp2_with (first | ((with_reducible refine gate_callee (f := 11) rfl ?_); refine goesL_ (some 84) rfl rfl Tryz.func11 (by kernel_rfl) rfl #[.agg #[.int .u64 a0_0, .bool a0_1, .int .u64 a0_2, .bool a0_3, .int .u64 a0_4, .bool a0_5, .int .u64 a0_6, .bool a0_7, .int .u64 a0_8, .bool a0_9], .int .i64 t247] rfl (by (try simp only [List.map_toArray, List.map_cons, List.map_nil]); first | done | rfl | (simp only [List.length_drop, List.length_take]; rfl)) ?_; (with_reducible refine (next_Next.calls a0_0 a0_1 a0_2 a0_3 a0_4 a0_5 a0_6 a0_7 a0_8 a0_9 t247 t251 t252 _ (hT.keep (by repeat (first | (with_reducible first | exact HB.out | apply below_alloc | apply pw_below_drewN | apply below_drew1 | refine below_set ?_ GE241.out) | exact HB.out))) A41.out).mono ?_); rintro e w67 ⟨rfl, hb⟩; refine ⟨_, rfl, ?_⟩; have n0_ := Aside0.mk (blk_below (g := gb241) (o := .cells #[.int .u64 a0_0, .bool a0_1, .int .u64 a0_2, .bool a0_3, .int .u64 a0_4, .bool a0_5, .int .u64 a0_6, .bool a0_7, .int .u64 a0_8, .bool a0_9] 26 (0, 0)) (by (with_reducible repeat (first | refine blk_drewN ?_ _ | refine blk_drew ?_ | refine blk_alloc ?_ _)); exact BK241.out) hb); have n1_ := Aside0.mk (below_step (by repeat (first | (with_reducible first | exact HB.out | apply below_alloc | apply pw_below_drewN | apply below_drew1 | refine below_set ?_ GE241.out) | exact HB.out)) hb); clear BK241; clear HB; have BK241 := n0_; have HB := n1_; clear n0_ n1_; (try clear hb); (try clear hb2); (try clear hk); (try clear hi)))
                 go_ret
                 exact ⟨by first | rfl | (simp [*] <;> rfl), by repeat (first | (with_reducible first | exact HB.out | apply below_alloc | apply pw_below_drewN | apply below_drew1 | refine below_set ?_ GE241.out) | exact HB.out)⟩
               ·rw [if_neg c56] at H
                have c56b0 : (t246 == 11) = false := beq_eq_false_iff_ne.mpr c56
                have c56b1 : (t246 != 11) = true := bne_iff_ne.mpr c56
                obtain rfl := Option.some.inj H
                have hcz68_0 : wc.cell? ⟨gb241, 0, none⟩ = some (.int .u64 a0_0) := (blk_cell BK241.out 0).trans rfl
                have hcz68_1 : wc.cell? ⟨gb241, 1, none⟩ = some (.bool a0_1) := (blk_cell BK241.out 1).trans rfl
                have hcz68_2 : wc.cell? ⟨gb241, 2, none⟩ = some (.int .u64 a0_2) := (blk_cell BK241.out 2).trans rfl
                have hcz68_3 : wc.cell? ⟨gb241, 3, none⟩ = some (.bool a0_3) := (blk_cell BK241.out 3).trans rfl
                have hcz68_4 : wc.cell? ⟨gb241, 4, none⟩ = some (.int .u64 a0_4) := (blk_cell BK241.out 4).trans rfl
                have hcz68_5 : wc.cell? ⟨gb241, 5, none⟩ = some (.bool a0_5) := (blk_cell BK241.out 5).trans rfl
                have hcz68_6 : wc.cell? ⟨gb241, 6, none⟩ = some (.int .u64 a0_6) := (blk_cell BK241.out 6).trans rfl
                have hcz68_7 : wc.cell? ⟨gb241, 7, none⟩ = some (.bool a0_7) := (blk_cell BK241.out 7).trans rfl
                have hcz68_8 : wc.cell? ⟨gb241, 8, none⟩ = some (.int .u64 a0_8) := (blk_cell BK241.out 8).trans rfl
                have hcz68_9 : wc.cell? ⟨gb241, 9, none⟩ = some (.bool a0_9) := (blk_cell BK241.out 9).trans rfl
                have hfz68_0 := blk_frozen BK241.out 0
                have hfz68_1 := blk_frozen BK241.out 1
                have hfz68_2 := blk_frozen BK241.out 2
                have hfz68_3 := blk_frozen BK241.out 3
                have hfz68_4 := blk_frozen BK241.out 4
                have hfz68_5 := blk_frozen BK241.out 5
                have hfz68_6 := blk_frozen BK241.out 6
                have hfz68_7 := blk_frozen BK241.out 7
                have hfz68_8 := blk_frozen BK241.out 8
                have hfz68_9 := blk_frozen BK241.out 9
                go_wp2_with (first | ((with_reducible refine gate_callee (f := 11) rfl ?_); refine goesL_ (some 84) rfl rfl Tryz.func11 (by kernel_rfl) rfl #[.agg #[.int .u64 a0_0, .bool a0_1, .int .u64 a0_2, .bool a0_3, .int .u64 a0_4, .bool a0_5, .int .u64 a0_6, .bool a0_7, .int .u64 a0_8, .bool a0_9], .int .i64 t247] rfl (by (try simp only [List.map_toArray, List.map_cons, List.map_nil]); first | done | rfl | (simp only [List.length_drop, List.length_take]; rfl)) ?_; (with_reducible refine (next_Next.calls a0_0 a0_1 a0_2 a0_3 a0_4 a0_5 a0_6 a0_7 a0_8 a0_9 t247 t251 t252 _ (hT.keep (by repeat (first | (with_reducible first | exact HB.out | apply below_alloc | apply pw_below_drewN | apply below_drew1 | refine below_set ?_ GE241.out) | exact HB.out))) A41.out).mono ?_); rintro e w69 ⟨rfl, hb⟩; refine ⟨_, rfl, ?_⟩; have n0_ := Aside0.mk (blk_below (g := gb241) (o := .cells #[.int .u64 a0_0, .bool a0_1, .int .u64 a0_2, .bool a0_3, .int .u64 a0_4, .bool a0_5, .int .u64 a0_6, .bool a0_7, .int .u64 a0_8, .bool a0_9] 26 (0, 0)) (by (with_reducible repeat (first | refine blk_drewN ?_ _ | refine blk_drew ?_ | refine blk_alloc ?_ _)); exact BK241.out) hb); have n1_ := Aside0.mk (below_step (by repeat (first | (with_reducible first | exact HB.out | apply below_alloc | apply pw_below_drewN | apply below_drew1 | refine below_set ?_ GE241.out) | exact HB.out)) hb); clear BK241; clear HB; have BK241 := n0_; have HB := n1_; clear n0_ n1_; (try clear hb); (try clear hb2); (try clear hk); (try clear hi)))
                go_ret
                exact ⟨by first | rfl | (simp [*] <;> rfl), by repeat (first | (with_reducible first | exact HB.out | apply below_alloc | apply pw_below_drewN | apply below_drew1 | refine below_set ?_ GE241.out) | exact HB.out)⟩
             ·rw [if_neg c46] at H
              have c46b0 : (t246 == 0) = false := beq_eq_false_iff_ne.mpr c46
              have c46b1 : (t246 != 0) = true := bne_iff_ne.mpr c46
              by_cases c70 : t246 = 11
              ·rw [if_pos c70] at H
               have c70b0 : (t246 == 11) = true := beq_iff_eq.mpr c70
               have c70b1 : (t246 != 11) = false := bne_eq_false_iff_eq.mpr c70
               clear c70
               by_cases c71 : t245 = 0
               ·rw [if_pos c71] at H
                have c71b0 : (t245 == 0) = true := beq_iff_eq.mpr c71
                have c71b1 : (t245 != 0) = false := bne_eq_false_iff_eq.mpr c71
                clear c71
                by_cases c72 : t247 < a1
                ·rw [if_pos c72] at H
                 have c72b0 : decide (t247 < a1) = true := decide_eq_true c72
                 clear c72
                 obtain rfl := Option.some.inj H
                 have hcz73_0 : wc.cell? ⟨gb241, 0, none⟩ = some (.int .u64 a0_0) := (blk_cell BK241.out 0).trans rfl
                 have hcz73_1 : wc.cell? ⟨gb241, 1, none⟩ = some (.bool a0_1) := (blk_cell BK241.out 1).trans rfl
                 have hcz73_2 : wc.cell? ⟨gb241, 2, none⟩ = some (.int .u64 a0_2) := (blk_cell BK241.out 2).trans rfl
                 have hcz73_3 : wc.cell? ⟨gb241, 3, none⟩ = some (.bool a0_3) := (blk_cell BK241.out 3).trans rfl
                 have hcz73_4 : wc.cell? ⟨gb241, 4, none⟩ = some (.int .u64 a0_4) := (blk_cell BK241.out 4).trans rfl
                 have hcz73_5 : wc.cell? ⟨gb241, 5, none⟩ = some (.bool a0_5) := (blk_cell BK241.out 5).trans rfl
                 have hcz73_6 : wc.cell? ⟨gb241, 6, none⟩ = some (.int .u64 a0_6) := (blk_cell BK241.out 6).trans rfl
                 have hcz73_7 : wc.cell? ⟨gb241, 7, none⟩ = some (.bool a0_7) := (blk_cell BK241.out 7).trans rfl
                 have hcz73_8 : wc.cell? ⟨gb241, 8, none⟩ = some (.int .u64 a0_8) := (blk_cell BK241.out 8).trans rfl
                 have hcz73_9 : wc.cell? ⟨gb241, 9, none⟩ = some (.bool a0_9) := (blk_cell BK241.out 9).trans rfl
                 have hfz73_0 := blk_frozen BK241.out 0
                 have hfz73_1 := blk_frozen BK241.out 1
                 have hfz73_2 := blk_frozen BK241.out 2
                 have hfz73_3 := blk_frozen BK241.out 3
                 have hfz73_4 := blk_frozen BK241.out 4
                 have hfz73_5 := blk_frozen BK241.out 5
                 have hfz73_6 := blk_frozen BK241.out 6
                 have hfz73_7 := blk_frozen BK241.out 7
                 have hfz73_8 := blk_frozen BK241.out 8
                 have hfz73_9 := blk_frozen BK241.out 9
                 go_wp2_with (first | ((with_reducible refine gate_callee (f := 11) rfl ?_); refine goesL_ (some 84) rfl rfl Tryz.func11 (by kernel_rfl) rfl #[.agg #[.int .u64 a0_0, .bool a0_1, .int .u64 a0_2, .bool a0_3, .int .u64 a0_4, .bool a0_5, .int .u64 a0_6, .bool a0_7, .int .u64 a0_8, .bool a0_9], .int .i64 t247] rfl (by (try simp only [List.map_toArray, List.map_cons, List.map_nil]); first | done | rfl | (simp only [List.length_drop, List.length_take]; rfl)) ?_; (with_reducible refine (next_Next.calls a0_0 a0_1 a0_2 a0_3 a0_4 a0_5 a0_6 a0_7 a0_8 a0_9 t247 t251 t252 _ (hT.keep (by repeat (first | (with_reducible first | exact HB.out | apply below_alloc | apply pw_below_drewN | apply below_drew1 | refine below_set ?_ GE241.out) | exact HB.out))) A41.out).mono ?_); rintro e w74 ⟨rfl, hb⟩; refine ⟨_, rfl, ?_⟩; have n0_ := Aside0.mk (blk_below (g := gb241) (o := .cells #[.int .u64 a0_0, .bool a0_1, .int .u64 a0_2, .bool a0_3, .int .u64 a0_4, .bool a0_5, .int .u64 a0_6, .bool a0_7, .int .u64 a0_8, .bool a0_9] 26 (0, 0)) (by (with_reducible repeat (first | refine blk_drewN ?_ _ | refine blk_drew ?_ | refine blk_alloc ?_ _)); exact BK241.out) hb); have n1_ := Aside0.mk (below_step (by repeat (first | (with_reducible first | exact HB.out | apply below_alloc | apply pw_below_drewN | apply below_drew1 | refine below_set ?_ GE241.out) | exact HB.out)) hb); clear BK241; clear HB; have BK241 := n0_; have HB := n1_; clear n0_ n1_; (try clear hb); (try clear hb2); (try clear hk); (try clear hi)))
                 go_ret
                 exact ⟨by first | rfl | (simp [*] <;> rfl), by repeat (first | (with_reducible first | exact HB.out | apply below_alloc | apply pw_below_drewN | apply below_drew1 | refine below_set ?_ GE241.out) | exact HB.out)⟩
                ·rw [if_neg c72] at H
                 have c72b0 : decide (t247 < a1) = false := decide_eq_false c72
                 clear c72
                 by_cases c75 : t248 = 11
                 ·rw [if_pos c75] at H
                  have c75b0 : (t248 == 11) = true := beq_iff_eq.mpr c75
                  have c75b1 : (t248 != 11) = false := bne_eq_false_iff_eq.mpr c75
                  clear c75
                  obtain rfl := Option.some.inj H
                  have hcz76_0 : wc.cell? ⟨gb241, 0, none⟩ = some (.int .u64 a0_0) := (blk_cell BK241.out 0).trans rfl
                  have hcz76_1 : wc.cell? ⟨gb241, 1, none⟩ = some (.bool a0_1) := (blk_cell BK241.out 1).trans rfl
                  have hcz76_2 : wc.cell? ⟨gb241, 2, none⟩ = some (.int .u64 a0_2) := (blk_cell BK241.out 2).trans rfl
                  have hcz76_3 : wc.cell? ⟨gb241, 3, none⟩ = some (.bool a0_3) := (blk_cell BK241.out 3).trans rfl
                  have hcz76_4 : wc.cell? ⟨gb241, 4, none⟩ = some (.int .u64 a0_4) := (blk_cell BK241.out 4).trans rfl
                  have hcz76_5 : wc.cell? ⟨gb241, 5, none⟩ = some (.bool a0_5) := (blk_cell BK241.out 5).trans rfl
                  have hcz76_6 : wc.cell? ⟨gb241, 6, none⟩ = some (.int .u64 a0_6) := (blk_cell BK241.out 6).trans rfl
                  have hcz76_7 : wc.cell? ⟨gb241, 7, none⟩ = some (.bool a0_7) := (blk_cell BK241.out 7).trans rfl
                  have hcz76_8 : wc.cell? ⟨gb241, 8, none⟩ = some (.int .u64 a0_8) := (blk_cell BK241.out 8).trans rfl
                  have hcz76_9 : wc.cell? ⟨gb241, 9, none⟩ = some (.bool a0_9) := (blk_cell BK241.out 9).trans rfl
                  have hfz76_0 := blk_frozen BK241.out 0
                  have hfz76_1 := blk_frozen BK241.out 1
                  have hfz76_2 := blk_frozen BK241.out 2
                  have hfz76_3 := blk_frozen BK241.out 3
                  have hfz76_4 := blk_frozen BK241.out 4
                  have hfz76_5 := blk_frozen BK241.out 5
                  have hfz76_6 := blk_frozen BK241.out 6
                  have hfz76_7 := blk_frozen BK241.out 7
                  have hfz76_8 := blk_frozen BK241.out 8
                  have hfz76_9 := blk_frozen BK241.out 9
                  go_wp2_with (first | ((with_reducible refine gate_callee (f := 11) rfl ?_); refine goesL_ (some 84) rfl rfl Tryz.func11 (by kernel_rfl) rfl #[.agg #[.int .u64 a0_0, .bool a0_1, .int .u64 a0_2, .bool a0_3, .int .u64 a0_4, .bool a0_5, .int .u64 a0_6, .bool a0_7, .int .u64 a0_8, .bool a0_9], .int .i64 t247] rfl (by (try simp only [List.map_toArray, List.map_cons, List.map_nil]); first | done | rfl | (simp only [List.length_drop, List.length_take]; rfl)) ?_; (with_reducible refine (next_Next.calls a0_0 a0_1 a0_2 a0_3 a0_4 a0_5 a0_6 a0_7 a0_8 a0_9 t247 t251 t252 _ (hT.keep (by repeat (first | (with_reducible first | exact HB.out | apply below_alloc | apply pw_below_drewN | apply below_drew1 | refine below_set ?_ GE241.out) | exact HB.out))) A41.out).mono ?_); rintro e w77 ⟨rfl, hb⟩; refine ⟨_, rfl, ?_⟩; have n0_ := Aside0.mk (blk_below (g := gb241) (o := .cells #[.int .u64 a0_0, .bool a0_1, .int .u64 a0_2, .bool a0_3, .int .u64 a0_4, .bool a0_5, .int .u64 a0_6, .bool a0_7, .int .u64 a0_8, .bool a0_9] 26 (0, 0)) (by (with_reducible repeat (first | refine blk_drewN ?_ _ | refine blk_drew ?_ | refine blk_alloc ?_ _)); exact BK241.out) hb); have n1_ := Aside0.mk (below_step (by repeat (first | (with_reducible first | exact HB.out | apply below_alloc | apply pw_below_drewN | apply below_drew1 | refine below_set ?_ GE241.out) | exact HB.out)) hb); clear BK241; clear HB; have BK241 := n0_; have HB := n1_; clear n0_ n1_; (try clear hb); (try clear hb2); (try clear hk); (try clear hi)))
                  go_ret
                  exact ⟨by first | rfl | (simp [*] <;> rfl), by repeat (first | (with_reducible first | exact HB.out | apply below_alloc | apply pw_below_drewN | apply below_drew1 | refine below_set ?_ GE241.out) | exact HB.out)⟩
                 ·rw [if_neg c75] at H
                  have c75b0 : (t248 == 11) = false := beq_eq_false_iff_ne.mpr c75
                  have c75b1 : (t248 != 11) = true := bne_iff_ne.mpr c75
                  obtain rfl := Option.some.inj H
                  have hcz78_0 : wc.cell? ⟨gb241, 0, none⟩ = some (.int .u64 a0_0) := (blk_cell BK241.out 0).trans rfl
                  have hcz78_1 : wc.cell? ⟨gb241, 1, none⟩ = some (.bool a0_1) := (blk_cell BK241.out 1).trans rfl
                  have hcz78_2 : wc.cell? ⟨gb241, 2, none⟩ = some (.int .u64 a0_2) := (blk_cell BK241.out 2).trans rfl
                  have hcz78_3 : wc.cell? ⟨gb241, 3, none⟩ = some (.bool a0_3) := (blk_cell BK241.out 3).trans rfl
                  have hcz78_4 : wc.cell? ⟨gb241, 4, none⟩ = some (.int .u64 a0_4) := (blk_cell BK241.out 4).trans rfl
                  have hcz78_5 : wc.cell? ⟨gb241, 5, none⟩ = some (.bool a0_5) := (blk_cell BK241.out 5).trans rfl
                  have hcz78_6 : wc.cell? ⟨gb241, 6, none⟩ = some (.int .u64 a0_6) := (blk_cell BK241.out 6).trans rfl
                  have hcz78_7 : wc.cell? ⟨gb241, 7, none⟩ = some (.bool a0_7) := (blk_cell BK241.out 7).trans rfl
                  have hcz78_8 : wc.cell? ⟨gb241, 8, none⟩ = some (.int .u64 a0_8) := (blk_cell BK241.out 8).trans rfl
                  have hcz78_9 : wc.cell? ⟨gb241, 9, none⟩ = some (.bool a0_9) := (blk_cell BK241.out 9).trans rfl
                  have hfz78_0 := blk_frozen BK241.out 0
                  have hfz78_1 := blk_frozen BK241.out 1
                  have hfz78_2 := blk_frozen BK241.out 2
                  have hfz78_3 := blk_frozen BK241.out 3
                  have hfz78_4 := blk_frozen BK241.out 4
                  have hfz78_5 := blk_frozen BK241.out 5
                  have hfz78_6 := blk_frozen BK241.out 6
                  have hfz78_7 := blk_frozen BK241.out 7
                  have hfz78_8 := blk_frozen BK241.out 8
                  have hfz78_9 := blk_frozen BK241.out 9
                  go_wp2_with (first | ((with_reducible refine gate_callee (f := 11) rfl ?_); refine goesL_ (some 84) rfl rfl Tryz.func11 (by kernel_rfl) rfl #[.agg #[.int .u64 a0_0, .bool a0_1, .int .u64 a0_2, .bool a0_3, .int .u64 a0_4, .bool a0_5, .int .u64 a0_6, .bool a0_7, .int .u64 a0_8, .bool a0_9], .int .i64 t247] rfl (by (try simp only [List.map_toArray, List.map_cons, List.map_nil]); first | done | rfl | (simp only [List.length_drop, List.length_take]; rfl)) ?_; (with_reducible refine (next_Next.calls a0_0 a0_1 a0_2 a0_3 a0_4 a0_5 a0_6 a0_7 a0_8 a0_9 t247 t251 t252 _ (hT.keep (by repeat (first | (with_reducible first | exact HB.out | apply below_alloc | apply pw_below_drewN | apply below_drew1 | refine below_set ?_ GE241.out) | exact HB.out))) A41.out).mono ?_); rintro e w79 ⟨rfl, hb⟩; refine ⟨_, rfl, ?_⟩; have n0_ := Aside0.mk (blk_below (g := gb241) (o := .cells #[.int .u64 a0_0, .bool a0_1, .int .u64 a0_2, .bool a0_3, .int .u64 a0_4, .bool a0_5, .int .u64 a0_6, .bool a0_7, .int .u64 a0_8, .bool a0_9] 26 (0, 0)) (by (with_reducible repeat (first | refine blk_drewN ?_ _ | refine blk_drew ?_ | refine blk_alloc ?_ _)); exact BK241.out) hb); have n1_ := Aside0.mk (below_step (by repeat (first | (with_reducible first | exact HB.out | apply below_alloc | apply pw_below_drewN | apply below_drew1 | refine below_set ?_ GE241.out) | exact HB.out)) hb); clear BK241; clear HB; have BK241 := n0_; have HB := n1_; clear n0_ n1_; (try clear hb); (try clear hb2); (try clear hk); (try clear hi)))
                  go_ret
                  exact ⟨by first | rfl | (simp [*] <;> rfl), by repeat (first | (with_reducible first | exact HB.out | apply below_alloc | apply pw_below_drewN | apply below_drew1 | refine below_set ?_ GE241.out) | exact HB.out)⟩
               ·rw [if_neg c71] at H
                have c71b0 : (t245 == 0) = false := beq_eq_false_iff_ne.mpr c71
                have c71b1 : (t245 != 0) = true := bne_iff_ne.mpr c71
                obtain rfl := Option.some.inj H
                have hcz80_0 : wc.cell? ⟨gb241, 0, none⟩ = some (.int .u64 a0_0) := (blk_cell BK241.out 0).trans rfl
                have hcz80_1 : wc.cell? ⟨gb241, 1, none⟩ = some (.bool a0_1) := (blk_cell BK241.out 1).trans rfl
                have hcz80_2 : wc.cell? ⟨gb241, 2, none⟩ = some (.int .u64 a0_2) := (blk_cell BK241.out 2).trans rfl
                have hcz80_3 : wc.cell? ⟨gb241, 3, none⟩ = some (.bool a0_3) := (blk_cell BK241.out 3).trans rfl
                have hcz80_4 : wc.cell? ⟨gb241, 4, none⟩ = some (.int .u64 a0_4) := (blk_cell BK241.out 4).trans rfl
                have hcz80_5 : wc.cell? ⟨gb241, 5, none⟩ = some (.bool a0_5) := (blk_cell BK241.out 5).trans rfl
                have hcz80_6 : wc.cell? ⟨gb241, 6, none⟩ = some (.int .u64 a0_6) := (blk_cell BK241.out 6).trans rfl
                have hcz80_7 : wc.cell? ⟨gb241, 7, none⟩ = some (.bool a0_7) := (blk_cell BK241.out 7).trans rfl
                have hcz80_8 : wc.cell? ⟨gb241, 8, none⟩ = some (.int .u64 a0_8) := (blk_cell BK241.out 8).trans rfl
                have hcz80_9 : wc.cell? ⟨gb241, 9, none⟩ = some (.bool a0_9) := (blk_cell BK241.out 9).trans rfl
                have hfz80_0 := blk_frozen BK241.out 0
                have hfz80_1 := blk_frozen BK241.out 1
                have hfz80_2 := blk_frozen BK241.out 2
                have hfz80_3 := blk_frozen BK241.out 3
                have hfz80_4 := blk_frozen BK241.out 4
                have hfz80_5 := blk_frozen BK241.out 5
                have hfz80_6 := blk_frozen BK241.out 6
                have hfz80_7 := blk_frozen BK241.out 7
                have hfz80_8 := blk_frozen BK241.out 8
                have hfz80_9 := blk_frozen BK241.out 9
                go_wp2_with (first | ((with_reducible refine gate_callee (f := 11) rfl ?_); refine goesL_ (some 84) rfl rfl Tryz.func11 (by kernel_rfl) rfl #[.agg #[.int .u64 a0_0, .bool a0_1, .int .u64 a0_2, .bool a0_3, .int .u64 a0_4, .bool a0_5, .int .u64 a0_6, .bool a0_7, .int .u64 a0_8, .bool a0_9], .int .i64 t247] rfl (by (try simp only [List.map_toArray, List.map_cons, List.map_nil]); first | done | rfl | (simp only [List.length_drop, List.length_take]; rfl)) ?_; (with_reducible refine (next_Next.calls a0_0 a0_1 a0_2 a0_3 a0_4 a0_5 a0_6 a0_7 a0_8 a0_9 t247 t251 t252 _ (hT.keep (by repeat (first | (with_reducible first | exact HB.out | apply below_alloc | apply pw_below_drewN | apply below_drew1 | refine below_set ?_ GE241.out) | exact HB.out))) A41.out).mono ?_); rintro e w81 ⟨rfl, hb⟩; refine ⟨_, rfl, ?_⟩; have n0_ := Aside0.mk (blk_below (g := gb241) (o := .cells #[.int .u64 a0_0, .bool a0_1, .int .u64 a0_2, .bool a0_3, .int .u64 a0_4, .bool a0_5, .int .u64 a0_6, .bool a0_7, .int .u64 a0_8, .bool a0_9] 26 (0, 0)) (by (with_reducible repeat (first | refine blk_drewN ?_ _ | refine blk_drew ?_ | refine blk_alloc ?_ _)); exact BK241.out) hb); have n1_ := Aside0.mk (below_step (by repeat (first | (with_reducible first | exact HB.out | apply below_alloc | apply pw_below_drewN | apply below_drew1 | refine below_set ?_ GE241.out) | exact HB.out)) hb); clear BK241; clear HB; have BK241 := n0_; have HB := n1_; clear n0_ n1_; (try clear hb); (try clear hb2); (try clear hk); (try clear hi)))
                go_ret
                exact ⟨by first | rfl | (simp [*] <;> rfl), by repeat (first | (with_reducible first | exact HB.out | apply below_alloc | apply pw_below_drewN | apply below_drew1 | refine below_set ?_ GE241.out) | exact HB.out)⟩
              ·rw [if_neg c70] at H
               have c70b0 : (t246 == 11) = false := beq_eq_false_iff_ne.mpr c70
               have c70b1 : (t246 != 11) = true := bne_iff_ne.mpr c70
               obtain rfl := Option.some.inj H
               have hcz82_0 : wc.cell? ⟨gb241, 0, none⟩ = some (.int .u64 a0_0) := (blk_cell BK241.out 0).trans rfl
               have hcz82_1 : wc.cell? ⟨gb241, 1, none⟩ = some (.bool a0_1) := (blk_cell BK241.out 1).trans rfl
               have hcz82_2 : wc.cell? ⟨gb241, 2, none⟩ = some (.int .u64 a0_2) := (blk_cell BK241.out 2).trans rfl
               have hcz82_3 : wc.cell? ⟨gb241, 3, none⟩ = some (.bool a0_3) := (blk_cell BK241.out 3).trans rfl
               have hcz82_4 : wc.cell? ⟨gb241, 4, none⟩ = some (.int .u64 a0_4) := (blk_cell BK241.out 4).trans rfl
               have hcz82_5 : wc.cell? ⟨gb241, 5, none⟩ = some (.bool a0_5) := (blk_cell BK241.out 5).trans rfl
               have hcz82_6 : wc.cell? ⟨gb241, 6, none⟩ = some (.int .u64 a0_6) := (blk_cell BK241.out 6).trans rfl
               have hcz82_7 : wc.cell? ⟨gb241, 7, none⟩ = some (.bool a0_7) := (blk_cell BK241.out 7).trans rfl
               have hcz82_8 : wc.cell? ⟨gb241, 8, none⟩ = some (.int .u64 a0_8) := (blk_cell BK241.out 8).trans rfl
               have hcz82_9 : wc.cell? ⟨gb241, 9, none⟩ = some (.bool a0_9) := (blk_cell BK241.out 9).trans rfl
               have hfz82_0 := blk_frozen BK241.out 0
               have hfz82_1 := blk_frozen BK241.out 1
               have hfz82_2 := blk_frozen BK241.out 2
               have hfz82_3 := blk_frozen BK241.out 3
               have hfz82_4 := blk_frozen BK241.out 4
               have hfz82_5 := blk_frozen BK241.out 5
               have hfz82_6 := blk_frozen BK241.out 6
               have hfz82_7 := blk_frozen BK241.out 7
               have hfz82_8 := blk_frozen BK241.out 8
               have hfz82_9 := blk_frozen BK241.out 9
               go_wp2_with (first | ((with_reducible refine gate_callee (f := 11) rfl ?_); refine goesL_ (some 84) rfl rfl Tryz.func11 (by kernel_rfl) rfl #[.agg #[.int .u64 a0_0, .bool a0_1, .int .u64 a0_2, .bool a0_3, .int .u64 a0_4, .bool a0_5, .int .u64 a0_6, .bool a0_7, .int .u64 a0_8, .bool a0_9], .int .i64 t247] rfl (by (try simp only [List.map_toArray, List.map_cons, List.map_nil]); first | done | rfl | (simp only [List.length_drop, List.length_take]; rfl)) ?_; (with_reducible refine (next_Next.calls a0_0 a0_1 a0_2 a0_3 a0_4 a0_5 a0_6 a0_7 a0_8 a0_9 t247 t251 t252 _ (hT.keep (by repeat (first | (with_reducible first | exact HB.out | apply below_alloc | apply pw_below_drewN | apply below_drew1 | refine below_set ?_ GE241.out) | exact HB.out))) A41.out).mono ?_); rintro e w83 ⟨rfl, hb⟩; refine ⟨_, rfl, ?_⟩; have n0_ := Aside0.mk (blk_below (g := gb241) (o := .cells #[.int .u64 a0_0, .bool a0_1, .int .u64 a0_2, .bool a0_3, .int .u64 a0_4, .bool a0_5, .int .u64 a0_6, .bool a0_7, .int .u64 a0_8, .bool a0_9] 26 (0, 0)) (by (with_reducible repeat (first | refine blk_drewN ?_ _ | refine blk_drew ?_ | refine blk_alloc ?_ _)); exact BK241.out) hb); have n1_ := Aside0.mk (below_step (by repeat (first | (with_reducible first | exact HB.out | apply below_alloc | apply pw_below_drewN | apply below_drew1 | refine below_set ?_ GE241.out) | exact HB.out)) hb); clear BK241; clear HB; have BK241 := n0_; have HB := n1_; clear n0_ n1_; (try clear hb); (try clear hb2); (try clear hk); (try clear hi)))
               go_ret
               exact ⟨by first | rfl | (simp [*] <;> rfl), by repeat (first | (with_reducible first | exact HB.out | apply below_alloc | apply pw_below_drewN | apply below_drew1 | refine below_set ?_ GE241.out) | exact HB.out)⟩
            ·exact absurd rfl c45
           ·rw [if_neg c44] at H
            have c44b0 : (t251 == a1) = false := beq_eq_false_iff_ne.mpr c44
            have c44b1 : (t251 != a1) = true := bne_iff_ne.mpr c44
            obtain rfl := Option.some.inj H
            have hcz86_0 : wc.cell? ⟨gb241, 0, none⟩ = some (.int .u64 a0_0) := (blk_cell BK241.out 0).trans rfl
            have hcz86_1 : wc.cell? ⟨gb241, 1, none⟩ = some (.bool a0_1) := (blk_cell BK241.out 1).trans rfl
            have hcz86_2 : wc.cell? ⟨gb241, 2, none⟩ = some (.int .u64 a0_2) := (blk_cell BK241.out 2).trans rfl
            have hcz86_3 : wc.cell? ⟨gb241, 3, none⟩ = some (.bool a0_3) := (blk_cell BK241.out 3).trans rfl
            have hcz86_4 : wc.cell? ⟨gb241, 4, none⟩ = some (.int .u64 a0_4) := (blk_cell BK241.out 4).trans rfl
            have hcz86_5 : wc.cell? ⟨gb241, 5, none⟩ = some (.bool a0_5) := (blk_cell BK241.out 5).trans rfl
            have hcz86_6 : wc.cell? ⟨gb241, 6, none⟩ = some (.int .u64 a0_6) := (blk_cell BK241.out 6).trans rfl
            have hcz86_7 : wc.cell? ⟨gb241, 7, none⟩ = some (.bool a0_7) := (blk_cell BK241.out 7).trans rfl
            have hcz86_8 : wc.cell? ⟨gb241, 8, none⟩ = some (.int .u64 a0_8) := (blk_cell BK241.out 8).trans rfl
            have hcz86_9 : wc.cell? ⟨gb241, 9, none⟩ = some (.bool a0_9) := (blk_cell BK241.out 9).trans rfl
            have hfz86_0 := blk_frozen BK241.out 0
            have hfz86_1 := blk_frozen BK241.out 1
            have hfz86_2 := blk_frozen BK241.out 2
            have hfz86_3 := blk_frozen BK241.out 3
            have hfz86_4 := blk_frozen BK241.out 4
            have hfz86_5 := blk_frozen BK241.out 5
            have hfz86_6 := blk_frozen BK241.out 6
            have hfz86_7 := blk_frozen BK241.out 7
            have hfz86_8 := blk_frozen BK241.out 8
            have hfz86_9 := blk_frozen BK241.out 9
            go_wp2_with (first | ((with_reducible refine gate_callee (f := 11) rfl ?_); refine goesL_ (some 84) rfl rfl Tryz.func11 (by kernel_rfl) rfl #[.agg #[.int .u64 a0_0, .bool a0_1, .int .u64 a0_2, .bool a0_3, .int .u64 a0_4, .bool a0_5, .int .u64 a0_6, .bool a0_7, .int .u64 a0_8, .bool a0_9], .int .i64 t247] rfl (by (try simp only [List.map_toArray, List.map_cons, List.map_nil]); first | done | rfl | (simp only [List.length_drop, List.length_take]; rfl)) ?_; (with_reducible refine (next_Next.calls a0_0 a0_1 a0_2 a0_3 a0_4 a0_5 a0_6 a0_7 a0_8 a0_9 t247 t251 t252 _ (hT.keep (by repeat (first | (with_reducible first | exact HB.out | apply below_alloc | apply pw_below_drewN | apply below_drew1 | refine below_set ?_ GE241.out) | exact HB.out))) A41.out).mono ?_); rintro e w87 ⟨rfl, hb⟩; refine ⟨_, rfl, ?_⟩; have n0_ := Aside0.mk (blk_below (g := gb241) (o := .cells #[.int .u64 a0_0, .bool a0_1, .int .u64 a0_2, .bool a0_3, .int .u64 a0_4, .bool a0_5, .int .u64 a0_6, .bool a0_7, .int .u64 a0_8, .bool a0_9] 26 (0, 0)) (by (with_reducible repeat (first | refine blk_drewN ?_ _ | refine blk_drew ?_ | refine blk_alloc ?_ _)); exact BK241.out) hb); have n1_ := Aside0.mk (below_step (by repeat (first | (with_reducible first | exact HB.out | apply below_alloc | apply pw_below_drewN | apply below_drew1 | refine below_set ?_ GE241.out) | exact HB.out)) hb); clear BK241; clear HB; have BK241 := n0_; have HB := n1_; clear n0_ n1_; (try clear hb); (try clear hb2); (try clear hk); (try clear hi)))
            go_ret
            exact ⟨by first | rfl | (simp [*] <;> rfl), by repeat (first | (with_reducible first | exact HB.out | apply below_alloc | apply pw_below_drewN | apply below_drew1 | refine below_set ?_ GE241.out) | exact HB.out)⟩
          ·rw [if_neg c43] at H
           have c43b0 : (t252 == 0) = false := beq_eq_false_iff_ne.mpr c43
           have c43b1 : (t252 != 0) = true := bne_iff_ne.mpr c43
           obtain rfl := Option.some.inj H
           have hcz88_0 : wc.cell? ⟨gb241, 0, none⟩ = some (.int .u64 a0_0) := (blk_cell BK241.out 0).trans rfl
           have hcz88_1 : wc.cell? ⟨gb241, 1, none⟩ = some (.bool a0_1) := (blk_cell BK241.out 1).trans rfl
           have hcz88_2 : wc.cell? ⟨gb241, 2, none⟩ = some (.int .u64 a0_2) := (blk_cell BK241.out 2).trans rfl
           have hcz88_3 : wc.cell? ⟨gb241, 3, none⟩ = some (.bool a0_3) := (blk_cell BK241.out 3).trans rfl
           have hcz88_4 : wc.cell? ⟨gb241, 4, none⟩ = some (.int .u64 a0_4) := (blk_cell BK241.out 4).trans rfl
           have hcz88_5 : wc.cell? ⟨gb241, 5, none⟩ = some (.bool a0_5) := (blk_cell BK241.out 5).trans rfl
           have hcz88_6 : wc.cell? ⟨gb241, 6, none⟩ = some (.int .u64 a0_6) := (blk_cell BK241.out 6).trans rfl
           have hcz88_7 : wc.cell? ⟨gb241, 7, none⟩ = some (.bool a0_7) := (blk_cell BK241.out 7).trans rfl
           have hcz88_8 : wc.cell? ⟨gb241, 8, none⟩ = some (.int .u64 a0_8) := (blk_cell BK241.out 8).trans rfl
           have hcz88_9 : wc.cell? ⟨gb241, 9, none⟩ = some (.bool a0_9) := (blk_cell BK241.out 9).trans rfl
           have hfz88_0 := blk_frozen BK241.out 0
           have hfz88_1 := blk_frozen BK241.out 1
           have hfz88_2 := blk_frozen BK241.out 2
           have hfz88_3 := blk_frozen BK241.out 3
           have hfz88_4 := blk_frozen BK241.out 4
           have hfz88_5 := blk_frozen BK241.out 5
           have hfz88_6 := blk_frozen BK241.out 6
           have hfz88_7 := blk_frozen BK241.out 7
           have hfz88_8 := blk_frozen BK241.out 8
           have hfz88_9 := blk_frozen BK241.out 9
           go_wp2_with (first | ((with_reducible refine gate_callee (f := 11) rfl ?_); refine goesL_ (some 84) rfl rfl Tryz.func11 (by kernel_rfl) rfl #[.agg #[.int .u64 a0_0, .bool a0_1, .int .u64 a0_2, .bool a0_3, .int .u64 a0_4, .bool a0_5, .int .u64 a0_6, .bool a0_7, .int .u64 a0_8, .bool a0_9], .int .i64 t247] rfl (by (try simp only [List.map_toArray, List.map_cons, List.map_nil]); first | done | rfl | (simp only [List.length_drop, List.length_take]; rfl)) ?_; (with_reducible refine (next_Next.calls a0_0 a0_1 a0_2 a0_3 a0_4 a0_5 a0_6 a0_7 a0_8 a0_9 t247 t251 t252 _ (hT.keep (by repeat (first | (with_reducible first | exact HB.out | apply below_alloc | apply pw_below_drewN | apply below_drew1 | refine below_set ?_ GE241.out) | exact HB.out))) A41.out).mono ?_); rintro e w89 ⟨rfl, hb⟩; refine ⟨_, rfl, ?_⟩; have n0_ := Aside0.mk (blk_below (g := gb241) (o := .cells #[.int .u64 a0_0, .bool a0_1, .int .u64 a0_2, .bool a0_3, .int .u64 a0_4, .bool a0_5, .int .u64 a0_6, .bool a0_7, .int .u64 a0_8, .bool a0_9] 26 (0, 0)) (by (with_reducible repeat (first | refine blk_drewN ?_ _ | refine blk_drew ?_ | refine blk_alloc ?_ _)); exact BK241.out) hb); have n1_ := Aside0.mk (below_step (by repeat (first | (with_reducible first | exact HB.out | apply below_alloc | apply pw_below_drewN | apply below_drew1 | refine below_set ?_ GE241.out) | exact HB.out)) hb); clear BK241; clear HB; have BK241 := n0_; have HB := n1_; clear n0_ n1_; (try clear hb); (try clear hb2); (try clear hk); (try clear hi)))
           go_ret
           exact ⟨by first | rfl | (simp [*] <;> rfl), by repeat (first | (with_reducible first | exact HB.out | apply below_alloc | apply pw_below_drewN | apply below_drew1 | refine below_set ?_ GE241.out) | exact HB.out)⟩
         ·replace c42 := Bool.eq_false_iff.mpr c42
          subst c42
          have H1 : (if t252 = t246 then (if t251 = t245 then (if true = true then (if t246 = 0 then (if t245 > a1 then (if t247 < a1 then (some true) else (if t248 = 11 then (some (t247 == 0)) else (some false))) else (if t246 = 11 then (if t245 = 0 then (if t247 < a1 then (some true) else (if t248 = 11 then (some (t247 == 0)) else (some false))) else (some false)) else (some false))) else (if t246 = 11 then (if t245 = 0 then (if t247 < a1 then (some true) else (if t248 = 11 then (some (t247 == 0)) else (some false))) else (some false)) else (some false))) else (some false)) else (some false)) else (some false)) = some r := by rw [if_neg (show ¬ (false = true) by decide)] at H; exact H
          clear H
          have H := H1
          clear H1
          by_cases c90 : t252 = t246
          ·rw [if_pos c90] at H
           have c90b0 : (t252 == t246) = true := beq_iff_eq.mpr c90
           have c90b1 : (t252 != t246) = false := bne_eq_false_iff_eq.mpr c90
           clear c90
           by_cases c91 : t251 = t245
           ·rw [if_pos c91] at H
            have c91b0 : (t251 == t245) = true := beq_iff_eq.mpr c91
            have c91b1 : (t251 != t245) = false := bne_eq_false_iff_eq.mpr c91
            clear c91
            by_cases c92 : true = true
            ·clear c92
             have H1 : (if t246 = 0 then (if t245 > a1 then (if t247 < a1 then (some true) else (if t248 = 11 then (some (t247 == 0)) else (some false))) else (if t246 = 11 then (if t245 = 0 then (if t247 < a1 then (some true) else (if t248 = 11 then (some (t247 == 0)) else (some false))) else (some false)) else (some false))) else (if t246 = 11 then (if t245 = 0 then (if t247 < a1 then (some true) else (if t248 = 11 then (some (t247 == 0)) else (some false))) else (some false)) else (some false))) = some r := by first | (rw [if_pos rfl] at H; exact H) | (rw [if_pos trivial] at H; exact H)
             clear H
             have H := H1
             clear H1
             by_cases c93 : t246 = 0
             ·rw [if_pos c93] at H
              have c93b0 : (t246 == 0) = true := beq_iff_eq.mpr c93
              have c93b1 : (t246 != 0) = false := bne_eq_false_iff_eq.mpr c93
              clear c93
              by_cases c94 : t245 > a1
              ·rw [if_pos c94] at H
               have c94b0 : decide (a1 < t245) = true := decide_eq_true c94
               clear c94
               by_cases c95 : t247 < a1
               ·rw [if_pos c95] at H
                have c95b0 : decide (t247 < a1) = true := decide_eq_true c95
                clear c95
                obtain rfl := Option.some.inj H
                have hcz96_0 : wc.cell? ⟨gb241, 0, none⟩ = some (.int .u64 a0_0) := (blk_cell BK241.out 0).trans rfl
                have hcz96_1 : wc.cell? ⟨gb241, 1, none⟩ = some (.bool a0_1) := (blk_cell BK241.out 1).trans rfl
                have hcz96_2 : wc.cell? ⟨gb241, 2, none⟩ = some (.int .u64 a0_2) := (blk_cell BK241.out 2).trans rfl
                have hcz96_3 : wc.cell? ⟨gb241, 3, none⟩ = some (.bool a0_3) := (blk_cell BK241.out 3).trans rfl
                have hcz96_4 : wc.cell? ⟨gb241, 4, none⟩ = some (.int .u64 a0_4) := (blk_cell BK241.out 4).trans rfl
                have hcz96_5 : wc.cell? ⟨gb241, 5, none⟩ = some (.bool a0_5) := (blk_cell BK241.out 5).trans rfl
                have hcz96_6 : wc.cell? ⟨gb241, 6, none⟩ = some (.int .u64 a0_6) := (blk_cell BK241.out 6).trans rfl
                have hcz96_7 : wc.cell? ⟨gb241, 7, none⟩ = some (.bool a0_7) := (blk_cell BK241.out 7).trans rfl
                have hcz96_8 : wc.cell? ⟨gb241, 8, none⟩ = some (.int .u64 a0_8) := (blk_cell BK241.out 8).trans rfl
                have hcz96_9 : wc.cell? ⟨gb241, 9, none⟩ = some (.bool a0_9) := (blk_cell BK241.out 9).trans rfl
                have hfz96_0 := blk_frozen BK241.out 0
                have hfz96_1 := blk_frozen BK241.out 1
                have hfz96_2 := blk_frozen BK241.out 2
                have hfz96_3 := blk_frozen BK241.out 3
                have hfz96_4 := blk_frozen BK241.out 4
                have hfz96_5 := blk_frozen BK241.out 5
                have hfz96_6 := blk_frozen BK241.out 6
                have hfz96_7 := blk_frozen BK241.out 7
                have hfz96_8 := blk_frozen BK241.out 8
                have hfz96_9 := blk_frozen BK241.out 9
                go_wp2_with (first | ((with_reducible refine gate_callee (f := 11) rfl ?_); refine goesL_ (some 84) rfl rfl Tryz.func11 (by kernel_rfl) rfl #[.agg #[.int .u64 a0_0, .bool a0_1, .int .u64 a0_2, .bool a0_3, .int .u64 a0_4, .bool a0_5, .int .u64 a0_6, .bool a0_7, .int .u64 a0_8, .bool a0_9], .int .i64 t247] rfl (by (try simp only [List.map_toArray, List.map_cons, List.map_nil]); first | done | rfl | (simp only [List.length_drop, List.length_take]; rfl)) ?_; (with_reducible refine (next_Next.calls a0_0 a0_1 a0_2 a0_3 a0_4 a0_5 a0_6 a0_7 a0_8 a0_9 t247 t251 t252 _ (hT.keep (by repeat (first | (with_reducible first | exact HB.out | apply below_alloc | apply pw_below_drewN | apply below_drew1 | refine below_set ?_ GE241.out) | exact HB.out))) A41.out).mono ?_); rintro e w97 ⟨rfl, hb⟩; refine ⟨_, rfl, ?_⟩; have n0_ := Aside0.mk (blk_below (g := gb241) (o := .cells #[.int .u64 a0_0, .bool a0_1, .int .u64 a0_2, .bool a0_3, .int .u64 a0_4, .bool a0_5, .int .u64 a0_6, .bool a0_7, .int .u64 a0_8, .bool a0_9] 26 (0, 0)) (by (with_reducible repeat (first | refine blk_drewN ?_ _ | refine blk_drew ?_ | refine blk_alloc ?_ _)); exact BK241.out) hb); have n1_ := Aside0.mk (below_step (by repeat (first | (with_reducible first | exact HB.out | apply below_alloc | apply pw_below_drewN | apply below_drew1 | refine below_set ?_ GE241.out) | exact HB.out)) hb); clear BK241; clear HB; have BK241 := n0_; have HB := n1_; clear n0_ n1_; (try clear hb); (try clear hb2); (try clear hk); (try clear hi)))
                go_ret
                exact ⟨by first | rfl | (simp [*] <;> rfl), by repeat (first | (with_reducible first | exact HB.out | apply below_alloc | apply pw_below_drewN | apply below_drew1 | refine below_set ?_ GE241.out) | exact HB.out)⟩
               ·rw [if_neg c95] at H
                have c95b0 : decide (t247 < a1) = false := decide_eq_false c95
                clear c95
                by_cases c98 : t248 = 11
                ·rw [if_pos c98] at H
                 have c98b0 : (t248 == 11) = true := beq_iff_eq.mpr c98
                 have c98b1 : (t248 != 11) = false := bne_eq_false_iff_eq.mpr c98
                 clear c98
                 obtain rfl := Option.some.inj H
                 have hcz99_0 : wc.cell? ⟨gb241, 0, none⟩ = some (.int .u64 a0_0) := (blk_cell BK241.out 0).trans rfl
                 have hcz99_1 : wc.cell? ⟨gb241, 1, none⟩ = some (.bool a0_1) := (blk_cell BK241.out 1).trans rfl
                 have hcz99_2 : wc.cell? ⟨gb241, 2, none⟩ = some (.int .u64 a0_2) := (blk_cell BK241.out 2).trans rfl
                 have hcz99_3 : wc.cell? ⟨gb241, 3, none⟩ = some (.bool a0_3) := (blk_cell BK241.out 3).trans rfl
                 have hcz99_4 : wc.cell? ⟨gb241, 4, none⟩ = some (.int .u64 a0_4) := (blk_cell BK241.out 4).trans rfl
                 have hcz99_5 : wc.cell? ⟨gb241, 5, none⟩ = some (.bool a0_5) := (blk_cell BK241.out 5).trans rfl
                 have hcz99_6 : wc.cell? ⟨gb241, 6, none⟩ = some (.int .u64 a0_6) := (blk_cell BK241.out 6).trans rfl
                 have hcz99_7 : wc.cell? ⟨gb241, 7, none⟩ = some (.bool a0_7) := (blk_cell BK241.out 7).trans rfl
                 have hcz99_8 : wc.cell? ⟨gb241, 8, none⟩ = some (.int .u64 a0_8) := (blk_cell BK241.out 8).trans rfl
                 have hcz99_9 : wc.cell? ⟨gb241, 9, none⟩ = some (.bool a0_9) := (blk_cell BK241.out 9).trans rfl
                 have hfz99_0 := blk_frozen BK241.out 0
                 have hfz99_1 := blk_frozen BK241.out 1
                 have hfz99_2 := blk_frozen BK241.out 2
                 have hfz99_3 := blk_frozen BK241.out 3
                 have hfz99_4 := blk_frozen BK241.out 4
                 have hfz99_5 := blk_frozen BK241.out 5
                 have hfz99_6 := blk_frozen BK241.out 6
                 have hfz99_7 := blk_frozen BK241.out 7
                 have hfz99_8 := blk_frozen BK241.out 8
                 have hfz99_9 := blk_frozen BK241.out 9
                 go_wp2_with (first | ((with_reducible refine gate_callee (f := 11) rfl ?_); refine goesL_ (some 84) rfl rfl Tryz.func11 (by kernel_rfl) rfl #[.agg #[.int .u64 a0_0, .bool a0_1, .int .u64 a0_2, .bool a0_3, .int .u64 a0_4, .bool a0_5, .int .u64 a0_6, .bool a0_7, .int .u64 a0_8, .bool a0_9], .int .i64 t247] rfl (by (try simp only [List.map_toArray, List.map_cons, List.map_nil]); first | done | rfl | (simp only [List.length_drop, List.length_take]; rfl)) ?_; (with_reducible refine (next_Next.calls a0_0 a0_1 a0_2 a0_3 a0_4 a0_5 a0_6 a0_7 a0_8 a0_9 t247 t251 t252 _ (hT.keep (by repeat (first | (with_reducible first | exact HB.out | apply below_alloc | apply pw_below_drewN | apply below_drew1 | refine below_set ?_ GE241.out) | exact HB.out))) A41.out).mono ?_); rintro e w100 ⟨rfl, hb⟩; refine ⟨_, rfl, ?_⟩; have n0_ := Aside0.mk (blk_below (g := gb241) (o := .cells #[.int .u64 a0_0, .bool a0_1, .int .u64 a0_2, .bool a0_3, .int .u64 a0_4, .bool a0_5, .int .u64 a0_6, .bool a0_7, .int .u64 a0_8, .bool a0_9] 26 (0, 0)) (by (with_reducible repeat (first | refine blk_drewN ?_ _ | refine blk_drew ?_ | refine blk_alloc ?_ _)); exact BK241.out) hb); have n1_ := Aside0.mk (below_step (by repeat (first | (with_reducible first | exact HB.out | apply below_alloc | apply pw_below_drewN | apply below_drew1 | refine below_set ?_ GE241.out) | exact HB.out)) hb); clear BK241; clear HB; have BK241 := n0_; have HB := n1_; clear n0_ n1_; (try clear hb); (try clear hb2); (try clear hk); (try clear hi)))
                 go_ret
                 exact ⟨by first | rfl | (simp [*] <;> rfl), by repeat (first | (with_reducible first | exact HB.out | apply below_alloc | apply pw_below_drewN | apply below_drew1 | refine below_set ?_ GE241.out) | exact HB.out)⟩
                ·rw [if_neg c98] at H
                 have c98b0 : (t248 == 11) = false := beq_eq_false_iff_ne.mpr c98
                 have c98b1 : (t248 != 11) = true := bne_iff_ne.mpr c98
                 obtain rfl := Option.some.inj H
                 have hcz101_0 : wc.cell? ⟨gb241, 0, none⟩ = some (.int .u64 a0_0) := (blk_cell BK241.out 0).trans rfl
                 have hcz101_1 : wc.cell? ⟨gb241, 1, none⟩ = some (.bool a0_1) := (blk_cell BK241.out 1).trans rfl
                 have hcz101_2 : wc.cell? ⟨gb241, 2, none⟩ = some (.int .u64 a0_2) := (blk_cell BK241.out 2).trans rfl
                 have hcz101_3 : wc.cell? ⟨gb241, 3, none⟩ = some (.bool a0_3) := (blk_cell BK241.out 3).trans rfl
                 have hcz101_4 : wc.cell? ⟨gb241, 4, none⟩ = some (.int .u64 a0_4) := (blk_cell BK241.out 4).trans rfl
                 have hcz101_5 : wc.cell? ⟨gb241, 5, none⟩ = some (.bool a0_5) := (blk_cell BK241.out 5).trans rfl
                 have hcz101_6 : wc.cell? ⟨gb241, 6, none⟩ = some (.int .u64 a0_6) := (blk_cell BK241.out 6).trans rfl
                 have hcz101_7 : wc.cell? ⟨gb241, 7, none⟩ = some (.bool a0_7) := (blk_cell BK241.out 7).trans rfl
                 have hcz101_8 : wc.cell? ⟨gb241, 8, none⟩ = some (.int .u64 a0_8) := (blk_cell BK241.out 8).trans rfl
                 have hcz101_9 : wc.cell? ⟨gb241, 9, none⟩ = some (.bool a0_9) := (blk_cell BK241.out 9).trans rfl
                 have hfz101_0 := blk_frozen BK241.out 0
                 have hfz101_1 := blk_frozen BK241.out 1
                 have hfz101_2 := blk_frozen BK241.out 2
                 have hfz101_3 := blk_frozen BK241.out 3
                 have hfz101_4 := blk_frozen BK241.out 4
                 have hfz101_5 := blk_frozen BK241.out 5
                 have hfz101_6 := blk_frozen BK241.out 6
                 have hfz101_7 := blk_frozen BK241.out 7
                 have hfz101_8 := blk_frozen BK241.out 8
                 have hfz101_9 := blk_frozen BK241.out 9
                 go_wp2_with (first | ((with_reducible refine gate_callee (f := 11) rfl ?_); refine goesL_ (some 84) rfl rfl Tryz.func11 (by kernel_rfl) rfl #[.agg #[.int .u64 a0_0, .bool a0_1, .int .u64 a0_2, .bool a0_3, .int .u64 a0_4, .bool a0_5, .int .u64 a0_6, .bool a0_7, .int .u64 a0_8, .bool a0_9], .int .i64 t247] rfl (by (try simp only [List.map_toArray, List.map_cons, List.map_nil]); first | done | rfl | (simp only [List.length_drop, List.length_take]; rfl)) ?_; (with_reducible refine (next_Next.calls a0_0 a0_1 a0_2 a0_3 a0_4 a0_5 a0_6 a0_7 a0_8 a0_9 t247 t251 t252 _ (hT.keep (by repeat (first | (with_reducible first | exact HB.out | apply below_alloc | apply pw_below_drewN | apply below_drew1 | refine below_set ?_ GE241.out) | exact HB.out))) A41.out).mono ?_); rintro e w102 ⟨rfl, hb⟩; refine ⟨_, rfl, ?_⟩; have n0_ := Aside0.mk (blk_below (g := gb241) (o := .cells #[.int .u64 a0_0, .bool a0_1, .int .u64 a0_2, .bool a0_3, .int .u64 a0_4, .bool a0_5, .int .u64 a0_6, .bool a0_7, .int .u64 a0_8, .bool a0_9] 26 (0, 0)) (by (with_reducible repeat (first | refine blk_drewN ?_ _ | refine blk_drew ?_ | refine blk_alloc ?_ _)); exact BK241.out) hb); have n1_ := Aside0.mk (below_step (by repeat (first | (with_reducible first | exact HB.out | apply below_alloc | apply pw_below_drewN | apply below_drew1 | refine below_set ?_ GE241.out) | exact HB.out)) hb); clear BK241; clear HB; have BK241 := n0_; have HB := n1_; clear n0_ n1_; (try clear hb); (try clear hb2); (try clear hk); (try clear hi)))
                 go_ret
                 exact ⟨by first | rfl | (simp [*] <;> rfl), by repeat (first | (with_reducible first | exact HB.out | apply below_alloc | apply pw_below_drewN | apply below_drew1 | refine below_set ?_ GE241.out) | exact HB.out)⟩
              ·rw [if_neg c94] at H
               have c94b0 : decide (a1 < t245) = false := decide_eq_false c94
               clear c94
               by_cases c103 : t246 = 11
               ·rw [if_pos c103] at H
                have c103b0 : (t246 == 11) = true := beq_iff_eq.mpr c103
                have c103b1 : (t246 != 11) = false := bne_eq_false_iff_eq.mpr c103
                clear c103
                by_cases c104 : t245 = 0
                ·rw [if_pos c104] at H
                 have c104b0 : (t245 == 0) = true := beq_iff_eq.mpr c104
                 have c104b1 : (t245 != 0) = false := bne_eq_false_iff_eq.mpr c104
                 clear c104
                 by_cases c105 : t247 < a1
                 ·rw [if_pos c105] at H
                  have c105b0 : decide (t247 < a1) = true := decide_eq_true c105
                  clear c105
                  obtain rfl := Option.some.inj H
                  have hcz106_0 : wc.cell? ⟨gb241, 0, none⟩ = some (.int .u64 a0_0) := (blk_cell BK241.out 0).trans rfl
                  have hcz106_1 : wc.cell? ⟨gb241, 1, none⟩ = some (.bool a0_1) := (blk_cell BK241.out 1).trans rfl
                  have hcz106_2 : wc.cell? ⟨gb241, 2, none⟩ = some (.int .u64 a0_2) := (blk_cell BK241.out 2).trans rfl
                  have hcz106_3 : wc.cell? ⟨gb241, 3, none⟩ = some (.bool a0_3) := (blk_cell BK241.out 3).trans rfl
                  have hcz106_4 : wc.cell? ⟨gb241, 4, none⟩ = some (.int .u64 a0_4) := (blk_cell BK241.out 4).trans rfl
                  have hcz106_5 : wc.cell? ⟨gb241, 5, none⟩ = some (.bool a0_5) := (blk_cell BK241.out 5).trans rfl
                  have hcz106_6 : wc.cell? ⟨gb241, 6, none⟩ = some (.int .u64 a0_6) := (blk_cell BK241.out 6).trans rfl
                  have hcz106_7 : wc.cell? ⟨gb241, 7, none⟩ = some (.bool a0_7) := (blk_cell BK241.out 7).trans rfl
                  have hcz106_8 : wc.cell? ⟨gb241, 8, none⟩ = some (.int .u64 a0_8) := (blk_cell BK241.out 8).trans rfl
                  have hcz106_9 : wc.cell? ⟨gb241, 9, none⟩ = some (.bool a0_9) := (blk_cell BK241.out 9).trans rfl
                  have hfz106_0 := blk_frozen BK241.out 0
                  have hfz106_1 := blk_frozen BK241.out 1
                  have hfz106_2 := blk_frozen BK241.out 2
                  have hfz106_3 := blk_frozen BK241.out 3
                  have hfz106_4 := blk_frozen BK241.out 4
                  have hfz106_5 := blk_frozen BK241.out 5
                  have hfz106_6 := blk_frozen BK241.out 6
                  have hfz106_7 := blk_frozen BK241.out 7
                  have hfz106_8 := blk_frozen BK241.out 8
                  have hfz106_9 := blk_frozen BK241.out 9
                  go_wp2_with (first | ((with_reducible refine gate_callee (f := 11) rfl ?_); refine goesL_ (some 84) rfl rfl Tryz.func11 (by kernel_rfl) rfl #[.agg #[.int .u64 a0_0, .bool a0_1, .int .u64 a0_2, .bool a0_3, .int .u64 a0_4, .bool a0_5, .int .u64 a0_6, .bool a0_7, .int .u64 a0_8, .bool a0_9], .int .i64 t247] rfl (by (try simp only [List.map_toArray, List.map_cons, List.map_nil]); first | done | rfl | (simp only [List.length_drop, List.length_take]; rfl)) ?_; (with_reducible refine (next_Next.calls a0_0 a0_1 a0_2 a0_3 a0_4 a0_5 a0_6 a0_7 a0_8 a0_9 t247 t251 t252 _ (hT.keep (by repeat (first | (with_reducible first | exact HB.out | apply below_alloc | apply pw_below_drewN | apply below_drew1 | refine below_set ?_ GE241.out) | exact HB.out))) A41.out).mono ?_); rintro e w107 ⟨rfl, hb⟩; refine ⟨_, rfl, ?_⟩; have n0_ := Aside0.mk (blk_below (g := gb241) (o := .cells #[.int .u64 a0_0, .bool a0_1, .int .u64 a0_2, .bool a0_3, .int .u64 a0_4, .bool a0_5, .int .u64 a0_6, .bool a0_7, .int .u64 a0_8, .bool a0_9] 26 (0, 0)) (by (with_reducible repeat (first | refine blk_drewN ?_ _ | refine blk_drew ?_ | refine blk_alloc ?_ _)); exact BK241.out) hb); have n1_ := Aside0.mk (below_step (by repeat (first | (with_reducible first | exact HB.out | apply below_alloc | apply pw_below_drewN | apply below_drew1 | refine below_set ?_ GE241.out) | exact HB.out)) hb); clear BK241; clear HB; have BK241 := n0_; have HB := n1_; clear n0_ n1_; (try clear hb); (try clear hb2); (try clear hk); (try clear hi)))
                  go_ret
                  exact ⟨by first | rfl | (simp [*] <;> rfl), by repeat (first | (with_reducible first | exact HB.out | apply below_alloc | apply pw_below_drewN | apply below_drew1 | refine below_set ?_ GE241.out) | exact HB.out)⟩
                 ·rw [if_neg c105] at H
                  have c105b0 : decide (t247 < a1) = false := decide_eq_false c105
                  clear c105
                  by_cases c108 : t248 = 11
                  ·rw [if_pos c108] at H
                   have c108b0 : (t248 == 11) = true := beq_iff_eq.mpr c108
                   have c108b1 : (t248 != 11) = false := bne_eq_false_iff_eq.mpr c108
                   clear c108
                   obtain rfl := Option.some.inj H
                   have hcz109_0 : wc.cell? ⟨gb241, 0, none⟩ = some (.int .u64 a0_0) := (blk_cell BK241.out 0).trans rfl
                   have hcz109_1 : wc.cell? ⟨gb241, 1, none⟩ = some (.bool a0_1) := (blk_cell BK241.out 1).trans rfl
                   have hcz109_2 : wc.cell? ⟨gb241, 2, none⟩ = some (.int .u64 a0_2) := (blk_cell BK241.out 2).trans rfl
                   have hcz109_3 : wc.cell? ⟨gb241, 3, none⟩ = some (.bool a0_3) := (blk_cell BK241.out 3).trans rfl
                   have hcz109_4 : wc.cell? ⟨gb241, 4, none⟩ = some (.int .u64 a0_4) := (blk_cell BK241.out 4).trans rfl
                   have hcz109_5 : wc.cell? ⟨gb241, 5, none⟩ = some (.bool a0_5) := (blk_cell BK241.out 5).trans rfl
                   have hcz109_6 : wc.cell? ⟨gb241, 6, none⟩ = some (.int .u64 a0_6) := (blk_cell BK241.out 6).trans rfl
                   have hcz109_7 : wc.cell? ⟨gb241, 7, none⟩ = some (.bool a0_7) := (blk_cell BK241.out 7).trans rfl
                   have hcz109_8 : wc.cell? ⟨gb241, 8, none⟩ = some (.int .u64 a0_8) := (blk_cell BK241.out 8).trans rfl
                   have hcz109_9 : wc.cell? ⟨gb241, 9, none⟩ = some (.bool a0_9) := (blk_cell BK241.out 9).trans rfl
                   have hfz109_0 := blk_frozen BK241.out 0
                   have hfz109_1 := blk_frozen BK241.out 1
                   have hfz109_2 := blk_frozen BK241.out 2
                   have hfz109_3 := blk_frozen BK241.out 3
                   have hfz109_4 := blk_frozen BK241.out 4
                   have hfz109_5 := blk_frozen BK241.out 5
                   have hfz109_6 := blk_frozen BK241.out 6
                   have hfz109_7 := blk_frozen BK241.out 7
                   have hfz109_8 := blk_frozen BK241.out 8
                   have hfz109_9 := blk_frozen BK241.out 9
                   go_wp2_with (first | ((with_reducible refine gate_callee (f := 11) rfl ?_); refine goesL_ (some 84) rfl rfl Tryz.func11 (by kernel_rfl) rfl #[.agg #[.int .u64 a0_0, .bool a0_1, .int .u64 a0_2, .bool a0_3, .int .u64 a0_4, .bool a0_5, .int .u64 a0_6, .bool a0_7, .int .u64 a0_8, .bool a0_9], .int .i64 t247] rfl (by (try simp only [List.map_toArray, List.map_cons, List.map_nil]); first | done | rfl | (simp only [List.length_drop, List.length_take]; rfl)) ?_; (with_reducible refine (next_Next.calls a0_0 a0_1 a0_2 a0_3 a0_4 a0_5 a0_6 a0_7 a0_8 a0_9 t247 t251 t252 _ (hT.keep (by repeat (first | (with_reducible first | exact HB.out | apply below_alloc | apply pw_below_drewN | apply below_drew1 | refine below_set ?_ GE241.out) | exact HB.out))) A41.out).mono ?_); rintro e w110 ⟨rfl, hb⟩; refine ⟨_, rfl, ?_⟩; have n0_ := Aside0.mk (blk_below (g := gb241) (o := .cells #[.int .u64 a0_0, .bool a0_1, .int .u64 a0_2, .bool a0_3, .int .u64 a0_4, .bool a0_5, .int .u64 a0_6, .bool a0_7, .int .u64 a0_8, .bool a0_9] 26 (0, 0)) (by (with_reducible repeat (first | refine blk_drewN ?_ _ | refine blk_drew ?_ | refine blk_alloc ?_ _)); exact BK241.out) hb); have n1_ := Aside0.mk (below_step (by repeat (first | (with_reducible first | exact HB.out | apply below_alloc | apply pw_below_drewN | apply below_drew1 | refine below_set ?_ GE241.out) | exact HB.out)) hb); clear BK241; clear HB; have BK241 := n0_; have HB := n1_; clear n0_ n1_; (try clear hb); (try clear hb2); (try clear hk); (try clear hi)))
                   go_ret
                   exact ⟨by first | rfl | (simp [*] <;> rfl), by repeat (first | (with_reducible first | exact HB.out | apply below_alloc | apply pw_below_drewN | apply below_drew1 | refine below_set ?_ GE241.out) | exact HB.out)⟩
                  ·rw [if_neg c108] at H
                   have c108b0 : (t248 == 11) = false := beq_eq_false_iff_ne.mpr c108
                   have c108b1 : (t248 != 11) = true := bne_iff_ne.mpr c108
                   obtain rfl := Option.some.inj H
                   have hcz111_0 : wc.cell? ⟨gb241, 0, none⟩ = some (.int .u64 a0_0) := (blk_cell BK241.out 0).trans rfl
                   have hcz111_1 : wc.cell? ⟨gb241, 1, none⟩ = some (.bool a0_1) := (blk_cell BK241.out 1).trans rfl
                   have hcz111_2 : wc.cell? ⟨gb241, 2, none⟩ = some (.int .u64 a0_2) := (blk_cell BK241.out 2).trans rfl
                   have hcz111_3 : wc.cell? ⟨gb241, 3, none⟩ = some (.bool a0_3) := (blk_cell BK241.out 3).trans rfl
                   have hcz111_4 : wc.cell? ⟨gb241, 4, none⟩ = some (.int .u64 a0_4) := (blk_cell BK241.out 4).trans rfl
                   have hcz111_5 : wc.cell? ⟨gb241, 5, none⟩ = some (.bool a0_5) := (blk_cell BK241.out 5).trans rfl
                   have hcz111_6 : wc.cell? ⟨gb241, 6, none⟩ = some (.int .u64 a0_6) := (blk_cell BK241.out 6).trans rfl
                   have hcz111_7 : wc.cell? ⟨gb241, 7, none⟩ = some (.bool a0_7) := (blk_cell BK241.out 7).trans rfl
                   have hcz111_8 : wc.cell? ⟨gb241, 8, none⟩ = some (.int .u64 a0_8) := (blk_cell BK241.out 8).trans rfl
                   have hcz111_9 : wc.cell? ⟨gb241, 9, none⟩ = some (.bool a0_9) := (blk_cell BK241.out 9).trans rfl
                   have hfz111_0 := blk_frozen BK241.out 0
                   have hfz111_1 := blk_frozen BK241.out 1
                   have hfz111_2 := blk_frozen BK241.out 2
                   have hfz111_3 := blk_frozen BK241.out 3
                   have hfz111_4 := blk_frozen BK241.out 4
                   have hfz111_5 := blk_frozen BK241.out 5
                   have hfz111_6 := blk_frozen BK241.out 6
                   have hfz111_7 := blk_frozen BK241.out 7
                   have hfz111_8 := blk_frozen BK241.out 8
                   have hfz111_9 := blk_frozen BK241.out 9
                   go_wp2_with (first | ((with_reducible refine gate_callee (f := 11) rfl ?_); refine goesL_ (some 84) rfl rfl Tryz.func11 (by kernel_rfl) rfl #[.agg #[.int .u64 a0_0, .bool a0_1, .int .u64 a0_2, .bool a0_3, .int .u64 a0_4, .bool a0_5, .int .u64 a0_6, .bool a0_7, .int .u64 a0_8, .bool a0_9], .int .i64 t247] rfl (by (try simp only [List.map_toArray, List.map_cons, List.map_nil]); first | done | rfl | (simp only [List.length_drop, List.length_take]; rfl)) ?_; (with_reducible refine (next_Next.calls a0_0 a0_1 a0_2 a0_3 a0_4 a0_5 a0_6 a0_7 a0_8 a0_9 t247 t251 t252 _ (hT.keep (by repeat (first | (with_reducible first | exact HB.out | apply below_alloc | apply pw_below_drewN | apply below_drew1 | refine below_set ?_ GE241.out) | exact HB.out))) A41.out).mono ?_); rintro e w112 ⟨rfl, hb⟩; refine ⟨_, rfl, ?_⟩; have n0_ := Aside0.mk (blk_below (g := gb241) (o := .cells #[.int .u64 a0_0, .bool a0_1, .int .u64 a0_2, .bool a0_3, .int .u64 a0_4, .bool a0_5, .int .u64 a0_6, .bool a0_7, .int .u64 a0_8, .bool a0_9] 26 (0, 0)) (by (with_reducible repeat (first | refine blk_drewN ?_ _ | refine blk_drew ?_ | refine blk_alloc ?_ _)); exact BK241.out) hb); have n1_ := Aside0.mk (below_step (by repeat (first | (with_reducible first | exact HB.out | apply below_alloc | apply pw_below_drewN | apply below_drew1 | refine below_set ?_ GE241.out) | exact HB.out)) hb); clear BK241; clear HB; have BK241 := n0_; have HB := n1_; clear n0_ n1_; (try clear hb); (try clear hb2); (try clear hk); (try clear hi)))
                   go_ret
                   exact ⟨by first | rfl | (simp [*] <;> rfl), by repeat (first | (with_reducible first | exact HB.out | apply below_alloc | apply pw_below_drewN | apply below_drew1 | refine below_set ?_ GE241.out) | exact HB.out)⟩
                ·rw [if_neg c104] at H
                 have c104b0 : (t245 == 0) = false := beq_eq_false_iff_ne.mpr c104
                 have c104b1 : (t245 != 0) = true := bne_iff_ne.mpr c104
                 obtain rfl := Option.some.inj H
                 have hcz113_0 : wc.cell? ⟨gb241, 0, none⟩ = some (.int .u64 a0_0) := (blk_cell BK241.out 0).trans rfl
                 have hcz113_1 : wc.cell? ⟨gb241, 1, none⟩ = some (.bool a0_1) := (blk_cell BK241.out 1).trans rfl
                 have hcz113_2 : wc.cell? ⟨gb241, 2, none⟩ = some (.int .u64 a0_2) := (blk_cell BK241.out 2).trans rfl
                 have hcz113_3 : wc.cell? ⟨gb241, 3, none⟩ = some (.bool a0_3) := (blk_cell BK241.out 3).trans rfl
                 have hcz113_4 : wc.cell? ⟨gb241, 4, none⟩ = some (.int .u64 a0_4) := (blk_cell BK241.out 4).trans rfl
                 have hcz113_5 : wc.cell? ⟨gb241, 5, none⟩ = some (.bool a0_5) := (blk_cell BK241.out 5).trans rfl
                 have hcz113_6 : wc.cell? ⟨gb241, 6, none⟩ = some (.int .u64 a0_6) := (blk_cell BK241.out 6).trans rfl
                 have hcz113_7 : wc.cell? ⟨gb241, 7, none⟩ = some (.bool a0_7) := (blk_cell BK241.out 7).trans rfl
                 have hcz113_8 : wc.cell? ⟨gb241, 8, none⟩ = some (.int .u64 a0_8) := (blk_cell BK241.out 8).trans rfl
                 have hcz113_9 : wc.cell? ⟨gb241, 9, none⟩ = some (.bool a0_9) := (blk_cell BK241.out 9).trans rfl
                 have hfz113_0 := blk_frozen BK241.out 0
                 have hfz113_1 := blk_frozen BK241.out 1
                 have hfz113_2 := blk_frozen BK241.out 2
                 have hfz113_3 := blk_frozen BK241.out 3
                 have hfz113_4 := blk_frozen BK241.out 4
                 have hfz113_5 := blk_frozen BK241.out 5
                 have hfz113_6 := blk_frozen BK241.out 6
                 have hfz113_7 := blk_frozen BK241.out 7
                 have hfz113_8 := blk_frozen BK241.out 8
                 have hfz113_9 := blk_frozen BK241.out 9
                 go_wp2_with (first | ((with_reducible refine gate_callee (f := 11) rfl ?_); refine goesL_ (some 84) rfl rfl Tryz.func11 (by kernel_rfl) rfl #[.agg #[.int .u64 a0_0, .bool a0_1, .int .u64 a0_2, .bool a0_3, .int .u64 a0_4, .bool a0_5, .int .u64 a0_6, .bool a0_7, .int .u64 a0_8, .bool a0_9], .int .i64 t247] rfl (by (try simp only [List.map_toArray, List.map_cons, List.map_nil]); first | done | rfl | (simp only [List.length_drop, List.length_take]; rfl)) ?_; (with_reducible refine (next_Next.calls a0_0 a0_1 a0_2 a0_3 a0_4 a0_5 a0_6 a0_7 a0_8 a0_9 t247 t251 t252 _ (hT.keep (by repeat (first | (with_reducible first | exact HB.out | apply below_alloc | apply pw_below_drewN | apply below_drew1 | refine below_set ?_ GE241.out) | exact HB.out))) A41.out).mono ?_); rintro e w114 ⟨rfl, hb⟩; refine ⟨_, rfl, ?_⟩; have n0_ := Aside0.mk (blk_below (g := gb241) (o := .cells #[.int .u64 a0_0, .bool a0_1, .int .u64 a0_2, .bool a0_3, .int .u64 a0_4, .bool a0_5, .int .u64 a0_6, .bool a0_7, .int .u64 a0_8, .bool a0_9] 26 (0, 0)) (by (with_reducible repeat (first | refine blk_drewN ?_ _ | refine blk_drew ?_ | refine blk_alloc ?_ _)); exact BK241.out) hb); have n1_ := Aside0.mk (below_step (by repeat (first | (with_reducible first | exact HB.out | apply below_alloc | apply pw_below_drewN | apply below_drew1 | refine below_set ?_ GE241.out) | exact HB.out)) hb); clear BK241; clear HB; have BK241 := n0_; have HB := n1_; clear n0_ n1_; (try clear hb); (try clear hb2); (try clear hk); (try clear hi)))
                 go_ret
                 exact ⟨by first | rfl | (simp [*] <;> rfl), by repeat (first | (with_reducible first | exact HB.out | apply below_alloc | apply pw_below_drewN | apply below_drew1 | refine below_set ?_ GE241.out) | exact HB.out)⟩
               ·rw [if_neg c103] at H
                have c103b0 : (t246 == 11) = false := beq_eq_false_iff_ne.mpr c103
                have c103b1 : (t246 != 11) = true := bne_iff_ne.mpr c103
                obtain rfl := Option.some.inj H
                have hcz115_0 : wc.cell? ⟨gb241, 0, none⟩ = some (.int .u64 a0_0) := (blk_cell BK241.out 0).trans rfl
                have hcz115_1 : wc.cell? ⟨gb241, 1, none⟩ = some (.bool a0_1) := (blk_cell BK241.out 1).trans rfl
                have hcz115_2 : wc.cell? ⟨gb241, 2, none⟩ = some (.int .u64 a0_2) := (blk_cell BK241.out 2).trans rfl
                have hcz115_3 : wc.cell? ⟨gb241, 3, none⟩ = some (.bool a0_3) := (blk_cell BK241.out 3).trans rfl
                have hcz115_4 : wc.cell? ⟨gb241, 4, none⟩ = some (.int .u64 a0_4) := (blk_cell BK241.out 4).trans rfl
                have hcz115_5 : wc.cell? ⟨gb241, 5, none⟩ = some (.bool a0_5) := (blk_cell BK241.out 5).trans rfl
                have hcz115_6 : wc.cell? ⟨gb241, 6, none⟩ = some (.int .u64 a0_6) := (blk_cell BK241.out 6).trans rfl
                have hcz115_7 : wc.cell? ⟨gb241, 7, none⟩ = some (.bool a0_7) := (blk_cell BK241.out 7).trans rfl
                have hcz115_8 : wc.cell? ⟨gb241, 8, none⟩ = some (.int .u64 a0_8) := (blk_cell BK241.out 8).trans rfl
                have hcz115_9 : wc.cell? ⟨gb241, 9, none⟩ = some (.bool a0_9) := (blk_cell BK241.out 9).trans rfl
                have hfz115_0 := blk_frozen BK241.out 0
                have hfz115_1 := blk_frozen BK241.out 1
                have hfz115_2 := blk_frozen BK241.out 2
                have hfz115_3 := blk_frozen BK241.out 3
                have hfz115_4 := blk_frozen BK241.out 4
                have hfz115_5 := blk_frozen BK241.out 5
                have hfz115_6 := blk_frozen BK241.out 6
                have hfz115_7 := blk_frozen BK241.out 7
                have hfz115_8 := blk_frozen BK241.out 8
                have hfz115_9 := blk_frozen BK241.out 9
                go_wp2_with (first | ((with_reducible refine gate_callee (f := 11) rfl ?_); refine goesL_ (some 84) rfl rfl Tryz.func11 (by kernel_rfl) rfl #[.agg #[.int .u64 a0_0, .bool a0_1, .int .u64 a0_2, .bool a0_3, .int .u64 a0_4, .bool a0_5, .int .u64 a0_6, .bool a0_7, .int .u64 a0_8, .bool a0_9], .int .i64 t247] rfl (by (try simp only [List.map_toArray, List.map_cons, List.map_nil]); first | done | rfl | (simp only [List.length_drop, List.length_take]; rfl)) ?_; (with_reducible refine (next_Next.calls a0_0 a0_1 a0_2 a0_3 a0_4 a0_5 a0_6 a0_7 a0_8 a0_9 t247 t251 t252 _ (hT.keep (by repeat (first | (with_reducible first | exact HB.out | apply below_alloc | apply pw_below_drewN | apply below_drew1 | refine below_set ?_ GE241.out) | exact HB.out))) A41.out).mono ?_); rintro e w116 ⟨rfl, hb⟩; refine ⟨_, rfl, ?_⟩; have n0_ := Aside0.mk (blk_below (g := gb241) (o := .cells #[.int .u64 a0_0, .bool a0_1, .int .u64 a0_2, .bool a0_3, .int .u64 a0_4, .bool a0_5, .int .u64 a0_6, .bool a0_7, .int .u64 a0_8, .bool a0_9] 26 (0, 0)) (by (with_reducible repeat (first | refine blk_drewN ?_ _ | refine blk_drew ?_ | refine blk_alloc ?_ _)); exact BK241.out) hb); have n1_ := Aside0.mk (below_step (by repeat (first | (with_reducible first | exact HB.out | apply below_alloc | apply pw_below_drewN | apply below_drew1 | refine below_set ?_ GE241.out) | exact HB.out)) hb); clear BK241; clear HB; have BK241 := n0_; have HB := n1_; clear n0_ n1_; (try clear hb); (try clear hb2); (try clear hk); (try clear hi)))
                go_ret
                exact ⟨by first | rfl | (simp [*] <;> rfl), by repeat (first | (with_reducible first | exact HB.out | apply below_alloc | apply pw_below_drewN | apply below_drew1 | refine below_set ?_ GE241.out) | exact HB.out)⟩
             ·rw [if_neg c93] at H
              have c93b0 : (t246 == 0) = false := beq_eq_false_iff_ne.mpr c93
              have c93b1 : (t246 != 0) = true := bne_iff_ne.mpr c93
              by_cases c117 : t246 = 11
              ·rw [if_pos c117] at H
               have c117b0 : (t246 == 11) = true := beq_iff_eq.mpr c117
               have c117b1 : (t246 != 11) = false := bne_eq_false_iff_eq.mpr c117
               clear c117
               by_cases c118 : t245 = 0
               ·rw [if_pos c118] at H
                have c118b0 : (t245 == 0) = true := beq_iff_eq.mpr c118
                have c118b1 : (t245 != 0) = false := bne_eq_false_iff_eq.mpr c118
                clear c118
                by_cases c119 : t247 < a1
                ·rw [if_pos c119] at H
                 have c119b0 : decide (t247 < a1) = true := decide_eq_true c119
                 clear c119
                 obtain rfl := Option.some.inj H
                 have hcz120_0 : wc.cell? ⟨gb241, 0, none⟩ = some (.int .u64 a0_0) := (blk_cell BK241.out 0).trans rfl
                 have hcz120_1 : wc.cell? ⟨gb241, 1, none⟩ = some (.bool a0_1) := (blk_cell BK241.out 1).trans rfl
                 have hcz120_2 : wc.cell? ⟨gb241, 2, none⟩ = some (.int .u64 a0_2) := (blk_cell BK241.out 2).trans rfl
                 have hcz120_3 : wc.cell? ⟨gb241, 3, none⟩ = some (.bool a0_3) := (blk_cell BK241.out 3).trans rfl
                 have hcz120_4 : wc.cell? ⟨gb241, 4, none⟩ = some (.int .u64 a0_4) := (blk_cell BK241.out 4).trans rfl
                 have hcz120_5 : wc.cell? ⟨gb241, 5, none⟩ = some (.bool a0_5) := (blk_cell BK241.out 5).trans rfl
                 have hcz120_6 : wc.cell? ⟨gb241, 6, none⟩ = some (.int .u64 a0_6) := (blk_cell BK241.out 6).trans rfl
                 have hcz120_7 : wc.cell? ⟨gb241, 7, none⟩ = some (.bool a0_7) := (blk_cell BK241.out 7).trans rfl
                 have hcz120_8 : wc.cell? ⟨gb241, 8, none⟩ = some (.int .u64 a0_8) := (blk_cell BK241.out 8).trans rfl
                 have hcz120_9 : wc.cell? ⟨gb241, 9, none⟩ = some (.bool a0_9) := (blk_cell BK241.out 9).trans rfl
                 have hfz120_0 := blk_frozen BK241.out 0
                 have hfz120_1 := blk_frozen BK241.out 1
                 have hfz120_2 := blk_frozen BK241.out 2
                 have hfz120_3 := blk_frozen BK241.out 3
                 have hfz120_4 := blk_frozen BK241.out 4
                 have hfz120_5 := blk_frozen BK241.out 5
                 have hfz120_6 := blk_frozen BK241.out 6
                 have hfz120_7 := blk_frozen BK241.out 7
                 have hfz120_8 := blk_frozen BK241.out 8
                 have hfz120_9 := blk_frozen BK241.out 9
                 go_wp2_with (first | ((with_reducible refine gate_callee (f := 11) rfl ?_); refine goesL_ (some 84) rfl rfl Tryz.func11 (by kernel_rfl) rfl #[.agg #[.int .u64 a0_0, .bool a0_1, .int .u64 a0_2, .bool a0_3, .int .u64 a0_4, .bool a0_5, .int .u64 a0_6, .bool a0_7, .int .u64 a0_8, .bool a0_9], .int .i64 t247] rfl (by (try simp only [List.map_toArray, List.map_cons, List.map_nil]); first | done | rfl | (simp only [List.length_drop, List.length_take]; rfl)) ?_; (with_reducible refine (next_Next.calls a0_0 a0_1 a0_2 a0_3 a0_4 a0_5 a0_6 a0_7 a0_8 a0_9 t247 t251 t252 _ (hT.keep (by repeat (first | (with_reducible first | exact HB.out | apply below_alloc | apply pw_below_drewN | apply below_drew1 | refine below_set ?_ GE241.out) | exact HB.out))) A41.out).mono ?_); rintro e w121 ⟨rfl, hb⟩; refine ⟨_, rfl, ?_⟩; have n0_ := Aside0.mk (blk_below (g := gb241) (o := .cells #[.int .u64 a0_0, .bool a0_1, .int .u64 a0_2, .bool a0_3, .int .u64 a0_4, .bool a0_5, .int .u64 a0_6, .bool a0_7, .int .u64 a0_8, .bool a0_9] 26 (0, 0)) (by (with_reducible repeat (first | refine blk_drewN ?_ _ | refine blk_drew ?_ | refine blk_alloc ?_ _)); exact BK241.out) hb); have n1_ := Aside0.mk (below_step (by repeat (first | (with_reducible first | exact HB.out | apply below_alloc | apply pw_below_drewN | apply below_drew1 | refine below_set ?_ GE241.out) | exact HB.out)) hb); clear BK241; clear HB; have BK241 := n0_; have HB := n1_; clear n0_ n1_; (try clear hb); (try clear hb2); (try clear hk); (try clear hi)))
                 go_ret
                 exact ⟨by first | rfl | (simp [*] <;> rfl), by repeat (first | (with_reducible first | exact HB.out | apply below_alloc | apply pw_below_drewN | apply below_drew1 | refine below_set ?_ GE241.out) | exact HB.out)⟩
                ·rw [if_neg c119] at H
                 have c119b0 : decide (t247 < a1) = false := decide_eq_false c119
                 clear c119
                 by_cases c122 : t248 = 11
                 ·rw [if_pos c122] at H
                  have c122b0 : (t248 == 11) = true := beq_iff_eq.mpr c122
                  have c122b1 : (t248 != 11) = false := bne_eq_false_iff_eq.mpr c122
                  clear c122
                  obtain rfl := Option.some.inj H
                  have hcz123_0 : wc.cell? ⟨gb241, 0, none⟩ = some (.int .u64 a0_0) := (blk_cell BK241.out 0).trans rfl
                  have hcz123_1 : wc.cell? ⟨gb241, 1, none⟩ = some (.bool a0_1) := (blk_cell BK241.out 1).trans rfl
                  have hcz123_2 : wc.cell? ⟨gb241, 2, none⟩ = some (.int .u64 a0_2) := (blk_cell BK241.out 2).trans rfl
                  have hcz123_3 : wc.cell? ⟨gb241, 3, none⟩ = some (.bool a0_3) := (blk_cell BK241.out 3).trans rfl
                  have hcz123_4 : wc.cell? ⟨gb241, 4, none⟩ = some (.int .u64 a0_4) := (blk_cell BK241.out 4).trans rfl
                  have hcz123_5 : wc.cell? ⟨gb241, 5, none⟩ = some (.bool a0_5) := (blk_cell BK241.out 5).trans rfl
                  have hcz123_6 : wc.cell? ⟨gb241, 6, none⟩ = some (.int .u64 a0_6) := (blk_cell BK241.out 6).trans rfl
                  have hcz123_7 : wc.cell? ⟨gb241, 7, none⟩ = some (.bool a0_7) := (blk_cell BK241.out 7).trans rfl
                  have hcz123_8 : wc.cell? ⟨gb241, 8, none⟩ = some (.int .u64 a0_8) := (blk_cell BK241.out 8).trans rfl
                  have hcz123_9 : wc.cell? ⟨gb241, 9, none⟩ = some (.bool a0_9) := (blk_cell BK241.out 9).trans rfl
                  have hfz123_0 := blk_frozen BK241.out 0
                  have hfz123_1 := blk_frozen BK241.out 1
                  have hfz123_2 := blk_frozen BK241.out 2
                  have hfz123_3 := blk_frozen BK241.out 3
                  have hfz123_4 := blk_frozen BK241.out 4
                  have hfz123_5 := blk_frozen BK241.out 5
                  have hfz123_6 := blk_frozen BK241.out 6
                  have hfz123_7 := blk_frozen BK241.out 7
                  have hfz123_8 := blk_frozen BK241.out 8
                  have hfz123_9 := blk_frozen BK241.out 9
                  go_wp2_with (first | ((with_reducible refine gate_callee (f := 11) rfl ?_); refine goesL_ (some 84) rfl rfl Tryz.func11 (by kernel_rfl) rfl #[.agg #[.int .u64 a0_0, .bool a0_1, .int .u64 a0_2, .bool a0_3, .int .u64 a0_4, .bool a0_5, .int .u64 a0_6, .bool a0_7, .int .u64 a0_8, .bool a0_9], .int .i64 t247] rfl (by (try simp only [List.map_toArray, List.map_cons, List.map_nil]); first | done | rfl | (simp only [List.length_drop, List.length_take]; rfl)) ?_; (with_reducible refine (next_Next.calls a0_0 a0_1 a0_2 a0_3 a0_4 a0_5 a0_6 a0_7 a0_8 a0_9 t247 t251 t252 _ (hT.keep (by repeat (first | (with_reducible first | exact HB.out | apply below_alloc | apply pw_below_drewN | apply below_drew1 | refine below_set ?_ GE241.out) | exact HB.out))) A41.out).mono ?_); rintro e w124 ⟨rfl, hb⟩; refine ⟨_, rfl, ?_⟩; have n0_ := Aside0.mk (blk_below (g := gb241) (o := .cells #[.int .u64 a0_0, .bool a0_1, .int .u64 a0_2, .bool a0_3, .int .u64 a0_4, .bool a0_5, .int .u64 a0_6, .bool a0_7, .int .u64 a0_8, .bool a0_9] 26 (0, 0)) (by (with_reducible repeat (first | refine blk_drewN ?_ _ | refine blk_drew ?_ | refine blk_alloc ?_ _)); exact BK241.out) hb); have n1_ := Aside0.mk (below_step (by repeat (first | (with_reducible first | exact HB.out | apply below_alloc | apply pw_below_drewN | apply below_drew1 | refine below_set ?_ GE241.out) | exact HB.out)) hb); clear BK241; clear HB; have BK241 := n0_; have HB := n1_; clear n0_ n1_; (try clear hb); (try clear hb2); (try clear hk); (try clear hi)))
                  go_ret
                  exact ⟨by first | rfl | (simp [*] <;> rfl), by repeat (first | (with_reducible first | exact HB.out | apply below_alloc | apply pw_below_drewN | apply below_drew1 | refine below_set ?_ GE241.out) | exact HB.out)⟩
                 ·rw [if_neg c122] at H
                  have c122b0 : (t248 == 11) = false := beq_eq_false_iff_ne.mpr c122
                  have c122b1 : (t248 != 11) = true := bne_iff_ne.mpr c122
                  obtain rfl := Option.some.inj H
                  have hcz125_0 : wc.cell? ⟨gb241, 0, none⟩ = some (.int .u64 a0_0) := (blk_cell BK241.out 0).trans rfl
                  have hcz125_1 : wc.cell? ⟨gb241, 1, none⟩ = some (.bool a0_1) := (blk_cell BK241.out 1).trans rfl
                  have hcz125_2 : wc.cell? ⟨gb241, 2, none⟩ = some (.int .u64 a0_2) := (blk_cell BK241.out 2).trans rfl
                  have hcz125_3 : wc.cell? ⟨gb241, 3, none⟩ = some (.bool a0_3) := (blk_cell BK241.out 3).trans rfl
                  have hcz125_4 : wc.cell? ⟨gb241, 4, none⟩ = some (.int .u64 a0_4) := (blk_cell BK241.out 4).trans rfl
                  have hcz125_5 : wc.cell? ⟨gb241, 5, none⟩ = some (.bool a0_5) := (blk_cell BK241.out 5).trans rfl
                  have hcz125_6 : wc.cell? ⟨gb241, 6, none⟩ = some (.int .u64 a0_6) := (blk_cell BK241.out 6).trans rfl
                  have hcz125_7 : wc.cell? ⟨gb241, 7, none⟩ = some (.bool a0_7) := (blk_cell BK241.out 7).trans rfl
                  have hcz125_8 : wc.cell? ⟨gb241, 8, none⟩ = some (.int .u64 a0_8) := (blk_cell BK241.out 8).trans rfl
                  have hcz125_9 : wc.cell? ⟨gb241, 9, none⟩ = some (.bool a0_9) := (blk_cell BK241.out 9).trans rfl
                  have hfz125_0 := blk_frozen BK241.out 0
                  have hfz125_1 := blk_frozen BK241.out 1
                  have hfz125_2 := blk_frozen BK241.out 2
                  have hfz125_3 := blk_frozen BK241.out 3
                  have hfz125_4 := blk_frozen BK241.out 4
                  have hfz125_5 := blk_frozen BK241.out 5
                  have hfz125_6 := blk_frozen BK241.out 6
                  have hfz125_7 := blk_frozen BK241.out 7
                  have hfz125_8 := blk_frozen BK241.out 8
                  have hfz125_9 := blk_frozen BK241.out 9
                  go_wp2_with (first | ((with_reducible refine gate_callee (f := 11) rfl ?_); refine goesL_ (some 84) rfl rfl Tryz.func11 (by kernel_rfl) rfl #[.agg #[.int .u64 a0_0, .bool a0_1, .int .u64 a0_2, .bool a0_3, .int .u64 a0_4, .bool a0_5, .int .u64 a0_6, .bool a0_7, .int .u64 a0_8, .bool a0_9], .int .i64 t247] rfl (by (try simp only [List.map_toArray, List.map_cons, List.map_nil]); first | done | rfl | (simp only [List.length_drop, List.length_take]; rfl)) ?_; (with_reducible refine (next_Next.calls a0_0 a0_1 a0_2 a0_3 a0_4 a0_5 a0_6 a0_7 a0_8 a0_9 t247 t251 t252 _ (hT.keep (by repeat (first | (with_reducible first | exact HB.out | apply below_alloc | apply pw_below_drewN | apply below_drew1 | refine below_set ?_ GE241.out) | exact HB.out))) A41.out).mono ?_); rintro e w126 ⟨rfl, hb⟩; refine ⟨_, rfl, ?_⟩; have n0_ := Aside0.mk (blk_below (g := gb241) (o := .cells #[.int .u64 a0_0, .bool a0_1, .int .u64 a0_2, .bool a0_3, .int .u64 a0_4, .bool a0_5, .int .u64 a0_6, .bool a0_7, .int .u64 a0_8, .bool a0_9] 26 (0, 0)) (by (with_reducible repeat (first | refine blk_drewN ?_ _ | refine blk_drew ?_ | refine blk_alloc ?_ _)); exact BK241.out) hb); have n1_ := Aside0.mk (below_step (by repeat (first | (with_reducible first | exact HB.out | apply below_alloc | apply pw_below_drewN | apply below_drew1 | refine below_set ?_ GE241.out) | exact HB.out)) hb); clear BK241; clear HB; have BK241 := n0_; have HB := n1_; clear n0_ n1_; (try clear hb); (try clear hb2); (try clear hk); (try clear hi)))
                  go_ret
                  exact ⟨by first | rfl | (simp [*] <;> rfl), by repeat (first | (with_reducible first | exact HB.out | apply below_alloc | apply pw_below_drewN | apply below_drew1 | refine below_set ?_ GE241.out) | exact HB.out)⟩
               ·rw [if_neg c118] at H
                have c118b0 : (t245 == 0) = false := beq_eq_false_iff_ne.mpr c118
                have c118b1 : (t245 != 0) = true := bne_iff_ne.mpr c118
                obtain rfl := Option.some.inj H
                have hcz127_0 : wc.cell? ⟨gb241, 0, none⟩ = some (.int .u64 a0_0) := (blk_cell BK241.out 0).trans rfl
                have hcz127_1 : wc.cell? ⟨gb241, 1, none⟩ = some (.bool a0_1) := (blk_cell BK241.out 1).trans rfl
                have hcz127_2 : wc.cell? ⟨gb241, 2, none⟩ = some (.int .u64 a0_2) := (blk_cell BK241.out 2).trans rfl
                have hcz127_3 : wc.cell? ⟨gb241, 3, none⟩ = some (.bool a0_3) := (blk_cell BK241.out 3).trans rfl
                have hcz127_4 : wc.cell? ⟨gb241, 4, none⟩ = some (.int .u64 a0_4) := (blk_cell BK241.out 4).trans rfl
                have hcz127_5 : wc.cell? ⟨gb241, 5, none⟩ = some (.bool a0_5) := (blk_cell BK241.out 5).trans rfl
                have hcz127_6 : wc.cell? ⟨gb241, 6, none⟩ = some (.int .u64 a0_6) := (blk_cell BK241.out 6).trans rfl
                have hcz127_7 : wc.cell? ⟨gb241, 7, none⟩ = some (.bool a0_7) := (blk_cell BK241.out 7).trans rfl
                have hcz127_8 : wc.cell? ⟨gb241, 8, none⟩ = some (.int .u64 a0_8) := (blk_cell BK241.out 8).trans rfl
                have hcz127_9 : wc.cell? ⟨gb241, 9, none⟩ = some (.bool a0_9) := (blk_cell BK241.out 9).trans rfl
                have hfz127_0 := blk_frozen BK241.out 0
                have hfz127_1 := blk_frozen BK241.out 1
                have hfz127_2 := blk_frozen BK241.out 2
                have hfz127_3 := blk_frozen BK241.out 3
                have hfz127_4 := blk_frozen BK241.out 4
                have hfz127_5 := blk_frozen BK241.out 5
                have hfz127_6 := blk_frozen BK241.out 6
                have hfz127_7 := blk_frozen BK241.out 7
                have hfz127_8 := blk_frozen BK241.out 8
                have hfz127_9 := blk_frozen BK241.out 9
                go_wp2_with (first | ((with_reducible refine gate_callee (f := 11) rfl ?_); refine goesL_ (some 84) rfl rfl Tryz.func11 (by kernel_rfl) rfl #[.agg #[.int .u64 a0_0, .bool a0_1, .int .u64 a0_2, .bool a0_3, .int .u64 a0_4, .bool a0_5, .int .u64 a0_6, .bool a0_7, .int .u64 a0_8, .bool a0_9], .int .i64 t247] rfl (by (try simp only [List.map_toArray, List.map_cons, List.map_nil]); first | done | rfl | (simp only [List.length_drop, List.length_take]; rfl)) ?_; (with_reducible refine (next_Next.calls a0_0 a0_1 a0_2 a0_3 a0_4 a0_5 a0_6 a0_7 a0_8 a0_9 t247 t251 t252 _ (hT.keep (by repeat (first | (with_reducible first | exact HB.out | apply below_alloc | apply pw_below_drewN | apply below_drew1 | refine below_set ?_ GE241.out) | exact HB.out))) A41.out).mono ?_); rintro e w128 ⟨rfl, hb⟩; refine ⟨_, rfl, ?_⟩; have n0_ := Aside0.mk (blk_below (g := gb241) (o := .cells #[.int .u64 a0_0, .bool a0_1, .int .u64 a0_2, .bool a0_3, .int .u64 a0_4, .bool a0_5, .int .u64 a0_6, .bool a0_7, .int .u64 a0_8, .bool a0_9] 26 (0, 0)) (by (with_reducible repeat (first | refine blk_drewN ?_ _ | refine blk_drew ?_ | refine blk_alloc ?_ _)); exact BK241.out) hb); have n1_ := Aside0.mk (below_step (by repeat (first | (with_reducible first | exact HB.out | apply below_alloc | apply pw_below_drewN | apply below_drew1 | refine below_set ?_ GE241.out) | exact HB.out)) hb); clear BK241; clear HB; have BK241 := n0_; have HB := n1_; clear n0_ n1_; (try clear hb); (try clear hb2); (try clear hk); (try clear hi)))
                go_ret
                exact ⟨by first | rfl | (simp [*] <;> rfl), by repeat (first | (with_reducible first | exact HB.out | apply below_alloc | apply pw_below_drewN | apply below_drew1 | refine below_set ?_ GE241.out) | exact HB.out)⟩
              ·rw [if_neg c117] at H
               have c117b0 : (t246 == 11) = false := beq_eq_false_iff_ne.mpr c117
               have c117b1 : (t246 != 11) = true := bne_iff_ne.mpr c117
               obtain rfl := Option.some.inj H
               have hcz129_0 : wc.cell? ⟨gb241, 0, none⟩ = some (.int .u64 a0_0) := (blk_cell BK241.out 0).trans rfl
               have hcz129_1 : wc.cell? ⟨gb241, 1, none⟩ = some (.bool a0_1) := (blk_cell BK241.out 1).trans rfl
               have hcz129_2 : wc.cell? ⟨gb241, 2, none⟩ = some (.int .u64 a0_2) := (blk_cell BK241.out 2).trans rfl
               have hcz129_3 : wc.cell? ⟨gb241, 3, none⟩ = some (.bool a0_3) := (blk_cell BK241.out 3).trans rfl
               have hcz129_4 : wc.cell? ⟨gb241, 4, none⟩ = some (.int .u64 a0_4) := (blk_cell BK241.out 4).trans rfl
               have hcz129_5 : wc.cell? ⟨gb241, 5, none⟩ = some (.bool a0_5) := (blk_cell BK241.out 5).trans rfl
               have hcz129_6 : wc.cell? ⟨gb241, 6, none⟩ = some (.int .u64 a0_6) := (blk_cell BK241.out 6).trans rfl
               have hcz129_7 : wc.cell? ⟨gb241, 7, none⟩ = some (.bool a0_7) := (blk_cell BK241.out 7).trans rfl
               have hcz129_8 : wc.cell? ⟨gb241, 8, none⟩ = some (.int .u64 a0_8) := (blk_cell BK241.out 8).trans rfl
               have hcz129_9 : wc.cell? ⟨gb241, 9, none⟩ = some (.bool a0_9) := (blk_cell BK241.out 9).trans rfl
               have hfz129_0 := blk_frozen BK241.out 0
               have hfz129_1 := blk_frozen BK241.out 1
               have hfz129_2 := blk_frozen BK241.out 2
               have hfz129_3 := blk_frozen BK241.out 3
               have hfz129_4 := blk_frozen BK241.out 4
               have hfz129_5 := blk_frozen BK241.out 5
               have hfz129_6 := blk_frozen BK241.out 6
               have hfz129_7 := blk_frozen BK241.out 7
               have hfz129_8 := blk_frozen BK241.out 8
               have hfz129_9 := blk_frozen BK241.out 9
               go_wp2_with (first | ((with_reducible refine gate_callee (f := 11) rfl ?_); refine goesL_ (some 84) rfl rfl Tryz.func11 (by kernel_rfl) rfl #[.agg #[.int .u64 a0_0, .bool a0_1, .int .u64 a0_2, .bool a0_3, .int .u64 a0_4, .bool a0_5, .int .u64 a0_6, .bool a0_7, .int .u64 a0_8, .bool a0_9], .int .i64 t247] rfl (by (try simp only [List.map_toArray, List.map_cons, List.map_nil]); first | done | rfl | (simp only [List.length_drop, List.length_take]; rfl)) ?_; (with_reducible refine (next_Next.calls a0_0 a0_1 a0_2 a0_3 a0_4 a0_5 a0_6 a0_7 a0_8 a0_9 t247 t251 t252 _ (hT.keep (by repeat (first | (with_reducible first | exact HB.out | apply below_alloc | apply pw_below_drewN | apply below_drew1 | refine below_set ?_ GE241.out) | exact HB.out))) A41.out).mono ?_); rintro e w130 ⟨rfl, hb⟩; refine ⟨_, rfl, ?_⟩; have n0_ := Aside0.mk (blk_below (g := gb241) (o := .cells #[.int .u64 a0_0, .bool a0_1, .int .u64 a0_2, .bool a0_3, .int .u64 a0_4, .bool a0_5, .int .u64 a0_6, .bool a0_7, .int .u64 a0_8, .bool a0_9] 26 (0, 0)) (by (with_reducible repeat (first | refine blk_drewN ?_ _ | refine blk_drew ?_ | refine blk_alloc ?_ _)); exact BK241.out) hb); have n1_ := Aside0.mk (below_step (by repeat (first | (with_reducible first | exact HB.out | apply below_alloc | apply pw_below_drewN | apply below_drew1 | refine below_set ?_ GE241.out) | exact HB.out)) hb); clear BK241; clear HB; have BK241 := n0_; have HB := n1_; clear n0_ n1_; (try clear hb); (try clear hb2); (try clear hk); (try clear hi)))
               go_ret
               exact ⟨by first | rfl | (simp [*] <;> rfl), by repeat (first | (with_reducible first | exact HB.out | apply below_alloc | apply pw_below_drewN | apply below_drew1 | refine below_set ?_ GE241.out) | exact HB.out)⟩
            ·exact absurd rfl c92
           ·rw [if_neg c91] at H
            have c91b0 : (t251 == t245) = false := beq_eq_false_iff_ne.mpr c91
            have c91b1 : (t251 != t245) = true := bne_iff_ne.mpr c91
            obtain rfl := Option.some.inj H
            have hcz133_0 : wc.cell? ⟨gb241, 0, none⟩ = some (.int .u64 a0_0) := (blk_cell BK241.out 0).trans rfl
            have hcz133_1 : wc.cell? ⟨gb241, 1, none⟩ = some (.bool a0_1) := (blk_cell BK241.out 1).trans rfl
            have hcz133_2 : wc.cell? ⟨gb241, 2, none⟩ = some (.int .u64 a0_2) := (blk_cell BK241.out 2).trans rfl
            have hcz133_3 : wc.cell? ⟨gb241, 3, none⟩ = some (.bool a0_3) := (blk_cell BK241.out 3).trans rfl
            have hcz133_4 : wc.cell? ⟨gb241, 4, none⟩ = some (.int .u64 a0_4) := (blk_cell BK241.out 4).trans rfl
            have hcz133_5 : wc.cell? ⟨gb241, 5, none⟩ = some (.bool a0_5) := (blk_cell BK241.out 5).trans rfl
            have hcz133_6 : wc.cell? ⟨gb241, 6, none⟩ = some (.int .u64 a0_6) := (blk_cell BK241.out 6).trans rfl
            have hcz133_7 : wc.cell? ⟨gb241, 7, none⟩ = some (.bool a0_7) := (blk_cell BK241.out 7).trans rfl
            have hcz133_8 : wc.cell? ⟨gb241, 8, none⟩ = some (.int .u64 a0_8) := (blk_cell BK241.out 8).trans rfl
            have hcz133_9 : wc.cell? ⟨gb241, 9, none⟩ = some (.bool a0_9) := (blk_cell BK241.out 9).trans rfl
            have hfz133_0 := blk_frozen BK241.out 0
            have hfz133_1 := blk_frozen BK241.out 1
            have hfz133_2 := blk_frozen BK241.out 2
            have hfz133_3 := blk_frozen BK241.out 3
            have hfz133_4 := blk_frozen BK241.out 4
            have hfz133_5 := blk_frozen BK241.out 5
            have hfz133_6 := blk_frozen BK241.out 6
            have hfz133_7 := blk_frozen BK241.out 7
            have hfz133_8 := blk_frozen BK241.out 8
            have hfz133_9 := blk_frozen BK241.out 9
            go_wp2_with (first | ((with_reducible refine gate_callee (f := 11) rfl ?_); refine goesL_ (some 84) rfl rfl Tryz.func11 (by kernel_rfl) rfl #[.agg #[.int .u64 a0_0, .bool a0_1, .int .u64 a0_2, .bool a0_3, .int .u64 a0_4, .bool a0_5, .int .u64 a0_6, .bool a0_7, .int .u64 a0_8, .bool a0_9], .int .i64 t247] rfl (by (try simp only [List.map_toArray, List.map_cons, List.map_nil]); first | done | rfl | (simp only [List.length_drop, List.length_take]; rfl)) ?_; (with_reducible refine (next_Next.calls a0_0 a0_1 a0_2 a0_3 a0_4 a0_5 a0_6 a0_7 a0_8 a0_9 t247 t251 t252 _ (hT.keep (by repeat (first | (with_reducible first | exact HB.out | apply below_alloc | apply pw_below_drewN | apply below_drew1 | refine below_set ?_ GE241.out) | exact HB.out))) A41.out).mono ?_); rintro e w134 ⟨rfl, hb⟩; refine ⟨_, rfl, ?_⟩; have n0_ := Aside0.mk (blk_below (g := gb241) (o := .cells #[.int .u64 a0_0, .bool a0_1, .int .u64 a0_2, .bool a0_3, .int .u64 a0_4, .bool a0_5, .int .u64 a0_6, .bool a0_7, .int .u64 a0_8, .bool a0_9] 26 (0, 0)) (by (with_reducible repeat (first | refine blk_drewN ?_ _ | refine blk_drew ?_ | refine blk_alloc ?_ _)); exact BK241.out) hb); have n1_ := Aside0.mk (below_step (by repeat (first | (with_reducible first | exact HB.out | apply below_alloc | apply pw_below_drewN | apply below_drew1 | refine below_set ?_ GE241.out) | exact HB.out)) hb); clear BK241; clear HB; have BK241 := n0_; have HB := n1_; clear n0_ n1_; (try clear hb); (try clear hb2); (try clear hk); (try clear hi)))
            go_ret
            exact ⟨by first | rfl | (simp [*] <;> rfl), by repeat (first | (with_reducible first | exact HB.out | apply below_alloc | apply pw_below_drewN | apply below_drew1 | refine below_set ?_ GE241.out) | exact HB.out)⟩
          ·rw [if_neg c90] at H
           have c90b0 : (t252 == t246) = false := beq_eq_false_iff_ne.mpr c90
           have c90b1 : (t252 != t246) = true := bne_iff_ne.mpr c90
           obtain rfl := Option.some.inj H
           have hcz135_0 : wc.cell? ⟨gb241, 0, none⟩ = some (.int .u64 a0_0) := (blk_cell BK241.out 0).trans rfl
           have hcz135_1 : wc.cell? ⟨gb241, 1, none⟩ = some (.bool a0_1) := (blk_cell BK241.out 1).trans rfl
           have hcz135_2 : wc.cell? ⟨gb241, 2, none⟩ = some (.int .u64 a0_2) := (blk_cell BK241.out 2).trans rfl
           have hcz135_3 : wc.cell? ⟨gb241, 3, none⟩ = some (.bool a0_3) := (blk_cell BK241.out 3).trans rfl
           have hcz135_4 : wc.cell? ⟨gb241, 4, none⟩ = some (.int .u64 a0_4) := (blk_cell BK241.out 4).trans rfl
           have hcz135_5 : wc.cell? ⟨gb241, 5, none⟩ = some (.bool a0_5) := (blk_cell BK241.out 5).trans rfl
           have hcz135_6 : wc.cell? ⟨gb241, 6, none⟩ = some (.int .u64 a0_6) := (blk_cell BK241.out 6).trans rfl
           have hcz135_7 : wc.cell? ⟨gb241, 7, none⟩ = some (.bool a0_7) := (blk_cell BK241.out 7).trans rfl
           have hcz135_8 : wc.cell? ⟨gb241, 8, none⟩ = some (.int .u64 a0_8) := (blk_cell BK241.out 8).trans rfl
           have hcz135_9 : wc.cell? ⟨gb241, 9, none⟩ = some (.bool a0_9) := (blk_cell BK241.out 9).trans rfl
           have hfz135_0 := blk_frozen BK241.out 0
           have hfz135_1 := blk_frozen BK241.out 1
           have hfz135_2 := blk_frozen BK241.out 2
           have hfz135_3 := blk_frozen BK241.out 3
           have hfz135_4 := blk_frozen BK241.out 4
           have hfz135_5 := blk_frozen BK241.out 5
           have hfz135_6 := blk_frozen BK241.out 6
           have hfz135_7 := blk_frozen BK241.out 7
           have hfz135_8 := blk_frozen BK241.out 8
           have hfz135_9 := blk_frozen BK241.out 9
           go_wp2_with (first | ((with_reducible refine gate_callee (f := 11) rfl ?_); refine goesL_ (some 84) rfl rfl Tryz.func11 (by kernel_rfl) rfl #[.agg #[.int .u64 a0_0, .bool a0_1, .int .u64 a0_2, .bool a0_3, .int .u64 a0_4, .bool a0_5, .int .u64 a0_6, .bool a0_7, .int .u64 a0_8, .bool a0_9], .int .i64 t247] rfl (by (try simp only [List.map_toArray, List.map_cons, List.map_nil]); first | done | rfl | (simp only [List.length_drop, List.length_take]; rfl)) ?_; (with_reducible refine (next_Next.calls a0_0 a0_1 a0_2 a0_3 a0_4 a0_5 a0_6 a0_7 a0_8 a0_9 t247 t251 t252 _ (hT.keep (by repeat (first | (with_reducible first | exact HB.out | apply below_alloc | apply pw_below_drewN | apply below_drew1 | refine below_set ?_ GE241.out) | exact HB.out))) A41.out).mono ?_); rintro e w136 ⟨rfl, hb⟩; refine ⟨_, rfl, ?_⟩; have n0_ := Aside0.mk (blk_below (g := gb241) (o := .cells #[.int .u64 a0_0, .bool a0_1, .int .u64 a0_2, .bool a0_3, .int .u64 a0_4, .bool a0_5, .int .u64 a0_6, .bool a0_7, .int .u64 a0_8, .bool a0_9] 26 (0, 0)) (by (with_reducible repeat (first | refine blk_drewN ?_ _ | refine blk_drew ?_ | refine blk_alloc ?_ _)); exact BK241.out) hb); have n1_ := Aside0.mk (below_step (by repeat (first | (with_reducible first | exact HB.out | apply below_alloc | apply pw_below_drewN | apply below_drew1 | refine below_set ?_ GE241.out) | exact HB.out)) hb); clear BK241; clear HB; have BK241 := n0_; have HB := n1_; clear n0_ n1_; (try clear hb); (try clear hb2); (try clear hk); (try clear hi)))
           go_ret
           exact ⟨by first | rfl | (simp [*] <;> rfl), by repeat (first | (with_reducible first | exact HB.out | apply below_alloc | apply pw_below_drewN | apply below_drew1 | refine below_set ?_ GE241.out) | exact HB.out)⟩
        ·rw [if_neg c40] at H
         have c40b0 : (t248 == 0) = false := beq_eq_false_iff_ne.mpr c40
         have c40b1 : (t248 != 0) = true := bne_iff_ne.mpr c40
         by_cases c137 : true = true
         ·clear c137
          have H1 : (if t246 = 0 then (if t245 > a1 then (if t248 = 11 then (some (t247 == 0)) else (some false)) else (if t246 = 11 then (if t245 = 0 then (if t248 = 11 then (some (t247 == 0)) else (some false)) else (some false)) else (some false))) else (if t246 = 11 then (if t245 = 0 then (if t248 = 11 then (some (t247 == 0)) else (some false)) else (some false)) else (some false))) = some r := by first | (rw [if_pos rfl] at H; exact H) | (rw [if_pos trivial] at H; exact H)
          clear H
          have H := H1
          clear H1
          by_cases c138 : t246 = 0
          ·rw [if_pos c138] at H
           have c138b0 : (t246 == 0) = true := beq_iff_eq.mpr c138
           have c138b1 : (t246 != 0) = false := bne_eq_false_iff_eq.mpr c138
           clear c138
           by_cases c139 : t245 > a1
           ·rw [if_pos c139] at H
            have c139b0 : decide (a1 < t245) = true := decide_eq_true c139
            clear c139
            by_cases c140 : t248 = 11
            ·rw [if_pos c140] at H
             have c140b0 : (t248 == 11) = true := beq_iff_eq.mpr c140
             have c140b1 : (t248 != 11) = false := bne_eq_false_iff_eq.mpr c140
             clear c140
             obtain rfl := Option.some.inj H
             go_wp2
             go_ret
             exact ⟨by first | rfl | (simp [*] <;> rfl), by repeat (first | (with_reducible first | exact HB.out | apply below_alloc | apply pw_below_drewN | apply below_drew1 | refine below_set ?_ GE241.out) | exact HB.out)⟩
            ·rw [if_neg c140] at H
             have c140b0 : (t248 == 11) = false := beq_eq_false_iff_ne.mpr c140
             have c140b1 : (t248 != 11) = true := bne_iff_ne.mpr c140
             obtain rfl := Option.some.inj H
             go_wp2
             go_ret
             exact ⟨by first | rfl | (simp [*] <;> rfl), by repeat (first | (with_reducible first | exact HB.out | apply below_alloc | apply pw_below_drewN | apply below_drew1 | refine below_set ?_ GE241.out) | exact HB.out)⟩
           ·rw [if_neg c139] at H
            have c139b0 : decide (a1 < t245) = false := decide_eq_false c139
            clear c139
            by_cases c141 : t246 = 11
            ·rw [if_pos c141] at H
             have c141b0 : (t246 == 11) = true := beq_iff_eq.mpr c141
             have c141b1 : (t246 != 11) = false := bne_eq_false_iff_eq.mpr c141
             clear c141
             by_cases c142 : t245 = 0
             ·rw [if_pos c142] at H
              have c142b0 : (t245 == 0) = true := beq_iff_eq.mpr c142
              have c142b1 : (t245 != 0) = false := bne_eq_false_iff_eq.mpr c142
              clear c142
              by_cases c143 : t248 = 11
              ·rw [if_pos c143] at H
               have c143b0 : (t248 == 11) = true := beq_iff_eq.mpr c143
               have c143b1 : (t248 != 11) = false := bne_eq_false_iff_eq.mpr c143
               clear c143
               obtain rfl := Option.some.inj H
               go_wp2
               go_ret
               exact ⟨by first | rfl | (simp [*] <;> rfl), by repeat (first | (with_reducible first | exact HB.out | apply below_alloc | apply pw_below_drewN | apply below_drew1 | refine below_set ?_ GE241.out) | exact HB.out)⟩
              ·rw [if_neg c143] at H
               have c143b0 : (t248 == 11) = false := beq_eq_false_iff_ne.mpr c143
               have c143b1 : (t248 != 11) = true := bne_iff_ne.mpr c143
               obtain rfl := Option.some.inj H
               go_wp2
               go_ret
               exact ⟨by first | rfl | (simp [*] <;> rfl), by repeat (first | (with_reducible first | exact HB.out | apply below_alloc | apply pw_below_drewN | apply below_drew1 | refine below_set ?_ GE241.out) | exact HB.out)⟩
             ·rw [if_neg c142] at H
              have c142b0 : (t245 == 0) = false := beq_eq_false_iff_ne.mpr c142
              have c142b1 : (t245 != 0) = true := bne_iff_ne.mpr c142
              obtain rfl := Option.some.inj H
              go_wp2
              go_ret
              exact ⟨by first | rfl | (simp [*] <;> rfl), by repeat (first | (with_reducible first | exact HB.out | apply below_alloc | apply pw_below_drewN | apply below_drew1 | refine below_set ?_ GE241.out) | exact HB.out)⟩
            ·rw [if_neg c141] at H
             have c141b0 : (t246 == 11) = false := beq_eq_false_iff_ne.mpr c141
             have c141b1 : (t246 != 11) = true := bne_iff_ne.mpr c141
             obtain rfl := Option.some.inj H
             go_wp2
             go_ret
             exact ⟨by first | rfl | (simp [*] <;> rfl), by repeat (first | (with_reducible first | exact HB.out | apply below_alloc | apply pw_below_drewN | apply below_drew1 | refine below_set ?_ GE241.out) | exact HB.out)⟩
          ·rw [if_neg c138] at H
           have c138b0 : (t246 == 0) = false := beq_eq_false_iff_ne.mpr c138
           have c138b1 : (t246 != 0) = true := bne_iff_ne.mpr c138
           by_cases c144 : t246 = 11
           ·rw [if_pos c144] at H
            have c144b0 : (t246 == 11) = true := beq_iff_eq.mpr c144
            have c144b1 : (t246 != 11) = false := bne_eq_false_iff_eq.mpr c144
            clear c144
            by_cases c145 : t245 = 0
            ·rw [if_pos c145] at H
             have c145b0 : (t245 == 0) = true := beq_iff_eq.mpr c145
             have c145b1 : (t245 != 0) = false := bne_eq_false_iff_eq.mpr c145
             clear c145
             by_cases c146 : t248 = 11
             ·rw [if_pos c146] at H
              have c146b0 : (t248 == 11) = true := beq_iff_eq.mpr c146
              have c146b1 : (t248 != 11) = false := bne_eq_false_iff_eq.mpr c146
              clear c146
              obtain rfl := Option.some.inj H
              go_wp2
              go_ret
              exact ⟨by first | rfl | (simp [*] <;> rfl), by repeat (first | (with_reducible first | exact HB.out | apply below_alloc | apply pw_below_drewN | apply below_drew1 | refine below_set ?_ GE241.out) | exact HB.out)⟩
             ·rw [if_neg c146] at H
              have c146b0 : (t248 == 11) = false := beq_eq_false_iff_ne.mpr c146
              have c146b1 : (t248 != 11) = true := bne_iff_ne.mpr c146
              obtain rfl := Option.some.inj H
              go_wp2
              go_ret
              exact ⟨by first | rfl | (simp [*] <;> rfl), by repeat (first | (with_reducible first | exact HB.out | apply below_alloc | apply pw_below_drewN | apply below_drew1 | refine below_set ?_ GE241.out) | exact HB.out)⟩
            ·rw [if_neg c145] at H
             have c145b0 : (t245 == 0) = false := beq_eq_false_iff_ne.mpr c145
             have c145b1 : (t245 != 0) = true := bne_iff_ne.mpr c145
             obtain rfl := Option.some.inj H
             go_wp2
             go_ret
             exact ⟨by first | rfl | (simp [*] <;> rfl), by repeat (first | (with_reducible first | exact HB.out | apply below_alloc | apply pw_below_drewN | apply below_drew1 | refine below_set ?_ GE241.out) | exact HB.out)⟩
           ·rw [if_neg c144] at H
            have c144b0 : (t246 == 11) = false := beq_eq_false_iff_ne.mpr c144
            have c144b1 : (t246 != 11) = true := bne_iff_ne.mpr c144
            obtain rfl := Option.some.inj H
            go_wp2
            go_ret
            exact ⟨by first | rfl | (simp [*] <;> rfl), by repeat (first | (with_reducible first | exact HB.out | apply below_alloc | apply pw_below_drewN | apply below_drew1 | refine below_set ?_ GE241.out) | exact HB.out)⟩
         ·exact absurd rfl c137
     ·rw [if_neg c11] at H
      have c11b0 : (t244 == 0) = false := beq_eq_false_iff_ne.mpr c11
      have c11b1 : (t244 != 0) = true := bne_iff_ne.mpr c11
      obtain rfl := Option.some.inj H
      have hcz147_0 : wc.cell? ⟨gb241, 0, none⟩ = some (.int .u64 a0_0) := (blk_cell BK241.out 0).trans rfl
      have hcz147_1 : wc.cell? ⟨gb241, 1, none⟩ = some (.bool a0_1) := (blk_cell BK241.out 1).trans rfl
      have hcz147_2 : wc.cell? ⟨gb241, 2, none⟩ = some (.int .u64 a0_2) := (blk_cell BK241.out 2).trans rfl
      have hcz147_3 : wc.cell? ⟨gb241, 3, none⟩ = some (.bool a0_3) := (blk_cell BK241.out 3).trans rfl
      have hcz147_4 : wc.cell? ⟨gb241, 4, none⟩ = some (.int .u64 a0_4) := (blk_cell BK241.out 4).trans rfl
      have hcz147_5 : wc.cell? ⟨gb241, 5, none⟩ = some (.bool a0_5) := (blk_cell BK241.out 5).trans rfl
      have hcz147_6 : wc.cell? ⟨gb241, 6, none⟩ = some (.int .u64 a0_6) := (blk_cell BK241.out 6).trans rfl
      have hcz147_7 : wc.cell? ⟨gb241, 7, none⟩ = some (.bool a0_7) := (blk_cell BK241.out 7).trans rfl
      have hcz147_8 : wc.cell? ⟨gb241, 8, none⟩ = some (.int .u64 a0_8) := (blk_cell BK241.out 8).trans rfl
      have hcz147_9 : wc.cell? ⟨gb241, 9, none⟩ = some (.bool a0_9) := (blk_cell BK241.out 9).trans rfl
      have hfz147_0 := blk_frozen BK241.out 0
      have hfz147_1 := blk_frozen BK241.out 1
      have hfz147_2 := blk_frozen BK241.out 2
      have hfz147_3 := blk_frozen BK241.out 3
      have hfz147_4 := blk_frozen BK241.out 4
      have hfz147_5 := blk_frozen BK241.out 5
      have hfz147_6 := blk_frozen BK241.out 6
      have hfz147_7 := blk_frozen BK241.out 7
      have hfz147_8 := blk_frozen BK241.out 8
      have hfz147_9 := blk_frozen BK241.out 9
      go_wp2_with (first | ((with_reducible refine gate_callee (f := 17) rfl ?_); refine goesL_ (some 29) rfl rfl Tryz.func17 (by kernel_rfl) rfl #[.agg #[.int .u64 a0_0, .bool a0_1, .int .u64 a0_2, .bool a0_3, .int .u64 a0_4, .bool a0_5, .int .u64 a0_6, .bool a0_7, .int .u64 a0_8, .bool a0_9], .int .i64 a1] rfl (by (try simp only [List.map_toArray, List.map_cons, List.map_nil]); first | done | rfl | (simp only [List.length_drop, List.length_take]; rfl)) ?_; (with_reducible refine (day_Match.calls a0_0 a0_1 a0_2 a0_3 a0_4 a0_5 a0_6 a0_7 a0_8 a0_9 a1 t243 t244 _ A10.out).mono ?_); rintro e w148 ⟨rfl, hb⟩; refine ⟨_, rfl, ?_⟩; have n0_ := Aside0.mk (blk_below (g := gb241) (o := .cells #[.int .u64 a0_0, .bool a0_1, .int .u64 a0_2, .bool a0_3, .int .u64 a0_4, .bool a0_5, .int .u64 a0_6, .bool a0_7, .int .u64 a0_8, .bool a0_9] 26 (0, 0)) (by (with_reducible repeat (first | refine blk_drewN ?_ _ | refine blk_drew ?_ | refine blk_alloc ?_ _)); exact BK241.out) hb); have n1_ := Aside0.mk (below_step (by repeat (first | (with_reducible first | exact HB.out | apply below_alloc | apply pw_below_drewN | apply below_drew1 | refine below_set ?_ GE241.out) | exact HB.out)) hb); clear BK241; clear HB; have BK241 := n0_; have HB := n1_; clear n0_ n1_; (try clear hb); (try clear hb2); (try clear hk); (try clear hi)))
      go_ret
      exact ⟨by first | rfl | (simp [*] <;> rfl), by repeat (first | (with_reducible first | exact HB.out | apply below_alloc | apply pw_below_drewN | apply below_drew1 | refine below_set ?_ GE241.out) | exact HB.out)⟩
 ·replace c4 := Bool.eq_false_iff.mpr c4
  subst c4
  have H1 : (some false) = some r := by rw [if_neg (show ¬ (false = true) by decide)] at H; exact H
  clear H
  have H := H1
  clear H1
  obtain rfl := Option.some.inj H
  go_enter Tryz.func7, Tryz.ntmps7
  go_wp2_with (first | ((with_reducible refine gate_dst (N := 2) rfl ?_); refine box_event ?hg (N := 2) ?hd (cs := #[.int .u64 a0_0, .bool a0_1, .int .u64 a0_2, .bool a0_3, .int .u64 a0_4, .bool a0_5, .int .u64 a0_6, .bool a0_7, .int .u64 a0_8, .bool a0_9]) (t := 26) ?hr ?_; (case hd => rfl); (case hg => rfl); (case hr => first | (go_simp; done) | (go_simp; rfl)); intro gb241 hg w149 hbox hb; have n0_ := Aside0.mk (below_step (by repeat (first | (with_reducible first | exact HB.out | apply below_alloc | apply pw_below_drewN | apply below_drew1) | exact HB.out)) hb); have n1_ := Aside0.mk (hbox); have n2_ := Aside0.mk ((by rw [hg]; exact (below_size (by repeat (first | (with_reducible first | exact HB.out | apply below_alloc | apply pw_below_drewN | apply below_drew1) | exact HB.out))) : w.heap.size ≤ gb241)); have n3_ := Aside0.mk ((by rw [hg]; exact (below_size (by repeat (first | (with_reducible first | exact HB.out | apply below_alloc | apply pw_below_drewN | apply below_drew1) | exact HB.out))) : w.heap.size ≤ gb241)); clear HB; have HB := n0_; have BK241 := n1_; have GW241 := n2_; have GE241 := n3_; clear n0_ n1_ n2_ n3_; clear hb hbox hg) | ((with_reducible refine gate_callee (f := 10) rfl ?_); refine goesL_ (some 16) rfl rfl Tryz.func10 (by kernel_rfl) rfl #[] rfl (by (try simp only [List.map_toArray, List.map_cons, List.map_nil]); first | done | rfl | (simp only [List.length_drop, List.length_take]; rfl)) ?_; (with_reducible refine (complinelaw22_works.calls  false _ (hT.keep (by repeat (first | (with_reducible first | exact HB.out | apply below_alloc | apply pw_below_drewN | apply below_drew1 | refine below_set ?_ GE241.out) | exact HB.out))) A3.out).mono ?_); rintro e w150 ⟨rfl, hb⟩; refine ⟨_, rfl, ?_⟩; have n0_ := Aside0.mk (blk_below (g := gb241) (o := .cells #[.int .u64 a0_0, .bool a0_1, .int .u64 a0_2, .bool a0_3, .int .u64 a0_4, .bool a0_5, .int .u64 a0_6, .bool a0_7, .int .u64 a0_8, .bool a0_9] 26 (0, 0)) (by (with_reducible repeat (first | refine blk_drewN ?_ _ | refine blk_drew ?_ | refine blk_alloc ?_ _)); exact BK241.out) hb); have n1_ := Aside0.mk (below_step (by repeat (first | (with_reducible first | exact HB.out | apply below_alloc | apply pw_below_drewN | apply below_drew1 | refine below_set ?_ GE241.out) | exact HB.out)) hb); clear BK241; clear HB; have BK241 := n0_; have HB := n1_; clear n0_ n1_; (try clear hb); (try clear hb2); (try clear hk); (try clear hi)))
  go_ret
  exact ⟨by first | rfl | (simp [*] <;> rfl), by repeat (first | (with_reducible first | exact HB.out | apply below_alloc | apply pw_below_drewN | apply below_drew1 | refine below_set ?_ GE241.out) | exact HB.out)⟩
end Go.Proofs.YtabhfcoljgcpeaaGreatDoor.PNex
