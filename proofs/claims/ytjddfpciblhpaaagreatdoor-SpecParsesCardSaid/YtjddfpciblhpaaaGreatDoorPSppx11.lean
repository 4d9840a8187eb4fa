-- Written by a program of this session (gprint.py) over the kit's print.
import Derived.Test.YtjddfpciblhpaaaGreatDoorPSppx0
import Derived.Test.YtjddfpciblhpaaaGreatDoorPSppx8
import Derived.Test.YtjddfpciblhpaaaGreatDoorPSppx9
import Derived.Test.YtjddfpciblhpaaaGreatDoorPSppx10
namespace Go.Proofs.YtjddfpciblhpaaaGreatDoor.PSpp
open Go.RowKit Go.Proofs.YtjddfpciblhpaaaGreatDoorW.PrintWords Go.Proofs.YtjddfpciblhpaaaGreatDoorW.PrintLast Go.Proofs.YtjddfpciblhpaaaGreatDoorW.PrintMore
attribute [local go_sem] max2_int min2_int max_two min_two max_three min_three max_four min_four   -- for this text's walks alone
set_option linter.unusedVariables false
set_option linter.unusedSimpArgs false

/-! ### complineref17_Name: function 70 -/
mutual
def complineref17_Name.j0 : Nat → ByteArray → Int → List ByteArray → Int → Option (Int × Int)
 | 0, _, _, _, _ => none
 | k + 1, x0, x1, x6, x7 => if x1 = 4 then (complineref17_Name.j1 k x0 (([(⟨#[115, 117, 110]⟩ : ByteArray), (⟨#[109, 111, 110]⟩ : ByteArray), (⟨#[116, 117, 101]⟩ : ByteArray), (⟨#[119, 101, 100]⟩ : ByteArray), (⟨#[116, 104, 117]⟩ : ByteArray), (⟨#[102, 114, 105]⟩ : ByteArray), (⟨#[115, 97, 116]⟩ : ByteArray)] : List ByteArray)) x7) else (complineref17_Name.j1 k x0 x6 x7)
def complineref17_Name.j1 : Nat → ByteArray → List ByteArray → Int → Option (Int × Int)
 | 0, _, _, _ => none
 | k + 1, x0, x6, x7 => (complineref17_Lower.f k x0).bind fun t148 => (complineref17_Name.l0 k x6 x7 t148 0)
def complineref17_Name.l0 : Nat → List ByteArray → Int → ByteArray → Int → Option (Int × Int)
 | 0, _, _, _, _ => none
 | k + 1, x6, x7, x8, x9 => if x9 < (x6.length : Int) then (if 0 ≤ x9 then (if (rdOf ByteArray.empty x6 x9).toList = x8.toList then (some (wrap64 (x9 + x7), 0)) else (complineref17_Name.l0 k x6 x7 x8 (wrap64 (x9 + 1)))) else (none)) else (some (0, 2))
end
def complineref17_Name.f (k : Nat) (a0 : ByteArray) (a1 : Int) : Option (Int × Int) := if (a0.size : Int) = 3 then (if a1 = 3 then (complineref17_Name.j0 k a0 a1 (([(⟨#[106, 97, 110]⟩ : ByteArray), (⟨#[102, 101, 98]⟩ : ByteArray), (⟨#[109, 97, 114]⟩ : ByteArray), (⟨#[97, 112, 114]⟩ : ByteArray), (⟨#[109, 97, 121]⟩ : ByteArray), (⟨#[106, 117, 110]⟩ : ByteArray), (⟨#[106, 117, 108]⟩ : ByteArray), (⟨#[97, 117, 103]⟩ : ByteArray), (⟨#[115, 101, 112]⟩ : ByteArray), (⟨#[111, 99, 116]⟩ : ByteArray), (⟨#[110, 111, 118]⟩ : ByteArray), (⟨#[100, 101, 99]⟩ : ByteArray)] : List ByteArray)) 1) else (complineref17_Name.j0 k a0 a1 ([] : List ByteArray) 0)) else (some (0, 2))
theorem complineref17_Name.mono_l : ∀ k, (∀ y0 y1 y2 y3, LeO (complineref17_Name.j0 k y0 y1 y2 y3) (complineref17_Name.j0 (k + 1) y0 y1 y2 y3)) ∧ (∀ y0 y1 y2, LeO (complineref17_Name.j1 k y0 y1 y2) (complineref17_Name.j1 (k + 1) y0 y1 y2)) ∧ (∀ y0 y1 y2 y3, LeO (complineref17_Name.l0 k y0 y1 y2 y3) (complineref17_Name.l0 (k + 1) y0 y1 y2 y3))
 | 0 => ⟨fun _ _ _ _ r h => by simp [complineref17_Name.j0] at h, fun _ _ _ r h => by simp [complineref17_Name.j1] at h, fun _ _ _ _ r h => by simp [complineref17_Name.l0] at h⟩
 | k + 1 => by
  obtain ⟨ih0, ih1, ih2⟩ := complineref17_Name.mono_l k
  refine ⟨?_, ?_, ?_⟩
  ·intro y0 y1 y2 y3
   unfold complineref17_Name.j0
   repeat' first
   | (with_reducible exact ih0 _ _ _ _)
   | (with_reducible exact ih1 _ _ _)
   | (with_reducible exact ih2 _ _ _ _)
   | (with_reducible exact complineref17_Lower.mono _ _)
   | (with_reducible exact LeO.refl _)
   | (with_reducible exact LeO.none _)
   | (with_reducible refine LeO.ite ?_ ?_)
   | (with_reducible refine LeO.bind ?_ (fun _ => ?_))
   | exact ih0 _ _ _ _
   | exact ih1 _ _ _
   | exact ih2 _ _ _ _
   | exact complineref17_Lower.mono _ _
   | exact LeO.none _
   | refine LeO.ite ?_ ?_
   | refine LeO.bind ?_ (fun _ => ?_)
  ·intro y0 y1 y2
   unfold complineref17_Name.j1
   repeat' first
   | (with_reducible exact ih0 _ _ _ _)
   | (with_reducible exact ih1 _ _ _)
   | (with_reducible exact ih2 _ _ _ _)
   | (with_reducible exact complineref17_Lower.mono _ _)
   | (with_reducible exact LeO.refl _)
   | (with_reducible exact LeO.none _)
   | (with_reducible refine LeO.ite ?_ ?_)
   | (with_reducible refine LeO.bind ?_ (fun _ => ?_))
   | exact ih0 _ _ _ _
   | exact ih1 _ _ _
   | exact ih2 _ _ _ _
   | exact complineref17_Lower.mono _ _
   | exact LeO.none _
   | refine LeO.ite ?_ ?_
   | refine LeO.bind ?_ (fun _ => ?_)
  ·intro y0 y1 y2 y3
   unfold complineref17_Name.l0
   repeat' first
   | (with_reducible exact ih0 _ _ _ _)
   | (with_reducible exact ih1 _ _ _)
   | (with_reducible exact ih2 _ _ _ _)
   | (with_reducible exact complineref17_Lower.mono _ _)
   | (with_reducible exact LeO.refl _)
   | (with_reducible exact LeO.none _)
   | (with_reducible refine LeO.ite ?_ ?_)
   | (with_reducible refine LeO.bind ?_ (fun _ => ?_))
   | exact ih0 _ _ _ _
   | exact ih1 _ _ _
   | exact ih2 _ _ _ _
   | exact complineref17_Lower.mono _ _
   | exact LeO.none _
   | refine LeO.ite ?_ ?_
   | refine LeO.bind ?_ (fun _ => ?_)
theorem complineref17_Name.mono : ∀ a0 a1 k, LeO (complineref17_Name.f k a0 a1) (complineref17_Name.f (k + 1) a0 a1) := by
 intro a0 a1 k
 obtain ⟨ih0, ih1, ih2⟩ := complineref17_Name.mono_l k
 unfold complineref17_Name.f
 repeat' first
   | (with_reducible exact ih0 _ _ _ _)
   | (with_reducible exact ih1 _ _ _)
   | (with_reducible exact ih2 _ _ _ _)
   | (with_reducible exact complineref17_Lower.mono _ _)
   | (with_reducible exact LeO.refl _)
   | (with_reducible exact LeO.none _)
   | (with_reducible refine LeO.ite ?_ ?_)
   | (with_reducible refine LeO.bind ?_ (fun _ => ?_))
   | exact ih0 _ _ _ _
   | exact ih1 _ _ _
   | exact ih2 _ _ _ _
   | exact complineref17_Lower.mono _ _
   | exact LeO.none _
   | refine LeO.ite ?_ ?_
   | refine LeO.bind ?_ (fun _ => ?_)
set_option maxHeartbeats 8000000 in
set_option maxRecDepth 100000 in
theorem complineref17_Name.calls (k : Nat) (a0 : ByteArray) (a1 : Int) (r1 : Int) (r2 : Int) (w : World) (h : complineref17_Name.f k a0 a1 = some (r1, r2)) :
  Calls Tryz.prog 70 #[.string a0, .int .i64 a1] w fun e w' => e = .returned (.tuple #[.int .i64 r1, .int .i64 r2]) ∧ Below w.heap.size w w' := by
 have HB := Aside0.mk (Below.refl w.heap.size w)
 have H : (if (a0.size : Int) = 3 then (if a1 = 3 then (complineref17_Name.j0 k a0 a1 (([(⟨#[106, 97, 110]⟩ : ByteArray), (⟨#[102, 101, 98]⟩ : ByteArray), (⟨#[109, 97, 114]⟩ : ByteArray), (⟨#[97, 112, 114]⟩ : ByteArray), (⟨#[109, 97, 121]⟩ : ByteArray), (⟨#[106, 117, 110]⟩ : ByteArray), (⟨#[106, 117, 108]⟩ : ByteArray), (⟨#[97, 117, 103]⟩ : ByteArray), (⟨#[115, 101, 112]⟩ : ByteArray), (⟨#[111, 99, 116]⟩ : ByteArray), (⟨#[110, 111, 118]⟩ : ByteArray), (⟨#[100, 101, 99]⟩ : ByteArray)] : List ByteArray)) 1) else (complineref17_Name.j0 k a0 a1 ([] : List ByteArray) 0)) else (some (0, 2))) = some (r1, r2) := h
 clear h
 by_cases c3 : (a0.size : Int) = 3
 ·rw [if_pos c3] at H
  have c3b0 : ((a0.size : Int) == 3) = true := beq_iff_eq.mpr c3
  have c3b1 : ((a0.size : Int) != 3) = false := bne_eq_false_iff_eq.mpr c3
  clear c3
  have HC4 := Aside0.mk H
  clear H
  go_enter Tryz.func70, Tryz.ntmps70
  go_upto_if 14 with (fail)
  go_cut [6, 7] (fun v6 v7 wc => ∃ (kq : Nat) (x6_3 : List ByteArray) (x7_3 : Int), v7 = .int .i64 x7_3 ∧ Aside0 (complineref17_Name.j0 kq a0 a1 x6_3 x7_3 = some (r1, r2)) ∧ Aside0 (kq ≤ k) ∧ Aside0 (Kd.R Kd.string 9 wc w.heap.size (fun _ => True) v6 x6_3) ∧ Aside0 (Below w.heap.size w wc))
  case first =>
   have H := HC4.out
   clear HC4
   by_cases c5 : a1 = 3
   ·rw [if_pos c5] at H
    have c5b0 : (a1 == 3) = true := beq_iff_eq.mpr c5
    have c5b1 : (a1 != 3) = false := bne_eq_false_iff_eq.mpr c5
    clear c5
    (first | rw [c5b0] | (simp only [i64_w, i32_w]; rw [c5b0]) | skip)
    obtain ⟨y142, hy142⟩ : ∃ y_ : List ByteArray, y_ = (([(⟨#[106, 97, 110]⟩ : ByteArray), (⟨#[102, 101, 98]⟩ : ByteArray), (⟨#[109, 97, 114]⟩ : ByteArray), (⟨#[97, 112, 114]⟩ : ByteArray), (⟨#[109, 97, 121]⟩ : ByteArray), (⟨#[106, 117, 110]⟩ : ByteArray), (⟨#[106, 117, 108]⟩ : ByteArray), (⟨#[97, 117, 103]⟩ : ByteArray), (⟨#[115, 101, 112]⟩ : ByteArray), (⟨#[111, 99, 116]⟩ : ByteArray), (⟨#[110, 111, 118]⟩ : ByteArray), (⟨#[100, 101, 99]⟩ : ByteArray)] : List ByteArray)) := ⟨_, rfl⟩
    replace H : (complineref17_Name.j0 k a0 a1 y142 1) = some (r1, r2) := by first | (rw [hy142]; with_reducible exact H) | (have H2_ := (Option.bind_some _ _).symm.trans H; rw [hy142]; with_reducible exact H2_) | (have H2_ := (Option.bind_some _ _).symm.trans H; with_reducible exact H2_) | with_reducible exact H | (rw [hy142]; exact H) | exact H
    have Ny142 := Aside0.mk hy142
    clear hy142
    have H' := Aside0.mk H
    clear H
    go_wp2_with (first | ((with_reducible refine gate_dst (N := 15) rfl ?_); refine Kd.R_lit Kd.string _ 9 ?hg (N := 15) ?hd (xs := ([(⟨#[106, 97, 110]⟩ : ByteArray), (⟨#[102, 101, 98]⟩ : ByteArray), (⟨#[109, 97, 114]⟩ : ByteArray), (⟨#[97, 112, 114]⟩ : ByteArray), (⟨#[109, 97, 121]⟩ : ByteArray), (⟨#[106, 117, 110]⟩ : ByteArray), (⟨#[106, 117, 108]⟩ : ByteArray), (⟨#[97, 117, 103]⟩ : ByteArray), (⟨#[115, 101, 112]⟩ : ByteArray), (⟨#[111, 99, 116]⟩ : ByteArray), (⟨#[110, 111, 118]⟩ : ByteArray), (⟨#[100, 101, 99]⟩ : ByteArray)] : List ByteArray)) (inner := [.string (⟨#[106, 97, 110]⟩ : ByteArray), .string (⟨#[102, 101, 98]⟩ : ByteArray), .string (⟨#[109, 97, 114]⟩ : ByteArray), .string (⟨#[97, 112, 114]⟩ : ByteArray), .string (⟨#[109, 97, 121]⟩ : ByteArray), .string (⟨#[106, 117, 110]⟩ : ByteArray), .string (⟨#[106, 117, 108]⟩ : ByteArray), .string (⟨#[97, 117, 103]⟩ : ByteArray), .string (⟨#[115, 101, 112]⟩ : ByteArray), .string (⟨#[111, 99, 116]⟩ : ByteArray), .string (⟨#[110, 111, 118]⟩ : ByteArray), .string (⟨#[100, 101, 99]⟩ : ByteArray)]) (ok := fun _ => True) (okp := fun _ => True) ?hr ?hp (fun _ hk => hk) trivial (Below.refl _ _) (Nat.le_refl _) (by simp) ?_; (case hd => rfl); (case hg => rfl); (case hr => first | (go_simp; done) | (go_simp; rfl)); (case hp => exact (Reps.one (show Kd.M Kd.string _ _ _ (⟨#[106, 97, 110]⟩ : ByteArray) [.string (⟨#[106, 97, 110]⟩ : ByteArray)] from rfl) (Reps.one (show Kd.M Kd.string _ _ _ (⟨#[102, 101, 98]⟩ : ByteArray) [.string (⟨#[102, 101, 98]⟩ : ByteArray)] from rfl) (Reps.one (show Kd.M Kd.string _ _ _ (⟨#[109, 97, 114]⟩ : ByteArray) [.string (⟨#[109, 97, 114]⟩ : ByteArray)] from rfl) (Reps.one (show Kd.M Kd.string _ _ _ (⟨#[97, 112, 114]⟩ : ByteArray) [.string (⟨#[97, 112, 114]⟩ : ByteArray)] from rfl) (Reps.one (show Kd.M Kd.string _ _ _ (⟨#[109, 97, 121]⟩ : ByteArray) [.string (⟨#[109, 97, 121]⟩ : ByteArray)] from rfl) (Reps.one (show Kd.M Kd.string _ _ _ (⟨#[106, 117, 110]⟩ : ByteArray) [.string (⟨#[106, 117, 110]⟩ : ByteArray)] from rfl) (Reps.one (show Kd.M Kd.string _ _ _ (⟨#[106, 117, 108]⟩ : ByteArray) [.string (⟨#[106, 117, 108]⟩ : ByteArray)] from rfl) (Reps.one (show Kd.M Kd.string _ _ _ (⟨#[97, 117, 103]⟩ : ByteArray) [.string (⟨#[97, 117, 103]⟩ : ByteArray)] from rfl) (Reps.one (show Kd.M Kd.string _ _ _ (⟨#[115, 101, 112]⟩ : ByteArray) [.string (⟨#[115, 101, 112]⟩ : ByteArray)] from rfl) (Reps.one (show Kd.M Kd.string _ _ _ (⟨#[111, 99, 116]⟩ : ByteArray) [.string (⟨#[111, 99, 116]⟩ : ByteArray)] from rfl) (Reps.one (show Kd.M Kd.string _ _ _ (⟨#[110, 111, 118]⟩ : ByteArray) [.string (⟨#[110, 111, 118]⟩ : ByteArray)] from rfl) (Reps.one (show Kd.M Kd.string _ _ _ (⟨#[100, 101, 99]⟩ : ByteArray) [.string (⟨#[100, 101, 99]⟩ : ByteArray)] from rfl) (Reps.none _ _)))))))))))))); intro v143 w6 ho7 hb hg_ hnew_; clear hg_ hnew_; (first | rw [← Ny142.out] at ho7 | (simp only [Int.reduceToNat] at ho7; rw [← Ny142.out] at ho7)); have n0_ := Aside0.mk (Kd.R_lower ho7 (below_size (by repeat (first | (with_reducible first | exact HB.out | apply below_alloc | apply pw_below_drewN | apply below_drew1) | exact HB.out)))); have n1_ := Aside0.mk (below_step (by repeat (first | (with_reducible first | exact HB.out | apply below_alloc | apply pw_below_drewN | apply below_drew1) | exact HB.out)) hb); clear HB; have HO144 := n0_; have HB := n1_; clear n0_ n1_; clear hb ho7))
    go_meet
    case rel => exact ⟨_, (y142), (1), (by first | rfl | (simp; done) | (simp [*]; done)), H', ⟨by first | omega | exact Nat.le_refl _⟩, ⟨by (with_reducible repeat (first | apply Kd.R_alloc | apply Kd.R_drewN | apply Kd.R_drew)); exact HO144.out⟩, ⟨by repeat (first | (with_reducible first | exact HB.out | apply below_alloc | apply pw_below_drewN | apply below_drew1) | exact HB.out)⟩⟩
   ·rw [if_neg c5] at H
    have c5b0 : (a1 == 3) = false := beq_eq_false_iff_ne.mpr c5
    have c5b1 : (a1 != 3) = true := bne_iff_ne.mpr c5
    (first | rw [c5b0] | (simp only [i64_w, i32_w]; rw [c5b0]) | skip)
    have H' := Aside0.mk H
    clear H
    go_wp2
    go_meet
    case rel => exact ⟨_, (([] : List ByteArray)), (0), (by first | rfl | (simp; done) | (simp [*]; done)), H', ⟨by first | omega | exact Nat.le_refl _⟩, ⟨by first | exact Kd.R_nil _ _ _ _ _ | exact Kd.N_nil _ _ _ _ _ | exact Kd.V_nil _ _ _ _ _ | exact Kd.Q_nil _ _ _ _ _ | exact Kd.S_nil _ _ _ _ _⟩, ⟨by repeat (first | (with_reducible first | exact HB.out | apply below_alloc | apply pw_below_drewN | apply below_drew1) | exact HB.out)⟩⟩
  case rest =>
   clear HC4
   try clear p2
   try clear c3
   try clear c3b0
   try clear c3b1
   try clear c5
   try clear c5b0
   try clear c5b1
   try clear c7
   obtain ⟨kq, x6_3, x7_3, rfl, HA, HJ3, HO_6, HB⟩ := hcut
   cases kq with
   | zero => exact absurd HA.out (by simp [complineref17_Name.j0])
   | succ kj3 =>
    have H := HA.out
    clear HA
    simp only [complineref17_Name.j0] at H
    have HC8 := Aside0.mk H
    clear H
    go_upto_if 17 with (fail)
    go_cut [6] (fun v6 wc => ∃ (kq : Nat) (x6_7 : List ByteArray), Aside0 (complineref17_Name.j1 kq a0 x6_7 x7_3 = some (r1, r2)) ∧ Aside0 (kq ≤ kj3) ∧ Aside0 (Kd.R Kd.string 9 wc w.heap.size (fun _ => True) v6 x6_7) ∧ Aside0 (Below w.heap.size w wc))
    case first =>
     have H := HC8.out
     clear HC8
     by_cases c9 : a1 = 4
     ·rw [if_pos c9] at H
      have c9b0 : (a1 == 4) = true := beq_iff_eq.mpr c9
      have c9b1 : (a1 != 4) = false := bne_eq_false_iff_eq.mpr c9
      clear c9
      (first | rw [c9b0] | (simp only [i64_w, i32_w]; rw [c9b0]) | skip)
      obtain ⟨y145, hy145⟩ : ∃ y_ : List ByteArray, y_ = (([(⟨#[115, 117, 110]⟩ : ByteArray), (⟨#[109, 111, 110]⟩ : ByteArray), (⟨#[116, 117, 101]⟩ : ByteArray), (⟨#[119, 101, 100]⟩ : ByteArray), (⟨#[116, 104, 117]⟩ : ByteArray), (⟨#[102, 114, 105]⟩ : ByteArray), (⟨#[115, 97, 116]⟩ : ByteArray)] : List ByteArray)) := ⟨_, rfl⟩
      replace H : (complineref17_Name.j1 kj3 a0 y145 x7_3) = some (r1, r2) := by first | (rw [hy145]; with_reducible exact H) | (have H2_ := (Option.bind_some _ _).symm.trans H; rw [hy145]; with_reducible exact H2_) | (have H2_ := (Option.bind_some _ _).symm.trans H; with_reducible exact H2_) | with_reducible exact H | (rw [hy145]; exact H) | exact H
      have Ny145 := Aside0.mk hy145
      clear hy145
      have H' := Aside0.mk H
      clear H
      go_wp2_with (first | ((with_reducible refine gate_dst (N := 18) rfl ?_); refine Kd.R_lit Kd.string _ 9 ?hg (N := 18) ?hd (xs := ([(⟨#[115, 117, 110]⟩ : ByteArray), (⟨#[109, 111, 110]⟩ : ByteArray), (⟨#[116, 117, 101]⟩ : ByteArray), (⟨#[119, 101, 100]⟩ : ByteArray), (⟨#[116, 104, 117]⟩ : ByteArray), (⟨#[102, 114, 105]⟩ : ByteArray), (⟨#[115, 97, 116]⟩ : ByteArray)] : List ByteArray)) (inner := [.string (⟨#[115, 117, 110]⟩ : ByteArray), .string (⟨#[109, 111, 110]⟩ : ByteArray), .string (⟨#[116, 117, 101]⟩ : ByteArray), .string (⟨#[119, 101, 100]⟩ : ByteArray), .string (⟨#[116, 104, 117]⟩ : ByteArray), .string (⟨#[102, 114, 105]⟩ : ByteArray), .string (⟨#[115, 97, 116]⟩ : ByteArray)]) (ok := fun _ => True) (okp := fun _ => True) ?hr ?hp (fun _ hk => hk) trivial (Below.refl _ _) (Nat.le_refl _) (by simp) ?_; (case hd => rfl); (case hg => rfl); (case hr => first | (go_simp; done) | (go_simp; rfl)); (case hp => exact (Reps.one (show Kd.M Kd.string _ _ _ (⟨#[115, 117, 110]⟩ : ByteArray) [.string (⟨#[115, 117, 110]⟩ : ByteArray)] from rfl) (Reps.one (show Kd.M Kd.string _ _ _ (⟨#[109, 111, 110]⟩ : ByteArray) [.string (⟨#[109, 111, 110]⟩ : ByteArray)] from rfl) (Reps.one (show Kd.M Kd.string _ _ _ (⟨#[116, 117, 101]⟩ : ByteArray) [.string (⟨#[116, 117, 101]⟩ : ByteArray)] from rfl) (Reps.one (show Kd.M Kd.string _ _ _ (⟨#[119, 101, 100]⟩ : ByteArray) [.string (⟨#[119, 101, 100]⟩ : ByteArray)] from rfl) (Reps.one (show Kd.M Kd.string _ _ _ (⟨#[116, 104, 117]⟩ : ByteArray) [.string (⟨#[116, 104, 117]⟩ : ByteArray)] from rfl) (Reps.one (show Kd.M Kd.string _ _ _ (⟨#[102, 114, 105]⟩ : ByteArray) [.string (⟨#[102, 114, 105]⟩ : ByteArray)] from rfl) (Reps.one (show Kd.M Kd.string _ _ _ (⟨#[115, 97, 116]⟩ : ByteArray) [.string (⟨#[115, 97, 116]⟩ : ByteArray)] from rfl) (Reps.none _ _))))))))); intro v146 w10 ho11 hb hg_ hnew_; clear hg_ hnew_; (first | rw [← Ny145.out] at ho11 | (simp only [Int.reduceToNat] at ho11; rw [← Ny145.out] at ho11)); have n0_ := Aside0.mk (Kd.R_elder' (by (with_reducible repeat (first | apply Kd.R_alloc | apply Kd.R_drewN | apply Kd.R_drew)); exact HO_6.out) (Kd.R_base ho11) hb); have n1_ := Aside0.mk (Kd.R_lower (Kd.R_new' ho11 (Kd.R_lt (by (with_reducible repeat (first | apply Kd.R_alloc | apply Kd.R_drewN | apply Kd.R_drew)); exact HO_6.out))) (below_size (by repeat (first | (with_reducible first | exact HB.out | apply below_alloc | apply pw_below_drewN | apply below_drew1) | exact HB.out)))); have n2_ := Aside0.mk (below_step (by repeat (first | (with_reducible first | exact HB.out | apply below_alloc | apply pw_below_drewN | apply below_drew1) | exact HB.out)) hb); clear HO_6; clear HB; have HO_6 := n0_; have HO147 := n1_; have HB := n2_; clear n0_ n1_ n2_; clear hb ho11))
      go_meet
      case rel => exact ⟨_, (y145), H', ⟨by have := HJ3.out; first | omega | exact Nat.le_refl _⟩, ⟨by (with_reducible repeat (first | apply Kd.R_alloc | apply Kd.R_drewN | apply Kd.R_drew)); exact Kd.R_mono HO147.out (fun _ hk => trivial)⟩, ⟨by repeat (first | (with_reducible first | exact HB.out | apply below_alloc | apply pw_below_drewN | apply below_drew1) | exact HB.out)⟩⟩
     ·rw [if_neg c9] at H
      have c9b0 : (a1 == 4) = false := beq_eq_false_iff_ne.mpr c9
      have c9b1 : (a1 != 4) = true := bne_iff_ne.mpr c9
      (first | rw [c9b0] | (simp only [i64_w, i32_w]; rw [c9b0]) | skip)
      have H' := Aside0.mk H
      clear H
      go_wp2
      go_meet
      case rel => exact ⟨_, (x6_3), H', ⟨by have := HJ3.out; first | omega | exact Nat.le_refl _⟩, ⟨by (with_reducible repeat (first | apply Kd.R_alloc | apply Kd.R_drewN | apply Kd.R_drew)); exact HO_6.out⟩, ⟨by repeat (first | (with_reducible first | exact HB.out | apply below_alloc | apply pw_below_drewN | apply below_drew1) | exact HB.out)⟩⟩
    case rest =>
     clear HC8
     try clear p2
     try clear c3
     try clear c3b0
     try clear c3b1
     try clear c5
     try clear c5b0
     try clear c5b1
     try clear c7
     try clear c9
     try clear c9b0
     try clear c9b1
     try clear p2
     obtain ⟨kq, x6_7, HA, HJ7, HO_6, HB⟩ := hcut
     cases kq with
     | zero => exact absurd HA.out (by simp [complineref17_Name.j1])
     | succ kj7 =>
      have H := HA.out
      clear HA
      simp only [complineref17_Name.j1] at H
      replace H := Option.bind_eq_some_iff.mp H
      obtain ⟨t148, A120, H⟩ := H
      replace H : (complineref17_Name.l0 kj7 x6_7 x7_3 t148 0) = some (r1, r2) := H
      have A12 := Aside0.mk A120
      clear A120
      have H' := Aside0.mk H
      clear H
      go_wp2_with (first | ((with_reducible refine gate_callee (f := 78) rfl ?_); refine goesL_ (some 20) rfl rfl Tryz.func78 (by kernel_rfl) rfl #[.string a0] rfl (by (try simp only [List.map_toArray, List.map_cons, List.map_nil]); first | done | rfl | (simp only [List.length_drop, List.length_take]; rfl)) ?_; (with_reducible refine (complineref17_Lower.calls kj7 a0 t148 _ A12.out).mono ?_); rintro e w13 ⟨rfl, hb⟩; refine ⟨_, rfl, ?_⟩; have n0_ := Aside0.mk (Kd.R_below (by (with_reducible repeat (first | apply Kd.R_alloc | apply Kd.R_drewN | apply Kd.R_drew)); exact HO_6.out) hb); have n1_ := Aside0.mk (below_step (by repeat (first | (with_reducible first | exact HB.out | apply below_alloc | apply pw_below_drewN | apply below_drew1) | exact HB.out)) hb); clear HO_6; clear HB; have HO_6 := n0_; have HB := n1_; clear n0_ n1_; (try clear hb); (try clear hb2); (try clear hk); (try clear hi)))
      go_loopg [9] kj7 (fun kq v9 w' => ∃ (x9_3 : Int), v9 = .int .i64 x9_3 ∧ Aside0 (complineref17_Name.l0 kq x6_7 x7_3 t148 x9_3 = some (r1, r2)) ∧ Aside0 (kq ≤ kj7) ∧ Aside0 (Kd.R Kd.string 9 w' w.heap.size (fun _ => True) u6 x6_7) ∧ Aside0 (Below w.heap.size w w'))
      case atStart => exact ⟨(0), (by first | rfl | (simp; done) | (simp [*]; done)), H', ⟨Nat.le_refl _⟩, ⟨by (with_reducible repeat (first | apply Kd.R_alloc | apply Kd.R_drewN | apply Kd.R_drew)); exact HO_6.out⟩, ⟨by repeat (first | (with_reducible first | exact HB.out | apply below_alloc | apply pw_below_drewN | apply below_drew1) | exact HB.out)⟩⟩
      case round =>
       clear H'
       try clear p2
       try clear c3
       try clear c3b0
       try clear c3b1
       try clear c5
       try clear c5b0
       try clear c5b1
       try clear c7
       try clear c9
       try clear c9b0
       try clear c9b1
       try clear p2
       obtain ⟨x9_3, rfl, HA, HK3, HO_6, HB⟩ := hrel
       cases gk with
       | zero => exact absurd HA.out (by simp [complineref17_Name.l0])
       | succ k3 =>
        have H := HA.out
        clear HA
        simp only [complineref17_Name.l0] at H
        by_cases c14 : x9_3 < (x6_7.length : Int)
        ·rw [if_pos c14] at H
         have c14b0 : decide (x9_3 < (x6_7.length : Int)) = true := decide_eq_true c14
         clear c14
         by_cases c15 : 0 ≤ x9_3
         ·rw [if_pos c15] at H
          have c15b0 : decide (0 ≤ x9_3) = true := decide_eq_true c15
          clear c15
          by_cases c16 : (rdOf ByteArray.empty x6_7 x9_3).toList = t148.toList
          ·rw [if_pos c16] at H
           have c16b0 : ((rdOf ByteArray.empty x6_7 x9_3).toList == t148.toList) = true := beq_iff_eq.mpr c16
           have c16b1 : ((rdOf ByteArray.empty x6_7 x9_3).toList != t148.toList) = false := bne_eq_false_iff_eq.mpr c16
           clear c16
           simp only [Option.some.injEq, Prod.mk.injEq] at H
           obtain ⟨rfl, rfl⟩ := H
           obtain ⟨Ao17, co17, eo17⟩ := Kd.R_slice HO_6.out
           subst eo17
           have p149 : 0 ≤ (x9_3 : Int) := of_decide_eq_true (by first | (with_reducible assumption) | assumption)
           have q149 : x9_3 < (x6_7.length : Int) := of_decide_eq_true (by first | (with_reducible assumption) | assumption)
           obtain ⟨ad149, e149, hx149_0⟩ := Kd.at_string (Kd.R_reads' HO_6.out).2.2 x9_3 p149 q149
           cases e149
           replace p149 := eq_true p149
           replace q149 := eq_true q149
           go_wp2
           go_ret2
           exact ⟨by first | rfl | (simp [errW_none, errW_some] <;> rfl) | (simp [*, errW_none, errW_some] <;> rfl), by repeat (first | (with_reducible first | exact HB.out | apply below_alloc | apply pw_below_drewN | apply below_drew1) | exact HB.out)⟩
          ·rw [if_neg c16] at H
           have c16b0 : ((rdOf ByteArray.empty x6_7 x9_3).toList == t148.toList) = false := beq_eq_false_iff_ne.mpr c16
           have c16b1 : ((rdOf ByteArray.empty x6_7 x9_3).toList != t148.toList) = true := bne_iff_ne.mpr c16
           have H' := Aside0.mk H
           clear H
           obtain ⟨Ao18, co18, eo18⟩ := Kd.R_slice HO_6.out
           subst eo18
           have p149 : 0 ≤ (x9_3 : Int) := of_decide_eq_true (by first | (with_reducible assumption) | assumption)
           have q149 : x9_3 < (x6_7.length : Int) := of_decide_eq_true (by first | (with_reducible assumption) | assumption)
           obtain ⟨ad149, e149, hx149_0⟩ := Kd.at_string (Kd.R_reads' HO_6.out).2.2 x9_3 p149 q149
           cases e149
           replace p149 := eq_true p149
           replace q149 := eq_true q149
           go_wp2
           go_roundg k3
           case measure => have := HJ3.out; have := HJ7.out; have := HK3.out; omega
           case rel => exact ⟨(wrap64 (x9_3 + 1)), (by first | rfl | (simp; done) | (simp [*]; done)), H', ⟨by have := HJ3.out; have := HJ7.out; have := HK3.out; omega⟩, ⟨by (with_reducible repeat (first | apply Kd.R_alloc | apply Kd.R_drewN | apply Kd.R_drew)); exact HO_6.out⟩, ⟨by repeat (first | (with_reducible first | exact HB.out | apply below_alloc | apply pw_below_drewN | apply below_drew1) | exact HB.out)⟩⟩
         ·rw [if_neg c15] at H
          exact absurd H (by simp)
        ·rw [if_neg c14] at H
         have c14b0 : decide (x9_3 < (x6_7.length : Int)) = false := decide_eq_false c14
         clear c14
         simp only [Option.some.injEq, Prod.mk.injEq] at H
         obtain ⟨rfl, rfl⟩ := H
         obtain ⟨Ao19, co19, eo19⟩ := Kd.R_slice HO_6.out
         subst eo19
         go_wp2
         go_ret2
         exact ⟨by first | rfl | (simp [errW_none, errW_some] <;> rfl) | (simp [*, errW_none, errW_some] <;> rfl), by repeat (first | (with_reducible first | exact HB.out | apply below_alloc | apply pw_below_drewN | apply below_drew1) | exact HB.out)⟩
 ·rw [if_neg c3] at H
  have c3b0 : ((a0.size : Int) == 3) = false := beq_eq_false_iff_ne.mpr c3
  have c3b1 : ((a0.size : Int) != 3) = true := bne_iff_ne.mpr c3
  simp only [Option.some.injEq, Prod.mk.injEq] at H
  obtain ⟨rfl, rfl⟩ := H
  go_enter Tryz.func70, Tryz.ntmps70
  go_wp2
  go_ret2
  exact ⟨by first | rfl | (simp [errW_none, errW_some] <;> rfl) | (simp [*, errW_none, errW_some] <;> rfl), by repeat (first | (with_reducible first | exact HB.out | apply below_alloc | apply pw_below_drewN | apply below_drew1) | exact HB.out)⟩

/-! ### complineref17_Value: function 56 -/
mutual
def complineref17_Value.j0 : Nat → ByteArray → Int → Int → Int → Bool → Option (Int × Int)
 | 0, _, _, _, _, _ => none
 | k + 1, x0, x1, x6, x7, x27 => if x27 = true then ((complineref17_Number.f k x0).bind fun bt154 => (complineref17_Value.j1 k x6 x7 bt154.1 bt154.2)) else ((complineref17_Name.f k x0 x1).bind fun bt156 => (complineref17_Value.j1 k x6 x7 bt156.1 bt156.2))
def complineref17_Value.j1 : Nat → Int → Int → Int → Int → Option (Int × Int)
 | 0, _, _, _, _ => none
 | k + 1, x6, x7, x9, x10 => if x10 = 0 then (if x9 < x6 then (some (0, 1)) else (if x9 > x7 then (some (0, 1)) else (some (x9, 0)))) else (some (0, x10))
end
def complineref17_Value.f (k : Nat) (a0 : ByteArray) (a1 : Int) : Option (Int × Int) := (complineref17_Limits.f a1).bind fun bt150 => (if bt150.2.2 = 0 then (if (a0.size : Int) > 0 then (if 0 < (a0.size : Int) then ((complineref17_digit.f (bt a0 0)).bind fun t153 => (complineref17_Value.j0 k a0 a1 bt150.1 bt150.2.1 t153)) else (none)) else (complineref17_Value.j0 k a0 a1 bt150.1 bt150.2.1 false)) else (some (0, bt150.2.2)))
theorem complineref17_Value.mono_l : ∀ k, (∀ y0 y1 y2 y3 y4, LeO (complineref17_Value.j0 k y0 y1 y2 y3 y4) (complineref17_Value.j0 (k + 1) y0 y1 y2 y3 y4)) ∧ (∀ y0 y1 y2 y3, LeO (complineref17_Value.j1 k y0 y1 y2 y3) (complineref17_Value.j1 (k + 1) y0 y1 y2 y3))
 | 0 => ⟨fun _ _ _ _ _ r h => by simp [complineref17_Value.j0] at h, fun _ _ _ _ r h => by simp [complineref17_Value.j1] at h⟩
 | k + 1 => by
  obtain ⟨ih0, ih1⟩ := complineref17_Value.mono_l k
  refine ⟨?_, ?_⟩
  ·intro y0 y1 y2 y3 y4
   unfold complineref17_Value.j0
   repeat' first
   | (with_reducible exact ih0 _ _ _ _ _)
   | (with_reducible exact ih1 _ _ _ _)
   | (with_reducible exact complineref17_Name.mono _ _ _)
   | (with_reducible exact complineref17_Number.mono _ _)
   | (with_reducible exact LeO.refl _)
   | (with_reducible exact LeO.none _)
   | (with_reducible refine LeO.ite ?_ ?_)
   | (with_reducible refine LeO.bind ?_ (fun _ => ?_))
   | exact ih0 _ _ _ _ _
   | exact ih1 _ _ _ _
   | exact complineref17_Name.mono _ _ _
   | exact complineref17_Number.mono _ _
   | exact LeO.none _
   | refine LeO.ite ?_ ?_
   | refine LeO.bind ?_ (fun _ => ?_)
  ·intro y0 y1 y2 y3
   unfold complineref17_Value.j1
   repeat' first
   | (with_reducible exact ih0 _ _ _ _ _)
   | (with_reducible exact ih1 _ _ _ _)
   | (with_reducible exact complineref17_Name.mono _ _ _)
   | (with_reducible exact complineref17_Number.mono _ _)
   | (with_reducible exact LeO.refl _)
   | (with_reducible exact LeO.none _)
   | (with_reducible refine LeO.ite ?_ ?_)
   | (with_reducible refine LeO.bind ?_ (fun _ => ?_))
   | exact ih0 _ _ _ _ _
   | exact ih1 _ _ _ _
   | exact complineref17_Name.mono _ _ _
   | exact complineref17_Number.mono _ _
   | exact LeO.none _
   | refine LeO.ite ?_ ?_
   | refine LeO.bind ?_ (fun _ => ?_)
theorem complineref17_Value.mono : ∀ a0 a1 k, LeO (complineref17_Value.f k a0 a1) (complineref17_Value.f (k + 1) a0 a1) := by
 intro a0 a1 k
 obtain ⟨ih0, ih1⟩ := complineref17_Value.mono_l k
 unfold complineref17_Value.f
 repeat' first
   | (with_reducible exact ih0 _ _ _ _ _)
   | (with_reducible exact ih1 _ _ _ _)
   | (with_reducible exact complineref17_Name.mono _ _ _)
   | (with_reducible exact complineref17_Number.mono _ _)
   | (with_reducible exact LeO.refl _)
   | (with_reducible exact LeO.none _)
   | (with_reducible refine LeO.ite ?_ ?_)
   | (with_reducible refine LeO.bind ?_ (fun _ => ?_))
   | exact ih0 _ _ _ _ _
   | exact ih1 _ _ _ _
   | exact complineref17_Name.mono _ _ _
   | exact complineref17_Number.mono _ _
   | exact LeO.none _
   | refine LeO.ite ?_ ?_
   | refine LeO.bind ?_ (fun _ => ?_)
set_option maxHeartbeats 8000000 in
set_option maxRecDepth 100000 in
theorem complineref17_Value.calls (k : Nat) (a0 : ByteArray) (a1 : Int) (r1 : Int) (r2 : Int) (w : World) (h : complineref17_Value.f k a0 a1 = some (r1, r2)) :
  Calls Tryz.prog 56 #[.string a0, .int .i64 a1] w fun e w' => e = .returned (.tuple #[.int .i64 r1, .int .i64 r2]) ∧ Below w.heap.size w w' := by
 have HB := Aside0.mk (Below.refl w.heap.size w)
 have H : ((complineref17_Limits.f a1).bind fun bt150 => (if bt150.2.2 = 0 then (if (a0.size : Int) > 0 then (if 0 < (a0.size : Int) then ((complineref17_digit.f (bt a0 0)).bind fun t153 => (complineref17_Value.j0 k a0 a1 bt150.1 bt150.2.1 t153)) else (none)) else (complineref17_Value.j0 k a0 a1 bt150.1 bt150.2.1 false)) else (some (0, bt150.2.2)))) = some (r1, r2) := h
 clear h
 replace H := Option.bind_eq_some_iff.mp H
 obtain ⟨⟨t150, t151, t152⟩, A30, H⟩ := H
 replace H : (if t152 = 0 then (if (a0.size : Int) > 0 then (if 0 < (a0.size : Int) then ((complineref17_digit.f (bt a0 0)).bind fun t153 => (complineref17_Value.j0 k a0 a1 t150 t151 t153)) else (none)) else (complineref17_Value.j0 k a0 a1 t150 t151 false)) else (some (0, t152))) = some (r1, r2) := H
 have A3 := Aside0.mk A30
 clear A30
 by_cases c4 : t152 = 0
 ·rw [if_pos c4] at H
  have c4b0 : (t152 == 0) = true := beq_iff_eq.mpr c4
  have c4b1 : (t152 != 0) = false := bne_eq_false_iff_eq.mpr c4
  clear c4
  have HC5 := Aside0.mk H
  clear H
  go_enter Tryz.func56, Tryz.ntmps56
  go_upto_region 5 with (first | ((with_reducible refine gate_callee (f := 55) rfl ?_); refine goesL_ (some 13) rfl rfl Tryz.func55 (by kernel_rfl) rfl #[.int .i64 a1] rfl (by (try simp only [List.map_toArray, List.map_cons, List.map_nil]); first | done | rfl | (simp only [List.length_drop, List.length_take]; rfl)) ?_; (with_reducible refine (complineref17_Limits.calls a1 t150 t151 t152 _ A3.out).mono ?_); rintro e w' ⟨rfl, ⟨nd, rfl⟩⟩; refine ⟨_, rfl, ?_⟩))
  (try simp only [Act.put, List.setIfInBounds_toArray, List.set_cons_zero, List.set_cons_succ])
  go_cut [27] (fun v27 wc => ∃ (kq : Nat) (x27_4 : Bool), v27 = .bool x27_4 ∧ Aside0 (complineref17_Value.j0 kq a0 a1 t150 t151 x27_4 = some (r1, r2)) ∧ Aside0 (kq ≤ k) ∧ Aside0 (Below w.heap.size w wc))
  case first =>
   have H := HC5.out
   clear HC5
   by_cases c6 : (a0.size : Int) > 0
   ·rw [if_pos c6] at H
    have c6b0 : decide (0 < (a0.size : Int)) = true := decide_eq_true c6
    have c6b1 : decide (0 < a0.size) = true := decide_eq_true (by omega)
    clear c6
    (first | rw [c6b0] | (simp only [i64_w, i32_w]; rw [c6b0]) | skip)
    by_cases c7 : 0 < (a0.size : Int)
    ·rw [if_pos c7] at H
     have c7b0 : decide (0 < (a0.size : Int)) = true := decide_eq_true c7
     have c7b1 : decide (0 < a0.size) = true := decide_eq_true (by omega)
     clear c7
     replace H := Option.bind_eq_some_iff.mp H
     obtain ⟨t153, A90, H⟩ := H
     replace H : (complineref17_Value.j0 k a0 a1 t150 t151 t153) = some (r1, r2) := H
     have A9 := Aside0.mk A90
     clear A90
     have H' := Aside0.mk H
     clear H
     have p8 : 0 ≤ (0 : Int) := (by omega)
     have q8 : 0 < a0.size := (by have : (0 : Int) < (a0.size : Int) := of_decide_eq_true (by first | (with_reducible assumption) | assumption); omega)
     have hx8 : ∀ h : 0 < a0.size, ((a0[0]'h).toNat : Int) = bt a0 0 := bt_at a0 0
     clear p8
     have qi8 : (0 < (a0.size : Int)) = True := eq_true (of_decide_eq_true (by first | (with_reducible assumption) | assumption))
     replace q8 := eq_true q8
     go_wp2_with (first | (go_at_call 38; (with_reducible refine (complineref17_digit.calls (bt a0 0) t153 _ A9.out).mono ?_); rintro e w' ⟨rfl, ⟨nd, rfl⟩⟩))
     go_meet
     case rel => exact ⟨_, (t153), (by first | rfl | (simp; done) | (simp [*]; done)), H', ⟨by first | omega | exact Nat.le_refl _⟩, ⟨by repeat (first | (with_reducible first | exact HB.out | apply below_alloc | apply pw_below_drewN | apply below_drew1) | exact HB.out)⟩⟩
    ·rw [if_neg c7] at H
     exact absurd H (by simp)
   ·rw [if_neg c6] at H
    have c6b0 : decide (0 < (a0.size : Int)) = false := decide_eq_false c6
    have c6b1 : decide (0 < a0.size) = false := decide_eq_false (by omega)
    clear c6
    (first | rw [c6b0] | (simp only [i64_w, i32_w]; rw [c6b0]) | skip)
    have H' := Aside0.mk H
    clear H
    go_wp2
    go_meet
    case rel => exact ⟨_, (false), (by first | rfl | (simp; done) | (simp [*]; done)), H', ⟨by first | omega | exact Nat.le_refl _⟩, ⟨by repeat (first | (with_reducible first | exact HB.out | apply below_alloc | apply pw_below_drewN | apply below_drew1) | exact HB.out)⟩⟩
  case rest =>
   clear HC5
   try clear p2
   try clear c4
   try clear c4b0
   try clear c4b1
   try clear c5
   try clear c6
   try clear c6b0
   try clear c6b1
   try clear c7
   try clear c7b0
   try clear c7b1
   try clear p8
   try clear q8
   try clear hx8
   try clear qi8
   try clear p8
   try clear q8
   obtain ⟨kq, x27_4, rfl, HA, HJ4, HB⟩ := hcut
   cases kq with
   | zero => exact absurd HA.out (by simp [complineref17_Value.j0])
   | succ kj4 =>
    have H := HA.out
    clear HA
    simp only [complineref17_Value.j0] at H
    have HC10 := Aside0.mk H
    clear H
    go_upto_if 27 with (fail)
    go_cut [9, 10] (fun v9 v10 wc => ∃ (kq : Nat) (x9_9 : Int) (x10_9 : Int), v9 = .int .i64 x9_9 ∧ v10 = .int .i64 x10_9 ∧ Aside0 (complineref17_Value.j1 kq t150 t151 x9_9 x10_9 = some (r1, r2)) ∧ Aside0 (kq ≤ kj4) ∧ Aside0 (Below w.heap.size w wc))
    case first =>
     have H := HC10.out
     clear HC10
     by_cases c11 : x27_4 = true
     ·subst c11
      have H1 : ((complineref17_Number.f kj4 a0).bind fun bt154 => (complineref17_Value.j1 kj4 t150 t151 bt154.1 bt154.2)) = some (r1, r2) := by rw [if_pos rfl] at H; exact H
      clear H
      have H := H1
      clear H1
      replace H := Option.bind_eq_some_iff.mp H
      obtain ⟨⟨t154, t155⟩, A120, H⟩ := H
      replace H : (complineref17_Value.j1 kj4 t150 t151 t154 t155) = some (r1, r2) := H
      have A12 := Aside0.mk A120
      clear A120
      have H' := Aside0.mk H
      clear H
      go_wp2_with (first | ((with_reducible refine gate_callee (f := 57) rfl ?_); refine goesL_ (some 30) rfl rfl Tryz.func57 (by kernel_rfl) rfl #[.string a0] rfl (by (try simp only [List.map_toArray, List.map_cons, List.map_nil]); first | done | rfl | (simp only [List.length_drop, List.length_take]; rfl)) ?_; (with_reducible refine (complineref17_Number.calls kj4 a0 t154 t155 _ A12.out).mono ?_); rintro e w' ⟨rfl, ⟨nd, rfl⟩⟩; refine ⟨_, rfl, ?_⟩))
      go_meet
      case rel => exact ⟨_, (t154), (t155), (by first | rfl | (simp; done) | (simp [*]; done)), (by first | rfl | (simp; done) | (simp [*]; done)), H', ⟨by have := HJ4.out; first | omega | exact Nat.le_refl _⟩, ⟨by repeat (first | (with_reducible first | exact HB.out | apply below_alloc | apply pw_below_drewN | apply below_drew1) | exact HB.out)⟩⟩
     ·replace c11 := Bool.eq_false_iff.mpr c11
      subst c11
      have H1 : ((complineref17_Name.f kj4 a0 a1).bind fun bt156 => (complineref17_Value.j1 kj4 t150 t151 bt156.1 bt156.2)) = some (r1, r2) := by rw [if_neg (show ¬ (false = true) by decide)] at H; exact H
      clear H
      have H := H1
      clear H1
      replace H := Option.bind_eq_some_iff.mp H
      obtain ⟨⟨t156, t157⟩, A130, H⟩ := H
      replace H : (complineref17_Value.j1 kj4 t150 t151 t156 t157) = some (r1, r2) := H
      have A13 := Aside0.mk A130
      clear A130
      have H' := Aside0.mk H
      clear H
      go_wp2_with (first | ((with_reducible refine gate_callee (f := 70) rfl ?_); refine goesL_ (some 36) rfl rfl Tryz.func70 (by kernel_rfl) rfl #[.string a0, .int .i64 a1] rfl (by (try simp only [List.map_toArray, List.map_cons, List.map_nil]); first | done | rfl | (simp only [List.length_drop, List.length_take]; rfl)) ?_; (with_reducible refine (complineref17_Name.calls kj4 a0 a1 t156 t157 _ A13.out).mono ?_); rintro e w14 ⟨rfl, hb⟩; refine ⟨_, rfl, ?_⟩; have n0_ := Aside0.mk (below_step (by repeat (first | (with_reducible first | exact HB.out | apply below_alloc | apply pw_below_drewN | apply below_drew1) | exact HB.out)) hb); clear HB; have HB := n0_; clear n0_; (try clear hb); (try clear hb2); (try clear hk); (try clear hi)))
      go_meet
      case rel => exact ⟨_, (t156), (t157), (by first | rfl | (simp; done) | (simp [*]; done)), (by first | rfl | (simp; done) | (simp [*]; done)), H', ⟨by have := HJ4.out; first | omega | exact Nat.le_refl _⟩, ⟨by repeat (first | (with_reducible first | exact HB.out | apply below_alloc | apply pw_below_drewN | apply below_drew1) | exact HB.out)⟩⟩
    case rest =>
     clear HC10
     try clear c1
     try clear p2
     try clear c4
     try clear c4b0
     try clear c4b1
     try clear c5
     try clear c6
     try clear c6b0
     try clear c6b1
     try clear c7
     try clear c7b0
     try clear c7b1
     try clear p8
     try clear q8
     try clear hx8
     try clear qi8
     try clear c11
     try clear p2
     try clear p8
     try clear q8
     obtain ⟨kq, x9_9, x10_9, rfl, rfl, HA, HJ9, HB⟩ := hcut
     cases kq with
     | zero => exact absurd HA.out (by simp [complineref17_Value.j1])
     | succ kj9 =>
      have H := HA.out
      clear HA
      simp only [complineref17_Value.j1] at H
      by_cases c15 : x10_9 = 0
      ·rw [if_pos c15] at H
       have c15b0 : (x10_9 == 0) = true := beq_iff_eq.mpr c15
       have c15b1 : (x10_9 != 0) = false := bne_eq_false_iff_eq.mpr c15
       clear c15
       by_cases c16 : x9_9 < t150
       ·rw [if_pos c16] at H
        have c16b0 : decide (x9_9 < t150) = true := decide_eq_true c16
        clear c16
        simp only [Option.some.injEq, Prod.mk.injEq] at H
        obtain ⟨rfl, rfl⟩ := H
        go_wp2
        go_ret2
        exact ⟨by first | rfl | (simp [errW_none, errW_some] <;> rfl) | (simp [*, errW_none, errW_some] <;> rfl), by repeat (first | (with_reducible first | exact HB.out | apply below_alloc | apply pw_below_drewN | apply below_drew1) | exact HB.out)⟩
       ·rw [if_neg c16] at H
        have c16b0 : decide (x9_9 < t150) = false := decide_eq_false c16
        clear c16
        by_cases c17 : x9_9 > t151
        ·rw [if_pos c17] at H
         have c17b0 : decide (t151 < x9_9) = true := decide_eq_true c17
         clear c17
         simp only [Option.some.injEq, Prod.mk.injEq] at H
         obtain ⟨rfl, rfl⟩ := H
         go_wp2
         go_ret2
         exact ⟨by first | rfl | (simp [errW_none, errW_some] <;> rfl) | (simp [*, errW_none, errW_some] <;> rfl), by repeat (first | (with_reducible first | exact HB.out | apply below_alloc | apply pw_below_drewN | apply below_drew1) | exact HB.out)⟩
        ·rw [if_neg c17] at H
         have c17b0 : decide (t151 < x9_9) = false := decide_eq_false c17
         clear c17
         simp only [Option.some.injEq, Prod.mk.injEq] at H
         obtain ⟨rfl, rfl⟩ := H
         go_wp2
         go_ret2
         exact ⟨by first | rfl | (simp [errW_none, errW_some] <;> rfl) | (simp [*, errW_none, errW_some] <;> rfl), by repeat (first | (with_reducible first | exact HB.out | apply below_alloc | apply pw_below_drewN | apply below_drew1) | exact HB.out)⟩
      ·rw [if_neg c15] at H
       have c15b0 : (x10_9 == 0) = false := beq_eq_false_iff_ne.mpr c15
       have c15b1 : (x10_9 != 0) = true := bne_iff_ne.mpr c15
       simp only [Option.some.injEq, Prod.mk.injEq] at H
       obtain ⟨rfl, rfl⟩ := H
       go_wp2
       go_ret2
       exact ⟨by first | rfl | (simp [errW_none, errW_some] <;> rfl) | (simp [*, errW_none, errW_some] <;> rfl), by repeat (first | (with_reducible first | exact HB.out | apply below_alloc | apply pw_below_drewN | apply below_drew1) | exact HB.out)⟩
 ·rw [if_neg c4] at H
  have c4b0 : (t152 == 0) = false := beq_eq_false_iff_ne.mpr c4
  have c4b1 : (t152 != 0) = true := bne_iff_ne.mpr c4
  simp only [Option.some.injEq, Prod.mk.injEq] at H
  obtain ⟨rfl, rfl⟩ := H
  go_enter Tryz.func56, Tryz.ntmps56
  go_wp2_with (first | ((with_reducible refine gate_callee (f := 55) rfl ?_); refine goesL_ (some 13) rfl rfl Tryz.func55 (by kernel_rfl) rfl #[.int .i64 a1] rfl (by (try simp only [List.map_toArray, List.map_cons, List.map_nil]); first | done | rfl | (simp only [List.length_drop, List.length_take]; rfl)) ?_; (with_reducible refine (complineref17_Limits.calls a1 t150 t151 t152 _ A3.out).mono ?_); rintro e w' ⟨rfl, ⟨nd, rfl⟩⟩; refine ⟨_, rfl, ?_⟩))
  go_ret2
  exact ⟨by first | rfl | (simp [errW_none, errW_some] <;> rfl) | (simp [*, errW_none, errW_some] <;> rfl), by repeat (first | (with_reducible first | exact HB.out | apply below_alloc | apply pw_below_drewN | apply below_drew1) | exact HB.out)⟩

end Go.Proofs.YtjddfpciblhpaaaGreatDoor.PSpp
