/- The law DayParts, over numbers: its printed function answers true at every input. No condition. -/
import Derived.Test.YtcjfjicagopppaaGreatDoorPDayx15
import Derived.Test.YtcjfjicagopppaaGreatDoorDayLib
namespace Go.Proofs.YtcjfjicagopppaaGreatDoor.PDay
open Go.RowKit Go.Proofs.YtcjfjicagopppaaGreatDoorW.PrintWords Go.Proofs.YtcjfjicagopppaaGreatDoorW.PrintLast Go.Proofs.YtcjfjicagopppaaGreatDoorW.PrintMore
set_option linter.unusedVariables false
set_option linter.unusedSimpArgs false
/-- The first day of a day's month. -/
theorem first_of {D : Int} (h0 : 0 ≤ D) (h1 : D ≤ 376199) : Civ.day (Civ.yr D) (1 + (Civ.mi D : Int)) 1 = (D - Civ.dy D + 1, 0) ∧ 1 ≤ Civ.dy D ∧ Civ.dy D ≤ Civ.len (Civ.yr D) (1 + (Civ.mi D : Int)) := by
  obtain ⟨hok, hn⟩ := Civ.date_ok h0 h1
  have hok1 : Civ.ok (Civ.yr D) (1 + (Civ.mi D : Int)) 1 := by
    unfold Civ.ok at hok ⊢
    have := Civ.len_ge (y := Civ.yr D) (m := 1 + (Civ.mi D : Int)) hok.2.2.1 hok.2.2.2.1
    omega
  rw [Civ.day_ok hok1]
  unfold Civ.ok at hok
  unfold Civ.num at hn ⊢
  refine ⟨?_, hok.2.2.2.2.1, hok.2.2.2.2.2⟩
  congr 1
  omega
theorem DayParts_p (b0 : Int) (s0 : Bool) (b1 : Int) (s1 : Bool) (b2 : Int) (s2 : Bool) (b3 : Int) (s3 : Bool) (b4 : Int) (s4 : Bool) (t : Int) (h0 : (Lit.int .u64 b0).wf = true) (h1 : (Lit.int .u64 b1).wf = true) (h2 : (Lit.int .u64 b2).wf = true) (h3 : (Lit.int .u64 b3).wf = true) (h4 : (Lit.int .u64 b4).wf = true)
    (_ : (Lit.int .i64 t).wf = true) : ∃ k, complinelaw21_DayParts.f k b0 s0 b1 s1 b2 s2 b3 s3 b4 s4 t = some true := by
  refine ⟨3, ?_⟩
  obtain ⟨ob, A, -⟩ := odd_is b0 s0 b1 s1 b2 s2 b3 s3 b4 s4
  unfold complinelaw21_DayParts.f
  rw [show complinelaw21_works.f = some true from rfl, match_is (wf_in _ h0) (wf_in _ h1) (wf_in _ h2) (wf_in _ h3) (wf_in _ h4) A t, Civ.of_f t 3 (by decide)]
  simp only [Option.bind_some, if_true]
  cases ob with
  | true =>
    rw [show Dy.match_ true b0 b1 b2 s2 b3 b4 s4 t = (false, 2) from rfl, if_neg (by decide), complinelaw21_DayParts.j0, if_pos rfl, if_pos rfl, if_neg (by decide)]
    rfl
  | false =>
    by_cases hr : t < 0 ∨ 541727999 < t
    · have e : Dy.match_ false b0 b1 b2 s2 b3 b4 s4 t = (false, 1) := by unfold Dy.match_; rw [if_neg (by decide), if_pos hr]
      rw [e, if_neg (by decide), complinelaw21_DayParts.j0, if_pos rfl, if_pos rfl, if_neg (by decide)]
      rfl
    · have e : Dy.match_ false b0 b1 b2 s2 b3 b4 s4 t = (Dy.at_ b0 b1 b2 s2 b3 b4 s4 t, 0) := by unfold Dy.match_; rw [if_neg (by decide), if_neg hr]
      have eo : Civ.of t = (Civ.yr (t / 1440), 1 + (Civ.mi (t / 1440) : Int), Civ.dy (t / 1440), t / 60 % 24, t % 60, (t / 1440 + 4) % 7, 0) := by unfold Civ.of; rw [if_neg hr]
      have hD0 : 0 ≤ t / 1440 := by omega
      have hD1 : t / 1440 ≤ 376199 := by omega
      obtain ⟨hf, hd1, hd2⟩ := first_of hD0 hD1
      rw [e, if_pos rfl, eo, show ((0 : Int) != 0) = false from rfl]
      dsimp only
      rw [complinelaw21_DayParts.j0, if_neg (by decide), mask_is (wf_in _ h0) (wf_in _ h1) (wf_in _ h2) (wf_in _ h3) (wf_in _ h4) A]
      simp only [Option.bind_some]
      obtain ⟨N, hN, hlt, -, hz⟩ := mask_bits false b2 s2 b3 b4 s4 (Civ.yr (t / 1440)) (1 + (Civ.mi (t / 1440) : Int))
      have hm0 : (Dy.mask false b2 s2 b3 b4 s4 (Civ.yr (t / 1440)) (1 + (Civ.mi (t / 1440) : Int))).2 = 0 := by
        unfold Dy.mask
        rw [if_neg (by decide), hf, if_neg (by simp)]
        split <;> rfl
      obtain ⟨-, -, hb⟩ := hz hm0
      rw [if_pos trivial, if_pos hm0, hN]
      have hl := Civ.len_bd (Civ.yr (t / 1440)) (1 + (Civ.mi (t / 1440) : Int))
      obtain ⟨n, hn⟩ : ∃ n : Nat, Civ.dy (t / 1440) = n := ⟨(Civ.dy (t / 1440)).toNat, by omega⟩
      rw [hn] at hd1 hd2 hf ⊢
      rw [u64n n (by omega), if_pos (by omega), bit32 N n hlt (by omega)]
      have q := hb n
      rw [decide_eq_true (by omega : 1 ≤ n), decide_eq_true (by omega : (n : Int) ≤ Civ.len (Civ.yr (t / 1440)) (1 + (Civ.mi (t / 1440) : Int)))] at q
      have hP : Dy.dayP b2 s2 b4 s4 (Civ.day (Civ.yr (t / 1440)) (1 + (Civ.mi (t / 1440) : Int)) 1).1 (n - 1) = Dy.by_ b2 s2 b4 s4 (Civ.dy (t / 1440)) ((t / 1440 + 4) % 7) := by
        unfold Dy.dayP
        rw [hf, hn]
        dsimp only
        have e1 : (((n - 1 : Nat) : Int) + 1) = n := by omega
        have e2 : ((t / 1440 - (n : Int) + 1 + 4) % 7 + ((n - 1 : Nat) : Int)) % 7 = (t / 1440 + 4) % 7 := by omega
        rw [e1, e2]
      rw [hP] at q
      simp only [Bool.and_self, Bool.true_and] at q
      have hat : Dy.at_ b0 b1 b2 s2 b3 b4 s4 t = (N.testBit n && Dy.has b1 (t / 60 % 24) && Dy.has b0 (t % 60)) := by
        unfold Dy.at_
        rw [q]
      rw [hat, Dy.has_f b1 s1 _ (wf_in _ h1), Dy.has_f b0 s0 _ (wf_in _ h0)]
      simp only [Option.bind_some]
      cases N.testBit n <;> cases Dy.has b1 (t / 60 % 24) <;> cases Dy.has b0 (t % 60) <;> simp
end Go.Proofs.YtcjfjicagopppaaGreatDoor.PDay
namespace Go.Proofs.YtcjfjicagopppaaGreatDoor.Pure
open Go.RowKit Go.Proofs.YtcjfjicagopppaaGreatDoorW.PrintWords Go.Proofs.YtcjfjicagopppaaGreatDoorW.PrintLast Go.Proofs.YtcjfjicagopppaaGreatDoorW.PrintMore Go.Proofs.YtcjfjicagopppaaGreatDoor.PDay
theorem DayParts : ∀ (a0_0 : Int) (a0_1 : Bool) (a0_2 : Int) (a0_3 : Bool) (a0_4 : Int) (a0_5 : Bool) (a0_6 : Int) (a0_7 : Bool) (a0_8 : Int) (a0_9 : Bool) (a1 : Int), (Lit.int .u64 a0_0).wf = true → (Lit.int .u64 a0_2).wf = true → (Lit.int .u64 a0_4).wf = true → (Lit.int .u64 a0_6).wf = true → (Lit.int .u64 a0_8).wf = true → (Lit.int .i64 a1).wf = true → ∃ k, complinelaw21_DayParts.f k a0_0 a0_1 a0_2 a0_3 a0_4 a0_5 a0_6 a0_7 a0_8 a0_9 a1 = some true := fun a0_0 a0_1 a0_2 a0_3 a0_4 a0_5 a0_6 a0_7 a0_8 a0_9 a1 h0_ h1_ h2_ h3_ h4_ h5_ => DayParts_p a0_0 a0_1 a0_2 a0_3 a0_4 a0_5 a0_6 a0_7 a0_8 a0_9 a1 h0_ h1_ h2_ h3_ h4_ h5_
end Go.Proofs.YtcjfjicagopppaaGreatDoor.Pure
