/- The law DayEither, over numbers: its printed function answers true at every input. No condition. -/
import Derived.Test.YtcjfjicagopppaaGreatDoorPDayx17
import Derived.Test.YtcjfjicagopppaaGreatDoorDayLib
namespace Go.Proofs.YtcjfjicagopppaaGreatDoor.PDay
open Go.RowKit Go.Proofs.YtcjfjicagopppaaGreatDoorW.PrintWords Go.Proofs.YtcjfjicagopppaaGreatDoorW.PrintLast Go.Proofs.YtcjfjicagopppaaGreatDoorW.PrintMore
set_option linter.unusedVariables false
set_option linter.unusedSimpArgs false
theorem DayEither_p (b0 : Int) (s0 : Bool) (b1 : Int) (s1 : Bool) (b2 : Int) (s2 : Bool) (b3 : Int) (s3 : Bool) (b4 : Int) (s4 : Bool) (y m : Int) (h0 : (Lit.int .u64 b0).wf = true) (h1 : (Lit.int .u64 b1).wf = true) (h2 : (Lit.int .u64 b2).wf = true) (h3 : (Lit.int .u64 b3).wf = true) (h4 : (Lit.int .u64 b4).wf = true)
    (_ : (Lit.int .i64 y).wf = true) (_ : (Lit.int .i64 m).wf = true) : ∃ k, complinelaw21_DayEither.f k b0 s0 b1 s1 b2 s2 b3 s3 b4 s4 y m = some true := by
  refine ⟨3, ?_⟩
  obtain ⟨ob, A, hA⟩ := odd_is b0 s0 b1 s1 b2 s2 b3 s3 b4 s4
  have g0 := wf_in _ h0; have g1 := wf_in _ h1; have g2 := wf_in _ h2; have g3 := wf_in _ h3; have g4 := wf_in _ h4
  unfold complinelaw21_DayEither.f
  rw [show complinelaw21_works.f = some true from rfl, show spec_Stars.f = some (1152921504606846975, true, 16777215, true, 4294967294, true, 8190, true, 127, true) from rfl]
  simp only [Option.bind_some, if_true]
  rw [show spec_With.f b0 s0 b1 s1 b2 s2 b3 s3 b4 s4 2 4294967294 true = some (b0, s0, b1, s1, 4294967294, true, b3, s3, b4, s4, 0) from rfl, show spec_With.f b0 s0 b1 s1 b2 s2 b3 s3 b4 s4 4 127 true = some (b0, s0, b1, s1, b2, s2, b3, s3, 127, true, 0) from rfl, mask_is g0 g1 g2 g3 g4 A y m]
  simp only [Option.bind_some, if_true]
  obtain ⟨N, hN, hlt, hne, hz⟩ := mask_bits ob b2 s2 b3 b4 s4 y m
  rw [show ((0 : Int) != 0) = false from rfl, complinelaw21_DayEither.j0, if_neg (by decide)]
  by_cases he : (Dy.mask ob b2 s2 b3 b4 s4 y m).2 = 0
  rotate_left
  · rw [if_neg he, hN, hne he]; rfl
  obtain ⟨rfl, hcd, hb⟩ := hz he
  obtain ⟨k0, k1, k2, k3, k4⟩ := hA rfl
  have A1 : day_odd.f b0 s0 b1 s1 4294967294 true b3 s3 b4 s4 = some false := odd_false _ _ _ _ _ _ _ _ _ _ k0 k1 (by decide +kernel) k3 k4
  have A2 : day_odd.f b0 s0 b1 s1 b2 s2 b3 s3 127 true = some false := odd_false _ _ _ _ _ _ _ _ _ _ k0 k1 k2 k3 (by decide +kernel)
  rw [if_pos he, mask_is g0 g1 (by unfold InU; decide) g3 g4 A1 y m, mask_is g0 g1 g2 g3 (by unfold InU; decide) A2 y m]
  simp only [Option.bind_some]
  obtain ⟨N1, hN1, hlt1, -, hz1⟩ := mask_bits false 4294967294 true b3 b4 s4 y m
  obtain ⟨N2, hN2, hlt2, -, hz2⟩ := mask_bits false b2 s2 b3 127 true y m
  have z : ∀ (c2 : Int) (t2 : Bool) (c4 : Int) (t4 : Bool), (Dy.mask false c2 t2 b3 c4 t4 y m).2 = 0 := by
    intro c2 t2 c4 t4
    unfold Dy.mask
    rw [if_neg (by decide), if_neg (by simp [hcd])]
    split <;> rfl
  obtain ⟨-, -, hb1⟩ := hz1 (z _ _ _ _)
  obtain ⟨-, -, hb2⟩ := hz2 (z _ _ _ _)
  rw [if_pos (z _ _ _ _), z, show ((0 : Int) != 0) = false from rfl, hN, hN1, hN2]
  have hbd := Civ.day_bd y m 1
  have hl := Civ.len_bd y m
  have P1 : ∀ d : Nat, 1 ≤ d → (d : Int) ≤ Civ.len y m → Dy.dayP 4294967294 true b4 s4 (Civ.day y m 1).1 (d - 1) = Dy.has b4 ((((Civ.day y m 1).1 + 4) % 7 + ((d - 1 : Nat) : Int)) % 7) := by
    intro d q1 q2
    unfold Dy.dayP Dy.by_
    rw [if_neg (by simp), show (4294967294 : Int) = evB 1 31 from by decide, has_ev 1 31 _ (by decide) (by omega) (by omega)]
    rfl
  have P2 : ∀ d : Nat, 1 ≤ d → (d : Int) ≤ Civ.len y m → Dy.dayP b2 s2 127 true (Civ.day y m 1).1 (d - 1) = Dy.has b2 (((d - 1 : Nat) : Int) + 1) := by
    intro d q1 q2
    unfold Dy.dayP Dy.by_
    rw [if_neg (by simp), show (127 : Int) = evB 0 6 from by decide, has_ev 0 6 _ (by decide) (by omega) (by omega)]
    simp
  have and_ : ¬ (s2 = false ∧ s4 = false) → (N : Int) = Go.bits .and .u32 (N1 : Int) (N2 : Int) := by
    intro hs
    rw [(Dy.bits_u32 N1 N2 hlt1 hlt2).1]
    congr 1
    apply Nat.eq_of_testBit_eq
    intro d
    rw [Nat.testBit_and, hb, hb1, hb2]
    by_cases q1 : 1 ≤ d
    · by_cases q2 : (d : Int) ≤ Civ.len y m
      · rw [P1 d q1 q2, P2 d q1 q2]
        unfold Dy.dayP Dy.by_
        rw [if_neg hs, decide_eq_true q1, decide_eq_true q2]
        cases Dy.has b3 m <;> simp [Bool.and_comm]
      · rw [decide_eq_false q2]; simp
    · rw [decide_eq_false q1]; simp
  have or_ : (s2 = false ∧ s4 = false) → (N : Int) = Go.bits .or .u32 (N1 : Int) (N2 : Int) := by
    intro hs
    rw [(Dy.bits_u32 N1 N2 hlt1 hlt2).2]
    congr 1
    apply Nat.eq_of_testBit_eq
    intro d
    rw [Nat.testBit_or, hb, hb1, hb2]
    by_cases q1 : 1 ≤ d
    · by_cases q2 : (d : Int) ≤ Civ.len y m
      · rw [P1 d q1 q2, P2 d q1 q2]
        unfold Dy.dayP Dy.by_
        rw [if_pos hs, decide_eq_true q1, decide_eq_true q2]
        cases Dy.has b3 m <;> simp [Bool.or_comm]
      · rw [decide_eq_false q2]; simp
    · rw [decide_eq_false q1]; simp
  rw [complinelaw21_DayEither.j1, if_neg (by decide)]
  cases s2 with
  | true => rw [if_pos rfl, if_pos rfl, ← and_ (by simp)]; simp
  | false =>
    rw [if_neg (by decide)]
    cases s4 with
    | true => rw [if_pos rfl, if_pos rfl, ← and_ (by simp)]; simp
    | false => rw [if_neg (by decide), if_pos rfl, ← or_ ⟨rfl, rfl⟩]; simp
end Go.Proofs.YtcjfjicagopppaaGreatDoor.PDay
namespace Go.Proofs.YtcjfjicagopppaaGreatDoor.Pure
open Go.RowKit Go.Proofs.YtcjfjicagopppaaGreatDoorW.PrintWords Go.Proofs.YtcjfjicagopppaaGreatDoorW.PrintLast Go.Proofs.YtcjfjicagopppaaGreatDoorW.PrintMore Go.Proofs.YtcjfjicagopppaaGreatDoor.PDay
theorem DayEither : ∀ (a0_0 : Int) (a0_1 : Bool) (a0_2 : Int) (a0_3 : Bool) (a0_4 : Int) (a0_5 : Bool) (a0_6 : Int) (a0_7 : Bool) (a0_8 : Int) (a0_9 : Bool) (a1 : Int) (a2 : Int), (Lit.int .u64 a0_0).wf = true → (Lit.int .u64 a0_2).wf = true → (Lit.int .u64 a0_4).wf = true → (Lit.int .u64 a0_6).wf = true → (Lit.int .u64 a0_8).wf = true → (Lit.int .i64 a1).wf = true → (Lit.int .i64 a2).wf = true → ∃ k, complinelaw21_DayEither.f k a0_0 a0_1 a0_2 a0_3 a0_4 a0_5 a0_6 a0_7 a0_8 a0_9 a1 a2 = some true := fun a0_0 a0_1 a0_2 a0_3 a0_4 a0_5 a0_6 a0_7 a0_8 a0_9 a1 a2 h0_ h1_ h2_ h3_ h4_ h5_ h6_ => DayEither_p a0_0 a0_1 a0_2 a0_3 a0_4 a0_5 a0_6 a0_7 a0_8 a0_9 a1 a2 h0_ h1_ h2_ h3_ h4_ h5_ h6_
end Go.Proofs.YtcjfjicagopppaaGreatDoor.Pure
