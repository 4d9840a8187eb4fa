/- The law DayMonths, over numbers: its printed function answers true at every input. No condition. -/
import Derived.Test.YtcjfjicagopppaaGreatDoorPDayx15
import Derived.Test.YtcjfjicagopppaaGreatDoorDayLib
namespace Go.Proofs.YtcjfjicagopppaaGreatDoor.PDay
open Go.RowKit Go.Proofs.YtcjfjicagopppaaGreatDoorW.PrintWords Go.Proofs.YtcjfjicagopppaaGreatDoorW.PrintLast Go.Proofs.YtcjfjicagopppaaGreatDoorW.PrintMore
set_option linter.unusedVariables false
set_option linter.unusedSimpArgs false
theorem DayMonths_p (b0 : Int) (s0 : Bool) (b1 : Int) (s1 : Bool) (b2 : Int) (s2 : Bool) (b3 : Int) (s3 : Bool) (b4 : Int) (s4 : Bool) (y m d : Int) (h0 : (Lit.int .u64 b0).wf = true) (h1 : (Lit.int .u64 b1).wf = true) (h2 : (Lit.int .u64 b2).wf = true) (h3 : (Lit.int .u64 b3).wf = true) (h4 : (Lit.int .u64 b4).wf = true)
    (_ : (Lit.int .i64 y).wf = true) (_ : (Lit.int .i64 m).wf = true) (_ : (Lit.int .i64 d).wf = true) : ∃ k, complinelaw21_DayMonths.f k b0 s0 b1 s1 b2 s2 b3 s3 b4 s4 y m d = some true := by
  refine ⟨1, ?_⟩
  obtain ⟨ob, A, -⟩ := odd_is b0 s0 b1 s1 b2 s2 b3 s3 b4 s4
  obtain ⟨N, hN, hlt, hne, hz⟩ := mask_bits ob b2 s2 b3 b4 s4 y m
  unfold complinelaw21_DayMonths.f
  rw [show complinelaw21_works.f = some true from rfl, mask_is (wf_in _ h0) (wf_in _ h1) (wf_in _ h2) (wf_in _ h3) (wf_in _ h4) A y m]
  simp only [Option.bind_some, if_true]
  have jt : complinelaw21_DayMonths.j0 1 y m d true (Dy.mask ob b2 s2 b3 b4 s4 y m).1 (Dy.mask ob b2 s2 b3 b4 s4 y m).2 true b0 s0 b1 s1 b2 s2 b3 s3 b4 s4 = some true := by
    rw [complinelaw21_DayMonths.j0, if_pos rfl, if_pos rfl]
    by_cases he : (Dy.mask ob b2 s2 b3 b4 s4 y m).2 = 0
    · rw [if_pos he]
    · rw [if_neg he, hN, hne he]; rfl
  by_cases he : (Dy.mask ob b2 s2 b3 b4 s4 y m).2 = 0
  rotate_left
  · rw [if_neg he]; exact jt
  rw [if_pos he]
  by_cases hd0 : d < 0
  · rw [if_pos hd0]; exact jt
  rw [if_neg hd0]
  by_cases hd1 : d > 31
  · rw [decide_eq_true hd1]; exact jt
  rw [decide_eq_false hd1, complinelaw21_DayMonths.j0, if_neg (by decide), hN]
  obtain ⟨-, -, hb⟩ := hz he
  obtain ⟨n, rfl⟩ : ∃ n : Nat, d = n := ⟨d.toNat, by omega⟩
  rw [u64n n (by omega), if_pos (by omega), bit32 N n hlt (by omega)]
  have q := hb n
  by_cases ht : N.testBit n = true
  · rw [if_pos ht, if_pos rfl, if_pos rfl]
    rw [ht] at q
    have q := q.symm
    simp only [Bool.and_eq_true, decide_eq_true_eq] at q
    obtain ⟨q1, ⟨q2, q3⟩, q4⟩ := q
    rw [if_pos (by omega), show civil_Length.f y m = some (Civ.len y m) from rfl]
    simp only [Option.bind_some]
    rw [if_pos q3, Dy.has_f b3 s3 m (wf_in _ h3), q1]
    rfl
  · rw [if_neg ht, if_neg (by decide), if_pos rfl]
    by_cases hn : (n : Int) = 0
    · rw [if_pos hn]
      obtain rfl : n = 0 := by omega
      have : N % 2 = 0 := by
        have := Nat.testBit_zero (x := N)
        rw [this] at ht
        simp at ht
        omega
      rw [Int.tmod_eq_emod_of_nonneg (by omega)]
      have : ((N : Int) % 2) = 0 := by omega
      rw [this]; rfl
    · rw [if_neg hn]
end Go.Proofs.YtcjfjicagopppaaGreatDoor.PDay
namespace Go.Proofs.YtcjfjicagopppaaGreatDoor.Pure
open Go.RowKit Go.Proofs.YtcjfjicagopppaaGreatDoorW.PrintWords Go.Proofs.YtcjfjicagopppaaGreatDoorW.PrintLast Go.Proofs.YtcjfjicagopppaaGreatDoorW.PrintMore Go.Proofs.YtcjfjicagopppaaGreatDoor.PDay
theorem DayMonths : ∀ (a0_0 : Int) (a0_1 : Bool) (a0_2 : Int) (a0_3 : Bool) (a0_4 : Int) (a0_5 : Bool) (a0_6 : Int) (a0_7 : Bool) (a0_8 : Int) (a0_9 : Bool) (a1 : Int) (a2 : Int) (a3 : Int), (Lit.int .u64 a0_0).wf = true → (Lit.int .u64 a0_2).wf = true → (Lit.int .u64 a0_4).wf = true → (Lit.int .u64 a0_6).wf = true → (Lit.int .u64 a0_8).wf = true → (Lit.int .i64 a1).wf = true → (Lit.int .i64 a2).wf = true → (Lit.int .i64 a3).wf = true → ∃ k, complinelaw21_DayMonths.f k a0_0 a0_1 a0_2 a0_3 a0_4 a0_5 a0_6 a0_7 a0_8 a0_9 a1 a2 a3 = some true := fun a0_0 a0_1 a0_2 a0_3 a0_4 a0_5 a0_6 a0_7 a0_8 a0_9 a1 a2 a3 h0_ h1_ h2_ h3_ h4_ h5_ h6_ h7_ => DayMonths_p a0_0 a0_1 a0_2 a0_3 a0_4 a0_5 a0_6 a0_7 a0_8 a0_9 a1 a2 a3 h0_ h1_ h2_ h3_ h4_ h5_ h6_ h7_
end Go.Proofs.YtcjfjicagopppaaGreatDoor.Pure
