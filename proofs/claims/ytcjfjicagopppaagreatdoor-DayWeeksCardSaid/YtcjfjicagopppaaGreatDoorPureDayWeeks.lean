/- The law DayWeeks, over numbers: its printed function answers true at every input. No condition. -/
import Derived.Test.YtcjfjicagopppaaGreatDoorPDayx16
import Derived.Test.YtcjfjicagopppaaGreatDoorDayLib
namespace Go.Proofs.YtcjfjicagopppaaGreatDoor.PDay
open Go.RowKit Go.Proofs.YtcjfjicagopppaaGreatDoorW.PrintWords Go.Proofs.YtcjfjicagopppaaGreatDoorW.PrintLast Go.Proofs.YtcjfjicagopppaaGreatDoorW.PrintMore
set_option linter.unusedVariables false
set_option linter.unusedSimpArgs false
theorem DayWeeks_p (b0 : Int) (s0 : Bool) (b1 : Int) (s1 : Bool) (b2 : Int) (s2 : Bool) (b3 : Int) (s3 : Bool) (b4 : Int) (s4 : Bool) (y m d : Int) (h0 : (Lit.int .u64 b0).wf = true) (h1 : (Lit.int .u64 b1).wf = true) (h2 : (Lit.int .u64 b2).wf = true) (h3 : (Lit.int .u64 b3).wf = true) (h4 : (Lit.int .u64 b4).wf = true)
    (_ : (Lit.int .i64 y).wf = true) (_ : (Lit.int .i64 m).wf = true) (_ : (Lit.int .i64 d).wf = true) : complinelaw21_DayWeeks.f b0 s0 b1 s1 b2 s2 b3 s3 b4 s4 y m d = some true := by
  obtain ⟨ob, A, hA⟩ := odd_is b0 s0 b1 s1 b2 s2 b3 s3 b4 s4
  obtain ⟨N, hN, hlt, hne, hz⟩ := mask_bits ob b2 s2 b3 b4 s4 y m
  unfold complinelaw21_DayWeeks.f
  rw [show complinelaw21_works.f = some true from rfl, mask_is (wf_in _ h0) (wf_in _ h1) (wf_in _ h2) (wf_in _ h3) (wf_in _ h4) A y m]
  simp only [Option.bind_some, if_true]
  by_cases he : (Dy.mask ob b2 s2 b3 b4 s4 y m).2 = 0
  rotate_left
  · rw [if_neg he]
  rw [if_pos he]
  cases s2 with
  | false => rw [if_neg (by decide)]
  | true =>
    rw [if_pos rfl]
    by_cases c1 : d < 1
    · rw [if_pos c1]
    rw [if_neg c1]
    by_cases c2 : d > 24
    · rw [if_pos c2]
    rw [if_neg c2, show civil_Length.f y m = some (Civ.len y m) from rfl]
    simp only [Option.bind_some]
    have hw : wrap64 (d + 7) = d + 7 := by unfold wrap64; omega
    rw [hw]
    by_cases c3 : d + 7 > Civ.len y m
    · rw [if_pos c3]
    rw [if_neg c3, hN]
    obtain ⟨hob, hcd, hb⟩ := hz he
    obtain ⟨-, -, hD, -, -⟩ := hA hob
    obtain rfl := star_all (lo := 1) (hi := 31) rfl rfl rfl (by decide) (by decide) hD
    have hbd := Civ.day_bd y m 1
    obtain ⟨n, rfl⟩ : ∃ n : Nat, d = n := ⟨d.toNat, by omega⟩
    have hcast : ((n : Int) + 7) = ((n + 7 : Nat) : Int) := by omega
    have hl := Civ.len_bd y m
    rw [hcast, u64n n (by omega), u64n (n + 7) (by omega), if_pos (by omega), if_pos (by omega), bit32 N n hlt (by omega), bit32 N (n + 7) hlt (by omega)]
    have e : N.testBit n = N.testBit (n + 7) := by
      rw [hb n, hb (n + 7)]
      congr 1
      rw [decide_eq_true (by omega : 1 ≤ n), decide_eq_true (by omega : 1 ≤ n + 7), decide_eq_true (by omega : (n : Int) ≤ Civ.len y m), decide_eq_true (by omega : ((n + 7 : Nat) : Int) ≤ Civ.len y m)]
      simp only [Bool.and_self, Bool.true_and]
      unfold Dy.dayP Dy.by_
      rw [if_neg (by simp), if_neg (by simp), has_ev 1 31 _ (by decide) (by omega) (by omega), has_ev 1 31 _ (by decide) (by omega) (by omega)]
      congr 2
      omega
    rw [e]
    simp
end Go.Proofs.YtcjfjicagopppaaGreatDoor.PDay
namespace Go.Proofs.YtcjfjicagopppaaGreatDoor.Pure
open Go.RowKit Go.Proofs.YtcjfjicagopppaaGreatDoorW.PrintWords Go.Proofs.YtcjfjicagopppaaGreatDoorW.PrintLast Go.Proofs.YtcjfjicagopppaaGreatDoorW.PrintMore Go.Proofs.YtcjfjicagopppaaGreatDoor.PDay
theorem DayWeeks : ∀ (a0_0 : Int) (a0_1 : Bool) (a0_2 : Int) (a0_3 : Bool) (a0_4 : Int) (a0_5 : Bool) (a0_6 : Int) (a0_7 : Bool) (a0_8 : Int) (a0_9 : Bool) (a1 : Int) (a2 : Int) (a3 : Int), (Lit.int .u64 a0_0).wf = true → (Lit.int .u64 a0_2).wf = true → (Lit.int .u64 a0_4).wf = true → (Lit.int .u64 a0_6).wf = true → (Lit.int .u64 a0_8).wf = true → (Lit.int .i64 a1).wf = true → (Lit.int .i64 a2).wf = true → (Lit.int .i64 a3).wf = true → complinelaw21_DayWeeks.f a0_0 a0_1 a0_2 a0_3 a0_4 a0_5 a0_6 a0_7 a0_8 a0_9 a1 a2 a3 = some true := fun a0_0 a0_1 a0_2 a0_3 a0_4 a0_5 a0_6 a0_7 a0_8 a0_9 a1 a2 a3 h0_ h1_ h2_ h3_ h4_ h5_ h6_ h7_ => DayWeeks_p a0_0 a0_1 a0_2 a0_3 a0_4 a0_5 a0_6 a0_7 a0_8 a0_9 a1 a2 a3 h0_ h1_ h2_ h3_ h4_ h5_ h6_ h7_
end Go.Proofs.YtcjfjicagopppaaGreatDoor.Pure
