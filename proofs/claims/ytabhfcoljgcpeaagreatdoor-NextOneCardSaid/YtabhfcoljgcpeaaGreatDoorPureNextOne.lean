/- The law NextOne, over numbers: its printed function answers true at every input. No condition. -/
import Derived.Test.YtabhfcoljgcpeaaGreatDoorPNexx19
import Derived.Test.YtabhfcoljgcpeaaGreatDoorNexLib
namespace Go.Proofs.YtabhfcoljgcpeaaGreatDoor.PNex
open Go.RowKit Go.Proofs.YtabhfcoljgcpeaaGreatDoorW.PrintWords Go.Proofs.YtabhfcoljgcpeaaGreatDoorW.PrintLast Go.Proofs.YtabhfcoljgcpeaaGreatDoorW.PrintMore
set_option linter.unusedVariables false
set_option linter.unusedSimpArgs false
theorem Nx.i64b (v : Int) (h : (Lit.int .i64 v).wf = true) : -9223372036854775808 ≤ v ∧ v ≤ 9223372036854775807 := i64_of v h
theorem Nx.mt (b0 b1 b2 : Int) (s2 : Bool) (b3 b4 : Int) (s4 : Bool) (t : Nat) (h : t < 541728000) : Dy.match_ false b0 b1 b2 s2 b3 b4 s4 (t : Int) = (Nx.at2 b0 b1 b2 s2 b3 b4 s4 t, 0) := by
  unfold Dy.match_
  rw [if_neg Bool.false_ne_true, if_neg (by omega), Nx.at_split]
theorem Nx.stars_f : spec_Stars.f = some (1152921504606846975, true, 16777215, true, 4294967294, true, 8190, true, 127, true) := by kernel_rfl
theorem Nx.stars_at (t : Nat) (ht : t < 541728000) : Nx.at2 1152921504606846975 16777215 4294967294 true 8190 127 true t = true := by
  obtain ⟨D, hD⟩ : ∃ D, t / 1440 = D := ⟨_, rfl⟩
  have hD2 : D ≤ 376199 := by omega
  obtain ⟨u, hu⟩ : ∃ u, t % 1440 = u := ⟨_, rfl⟩
  have hu1 : u / 60 < 24 := by omega
  have hu2 : u % 60 < 60 := by omega
  have h1 : ∀ k : Nat, k < 12 → Dy.has 8190 (1 + (k : Int)) = true := by decide
  have h2 : ∀ k : Nat, k < 32 → 1 ≤ k → Dy.has 4294967294 (k : Int) = true := by decide
  have h3 : ∀ k : Nat, k < 7 → Dy.has 127 (k : Int) = true := by decide
  have h4 : ∀ k : Nat, k < 24 → Nx.bit 16777215 k = true := by decide
  have h5 : ∀ k : Nat, k < 60 → Nx.bit 1152921504606846975 k = true := by decide
  show (Nx.dayB 4294967294 true 8190 127 true ((t / 1440 : Nat) : Int) && Nx.timB 1152921504606846975 16777215 (t % 1440)) = true
  rw [hD, hu]
  obtain ⟨ok, -⟩ := Civ.date_ok (d := (D : Int)) (by omega) (by omega)
  obtain ⟨q1, q2, q3, q4, q5, q6⟩ := ok
  have hb := Civ.len_bd (Civ.yr (D : Int)) (1 + (Civ.mi (D : Int) : Int))
  have hmi : Civ.mi (D : Int) < 12 := by clear q5 q6 hb; omega
  obtain ⟨n, hn⟩ : ∃ n : Nat, Civ.dy (D : Int) = n := ⟨(Civ.dy (D : Int)).toNat, by clear hb; omega⟩
  have hn1 : 1 ≤ n := by rw [hn] at q5; clear hb q6; omega
  have hn2 : n < 32 := by rw [hn] at q6; have := Int.le_trans q6 hb.2; clear hb q6 q5; omega
  have hw : ((D : Int) + 4) % 7 = (((D + 4) % 7 : Nat) : Int) := by clear hb q5 q6; omega
  unfold Nx.dayB Nx.timB Dy.by_
  rw [hn, hw, h1 _ hmi, if_neg (by simp), h2 n hn2 hn1, h3 _ (Nat.mod_lt _ (by decide)), h4 _ hu1, h5 _ hu2]
  rfl
theorem Nx.one_stars (t : Nat) (ht : t < 541728000) : next_Next.f 1152921504606846975 true 16777215 true 4294967294 true 8190 true 127 true ((t : Int) - 1) = some ((t : Int), 0) := by
  have A : day_odd.f 1152921504606846975 true 16777215 true 4294967294 true 8190 true 127 true = some false := by kernel_rfl
  rw [Nx.next_is ⟨by decide, by decide⟩ ⟨by decide, by decide⟩ ⟨by decide, by decide⟩ ⟨by decide, by decide⟩ ⟨by decide, by decide⟩ A]
  have hp := Nx.stars_at t ht
  generalize Nx.at2 1152921504606846975 16777215 4294967294 true 8190 127 true = p at hp
  have hs : (max ((t : Int) - 1) (-1) + 1).toNat = t := by omega
  obtain ⟨n, hn⟩ : ∃ n, 541728000 - t = n + 1 := ⟨541728000 - t - 1, by omega⟩
  unfold Nx.next
  rw [if_neg Bool.false_ne_true, if_neg (by omega), hs, hn, Nx.find, if_pos hp]
theorem NextOne_p (b0 : Int) (s0 : Bool) (b1 : Int) (s1 : Bool) (b2 : Int) (s2 : Bool) (b3 : Int) (s3 : Bool) (b4 : Int) (s4 : Bool) (m : Int) (h0 : (Lit.int .u64 b0).wf = true) (h1 : (Lit.int .u64 b1).wf = true) (h2 : (Lit.int .u64 b2).wf = true) (h3 : (Lit.int .u64 b3).wf = true) (h4 : (Lit.int .u64 b4).wf = true) (_ : (Lit.int .i64 m).wf = true) : ∃ k, complinelaw22_NextOne.f k b0 s0 b1 s1 b2 s2 b3 s3 b4 s4 m = some true := by
  obtain ⟨ob, A, -⟩ := odd_is b0 s0 b1 s1 b2 s2 b3 s3 b4 s4
  refine ⟨1, ?_⟩
  unfold complinelaw22_NextOne.f
  rw [show complinelaw22_works.f = some true from rfl, Option.bind_some, if_pos rfl]
  by_cases c0 : m < 0
  · rw [if_pos c0, complinelaw22_NextOne.j0, if_pos rfl]
  rw [if_neg c0]
  by_cases c1 : m > 541727999
  · rw [decide_eq_true c1, complinelaw22_NextOne.j0, if_pos rfl]
  obtain ⟨t, rfl⟩ : ∃ t : Nat, m = t := ⟨m.toNat, by omega⟩
  have ht : t < 541728000 := by omega
  have w1 : wrap64 ((t : Int) + 1) = (t : Int) + 1 := Civ.w64 (by omega) (by omega)
  have w2 : wrap64 ((t : Int) - 1) = (t : Int) - 1 := Civ.w64 (by omega) (by omega)
  have hs := Nx.one_stars t ht
  rw [decide_eq_false c1, complinelaw22_NextOne.j0, if_neg Bool.false_ne_true, match_is (wf_in _ h0) (wf_in _ h1) (wf_in _ h2) (wf_in _ h3) (wf_in _ h4) A, w1, w2, Nx.count_is2 (wf_in _ h0) (wf_in _ h1) (wf_in _ h2) (wf_in _ h3) (wf_in _ h4) A, Nx.stars_f, Option.bind_some, Option.bind_some, Option.bind_some]
  dsimp only
  rw [hs, Option.bind_some, if_pos rfl]
  cases ob with
  | true =>
    have e1 : Dy.match_ true b0 b1 b2 s2 b3 b4 s4 (t : Int) = (false, 2) := by unfold Dy.match_; rw [if_pos rfl]
    have e2 : Nx.count true (Nx.at2 b0 b1 b2 s2 b3 b4 s4) (t : Int) ((t : Int) + 1) = (0, 2) := by unfold Nx.count; rw [if_pos rfl]
    rw [e1, e2]
    simp
  | false =>
    rw [Nx.mt b0 b1 b2 s2 b3 b4 s4 t ht]
    generalize Nx.at2 b0 b1 b2 s2 b3 b4 s4 = p
    have e2 : Nx.count false p (t : Int) ((t : Int) + 1) = ((((p t).toNat : Nat) : Int), 0) := by
      rw [Nx.count_is p (t : Int) ((t : Int) + 1) (by omega) (by omega) (by omega), show ((t : Int) + 1 - t).toNat = 1 by omega, Int.toNat_natCast]
      rfl
    rw [e2]
    cases p t <;> simp
end Go.Proofs.YtabhfcoljgcpeaaGreatDoor.PNex
namespace Go.Proofs.YtabhfcoljgcpeaaGreatDoor.Pure
open Go.RowKit Go.Proofs.YtabhfcoljgcpeaaGreatDoorW.PrintWords Go.Proofs.YtabhfcoljgcpeaaGreatDoorW.PrintLast Go.Proofs.YtabhfcoljgcpeaaGreatDoorW.PrintMore Go.Proofs.YtabhfcoljgcpeaaGreatDoor.PNex
theorem NextOne : ∀ (a0_0 : Int) (a0_1 : Bool) (a0_2 : Int) (a0_3 : Bool) (a0_4 : Int) (a0_5 : Bool) (a0_6 : Int) (a0_7 : Bool) (a0_8 : Int) (a0_9 : Bool) (a1 : Int), (Lit.int .u64 a0_0).wf = true → (Lit.int .u64 a0_2).wf = true → (Lit.int .u64 a0_4).wf = true → (Lit.int .u64 a0_6).wf = true → (Lit.int .u64 a0_8).wf = true → (Lit.int .i64 a1).wf = true → ∃ k, complinelaw22_NextOne.f k a0_0 a0_1 a0_2 a0_3 a0_4 a0_5 a0_6 a0_7 a0_8 a0_9 a1 = some true := fun a0_0 a0_1 a0_2 a0_3 a0_4 a0_5 a0_6 a0_7 a0_8 a0_9 a1 h0_ h1_ h2_ h3_ h4_ h5_ => NextOne_p a0_0 a0_1 a0_2 a0_3 a0_4 a0_5 a0_6 a0_7 a0_8 a0_9 a1 h0_ h1_ h2_ h3_ h4_ h5_
end Go.Proofs.YtabhfcoljgcpeaaGreatDoor.Pure
