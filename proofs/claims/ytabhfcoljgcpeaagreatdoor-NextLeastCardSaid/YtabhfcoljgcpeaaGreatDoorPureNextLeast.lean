/- The law NextLeast, over numbers: its printed function answers true at every input. No condition. -/
import Derived.Test.YtabhfcoljgcpeaaGreatDoorPNexx17
import Derived.Test.YtabhfcoljgcpeaaGreatDoorNexLib
namespace Go.Proofs.YtabhfcoljgcpeaaGreatDoor.PNex
open Go.RowKit Go.Proofs.YtabhfcoljgcpeaaGreatDoorW.PrintWords Go.Proofs.YtabhfcoljgcpeaaGreatDoorW.PrintLast Go.Proofs.YtabhfcoljgcpeaaGreatDoorW.PrintMore
set_option linter.unusedVariables false
set_option linter.unusedSimpArgs false
theorem Nx.i64b (v : Int) (h : (Lit.int .i64 v).wf = true) : -9223372036854775808 ≤ v ∧ v ≤ 9223372036854775807 := i64_of v h
theorem Nx.mt (b0 b1 b2 : Int) (s2 : Bool) (b3 b4 : Int) (s4 : Bool) (t : Nat) (h : t < 541728000) : Dy.match_ false b0 b1 b2 s2 b3 b4 s4 (t : Int) = (Nx.at2 b0 b1 b2 s2 b3 b4 s4 t, 0) := by
  unfold Dy.match_
  rw [if_neg Bool.false_ne_true, if_neg (by omega), Nx.at_split]
theorem NextLeast_j2 (b0 : Int) (s0 : Bool) (b1 : Int) (s1 : Bool) (b2 : Int) (s2 : Bool) (b3 : Int) (s3 : Bool) (b4 : Int) (s4 : Bool) (h0 : (Lit.int .u64 b0).wf = true) (h1 : (Lit.int .u64 b1).wf = true) (h2 : (Lit.int .u64 b2).wf = true) (h3 : (Lit.int .u64 b3).wf = true) (h4 : (Lit.int .u64 b4).wf = true) (A : day_odd.f b0 s0 b1 s1 b2 s2 b3 s3 b4 s4 = some false) (m : Nat) (x e : Int) (he : e ≤ 541728000) (hnone : ∀ t : Nat, m < t → (t : Int) < e → Nx.at2 b0 b1 b2 s2 b3 b4 s4 t = false) (k : Nat) :
    complinelaw22_NextLeast.j2 (k + 1) (m : Int) x true e false b0 s0 b1 s1 b2 s2 b3 s3 b4 s4 = some true := by
  rw [complinelaw22_NextLeast.j2, if_neg Bool.false_ne_true]
  by_cases c1 : x ≤ (m : Int)
  · rw [if_pos c1]
  rw [if_neg c1]
  by_cases c2 : x ≥ e
  · rw [if_pos c2]
  rw [if_neg c2]
  obtain ⟨t, rfl⟩ : ∃ t : Nat, x = t := ⟨x.toNat, by omega⟩
  rw [match_is (wf_in _ h0) (wf_in _ h1) (wf_in _ h2) (wf_in _ h3) (wf_in _ h4) A, Nx.mt b0 b1 b2 s2 b3 b4 s4 t (by omega), Option.bind_some, if_pos rfl, hnone t (by omega) (by omega), if_neg Bool.false_ne_true]
  rfl
theorem NextLeast_p (b0 : Int) (s0 : Bool) (b1 : Int) (s1 : Bool) (b2 : Int) (s2 : Bool) (b3 : Int) (s3 : Bool) (b4 : Int) (s4 : Bool) (m x : Int) (h0 : (Lit.int .u64 b0).wf = true) (h1 : (Lit.int .u64 b1).wf = true) (h2 : (Lit.int .u64 b2).wf = true) (h3 : (Lit.int .u64 b3).wf = true) (h4 : (Lit.int .u64 b4).wf = true) (_ : (Lit.int .i64 m).wf = true) (_ : (Lit.int .i64 x).wf = true) : ∃ k, complinelaw22_NextLeast.f k b0 s0 b1 s1 b2 s2 b3 s3 b4 s4 m x = some true := by
  obtain ⟨ob, A, -⟩ := odd_is b0 s0 b1 s1 b2 s2 b3 s3 b4 s4
  refine ⟨9 + 1, ?_⟩
  unfold complinelaw22_NextLeast.f
  rw [show complinelaw22_works.f = some true from rfl, Option.bind_some, if_pos rfl]
  by_cases c0 : m < 0
  · rw [if_pos c0, complinelaw22_NextLeast.j0, if_pos rfl]
  rw [if_neg c0]
  by_cases c1 : m > 541727999
  · rw [decide_eq_true c1, complinelaw22_NextLeast.j0, if_pos rfl]
  rw [decide_eq_false c1, complinelaw22_NextLeast.j0, if_neg Bool.false_ne_true, Nx.next_is (wf_in _ h0) (wf_in _ h1) (wf_in _ h2) (wf_in _ h3) (wf_in _ h4) A m, Option.bind_some]
  cases ob with
  | true =>
    have : Nx.next true (Nx.at2 b0 b1 b2 s2 b3 b4 s4) m = (0, 2) := by unfold Nx.next; rw [if_pos rfl]
    rw [this, if_pos rfl, if_pos rfl]
    rfl
  | false =>
    obtain ⟨t, rfl⟩ : ∃ t : Nat, m = t := ⟨m.toNat, by omega⟩
    have hw : wrap64 ((t : Int) + 1) = (t : Int) + 1 := Civ.w64 (by omega) (by omega)
    rcases Nx.next_cases (Nx.at2 b0 b1 b2 s2 b3 b4 s4) (t : Int) (by omega) with ⟨r, e, q1, q2, q3, q4⟩ | ⟨e, q4⟩
    · rw [e]
      have hc : next_Count.f b0 s0 b1 s1 b2 s2 b3 s3 b4 s4 ((t : Int) + 1) (r : Int) = some (0, 0) := by
        rw [Nx.count_is2 (wf_in _ h0) (wf_in _ h1) (wf_in _ h2) (wf_in _ h3) (wf_in _ h4) A, Nx.count_none _ _ _ (by omega) (by omega) (by omega) (fun z z1 z2 => q4 z (by omega) (by omega))]
      dsimp only
      rw [if_neg (show ¬ (0 : Int) = 2 by decide), if_pos rfl, match_is (wf_in _ h0) (wf_in _ h1) (wf_in _ h2) (wf_in _ h3) (wf_in _ h4) A, Nx.mt b0 b1 b2 s2 b3 b4 s4 r q2, Option.bind_some, if_neg (by omega), q3, if_pos rfl, if_pos rfl, complinelaw22_NextLeast.j1]
      rw [hw, hc, Option.bind_some, if_pos rfl, if_pos rfl, if_pos rfl]
      exact NextLeast_j2 b0 s0 b1 s1 b2 s2 b3 s3 b4 s4 h0 h1 h2 h3 h4 A t x r (by omega) (fun z z1 z2 => q4 z (by omega) (by omega)) 7
    · rw [e]
      have hc : next_Count.f b0 s0 b1 s1 b2 s2 b3 s3 b4 s4 ((t : Int) + 1) 541728000 = some (0, 0) := by
        rw [Nx.count_is2 (wf_in _ h0) (wf_in _ h1) (wf_in _ h2) (wf_in _ h3) (wf_in _ h4) A, Nx.count_none _ _ _ (by omega) (by omega) (by omega) (fun z z1 z2 => q4 z (by omega) (by omega))]
      dsimp only
      rw [if_neg (show ¬ (11 : Int) = 2 by decide), if_neg (show ¬ (11 : Int) = 0 by decide), complinelaw22_NextLeast.j1]
      rw [hw, hc, Option.bind_some, if_pos rfl, if_pos rfl, if_neg (show ¬ (11 : Int) = 0 by decide), if_pos rfl]
      exact NextLeast_j2 b0 s0 b1 s1 b2 s2 b3 s3 b4 s4 h0 h1 h2 h3 h4 A t x 541728000 (by omega) (fun z z1 z2 => q4 z (by omega) (by omega)) 7
end Go.Proofs.YtabhfcoljgcpeaaGreatDoor.PNex
namespace Go.Proofs.YtabhfcoljgcpeaaGreatDoor.Pure
open Go.RowKit Go.Proofs.YtabhfcoljgcpeaaGreatDoorW.PrintWords Go.Proofs.YtabhfcoljgcpeaaGreatDoorW.PrintLast Go.Proofs.YtabhfcoljgcpeaaGreatDoorW.PrintMore Go.Proofs.YtabhfcoljgcpeaaGreatDoor.PNex
theorem NextLeast : ∀ (a0_0 : Int) (a0_1 : Bool) (a0_2 : Int) (a0_3 : Bool) (a0_4 : Int) (a0_5 : Bool) (a0_6 : Int) (a0_7 : Bool) (a0_8 : Int) (a0_9 : Bool) (a1 : Int) (a2 : Int), (Lit.int .u64 a0_0).wf = true → (Lit.int .u64 a0_2).wf = true → (Lit.int .u64 a0_4).wf = true → (Lit.int .u64 a0_6).wf = true → (Lit.int .u64 a0_8).wf = true → (Lit.int .i64 a1).wf = true → (Lit.int .i64 a2).wf = true → ∃ k, complinelaw22_NextLeast.f k a0_0 a0_1 a0_2 a0_3 a0_4 a0_5 a0_6 a0_7 a0_8 a0_9 a1 a2 = some true := fun a0_0 a0_1 a0_2 a0_3 a0_4 a0_5 a0_6 a0_7 a0_8 a0_9 a1 a2 h0_ h1_ h2_ h3_ h4_ h5_ h6_ => NextLeast_p a0_0 a0_1 a0_2 a0_3 a0_4 a0_5 a0_6 a0_7 a0_8 a0_9 a1 a2 h0_ h1_ h2_ h3_ h4_ h5_ h6_
end Go.Proofs.YtabhfcoljgcpeaaGreatDoor.Pure
