/- The law NextTurns, over numbers: its printed function answers true at every input. No condition. -/
import Derived.Test.YtabhfcoljgcpeaaGreatDoorPNexx18
import Derived.Test.YtabhfcoljgcpeaaGreatDoorNexLib
namespace Go.Proofs.YtabhfcoljgcpeaaGreatDoor.PNex
open Go.RowKit Go.Proofs.YtabhfcoljgcpeaaGreatDoorW.PrintWords Go.Proofs.YtabhfcoljgcpeaaGreatDoorW.PrintLast Go.Proofs.YtabhfcoljgcpeaaGreatDoorW.PrintMore
set_option linter.unusedVariables false
set_option linter.unusedSimpArgs false
theorem Nx.i64b (v : Int) (h : (Lit.int .i64 v).wf = true) : -9223372036854775808 ≤ v ∧ v ≤ 9223372036854775807 := i64_of v h
theorem Nx.mt (b0 b1 b2 : Int) (s2 : Bool) (b3 b4 : Int) (s4 : Bool) (t : Nat) (h : t < 541728000) : Dy.match_ false b0 b1 b2 s2 b3 b4 s4 (t : Int) = (Nx.at2 b0 b1 b2 s2 b3 b4 s4 t, 0) := by
  unfold Dy.match_
  rw [if_neg Bool.false_ne_true, if_neg (by omega), Nx.at_split]
theorem NextTurns_p (b0 : Int) (s0 : Bool) (b1 : Int) (s1 : Bool) (b2 : Int) (s2 : Bool) (b3 : Int) (s3 : Bool) (b4 : Int) (s4 : Bool) (m : Int) (h0 : (Lit.int .u64 b0).wf = true) (h1 : (Lit.int .u64 b1).wf = true) (h2 : (Lit.int .u64 b2).wf = true) (h3 : (Lit.int .u64 b3).wf = true) (h4 : (Lit.int .u64 b4).wf = true) (_ : (Lit.int .i64 m).wf = true) : ∃ k, complinelaw22_NextTurns.f k b0 s0 b1 s1 b2 s2 b3 s3 b4 s4 m = some true := by
  obtain ⟨ob, A, -⟩ := odd_is b0 s0 b1 s1 b2 s2 b3 s3 b4 s4
  refine ⟨9 + 1, ?_⟩
  unfold complinelaw22_NextTurns.f
  rw [show complinelaw22_works.f = some true from rfl, Option.bind_some, if_pos rfl]
  by_cases c0 : m < 0
  · rw [if_pos c0, complinelaw22_NextTurns.j0, if_pos rfl]
  rw [if_neg c0]
  by_cases c1 : m > 541727999
  · rw [decide_eq_true c1, complinelaw22_NextTurns.j0, if_pos rfl]
  rw [decide_eq_false c1, complinelaw22_NextTurns.j0, if_neg Bool.false_ne_true]
  obtain ⟨t, rfl⟩ : ∃ t : Nat, m = t := ⟨m.toNat, by omega⟩
  cases ob with
  | true =>
    have : Dy.match_ true b0 b1 b2 s2 b3 b4 s4 (t : Int) = (false, 2) := by unfold Dy.match_; rw [if_pos rfl]
    rw [match_is (wf_in _ h0) (wf_in _ h1) (wf_in _ h2) (wf_in _ h3) (wf_in _ h4) A, this, Option.bind_some, if_neg (by decide)]
  | false =>
    have ht : t < 541728000 := by omega
    rw [match_is (wf_in _ h0) (wf_in _ h1) (wf_in _ h2) (wf_in _ h3) (wf_in _ h4) A, Nx.mt b0 b1 b2 s2 b3 b4 s4 t ht, Option.bind_some, if_pos rfl, Nx.next_is (wf_in _ h0) (wf_in _ h1) (wf_in _ h2) (wf_in _ h3) (wf_in _ h4) A, Nx.prev_is (wf_in _ h0) (wf_in _ h1) (wf_in _ h2) (wf_in _ h3) (wf_in _ h4) A, Option.bind_some, Option.bind_some]
    have hN := Nx.next_cases (Nx.at2 b0 b1 b2 s2 b3 b4 s4) (t : Int) (by omega)
    have hP := Nx.prev_cases (Nx.at2 b0 b1 b2 s2 b3 b4 s4) (t : Int) (by omega)
    have nN := fun z => Nx.next_is (s0 := s0) (s1 := s1) (s3 := s3) (wf_in _ h0) (wf_in _ h1) (wf_in _ h2) (wf_in _ h3) (wf_in _ h4) A z
    have nP := fun z => Nx.prev_is (s0 := s0) (s1 := s1) (s3 := s3) (wf_in _ h0) (wf_in _ h1) (wf_in _ h2) (wf_in _ h3) (wf_in _ h4) A z
    have tu := fun r => Nx.turn_up (Nx.at2 b0 b1 b2 s2 b3 b4 s4) t r
    have td := fun r => Nx.turn_dn (Nx.at2 b0 b1 b2 s2 b3 b4 s4) t r
    generalize Nx.at2 b0 b1 b2 s2 b3 b4 s4 = p at hN hP nN nP tu td ⊢
    rcases hN with ⟨r, e, q1, q2, q3, q4⟩ | ⟨e, q4⟩
    · obtain ⟨u1, u2⟩ := tu r e ht
      rcases hP with ⟨s, e', w1, w2, w3⟩ | ⟨e', w3⟩
      · obtain ⟨d1, d2⟩ := td s e' ht
        cases hp : p t with
        | true => simp [complinelaw22_NextTurns.j1, e, e', nN, nP, u1 hp, d1 hp, q1, w1]
        | false => simp [complinelaw22_NextTurns.j1, e, e', nN, nP, u2 hp, d2 hp, q1, w1]
      · cases hp : p t with
        | true => simp [complinelaw22_NextTurns.j1, e, e', nN, nP, u1 hp, q1]
        | false => simp [complinelaw22_NextTurns.j1, e, e', nN, nP, u2 hp, q1]
    · rcases hP with ⟨s, e', w1, w2, w3⟩ | ⟨e', w3⟩
      · obtain ⟨d1, d2⟩ := td s e' ht
        cases hp : p t with
        | true => simp [complinelaw22_NextTurns.j1, e, e', nN, nP, d1 hp, w1]
        | false => simp [complinelaw22_NextTurns.j1, e, e', nN, nP, d2 hp, w1]
      · cases hp : p t <;> simp [complinelaw22_NextTurns.j1, e, e']
end Go.Proofs.YtabhfcoljgcpeaaGreatDoor.PNex
namespace Go.Proofs.YtabhfcoljgcpeaaGreatDoor.Pure
open Go.RowKit Go.Proofs.YtabhfcoljgcpeaaGreatDoorW.PrintWords Go.Proofs.YtabhfcoljgcpeaaGreatDoorW.PrintLast Go.Proofs.YtabhfcoljgcpeaaGreatDoorW.PrintMore Go.Proofs.YtabhfcoljgcpeaaGreatDoor.PNex
theorem NextTurns : ∀ (a0_0 : Int) (a0_1 : Bool) (a0_2 : Int) (a0_3 : Bool) (a0_4 : Int) (a0_5 : Bool) (a0_6 : Int) (a0_7 : Bool) (a0_8 : Int) (a0_9 : Bool) (a1 : Int), (Lit.int .u64 a0_0).wf = true → (Lit.int .u64 a0_2).wf = true → (Lit.int .u64 a0_4).wf = true → (Lit.int .u64 a0_6).wf = true → (Lit.int .u64 a0_8).wf = true → (Lit.int .i64 a1).wf = true → ∃ k, complinelaw22_NextTurns.f k a0_0 a0_1 a0_2 a0_3 a0_4 a0_5 a0_6 a0_7 a0_8 a0_9 a1 = some true := fun a0_0 a0_1 a0_2 a0_3 a0_4 a0_5 a0_6 a0_7 a0_8 a0_9 a1 h0_ h1_ h2_ h3_ h4_ h5_ => NextTurns_p a0_0 a0_1 a0_2 a0_3 a0_4 a0_5 a0_6 a0_7 a0_8 a0_9 a1 h0_ h1_ h2_ h3_ h4_ h5_
end Go.Proofs.YtabhfcoljgcpeaaGreatDoor.Pure
