/- The law NextAdds, over numbers: its printed function answers true at every input. No condition. -/
import Derived.Test.YtabhfcoljgcpeaaGreatDoorPNexx19
import Derived.Test.YtabhfcoljgcpeaaGreatDoorNexLib
namespace Go.Proofs.YtabhfcoljgcpeaaGreatDoor.PNex
open Go.RowKit Go.Proofs.YtabhfcoljgcpeaaGreatDoorW.PrintWords Go.Proofs.YtabhfcoljgcpeaaGreatDoorW.PrintLast Go.Proofs.YtabhfcoljgcpeaaGreatDoorW.PrintMore
set_option linter.unusedVariables false
set_option linter.unusedSimpArgs false
theorem Nx.i64b (v : Int) (h : (Lit.int .i64 v).wf = true) : -9223372036854775808 ≤ v ∧ v ≤ 9223372036854775807 := i64_of v h
theorem Nx.mt (b0 b1 b2 : Int) (s2 : Bool) (b3 b4 : Int) (s4 : Bool) (t : Nat) (h : t < 541728000) : Dy.match_ false b0 b1 b2 s2 b3 b4 s4 (t : Int) = (Nx.at2 b0 b1 b2 s2 b3 b4 s4 t, 0) := by
  unfold Dy.match_
  rw [if_neg Bool.false_ne_true, if_neg (by omega), Nx.at_split]
theorem NextAdds_p (b0 : Int) (s0 : Bool) (b1 : Int) (s1 : Bool) (b2 : Int) (s2 : Bool) (b3 : Int) (s3 : Bool) (b4 : Int) (s4 : Bool) (a b c : Int) (h0 : (Lit.int .u64 b0).wf = true) (h1 : (Lit.int .u64 b1).wf = true) (h2 : (Lit.int .u64 b2).wf = true) (h3 : (Lit.int .u64 b3).wf = true) (h4 : (Lit.int .u64 b4).wf = true) (_ : (Lit.int .i64 a).wf = true) (_ : (Lit.int .i64 b).wf = true) (_ : (Lit.int .i64 c).wf = true) : ∃ k, complinelaw22_NextAdds.f k b0 s0 b1 s1 b2 s2 b3 s3 b4 s4 a b c = some true := by
  obtain ⟨ob, A, -⟩ := odd_is b0 s0 b1 s1 b2 s2 b3 s3 b4 s4
  refine ⟨1, ?_⟩
  unfold complinelaw22_NextAdds.f
  rw [show complinelaw22_works.f = some true from rfl, Option.bind_some, if_pos rfl]
  by_cases c0 : a > b
  · rw [if_pos c0, complinelaw22_NextAdds.j0, if_pos rfl]
  rw [if_neg c0]
  by_cases c1 : b > c
  · rw [decide_eq_true c1, complinelaw22_NextAdds.j0, if_pos rfl]
  rw [decide_eq_false c1, complinelaw22_NextAdds.j0, if_neg Bool.false_ne_true, Nx.count_is2 (wf_in _ h0) (wf_in _ h1) (wf_in _ h2) (wf_in _ h3) (wf_in _ h4) A, Nx.count_is2 (wf_in _ h0) (wf_in _ h1) (wf_in _ h2) (wf_in _ h3) (wf_in _ h4) A, Nx.count_is2 (wf_in _ h0) (wf_in _ h1) (wf_in _ h2) (wf_in _ h3) (wf_in _ h4) A]
  generalize Nx.at2 b0 b1 b2 s2 b3 b4 s4 = p
  cases ob with
  | true =>
    have : ∀ x y, Nx.count true p x y = (0, 2) := fun x y => by unfold Nx.count; rw [if_pos rfl]
    rw [this, Option.bind_some, if_neg (by decide), if_pos rfl]
    rfl
  | false =>
    by_cases hl : a < 0 ∨ 541728000 < c
    · have : Nx.count false p a c = (0, 1) := by unfold Nx.count; rw [if_neg Bool.false_ne_true, if_pos (by omega)]
      rw [this, Option.bind_some, if_neg (by decide), if_pos rfl]
      rfl
    · obtain ⟨m, n, e1, e2, e3, e4⟩ := Nx.count_add p a b c (by omega) (by omega) (by omega) (by omega)
      rw [e1, e2, e3, Option.bind_some, Option.bind_some, Option.bind_some, if_pos rfl, if_pos rfl, if_pos rfl, if_pos rfl]
      dsimp only
      rw [Civ.w64 (x := (m : Int) + n) (by omega) (by omega), Civ.w64 (x := c - a) (by omega) (by omega), if_pos (by omega), if_pos (by omega), if_pos (by omega), decide_eq_true e4]
end Go.Proofs.YtabhfcoljgcpeaaGreatDoor.PNex
namespace Go.Proofs.YtabhfcoljgcpeaaGreatDoor.Pure
open Go.RowKit Go.Proofs.YtabhfcoljgcpeaaGreatDoorW.PrintWords Go.Proofs.YtabhfcoljgcpeaaGreatDoorW.PrintLast Go.Proofs.YtabhfcoljgcpeaaGreatDoorW.PrintMore Go.Proofs.YtabhfcoljgcpeaaGreatDoor.PNex
theorem NextAdds : ∀ (a0_0 : Int) (a0_1 : Bool) (a0_2 : Int) (a0_3 : Bool) (a0_4 : Int) (a0_5 : Bool) (a0_6 : Int) (a0_7 : Bool) (a0_8 : Int) (a0_9 : Bool) (a1 : Int) (a2 : Int) (a3 : Int), (Lit.int .u64 a0_0).wf = true → (Lit.int .u64 a0_2).wf = true → (Lit.int .u64 a0_4).wf = true → (Lit.int .u64 a0_6).wf = true → (Lit.int .u64 a0_8).wf = true → (Lit.int .i64 a1).wf = true → (Lit.int .i64 a2).wf = true → (Lit.int .i64 a3).wf = true → ∃ k, complinelaw22_NextAdds.f k a0_0 a0_1 a0_2 a0_3 a0_4 a0_5 a0_6 a0_7 a0_8 a0_9 a1 a2 a3 = some true := fun a0_0 a0_1 a0_2 a0_3 a0_4 a0_5 a0_6 a0_7 a0_8 a0_9 a1 a2 a3 h0_ h1_ h2_ h3_ h4_ h5_ h6_ h7_ => NextAdds_p a0_0 a0_1 a0_2 a0_3 a0_4 a0_5 a0_6 a0_7 a0_8 a0_9 a1 a2 a3 h0_ h1_ h2_ h3_ h4_ h5_ h6_ h7_
end Go.Proofs.YtabhfcoljgcpeaaGreatDoor.Pure
