/- The law SpecFirst, over numbers: its printed function answers true at every input. No condition. -/
import Derived.Test.YtjddfpciblhpaaaDoorPSpcx14
import Derived.Test.YtjddfpciblhpaaaDoorSpcBase
namespace Go.Proofs.YtjddfpciblhpaaaDoor.PSpc
open Go.RowKit Go.Proofs.YtjddfpciblhpaaaDoorW.PrintWords Go.Proofs.YtjddfpciblhpaaaDoorW.PrintLast Go.Proofs.YtjddfpciblhpaaaDoorW.PrintMore
set_option linter.unusedVariables false
set_option linter.unusedSimpArgs false
theorem SpecFirst_skip (s : ByteArray) (h : (Lex.fields s).2 = 0) (n e : Int) (k : Nat) : ∀ (d i : Nat), (∀ t : Nat, i ≤ t → t < i + d → (Spc.at_ s t).2.2 = 0) → i + d ≤ 5 →
    ∀ (b0 : Int) (s0 : Bool) (b1 : Int) (s1 : Bool) (b2 : Int) (s2 : Bool) (b3 : Int) (s3 : Bool) (b4 : Int) (s4 : Bool), complinelaw19_SpecFirst.l1 (d + k) true (Lex.fields s).1 n e (i : Int) b0 s0 b1 s1 b2 s2 b3 s3 b4 s4 = complinelaw19_SpecFirst.l1 k true (Lex.fields s).1 n e ((i + d : Nat) : Int) b0 s0 b1 s1 b2 s2 b3 s3 b4 s4
  | 0, i, _, _ => fun _ _ _ _ _ _ _ _ _ _ => by rw [Nat.zero_add, Nat.add_zero]
  | d + 1, i, ha, hi => fun b0 s0 b1 s1 b2 s2 b3 s3 b4 s4 => by
    have hw : wrap64 ((i : Int) + 1) = ((i + 1 : Nat) : Int) := by unfold wrap64; omega
    have hr : rdOf ByteArray.empty (Lex.fields s).1 (i : Int) = Spc.word (Lex.fields s).1 i := by unfold rdOf Spc.word; rw [Int.toNat_natCast]; rfl
    rw [show d + 1 + k = (d + k) + 1 by omega, complinelaw19_SpecFirst.l1, if_pos (by omega), if_pos (by omega), if_pos (by rw [Spc.words5 s h]; omega), hr, Spc.at_f s h i]
    simp only [Option.bind_some]
    rw [if_pos (ha i (by omega) (by omega)), hw, SpecFirst_skip s h n e k d (i + 1) (fun t h1 h2 => ha t (by omega) (by omega)) (by omega), show i + 1 + d = i + (d + 1) by omega]
theorem SpecFirst_tail (s : ByteArray) (k : Nat) : ((lex_Fields.f s).bind fun bt231 => (if bt231.2 = 0 then (complinelaw19_SpecFirst.j1 (k + 8) true s bt231.1 bt231.2 ((bt231.1.length : Int) != 5)) else (complinelaw19_SpecFirst.j1 (k + 8) true s bt231.1 bt231.2 true))) = some true := by
  rw [show lex_Fields.f s = some (Lex.fields s) from rfl]
  simp only [Option.bind_some]
  by_cases he : (Lex.fields s).2 = 0
  · rw [if_pos he, complinelaw19_SpecFirst.j1, if_neg (by rw [Spc.words5 s he]; decide)]
    rcases Spc.cases s with ⟨h, _⟩ | ⟨_, j, hj, hlt, hne, hp⟩ | ⟨_, ha, hp⟩
    · exact absurd he h
    · rw [hp]
      simp only [Option.bind_some]
      rw [show k + 7 = j + (k + 7 - j) by omega]
      rw [show (0 : Int) = ((0 : Nat) : Int) from rfl, SpecFirst_skip s he _ _ (k + 7 - j) j 0 (fun t _ h2 => hlt t (by omega)) (by omega)]
      have hw : wrap64 ((j : Int) + 1) = (j : Int) + 1 := by unfold wrap64; omega
      have hr : rdOf ByteArray.empty (Lex.fields s).1 (j : Int) = Spc.word (Lex.fields s).1 j := by unfold rdOf Spc.word; rw [Int.toNat_natCast]; rfl
      rw [Nat.zero_add, show k + 7 - j = (k + 6 - j) + 1 by omega, complinelaw19_SpecFirst.l1, if_pos (by omega), if_pos (by omega), if_pos (by rw [Spc.words5 s he]; omega), hr, Spc.at_f s he j]
      simp only [Option.bind_some]
      rw [if_neg hne, if_pos trivial, hw, if_pos rfl, if_pos trivial]
      rfl
    · rw [hp]
      simp only [Option.bind_some]
      rw [show k + 7 = 5 + (k + 2) by omega]
      rw [show complinelaw19_SpecFirst.l1 (5 + (k + 2)) true (Lex.fields s).1 0 0 0 = complinelaw19_SpecFirst.l1 (5 + (k + 2)) true (Lex.fields s).1 0 0 ((0 : Nat) : Int) from rfl, SpecFirst_skip s he 0 0 (k + 2) 5 0 (fun t _ h2 => ha t (by omega)) (by omega)]
      rw [complinelaw19_SpecFirst.l1, if_neg (by omega)]
      rfl
  · rw [if_neg he, complinelaw19_SpecFirst.j1, if_pos rfl, if_pos rfl, (bne_iff_ne).2 he]
theorem SpecFirst_go (l : List ByteArray) (hl : l.length = 5) : ∀ (d i : Nat) (acc : ByteArray), i + d = 5 → acc.size ≤ 41 * i → complinelaw19_SpecFirst.l0 (d + 9) l true acc (i : Int) = some true
  | 0, i, acc, hi, _ => by
    rw [complinelaw19_SpecFirst.l0, if_neg (by omega)]
    exact SpecFirst_tail acc 0
  | d + 1, i, acc, hi, ha => by
    have hw : wrap64 ((i : Int) + 1) = ((i + 1 : Nat) : Int) := by unfold wrap64; omega
    rw [show d + 1 + 9 = (d + 9) + 1 by omega, complinelaw19_SpecFirst.l0, if_pos (by omega), if_pos (by omega), if_pos (by omega)]
    by_cases h40 : ((rdOf ByteArray.empty l (i : Int)).size : Int) > 40
    · rw [if_pos h40]
    · have h1 : (acc ++ (⟨#[32]⟩ : ByteArray)).size = acc.size + 1 := by rw [ByteArray.size_append]; rfl
      rw [if_neg h40, if_pos (by omega), if_pos (by rw [h1]; omega), hw]
      refine SpecFirst_go l hl d (i + 1) _ (by omega) ?_
      rw [ByteArray.size_append, h1]
      omega
theorem SpecFirst_p (l : List ByteArray) (_ : ∀ w ∈ l, w.size ≤ 140737488351232) : ∃ k, complinelaw19_SpecFirst.f k l = some true := by
  refine ⟨14, ?_⟩
  unfold complinelaw19_SpecFirst.f
  rw [show complinelaw19_works.f = some true from rfl]
  simp only [Option.bind_some, if_true]
  by_cases h5 : (l.length : Int) = 5
  · rw [if_pos h5]
    exact SpecFirst_go l (by omega) 5 0 _ (by omega) (by decide)
  · rw [if_neg h5]
end Go.Proofs.YtjddfpciblhpaaaDoor.PSpc
namespace Go.Proofs.YtjddfpciblhpaaaDoor.Pure
open Go.RowKit Go.Proofs.YtjddfpciblhpaaaDoorW.PrintWords Go.Proofs.YtjddfpciblhpaaaDoorW.PrintLast Go.Proofs.YtjddfpciblhpaaaDoorW.PrintMore Go.Proofs.YtjddfpciblhpaaaDoor.PSpc
theorem SpecFirst : ∀ (l0 : List ByteArray), (∀ w ∈ l0, w.size ≤ 140737488351232) → ∃ k, complinelaw19_SpecFirst.f k l0 = some true
 := fun l0 h0_ => SpecFirst_p l0 h0_
end Go.Proofs.YtjddfpciblhpaaaDoor.Pure
