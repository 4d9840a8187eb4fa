/- The law FieldBoth, over numbers: its printed function answers true at every input. No condition. -/
import Derived.Test.YtfkhifbllpibjaaDoorFtlBoth
import Derived.Test.YtfkhifbllpibjaaDoorFtlLib
namespace Go.Proofs.YtfkhifbllpibjaaDoor.PFtl
open Go.RowKit Go.Proofs.YtfkhifbllpibjaaDoorW.PrintWords Go.Proofs.YtfkhifbllpibjaaDoorW.PrintLast Go.Proofs.YtfkhifbllpibjaaDoorW.PrintMore
set_option linter.unusedVariables false
set_option linter.unusedSimpArgs false
/-! Two texts with a comma between. -/
theorem parseL_app (kind : Int) : ∀ (L1 L2 : List ByteArray) (b : Int), Fld.parseL kind (L1 ++ L2) b = if (Fld.parseL kind L1 b).2 ≠ 0 then (0, (Fld.parseL kind L1 b).2) else Fld.parseL kind L2 (Fld.parseL kind L1 b).1
  | [], L2, b => by rw [List.nil_append, if_neg (by simp [Fld.parseL])]; rfl
  | x :: L1, L2, b => by
    have e : ∀ M c, Fld.parseL kind (x :: M) c = if (Fld.itemP x kind).2.2.2 ≠ 0 then (0, (Fld.itemP x kind).2.2.2) else Fld.parseL kind M ((Fld.itemL x kind).foldl Fld.put c) := fun _ _ => rfl
    rw [List.cons_append, e, e]
    by_cases h : (Fld.itemP x kind).2.2.2 ≠ 0
    · rw [if_pos h, if_pos h, if_pos h]
    · rw [if_neg h, if_neg h, parseL_app kind L1 L2]
theorem parseL_err0 (kind : Int) : ∀ (L : List ByteArray) (b c : Int), (Fld.parseL kind L b).2 = (Fld.parseL kind L c).2
  | [], _, _ => rfl
  | x :: L, b, c => by
    unfold Fld.parseL
    by_cases h : (Fld.itemP x kind).2.2.2 ≠ 0
    · rw [if_pos h, if_pos h]
    · rw [if_neg h, if_neg h]
      exact parseL_err0 kind L _ _
theorem comma_list (s t : ByteArray) : (s ++ (⟨#[44]⟩ : ByteArray) ++ t).data.toList = s.data.toList ++ 44 :: t.data.toList := by
  rw [ByteArray.data_append, ByteArray.data_append, Array.toList_append, Array.toList_append, List.append_assoc]
  rfl
theorem parts_comma (s t : ByteArray) : Fld.parts 44 (s ++ (⟨#[44]⟩ : ByteArray) ++ t) = Fld.parts 44 s ++ Fld.parts 44 t := by
  rw [parts_sp, parts_sp, parts_sp, comma_list, sp_append, List.map_append]
theorem bits_or {a b : Int} (ha : InU a) (hb : InU b) : InU (Go.bits .or .u64 a b) ∧ ∀ i, bitAt (Go.bits .or .u64 a b) i = (bitAt a i || bitAt b i) := by
  obtain ⟨n, rfl, hn⟩ := nat_of a ha
  obtain ⟨m, rfl, hm⟩ := nat_of b hb
  rw [(bits_u64 n m hn hm).2]
  refine ⟨?_, fun i => ?_⟩
  · have := Nat.or_lt_two_pow hn hm
    unfold InU
    rw [show (2 : Nat) ^ 64 = 18446744073709551616 by decide] at this
    omega
  · unfold bitAt
    rw [Int.toNat_natCast, Int.toNat_natCast, Int.toNat_natCast, Nat.testBit_or]
theorem both_err (s t : ByteArray) (kind : Int) (h : (Fld.parse s kind).2.2 ≠ 0) : Fld.parse (s ++ (⟨#[44]⟩ : ByteArray) ++ t) kind = (0, false, (Fld.parse s kind).2.2) := by
  unfold Fld.parse at h ⊢
  by_cases hk : (Lex.limits kind).2.2 ≠ 0
  · rw [if_pos hk, if_pos hk]
  · rw [if_neg hk] at h
    rw [if_neg hk, if_neg hk, parts_comma, parseL_app]
    by_cases h1 : (Fld.parseL kind (Fld.parts 44 s) 0).2 ≠ 0
    · rw [if_pos h1, if_pos h1, if_pos h1]
    · rw [if_neg h1] at h
      exact absurd rfl h
theorem both_err2 (s t : ByteArray) (kind : Int) (h : (Fld.parse s kind).2.2 = 0) (h2 : (Fld.parse t kind).2.2 ≠ 0) : Fld.parse (s ++ (⟨#[44]⟩ : ByteArray) ++ t) kind = (0, false, (Fld.parse t kind).2.2) := by
  unfold Fld.parse at h h2 ⊢
  by_cases hk : (Lex.limits kind).2.2 ≠ 0
  · rw [if_pos hk, if_pos hk]
  · rw [if_neg hk] at h h2
    rw [if_neg hk, if_neg hk, parts_comma, parseL_app]
    by_cases h1 : (Fld.parseL kind (Fld.parts 44 s) 0).2 ≠ 0
    · rw [if_pos h1] at h
      exact absurd h h1
    · by_cases h3 : (Fld.parseL kind (Fld.parts 44 t) 0).2 ≠ 0
      · have h4 := h3
        rw [parseL_err0 kind (Fld.parts 44 t) 0 (Fld.parseL kind (Fld.parts 44 s) 0).1] at h4
        rw [if_neg h1, if_pos h4, if_pos h3, parseL_err0 kind (Fld.parts 44 t) (Fld.parseL kind (Fld.parts 44 s) 0).1 0]
      · rw [if_neg h3] at h2
        exact absurd rfl h2
theorem both_ok (s t : ByteArray) (kind : Int) (h : (Fld.parse s kind).2.2 = 0) (h2 : (Fld.parse t kind).2.2 = 0) : Fld.parse (s ++ (⟨#[44]⟩ : ByteArray) ++ t) kind = (Go.bits .or .u64 (Fld.parse s kind).1 (Fld.parse t kind).1, false, 0) := by
  obtain ⟨hk, -⟩ := parse_in s kind h
  have hst : ((s ++ (⟨#[44]⟩ : ByteArray) ++ t).toList == [42]) = false := by
    rw [toList_of, comma_list]
    cases hs : s.data.toList with
    | nil => rfl
    | cons x l => cases l <;> simp
  unfold Fld.parse at h h2 ⊢
  have hk' : ¬ (Lex.limits kind).2.2 ≠ 0 := by simpa using hk
  rw [if_neg hk'] at h h2
  rw [if_neg hk', if_neg hk', if_neg hk', parts_comma, parseL_app]
  by_cases h1 : (Fld.parseL kind (Fld.parts 44 s) 0).2 ≠ 0
  · rw [if_pos h1] at h
    exact absurd h h1
  · by_cases h3 : (Fld.parseL kind (Fld.parts 44 t) 0).2 ≠ 0
    · rw [if_pos h3] at h2
      exact absurd h2 h3
    · have h1' : (Fld.parseL kind (Fld.parts 44 s) 0).2 = 0 := by simpa using h1
      have h3' : (Fld.parseL kind (Fld.parts 44 t) 0).2 = 0 := by simpa using h3
      have h4 : (Fld.parseL kind (Fld.parts 44 t) (Fld.parseL kind (Fld.parts 44 s) 0).1).2 = 0 := (parseL_err0 kind _ _ 0).trans h3'
      have z : InU 0 := by unfold InU; omega
      obtain ⟨i1, -, b1⟩ := parseL_ok kind hk (Fld.parts 44 s) 0 z h1'
      obtain ⟨i2, -, b2⟩ := parseL_ok kind hk (Fld.parts 44 t) 0 z h3'
      obtain ⟨i3, -, b3⟩ := parseL_ok kind hk (Fld.parts 44 t) _ i1 h4
      rw [if_neg h1, if_neg (by simpa using h4), if_neg h1, if_neg h3, hst]
      obtain ⟨i4, b4⟩ := bits_or i1 i2
      rw [eq_of_bits i3 i4 (fun i _ => by
        rw [b4 i, Bool.eq_iff_iff, b3 i, Bool.or_eq_true, b2 i, bit_zero]
        simp)]
theorem FieldBoth_go (s t : ByteArray) (kind v : Int) (hs : s.size ≤ 150) (ht : t.size ≤ 150) : complinelaw18_FieldBoth.j0 1 s t kind v true false = some true := by
  have z1 : (s ++ (⟨#[44]⟩ : ByteArray)).size = s.size + 1 := by rw [ByteArray.size_append]; rfl
  have z2 : (s ++ (⟨#[44]⟩ : ByteArray) ++ t).size ≤ 1000000 := by rw [ByteArray.size_append, z1]; omega
  rw [complinelaw18_FieldBoth.j0, if_neg (by decide), parse_f s kind (by omega), parse_f t kind (by omega)]
  simp only [Option.bind_some]
  rw [if_pos (by omega), if_pos (by rw [z1]; omega), parse_f _ kind z2]
  simp only [Option.bind_some]
  by_cases h1 : (Fld.parse s kind).2.2 = 0
  · by_cases h2 : (Fld.parse t kind).2.2 = 0
    · obtain ⟨-, i1, -⟩ := parse_in s kind h1
      obtain ⟨-, i2, -⟩ := parse_in t kind h2
      obtain ⟨i3, b3⟩ := bits_or i1 i2
      rw [if_pos h1, if_pos h2, if_pos trivial, both_ok s t kind h1 h2]
      simp only [if_true]
      rw [if_neg (by decide), has_f _ _ v i3, has_f _ _ v i1, has_f _ _ v i2, b3]
      simp only [Option.bind_some]
      cases decide (0 ≤ v) <;> cases decide (v < 64) <;> cases bitAt (Fld.parse s kind).1 v.toNat <;> cases bitAt (Fld.parse t kind).1 v.toNat <;> simp
    · rw [if_pos h1, if_neg h2, if_pos trivial, both_err2 s t kind h1 h2, if_pos rfl]
      rfl
  · rw [if_neg h1, if_pos trivial, both_err s t kind h1, if_pos rfl]
    rfl
theorem FieldBoth_p : complinelaw18_FieldBoth.Pure := by
  intro s t kind v _ _ _ _
  refine ⟨1, ?_⟩
  unfold complinelaw18_FieldBoth.f
  rw [show complinelaw18_works.f = some true from rfl]
  simp only [Option.bind_some, if_true]
  by_cases h1 : (s.size : Int) > 150
  · rw [if_pos h1, complinelaw18_FieldBoth.j0, if_pos rfl]
  · rw [if_neg h1]
    by_cases h2 : (t.size : Int) > 150
    · rw [decide_eq_true h2, complinelaw18_FieldBoth.j0, if_pos rfl]
    · rw [decide_eq_false h2]
      exact FieldBoth_go s t kind v (by omega) (by omega)
end Go.Proofs.YtfkhifbllpibjaaDoor.PFtl
namespace Go.Proofs.YtfkhifbllpibjaaDoor.Pure
open Go.RowKit Go.Proofs.YtfkhifbllpibjaaDoorW.PrintWords Go.Proofs.YtfkhifbllpibjaaDoorW.PrintLast Go.Proofs.YtfkhifbllpibjaaDoorW.PrintMore Go.Proofs.YtfkhifbllpibjaaDoor.PFtl
theorem FieldBoth : complinelaw18_FieldBoth.Pure := FieldBoth_p
end Go.Proofs.YtfkhifbllpibjaaDoor.Pure
