/- The law FieldRuns, over numbers: its printed function answers true at every input. No condition. -/
import Derived.Test.YtfkhifbllpibjaaDoorFtlRuns
import Derived.Test.YtfkhifbllpibjaaDoorFtlLib
namespace Go.Proofs.YtfkhifbllpibjaaDoor.PFtl
open Go.RowKit Go.Proofs.YtfkhifbllpibjaaDoorW.PrintWords Go.Proofs.YtfkhifbllpibjaaDoorW.PrintLast Go.Proofs.YtfkhifbllpibjaaDoorW.PrintMore
set_option linter.unusedVariables false
set_option linter.unusedSimpArgs false
/-- The text of a run: from a value to another one, each n-th. -/
theorem runs_list (a b n : ByteArray) : (a ++ (⟨#[45]⟩ : ByteArray) ++ b ++ (⟨#[47]⟩ : ByteArray) ++ n).data.toList = (a.data.toList ++ 45 :: b.data.toList) ++ 47 :: n.data.toList := by
  simp [ByteArray.data_append]
theorem plain_app {s t : List UInt8} (h : Plain s) (k : Plain t) : ∀ c : UInt8, c ≠ 45 → c ∈ s ++ 45 :: t → c ≠ 44 ∧ c ≠ 47 ∧ c ≠ 42 := by
  intro c hc hm
  rcases List.mem_append.1 hm with hm | hm
  · have := h c hm; exact ⟨this.1, this.2.2.1, this.2.2.2⟩
  · rcases List.mem_cons.1 hm with e | hm
    · exact absurd e hc
    · have := k c hm; exact ⟨this.1, this.2.2.1, this.2.2.2⟩
theorem runs_item (a b n : ByteArray) (kind : Int) (ha : (Lex.value a kind).2 = 0) (hb : (Lex.value b kind).2 = 0) (hn : (Lex.number n).2 = 0) :
    Fld.itemP (a ++ (⟨#[45]⟩ : ByteArray) ++ b ++ (⟨#[47]⟩ : ByteArray) ++ n) kind =
      if (Lex.value b kind).1 < (Lex.value a kind).1 then (0, 0, 1, 12) else if (Lex.number n).1 = 0 then (0, 0, 1, 1) else ((Lex.value a kind).1, (Lex.value b kind).1, (Lex.number n).1, 0) := by
  have pa := value_plain a kind ha
  have pb := value_plain b kind hb
  have pn := number_plain n hn
  have h47 : (47 : UInt8) ∉ a.data.toList ++ 45 :: b.data.toList := fun hm => (plain_app pa pb 47 (by decide) hm).2.1 rfl
  have hc : Fld.cutL (a ++ (⟨#[45]⟩ : ByteArray) ++ b ++ (⟨#[47]⟩ : ByteArray) ++ n) = (L2B (a.data.toList ++ 45 :: b.data.toList), n, true) := by
    unfold Fld.cutL
    rw [runs_list, cut_app _ _ h47]
    exact congrArg (fun z => (L2B (a.data.toList ++ 45 :: b.data.toList), z, true)) (L2B_of n)
  have ha45 : (45 : UInt8) ∉ a.data.toList := fun hm => (pa _ hm).2.1 rfl
  have hb45 : (45 : UInt8) ∉ b.data.toList := fun hm => (pb _ hm).2.1 rfl
  have hpt : Fld.parts 45 (L2B (a.data.toList ++ 45 :: b.data.toList)) = [a, b] := by
    rw [parts_sp, L2B_list, sp_append, sp_none 45 _ ha45, sp_none 45 _ hb45]
    show [L2B a.data.toList, L2B b.data.toList] = _
    rw [L2B_of, L2B_of]
  have hst : ¬ (L2B (a.data.toList ++ 45 :: b.data.toList)).toList = [42] := by
    rw [toList_of, L2B_list]
    intro e
    have : (45 : UInt8) ∈ a.data.toList ++ 45 :: b.data.toList := List.mem_append_right _ (List.mem_cons_self ..)
    rw [e] at this
    simp at this
  have hn47 : ¬ Lib.contains n.data.toList [47] = true := fun h => (pn 47 ((contains_iff 47 _).1 h)).2.2.1 rfl
  have hs : Fld.splitE (a ++ (⟨#[45]⟩ : ByteArray) ++ b ++ (⟨#[47]⟩ : ByteArray) ++ n) = 0 := by
    unfold Fld.splitE
    rw [hc, hpt]
    rw [if_neg (by rintro (h | h); exact hn47 h; exact absurd h (by simp)), if_neg (by simp)]
  unfold Fld.itemP
  rw [if_neg (by simp [hs]), hc, hpt]
  have hv : Fld.valuesP (L2B (a.data.toList ++ 45 :: b.data.toList)) [a, b] kind = ((Lex.value a kind).1, (Lex.value b kind).1, if (Lex.value b kind).1 < (Lex.value a kind).1 then 12 else 0) := by
    unfold Fld.valuesP
    rw [if_neg hst]
    dsimp only
    rw [if_neg (by simp [ha]), if_neg (by simp [hb])]
  have hp : Fld.stepP n true = ((Lex.number n).1, if (Lex.number n).1 = 0 then 1 else 0) := by
    unfold Fld.stepP
    rw [if_pos rfl, hn]
    simp
  rw [hv]
  dsimp only
  rw [hp]
  dsimp only
  by_cases h1 : (Lex.value b kind).1 < (Lex.value a kind).1
  · rw [if_pos h1, if_pos (by decide), if_pos h1]
  · rw [if_neg h1, if_neg (by simp), if_neg h1]
    by_cases h2 : (Lex.number n).1 = 0
    · rw [if_pos h2, if_pos (by decide), if_pos h2]
    · rw [if_neg h2, if_neg (by simp), if_neg h2]
/-- What a run's text is parsed to. -/
theorem runs_parse (a b n : ByteArray) (kind : Int) (ha : (Lex.value a kind).2 = 0) (hb : (Lex.value b kind).2 = 0) (hn : (Lex.number n).2 = 0) :
    ∃ B, Fld.parse (a ++ (⟨#[45]⟩ : ByteArray) ++ b ++ (⟨#[47]⟩ : ByteArray) ++ n) kind =
      (if (Lex.value b kind).1 < (Lex.value a kind).1 then (0, false, 12) else if (Lex.number n).1 = 0 then (0, false, 1) else (B, false, 0)) ∧
      (¬ (Lex.value b kind).1 < (Lex.value a kind).1 → ¬ (Lex.number n).1 = 0 → InU B ∧ ∀ i : Nat, bitAt B i = true ↔ ∃ u, (Lex.value a kind).1 ≤ u ∧ u ≤ (Lex.value b kind).1 ∧ (u - (Lex.value a kind).1) % (Lex.number n).1 = 0 ∧ (Fld.day kind u).val = i) := by
  have pa := value_plain a kind ha
  have pb := value_plain b kind hb
  have pn := number_plain n hn
  have hit := runs_item a b n kind ha hb hn
  have hl := runs_list a b n
  generalize hT : a ++ (⟨#[45]⟩ : ByteArray) ++ b ++ (⟨#[47]⟩ : ByteArray) ++ n = T at hit hl ⊢
  have h44 : (44 : UInt8) ∉ T.data.toList := by
    rw [hl]
    intro hm
    rcases List.mem_append.1 hm with hm | hm
    · exact (plain_app pa pb 44 (by decide) hm).1 rfl
    · rcases List.mem_cons.1 hm with e | hm
      · exact absurd e (by decide)
      · exact (pn _ hm).1 rfl
  have hpt : Fld.parts 44 T = [T] := by rw [parts_sp, sp_none 44 _ h44]; exact congrArg (fun z => [z]) (L2B_of T)
  have hst : (T.toList == [42]) = false := by
    rw [toList_of, beq_eq_false_iff_ne, hl]; intro e
    have : (45 : UInt8) ∈ (a.data.toList ++ 45 :: b.data.toList) ++ 47 :: n.data.toList := List.mem_append_left _ (List.mem_append_right _ (List.mem_cons_self ..))
    rw [e] at this
    simp at this
  have hk := (Fld.value_bd a kind ha).1
  refine ⟨((Fld.itemL T kind).foldl Fld.put 0), ?_, ?_⟩
  · unfold Fld.parse
    rw [if_neg (by simp [hk]), hpt, hst]
    by_cases h1 : (Lex.value b kind).1 < (Lex.value a kind).1
    · rw [if_pos h1] at hit ⊢
      have : Fld.parseL kind [T] 0 = (0, 12) := by
        show (if (Fld.itemP T kind).2.2.2 ≠ 0 then _ else _) = _
        rw [hit]; rfl
      rw [this]; rfl
    · rw [if_neg h1] at hit ⊢
      by_cases h2 : (Lex.number n).1 = 0
      · rw [if_pos h2] at hit ⊢
        have : Fld.parseL kind [T] 0 = (0, 1) := by
          show (if (Fld.itemP T kind).2.2.2 ≠ 0 then _ else _) = _
          rw [hit]; rfl
        rw [this]; rfl
      · rw [if_neg h2] at hit ⊢
        have : Fld.parseL kind [T] 0 = ((Fld.itemL T kind).foldl Fld.put 0, 0) := by
          show (if (Fld.itemP T kind).2.2.2 ≠ 0 then _ else _) = _
          rw [if_neg (by rw [hit]; simp)]; rfl
        rw [this]; rfl
  · intro h1 h2
    rw [if_neg h1, if_neg h2] at hit
    have z : InU 0 := by unfold InU; omega
    refine ⟨fold_in _ z, fun i => ?_⟩
    have hm : ∀ y, y ∈ Fld.itemL T kind ↔ _ := fun y => item_L T kind y hk (by rw [hit])
    rw [hit] at hm
    rw [fold_mem _ z i, bit_zero]
    simp only [Bool.false_eq_true, false_or]
    constructor
    · rintro ⟨y, hy, rfl⟩
      obtain ⟨u, u1, u2, u3, rfl⟩ := (hm y).1 hy
      exact ⟨u, u1, u2, u3, rfl⟩
    · rintro ⟨u, u1, u2, u3, rfl⟩
      exact ⟨_, (hm _).2 ⟨u, u1, u2, u3, rfl⟩, rfl⟩
/-- Whether a value is one of a run's. -/
def runsIn (kind x y k v : Int) : Bool :=
  if kind = 4 then (decide (v ≥ x) && decide (v ≤ y) && decide ((v - x) % k = 0) && decide (v < 7)) || (decide (v = 0) && decide (y = 7) && decide ((7 - x) % k = 0))
  else decide (v ≥ x) && decide (v ≤ y) && decide ((v - x) % k = 0)
theorem runs_has (kind x y k v : Int) (B : Int) (hk : (Lex.limits kind).2.2 = 0) (hx : (Lex.limits kind).1 ≤ x) (hxy : x ≤ y) (hy : y ≤ (Lex.limits kind).2.1)
    (hB : ∀ i : Nat, bitAt B i = true ↔ ∃ u, x ≤ u ∧ u ≤ y ∧ (u - x) % k = 0 ∧ (Fld.day kind u).val = i) :
    (decide (0 ≤ v) && decide (v < 64) && bitAt B v.toNat) = runsIn kind x y k v := by
  have hl := Fld.limits_bd kind hk
  rw [Bool.eq_iff_iff]
  unfold runsIn
  by_cases h4 : kind = 4
  · subst h4
    have e : Lex.limits 4 = (0, 7, 0) := by decide
    rw [e] at hx hy
    dsimp only at hx hy
    rw [if_pos rfl]
    simp only [Bool.and_eq_true, Bool.or_eq_true, decide_eq_true_eq]
    rw [hB]
    constructor
    · rintro ⟨⟨v0, v1⟩, u, u1, u2, u3, u4⟩
      have hd := day_val 4 u (by omega) (by omega)
      rw [if_pos rfl, u4] at hd
      by_cases h7 : u = 7
      · subst h7
        refine .inr ⟨⟨by omega, by omega⟩, u3⟩
      · have : u = v := by omega
        subst this
        exact .inl ⟨⟨⟨u1, u2⟩, u3⟩, by omega⟩
    · rintro (⟨⟨⟨h1, h2⟩, h3⟩, h5⟩ | ⟨⟨h1, h2⟩, h3⟩)
      · refine ⟨⟨by omega, by omega⟩, v, h1, h2, h3, ?_⟩
        have hd := day_val 4 v (by omega) (by omega)
        rw [if_pos rfl] at hd
        omega
      · subst h1; subst h2
        refine ⟨⟨by omega, by omega⟩, 7, by omega, by omega, h3, ?_⟩
        have hd := day_val 4 7 (by omega) (by omega)
        rw [if_pos rfl] at hd
        omega
  · rw [if_neg h4]
    simp only [Bool.and_eq_true, decide_eq_true_eq]
    rw [hB]
    constructor
    · rintro ⟨⟨v0, v1⟩, u, u1, u2, u3, u4⟩
      have hd := day_val kind u (by omega) (by omega)
      rw [if_neg h4, u4] at hd
      have : u = v := by omega
      subst this
      exact ⟨⟨u1, u2⟩, u3⟩
    · rintro ⟨⟨h1, h2⟩, h3⟩
      refine ⟨⟨by omega, by omega⟩, v, h1, h2, h3, ?_⟩
      have hd := day_val kind v (by omega) (by omega)
      rw [if_neg h4] at hd
      omega
theorem runs_out (a b n : ByteArray) (kind v x y k : Int) (K : Nat) : complinelaw18_FieldRuns.j1 (K + 1) a b n kind v true x y k true = some true := by
  unfold complinelaw18_FieldRuns.j1
  exact if_pos rfl
theorem dec_beq (x : Int) : decide (x = 0) = (x == 0) := by
  cases h : x == 0
  · exact decide_eq_false (by simpa using h)
  · exact decide_eq_true (by simpa using h)
theorem runs_leaf {h r : Bool} (e : h = r) : (if true = true then (if (0 : Int) = 0 then (some h).bind fun t => some (t == r) else some false) else some false) = some true := by
  subst e
  simp
theorem FieldRuns_go (a b n : ByteArray) (kind v : Int) (ha : a.size ≤ 50) (hb : b.size ≤ 50) (hn : n.size ≤ 50) (hv : -9223372036854775808 ≤ v ∧ v ≤ 9223372036854775807) : complinelaw18_FieldRuns.j0 3 a b n kind v true false = some true := by
  rw [complinelaw18_FieldRuns.j0, if_neg (by decide), show lex_Value.f a kind = some (Lex.value a kind) from rfl, show lex_Value.f b kind = some (Lex.value b kind) from rfl, show lex_Number.f n = some (Lex.number n) from rfl]
  simp only [Option.bind_some]
  by_cases e1 : (Lex.value a kind).2 = 0
  rotate_left
  · rw [if_neg e1]; exact runs_out _ _ _ _ _ _ _ _ 1
  by_cases e2 : (Lex.value b kind).2 = 0
  rotate_left
  · rw [if_pos e1, if_neg e2]; exact runs_out _ _ _ _ _ _ _ _ 1
  rw [if_pos e1, if_pos e2]
  by_cases e3 : (Lex.number n).2 = 0
  rotate_left
  · rw [show ((Lex.number n).2 != 0) = true by simpa using e3]; exact runs_out _ _ _ _ _ _ _ _ 1
  rw [show ((Lex.number n).2 != 0) = false by simpa using e3, complinelaw18_FieldRuns.j1, if_neg (by decide)]
  have z1 : (a ++ (⟨#[45]⟩ : ByteArray)).size = a.size + 1 := by rw [ByteArray.size_append]; rfl
  have z2 : (a ++ (⟨#[45]⟩ : ByteArray) ++ b).size = a.size + 1 + b.size := by rw [ByteArray.size_append, z1]
  have z3 : (a ++ (⟨#[45]⟩ : ByteArray) ++ b ++ (⟨#[47]⟩ : ByteArray)).size = a.size + 1 + b.size + 1 := by rw [ByteArray.size_append, z2]; rfl
  have z4 : (a ++ (⟨#[45]⟩ : ByteArray) ++ b ++ (⟨#[47]⟩ : ByteArray) ++ n).size ≤ 1000000 := by rw [ByteArray.size_append, z3]; omega
  rw [if_pos (by omega), if_pos (by omega), if_pos (by omega), if_pos (by omega), parse_f _ kind z4]
  simp only [Option.bind_some]
  obtain ⟨B, hP, hB⟩ := runs_parse a b n kind e1 e2 e3
  rw [hP]
  obtain ⟨hk, x1, x2⟩ := Fld.value_bd a kind e1
  obtain ⟨-, y1, y2⟩ := Fld.value_bd b kind e2
  have hl := Fld.limits_bd kind hk
  have hnb := Fld.number_bd n
  clear hP z1 z2 z3 z4
  generalize (Lex.value a kind).1 = X at *
  generalize (Lex.value b kind).1 = Y at *
  generalize (Lex.number n).1 = K at *
  by_cases h1 : Y < X
  · rw [if_pos h1, if_pos (show X > Y from h1)]; rfl
  rw [if_neg h1, if_neg (show ¬ X > Y from h1)]
  by_cases h2 : K = 0
  · rw [if_pos h2, if_pos h2]; rfl
  rw [if_neg h2, if_neg h2]
  obtain ⟨hin, hbit⟩ := hB h1 h2
  have hH : field_Has.f B false v = some (runsIn kind X Y K v) := by rw [has_f B false v hin, runs_has kind X Y K v B hk x1 (by omega) y2 hbit]
  dsimp only
  rw [hH]
  have hm1 : v ≥ X → v ≤ Y → Int.tmod (wrap64 (v - X)) K = (v - X) % K := fun q1 q2 => by
    rw [show wrap64 (v - X) = v - X by unfold wrap64; omega]; exact Int.tmod_eq_emod_of_nonneg (by omega)
  have hm2 : Int.tmod (wrap64 (7 - X)) K = (7 - X) % K ∨ Y ≠ 7 := by
    by_cases q : Y = 7
    · left; rw [show wrap64 (7 - X) = 7 - X by unfold wrap64; omega]; exact Int.tmod_eq_emod_of_nonneg (by omega)
    · exact .inr q
  clear hH hbit hin hB
  have f1 : ∀ P : Prop, [Decidable P] → ¬ P → decide P = false := fun P _ h => decide_eq_false h
  by_cases hx : v ≥ X
  · rw [if_pos hx]
    by_cases hy : v ≤ Y
    · rw [if_pos hy, hm1 hx hy]
      by_cases h4 : kind = 4
      · rw [if_pos h4]
        by_cases hm : (v - X) % K = 0
        · rw [if_pos hm]
          by_cases h7 : v < 7
          · rw [if_pos h7]
            exact runs_leaf (by unfold runsIn; rw [if_pos h4, decide_eq_true hx, decide_eq_true hy, decide_eq_true hm, decide_eq_true h7]; rfl)
          · rw [if_neg h7]
            by_cases h0 : v = 0
            · omega
            · rw [if_neg h0]
              exact runs_leaf (by unfold runsIn; rw [if_pos h4, decide_eq_false h7, decide_eq_false h0]; simp)
        · rw [if_neg hm]
          by_cases h0 : v = 0
          · rw [if_pos h0]
            by_cases hY : Y = 7
            · rw [if_pos hY, hm2.resolve_right (by simpa using hY)]
              exact runs_leaf (by unfold runsIn; rw [if_pos h4, decide_eq_false hm, decide_eq_true h0, decide_eq_true hY]; simp [dec_beq])
            · rw [if_neg hY]
              exact runs_leaf (by unfold runsIn; rw [if_pos h4, decide_eq_false hm, decide_eq_false hY]; simp)
          · rw [if_neg h0]
            exact runs_leaf (by unfold runsIn; rw [if_pos h4, decide_eq_false hm, decide_eq_false h0]; simp)
      · rw [if_neg h4]
        exact runs_leaf (by unfold runsIn; rw [if_neg h4, decide_eq_true hx, decide_eq_true hy]; simp [dec_beq])
    · rw [if_neg hy]
      by_cases h4 : kind = 4
      · rw [if_pos h4]
        by_cases h0 : v = 0
        · omega
        · rw [if_neg h0]
          exact runs_leaf (by unfold runsIn; rw [if_pos h4, decide_eq_false hy, decide_eq_false h0]; simp)
      · rw [if_neg h4]
        exact runs_leaf (by unfold runsIn; rw [if_neg h4, decide_eq_false hy]; simp)
  · rw [if_neg hx]
    by_cases h4 : kind = 4
    · rw [if_pos h4]
      by_cases h0 : v = 0
      · rw [if_pos h0]
        by_cases hY : Y = 7
        · rw [if_pos hY, hm2.resolve_right (by simpa using hY)]
          exact runs_leaf (by unfold runsIn; rw [if_pos h4, decide_eq_false hx, decide_eq_true h0, decide_eq_true hY]; simp [dec_beq])
        · rw [if_neg hY]
          exact runs_leaf (by unfold runsIn; rw [if_pos h4, decide_eq_false hx, decide_eq_false hY]; simp)
      · rw [if_neg h0]
        exact runs_leaf (by unfold runsIn; rw [if_pos h4, decide_eq_false hx, decide_eq_false h0]; simp)
    · rw [if_neg h4]
      exact runs_leaf (by unfold runsIn; rw [if_neg h4, decide_eq_false hx]; simp)
theorem FieldRuns_p : complinelaw18_FieldRuns.Pure := by
  intro a b n kind v _ _ _ _ hv
  have hv2 : -9223372036854775808 ≤ v ∧ v ≤ 9223372036854775807 := by have := hv; simp [Lit.wf, IntKind.min, IntKind.max, IntKind.bits, IntKind.signed] at this; omega
  refine ⟨3, ?_⟩
  have hout : complinelaw18_FieldRuns.j0 3 a b n kind v true true = some true := by rw [complinelaw18_FieldRuns.j0]; exact if_pos rfl
  unfold complinelaw18_FieldRuns.f
  rw [show complinelaw18_works.f = some true from rfl]
  simp only [Option.bind_some, if_true]
  by_cases h1 : (a.size : Int) > 50
  · rw [if_pos h1]; exact hout
  rw [if_neg h1]
  by_cases h2 : (b.size : Int) > 50
  · rw [if_pos h2]; exact hout
  rw [if_neg h2]
  by_cases h3 : (n.size : Int) > 50
  · rw [decide_eq_true h3]; exact hout
  rw [decide_eq_false h3]
  exact FieldRuns_go a b n kind v (by omega) (by omega) (by omega) hv2
end Go.Proofs.YtfkhifbllpibjaaDoor.PFtl
namespace Go.Proofs.YtfkhifbllpibjaaDoor.Pure
open Go.RowKit Go.Proofs.YtfkhifbllpibjaaDoorW.PrintWords Go.Proofs.YtfkhifbllpibjaaDoorW.PrintLast Go.Proofs.YtfkhifbllpibjaaDoorW.PrintMore Go.Proofs.YtfkhifbllpibjaaDoor.PFtl
theorem FieldRuns : complinelaw18_FieldRuns.Pure := FieldRuns_p
end Go.Proofs.YtfkhifbllpibjaaDoor.Pure
