/- lex: closed forms of the printed functions, and the laws -/
import Derived.Test.YtgajipaenoepiaaPLexx
namespace Go.Proofs.Ytgajipaenoepiaa.PLex
open Go.RowKit Go.Proofs.YtgajipaenoepiaaW.PrintWords Go.Proofs.YtgajipaenoepiaaW.PrintLast Go.Proofs.YtgajipaenoepiaaW.PrintMore
set_option linter.unusedVariables false
set_option linter.unusedSimpArgs false
/-! Words of a text, over lists of bytes. -/
theorem Lex.w64 {x : Int} (h1 : -9223372036854775808 ≤ x) (h2 : x ≤ 9223372036854775807) : wrap64 x = x := by unfold wrap64; omega
def Lex.mk (l : List UInt8) : ByteArray := ⟨l.toArray⟩
theorem Lex.mk_data (l : List UInt8) : (Lex.mk l).data.toList = l := rfl
theorem Lex.mk_of (s : ByteArray) : Lex.mk s.data.toList = s := by cases s; simp [Lex.mk]
theorem Lex.ext {a b : ByteArray} (h : a.data.toList = b.data.toList) : a = b := by rw [← Lex.mk_of a, ← Lex.mk_of b, h]
theorem Lex.mk_size (l : List UInt8) : (Lex.mk l).size = l.length := by show l.toArray.size = _; simp
theorem Lex.len (s : ByteArray) : s.data.toList.length = s.size := by rw [Array.length_toList]; rfl
theorem Lex.extract_data (s : ByteArray) (a b : Nat) : (s.extract a b).data.toList = (s.data.toList.drop a).take (b - a) := by
  rw [ByteArray.data_extract]; simp
theorem Lex.append_data (s t : ByteArray) : (s ++ t).data.toList = s.data.toList ++ t.data.toList := by
  rw [ByteArray.data_append]; simp
theorem Lex.one_data (s : ByteArray) (i : Nat) (h : i < s.size) : (s.extract i (i + 1)).data.toList = [s[i]'h] := by
  rw [Lex.extract_data, show i + 1 - i = 1 by omega, List.drop_eq_getElem_cons (by rw [Lex.len]; exact h)]
  rfl
theorem Lex.toList_nil (w : ByteArray) : w.toList = ([] : List UInt8) ↔ w.data.toList = [] := by rw [ByteArray.toList_eq]
theorem Lex.bt_eq (s : ByteArray) (i : Nat) (h : i < s.size) : bt s (i : Int) = ((s[i]'h).toNat : Int) := (bt_at s i (by simpa using h)).symm
def Lex.blankB (c : UInt8) : Bool := Lex.blankN c.toNat
def Lex.words : List UInt8 → List UInt8 → List (List UInt8)
  | [], w => if w = [] then [] else [w]
  | c :: l, w => if Lex.blankB c then (if w = [] then Lex.words l [] else w :: Lex.words l []) else Lex.words l (w ++ [c])
/-- FieldsFunc of plain letters. -/
theorem Lex.spans_words (s : ByteArray) (ha : ∀ i (h : i < s.size), (s[i]'h).toNat < 128) : ∀ (f pos : Nat) (st : Option Nat) (acc : List (Nat × Nat)), pos ≤ s.size → s.size ≤ pos + f → (∀ a, st = some a → a < pos) →
    (Lib.closeSpans s (Lib.spansFromP Lex.blankN s f pos st acc)).map (fun x => (s.extract x.1 x.2).data.toList) =
      acc.map (fun x => (s.extract x.1 x.2).data.toList) ++ Lex.words (s.data.toList.drop pos) (match st with | none => [] | some a => (s.data.toList.drop a).take (pos - a)) := by
  intro f
  induction f with
  | zero =>
    intro pos st acc h1 h2 h3
    have hp : pos = s.size := by omega
    subst hp
    rw [List.drop_of_length_le (l := s.data.toList) (by rw [Lex.len]; omega)]
    cases st with
    | none => simp [Lib.spansFromP, Lib.closeSpans, Lex.words]
    | some a =>
      have := h3 a rfl
      have hne : (s.data.toList.drop a).take (s.size - a) ≠ [] := by
        intro e
        have := congrArg List.length e
        rw [List.length_take, List.length_drop, Lex.len] at this
        simp at this; omega
      simp [Lib.spansFromP, Lib.closeSpans, Lex.words, hne, Lex.extract_data]
  | succ f ih =>
    intro pos st acc h1 h2 h3
    by_cases hlt : pos < s.size
    · have hd : Utf8.decode s pos = ((s[pos]'hlt).toNat, 1) := decode_ascii s pos hlt (ha pos hlt)
      have hdr : s.data.toList.drop pos = (s[pos]'hlt) :: s.data.toList.drop (pos + 1) := by rw [List.drop_eq_getElem_cons (by rw [Lex.len]; exact hlt)]; rfl
      have hb : Lex.blankB (s[pos]'hlt) = Lex.blankN (s[pos]'hlt).toNat := rfl
      unfold Lib.spansFromP
      rw [if_pos hlt, hd, hdr]
      simp only [Lex.words, hb]
      cases hbb : Lex.blankN (s[pos]'hlt).toNat
      · simp only [Bool.false_eq_true, if_false]
        cases st with
        | none =>
          simp only
          rw [ih (pos + 1) (some pos) acc (by omega) (by omega) (by intro a e; cases e; omega)]
          congr 2
          simp only [List.nil_append]
          rw [hdr, show pos + 1 - pos = 1 by omega]; rfl
        | some a =>
          have := h3 a rfl
          simp only
          rw [ih (pos + 1) (some a) acc (by omega) (by omega) (by intro b e; cases e; omega)]
          congr 2
          simp only
          rw [show pos + 1 - a = (pos - a) + 1 by omega, List.take_succ_eq_append_getElem (by rw [List.length_drop, Lex.len]; omega)]
          congr 2
          rw [List.getElem_drop]
          have e : a + (pos - a) = pos := by omega
          simp only [e]
          rfl
      · simp only [if_true]
        cases st with
        | none =>
          simp only
          rw [ih (pos + 1) none acc (by omega) (by omega) (by intro a e; cases e)]
          simp
        | some a =>
          have := h3 a rfl
          have hne : (s.data.toList.drop a).take (pos - a) ≠ [] := by
            intro e
            have := congrArg List.length e
            rw [List.length_take, List.length_drop, Lex.len] at this
            simp at this; omega
          simp only
          rw [ih (pos + 1) none (acc ++ [(a, pos)]) (by omega) (by omega) (by intro a e; cases e), if_neg hne]
          simp [Lex.extract_data]
    · have hp : pos = s.size := by omega
      subst hp
      rw [Lib.spansFromP_end _ _ _ _ _ _ hlt, List.drop_of_length_le (l := s.data.toList) (by rw [Lex.len]; omega)]
      cases st with
      | none => simp [Lib.closeSpans, Lex.words]
      | some a =>
        have := h3 a rfl
        have hne : (s.data.toList.drop a).take (s.size - a) ≠ [] := by
          intro e
          have := congrArg List.length e
          rw [List.length_take, List.length_drop, Lex.len] at this
          simp at this; omega
        simp [Lib.closeSpans, Lex.words, hne, Lex.extract_data]
theorem Lex.known_ascii (s : ByteArray) (h : Lex.knownAll s.data.toList = true) : ∀ i (hi : i < s.size), (s[i]'hi).toNat < 128 := by
  intro i hi
  have hm : (s[i]'hi) ∈ s.data.toList := by
    have : s[i]'hi = s.data.toList[i]'(by rw [Lex.len]; exact hi) := rfl
    rw [this]; exact List.getElem_mem _
  have := List.all_eq_true.1 h _ hm
  rcases Nat.lt_or_ge (s[i]'hi).toNat 128 with h1 | h1
  · exact h1
  · rw [Lex.known_big h1] at this; cases this
theorem Lex.go_words (s : ByteArray) (h : Lex.knownAll s.data.toList = true) : Lib.goFieldsP Lex.blankN s = (Lex.words s.data.toList []).map Lex.mk := by
  have := Lex.spans_words s (Lex.known_ascii s h) s.size 0 none [] (by omega) (by omega) (by intro a e; cases e)
  simp only [List.map_nil, List.nil_append, List.drop_zero] at this
  rw [← this, List.map_map]
  unfold Lib.goFieldsP Lib.spansOfP
  apply List.map_congr_left
  intro x _
  exact (Lex.mk_of _).symm
def Lex.fieldsL (l : List UInt8) : List (List UInt8) × Int :=
  if Lex.knownAll l = false then ([], 2) else if (Lex.words l []).length ≠ 5 then ([], 2) else (Lex.words l [], 0)
theorem Lex.fields_eq (s : ByteArray) (h : s.size ≤ 256) : Lex.fields s = ((Lex.fieldsL s.data.toList).1.map Lex.mk, (Lex.fieldsL s.data.toList).2) := by
  unfold Lex.fields Lex.fieldsL
  rw [if_neg (by omega)]
  cases hk : Lex.knownAll s.data.toList
  · simp
  · simp only [Bool.true_eq_false, if_false]
    rw [Lex.go_words s hk]
    simp only [List.length_map]
    split <;> simp
/-! The reference's lex, in closed form. -/
def Lex.five (L : List ByteArray) : List ByteArray × Int := if L.length = 5 then (L, 0) else ([], 2)
theorem Lex.blank_known {c : UInt8} (h : Lex.blankB c = true) : Lex.knownI c.toNat = true := by
  simp only [Lex.blankB, Lex.blankN, Bool.or_eq_true, beq_iff_eq] at h
  unfold Lex.knownI
  rcases h with h | h <;> (rw [h]; decide)
theorem Lex.rfields_step (s : ByteArray) (hs : s.size ≤ 256) (k i : Nat) (l : List ByteArray) (w : ByteArray) (hi : i < s.size) (hw : w.size ≤ i) (hl : l.length ≤ i) :
    complineref17_Fields.l0 (k + 1) s l w i =
      if Lex.blankB (s[i]'hi) then (if w.data.toList = [] then complineref17_Fields.l0 k s l ⟨#[]⟩ ((i + 1 : Nat) : Int) else complineref17_Fields.l0 k s (l ++ [w]) ⟨#[]⟩ ((i + 1 : Nat) : Int))
      else if Lex.knownI (s[i]'hi).toNat then complineref17_Fields.l0 k s l (w ++ s.extract i (i + 1)) ((i + 1 : Nat) : Int) else some ([], 2) := by
  obtain ⟨c, hc⟩ : ∃ c, (s[i]'hi) = c := ⟨_, rfl⟩
  have hbt := Lex.bt_eq s i hi
  rw [hc] at hbt ⊢
  have hw1 : wrap64 ((i : Int) + 1) = ((i + 1 : Nat) : Int) := by rw [Lex.w64 (by omega) (by omega)]; omega
  have hx : (s.extract i (i + 1)).size = 1 := by
    have := congrArg List.length (Lex.one_data s i hi)
    rw [Lex.len] at this
    simpa using this
  have hn1 : ((i : Int)).toNat = i := by omega
  have hn2 : (((i + 1 : Nat) : Int)).toNat = i + 1 := by omega
  simp only [complineref17_Fields.l0]
  rw [if_pos (show (i : Int) < (s.size : Int) by omega), if_pos (show (0 : Int) ≤ i by omega)]
  simp only [hw1, hbt, hn1, hn2, hx]
  have a1 : (i : Int) ≤ ((i + 1 : Nat) : Int) := by omega
  have a2 : ((i + 1 : Nat) : Int) ≤ (s.size : Int) := by omega
  have a3 : w.size + 1 ≤ 9223372036854775807 := by omega
  have a4 : l.length < 8796093022208 := by omega
  simp only [a1, a2, a3, a4, if_true, Lex.toList_nil]
  unfold complineref17_blank.f complineref17_digit.f complineref17_letter.f Lex.blankB Lex.blankN Lex.knownI
  obtain ⟨n, hn⟩ : ∃ n, c.toNat = n := ⟨_, rfl⟩
  rw [hn]
  by_cases h1 : n = 32
  · subst h1; simp
  by_cases h2 : n = 9
  · subst h2; simp
  have g1 : ¬ (n : Int) = 32 := by omega
  have g2 : ((n : Int) == 9) = false := by simp; omega
  have g3 : (n == 32) = false := by simpa using h1
  have g4 : (n == 9) = false := by simpa using h2
  have g5 : ¬ (n : Int) = 9 := by omega
  simp only [g1, g2, g3, g4, g5, if_false, Option.bind_some, Bool.or_false, Bool.false_eq_true, decide_false, Bool.false_or]
  by_cases h3 : (n : Int) ≥ 48
  · by_cases h4 : (n : Int) ≤ 57
    · simp [h3, h4]
    · by_cases h5 : (n : Int) ≥ 97
      · have h6 : (n : Int) ≥ 65 := by omega
        by_cases h7 : (n : Int) ≤ 122
        · simp [h3, h4, h5, h7]
        · have h8 : ¬ (n : Int) ≤ 90 := by omega
          have q1 : ¬ (n : Int) = 42 := by omega
          have q2 : ¬ (n : Int) = 44 := by omega
          have q3 : ¬ (n : Int) = 45 := by omega
          have q4 : ¬ (n : Int) = 47 := by omega
          simp [h3, h4, h5, h6, h7, h8, q1, q2, q3, q4]
      · by_cases h6 : (n : Int) ≥ 65
        · by_cases h8 : (n : Int) ≤ 90
          · simp [h3, h4, h5, h6, h8]
          · have q1 : ¬ (n : Int) = 42 := by omega
            have q2 : ¬ (n : Int) = 44 := by omega
            have q3 : ¬ (n : Int) = 45 := by omega
            have q4 : ¬ (n : Int) = 47 := by omega
            simp [h3, h4, h5, h6, h8, q1, q2, q3, q4]
        · have q1 : ¬ (n : Int) = 42 := by omega
          have q2 : ¬ (n : Int) = 44 := by omega
          have q3 : ¬ (n : Int) = 45 := by omega
          have q4 : ¬ (n : Int) = 47 := by omega
          simp [h3, h4, h5, h6, q1, q2, q3, q4]
  · have h5 : ¬ (n : Int) ≥ 97 := by omega
    have h6 : ¬ (n : Int) ≥ 65 := by omega
    by_cases q1 : (n : Int) = 42
    · simp [h3, h5, h6, q1]
    by_cases q2 : (n : Int) = 44
    · simp [h3, h5, h6, q1, q2]
    by_cases q3 : (n : Int) = 45
    · simp [h3, h5, h6, q1, q2, q3]
    by_cases q4 : (n : Int) = 47
    · simp [h3, h5, h6, q1, q2, q3, q4]
    simp [h3, h5, h6, q1, q2, q3, q4]
theorem Lex.rfields_l (s : ByteArray) (hs : s.size ≤ 256) (d : Nat) : ∀ (k i : Nat) (l : List ByteArray) (w : ByteArray), i + d = s.size → d < k → w.size ≤ i → l.length ≤ i →
    complineref17_Fields.l0 k s l w i = some (if Lex.knownAll (s.data.toList.drop i) then Lex.five (l ++ (Lex.words (s.data.toList.drop i) w.data.toList).map Lex.mk) else ([], 2)) := by
  induction d with
  | zero =>
    intro k i l w h1 hk hw hl
    obtain ⟨k, rfl⟩ : ∃ j, k = j + 1 := ⟨k - 1, by omega⟩
    have hi : i = s.size := by omega
    rw [List.drop_of_length_le (by rw [Lex.len]; omega)]
    simp only [complineref17_Fields.l0]
    rw [if_neg (by omega)]
    simp only [Lex.toList_nil, Lex.words, Lex.knownAll, List.all_nil, if_true]
    by_cases hn : w.data.toList = []
    · rw [if_pos hn, if_pos hn]
      simp only [List.map_nil, List.append_nil, Lex.five]
      by_cases h5 : l.length = 5
      · rw [if_pos (by omega), if_pos h5]
      · rw [if_neg (by omega), if_neg h5]
    · rw [if_neg hn, if_neg hn, if_pos (by omega)]
      simp only [List.map_cons, List.map_nil, Lex.mk_of, Option.bind_some, Lex.five]
      by_cases h5 : (l ++ [w]).length = 5
      · rw [if_pos (by omega), if_pos h5]
      · rw [if_neg (by omega), if_neg h5]
  | succ d ih =>
    intro k i l w h1 hk hw hl
    obtain ⟨k, rfl⟩ : ∃ j, k = j + 1 := ⟨k - 1, by omega⟩
    have hi : i < s.size := by omega
    rw [Lex.rfields_step s hs k i l w hi hw hl, Lex.knownAll_drop s i hi]
    have hdr : s.data.toList.drop i = (s[i]'hi) :: s.data.toList.drop (i + 1) := by rw [List.drop_eq_getElem_cons (by rw [Lex.len]; exact hi)]; rfl
    rw [hdr]
    simp only [Lex.words]
    cases hb : Lex.blankB (s[i]'hi)
    · simp only [Bool.false_eq_true, if_false]
      cases hkn : Lex.knownI (s[i]'hi).toNat
      · simp
      · simp only [if_true, Bool.true_and]
        have hx : (s.extract i (i + 1)).size = 1 := by
          have := congrArg List.length (Lex.one_data s i hi)
          rw [Lex.len] at this
          simpa using this
        rw [ih k (i + 1) l (w ++ s.extract i (i + 1)) (by omega) (by omega) (by rw [ByteArray.size_append]; omega) (by omega), Lex.append_data, Lex.one_data s i hi]
    · rw [Lex.blank_known hb]
      simp only [if_true, Bool.true_and]
      by_cases hn : w.data.toList = []
      · rw [if_pos hn, if_pos hn, ih k (i + 1) l ⟨#[]⟩ (by omega) (by omega) (by simp [ByteArray.size]) (by omega)]
      · rw [if_neg hn, if_neg hn, ih k (i + 1) (l ++ [w]) ⟨#[]⟩ (by omega) (by omega) (by simp [ByteArray.size]) (by simp; omega)]
        simp [Lex.mk_of]
theorem Lex.rfields_f (s : ByteArray) (k : Nat) (hk : 300 ≤ k) : complineref17_Fields.f k s = some (Lex.fields s) := by
  unfold complineref17_Fields.f
  by_cases h : 256 < s.size
  · rw [if_pos (by omega)]; unfold Lex.fields; rw [if_pos h]
  · rw [if_neg (by omega)]
    have := Lex.rfields_l s (by omega) s.size k 0 [] ⟨#[]⟩ (by omega) (by omega) (by simp [ByteArray.size]) (by simp)
    rw [show ((0 : Nat) : Int) = 0 from rfl] at this
    rw [this, Lex.fields_eq s (by omega)]
    simp only [List.drop_zero, List.nil_append, Lex.fieldsL]
    cases hk : Lex.knownAll s.data.toList
    · simp
    · simp only [if_true, Bool.true_eq_false, if_false, Lex.five, List.length_map]
      split
      · rename_i h5; rw [if_neg (by simpa using h5)]
      · simp
theorem Lex.same_l (a : List ByteArray) (d : Nat) : ∀ (k i : Nat), i + d = a.length → d < k → a.length < 1000000 → complineref17_Same.l0 k a a i = some true := by
  induction d with
  | zero =>
    intro k i h hk hl
    obtain ⟨k, rfl⟩ : ∃ j, k = j + 1 := ⟨k - 1, by omega⟩
    simp only [complineref17_Same.l0]
    rw [if_neg (by omega)]
  | succ d ih =>
    intro k i h hk hl
    obtain ⟨k, rfl⟩ : ∃ j, k = j + 1 := ⟨k - 1, by omega⟩
    simp only [complineref17_Same.l0]
    rw [if_pos (show (i : Int) < (a.length : Int) by omega), if_pos (by omega)]
    rw [if_pos (show (i : Int) < (a.length : Int) by omega)]
    simp only [if_true]
    rw [Lex.w64 (by omega) (by omega)]
    exact_mod_cast ih k (i + 1) (by omega) (by omega) hl
theorem Lex.same_f (a : List ByteArray) (k : Nat) (hk : a.length + 1 < k) (hl : a.length < 1000000) : complineref17_Same.f k a a = some true := by
  unfold complineref17_Same.f
  rw [if_pos rfl]
  exact_mod_cast Lex.same_l a a.length k 0 (by omega) (by omega) hl
theorem Lex.fields_len (s : ByteArray) : (Lex.fields s).1.length = 5 ∨ (Lex.fields s).1 = [] := by
  unfold Lex.fields
  repeat' split
  all_goals first | exact .inr rfl | (rename_i h; exact .inl (by simpa using h))
/-! The reference's numbers, names and values. -/
theorem Lex.rdigit_f (c : UInt8) : complineref17_digit.f (c.toNat : Int) = some (Lex.dig c) := by
  unfold complineref17_digit.f Lex.dig
  by_cases h : (c.toNat : Int) ≥ 48
  · rw [if_pos h]
    have : 48 ≤ c.toNat := by omega
    by_cases h2 : c.toNat ≤ 57
    · have : (c.toNat : Int) ≤ 57 := by omega
      simp [*]
    · have : ¬ (c.toNat : Int) ≤ 57 := by omega
      simp [*]
  · rw [if_neg h]
    have : ¬ 48 ≤ c.toNat := by omega
    simp [this]
theorem Lex.rnum_l (s : ByteArray) (hs : s.size ≤ 4) (d : Nat) : ∀ (k i : Nat) (z : Int), i + d = s.size → d < k → 0 ≤ z → z < 10 ^ i →
    complineref17_Number.l0 k s z i = some (match Lex.digs (s.data.toList.drop i) z with | some n => (n, 0) | none => (0, 2)) := by
  induction d with
  | zero =>
    intro k i z h hk h0 hz
    obtain ⟨k, rfl⟩ : ∃ j, k = j + 1 := ⟨k - 1, by omega⟩
    rw [List.drop_of_length_le (by rw [Lex.len]; omega)]
    simp only [complineref17_Number.l0, Lex.digs]
    rw [if_neg (by omega)]
  | succ d ih =>
    intro k i z h hk h0 hz
    obtain ⟨k, rfl⟩ : ∃ j, k = j + 1 := ⟨k - 1, by omega⟩
    have hi : i < s.size := by omega
    have hdr : s.data.toList.drop i = (s[i]'hi) :: s.data.toList.drop (i + 1) := by rw [List.drop_eq_getElem_cons (by rw [Lex.len]; exact hi)]; rfl
    rw [hdr]
    simp only [complineref17_Number.l0, Lex.digs]
    rw [if_pos (show (i : Int) < (s.size : Int) by omega), if_pos (by omega), Lex.bt_eq s i hi, Lex.rdigit_f]
    simp only [Option.bind_some]
    cases hd : Lex.dig (s[i]'hi)
    · simp
    · simp only [if_true]
      have hb : 48 ≤ (s[i]'hi).toNat ∧ (s[i]'hi).toNat ≤ 57 := by simpa [Lex.dig] using hd
      have hp : (10 : Int) ^ i ≤ 1000 := by
        have h4 : i = 0 ∨ i = 1 ∨ i = 2 ∨ i = 3 := by omega
        rcases h4 with rfl | rfl | rfl | rfl <;> decide
      have hpp : (10 : Int) ^ (i + 1) = 10 * 10 ^ i := by rw [Int.pow_succ]; omega
      have hpos : (1 : Int) ≤ 10 ^ i := by
        have h4 : i = 0 ∨ i = 1 ∨ i = 2 ∨ i = 3 := by omega
        rcases h4 with rfl | rfl | rfl | rfl <;> decide
      rw [Lex.w64 (x := 10 * z) (by omega) (by omega), Lex.w64 (x := ((s[i]'hi).toNat : Int)) (by omega) (by omega), Lex.w64 (x := 10 * z + _) (by omega) (by omega), Lex.w64 (x := 10 * z + _ - 48) (by omega) (by omega), Lex.w64 (x := (i : Int) + 1) (by omega) (by omega)]
      have := ih k (i + 1) (10 * z + (s[i]'hi).toNat - 48) (by omega) (by omega) (by omega) (by omega)
      exact_mod_cast this
theorem Lex.rnumber_f (s : ByteArray) (k : Nat) (hk : 20 ≤ k) : complineref17_Number.f k s = some (Lex.number s) := by
  obtain ⟨k, rfl⟩ : ∃ j, k = j + 1 := ⟨k - 1, by omega⟩
  unfold complineref17_Number.f Lex.number
  by_cases h0 : s.size = 0
  · rw [if_pos (by omega), if_pos (.inl h0)]; simp [complineref17_Number.j0]
  rw [if_neg (by omega)]
  by_cases h4 : 4 < s.size
  · rw [if_pos (.inr h4)]
    have : (s.size : Int) > 4 := by omega
    simp [complineref17_Number.j0, this]
  have hd : decide ((s.size : Int) > 4) = false := decide_eq_false (by omega)
  rw [hd, if_neg (by omega)]
  simp only [complineref17_Number.j0]
  rw [if_neg (by simp)]
  have := Lex.rnum_l s (by omega) s.size k 0 0 (by omega) (by omega) (by omega) (by decide)
  exact_mod_cast this
def Lex.lowB (c : UInt8) : UInt8 := UInt8.ofNat (Lex.lowI c.toNat).toNat
theorem Lex.lowS_data (s : ByteArray) : (Lex.lowS s).data.toList = s.data.toList.map Lex.lowB := by
  unfold Lex.lowS strOfNums bytesOf
  simp [Lex.lowB]
theorem Lex.lowB_id {c : UInt8} (h : ¬ (65 ≤ c.toNat ∧ c.toNat ≤ 90)) : Lex.lowB c = c := by
  unfold Lex.lowB Lex.lowI
  rw [if_neg (by omega)]
  simp
theorem Lex.rlower_l (s : ByteArray) (hs : s.size ≤ 1000000) (d : Nat) : ∀ (k i : Nat) (t : ByteArray), i + d = s.size → d < k → t.size ≤ i →
    complineref17_Lower.l0 k s t i = some (t ++ Lex.mk ((s.data.toList.drop i).map Lex.lowB)) := by
  induction d with
  | zero =>
    intro k i t h hk ht
    obtain ⟨k, rfl⟩ : ∃ j, k = j + 1 := ⟨k - 1, by omega⟩
    rw [List.drop_of_length_le (by rw [Lex.len]; omega)]
    simp only [complineref17_Lower.l0]
    rw [if_neg (by omega)]
    congr 1
    exact Lex.ext (by rw [Lex.append_data]; simp [Lex.mk])
  | succ d ih =>
    intro k i t h hk ht
    obtain ⟨k, rfl⟩ : ∃ j, k = j + 1 := ⟨k - 1, by omega⟩
    have hi : i < s.size := by omega
    have hdr : s.data.toList.drop i = (s[i]'hi) :: s.data.toList.drop (i + 1) := by rw [List.drop_eq_getElem_cons (by rw [Lex.len]; exact hi)]; rfl
    have hx : (s.extract i (i + 1)).size = 1 := by
      have := congrArg List.length (Lex.one_data s i hi)
      rw [Lex.len] at this
      simpa using this
    obtain ⟨c, hc⟩ : ∃ c, (s[i]'hi) = c := ⟨_, rfl⟩
    have hone := Lex.one_data s i hi
    rw [hdr, hc]
    rw [hc] at hone
    simp only [complineref17_Lower.l0]
    have hw1 : wrap64 ((i : Int) + 1) = ((i + 1 : Nat) : Int) := by rw [Lex.w64 (by omega) (by omega)]; omega
    have hn1 : ((i : Int)).toNat = i := by omega
    have hn2 : (((i + 1 : Nat) : Int)).toNat = i + 1 := by omega
    have a1 : (i : Int) ≤ ((i + 1 : Nat) : Int) := by omega
    have a2 : ((i + 1 : Nat) : Int) ≤ (s.size : Int) := by omega
    have a3 : t.size + 1 ≤ 9223372036854775807 := by omega
    have hcl := c.toNat_lt
    rw [if_pos (show (i : Int) < (s.size : Int) by omega), if_pos (show (0 : Int) ≤ i by omega), Lex.bt_eq s i hi, hc]
    simp only [hw1, hn1, hn2, hx, a1, a2, a3, if_true]
    have hs1 : (strOfNums [((c.toNat : Int) + 32) % 256]).size = 1 := rfl
    have hgo : ∀ u : ByteArray, u.data.toList = [Lex.lowB c] → complineref17_Lower.l0 k s (t ++ u) ((i + 1 : Nat) : Int) = some (t ++ Lex.mk ((c :: s.data.toList.drop (i + 1)).map Lex.lowB)) := by
      intro u hu
      have hus : u.size = 1 := by rw [← Lex.len, hu]; rfl
      rw [ih k (i + 1) (t ++ u) (by omega) (by omega) (by rw [ByteArray.size_append]; omega)]
      congr 1
      exact Lex.ext (by simp only [Lex.append_data, hu, Lex.mk_data, List.map_cons, List.append_assoc, List.singleton_append])
    by_cases h1 : (c.toNat : Int) ≥ 65
    · rw [if_pos h1]
      by_cases h2 : (c.toNat : Int) ≤ 90
      · rw [if_pos h2]
        simp only [Option.bind_some, hs1, a3, if_true]
        apply hgo
        unfold strOfNums Lex.lowB Lex.lowI
        rw [if_pos ⟨by omega, h2⟩, show ((c.toNat : Int) + 32) % 256 = (c.toNat : Int) + 32 by omega]
        rfl
      · rw [if_neg h2]
        exact hgo _ (by rw [hone, Lex.lowB_id (by omega)])
    · rw [if_neg h1]
      exact hgo _ (by rw [hone, Lex.lowB_id (by omega)])
theorem Lex.rlower_f (s : ByteArray) (hs : s.size ≤ 1000000) (k : Nat) (hk : s.size < k) : complineref17_Lower.f k s = some (Lex.lowS s) := by
  unfold complineref17_Lower.f
  have := Lex.rlower_l s hs s.size k 0 ⟨#[]⟩ (by omega) hk (by simp [ByteArray.size])
  rw [show ((0 : Nat) : Int) = 0 from rfl] at this
  rw [this]
  congr 1
  exact Lex.ext (by rw [Lex.append_data, Lex.lowS_data]; simp [Lex.mk])
theorem Lex.rname_l (L : List ByteArray) (nm low : ByteArray) (n : Nat) (first : Int) (hL : L.length = n) (hn : n ≤ 12) (hf : 0 ≤ first) (hf1 : first ≤ 1)
    (hx : ∀ j, j < n → rdOf ByteArray.empty L (j : Int) = nm.extract (3 * j) (3 * j + 3)) (d : Nat) : ∀ (k i : Nat), i + d = n → d < k → (∀ j, j < i → Lex.hit nm low j = false) →
    complineref17_Name.l0 k L first low i = some (Lex.look nm n first low) := by
  induction d with
  | zero =>
    intro k i h hk hno
    obtain ⟨k, rfl⟩ : ∃ j, k = j + 1 := ⟨k - 1, by omega⟩
    simp only [complineref17_Name.l0]
    rw [if_neg (by omega), Lex.look, Lex.srch_eq (Lex.hit nm low) n n 0 n (by omega) (by omega) (by omega) (fun x _ hx => hno x (by omega)) (by omega), if_neg (by omega)]
  | succ d ih =>
    intro k i h hk hno
    obtain ⟨k, rfl⟩ : ∃ j, k = j + 1 := ⟨k - 1, by omega⟩
    simp only [complineref17_Name.l0]
    rw [if_pos (show (i : Int) < (L.length : Int) by omega), if_pos (show (0 : Int) ≤ i by omega), hx i (by omega)]
    have hh : ((nm.extract (3 * i) (3 * i + 3)).toList = low.toList) ↔ Lex.hit nm low i = true := by unfold Lex.hit; rw [beq_iff_eq]
    by_cases c : Lex.hit nm low i = true
    · rw [if_pos (hh.2 c), Lex.w64 (by omega) (by omega), Lex.look, Lex.srch_eq (Lex.hit nm low) n n 0 i (by omega) (by omega) (by omega) (fun x _ hx => hno x hx) (fun _ => c), if_pos (by omega)]
    · rw [if_neg (fun h => c (hh.1 h)), Lex.w64 (by omega) (by omega)]
      have := ih k (i + 1) (by omega) (by omega) (fun j hj => by
        by_cases e : j = i
        · rw [e]; simpa using c
        · exact hno j (by omega))
      exact_mod_cast this
theorem Lex.rname_f (s : ByteArray) (kind : Int) (k : Nat) (hk : 40 ≤ k) : complineref17_Name.f k s kind = some (Lex.name s kind) := by
  obtain ⟨k, rfl⟩ : ∃ j, k = j + 1 + 1 := ⟨k - 2, by omega⟩
  unfold complineref17_Name.f Lex.name Lex.namesOf
  by_cases h3 : s.size = 3
  · rw [if_pos (by omega), if_neg (show ¬ (s.size ≠ 3) by omega)]
    by_cases k3 : kind = 3
    · subst k3
      simp only [if_true, complineref17_Name.j0, complineref17_Name.j1]
      rw [if_neg (show ¬ (3 : Int) = 4 by decide), Lex.rlower_f s (by omega) _ (by omega)]
      simp only [Option.bind_some]
      have := Lex.rname_l [⟨#[106, 97, 110]⟩, ⟨#[102, 101, 98]⟩, ⟨#[109, 97, 114]⟩, ⟨#[97, 112, 114]⟩, ⟨#[109, 97, 121]⟩, ⟨#[106, 117, 110]⟩, ⟨#[106, 117, 108]⟩, ⟨#[97, 117, 103]⟩, ⟨#[115, 101, 112]⟩, ⟨#[111, 99, 116]⟩, ⟨#[110, 111, 118]⟩, ⟨#[100, 101, 99]⟩] Lex.months (Lex.lowS s) 12 1 rfl (by decide) (by decide) (by decide) (by decide +kernel) 12 k 0 (by omega) (by omega) (by intro j hj; omega)
      exact_mod_cast this
    · rw [if_neg k3, if_neg k3]
      by_cases k4 : kind = 4
      · subst k4
        simp only [complineref17_Name.j0, complineref17_Name.j1]
        simp only [if_true]
        rw [Lex.rlower_f s (by omega) _ (by omega)]
        simp only [Option.bind_some]
        have := Lex.rname_l [⟨#[115, 117, 110]⟩, ⟨#[109, 111, 110]⟩, ⟨#[116, 117, 101]⟩, ⟨#[119, 101, 100]⟩, ⟨#[116, 104, 117]⟩, ⟨#[102, 114, 105]⟩, ⟨#[115, 97, 116]⟩] Lex.days (Lex.lowS s) 7 0 rfl (by decide) (by decide) (by decide) (by decide +kernel) 7 k 0 (by omega) (by omega) (by intro j hj; omega)
        exact_mod_cast this
      · simp only [complineref17_Name.j0, complineref17_Name.j1]
        rw [if_neg k4, if_neg k4, Lex.rlower_f s (by omega) _ (by omega)]
        simp only [Option.bind_some]
        have := Lex.rname_l [] ⟨#[]⟩ (Lex.lowS s) 0 0 rfl (by decide) (by decide) (by decide) (by intro j hj; omega) 0 k 0 (by omega) (by omega) (by intro j hj; omega)
        exact_mod_cast this
  · rw [if_neg (by omega), if_pos h3]
theorem Lex.rlimits_f (kind : Int) : complineref17_Limits.f kind = some (Lex.limits kind) := by
  unfold complineref17_Limits.f Lex.limits
  repeat' split
  all_goals rfl
theorem Lex.name_neg (s : ByteArray) (kind : Int) : (Lex.name s kind).2 ≠ 0 → (Lex.name s kind).1 = 0 := by
  unfold Lex.name Lex.look
  repeat' split
  all_goals simp
theorem Lex.number_neg (s : ByteArray) : (Lex.number s).2 ≠ 0 → (Lex.number s).1 = 0 := by
  unfold Lex.number
  repeat' split
  all_goals simp
theorem Lex.read_neg (s : ByteArray) (kind : Int) : (Lex.read s kind).2 ≠ 0 → (Lex.read s kind).1 = 0 := by
  unfold Lex.read
  split
  · exact Lex.number_neg s
  · exact Lex.name_neg s kind
theorem Lex.rvalue_j1 (lo hi n e : Int) (k : Nat) (hn : e ≠ 0 → n = 0) : complineref17_Value.j1 (k + 1) lo hi n e = some (Lex.fin lo hi (n, e)) := by
  simp only [complineref17_Value.j1]
  unfold Lex.fin
  by_cases h : e = 0
  · subst h
    rw [if_pos rfl]
    by_cases h1 : n < lo
    · rw [if_pos h1, if_pos ⟨rfl, .inl h1⟩]
    · rw [if_neg h1]
      by_cases h2 : hi < n
      · rw [if_pos h2, if_pos ⟨rfl, .inr h2⟩]
      · rw [if_neg h2, if_neg (by simp; omega)]
  · rw [if_neg h, if_neg (fun x => h x.1), hn h]
theorem Lex.rvalue_f (s : ByteArray) (kind : Int) (k : Nat) (hk : 60 ≤ k) : complineref17_Value.f k s kind = some (Lex.value s kind) := by
  obtain ⟨k, rfl⟩ : ∃ j, k = j + 1 + 1 := ⟨k - 2, by omega⟩
  unfold complineref17_Value.f Lex.value
  rw [Lex.rlimits_f]
  simp only [Option.bind_some]
  by_cases h : (Lex.limits kind).2.2 = 0
  · rw [if_pos h, if_neg (show ¬ ((Lex.limits kind).2.2 ≠ 0) by omega)]
    have hrn := Lex.read_neg s kind
    by_cases h0 : s.size = 0
    · rw [if_neg (show ¬ (s.size : Int) > 0 by omega)]
      simp only [complineref17_Value.j0]
      rw [if_neg (by simp), Lex.rname_f _ _ _ (by omega)]
      have hr : Lex.read s kind = Lex.name s kind := by unfold Lex.read; rw [if_neg (by simp [bt, h0])]
      rw [hr] at hrn ⊢
      simp only [Option.bind_some]
      exact Lex.rvalue_j1 _ _ _ _ _ hrn
    · have hi : 0 < s.size := by omega
      have hbt : bt s 0 = ((s[0]'hi).toNat : Int) := Lex.bt_eq s 0 hi
      rw [if_pos (show (s.size : Int) > 0 by omega), if_pos (show (0 : Int) < s.size by omega), hbt, Lex.rdigit_f]
      simp only [Option.bind_some, complineref17_Value.j0]
      cases hd : Lex.dig (s[0]'hi)
      · have hn : ¬ (48 ≤ (s[0]'hi).toNat ∧ (s[0]'hi).toNat ≤ 57) := by simpa [Lex.dig] using hd
        have hr : Lex.read s kind = Lex.name s kind := by unfold Lex.read; rw [if_neg (by rw [hbt]; omega)]
        rw [if_neg (by simp), Lex.rname_f _ _ _ (by omega)]
        rw [hr] at hrn ⊢
        simp only [Option.bind_some]
        exact Lex.rvalue_j1 _ _ _ _ _ hrn
      · have hn : 48 ≤ (s[0]'hi).toNat ∧ (s[0]'hi).toNat ≤ 57 := by simpa [Lex.dig] using hd
        have hr : Lex.read s kind = Lex.number s := by unfold Lex.read; rw [if_pos (by rw [hbt]; omega)]
        rw [if_pos rfl, Lex.rnumber_f _ _ (by omega)]
        rw [hr] at hrn ⊢
        simp only [Option.bind_some]
        exact Lex.rvalue_j1 _ _ _ _ _ hrn
  · rw [if_neg h, if_pos h]
/-! The laws of lex, over numbers and lists. -/
theorem Lex.works_f (k : Nat) (hk : 100 ≤ k) : complinelaw17_works.f k = some true := by
  have hF : Lex.fields ⟨#[32, 48, 32, 49, 50, 32, 32, 42, 32, 74, 65, 78, 45, 109, 97, 114, 32, 49, 47, 50, 32]⟩ = ([⟨#[48]⟩, ⟨#[49, 50]⟩, ⟨#[42]⟩, ⟨#[74, 65, 78, 45, 109, 97, 114]⟩, ⟨#[49, 47, 50]⟩], 0) := by
    rw [Lex.fields_eq _ (by decide)]
    decide +kernel
  have hV1 : Lex.value ⟨#[84, 117, 101]⟩ 4 = (2, 0) := by decide +kernel
  have hV2 : Lex.value ⟨#[48, 48, 55]⟩ 4 = (7, 0) := by decide +kernel
  have hV3 : Lex.value ⟨#[56]⟩ 4 = (0, 1) := by decide +kernel
  have hV4 : Lex.value ⟨#[106, 97, 110]⟩ 4 = (0, 2) := by decide +kernel
  have hN : Lex.number ⟨#[48, 48, 52, 50]⟩ = (42, 0) := by decide +kernel
  have hM : Lex.name ⟨#[68, 69, 67]⟩ 3 = (12, 0) := by decide +kernel
  unfold complinelaw17_works.f
  simp only [lex_Fields.f, lex_Value.f, lex_Number.f, lex_Name.f, hF, hV1, hV2, hV3, hV4, hN, hM, Option.bind_some]
  rw [Lex.same_f _ k (by simp; omega) (by simp), Lex.limits_f]
  simp [Lex.limits]
theorem LexFields_p : complinelaw17_LexFields.Pure := by
  intro s _
  refine ⟨400, ?_⟩
  unfold complinelaw17_LexFields.f
  rw [Lex.works_f _ (by omega)]
  simp only [Option.bind_some, if_true]
  by_cases h : (s.size : Int) > 400
  · rw [if_pos h]
  · rw [if_neg h]
    simp only [lex_Fields.f, Option.bind_some]
    rw [Lex.rfields_f _ _ (by omega)]
    simp only [Option.bind_some]
    have hl := Lex.fields_len s
    rw [Lex.same_f _ _ (by rcases hl with h | h <;> simp [h]) (by rcases hl with h | h <;> simp [h])]
    simp
theorem LexValues_p : complinelaw17_LexValues.Pure := by
  intro s kind _ _
  refine ⟨400, ?_⟩
  unfold complinelaw17_LexValues.f
  rw [Lex.works_f _ (by omega)]
  simp only [Option.bind_some, if_true]
  by_cases h : (s.size : Int) > 400
  · rw [if_pos h]
  · rw [if_neg h]
    simp only [lex_Value.f, lex_Number.f, lex_Name.f, Option.bind_some]
    rw [Lex.rvalue_f _ _ _ (by omega), Lex.rnumber_f _ _ (by omega), Lex.rname_f _ _ _ (by omega), Lex.limits_f, Lex.rlimits_f]
    simp
theorem Lex.lowB_idem (c : UInt8) : Lex.lowB (Lex.lowB c) = Lex.lowB c := by
  by_cases h : 65 ≤ c.toNat ∧ c.toNat ≤ 90
  · apply Lex.lowB_id
    unfold Lex.lowB Lex.lowI
    rw [if_pos (by omega)]
    have : ((c.toNat : Int) + 32).toNat = c.toNat + 32 := by omega
    rw [this, UInt8.toNat_ofNat']
    omega
  · rw [Lex.lowB_id h]; exact Lex.lowB_id h
theorem Lex.lowS_size (s : ByteArray) : (Lex.lowS s).size = s.size := by
  rw [← Lex.len, Lex.lowS_data, List.length_map, Lex.len]
theorem Lex.lowS_idem (s : ByteArray) : Lex.lowS (Lex.lowS s) = Lex.lowS s := by
  apply Lex.ext
  rw [Lex.lowS_data, Lex.lowS_data, List.map_map]
  apply List.map_congr_left
  intro c _
  exact Lex.lowB_idem c
theorem Lex.dig_low (c : UInt8) : Lex.dig (Lex.lowB c) = Lex.dig c := by
  by_cases h : 65 ≤ c.toNat ∧ c.toNat ≤ 90
  · have e : (Lex.lowB c).toNat = c.toNat + 32 := by
      unfold Lex.lowB Lex.lowI
      rw [if_pos (by omega), show ((c.toNat : Int) + 32).toNat = c.toNat + 32 by omega, UInt8.toNat_ofNat']
      omega
    unfold Lex.dig
    rw [e, Bool.eq_iff_iff]
    simp
    omega
  · rw [Lex.lowB_id h]
theorem Lex.lowB_dig {c : UInt8} (h : Lex.dig c = true) : Lex.lowB c = c := by
  apply Lex.lowB_id
  have : 48 ≤ c.toNat ∧ c.toNat ≤ 57 := by simpa [Lex.dig] using h
  omega
theorem Lex.digs_low (l : List UInt8) : ∀ z, Lex.digs (l.map Lex.lowB) z = Lex.digs l z := by
  induction l with
  | nil => intro z; rfl
  | cons c l ih =>
    intro z
    simp only [List.map_cons, Lex.digs, Lex.dig_low]
    cases hd : Lex.dig c
    · simp
    · simp only [if_true]
      rw [Lex.lowB_dig hd, ih]
theorem Lex.number_low (s : ByteArray) : Lex.number (Lex.lowS s) = Lex.number s := by
  unfold Lex.number
  rw [Lex.lowS_size, Lex.lowS_data, Lex.digs_low]
theorem Lex.name_low (s : ByteArray) (kind : Int) : Lex.name (Lex.lowS s) kind = Lex.name s kind := by
  unfold Lex.name
  rw [Lex.lowS_size, Lex.lowS_idem]
theorem Lex.read_low (s : ByteArray) (kind : Int) : Lex.read (Lex.lowS s) kind = Lex.read s kind := by
  unfold Lex.read
  rw [Lex.number_low, Lex.name_low]
  by_cases h0 : s.size = 0
  · have h1 : (Lex.lowS s).size = 0 := by rw [Lex.lowS_size]; exact h0
    simp [bt, h0, h1]
  · have hi : 0 < s.size := by omega
    have hi' : 0 < (Lex.lowS s).size := by rw [Lex.lowS_size]; exact hi
    have e : (Lex.lowS s)[0]'hi' = Lex.lowB (s[0]'hi) := by
      have h1 : (Lex.lowS s).data.toList[0]'(by rw [Lex.len]; exact hi') = (s.data.toList.map Lex.lowB)[0]'(by rw [List.length_map, Lex.len]; exact hi) := by simp [Lex.lowS_data]
      rw [List.getElem_map] at h1
      exact h1
    have b1 : bt s 0 = ((s[0]'hi).toNat : Int) := Lex.bt_eq s 0 hi
    have b2 : bt (Lex.lowS s) 0 = (((Lex.lowS s)[0]'hi').toNat : Int) := Lex.bt_eq (Lex.lowS s) 0 hi'
    have hd := Lex.dig_low (s[0]'hi)
    rw [b1, b2, e]
    unfold Lex.dig at hd
    rw [Bool.eq_iff_iff] at hd
    simp only [Bool.and_eq_true, decide_eq_true_eq] at hd
    by_cases c : 48 ≤ (s[0]'hi).toNat ∧ (s[0]'hi).toNat ≤ 57
    · have := hd.2 c
      rw [if_pos (by omega), if_pos (by omega)]
    · have : ¬ (48 ≤ (Lex.lowB (s[0]'hi)).toNat ∧ (Lex.lowB (s[0]'hi)).toNat ≤ 57) := fun x => c (hd.1 x)
      rw [if_neg (by omega), if_neg (by omega)]
theorem LexCase_p : complinelaw17_LexCase.Pure := by
  intro s kind _ _
  refine ⟨500, ?_⟩
  unfold complinelaw17_LexCase.f
  rw [Lex.works_f _ (by omega)]
  simp only [Option.bind_some, if_true]
  by_cases h : (s.size : Int) > 400
  · rw [if_pos h]
  · rw [if_neg h, Lex.rlower_f s (by omega) _ (by omega)]
    simp only [lex_Value.f, lex_Name.f, Option.bind_some]
    rw [Lex.name_low, show Lex.value (Lex.lowS s) kind = Lex.value s kind by unfold Lex.value; rw [Lex.read_low]]
    simp
/-! A number by its digits. -/
def Lex.decs : Nat → Nat → List UInt8 → List UInt8
  | 0, _, t => t
  | f + 1, m, t => if 0 < m ∨ t = [] then Lex.decs f (m / 10) (UInt8.ofNat (48 + m % 10) :: t) else t
theorem Lex.digit_byte (m : Nat) : strOfNums [(wrap64 (48 + Int.tmod (m : Int) 10)) % 256] = Lex.mk [UInt8.ofNat (48 + m % 10)] := by
  rw [Int.tmod_eq_emod_of_nonneg (by omega), Lex.w64 (by omega) (by omega)]
  unfold strOfNums Lex.mk
  have : ((48 + (m : Int) % 10) % 256).toNat = 48 + m % 10 := by omega
  simp [this]
theorem Lex.l0_ok (n z kind : Int) : ∀ (f m k : Nat) (s : ByteArray), s.size + f ≤ 100 → m < 10 ^ f → m < 1000000 → (s.data.toList = [] → 0 < f) → f + 50 < k →
    (∀ k', 50 ≤ k' → complinelaw17_LexDigits.l1 k' n z kind true (Lex.mk (Lex.decs f m s.data.toList)) 0 = some true) → complinelaw17_LexDigits.l0 k n z kind true s m = some true := by
  intro f
  induction f with
  | zero =>
    intro m k s h1 h2 h3 h4 hk hl
    obtain ⟨k, rfl⟩ : ∃ j, k = j + 1 := ⟨k - 1, by omega⟩
    have hm : m = 0 := by simpa using h2
    subst hm
    simp only [complinelaw17_LexDigits.l0]
    rw [if_neg (by omega), if_neg (by rw [Lex.toList_nil]; intro e; exact absurd (h4 e) (by omega))]
    have := hl k (by omega)
    simpa [Lex.decs, Lex.mk_of] using this
  | succ f ih =>
    intro m k s h1 h2 h3 h4 hk hl
    obtain ⟨k, rfl⟩ : ∃ j, k = j + 1 := ⟨k - 1, by omega⟩
    have hd : ((m : Int).tdiv 10) = ((m / 10 : Nat) : Int) := by rw [Int.tdiv_eq_ediv_of_nonneg (by omega)]; omega
    have hw : wrap64 ((m / 10 : Nat) : Int) = ((m / 10 : Nat) : Int) := Lex.w64 (by omega) (by omega)
    have hs1 : (Lex.mk [UInt8.ofNat (48 + m % 10)]).size = 1 := rfl
    have hgo : (0 < m ∨ s.data.toList = []) → complinelaw17_LexDigits.l0 k n z kind true (Lex.mk [UInt8.ofNat (48 + m % 10)] ++ s) ((m / 10 : Nat) : Int) = some true := by
      intro hc
      have hdat : (Lex.mk [UInt8.ofNat (48 + m % 10)] ++ s).data.toList = UInt8.ofNat (48 + m % 10) :: s.data.toList := by rw [Lex.append_data]; rfl
      refine ih (m / 10) k _ (by rw [ByteArray.size_append, hs1]; omega) (by rw [Nat.pow_succ] at h2; omega) (by omega) (by rw [hdat]; intro e; cases e) (by omega) ?_
      intro k' hk'
      have := hl k' hk'
      rw [hdat]
      simp only [Lex.decs] at this
      rw [if_pos hc] at this
      exact this
    have hsz : (Lex.mk [UInt8.ofNat (48 + m % 10)]).size + s.size ≤ 9223372036854775807 := by rw [hs1]; omega
    simp only [complinelaw17_LexDigits.l0, Option.bind_some, Lex.digit_byte, hd, hw]
    by_cases hm : (m : Int) > 0
    · rw [if_pos hm, if_pos hsz]
      exact hgo (.inl (by omega))
    · rw [if_neg hm]
      by_cases he : s.data.toList = []
      · rw [if_pos ((Lex.toList_nil s).2 he), if_pos hsz]
        exact hgo (.inr he)
      · rw [if_neg (fun e => he ((Lex.toList_nil s).1 e))]
        have := hl k (by omega)
        simp only [Lex.decs] at this
        rw [if_neg (by rintro (e | e); · omega
                       · exact he e), Lex.mk_of] at this
        exact this
theorem Lex.l1_ok (n z kind : Int) : ∀ (d k : Nat) (i : Int) (t : List UInt8), 0 ≤ i → i + d = z → t.length + d ≤ 100 → d + 5 < k →
    (∀ k', 5 ≤ k' → complinelaw17_LexDigits.l1 k' n 0 kind true (Lex.mk (List.replicate d 48 ++ t)) 0 = some true) → z ≤ 3 →
    (∀ k', 5 ≤ k' → ∀ u, complinelaw17_LexDigits.l1 k' n z kind true u z = complinelaw17_LexDigits.l1 k' n 0 kind true u 0) → complinelaw17_LexDigits.l1 k n z kind true (Lex.mk t) i = some true := by
  intro d
  induction d with
  | zero =>
    intro k i t h0 h1 h2 hk hl hz hsame
    obtain rfl : i = z := by omega
    rw [hsame k (by omega)]
    exact hl k (by omega)
  | succ d ih =>
    intro k i t h0 h1 h2 hk hl hz hsame
    obtain ⟨k, rfl⟩ : ∃ j, k = j + 1 := ⟨k - 1, by omega⟩
    simp only [complinelaw17_LexDigits.l1]
    rw [if_pos (by omega), if_pos (by rw [Lex.mk_size]; omega), Lex.w64 (by omega) (by omega)]
    have e : (⟨#[48]⟩ : ByteArray) ++ Lex.mk t = Lex.mk (48 :: t) := Lex.ext (by rw [Lex.append_data]; rfl)
    rw [e]
    refine ih k (i + 1) (48 :: t) (by omega) (by omega) (by simp; omega) (by omega) ?_ hz hsame
    intro k' hk'
    have := hl k' hk'
    rwa [show List.replicate (d + 1) (48 : UInt8) ++ t = List.replicate d 48 ++ 48 :: t by
      rw [List.replicate_succ', List.append_assoc]; rfl] at this
theorem Lex.byte_toNat {m : Nat} (h : m < 256) : (UInt8.ofNat m).toNat = m := by rw [UInt8.toNat_ofNat']; omega
theorem Lex.digs_step (m : Nat) (hm : m < 10) (l : List UInt8) (z : Int) : Lex.digs (UInt8.ofNat (48 + m) :: l) z = Lex.digs l (10 * z + m) := by
  have e := Lex.byte_toNat (m := 48 + m) (by omega)
  have hd : Lex.dig (UInt8.ofNat (48 + m)) = true := by unfold Lex.dig; rw [e]; simp; omega
  simp only [Lex.digs, hd, if_true]
  rw [e]
  congr 1
  omega
theorem Lex.decs_is (n : Nat) (h : n ≤ 9999) : ∃ l, Lex.decs 5 n [] = l ∧ Lex.digs l 0 = some (n : Int) ∧ 1 ≤ l.length ∧ l.length ≤ 4 ∧ (∀ c ∈ l, Lex.dig c = true) := by
  have hdig : ∀ m, Lex.dig (UInt8.ofNat (48 + m % 10)) = true := by
    intro m
    unfold Lex.dig; rw [Lex.byte_toNat (by omega)]; simp; omega
  refine ⟨_, rfl, ?_⟩
  simp only [Lex.decs]
  rw [if_pos (by simp)]
  by_cases h1 : 0 < n / 10
  · rw [if_pos (.inl h1)]
    by_cases h2 : 0 < n / 10 / 10
    · rw [if_pos (.inl h2)]
      by_cases h3 : 0 < n / 10 / 10 / 10
      · rw [if_pos (.inl h3), if_neg (by simp; omega)]
        refine ⟨?_, by simp, by simp, ?_⟩
        · rw [Lex.digs_step _ (by omega), Lex.digs_step _ (by omega), Lex.digs_step _ (by omega), Lex.digs_step _ (by omega)]
          simp only [Lex.digs]; congr 1; omega
        · intro c hc
          simp only [List.mem_cons, List.not_mem_nil, or_false] at hc
          rcases hc with rfl | rfl | rfl | rfl <;> exact hdig _
      · rw [if_neg (by simp; omega)]
        refine ⟨?_, by simp, by simp, ?_⟩
        · rw [Lex.digs_step _ (by omega), Lex.digs_step _ (by omega), Lex.digs_step _ (by omega)]
          simp only [Lex.digs]; congr 1; omega
        · intro c hc
          simp only [List.mem_cons, List.not_mem_nil, or_false] at hc
          rcases hc with rfl | rfl | rfl <;> exact hdig _
    · rw [if_neg (by simp; omega)]
      refine ⟨?_, by simp, by simp, ?_⟩
      · rw [Lex.digs_step _ (by omega), Lex.digs_step _ (by omega)]
        simp only [Lex.digs]; congr 1; omega
      · intro c hc
        simp only [List.mem_cons, List.not_mem_nil, or_false] at hc
        rcases hc with rfl | rfl <;> exact hdig _
  · rw [if_neg (by simp; omega)]
    refine ⟨?_, by simp, by simp, ?_⟩
    · rw [Lex.digs_step _ (by omega)]
      simp only [Lex.digs]; congr 1; omega
    · intro c hc
      simp only [List.mem_cons, List.not_mem_nil, or_false] at hc
      subst hc
      exact hdig _
theorem Lex.digs_zeros (d : Nat) (l : List UInt8) : Lex.digs (List.replicate d 48 ++ l) 0 = Lex.digs l 0 := by
  induction d with
  | zero => rfl
  | succ d ih =>
    rw [List.replicate_succ, List.cons_append]
    have := Lex.digs_step 0 (by omega) (List.replicate d 48 ++ l) 0
    simpa [ih] using this
theorem Lex.digits_end (n : Nat) (hn : n ≤ 9999) (d : Nat) (hd : d ≤ 3) (kind : Int) (k' : Nat) (hk : 5 ≤ k') :
    complinelaw17_LexDigits.l1 k' n 0 kind true (Lex.mk (List.replicate d 48 ++ Lex.decs 5 n [])) 0 = some true := by
  obtain ⟨k, rfl⟩ : ∃ j, k' = j + 1 + 1 := ⟨k' - 2, by omega⟩
  obtain ⟨l, hl, hv, hl1, hl4, hall⟩ := Lex.decs_is n hn
  rw [hl]
  obtain ⟨S, hS⟩ : ∃ S, Lex.mk (List.replicate d 48 ++ l) = S := ⟨_, rfl⟩
  have hsz : S.size = d + l.length := by rw [← hS, Lex.mk_size]; simp
  have hdig : Lex.digs S.data.toList 0 = some (n : Int) := by rw [← hS, Lex.mk_data, Lex.digs_zeros, hv]
  rw [hS]
  simp only [complinelaw17_LexDigits.l1]
  rw [if_neg (by omega)]
  simp only [lex_Number.f, lex_Value.f, Option.bind_some, Lex.limits_f]
  by_cases h4 : 4 < S.size
  · have hnum : Lex.number S = (0, 2) := by unfold Lex.number; rw [if_pos (.inr h4)]
    rw [if_pos (by omega), hnum]
    simp
  · have hnum : Lex.number S = ((n : Int), 0) := by unfold Lex.number; rw [if_neg (by omega), hdig]
    have hi : 0 < S.size := by omega
    have hfirst : Lex.dig (S[0]'hi) = true := by
      have e : S[0]'hi = (List.replicate d 48 ++ l)[0]'(by simp; omega) := by subst hS; rfl
      rw [e]
      have hm := List.getElem_mem (l := List.replicate d (48 : UInt8) ++ l) (n := 0) (by simp; omega)
      rcases List.mem_append.1 hm with h | h
      · rw [List.eq_of_mem_replicate h]; decide
      · exact hall _ h
    have hb : 48 ≤ (S[0]'hi).toNat ∧ (S[0]'hi).toNat ≤ 57 := by simpa [Lex.dig] using hfirst
    have b1 : bt S 0 = ((S[0]'hi).toNat : Int) := Lex.bt_eq S 0 hi
    have hread : Lex.read S kind = ((n : Int), 0) := by
      unfold Lex.read
      rw [if_pos (by rw [b1]; omega), hnum]
    rw [if_neg (by omega), hnum]
    unfold Lex.value
    rw [hread]
    simp only [if_true]
    have e0 : ((0 : Int) != 0) = false := rfl
    rw [e0]
    simp only [complinelaw17_LexDigits.j3]
    rw [if_neg (by simp)]
    obtain ⟨lo, hi', e, hlim⟩ : ∃ lo hi e, Lex.limits kind = (lo, hi, e) := ⟨_, _, _, rfl⟩
    rw [hlim]
    simp only
    by_cases he : e = 0
    · subst he
      unfold Lex.fin
      simp only [ne_eq, not_true_eq_false, if_false, if_true, true_and]
      by_cases c1 : (n : Int) < lo
      · have h : ¬ (n : Int) ≥ lo := by omega
        have h' : ¬ lo ≤ (n : Int) := by omega
        simp [c1, h, h']
      · have h : (n : Int) ≥ lo := by omega
        have h' : lo ≤ (n : Int) := by omega
        by_cases c2 : hi' < (n : Int)
        · have g : ¬ (n : Int) ≤ hi' := by omega
          simp [c1, c2, h, h', g]
        · have g : (n : Int) ≤ hi' := by omega
          simp [c1, c2, h, h', g]
    · rw [if_neg he, if_pos he]
      simp
theorem LexDigits_p : complinelaw17_LexDigits.Pure := by
  intro n z kind _ _ _
  refine ⟨500, ?_⟩
  unfold complinelaw17_LexDigits.f
  rw [Lex.works_f _ (by omega)]
  simp only [Option.bind_some, if_true]
  by_cases h1 : n < 0
  · rw [if_pos h1]; simp [complinelaw17_LexDigits.j0]
  rw [if_neg h1]
  by_cases h2 : n > 9999
  · rw [if_pos h2]; simp [complinelaw17_LexDigits.j0]
  rw [if_neg h2]
  by_cases h3 : z < 0
  · rw [if_pos h3]; simp [complinelaw17_LexDigits.j0]
  rw [if_neg h3]
  by_cases h4 : 3 < z
  · simp [complinelaw17_LexDigits.j0, h4]
  have hd : decide (z > 3) = false := decide_eq_false (by omega)
  rw [hd, show (500 : Nat) = 499 + 1 by rfl]
  simp only [complinelaw17_LexDigits.j0]
  rw [if_neg (by simp)]
  obtain ⟨m, rfl⟩ : ∃ m : Nat, n = m := ⟨n.toNat, by omega⟩
  refine Lex.l0_ok (m : Int) z kind 5 m 499 ⟨#[]⟩ (by simp [ByteArray.size]) (by omega) (by omega) (by omega) (by omega) ?_
  intro k' hk'
  refine Lex.l1_ok (m : Int) z kind z.toNat k' 0 _ (by omega) (by omega) ?_ (by omega) ?_ (by omega) ?_
  · have := (Lex.decs_is m (by omega))
    obtain ⟨l, hl, _, _, h4, _⟩ := this
    rw [show (⟨#[]⟩ : ByteArray).data.toList = [] from rfl, hl]; omega
  · intro k2 hk2
    exact Lex.digits_end m (by omega) z.toNat (by omega) kind k2 hk2
  · intro k2 hk2 u
    obtain ⟨k, rfl⟩ : ∃ j, k2 = j + 1 := ⟨k2 - 1, by omega⟩
    simp only [complinelaw17_LexDigits.l1]
    rw [if_neg (by omega), if_neg (by omega)]
/-! Words joined by blanks. -/
theorem Lex.words_run (b : UInt8) (hb : Lex.blankB b = true) (x : List UInt8) : ∀ (w acc : List UInt8), (∀ c ∈ w, Lex.blankB c = false) → acc ++ w ≠ [] → Lex.words (w ++ b :: x) acc = (acc ++ w) :: Lex.words x [] := by
  intro w
  induction w with
  | nil =>
    intro acc _ h2
    have h2' : acc ≠ [] := by simpa using h2
    simp [Lex.words, hb, h2']
  | cons c w ih =>
    intro acc h1 h2
    simp only [List.cons_append, Lex.words]
    rw [h1 c (by simp)]
    simp only [Bool.false_eq_true, if_false]
    rw [ih (acc ++ [c]) (fun d hd => h1 d (by simp [hd])) (by simp)]
    simp
theorem Lex.words_last : ∀ (w acc : List UInt8), (∀ c ∈ w, Lex.blankB c = false) → acc ++ w ≠ [] → Lex.words w acc = [acc ++ w] := by
  intro w
  induction w with
  | nil =>
    intro acc _ h2
    have h2' : acc ≠ [] := by simpa using h2
    simp [Lex.words, h2']
  | cons c w ih =>
    intro acc h1 h2
    simp only [Lex.words]
    rw [h1 c (by simp)]
    simp only [Bool.false_eq_true, if_false]
    rw [ih (acc ++ [c]) (fun d hd => h1 d (by simp [hd])) (by simp)]
    simp
theorem Lex.words_good : ∀ (l acc : List UInt8), (∀ c ∈ acc, Lex.blankB c = false) → ∀ u ∈ Lex.words l acc, u ≠ [] ∧ ∀ c ∈ u, Lex.blankB c = false := by
  intro l
  induction l with
  | nil =>
    intro acc h u hu
    by_cases e : acc = []
    · simp [Lex.words, e] at hu
    · simp only [Lex.words, if_neg e, List.mem_singleton] at hu
      subst hu; exact ⟨e, h⟩
  | cons c l ih =>
    intro acc h u hu
    simp only [Lex.words] at hu
    cases hc : Lex.blankB c
    · simp only [hc, Bool.false_eq_true, if_false] at hu
      exact ih _ (by intro d hd; rcases List.mem_append.1 hd with h1 | h1
                     · exact h d h1
                     · rw [List.mem_singleton.1 h1]; exact hc) u hu
    · simp only [hc, if_true] at hu
      by_cases e : acc = []
      · rw [if_pos e] at hu
        exact ih _ (by simp) u hu
      · rw [if_neg e] at hu
        rcases List.mem_cons.1 hu with h1 | h1
        · subst h1; exact ⟨e, h⟩
        · exact ih _ (by simp) u h1
theorem Lex.words_blank (b : UInt8) (hb : Lex.blankB b = true) (x : List UInt8) : Lex.words (b :: x) [] = Lex.words x [] := by simp [Lex.words, hb]
theorem Lex.blank_known1 (b : UInt8) (hb : Lex.blankB b = true) : Lex.knownAll [b] = true := by
  have h : b = 32 ∨ b = 9 := by
    unfold Lex.blankB Lex.blankN at hb
    simp at hb
    rcases hb with h | h
    · exact .inl (UInt8.toNat_inj.1 (by simpa using h))
    · exact .inr (UInt8.toNat_inj.1 (by simpa using h))
  rcases h with rfl | rfl <;> decide
theorem Lex.known_append (a b : List UInt8) : Lex.knownAll (a ++ b) = (Lex.knownAll a && Lex.knownAll b) := by simp [Lex.knownAll, List.all_append]
/-- A valid word, as the law asks it. -/
theorem Lex.valid_word (w : ByteArray) (hs : w.size ≤ 30) (h2 : (Lex.fields ((⟨#[48, 32, 48, 32, 48, 32, 48, 32]⟩ : ByteArray) ++ w)).2 = 0) (h4 : rdOf ByteArray.empty (Lex.fields ((⟨#[48, 32, 48, 32, 48, 32, 48, 32]⟩ : ByteArray) ++ w)).1 4 = w) :
    Lex.knownAll w.data.toList = true ∧ w.data.toList ≠ [] ∧ ∀ c ∈ w.data.toList, Lex.blankB c = false := by
  have hd : ((⟨#[48, 32, 48, 32, 48, 32, 48, 32]⟩ : ByteArray) ++ w).data.toList = 48 :: 32 :: 48 :: 32 :: 48 :: 32 :: 48 :: 32 :: w.data.toList := by rw [Lex.append_data]; rfl
  have hsz : ((⟨#[48, 32, 48, 32, 48, 32, 48, 32]⟩ : ByteArray) ++ w).size ≤ 256 := by
    rw [← Lex.len, hd]; simp only [List.length_cons]; rw [Lex.len]; omega
  rw [Lex.fields_eq _ hsz, hd] at h2 h4
  have hw : Lex.words (48 :: 32 :: 48 :: 32 :: 48 :: 32 :: 48 :: 32 :: w.data.toList) [] = [48] :: [48] :: [48] :: [48] :: Lex.words w.data.toList [] := by
    have n : Lex.blankB 48 = false := by decide
    have y : Lex.blankB 32 = true := by decide
    simp [Lex.words, n, y]
  have hk : Lex.knownAll (48 :: 32 :: 48 :: 32 :: 48 :: 32 :: 48 :: 32 :: w.data.toList) = Lex.knownAll w.data.toList := by
    rw [show (48 :: 32 :: 48 :: 32 :: 48 :: 32 :: 48 :: 32 :: w.data.toList : List UInt8) = [48, 32, 48, 32, 48, 32, 48, 32] ++ w.data.toList from rfl, Lex.known_append]
    rw [show Lex.knownAll [48, 32, 48, 32, 48, 32, 48, 32] = true by decide, Bool.true_and]
  unfold Lex.fieldsL at h2 h4
  rw [hk, hw] at h2 h4
  cases hkw : Lex.knownAll w.data.toList
  · rw [hkw] at h2; simp at h2
  · refine ⟨rfl, ?_⟩
    rw [hkw] at h2 h4
    simp only [Bool.true_eq_false, if_false] at h2 h4
    by_cases hl : (Lex.words w.data.toList []).length = 1
    · obtain ⟨u, hu⟩ := List.length_eq_one_iff.1 hl
      have g := Lex.words_good w.data.toList [] (by simp) u (by rw [hu]; simp)
      rw [hu] at h4
      rw [if_neg (by simp)] at h4
      have e : rdOf ByteArray.empty (([[48], [48], [48], [48], u] : List (List UInt8)).map Lex.mk) 4 = Lex.mk u := rfl
      have h5 : Lex.mk u = w := e.symm.trans h4
      rw [← h5, Lex.mk_data]
      exact g
    · rw [if_pos (by simp; omega)] at h2
      simp at h2
theorem Lex.joins_l1 (L : List ByteArray) (B : List Int) (i : Int) (h0 : 0 ≤ i) (h1 : i < B.length) (hB : rd B i ≤ 9) (R : List UInt8 → Prop) (hR : ∀ T c, Lex.blankB c = true → R T → R (T ++ [c])) (m K : Nat) (hm : m ≤ 1000)
    (H : ∀ k' s', K ≤ k' → R s'.data.toList → s'.size ≤ m → complinelaw17_LexJoins.l1 (k' + 1) L B true s' i 10 = some true) :
    ∀ (d k : Nat) (j : Int) (s : ByteArray), 0 ≤ j → j + d = 10 → s.size + d ≤ m → R s.data.toList → K + d < k → complinelaw17_LexJoins.l1 k L B true s i j = some true := by
  have stop : ∀ (k : Nat) (s : ByteArray) (j : Int), rd B i ≤ j → complinelaw17_LexJoins.l1 (k + 1) L B true s i j = complinelaw17_LexJoins.l1 (k + 1) L B true s i 10 := by
    intro k s j hj
    simp only [complinelaw17_LexJoins.l1]
    rw [if_neg (show ¬ j < rd B i by omega), if_neg (show ¬ (10 : Int) < rd B i by omega)]
  intro d
  induction d with
  | zero =>
    intro k j s hj hd hs hr hk
    obtain ⟨k, rfl⟩ : ∃ q, k = q + 1 := ⟨k - 1, by omega⟩
    obtain rfl : j = 10 := by omega
    exact H k s (by omega) hr (by omega)
  | succ d ih =>
    intro k j s hj hd hs hr hk
    obtain ⟨k, rfl⟩ : ∃ q, k = q + 1 := ⟨k - 1, by omega⟩
    by_cases c : rd B i ≤ j
    · rw [stop k s j c]; exact H k s (by omega) hr (by omega)
    · simp only [complinelaw17_LexJoins.l1]
      rw [if_pos h0, if_pos h1, if_pos (show j < rd B i by omega), Lex.w64 (by omega) (by omega)]
      have e9 : ∀ c : UInt8, (s ++ Lex.mk [c]).data.toList = s.data.toList ++ [c] := by intro c; rw [Lex.append_data]; rfl
      have z9 : ∀ c : UInt8, (s ++ Lex.mk [c]).size = s.size + 1 := by intro c; rw [ByteArray.size_append]; rfl
      by_cases p : Int.tmod j 2 = 0
      · rw [if_pos p, if_pos (by omega)]
        exact ih k (j + 1) (s ++ Lex.mk [9]) (by omega) (by omega) (by rw [z9]; omega) (by rw [e9]; exact hR _ _ (by decide) hr) (by omega)
      · rw [if_neg p, if_pos (by omega)]
        exact ih k (j + 1) (s ++ Lex.mk [32]) (by omega) (by omega) (by rw [z9]; omega) (by rw [e9]; exact hR _ _ (by decide) hr) (by omega)
def Lex.ToW (L : List ByteArray) (n : Nat) : List (List UInt8) := (L.take n).map fun w => w.data.toList
/-- Ahead of the next word: i words read, a blank (or nothing) last. -/
def Lex.Shut (L : List ByteArray) (n : Nat) (T : List UInt8) : Prop := Lex.knownAll T = true ∧ ∀ x, Lex.words (T ++ x) [] = Lex.ToW L n ++ Lex.words x []
/-- i words read, the last may be open. -/
def Lex.Open (L : List ByteArray) (n : Nat) (T : List UInt8) : Prop := Lex.knownAll T = true ∧ (∀ b x, Lex.blankB b = true → Lex.words (T ++ b :: x) [] = Lex.ToW L n ++ Lex.words x []) ∧ Lex.words T [] = Lex.ToW L n
theorem Lex.shut_blank (L : List ByteArray) (n : Nat) (T : List UInt8) (c : UInt8) (hc : Lex.blankB c = true) (h : Lex.Shut L n T) : Lex.Shut L n (T ++ [c]) := by
  refine ⟨by rw [Lex.known_append, h.1, Lex.blank_known1 c hc]; rfl, fun x => ?_⟩
  rw [List.append_assoc, List.singleton_append, h.2, Lex.words_blank c hc]
theorem Lex.open_blank (L : List ByteArray) (n : Nat) (T : List UInt8) (c : UInt8) (hc : Lex.blankB c = true) (h : Lex.Open L n T) : Lex.Shut L n (T ++ [c]) := by
  refine ⟨by rw [Lex.known_append, h.1, Lex.blank_known1 c hc]; rfl, fun x => ?_⟩
  rw [List.append_assoc, List.singleton_append, h.2.1 c x hc]
theorem Lex.shut_open (L : List ByteArray) (n : Nat) (T : List UInt8) (h : Lex.Shut L n T) : Lex.Open L n T := by
  refine ⟨h.1, fun b x hb => by rw [h.2, Lex.words_blank b hb], ?_⟩
  have := h.2 []
  simpa [Lex.words] using this
theorem Lex.shut_word (L : List ByteArray) (n : Nat) (hn : n < L.length) (T : List UInt8) (h : Lex.Shut L n T) (hk : Lex.knownAll (L[n]'hn).data.toList = true) (hne : (L[n]'hn).data.toList ≠ []) (hb : ∀ c ∈ (L[n]'hn).data.toList, Lex.blankB c = false) : Lex.Open L (n + 1) (T ++ (L[n]'hn).data.toList) := by
  have e : Lex.ToW L (n + 1) = Lex.ToW L n ++ [(L[n]'hn).data.toList] := by
    unfold Lex.ToW
    rw [List.take_succ_eq_append_getElem hn, List.map_append]; rfl
  refine ⟨by rw [Lex.known_append, h.1, hk]; rfl, fun b x hbb => ?_, ?_⟩
  · rw [List.append_assoc, h.2, Lex.words_run b hbb x _ [] hb (by simpa using hne), e]; simp
  · rw [h.2, Lex.words_last _ [] hb (by simpa using hne), e]; simp
theorem Lex.joins_end (L : List ByteArray) (B : List Int) (hL : L.length = 5) (s : ByteArray) (hs : s.size ≤ 256) (h : Lex.Open L 5 s.data.toList) (k : Nat) (hk : 20 ≤ k) : complinelaw17_LexJoins.l0 k L B true s 6 = some true := by
  obtain ⟨k, rfl⟩ : ∃ q, k = q + 1 := ⟨k - 1, by omega⟩
  simp only [complinelaw17_LexJoins.l0]
  rw [if_neg (by omega)]
  simp only [lex_Fields.f, Option.bind_some]
  have hT : Lex.ToW L 5 = L.map fun w => w.data.toList := by unfold Lex.ToW; rw [List.take_of_length_le (by omega)]
  have hF : Lex.fields s = (L, 0) := by
    rw [Lex.fields_eq s hs]
    unfold Lex.fieldsL
    rw [h.1, h.2.2, hT]
    simp only [Bool.true_eq_false, if_false, List.length_map, hL]
    simp only [ne_eq, not_true_eq_false, if_false, List.map_map]
    congr 1
    rw [show (Lex.mk ∘ fun w : ByteArray => w.data.toList) = id from funext fun w => Lex.mk_of w, List.map_id]
  rw [hF]
  simp only
  rw [Lex.same_f L k (by omega) (by omega)]
  simp
theorem Lex.joins_l0 (L : List ByteArray) (B : List Int) (hW : ∀ w ∈ L, w.size ≤ 140737488351232) (hL : L.length = 5) (hBl : B.length = 6) : ∀ (d k n : Nat) (s : ByteArray), n + d = 5 → (n = 0 → s.data.toList = []) → Lex.Open L n s.data.toList → s.size ≤ 41 * n → 30 * d + 100 ≤ k → complinelaw17_LexJoins.l0 k L B true s n = some true := by
  intro d
  induction d with
  | zero =>
    intro k n s hn _ ho hs hk
    obtain rfl : n = 5 := by omega
    obtain ⟨k, rfl⟩ : ∃ q, k = q + 1 + 1 + 1 + 1 := ⟨k - 4, by omega⟩
    show complinelaw17_LexJoins.l0 (k + 1 + 1 + 1 + 1) L B true s 5 = some true
    simp only [complinelaw17_LexJoins.l0]
    rw [if_pos (by decide), if_pos (by decide), if_pos (by rw [hBl]; decide)]
    have hj : ∀ x, (x = false → 0 ≤ rd B 5 ∧ rd B 5 ≤ 9) → complinelaw17_LexJoins.j2 (k + 1 + 1 + 1) L B true s 5 x = some true := by
      intro x hx
      simp only [complinelaw17_LexJoins.j2]
      cases x
      · rw [if_neg (by simp), if_pos (by decide)]
        simp only [complinelaw17_LexJoins.j3]
        rw [if_neg (by decide)]
        simp only [complinelaw17_LexJoins.j4]
        obtain ⟨g1, g2⟩ := hx rfl
        refine Lex.joins_l1 L B 5 (by decide) (by rw [hBl]; decide) g2 (Lex.Open L 5) (fun T c hc h => Lex.shut_open _ _ _ (Lex.open_blank L 5 T c hc h)) 256 30 (by decide) ?_ 10 k 0 s (by decide) (by decide) (by omega) ho (by omega)
        intro k' s' hk' hr hs'
        simp only [complinelaw17_LexJoins.l1]
        rw [if_pos (by decide), if_pos (by rw [hBl]; decide), if_neg (by omega), if_pos trivial, show wrap64 (5 + 1) = 6 from Lex.w64 (by decide) (by decide)]
        exact Lex.joins_end L B hL s' hs' hr k' (by omega)
      · simp
    by_cases c : rd B 5 < 0
    · have := hj true (by simp)
      exact (if_pos c).trans this
    · refine (if_neg c).trans (hj _ ?_)
      intro h
      have := of_decide_eq_false h
      omega
  | succ d ih =>
    intro k n s hn hz ho hs hk
    obtain ⟨k, rfl⟩ : ∃ q, k = q + 1 + 1 + 1 + 1 := ⟨k - 4, by omega⟩
    have hnL : n < L.length := by omega
    have hrd : rdOf ByteArray.empty L (n : Int) = L[n]'hnL := by
      unfold rdOf; rw [Int.toNat_natCast, List.getD_eq_getElem?_getD, List.getElem?_eq_getElem hnL]; rfl
    simp only [complinelaw17_LexJoins.l0]
    rw [if_pos (show (n : Int) < 6 by omega), if_pos (show 0 ≤ (n : Int) by omega), if_pos (show (n : Int) < (B.length : Int) by rw [hBl]; omega)]
    have hl1 : ∀ s1 : ByteArray, Lex.Shut L n s1.data.toList → s1.size ≤ 41 * n + 1 → rd B n ≤ 9 → complinelaw17_LexJoins.l1 k L B true s1 n 0 = some true := by
      intro s1 h1 hs1 g2
      refine Lex.joins_l1 L B n (by omega) (by rw [hBl]; omega) g2 (Lex.Shut L n) (fun T c hc h => Lex.shut_blank L n T c hc h) (41 * n + 11) (30 * d + 100) (by omega) ?_ 10 k 0 s1 (by decide) (by decide) (by omega) h1 (by omega)
      intro k' s' hk' hr hs'
      simp only [complinelaw17_LexJoins.l1]
      rw [if_pos (show 0 ≤ (n : Int) by omega), if_pos (show (n : Int) < (B.length : Int) by rw [hBl]; omega), if_neg (show ¬ (10 : Int) < rd B n by omega), if_neg (show ¬ (n : Int) = 5 by omega), if_pos (show (n : Int) < (L.length : Int) by omega)]
      rw [hrd]
      have hsz := hW _ (List.getElem_mem hnL)
      rw [if_pos (by omega)]
      simp only [lex_Fields.f, Option.bind_some]
      by_cases c1 : ((L[n]'hnL).size : Int) > 30
      · rw [if_pos c1]
      rw [if_neg c1]
      by_cases c2 : (Lex.fields ((⟨#[48, 32, 48, 32, 48, 32, 48, 32]⟩ : ByteArray) ++ L[n]'hnL)).2 = 0
      · rw [if_pos c2]
        by_cases c3 : ((Lex.fields ((⟨#[48, 32, 48, 32, 48, 32, 48, 32]⟩ : ByteArray) ++ L[n]'hnL)).1.length : Int) = 5
        · rw [if_pos c3, if_pos (by omega)]
          by_cases c4 : (rdOf ByteArray.empty (Lex.fields ((⟨#[48, 32, 48, 32, 48, 32, 48, 32]⟩ : ByteArray) ++ L[n]'hnL)).1 4).toList = (L[n]'hnL).toList
          · rw [if_pos c4, if_pos (by omega), Lex.w64 (by omega) (by omega)]
            obtain ⟨v1, v2, v3⟩ := Lex.valid_word (L[n]'hnL) (by omega) c2 (Lex.ext (by rw [← ByteArray.toList_eq, ← ByteArray.toList_eq]; exact c4))
            have := ih k' (n + 1) (s' ++ L[n]'hnL) (by omega) (by omega) (by rw [Lex.append_data]; exact Lex.shut_word L n hnL _ hr v1 v2 v3) (by rw [ByteArray.size_append]; omega) (by omega)
            exact_mod_cast this
          · rw [if_neg c4]
        · rw [if_neg c3]
      · rw [if_neg c2]
    have hj : ∀ x, (x = false → 0 ≤ rd B n ∧ rd B n ≤ 9) → complinelaw17_LexJoins.j2 (k + 1 + 1 + 1) L B true s n x = some true := by
      intro x hx
      simp only [complinelaw17_LexJoins.j2]
      cases x
      · rw [if_neg (by simp)]
        obtain ⟨g1, g2⟩ := hx rfl
        by_cases c0 : n = 0
        · subst c0
          rw [if_neg (by decide)]
          simp only [complinelaw17_LexJoins.j3]
          rw [if_neg (by decide)]
          simp only [complinelaw17_LexJoins.j4]
          refine hl1 s ?_ (by omega) g2
          rw [hz rfl]
          exact ⟨rfl, fun x => by simp [Lex.ToW]⟩
        · rw [if_pos (show (n : Int) > 0 by omega)]
          simp only [complinelaw17_LexJoins.j3]
          rw [if_pos (decide_eq_true (by omega)), if_pos (by omega)]
          simp only [complinelaw17_LexJoins.j4]
          have e9 : (s ++ (⟨#[32]⟩ : ByteArray)).data.toList = s.data.toList ++ [32] := by rw [Lex.append_data]
          refine hl1 _ ?_ (by rw [ByteArray.size_append, show (⟨#[32]⟩ : ByteArray).size = 1 from rfl]; omega) g2
          rw [e9]
          exact Lex.open_blank L n _ 32 (by decide) ho
      · simp
    by_cases c : rd B n < 0
    · exact (if_pos c).trans (hj true (by simp))
    · refine (if_neg c).trans (hj _ ?_)
      intro h
      have := of_decide_eq_false h
      omega
def Lex.JoinsPure : Prop := ∀ (L : List ByteArray) (B : List Int), (∀ w ∈ L, w.size ≤ 140737488351232) → ∃ k, complinelaw17_LexJoins.f k L B = some true
theorem LexJoins_p : Lex.JoinsPure := by
  intro L B hW
  refine ⟨1001, ?_⟩
  unfold complinelaw17_LexJoins.f
  rw [Lex.works_f _ (by omega)]
  simp only [Option.bind_some, if_true]
  by_cases h1 : (L.length : Int) = 5
  · rw [if_pos h1]
    simp only [complinelaw17_LexJoins.j0]
    by_cases h2 : ((B.length : Int) != 6) = true
    · rw [if_pos h2]
    · rw [if_neg h2]
      have h3 : (B.length : Int) = 6 := by simpa using h2
      exact Lex.joins_l0 L B hW (by omega) (by omega) 5 1000 0 ⟨#[]⟩ (by omega) (fun _ => rfl) ⟨rfl, fun b x hb => by rw [show (⟨#[]⟩ : ByteArray).data.toList ++ b :: x = b :: x from rfl, Lex.words_blank b hb]; simp [Lex.ToW], by simp [Lex.words, Lex.ToW]⟩ (by simp [ByteArray.size]) (by omega)
  · rw [if_neg h1]
    simp only [complinelaw17_LexJoins.j0]
    rw [if_pos trivial]
end Go.Proofs.Ytgajipaenoepiaa.PLex
