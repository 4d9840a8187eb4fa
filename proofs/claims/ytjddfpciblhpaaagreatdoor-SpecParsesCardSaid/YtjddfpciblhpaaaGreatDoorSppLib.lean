/- Bits of whole numbers, texts, and what is parsed of a field. No condition. -/
import Derived.Test.YtjddfpciblhpaaaGreatDoorPSppx6
import Derived.Test.YtjddfpciblhpaaaGreatDoorPSppx7
namespace Go.Proofs.YtjddfpciblhpaaaGreatDoor.PSpp
open Go.RowKit Go.Proofs.YtjddfpciblhpaaaGreatDoorW.PrintWords Go.Proofs.YtjddfpciblhpaaaGreatDoorW.PrintLast Go.Proofs.YtjddfpciblhpaaaGreatDoorW.PrintMore
set_option linter.unusedVariables false
set_option linter.unusedSimpArgs false
/-! Bits of a whole number, and what field's functions tell of them. -/
theorem u64w (z : Int) : IntKind.u64.wrap z = z % 18446744073709551616 := by simp [IntKind.wrap, IntKind.bits, IntKind.signed]
def InU (b : Int) : Prop := 0 ≤ b ∧ b < 18446744073709551616
/-- Bit i of a whole number. -/
def bitAt (b : Int) (i : Nat) : Bool := b.toNat.testBit i
theorem nat_of (b : Int) (h : InU b) : ∃ n : Nat, b = n ∧ n < 2 ^ 64 := by
  obtain ⟨n, rfl⟩ := Int.eq_ofNat_of_zero_le h.1
  exact ⟨n, rfl, by have := h.2; omega⟩
theorem bits_u64 (a b : Nat) (ha : a < 2 ^ 64) (hb : b < 2 ^ 64) : Go.bits .and .u64 a b = ((a &&& b : Nat) : Int) ∧ Go.bits .or .u64 a b = ((a ||| b : Nat) : Int) :=
  bits_nat .u64 64 (by decide) (fun z h0 h1 => IntWalk.u64_in z ⟨h0, by omega⟩) a b ha hb
theorem put_nat (n : Nat) (x : Fin 64) (hn : n < 2 ^ 64) : Fld.put (n : Int) x = ((n ||| 2 ^ x.val : Nat) : Int) := by
  unfold Fld.put
  have h2 : (2 : Int) ^ x.val = ((2 ^ x.val : Nat) : Int) := by simp
  rw [h2, (bits_u64 n _ hn (Nat.pow_lt_pow_right (by decide) x.isLt)).2]
theorem put_in {b : Int} (x : Fin 64) (h : InU b) : InU (Fld.put b x) := Fld.put_bd x h
theorem bit_put {b : Int} (x : Fin 64) (h : InU b) (i : Nat) : bitAt (Fld.put b x) i = (bitAt b i || decide (x.val = i)) := by
  obtain ⟨n, rfl, hn⟩ := nat_of b h
  rw [put_nat n x hn]
  unfold bitAt
  rw [Int.toNat_natCast, Int.toNat_natCast, Nat.testBit_or, Nat.testBit_two_pow]
theorem fold_in (l : List (Fin 64)) : ∀ {b : Int}, InU b → InU (l.foldl Fld.put b) := by
  induction l with
  | nil => exact fun h => h
  | cons x l ih => exact fun h => ih (put_in x h)
theorem bit_fold (l : List (Fin 64)) : ∀ {b : Int}, InU b → ∀ i : Nat, bitAt (l.foldl Fld.put b) i = (bitAt b i || l.any fun x => decide (x.val = i)) := by
  induction l with
  | nil => intro b _ i; simp
  | cons x l ih => intro b h i; rw [List.foldl_cons, ih (put_in x h), bit_put x h, List.any_cons, Bool.or_assoc]
theorem eq_of_bits {a b : Int} (ha : InU a) (hb : InU b) (h : ∀ i, i < 64 → bitAt a i = bitAt b i) : a = b := by
  obtain ⟨n, rfl, hn⟩ := nat_of a ha
  obtain ⟨m, rfl, hm⟩ := nat_of b hb
  have : n = m := by
    apply Nat.eq_of_testBit_eq
    intro i
    by_cases hi : i < 64
    · exact h i hi
    · rw [Nat.testBit_lt_two_pow (Nat.lt_of_lt_of_le hn (Nat.pow_le_pow_right (by decide) (by omega))), Nat.testBit_lt_two_pow (Nat.lt_of_lt_of_le hm (Nat.pow_le_pow_right (by decide) (by omega)))]
  rw [this]
theorem bit_zero (i : Nat) : bitAt 0 i = false := by simp [bitAt]
theorem bit_big {b : Int} (h : InU b) {i : Nat} (hi : 64 ≤ i) : bitAt b i = false := by
  obtain ⟨n, rfl, hn⟩ := nat_of b h
  exact Nat.testBit_lt_two_pow (Nat.lt_of_lt_of_le hn (Nat.pow_le_pow_right (by decide) hi))
/-- All values from one to another one. -/
def evB (lo hi : Nat) : Int := ((2 ^ (hi + 1) - 2 ^ lo : Nat) : Int)
theorem sub_testBit (lo : Nat) : ∀ (d i : Nat), (2 ^ (lo + d) - 2 ^ lo).testBit i = (decide (lo ≤ i) && decide (i < lo + d)) := by
  intro d i
  have e : 2 ^ (lo + d) - 2 ^ lo = 2 ^ lo * (2 ^ d - 1) := by rw [Nat.pow_add, Nat.mul_sub, Nat.mul_one]
  rw [e, Nat.testBit_two_pow_mul, Nat.testBit_two_pow_sub_one]
  by_cases h : lo ≤ i
  · simp [h]; omega
  · simp [h]
theorem bit_ev (lo hi i : Nat) (h : lo ≤ hi + 1) : bitAt (evB lo hi) i = (decide (lo ≤ i) && decide (i ≤ hi)) := by
  unfold bitAt evB
  rw [Int.toNat_natCast]
  obtain ⟨d, hd⟩ : ∃ d, hi + 1 = lo + d := ⟨hi + 1 - lo, by omega⟩
  rw [hd, sub_testBit]
  congr 1
  simp; omega
theorem ev_in (lo hi : Nat) (h : hi ≤ 62) : InU (evB lo hi) := by
  unfold evB InU
  have : 2 ^ (hi + 1) ≤ 2 ^ 63 := Nat.pow_le_pow_right (by decide) (by omega)
  rw [show (2 : Nat) ^ 63 = 9223372036854775808 by decide] at this
  generalize (2 : Nat) ^ (hi + 1) = q at this ⊢
  generalize (2 : Nat) ^ lo = r
  omega
theorem shl_one (n : Nat) (h : n < 64) : shl .u64 1 (n : Int) = ((2 ^ n : Nat) : Int) := by
  have := Nat.pow_lt_pow_right (a := 2) (by decide) h
  unfold shl
  rw [u64w, show min ((n : Int).toNat) (IntKind.bits .u64) = n by simp [IntKind.bits]; omega]
  simp only [Int.one_mul]
  rw [show (2 : Int) ^ n = ((2 ^ n : Nat) : Int) by simp]
  rw [show (2 : Nat) ^ 64 = 18446744073709551616 by decide] at this
  generalize (2 : Nat) ^ n = q at this ⊢
  omega
theorem shr_nat (a n : Nat) (h : n < 64) : shr .u64 (a : Int) (n : Int) = ((a / 2 ^ n : Nat) : Int) := by
  unfold shr
  rw [show min ((n : Int).toNat) (IntKind.bits .u64) = n by simp [IntKind.bits]; omega]
  rw [show (2 : Int) ^ n = ((2 ^ n : Nat) : Int) by simp]
  simp
theorem shl_nat (a n : Nat) (h : n < 64) : shl .u64 (a : Int) (n : Int) = ((a * 2 ^ n % 2 ^ 64 : Nat) : Int) := by
  unfold shl
  rw [u64w, show min ((n : Int).toNat) (IntKind.bits .u64) = n by simp [IntKind.bits]; omega]
  rw [show (2 : Int) ^ n = ((2 ^ n : Nat) : Int) by simp]
  generalize 2 ^ n = q
  rw [show (2 : Nat) ^ 64 = 18446744073709551616 by decide, Int.natCast_emod, Int.natCast_mul]
  rfl
theorem every_f (lo hi : Nat) (h : lo ≤ hi) (h2 : hi ≤ 62) : field_every.f (lo : Int) (hi : Int) = some (evB lo hi) := by
  have hw1 : wrap64 ((hi : Int) + 1) = ((hi + 1 : Nat) : Int) := by unfold wrap64; omega
  have hw2 : IntKind.u64.wrap ((hi + 1 : Nat) : Int) = ((hi + 1 : Nat) : Int) := by rw [u64w]; omega
  have hw3 : IntKind.u64.wrap (lo : Int) = (lo : Int) := by rw [u64w]; omega
  unfold field_every.f
  rw [hw1, hw2, hw3, if_pos (by omega), if_pos (by omega), shl_one _ (by omega), shl_one _ (by omega)]
  have h3 : 2 ^ lo ≤ 2 ^ (hi + 1) := Nat.pow_le_pow_right (by decide) (by omega)
  have h4 : 2 ^ (hi + 1) ≤ 2 ^ 63 := Nat.pow_le_pow_right (by decide) (by omega)
  congr 1
  unfold evB
  rw [u64w]
  rw [show (2 : Nat) ^ 63 = 9223372036854775808 by decide] at h4
  generalize (2 : Nat) ^ (hi + 1) = q at h3 h4 ⊢
  generalize (2 : Nat) ^ lo = r at h3 ⊢
  omega
theorem andNot_zero (a b : Int) (ha : InU a) (hb : InU b) : (Go.bits .andNot .u64 a b = 0) ↔ ∀ i, i < 64 → bitAt a i = true → bitAt b i = true := by
  obtain ⟨n, rfl, hn⟩ := nat_of a ha
  obtain ⟨m, rfl, hm⟩ := nat_of b hb
  have e : Go.bits .andNot .u64 (n : Int) (m : Int) = ((BitVec.ofNat 64 n &&& ~~~ BitVec.ofNat 64 m).toNat : Int) := by
    have := (BitVec.ofNat 64 n &&& ~~~ BitVec.ofNat 64 m).isLt
    show IntKind.u64.wrap ((BitVec.ofInt 64 (n : Int) &&& ~~~ BitVec.ofInt 64 (m : Int)).toNat : Int) = _
    rw [BitVec.ofInt_natCast, BitVec.ofInt_natCast, u64w]
    omega
  rw [e]
  have hz : ((BitVec.ofNat 64 n &&& ~~~ BitVec.ofNat 64 m).toNat : Int) = 0 ↔ (BitVec.ofNat 64 n &&& ~~~ BitVec.ofNat 64 m) = 0#64 := by
    constructor
    · intro h; apply BitVec.eq_of_toNat_eq; simpa using h
    · intro h; rw [h]; rfl
  rw [hz]
  constructor
  · intro h i hi hb
    have := congrArg (fun v => v.getLsbD i) h
    simp only [BitVec.getLsbD_and, BitVec.getLsbD_not, BitVec.getLsbD_ofNat, hi, decide_true, Bool.true_and, BitVec.getLsbD_zero] at this
    unfold bitAt at hb ⊢
    rw [Int.toNat_natCast] at hb ⊢
    rw [hb] at this
    simpa using this
  · intro h
    apply BitVec.eq_of_getLsbD_eq
    intro i hi
    simp only [BitVec.getLsbD_and, BitVec.getLsbD_not, BitVec.getLsbD_ofNat, hi, decide_true, Bool.true_and, BitVec.getLsbD_zero]
    have := h i hi
    unfold bitAt at this
    rw [Int.toNat_natCast, Int.toNat_natCast] at this
    cases h1 : n.testBit i
    · simp
    · rw [this h1]; simp
/-! Words of a text, over lists of bytes. -/
theorem Lex.w64 {x : Int} (h1 : -9223372036854775808 ≤ x) (h2 : x ≤ 9223372036854775807) : wrap64 x = x := by unfold wrap64; omega
def Lex.mk (l : List UInt8) : ByteArray := ⟨l.toArray⟩
theorem Lex.mk_data (l : List UInt8) : (Lex.mk l).data.toList = l := rfl
theorem Lex.mk_of (s : ByteArray) : Lex.mk s.data.toList = s := by cases s; simp [Lex.mk]
theorem Lex.ext {a b : ByteArray} (h : a.data.toList = b.data.toList) : a = b := by rw [← Lex.mk_of a, ← Lex.mk_of b, h]
theorem Lex.mk_size (l : List UInt8) : (Lex.mk l).size = l.length := by show l.toArray.size = _; simp
theorem Lex.len (s : ByteArray) : s.data.toList.length = s.size := by rw [Array.length_toList]; rfl
theorem Lex.extract_data (s : ByteArray) (a b : Nat) : (s.extract a b).data.toList = (s.data.toList.drop a).take (b - a) := by
  rw [ByteArray.data_extract]; simp
theorem Lex.append_data (s t : ByteArray) : (s ++ t).data.toList = s.data.toList ++ t.data.toList := by
  rw [ByteArray.data_append]; simp
theorem Lex.one_data (s : ByteArray) (i : Nat) (h : i < s.size) : (s.extract i (i + 1)).data.toList = [s[i]'h] := by
  rw [Lex.extract_data, show i + 1 - i = 1 by omega, List.drop_eq_getElem_cons (by rw [Lex.len]; exact h)]
  rfl
theorem Lex.toList_nil (w : ByteArray) : w.toList = ([] : List UInt8) ↔ w.data.toList = [] := by rw [ByteArray.toList_eq]
theorem Lex.bt_eq (s : ByteArray) (i : Nat) (h : i < s.size) : bt s (i : Int) = ((s[i]'h).toNat : Int) := (bt_at s i (by simpa using h)).symm
def Lex.blankB (c : UInt8) : Bool := Lex.blankN c.toNat
def Lex.words : List UInt8 → List UInt8 → List (List UInt8)
  | [], w => if w = [] then [] else [w]
  | c :: l, w => if Lex.blankB c then (if w = [] then Lex.words l [] else w :: Lex.words l []) else Lex.words l (w ++ [c])
/-- FieldsFunc of plain letters. -/
theorem Lex.spans_words (s : ByteArray) (ha : ∀ i (h : i < s.size), (s[i]'h).toNat < 128) : ∀ (f pos : Nat) (st : Option Nat) (acc : List (Nat × Nat)), pos ≤ s.size → s.size ≤ pos + f → (∀ a, st = some a → a < pos) →
    (Lib.closeSpans s (Lib.spansFromP Lex.blankN s f pos st acc)).map (fun x => (s.extract x.1 x.2).data.toList) =
      acc.map (fun x => (s.extract x.1 x.2).data.toList) ++ Lex.words (s.data.toList.drop pos) (match st with | none => [] | some a => (s.data.toList.drop a).take (pos - a)) := by
  intro f
  induction f with
  | zero =>
    intro pos st acc h1 h2 h3
    have hp : pos = s.size := by omega
    subst hp
    rw [List.drop_of_length_le (l := s.data.toList) (by rw [Lex.len]; omega)]
    cases st with
    | none => simp [Lib.spansFromP, Lib.closeSpans, Lex.words]
    | some a =>
      have := h3 a rfl
      have hne : (s.data.toList.drop a).take (s.size - a) ≠ [] := by
        intro e
        have := congrArg List.length e
        rw [List.length_take, List.length_drop, Lex.len] at this
        simp at this; omega
      simp [Lib.spansFromP, Lib.closeSpans, Lex.words, hne, Lex.extract_data]
  | succ f ih =>
    intro pos st acc h1 h2 h3
    by_cases hlt : pos < s.size
    · have hd : Utf8.decode s pos = ((s[pos]'hlt).toNat, 1) := decode_ascii s pos hlt (ha pos hlt)
      have hdr : s.data.toList.drop pos = (s[pos]'hlt) :: s.data.toList.drop (pos + 1) := by rw [List.drop_eq_getElem_cons (by rw [Lex.len]; exact hlt)]; rfl
      have hb : Lex.blankB (s[pos]'hlt) = Lex.blankN (s[pos]'hlt).toNat := rfl
      unfold Lib.spansFromP
      rw [if_pos hlt, hd, hdr]
      simp only [Lex.words, hb]
      cases hbb : Lex.blankN (s[pos]'hlt).toNat
      · simp only [Bool.false_eq_true, if_false]
        cases st with
        | none =>
          simp only
          rw [ih (pos + 1) (some pos) acc (by omega) (by omega) (by intro a e; cases e; omega)]
          congr 2
          simp only [List.nil_append]
          rw [hdr, show pos + 1 - pos = 1 by omega]; rfl
        | some a =>
          have := h3 a rfl
          simp only
          rw [ih (pos + 1) (some a) acc (by omega) (by omega) (by intro b e; cases e; omega)]
          congr 2
          simp only
          rw [show pos + 1 - a = (pos - a) + 1 by omega, List.take_succ_eq_append_getElem (by rw [List.length_drop, Lex.len]; omega)]
          congr 2
          rw [List.getElem_drop]
          have e : a + (pos - a) = pos := by omega
          simp only [e]
          rfl
      · simp only [if_true]
        cases st with
        | none =>
          simp only
          rw [ih (pos + 1) none acc (by omega) (by omega) (by intro a e; cases e)]
          simp
        | some a =>
          have := h3 a rfl
          have hne : (s.data.toList.drop a).take (pos - a) ≠ [] := by
            intro e
            have := congrArg List.length e
            rw [List.length_take, List.length_drop, Lex.len] at this
            simp at this; omega
          simp only
          rw [ih (pos + 1) none (acc ++ [(a, pos)]) (by omega) (by omega) (by intro a e; cases e), if_neg hne]
          simp [Lex.extract_data]
    · have hp : pos = s.size := by omega
      subst hp
      rw [Lib.spansFromP_end _ _ _ _ _ _ hlt, List.drop_of_length_le (l := s.data.toList) (by rw [Lex.len]; omega)]
      cases st with
      | none => simp [Lib.closeSpans, Lex.words]
      | some a =>
        have := h3 a rfl
        have hne : (s.data.toList.drop a).take (s.size - a) ≠ [] := by
          intro e
          have := congrArg List.length e
          rw [List.length_take, List.length_drop, Lex.len] at this
          simp at this; omega
        simp [Lib.closeSpans, Lex.words, hne, Lex.extract_data]
theorem Lex.known_ascii (s : ByteArray) (h : Lex.knownAll s.data.toList = true) : ∀ i (hi : i < s.size), (s[i]'hi).toNat < 128 := by
  intro i hi
  have hm : (s[i]'hi) ∈ s.data.toList := by
    have : s[i]'hi = s.data.toList[i]'(by rw [Lex.len]; exact hi) := rfl
    rw [this]; exact List.getElem_mem _
  have := List.all_eq_true.1 h _ hm
  rcases Nat.lt_or_ge (s[i]'hi).toNat 128 with h1 | h1
  · exact h1
  · rw [Lex.known_big h1] at this; cases this
theorem Lex.go_words (s : ByteArray) (h : Lex.knownAll s.data.toList = true) : Lib.goFieldsP Lex.blankN s = (Lex.words s.data.toList []).map Lex.mk := by
  have := Lex.spans_words s (Lex.known_ascii s h) s.size 0 none [] (by omega) (by omega) (by intro a e; cases e)
  simp only [List.map_nil, List.nil_append, List.drop_zero] at this
  rw [← this, List.map_map]
  unfold Lib.goFieldsP Lib.spansOfP
  apply List.map_congr_left
  intro x _
  exact (Lex.mk_of _).symm
def Lex.fieldsL (l : List UInt8) : List (List UInt8) × Int :=
  if Lex.knownAll l = false then ([], 2) else if (Lex.words l []).length ≠ 5 then ([], 2) else (Lex.words l [], 0)
theorem Lex.fields_eq (s : ByteArray) (h : s.size ≤ 256) : Lex.fields s = ((Lex.fieldsL s.data.toList).1.map Lex.mk, (Lex.fieldsL s.data.toList).2) := by
  unfold Lex.fields Lex.fieldsL
  rw [if_neg (by omega)]
  cases hk : Lex.knownAll s.data.toList
  · simp
  · simp only [Bool.true_eq_false, if_false]
    rw [Lex.go_words s hk]
    simp only [List.length_map]
    split <;> simp
def Lex.lowB (c : UInt8) : UInt8 := UInt8.ofNat (Lex.lowI c.toNat).toNat
theorem Lex.lowS_data (s : ByteArray) : (Lex.lowS s).data.toList = s.data.toList.map Lex.lowB := by
  unfold Lex.lowS strOfNums bytesOf
  simp [Lex.lowB]
/-! Splitting and cutting, over lists of bytes. -/
def L2B (l : List UInt8) : ByteArray := ⟨l.toArray⟩
theorem B_ext {a b : ByteArray} (h : a.data.toList = b.data.toList) : a = b := by
  cases a; cases b
  congr
  exact Array.ext' h
theorem L2B_list (l : List UInt8) : (L2B l).data.toList = l := rfl
theorem L2B_of (s : ByteArray) : L2B s.data.toList = s := B_ext rfl
theorem size_list (s : ByteArray) : s.data.toList.length = s.size := by rw [Array.length_toList]; rfl
theorem toList_of (s : ByteArray) : s.toList = s.data.toList := ByteArray.toList_eq s
def addHead (x : UInt8) : List (List UInt8) → List (List UInt8)
  | [] => [[x]]
  | h :: t => (x :: h) :: t
def sp (c : UInt8) : List UInt8 → List (List UInt8)
  | [] => [[]]
  | x :: l => if x = c then [] :: sp c l else addHead x (sp c l)
theorem splitK_eq (c : UInt8) (k : Nat) (l : List UInt8) : Lib.splitK [c] 0 (k + 1) (c :: l) = [] :: Lib.splitK [c] 0 k l := by
  have h : Lib.index (c :: l) [c] = 0 := by rw [Lib.index_one]; simp [Lib.indexByte]
  simp [Lib.splitK, h]
theorem splitK_ne (c x : UInt8) (hx : x ≠ c) (k : Nat) (l : List UInt8) : Lib.splitK [c] 0 k (x :: l) = addHead x (Lib.splitK [c] 0 k l) := by
  cases k with
  | zero => rfl
  | succ k =>
    have hi : Lib.index (x :: l) [c] = if Lib.index l [c] == -1 then -1 else Lib.index l [c] + 1 := by
      rw [Lib.index_one, Lib.index_one, Lib.indexByte, if_neg (by simpa using hx)]
    simp only [Lib.splitK]
    rcases Lib.index_spec l [c] with ⟨h, _⟩ | ⟨i, h, _⟩
    · rw [hi, h]; rfl
    · have h1 : (Lib.index l [c] == -1) = false := by rw [h]; simp
      have h2 : (Lib.index (x :: l) [c] == -1) = false := by rw [hi, h1]; simp [h]; omega
      rw [h2, h1, if_neg (by simp), if_neg (by simp)]
      rw [hi, h1, if_neg (by simp), h]
      have e : ((i : Int) + 1).toNat = i + 1 := by omega
      simp [e, addHead]
theorem split_sp (c : UInt8) : ∀ l : List UInt8, Lib.splitK [c] 0 (Lib.count l [c]) l = sp c l
  | [] => rfl
  | x :: l => by
    unfold sp
    by_cases hx : x = c
    · subst hx
      rw [if_pos rfl, Lib.count_cons_eq, Nat.add_comm, splitK_eq, split_sp x l]
    · rw [if_neg hx, Lib.count_cons_ne x c l hx, splitK_ne c x hx, split_sp c l]
theorem parts_sp (c : UInt8) (s : ByteArray) : Fld.parts c s = (sp c s.data.toList).map L2B := by
  have h := Lib.splitB_data ⟨#[c]⟩ 0 (Lib.countB s ⟨#[c]⟩) s
  rw [show (⟨#[c]⟩ : ByteArray).data.toList = [c] from rfl, show Lib.countB s ⟨#[c]⟩ = Lib.count s.data.toList [c] from rfl, split_sp] at h
  rw [← h, List.map_map]
  show Fld.parts c s = List.map _ (Fld.parts c s)
  conv => lhs; rw [← List.map_id (Fld.parts c s)]
  exact List.map_congr_left (fun x _ => (L2B_of x).symm)
theorem sp_none (c : UInt8) : ∀ l : List UInt8, c ∉ l → sp c l = [l]
  | [], _ => rfl
  | x :: l, h => by
    unfold sp
    rw [if_neg (fun e => h (by rw [e]; exact List.mem_cons_self ..)), sp_none c l (fun hc => h (List.mem_cons_of_mem _ hc))]
    rfl
theorem sp_ne (c : UInt8) : ∀ l : List UInt8, sp c l ≠ []
  | [], h => by cases h
  | x :: l, h => by
    unfold sp at h
    split at h
    · cases h
    · unfold addHead at h
      split at h <;> cases h
theorem sp_append (c : UInt8) : ∀ (s t : List UInt8), sp c (s ++ c :: t) = sp c s ++ sp c t
  | [], t => by simp [sp]
  | x :: s, t => by
    have e1 : ∀ l, sp c (x :: l) = if x = c then [] :: sp c l else addHead x (sp c l) := fun l => rfl
    rw [List.cons_append, e1, e1]
    by_cases hx : x = c
    · rw [if_pos hx, if_pos hx, sp_append c s t]; rfl
    · rw [if_neg hx, if_neg hx, sp_append c s t]
      cases h : sp c s with
      | nil => exact absurd h (sp_ne c s)
      | cons a b => rfl
theorem contains_iff (c : UInt8) (l : List UInt8) : Lib.contains l [c] = true ↔ c ∈ l := by
  unfold Lib.contains
  rw [Lib.index_one, decide_eq_true_eq]
  induction l with
  | nil => simp [Lib.indexByte]
  | cons x l ih =>
    unfold Lib.indexByte
    by_cases hx : x = c
    · subst hx; simp
    · rw [if_neg (by simpa using hx)]
      have hm : c ∈ x :: l ↔ c ∈ l := by simp [Ne.symm hx]
      rw [hm, ← ih]
      by_cases h : Lib.indexByte l c = -1
      · rw [h]; simp
      · rw [if_neg (by simpa using h)]
        have : Lib.index l [c] = Lib.indexByte l c := Lib.index_one l c
        rcases Lib.index_spec l [c] with ⟨h', _⟩ | ⟨i, h', _⟩
        · omega
        · omega
theorem cut_none (l : List UInt8) (h : (47 : UInt8) ∉ l) : Lib.cut l [47] = (l, [], false) := by
  have : ¬ (0 ≤ Lib.index l [47]) := fun hi => h ((contains_iff 47 l).1 (decide_eq_true hi))
  unfold Lib.cut
  rw [if_neg this]
theorem index_app (c : UInt8) (s t : List UInt8) (h : c ∉ s) : Lib.index (s ++ c :: t) [c] = s.length := by
  rw [Lib.index_one]
  induction s with
  | nil => simp [Lib.indexByte]
  | cons x s ih =>
    have hx : x ≠ c := fun e => h (by rw [e]; exact List.mem_cons_self ..)
    rw [List.cons_append, Lib.indexByte, if_neg (by simpa using hx), ih (fun hc => h (List.mem_cons_of_mem _ hc))]
    rw [if_neg (by simp), List.length_cons]
    omega
theorem cut_app (s t : List UInt8) (h : (47 : UInt8) ∉ s) : Lib.cut (s ++ 47 :: t) [47] = (s, t, true) := by
  unfold Lib.cut
  rw [index_app 47 s t h, if_pos (by omega)]
  simp
/-! What a value's text does not hold. -/
def Plain (l : List UInt8) : Prop := ∀ c ∈ l, c ≠ 44 ∧ c ≠ 45 ∧ c ≠ 47 ∧ c ≠ 42
theorem digs_plain : ∀ (l : List UInt8) (n m : Int), Lex.digs l n = some m → Plain l
  | [], _, _, _ => fun c hc => by cases hc
  | x :: l, n, m, h => by
    simp only [Lex.digs] at h
    split at h
    · rename_i hd
      have hb : 48 ≤ x.toNat ∧ x.toNat ≤ 57 := by simpa [Lex.dig] using hd
      intro c hc
      rcases List.mem_cons.1 hc with rfl | hc
      · exact ⟨by rintro rfl; revert hb; decide, by rintro rfl; revert hb; decide, by rintro rfl; revert hb; decide, by rintro rfl; revert hb; decide⟩
      · exact digs_plain l _ m h c hc
    · cases h
theorem number_plain (s : ByteArray) (h : (Lex.number s).2 = 0) : Plain s.data.toList := by
  unfold Lex.number at h
  split at h
  · exact absurd h (by decide)
  · split at h
    · rename_i n hn; exact digs_plain _ _ _ hn
    · exact absurd h (by decide)
theorem Lex.srch_hit (p : Nat → Bool) (n : Nat) : ∀ (k i : Nat), k + i = n → Lex.srch p k i < n → p (Lex.srch p k i) = true
  | 0, i, h, hl => by simp only [Lex.srch] at hl; omega
  | k + 1, i, h, hl => by
    simp only [Lex.srch] at hl ⊢
    split
    · assumption
    · rename_i hp
      rw [if_neg hp] at hl
      exact Lex.srch_hit p n k (i + 1) (by omega) hl
theorem name_plain (s : ByteArray) (kind : Int) (h : (Lex.name s kind).2 = 0) : Plain s.data.toList := by
  unfold Lex.name at h
  split at h
  · exact absurd h (by decide)
  rename_i h3
  unfold Lex.look at h
  split at h
  rotate_left
  · exact absurd h (by decide)
  rename_i hj
  generalize hnm : (Lex.namesOf kind).1 = nm at hj
  generalize hn : (Lex.namesOf kind).2.1 = n at hj
  have hlet : ∀ b ∈ nm.data.toList, 97 ≤ b.toNat := by
    rw [← hnm]
    unfold Lex.namesOf
    split
    · decide +kernel
    · split
      · decide +kernel
      · intro b hb; cases hb
  have hhit : Lex.hit nm (Lex.lowS s) (Lex.srch (Lex.hit nm (Lex.lowS s)) n 0) = true := Lex.srch_hit _ n n 0 (by omega) hj
  unfold Lex.hit at hhit
  rw [beq_iff_eq, toList_of, toList_of, Lex.lowS_data, Lex.extract_data] at hhit
  intro c hc
  have hm : Lex.lowB c ∈ s.data.toList.map Lex.lowB := List.mem_map.2 ⟨c, hc, rfl⟩
  rw [← hhit] at hm
  have := hlet _ (List.mem_of_mem_drop (List.mem_of_mem_take hm))
  exact ⟨by rintro rfl; revert this; decide, by rintro rfl; revert this; decide, by rintro rfl; revert this; decide, by rintro rfl; revert this; decide⟩
theorem value_plain (s : ByteArray) (kind : Int) (h : (Lex.value s kind).2 = 0) : Plain s.data.toList := by
  unfold Lex.value at h
  split at h
  · rename_i hk; exact absurd h hk
  unfold Lex.fin at h
  split at h
  · exact absurd h (by decide)
  unfold Lex.read at h
  split at h
  · exact number_plain s h
  · exact name_plain s kind h
/-! What field.Parse tells of a text. -/
theorem vals_mem (kind tt by_ : Int) (hb : 1 ≤ by_) : ∀ (f : Nat) (v : Int) (x : Fin 64), (tt + 1 - v).toNat ≤ f → (x ∈ Fld.vals kind tt by_ f v ↔ ∃ u, v ≤ u ∧ u ≤ tt ∧ (u - v) % by_ = 0 ∧ x = Fld.day kind u)
  | 0, v, x, h => by
    simp only [Fld.vals, List.not_mem_nil, false_iff]
    rintro ⟨u, h1, h2, _⟩
    omega
  | f + 1, v, x, h => by
    unfold Fld.vals
    by_cases hv : v ≤ tt
    · rw [if_pos hv, List.mem_cons, vals_mem kind tt by_ hb f (v + by_) x (by omega)]
      constructor
      · rintro (rfl | ⟨u, h1, h2, h3, rfl⟩)
        · exact ⟨v, Int.le_refl _, hv, by simp, rfl⟩
        · refine ⟨u, by omega, h2, ?_, rfl⟩
          rw [show u - v = (u - (v + by_)) + by_ by omega, Int.add_emod_right]
          exact h3
      · rintro ⟨u, h1, h2, h3, rfl⟩
        by_cases hu : u = v
        · subst hu; exact .inl rfl
        · refine .inr ⟨u, ?_, h2, ?_, rfl⟩
          · have := Int.emod_nonneg (u - v) (show by_ ≠ 0 by omega)
            by_cases hlt : u - v < by_
            · rw [Int.emod_eq_of_lt (by omega) hlt] at h3; omega
            · omega
          · rw [show u - v = (u - (v + by_)) + by_ by omega, Int.add_emod_right] at h3
            exact h3
    · rw [if_neg hv]
      constructor
      · intro h; cases h
      · rintro ⟨u, h1, h2, _⟩; omega
/-- The greatest value of a field. -/
def top (kind : Int) : Int := if kind = 4 then 6 else (Lex.limits kind).2.1
theorem day_val (kind u : Int) (h0 : 0 ≤ u) (h1 : u < 64) : ((Fld.day kind u).val : Int) = if kind = 4 then u % 7 else u := by
  by_cases hk : kind = 4
  · subst hk; rw [if_pos rfl]; exact Fld.day_week h0
  · rw [if_neg hk]; exact Fld.day_plain hk h0 h1
theorem day_in (kind u : Int) (hk : (Lex.limits kind).2.2 = 0) (h0 : (Lex.limits kind).1 ≤ u) (h1 : u ≤ (Lex.limits kind).2.1) : (Lex.limits kind).1 ≤ (Fld.day kind u).val ∧ ((Fld.day kind u).val : Int) ≤ top kind := by
  have hl := Fld.limits_bd kind hk
  rw [day_val kind u (by omega) (by omega)]
  unfold top
  by_cases h4 : kind = 4
  · subst h4
    have e : Lex.limits 4 = (0, 7, 0) := by decide
    rw [e] at h0 h1 ⊢
    rw [if_pos rfl, if_pos rfl]
    dsimp only at *
    omega
  · rw [if_neg h4, if_neg h4]; omega
theorem item_L (x : ByteArray) (kind : Int) (y : Fin 64) (hk : (Lex.limits kind).2.2 = 0) (h : (Fld.itemP x kind).2.2.2 = 0) :
    (y ∈ Fld.itemL x kind ↔ ∃ u, (Fld.itemP x kind).1 ≤ u ∧ u ≤ (Fld.itemP x kind).2.1 ∧ (u - (Fld.itemP x kind).1) % (Fld.itemP x kind).2.2.1 = 0 ∧ y = Fld.day kind u) := by
  obtain ⟨_, _, _, _, _, _, b1, b2, b3, b4, b5⟩ := Fld.item_bd x kind hk h
  exact vals_mem kind _ _ b4 _ _ y (Nat.le_refl _)
/-- An item that is right goes from a value to one that is no less, within its kind's limits. -/
theorem item_in (x : ByteArray) (kind : Int) (hk : (Lex.limits kind).2.2 = 0) (h : (Fld.itemP x kind).2.2.2 = 0) :
    (Lex.limits kind).1 ≤ (Fld.itemP x kind).1 ∧ (Fld.itemP x kind).1 ≤ (Fld.itemP x kind).2.1 ∧ (Fld.itemP x kind).2.1 ≤ (Lex.limits kind).2.1 := by
  obtain ⟨_, h2, _, q1, q2, _, _⟩ := Fld.item_bd x kind hk h
  rw [q1, q2]
  have hl := Fld.limits_bd kind hk
  unfold Fld.valuesP at h2 ⊢
  split
  · dsimp only; omega
  · rename_i hst
    rw [if_neg hst] at h2
    have hlen : (Fld.parts 45 (Fld.cutL x).1).length = 1 ∨ (Fld.parts 45 (Fld.cutL x).1).length = 2 := Fld.split_len (by assumption)
    generalize Fld.parts 45 (Fld.cutL x).1 = P at h2 hlen ⊢
    match P, h2, hlen with
    | [], _, hlen => simp at hlen
    | [y], h2, _ => have := Fld.value_bd y kind h2; dsimp only; omega
    | [y, z], h2, _ =>
      dsimp only at h2 ⊢
      split at h2
      · omega
      · rename_i hy
        split at h2
        · omega
        · rename_i hz
          have h5 := Fld.value_bd y kind (by simpa using hy)
          have h6 := Fld.value_bd z kind (by simpa using hz)
          split at h2
          · omega
          · omega
    | _ :: _ :: _ :: _, _, hlen => simp at hlen
theorem fold_mem (l : List (Fin 64)) {b : Int} (hb : InU b) (i : Nat) : bitAt (l.foldl Fld.put b) i = true ↔ bitAt b i = true ∨ ∃ y ∈ l, y.val = i := by
  rw [bit_fold l hb, Bool.or_eq_true, List.any_eq_true]
  simp
theorem parseL_ok (kind : Int) (hk : (Lex.limits kind).2.2 = 0) : ∀ (L : List ByteArray) (b : Int), InU b → (Fld.parseL kind L b).2 = 0 →
    InU (Fld.parseL kind L b).1 ∧ (∀ x ∈ L, (Fld.itemP x kind).2.2.2 = 0) ∧ ∀ i, bitAt (Fld.parseL kind L b).1 i = true ↔ bitAt b i = true ∨ ∃ x ∈ L, ∃ y ∈ Fld.itemL x kind, y.val = i
  | [], b, hb, _ => ⟨hb, (fun x hx => by cases hx), (fun i => by simp [Fld.parseL])⟩
  | x :: L, b, hb, h => by
    unfold Fld.parseL at h ⊢
    by_cases he : (Fld.itemP x kind).2.2.2 ≠ 0
    · rw [if_pos he] at h; exact absurd h he
    · rw [if_neg he] at h
      rw [if_neg he]
      obtain ⟨h1, h2, h3⟩ := parseL_ok kind hk L _ (fold_in _ hb) h
      refine ⟨h1, ?_, fun i => ?_⟩
      · intro y hy
        rcases List.mem_cons.1 hy with rfl | hy
        · simpa using he
        · exact h2 y hy
      · rw [h3 i, fold_mem _ hb]
        constructor
        · rintro ((h | ⟨y, hy, e⟩) | ⟨z, hz, y, hy, e⟩)
          · exact .inl h
          · exact .inr ⟨x, List.mem_cons_self .., y, hy, e⟩
          · exact .inr ⟨z, List.mem_cons_of_mem _ hz, y, hy, e⟩
        · rintro (h | ⟨z, hz, y, hy, e⟩)
          · exact .inl (.inl h)
          · rcases List.mem_cons.1 hz with rfl | hz
            · exact .inl (.inr ⟨y, hy, e⟩)
            · exact .inr ⟨z, hz, y, hy, e⟩
theorem parts_ne (c : UInt8) (s : ByteArray) : Fld.parts c s ≠ [] := by
  intro h
  have := Fld.parts_len c s
  rw [h] at this
  simp at this
/-- What a field that was parsed is. -/
theorem parse_in (s : ByteArray) (kind : Int) (h : (Fld.parse s kind).2.2 = 0) :
    (Lex.limits kind).2.2 = 0 ∧ InU (Fld.parse s kind).1 ∧ (Fld.parse s kind).2.1 = (s.toList == [42]) ∧ (∀ i : Nat, bitAt (Fld.parse s kind).1 i = true → (Lex.limits kind).1 ≤ i ∧ (i : Int) ≤ top kind) ∧ (∃ i, bitAt (Fld.parse s kind).1 i = true) ∧
    (∀ i, bitAt (Fld.parse s kind).1 i = true ↔ ∃ x ∈ Fld.parts 44 s, ∃ y ∈ Fld.itemL x kind, y.val = i) ∧ (Fld.parseL kind (Fld.parts 44 s) 0).2 = 0 ∧ (Fld.parse s kind).1 = (Fld.parseL kind (Fld.parts 44 s) 0).1 := by
  unfold Fld.parse at h ⊢
  by_cases hk : (Lex.limits kind).2.2 ≠ 0
  · rw [if_pos hk] at h; exact absurd h hk
  rw [if_neg hk] at h
  rw [if_neg hk]
  have hk' : (Lex.limits kind).2.2 = 0 := by simpa using hk
  by_cases he : (Fld.parseL kind (Fld.parts 44 s) 0).2 ≠ 0
  · rw [if_pos he] at h; exact absurd h he
  rw [if_neg he]
  have he' : (Fld.parseL kind (Fld.parts 44 s) 0).2 = 0 := by simpa using he
  obtain ⟨h1, h2, h3⟩ := parseL_ok kind hk' (Fld.parts 44 s) 0 (by unfold InU; decide) he'
  have h4 : ∀ i, bitAt (Fld.parseL kind (Fld.parts 44 s) 0).1 i = true ↔ ∃ x ∈ Fld.parts 44 s, ∃ y ∈ Fld.itemL x kind, y.val = i := fun i => by rw [h3 i, bit_zero]; simp
  refine ⟨hk', h1, rfl, ?_, ?_, h4, he', rfl⟩
  · intro i hi
    obtain ⟨x, hx, y, hy, rfl⟩ := (h4 i).1 hi
    have hi0 := item_in x kind hk' (h2 x hx)
    obtain ⟨u, u1, u2, _, rfl⟩ := (item_L x kind y hk' (h2 x hx)).1 hy
    exact day_in kind u hk' (by omega) (by omega)
  · obtain ⟨x, L, hL⟩ := List.exists_cons_of_ne_nil (parts_ne 44 s)
    have hx : x ∈ Fld.parts 44 s := by rw [hL]; exact List.mem_cons_self ..
    have hi0 := item_in x kind hk' (h2 x hx)
    refine ⟨(Fld.day kind (Fld.itemP x kind).1).val, (h4 _).2 ⟨x, hx, _, (item_L x kind _ hk' (h2 x hx)).2 ⟨(Fld.itemP x kind).1, Int.le_refl _, hi0.2.1, by simp, rfl⟩, rfl⟩⟩
theorem parse_err (s : ByteArray) (kind : Int) (h : (Fld.parse s kind).2.2 ≠ 0) : Fld.parse s kind = (0, false, (Fld.parse s kind).2.2) := by
  unfold Fld.parse at h ⊢
  by_cases hk : (Lex.limits kind).2.2 ≠ 0
  · rw [if_pos hk]
  · rw [if_neg hk] at h ⊢
    by_cases he : (Fld.parseL kind (Fld.parts 44 s) 0).2 ≠ 0
    · rw [if_pos he]
    · rw [if_neg he] at h; exact absurd rfl h
/-- A value alone. -/
theorem item_value (s : ByteArray) (kind : Int) (h : (Lex.value s kind).2 = 0) : Fld.itemP s kind = ((Lex.value s kind).1, (Lex.value s kind).1, 1, 0) := by
  have hp := value_plain s kind h
  have h47 : (47 : UInt8) ∉ s.data.toList := fun hm => (hp _ hm).2.2.1 rfl
  have h45 : (45 : UInt8) ∉ s.data.toList := fun hm => (hp _ hm).2.1 rfl
  have hc : Fld.cutL s = (s, ⟨#[]⟩, false) := by
    unfold Fld.cutL
    rw [cut_none _ h47]
  have hpt : Fld.parts 45 s = [s] := by rw [parts_sp, sp_none 45 _ h45]; exact congrArg (fun z => [z]) (L2B_of s)
  have hs : Fld.splitE s = 0 := by
    unfold Fld.splitE
    rw [hc, hpt]
    rw [if_neg (by simp; decide), if_neg (by simp)]
  have hst : ¬ s.toList = [42] := by
    rw [toList_of]; intro e
    exact (hp 42 (by rw [e]; simp)).2.2.2 rfl
  unfold Fld.itemP
  rw [if_neg (by simp [hs]), hc, hpt]
  have hv : Fld.valuesP s [s] kind = ((Lex.value s kind).1, (Lex.value s kind).1, (Lex.value s kind).2) := by unfold Fld.valuesP; rw [if_neg hst]
  rw [hv]
  dsimp only
  rw [if_neg (by simp [h]), show Fld.stepP ⟨#[]⟩ false = (1, 0) from rfl]
  simp
theorem parse_value (s : ByteArray) (kind : Int) (h : (Lex.value s kind).2 = 0) : Fld.parse s kind = (Fld.put 0 (Fld.day kind (Lex.value s kind).1), false, 0) := by
  have hp := value_plain s kind h
  have h44 : (44 : UInt8) ∉ s.data.toList := fun hm => (hp _ hm).1 rfl
  have hpt : Fld.parts 44 s = [s] := by rw [parts_sp, sp_none 44 _ h44]; exact congrArg (fun z => [z]) (L2B_of s)
  have hst : (s.toList == [42]) = false := by
    rw [toList_of, beq_eq_false_iff_ne]; intro e
    exact (hp 42 (by rw [e]; simp)).2.2.2 rfl
  have hb := Fld.value_bd s kind h
  have hI : Fld.itemL s kind = [Fld.day kind (Lex.value s kind).1] := by
    unfold Fld.itemL
    rw [item_value s kind h]
    dsimp only
    rw [show ((Lex.value s kind).1 + 1 - (Lex.value s kind).1).toNat = 1 by omega]
    simp [Fld.vals]
  have hL : Fld.parseL kind [s] 0 = (Fld.put 0 (Fld.day kind (Lex.value s kind).1), 0) := by
    show (if (Fld.itemP s kind).2.2.2 ≠ 0 then _ else _) = _
    rw [if_neg (by rw [item_value s kind h]; simp), hI]
    rfl
  unfold Fld.parse
  rw [if_neg (by simp [hb.1]), hpt, hst, hL]
  rfl
/-! What field's functions tell of what is parsed. -/
theorem top_bd (kind : Int) (hk : (Lex.limits kind).2.2 = 0) : ∃ lo hi : Nat, (Lex.limits kind).1 = lo ∧ top kind = hi ∧ lo ≤ hi ∧ hi ≤ 59 := by
  have hl := Fld.limits_bd kind hk
  by_cases h4 : kind = 4
  · subst h4; exact ⟨0, 6, rfl, rfl, by decide, by decide⟩
  · refine ⟨(Lex.limits kind).1.toNat, (Lex.limits kind).2.1.toNat, by omega, ?_, by omega, by omega⟩
    unfold top
    rw [if_neg h4]
    omega
theorem check_f (b : Int) (s : Bool) (kind : Int) (lo hi : Nat) (hk : (Lex.limits kind).2.2 = 0) (hlo : (Lex.limits kind).1 = lo) (hhi : top kind = hi) (h1 : lo ≤ hi) (h2 : hi ≤ 59) :
    field_Check.f b s kind = if b = 0 then some 2 else if Go.bits .andNot .u64 b (evB lo hi) = 0 then (if s = true then (if b = evB lo hi then some 0 else some 2) else some 0) else some 2 := by
  unfold field_Check.f
  rw [Fld.limits_f]
  simp only [Option.bind_some]
  rw [if_pos hk, hlo, show (if kind = 4 then 6 else (Lex.limits kind).2.1) = (hi : Int) from hhi, every_f lo hi h1 (by omega)]
  rfl
theorem check_bad (b : Int) (s : Bool) (kind : Int) (hk : (Lex.limits kind).2.2 ≠ 0) : field_Check.f b s kind = some (Lex.limits kind).2.2 := by
  unfold field_Check.f
  rw [Fld.limits_f]
  simp only [Option.bind_some]
  rw [if_neg hk]
theorem kinds (kind : Int) (hk : (Lex.limits kind).2.2 = 0) : kind = 0 ∨ kind = 1 ∨ kind = 2 ∨ kind = 3 ∨ kind = 4 := by
  unfold Lex.limits at hk
  by_cases h0 : kind = 0
  · exact .inl h0
  by_cases h1 : kind = 1
  · exact .inr (.inl h1)
  by_cases h2 : kind = 2
  · exact .inr (.inr (.inl h2))
  by_cases h3 : kind = 3
  · exact .inr (.inr (.inr (.inl h3)))
  by_cases h4 : kind = 4
  · exact .inr (.inr (.inr (.inr h4)))
  · rw [if_neg h0, if_neg h1, if_neg h2, if_neg h3, if_neg h4] at hk
    exact absurd hk (by decide)
set_option maxRecDepth 100000 in
theorem parse_star (kind : Int) (lo hi : Nat) (hk : (Lex.limits kind).2.2 = 0) (hlo : (Lex.limits kind).1 = lo) (hhi : top kind = hi) : Fld.parse ⟨#[42]⟩ kind = (evB lo hi, true, 0) := by
  have key : ∀ k : Int, ∀ l h : Nat, (Lex.limits k).1 = l → top k = h → Fld.parse ⟨#[42]⟩ k = (evB (Lex.limits k).1.toNat (top k).toNat, true, 0) → Fld.parse ⟨#[42]⟩ k = (evB l h, true, 0) := by
    intro k l h e1 e2 e3
    rw [e3, e1, e2, Int.toNat_natCast, Int.toNat_natCast]
  rcases kinds kind hk with rfl | rfl | rfl | rfl | rfl
  all_goals exact key _ lo hi hlo hhi (by decide +kernel)
theorem star_is {s : ByteArray} (h : s.toList = [42]) : s = ⟨#[42]⟩ := B_ext (by rw [← toList_of, h])
/-- What is parsed may be a field. -/
theorem parse_check (s : ByteArray) (kind : Int) (h : (Fld.parse s kind).2.2 = 0) : field_Check.f (Fld.parse s kind).1 (Fld.parse s kind).2.1 kind = some 0 := by
  obtain ⟨hk, hin, hst, hlim, ⟨i, hi⟩, -, -, -⟩ := parse_in s kind h
  obtain ⟨lo, hi', hlo, hhi, h1, h2⟩ := top_bd kind hk
  rw [check_f _ _ kind lo hi' hk hlo hhi h1 h2]
  rw [if_neg (by intro e; rw [e, bit_zero] at hi; cases hi)]
  rw [if_pos ((andNot_zero _ _ hin (ev_in lo hi' (by omega))).2 (fun j _ hj => by
    obtain ⟨q1, q2⟩ := hlim j hj
    rw [bit_ev lo hi' j (by omega), decide_eq_true (by omega), decide_eq_true (by omega)]; rfl))]
  cases hs : (Fld.parse s kind).2.1
  · rfl
  · rw [if_pos rfl]
    rw [hst] at hs
    obtain rfl := star_is (beq_iff_eq.1 hs)
    rw [parse_star kind lo hi' hk hlo hhi, if_pos rfl]
theorem parse_f (s : ByteArray) (kind : Int) (h : s.size ≤ 1000000) : field_Parse.f s kind = some (Fld.parse s kind) := by unfold field_Parse.f; rw [if_pos h]
end Go.Proofs.YtjddfpciblhpaaaGreatDoor.PSpp
