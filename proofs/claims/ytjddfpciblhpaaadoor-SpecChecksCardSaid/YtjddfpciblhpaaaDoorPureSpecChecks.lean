/- The law SpecChecks, over numbers: its printed function answers true at every input. No condition. -/
import Derived.Test.YtjddfpciblhpaaaDoorPSpcx12
namespace Go.Proofs.YtjddfpciblhpaaaDoor.PSpc
open Go.RowKit Go.Proofs.YtjddfpciblhpaaaDoorW.PrintWords Go.Proofs.YtjddfpciblhpaaaDoorW.PrintLast Go.Proofs.YtjddfpciblhpaaaDoorW.PrintMore
set_option linter.unusedVariables false
set_option linter.unusedSimpArgs false
/-! Bits of a whole number, and what field's functions tell of them. -/
theorem u64w (z : Int) : IntKind.u64.wrap z = z % 18446744073709551616 := by simp [IntKind.wrap, IntKind.bits, IntKind.signed]
def InU (b : Int) : Prop := 0 ≤ b ∧ b < 18446744073709551616
/-- Bit i of a whole number. -/
def bitAt (b : Int) (i : Nat) : Bool := b.toNat.testBit i
theorem nat_of (b : Int) (h : InU b) : ∃ n : Nat, b = n ∧ n < 2 ^ 64 := by
  obtain ⟨n, rfl⟩ := Int.eq_ofNat_of_zero_le h.1
  exact ⟨n, rfl, by have := h.2; omega⟩
theorem bits_u64 (a b : Nat) (ha : a < 2 ^ 64) (hb : b < 2 ^ 64) : Go.bits .and .u64 a b = ((a &&& b : Nat) : Int) ∧ Go.bits .or .u64 a b = ((a ||| b : Nat) : Int) :=
  bits_nat .u64 64 (by decide) (fun z h0 h1 => IntWalk.u64_in z ⟨h0, by omega⟩) a b ha hb
theorem put_nat (n : Nat) (x : Fin 64) (hn : n < 2 ^ 64) : Fld.put (n : Int) x = ((n ||| 2 ^ x.val : Nat) : Int) := by
  unfold Fld.put
  have h2 : (2 : Int) ^ x.val = ((2 ^ x.val : Nat) : Int) := by simp
  rw [h2, (bits_u64 n _ hn (Nat.pow_lt_pow_right (by decide) x.isLt)).2]
theorem put_in {b : Int} (x : Fin 64) (h : InU b) : InU (Fld.put b x) := Fld.put_bd x h
theorem bit_put {b : Int} (x : Fin 64) (h : InU b) (i : Nat) : bitAt (Fld.put b x) i = (bitAt b i || decide (x.val = i)) := by
  obtain ⟨n, rfl, hn⟩ := nat_of b h
  rw [put_nat n x hn]
  unfold bitAt
  rw [Int.toNat_natCast, Int.toNat_natCast, Nat.testBit_or, Nat.testBit_two_pow]
theorem fold_in (l : List (Fin 64)) : ∀ {b : Int}, InU b → InU (l.foldl Fld.put b) := by
  induction l with
  | nil => exact fun h => h
  | cons x l ih => exact fun h => ih (put_in x h)
theorem bit_fold (l : List (Fin 64)) : ∀ {b : Int}, InU b → ∀ i : Nat, bitAt (l.foldl Fld.put b) i = (bitAt b i || l.any fun x => decide (x.val = i)) := by
  induction l with
  | nil => intro b _ i; simp
  | cons x l ih => intro b h i; rw [List.foldl_cons, ih (put_in x h), bit_put x h, List.any_cons, Bool.or_assoc]
theorem eq_of_bits {a b : Int} (ha : InU a) (hb : InU b) (h : ∀ i, i < 64 → bitAt a i = bitAt b i) : a = b := by
  obtain ⟨n, rfl, hn⟩ := nat_of a ha
  obtain ⟨m, rfl, hm⟩ := nat_of b hb
  have : n = m := by
    apply Nat.eq_of_testBit_eq
    intro i
    by_cases hi : i < 64
    · exact h i hi
    · rw [Nat.testBit_lt_two_pow (Nat.lt_of_lt_of_le hn (Nat.pow_le_pow_right (by decide) (by omega))), Nat.testBit_lt_two_pow (Nat.lt_of_lt_of_le hm (Nat.pow_le_pow_right (by decide) (by omega)))]
  rw [this]
theorem bit_zero (i : Nat) : bitAt 0 i = false := by simp [bitAt]
theorem bit_big {b : Int} (h : InU b) {i : Nat} (hi : 64 ≤ i) : bitAt b i = false := by
  obtain ⟨n, rfl, hn⟩ := nat_of b h
  exact Nat.testBit_lt_two_pow (Nat.lt_of_lt_of_le hn (Nat.pow_le_pow_right (by decide) hi))
/-- All values from one to another one. -/
def evB (lo hi : Nat) : Int := ((2 ^ (hi + 1) - 2 ^ lo : Nat) : Int)
theorem sub_testBit (lo : Nat) : ∀ (d i : Nat), (2 ^ (lo + d) - 2 ^ lo).testBit i = (decide (lo ≤ i) && decide (i < lo + d)) := by
  intro d i
  have e : 2 ^ (lo + d) - 2 ^ lo = 2 ^ lo * (2 ^ d - 1) := by rw [Nat.pow_add, Nat.mul_sub, Nat.mul_one]
  rw [e, Nat.testBit_two_pow_mul, Nat.testBit_two_pow_sub_one]
  by_cases h : lo ≤ i
  · simp [h]; omega
  · simp [h]
theorem bit_ev (lo hi i : Nat) (h : lo ≤ hi + 1) : bitAt (evB lo hi) i = (decide (lo ≤ i) && decide (i ≤ hi)) := by
  unfold bitAt evB
  rw [Int.toNat_natCast]
  obtain ⟨d, hd⟩ : ∃ d, hi + 1 = lo + d := ⟨hi + 1 - lo, by omega⟩
  rw [hd, sub_testBit]
  congr 1
  simp; omega
theorem ev_in (lo hi : Nat) (h : hi ≤ 62) : InU (evB lo hi) := by
  unfold evB InU
  have : 2 ^ (hi + 1) ≤ 2 ^ 63 := Nat.pow_le_pow_right (by decide) (by omega)
  rw [show (2 : Nat) ^ 63 = 9223372036854775808 by decide] at this
  generalize (2 : Nat) ^ (hi + 1) = q at this ⊢
  generalize (2 : Nat) ^ lo = r
  omega
theorem shl_one (n : Nat) (h : n < 64) : shl .u64 1 (n : Int) = ((2 ^ n : Nat) : Int) := by
  have := Nat.pow_lt_pow_right (a := 2) (by decide) h
  unfold shl
  rw [u64w, show min ((n : Int).toNat) (IntKind.bits .u64) = n by simp [IntKind.bits]; omega]
  simp only [Int.one_mul]
  rw [show (2 : Int) ^ n = ((2 ^ n : Nat) : Int) by simp]
  rw [show (2 : Nat) ^ 64 = 18446744073709551616 by decide] at this
  generalize (2 : Nat) ^ n = q at this ⊢
  omega
theorem shr_nat (a n : Nat) (h : n < 64) : shr .u64 (a : Int) (n : Int) = ((a / 2 ^ n : Nat) : Int) := by
  unfold shr
  rw [show min ((n : Int).toNat) (IntKind.bits .u64) = n by simp [IntKind.bits]; omega]
  rw [show (2 : Int) ^ n = ((2 ^ n : Nat) : Int) by simp]
  simp
theorem shl_nat (a n : Nat) (h : n < 64) : shl .u64 (a : Int) (n : Int) = ((a * 2 ^ n % 2 ^ 64 : Nat) : Int) := by
  unfold shl
  rw [u64w, show min ((n : Int).toNat) (IntKind.bits .u64) = n by simp [IntKind.bits]; omega]
  rw [show (2 : Int) ^ n = ((2 ^ n : Nat) : Int) by simp]
  generalize 2 ^ n = q
  rw [show (2 : Nat) ^ 64 = 18446744073709551616 by decide, Int.natCast_emod, Int.natCast_mul]
  rfl
theorem every_f (lo hi : Nat) (h : lo ≤ hi) (h2 : hi ≤ 62) : field_every.f (lo : Int) (hi : Int) = some (evB lo hi) := by
  have hw1 : wrap64 ((hi : Int) + 1) = ((hi + 1 : Nat) : Int) := by unfold wrap64; omega
  have hw2 : IntKind.u64.wrap ((hi + 1 : Nat) : Int) = ((hi + 1 : Nat) : Int) := by rw [u64w]; omega
  have hw3 : IntKind.u64.wrap (lo : Int) = (lo : Int) := by rw [u64w]; omega
  unfold field_every.f
  rw [hw1, hw2, hw3, if_pos (by omega), if_pos (by omega), shl_one _ (by omega), shl_one _ (by omega)]
  have h3 : 2 ^ lo ≤ 2 ^ (hi + 1) := Nat.pow_le_pow_right (by decide) (by omega)
  have h4 : 2 ^ (hi + 1) ≤ 2 ^ 63 := Nat.pow_le_pow_right (by decide) (by omega)
  congr 1
  unfold evB
  rw [u64w]
  rw [show (2 : Nat) ^ 63 = 9223372036854775808 by decide] at h4
  generalize (2 : Nat) ^ (hi + 1) = q at h3 h4 ⊢
  generalize (2 : Nat) ^ lo = r at h3 ⊢
  omega
theorem andNot_zero (a b : Int) (ha : InU a) (hb : InU b) : (Go.bits .andNot .u64 a b = 0) ↔ ∀ i, i < 64 → bitAt a i = true → bitAt b i = true := by
  obtain ⟨n, rfl, hn⟩ := nat_of a ha
  obtain ⟨m, rfl, hm⟩ := nat_of b hb
  have e : Go.bits .andNot .u64 (n : Int) (m : Int) = ((BitVec.ofNat 64 n &&& ~~~ BitVec.ofNat 64 m).toNat : Int) := by
    have := (BitVec.ofNat 64 n &&& ~~~ BitVec.ofNat 64 m).isLt
    show IntKind.u64.wrap ((BitVec.ofInt 64 (n : Int) &&& ~~~ BitVec.ofInt 64 (m : Int)).toNat : Int) = _
    rw [BitVec.ofInt_natCast, BitVec.ofInt_natCast, u64w]
    omega
  rw [e]
  have hz : ((BitVec.ofNat 64 n &&& ~~~ BitVec.ofNat 64 m).toNat : Int) = 0 ↔ (BitVec.ofNat 64 n &&& ~~~ BitVec.ofNat 64 m) = 0#64 := by
    constructor
    · intro h; apply BitVec.eq_of_toNat_eq; simpa using h
    · intro h; rw [h]; rfl
  rw [hz]
  constructor
  · intro h i hi hb
    have := congrArg (fun v => v.getLsbD i) h
    simp only [BitVec.getLsbD_and, BitVec.getLsbD_not, BitVec.getLsbD_ofNat, hi, decide_true, Bool.true_and, BitVec.getLsbD_zero] at this
    unfold bitAt at hb ⊢
    rw [Int.toNat_natCast] at hb ⊢
    rw [hb] at this
    simpa using this
  · intro h
    apply BitVec.eq_of_getLsbD_eq
    intro i hi
    simp only [BitVec.getLsbD_and, BitVec.getLsbD_not, BitVec.getLsbD_ofNat, hi, decide_true, Bool.true_and, BitVec.getLsbD_zero]
    have := h i hi
    unfold bitAt at this
    rw [Int.toNat_natCast, Int.toNat_natCast] at this
    cases h1 : n.testBit i
    · simp
    · rw [this h1]; simp
def top (kind : Int) : Int := if kind = 4 then 6 else (Lex.limits kind).2.1
theorem check_f (b : Int) (s : Bool) (kind : Int) (lo hi : Nat) (hk : (Lex.limits kind).2.2 = 0) (hlo : (Lex.limits kind).1 = lo) (hhi : top kind = hi) (h1 : lo ≤ hi) (h2 : hi ≤ 59) :
    field_Check.f b s kind = if b = 0 then some 2 else if Go.bits .andNot .u64 b (evB lo hi) = 0 then (if s = true then (if b = evB lo hi then some 0 else some 2) else some 0) else some 2 := by
  unfold field_Check.f
  rw [Fld.limits_f]
  simp only [Option.bind_some]
  rw [if_pos hk, hlo, show (if kind = 4 then 6 else (Lex.limits kind).2.1) = (hi : Int) from hhi, every_f lo hi h1 (by omega)]
  rfl
/-! complineref18.Has, Check and All, over bits. -/
theorem Ref_half (x : Int) (h : InU x) : IntKind.u64.wrap (Int.tdiv x 2) = ((x.toNat / 2 : Nat) : Int) := by
  obtain ⟨n, rfl, hn⟩ := nat_of x h
  rw [u64w, Int.toNat_natCast]
  have : Int.tdiv (n : Int) 2 = ((n / 2 : Nat) : Int) := by rw [Int.tdiv_eq_ediv_of_nonneg (by omega)]; omega
  rw [this]
  rw [show (2 : Nat) ^ 64 = 18446744073709551616 by decide] at hn
  omega
theorem Ref_has_l : ∀ (d i : Nat) (v : Int) (x : Int) (K : Nat), InU x → (i : Int) + d = v → v ≤ 64 → complineref18_Has.l0 (d + 1 + K) v x (i : Int) = some (bitAt x d)
  | 0, i, v, x, K, hx, hv, h64 => by
    rw [show 0 + 1 + K = K + 1 by omega, complineref18_Has.l0, if_neg (by omega)]
    obtain ⟨n, rfl, hn⟩ := nat_of x hx
    congr 1
    unfold bitAt
    rw [Int.toNat_natCast, Nat.testBit_zero]
    rw [Int.tmod_eq_emod_of_nonneg (by omega)]
    rw [Bool.eq_iff_iff]
    simp only [beq_iff_eq, decide_eq_true_eq]
    omega
  | d + 1, i, v, x, K, hx, hv, h64 => by
    have hw : wrap64 ((i : Int) + 1) = ((i + 1 : Nat) : Int) := by unfold wrap64; omega
    rw [show d + 1 + 1 + K = (d + 1 + K) + 1 by omega, complineref18_Has.l0, if_pos (by omega), Ref_half x hx, hw]
    have hx2 : InU ((x.toNat / 2 : Nat) : Int) := by unfold InU at hx ⊢; omega
    rw [Ref_has_l d (i + 1) v _ K hx2 (by omega) h64]
    unfold bitAt
    rw [Int.toNat_natCast, Nat.testBit_succ]
theorem Ref_has (b : Int) (s : Bool) (v : Nat) (hb : InU b) (hv : v < 64) (K : Nat) : complineref18_Has.f (K + 70) b s (v : Int) = some (bitAt b v) := by
  unfold complineref18_Has.f
  rw [if_neg (by omega), decide_eq_false (by omega), complineref18_Has.j0, if_neg (by decide)]
  rw [show K + 69 = v + 1 + (K + 68 - v) by omega]
  exact Ref_has_l v 0 v b _ hb (by omega) (by omega)
/-- How many of the bits from v on, d of them, are set; and whether one lies out. -/
def cntF (f : Nat → Bool) : Nat → Nat → Nat
  | _, 0 => 0
  | v, d + 1 => (if f v then 1 else 0) + cntF f (v + 1) d
def outF (f : Nat → Bool) (lo hi : Nat) : Nat → Nat → Bool
  | _, 0 => false
  | v, d + 1 => (f v && (decide (v < lo) || decide (hi < v))) || outF f lo hi (v + 1) d
def finF (lo hi : Nat) (s : Bool) (m : Nat) : Option Int := if (m : Int) = 0 then some 2 else if s = true then (if (m : Int) = (hi : Int) - lo + 1 then some 0 else some 2) else some 0
theorem Ref_check_l (b : Int) (s : Bool) (lo hi : Nat) (hb : InU b) (hh : lo ≤ hi) (h59 : hi ≤ 59) : ∀ (d v n K : Nat), v + d = 64 → n ≤ v →
    complineref18_Check.l0 (2 * d + 1 + (K + 72)) (lo : Int) (hi : Int) (n : Int) (v : Int) b s = if outF (bitAt b) lo hi v d = true then some 2 else finF lo hi s (n + cntF (bitAt b) v d)
  | 0, v, n, K, hv, hn => by
    have hw : wrap64 (wrap64 ((hi : Int) - lo) + 1) = (hi : Int) - lo + 1 := by unfold wrap64; omega
    rw [show 2 * 0 + 1 + (K + 72) = (K + 72) + 1 by omega, complineref18_Check.l0, if_neg (by omega), hw]
    rfl
  | d + 1, v, n, K, hv, hn => by
    have hw : wrap64 ((v : Int) + 1) = ((v + 1 : Nat) : Int) := by unfold wrap64; omega
    have hwn : wrap64 ((n : Int) + 1) = ((n + 1 : Nat) : Int) := by unfold wrap64; omega
    rw [show 2 * (d + 1) + 1 + (K + 72) = (2 * d + 1 + (K + 72) + 1) + 1 by omega, complineref18_Check.l0, if_pos (by omega)]
    rw [show 2 * d + 1 + (K + 72) + 1 = (2 * d + K + 4) + 70 by omega, Ref_has b s v hb (by omega)]
    simp only [Option.bind_some]
    rw [show 2 * d + K + 4 + 70 = (2 * d + 1 + (K + 72)) + 1 by omega]
    unfold outF cntF
    cases hbv : bitAt b v
    · rw [if_neg (by decide), complineref18_Check.j1, if_neg (by decide), if_neg (by decide), hw, Ref_check_l b s lo hi hb hh h59 d (v + 1) n K (by omega) (by omega)]
      simp
    · rw [if_pos rfl]
      by_cases h1 : (v : Int) < lo
      · rw [if_pos h1, complineref18_Check.j1, if_pos rfl]
        rw [decide_eq_true (by omega : v < lo)]
        rfl
      · rw [if_neg h1, complineref18_Check.j1]
        by_cases h2 : (v : Int) > hi
        · rw [decide_eq_true h2, if_pos rfl, decide_eq_true (by omega : hi < v)]
          simp
        · rw [decide_eq_false h2, if_neg (by decide), if_pos rfl, hw, hwn, Ref_check_l b s lo hi hb hh h59 d (v + 1) (n + 1) K (by omega) (by omega)]
          rw [decide_eq_false (by omega : ¬ v < lo), decide_eq_false (by omega : ¬ hi < v)]
          simp [Nat.add_assoc]
theorem out_iff (f : Nat → Bool) (lo hi : Nat) : ∀ (d v : Nat), outF f lo hi v d = false ↔ ∀ i, v ≤ i → i < v + d → f i = true → lo ≤ i ∧ i ≤ hi
  | 0, v => ⟨fun _ i h1 h2 => by omega, fun _ => rfl⟩
  | d + 1, v => by
    unfold outF
    rw [Bool.or_eq_false_iff, out_iff f lo hi d (v + 1)]
    constructor
    · rintro ⟨h1, h2⟩ i h3 h4 h5
      by_cases hi' : i = v
      · subst hi'
        rw [h5] at h1
        simp at h1
        omega
      · exact h2 i (by omega) (by omega) h5
    · intro h
      refine ⟨?_, fun i h1 h2 h3 => h i (by omega) (by omega) h3⟩
      cases hf : f v
      · rfl
      · have := h v (by omega) (by omega) hf
        simp; omega
theorem cnt_zero (f : Nat → Bool) : ∀ (d v : Nat), cntF f v d = 0 ↔ ∀ i, v ≤ i → i < v + d → f i = false
  | 0, v => ⟨fun _ i h1 h2 => by omega, fun _ => rfl⟩
  | d + 1, v => by
    unfold cntF
    constructor
    · intro h i h1 h2
      by_cases hi : i = v
      · subst hi; cases hf : f i; rfl; rw [hf] at h; simp at h
      · exact (cnt_zero f d (v + 1)).1 (by omega) i (by omega) (by omega)
    · intro h
      rw [h v (by omega) (by omega), (cnt_zero f d (v + 1)).2 (fun i h1 h2 => h i (by omega) (by omega))]
      rfl
theorem cnt_le (f g : Nat → Bool) : ∀ (d v : Nat), (∀ i, v ≤ i → i < v + d → f i = true → g i = true) → cntF f v d ≤ cntF g v d ∧ (cntF f v d = cntF g v d ↔ ∀ i, v ≤ i → i < v + d → f i = g i)
  | 0, v, _ => ⟨Nat.le_refl _, fun _ i h1 h2 => by omega, fun _ => rfl⟩
  | d + 1, v, h => by
    obtain ⟨h1, h2⟩ := cnt_le f g d (v + 1) (fun i a b c => h i (by omega) (by omega) c)
    unfold cntF
    have h3 := h v (by omega) (by omega)
    constructor
    · cases hf : f v
      · simp; omega
      · rw [h3 hf]; simp; exact h1
    · constructor
      · intro he i a b
        by_cases hi : i = v
        · subst hi
          cases hf : f i
          · cases hg : g i
            · rfl
            · rw [hf, hg] at he; simp at he; omega
          · rw [h3 hf]
        · refine h2.1 ?_ i (by omega) (by omega)
          cases hf : f v
          · rw [hf] at he
            simp at he
            cases hg : g v
            · rw [hg] at he; simpa using he
            · rw [hg] at he; simp at he; omega
          · rw [hf, h3 hf] at he; simpa using he
      · intro he
        rw [he v (by omega) (by omega), h2.2 (fun i a b => he i (by omega) (by omega))]
theorem cnt_ext (f g : Nat → Bool) (h : ∀ i, f i = g i) : ∀ (d v : Nat), cntF f v d = cntF g v d
  | 0, _ => rfl
  | d + 1, v => by unfold cntF; rw [h v, cnt_ext f g h d (v + 1)]
theorem Ref_check (b : Int) (s : Bool) (kind : Int) (lo hi : Nat) (hb : InU b) (hk : (Lex.limits kind).2.2 = 0) (hlo : (Lex.limits kind).1 = lo) (hhi : top kind = hi) (h1 : lo ≤ hi) (h2 : hi ≤ 59)
    (hl : complineref18_limits.f kind = some ((lo : Int), (hi : Int), 0)) (hc : cntF (fun i => decide (lo ≤ i) && decide (i ≤ hi)) 0 64 = hi + 1 - lo) (K : Nat) :
    complineref18_Check.f (K + 201) b s kind = field_Check.f b s kind := by
  rw [check_f b s kind lo hi hk hlo hhi h1 h2]
  unfold complineref18_Check.f
  rw [hl]
  simp only [Option.bind_some, if_true]
  have e := Ref_check_l b s lo hi hb h1 h2 64 0 0 K (by omega) (by omega)
  rw [show 2 * 64 + 1 + (K + 72) = K + 201 by omega] at e
  refine (show complineref18_Check.l0 (K + 201) (lo : Int) (hi : Int) 0 0 b s = _ from e).trans ?_
  rw [Nat.zero_add]
  have hev := ev_in lo hi (by omega)
  by_cases ho : outF (bitAt b) lo hi 0 64 = true
  · rw [if_pos ho]
    by_cases hz : b = 0
    · rw [if_pos hz]
    · rw [if_neg hz, if_neg]
      intro ha
      rw [andNot_zero _ _ hb hev] at ha
      have : outF (bitAt b) lo hi 0 64 = false := (out_iff _ _ _ _ _).2 (fun i _ hi6 hbi => by
        have := ha i (by omega) hbi
        rw [bit_ev lo hi i (by omega)] at this
        simp at this
        exact this)
      rw [this] at ho
      cases ho
  · rw [if_neg ho]
    have ho' : outF (bitAt b) lo hi 0 64 = false := by simpa using ho
    have hin := (out_iff _ _ _ _ _).1 ho'
    have hsub : ∀ i, i < 64 → bitAt b i = true → bitAt (evB lo hi) i = true := by
      intro i hi6 hbi
      obtain ⟨q1, q2⟩ := hin i (by omega) (by omega) hbi
      rw [bit_ev lo hi i (by omega), decide_eq_true q1, decide_eq_true q2]
      rfl
    have hz : cntF (bitAt b) 0 64 = 0 ↔ b = 0 := by
      rw [cnt_zero]
      constructor
      · intro h
        exact eq_of_bits hb (by unfold InU; omega) (fun i hi6 => by rw [h i (by omega) (by omega), bit_zero])
      · rintro rfl i _ _
        exact bit_zero i
    have hf : cntF (bitAt b) 0 64 = hi + 1 - lo ↔ b = evB lo hi := by
      have q := (cnt_le (bitAt b) (bitAt (evB lo hi)) 64 0 (fun i _ h4 h5 => hsub i (by omega) h5)).2
      have q2 : cntF (bitAt (evB lo hi)) 0 64 = hi + 1 - lo := by rw [← hc]; exact cnt_ext _ _ (fun i => bit_ev lo hi i (by omega)) 64 0
      rw [q2] at q
      rw [q]
      constructor
      · intro h
        exact eq_of_bits hb hev (fun i hi6 => h i (by omega) (by omega))
      · rintro rfl i _ _
        rfl
    unfold finF
    rw [if_pos ((andNot_zero _ _ hb hev).2 hsub)]
    by_cases hb0 : b = 0
    · rw [if_pos (by rw [hz.2 hb0]; rfl), if_pos hb0]
    · rw [if_neg (by intro e; exact hb0 (hz.1 (by omega))), if_neg hb0]
      cases s
      · rfl
      · rw [if_pos rfl, if_pos rfl]
        by_cases hbe : b = evB lo hi
        · rw [if_pos (by rw [hf.2 hbe]; omega), if_pos hbe]
        · rw [if_neg (by intro e; exact hbe (hf.1 (by omega))), if_neg hbe]
theorem Ref_check_k (b : Int) (s : Bool) (i : Nat) (hi : i < 5) (hb : InU b) (K : Nat) : complineref18_Check.f (K + 201) b s (i : Int) = field_Check.f b s (i : Int) := by
  rcases (by omega : i = 0 ∨ i = 1 ∨ i = 2 ∨ i = 3 ∨ i = 4) with rfl | rfl | rfl | rfl | rfl
  · exact Ref_check b s 0 0 59 hb rfl rfl rfl (by decide) (by decide) rfl (by decide +kernel) K
  · exact Ref_check b s 1 0 23 hb rfl rfl rfl (by decide) (by decide) rfl (by decide +kernel) K
  · exact Ref_check b s 2 1 31 hb rfl rfl rfl (by decide) (by decide) rfl (by decide +kernel) K
  · exact Ref_check b s 3 1 12 hb rfl rfl rfl (by decide) (by decide) rfl (by decide +kernel) K
  · exact Ref_check b s 4 0 6 hb rfl rfl rfl (by decide) (by decide) rfl (by decide +kernel) K
theorem wf_in (a : Int) (h : (Lit.int .u64 a).wf = true) : InU a := by
  unfold InU
  simp [Lit.wf] at h
  obtain ⟨h1, h2⟩ := h
  have h1' : (0 : Int) ≤ a := h1
  have h2' : a ≤ 18446744073709551615 := h2
  omega
theorem chk_tot (b : Int) (s : Bool) (i : Nat) (hi : i < 5) : ∃ e, field_Check.f b s (i : Int) = some e := by
  have key : ∀ (kind : Int) (lo hi : Nat), (Lex.limits kind).2.2 = 0 → (Lex.limits kind).1 = lo → top kind = hi → lo ≤ hi → hi ≤ 59 → ∃ e, field_Check.f b s kind = some e := by
    intro kind lo hi hk hlo hhi h1 h2
    rw [check_f b s kind lo hi hk hlo hhi h1 h2]
    repeat' split
    all_goals exact ⟨_, rfl⟩
  rcases (by omega : i = 0 ∨ i = 1 ∨ i = 2 ∨ i = 3 ∨ i = 4) with rfl | rfl | rfl | rfl | rfl
  · exact key 0 0 59 rfl rfl rfl (by decide) (by decide)
  · exact key 1 0 23 rfl rfl rfl (by decide) (by decide)
  · exact key 2 1 31 rfl rfl rfl (by decide) (by decide)
  · exact key 3 1 12 rfl rfl rfl (by decide) (by decide)
  · exact key 4 0 6 rfl rfl rfl (by decide) (by decide)
theorem SC_step (k i j : Nat) (hj : j = i + 1) (x : List S24) (e : Int) (hi : i < 5) (hl : x.length = 5) (hq : complineref18_Check.f k (rd_T24 x (i : Int)).f0 (rd_T24 x (i : Int)).f1 (i : Int) = some e) :
    complineref19_Check.l0 (k + 1) x (i : Int) = if e = 0 then complineref19_Check.l0 k x (j : Int) else some ((i : Int) + 1, e) := by
  subst hj
  have hw : wrap64 ((i : Int) + 1) = (i : Int) + 1 := by unfold wrap64; omega
  rw [complineref19_Check.l0, if_pos (by omega), if_pos (by omega), if_pos (by omega), hq]
  simp only [Option.bind_some]
  rw [hw]
  rfl
theorem SC_ref (a0 : Int) (a1 : Bool) (a2 : Int) (a3 : Bool) (a4 : Int) (a5 : Bool) (a6 : Int) (a7 : Bool) (a8 : Int) (a9 : Bool) (h0 : InU a0) (h2 : InU a2) (h4 : InU a4) (h6 : InU a6) (h8 : InU a8) : ∃ n e, spec_Check.f a0 a1 a2 a3 a4 a5 a6 a7 a8 a9 = some (n, e) ∧ complineref19_Check.f 500 a0 a1 a2 a3 a4 a5 a6 a7 a8 a9 = some (n, e) := by
  unfold complineref19_Check.f complineref19_Fields.f spec_Check.f
  simp only [Option.bind_some]
  rw [show complineref19_Check.l0 500 ([(⟨a0, a1⟩ : S24), (⟨a2, a3⟩ : S24), (⟨a4, a5⟩ : S24), (⟨a6, a7⟩ : S24), (⟨a8, a9⟩ : S24)] : List S24) 0 = complineref19_Check.l0 500 ([(⟨a0, a1⟩ : S24), (⟨a2, a3⟩ : S24), (⟨a4, a5⟩ : S24), (⟨a6, a7⟩ : S24), (⟨a8, a9⟩ : S24)] : List S24) ((0 : Nat) : Int) from rfl]
  obtain ⟨e0, q0⟩ := chk_tot a0 a1 0 (by omega)
  have r0 : complineref18_Check.f 499 (rd_T24 ([(⟨a0, a1⟩ : S24), (⟨a2, a3⟩ : S24), (⟨a4, a5⟩ : S24), (⟨a6, a7⟩ : S24), (⟨a8, a9⟩ : S24)] : List S24) ((0 : Nat) : Int)).f0 (rd_T24 ([(⟨a0, a1⟩ : S24), (⟨a2, a3⟩ : S24), (⟨a4, a5⟩ : S24), (⟨a6, a7⟩ : S24), (⟨a8, a9⟩ : S24)] : List S24) ((0 : Nat) : Int)).f1 ((0 : Nat) : Int) = some e0 := (Ref_check_k a0 a1 0 (by omega) h0 298).trans q0
  rw [SC_step 499 0 1 rfl _ e0 (by omega) rfl r0, show field_Check.f a0 a1 0 = _ from q0]
  simp only [Option.bind_some]
  by_cases c0 : e0 ≠ 0
  · rw [if_pos c0, if_neg c0]; exact ⟨_, _, rfl, rfl⟩
  rw [if_neg c0, if_pos (by simpa using c0)]
  obtain ⟨e1, q1⟩ := chk_tot a2 a3 1 (by omega)
  have r1 : complineref18_Check.f 498 (rd_T24 ([(⟨a0, a1⟩ : S24), (⟨a2, a3⟩ : S24), (⟨a4, a5⟩ : S24), (⟨a6, a7⟩ : S24), (⟨a8, a9⟩ : S24)] : List S24) ((1 : Nat) : Int)).f0 (rd_T24 ([(⟨a0, a1⟩ : S24), (⟨a2, a3⟩ : S24), (⟨a4, a5⟩ : S24), (⟨a6, a7⟩ : S24), (⟨a8, a9⟩ : S24)] : List S24) ((1 : Nat) : Int)).f1 ((1 : Nat) : Int) = some e1 := (Ref_check_k a2 a3 1 (by omega) h2 297).trans q1
  rw [SC_step 498 1 2 rfl _ e1 (by omega) rfl r1, show field_Check.f a2 a3 1 = _ from q1]
  simp only [Option.bind_some]
  by_cases c1 : e1 ≠ 0
  · rw [if_pos c1, if_neg c1]; exact ⟨_, _, rfl, rfl⟩
  rw [if_neg c1, if_pos (by simpa using c1)]
  obtain ⟨e2, q2⟩ := chk_tot a4 a5 2 (by omega)
  have r2 : complineref18_Check.f 497 (rd_T24 ([(⟨a0, a1⟩ : S24), (⟨a2, a3⟩ : S24), (⟨a4, a5⟩ : S24), (⟨a6, a7⟩ : S24), (⟨a8, a9⟩ : S24)] : List S24) ((2 : Nat) : Int)).f0 (rd_T24 ([(⟨a0, a1⟩ : S24), (⟨a2, a3⟩ : S24), (⟨a4, a5⟩ : S24), (⟨a6, a7⟩ : S24), (⟨a8, a9⟩ : S24)] : List S24) ((2 : Nat) : Int)).f1 ((2 : Nat) : Int) = some e2 := (Ref_check_k a4 a5 2 (by omega) h4 296).trans q2
  rw [SC_step 497 2 3 rfl _ e2 (by omega) rfl r2, show field_Check.f a4 a5 2 = _ from q2]
  simp only [Option.bind_some]
  by_cases c2 : e2 ≠ 0
  · rw [if_pos c2, if_neg c2]; exact ⟨_, _, rfl, rfl⟩
  rw [if_neg c2, if_pos (by simpa using c2)]
  obtain ⟨e3, q3⟩ := chk_tot a6 a7 3 (by omega)
  have r3 : complineref18_Check.f 496 (rd_T24 ([(⟨a0, a1⟩ : S24), (⟨a2, a3⟩ : S24), (⟨a4, a5⟩ : S24), (⟨a6, a7⟩ : S24), (⟨a8, a9⟩ : S24)] : List S24) ((3 : Nat) : Int)).f0 (rd_T24 ([(⟨a0, a1⟩ : S24), (⟨a2, a3⟩ : S24), (⟨a4, a5⟩ : S24), (⟨a6, a7⟩ : S24), (⟨a8, a9⟩ : S24)] : List S24) ((3 : Nat) : Int)).f1 ((3 : Nat) : Int) = some e3 := (Ref_check_k a6 a7 3 (by omega) h6 295).trans q3
  rw [SC_step 496 3 4 rfl _ e3 (by omega) rfl r3, show field_Check.f a6 a7 3 = _ from q3]
  simp only [Option.bind_some]
  by_cases c3 : e3 ≠ 0
  · rw [if_pos c3, if_neg c3]; exact ⟨_, _, rfl, rfl⟩
  rw [if_neg c3, if_pos (by simpa using c3)]
  obtain ⟨e4, q4⟩ := chk_tot a8 a9 4 (by omega)
  have r4 : complineref18_Check.f 495 (rd_T24 ([(⟨a0, a1⟩ : S24), (⟨a2, a3⟩ : S24), (⟨a4, a5⟩ : S24), (⟨a6, a7⟩ : S24), (⟨a8, a9⟩ : S24)] : List S24) ((4 : Nat) : Int)).f0 (rd_T24 ([(⟨a0, a1⟩ : S24), (⟨a2, a3⟩ : S24), (⟨a4, a5⟩ : S24), (⟨a6, a7⟩ : S24), (⟨a8, a9⟩ : S24)] : List S24) ((4 : Nat) : Int)).f1 ((4 : Nat) : Int) = some e4 := (Ref_check_k a8 a9 4 (by omega) h8 294).trans q4
  rw [SC_step 495 4 5 rfl _ e4 (by omega) rfl r4, show field_Check.f a8 a9 4 = _ from q4]
  simp only [Option.bind_some]
  by_cases c4 : e4 ≠ 0
  · rw [if_pos c4, if_neg c4]; exact ⟨_, _, rfl, rfl⟩
  rw [if_neg c4, if_pos (by simpa using c4)]
  rw [complineref19_Check.l0, if_neg (by omega)]
  exact ⟨_, _, rfl, rfl⟩
set_option maxRecDepth 100000 in
theorem SC_stars : complineref19_Stars.f 500 = spec_Stars.f := by kernel_rfl
theorem SpecChecks_p (a0 : Int) (a1 : Bool) (a2 : Int) (a3 : Bool) (a4 : Int) (a5 : Bool) (a6 : Int) (a7 : Bool) (a8 : Int) (a9 : Bool) (b0 : Int) (b1 : Bool) (b2 : Int) (b3 : Bool) (b4 : Int) (b5 : Bool) (b6 : Int) (b7 : Bool) (b8 : Int) (b9 : Bool) (h0 : (Lit.int .u64 a0).wf = true) (h2 : (Lit.int .u64 a2).wf = true) (h4 : (Lit.int .u64 a4).wf = true) (h6 : (Lit.int .u64 a6).wf = true) (h8 : (Lit.int .u64 a8).wf = true) (g0 : (Lit.int .u64 b0).wf = true) (g2 : (Lit.int .u64 b2).wf = true) (g4 : (Lit.int .u64 b4).wf = true) (g6 : (Lit.int .u64 b6).wf = true) (g8 : (Lit.int .u64 b8).wf = true) : ∃ k, complinelaw19_SpecChecks.f k a0 a1 a2 a3 a4 a5 a6 a7 a8 a9 b0 b1 b2 b3 b4 b5 b6 b7 b8 b9 = some true := by
  refine ⟨500, ?_⟩
  unfold complinelaw19_SpecChecks.f
  rw [show complinelaw19_works.f = some true from rfl]
  simp only [Option.bind_some, if_true]
  obtain ⟨n, e, q1, q2⟩ := SC_ref a0 a1 a2 a3 a4 a5 a6 a7 a8 a9 (wf_in _ h0) (wf_in _ h2) (wf_in _ h4) (wf_in _ h6) (wf_in _ h8)
  rw [q1, q2, SC_stars]
  simp only [Option.bind_some, if_true]
  unfold spec_Same.f spec_Stars.f
  simp only [Option.bind_some, if_true, beq_self_eq_true, Bool.and_self]
end Go.Proofs.YtjddfpciblhpaaaDoor.PSpc
namespace Go.Proofs.YtjddfpciblhpaaaDoor.Pure
open Go.RowKit Go.Proofs.YtjddfpciblhpaaaDoorW.PrintWords Go.Proofs.YtjddfpciblhpaaaDoorW.PrintLast Go.Proofs.YtjddfpciblhpaaaDoorW.PrintMore Go.Proofs.YtjddfpciblhpaaaDoor.PSpc
theorem SpecChecks : ∀ (a0_0 : Int) (a0_1 : Bool) (a0_2 : Int) (a0_3 : Bool) (a0_4 : Int) (a0_5 : Bool) (a0_6 : Int) (a0_7 : Bool) (a0_8 : Int) (a0_9 : Bool) (a1_0 : Int) (a1_1 : Bool) (a1_2 : Int) (a1_3 : Bool) (a1_4 : Int) (a1_5 : Bool) (a1_6 : Int) (a1_7 : Bool) (a1_8 : Int) (a1_9 : Bool), (Lit.int .u64 a0_0).wf = true → (Lit.int .u64 a0_2).wf = true → (Lit.int .u64 a0_4).wf = true → (Lit.int .u64 a0_6).wf = true → (Lit.int .u64 a0_8).wf = true → (Lit.int .u64 a1_0).wf = true → (Lit.int .u64 a1_2).wf = true → (Lit.int .u64 a1_4).wf = true → (Lit.int .u64 a1_6).wf = true → (Lit.int .u64 a1_8).wf = true → ∃ k, complinelaw19_SpecChecks.f k a0_0 a0_1 a0_2 a0_3 a0_4 a0_5 a0_6 a0_7 a0_8 a0_9 a1_0 a1_1 a1_2 a1_3 a1_4 a1_5 a1_6 a1_7 a1_8 a1_9 = some true := fun a0_0 a0_1 a0_2 a0_3 a0_4 a0_5 a0_6 a0_7 a0_8 a0_9 a1_0 a1_1 a1_2 a1_3 a1_4 a1_5 a1_6 a1_7 a1_8 a1_9 h0_ h1_ h2_ h3_ h4_ h5_ h6_ h7_ h8_ h9_ => SpecChecks_p a0_0 a0_1 a0_2 a0_3 a0_4 a0_5 a0_6 a0_7 a0_8 a0_9 a1_0 a1_1 a1_2 a1_3 a1_4 a1_5 a1_6 a1_7 a1_8 a1_9 h0_ h1_ h2_ h3_ h4_ h5_ h6_ h7_ h8_ h9_
end Go.Proofs.YtjddfpciblhpaaaDoor.Pure
