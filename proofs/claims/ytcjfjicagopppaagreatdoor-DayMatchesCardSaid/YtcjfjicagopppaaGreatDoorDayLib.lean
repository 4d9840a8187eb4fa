/- What day tells, as plain numbers. No condition. -/
import Derived.Test.YtcjfjicagopppaaGreatDoorPDayx5
import Derived.Test.YtcjfjicagopppaaGreatDoorPDayx7
namespace Go.Proofs.YtcjfjicagopppaaGreatDoor.PDay
open Go.RowKit Go.Proofs.YtcjfjicagopppaaGreatDoorW.PrintWords Go.Proofs.YtcjfjicagopppaaGreatDoorW.PrintLast Go.Proofs.YtcjfjicagopppaaGreatDoorW.PrintMore
set_option linter.unusedVariables false
set_option linter.unusedSimpArgs false
/-! Bits of a whole number, and what field's functions tell of them. -/
theorem u64w (z : Int) : IntKind.u64.wrap z = z % 18446744073709551616 := by simp [IntKind.wrap, IntKind.bits, IntKind.signed]
def InU (b : Int) : Prop := 0 ≤ b ∧ b < 18446744073709551616
/-- Bit i of a whole number. -/
def bitAt (b : Int) (i : Nat) : Bool := b.toNat.testBit i
theorem nat_of (b : Int) (h : InU b) : ∃ n : Nat, b = n ∧ n < 2 ^ 64 := by
  obtain ⟨n, rfl⟩ := Int.eq_ofNat_of_zero_le h.1
  exact ⟨n, rfl, by have := h.2; omega⟩
theorem bits_u64 (a b : Nat) (ha : a < 2 ^ 64) (hb : b < 2 ^ 64) : Go.bits .and .u64 a b = ((a &&& b : Nat) : Int) ∧ Go.bits .or .u64 a b = ((a ||| b : Nat) : Int) :=
  bits_nat .u64 64 (by decide) (fun z h0 h1 => IntWalk.u64_in z ⟨h0, by omega⟩) a b ha hb
theorem put_nat (n : Nat) (x : Fin 64) (hn : n < 2 ^ 64) : Fld.put (n : Int) x = ((n ||| 2 ^ x.val : Nat) : Int) := by
  unfold Fld.put
  have h2 : (2 : Int) ^ x.val = ((2 ^ x.val : Nat) : Int) := by simp
  rw [h2, (bits_u64 n _ hn (Nat.pow_lt_pow_right (by decide) x.isLt)).2]
theorem put_in {b : Int} (x : Fin 64) (h : InU b) : InU (Fld.put b x) := Fld.put_bd x h
theorem bit_put {b : Int} (x : Fin 64) (h : InU b) (i : Nat) : bitAt (Fld.put b x) i = (bitAt b i || decide (x.val = i)) := by
  obtain ⟨n, rfl, hn⟩ := nat_of b h
  rw [put_nat n x hn]
  unfold bitAt
  rw [Int.toNat_natCast, Int.toNat_natCast, Nat.testBit_or, Nat.testBit_two_pow]
theorem fold_in (l : List (Fin 64)) : ∀ {b : Int}, InU b → InU (l.foldl Fld.put b) := by
  induction l with
  | nil => exact fun h => h
  | cons x l ih => exact fun h => ih (put_in x h)
theorem bit_fold (l : List (Fin 64)) : ∀ {b : Int}, InU b → ∀ i : Nat, bitAt (l.foldl Fld.put b) i = (bitAt b i || l.any fun x => decide (x.val = i)) := by
  induction l with
  | nil => intro b _ i; simp
  | cons x l ih => intro b h i; rw [List.foldl_cons, ih (put_in x h), bit_put x h, List.any_cons, Bool.or_assoc]
theorem eq_of_bits {a b : Int} (ha : InU a) (hb : InU b) (h : ∀ i, i < 64 → bitAt a i = bitAt b i) : a = b := by
  obtain ⟨n, rfl, hn⟩ := nat_of a ha
  obtain ⟨m, rfl, hm⟩ := nat_of b hb
  have : n = m := by
    apply Nat.eq_of_testBit_eq
    intro i
    by_cases hi : i < 64
    · exact h i hi
    · rw [Nat.testBit_lt_two_pow (Nat.lt_of_lt_of_le hn (Nat.pow_le_pow_right (by decide) (by omega))), Nat.testBit_lt_two_pow (Nat.lt_of_lt_of_le hm (Nat.pow_le_pow_right (by decide) (by omega)))]
  rw [this]
theorem bit_zero (i : Nat) : bitAt 0 i = false := by simp [bitAt]
theorem bit_big {b : Int} (h : InU b) {i : Nat} (hi : 64 ≤ i) : bitAt b i = false := by
  obtain ⟨n, rfl, hn⟩ := nat_of b h
  exact Nat.testBit_lt_two_pow (Nat.lt_of_lt_of_le hn (Nat.pow_le_pow_right (by decide) hi))
/-- All values from one to another one. -/
def evB (lo hi : Nat) : Int := ((2 ^ (hi + 1) - 2 ^ lo : Nat) : Int)
theorem sub_testBit (lo : Nat) : ∀ (d i : Nat), (2 ^ (lo + d) - 2 ^ lo).testBit i = (decide (lo ≤ i) && decide (i < lo + d)) := by
  intro d i
  have e : 2 ^ (lo + d) - 2 ^ lo = 2 ^ lo * (2 ^ d - 1) := by rw [Nat.pow_add, Nat.mul_sub, Nat.mul_one]
  rw [e, Nat.testBit_two_pow_mul, Nat.testBit_two_pow_sub_one]
  by_cases h : lo ≤ i
  · simp [h]; omega
  · simp [h]
theorem bit_ev (lo hi i : Nat) (h : lo ≤ hi + 1) : bitAt (evB lo hi) i = (decide (lo ≤ i) && decide (i ≤ hi)) := by
  unfold bitAt evB
  rw [Int.toNat_natCast]
  obtain ⟨d, hd⟩ : ∃ d, hi + 1 = lo + d := ⟨hi + 1 - lo, by omega⟩
  rw [hd, sub_testBit]
  congr 1
  simp; omega
theorem ev_in (lo hi : Nat) (h : hi ≤ 62) : InU (evB lo hi) := by
  unfold evB InU
  have : 2 ^ (hi + 1) ≤ 2 ^ 63 := Nat.pow_le_pow_right (by decide) (by omega)
  rw [show (2 : Nat) ^ 63 = 9223372036854775808 by decide] at this
  generalize (2 : Nat) ^ (hi + 1) = q at this ⊢
  generalize (2 : Nat) ^ lo = r
  omega
theorem shl_one (n : Nat) (h : n < 64) : shl .u64 1 (n : Int) = ((2 ^ n : Nat) : Int) := by
  have := Nat.pow_lt_pow_right (a := 2) (by decide) h
  unfold shl
  rw [u64w, show min ((n : Int).toNat) (IntKind.bits .u64) = n by simp [IntKind.bits]; omega]
  simp only [Int.one_mul]
  rw [show (2 : Int) ^ n = ((2 ^ n : Nat) : Int) by simp]
  rw [show (2 : Nat) ^ 64 = 18446744073709551616 by decide] at this
  generalize (2 : Nat) ^ n = q at this ⊢
  omega
theorem shr_nat (a n : Nat) (h : n < 64) : shr .u64 (a : Int) (n : Int) = ((a / 2 ^ n : Nat) : Int) := by
  unfold shr
  rw [show min ((n : Int).toNat) (IntKind.bits .u64) = n by simp [IntKind.bits]; omega]
  rw [show (2 : Int) ^ n = ((2 ^ n : Nat) : Int) by simp]
  simp
theorem shl_nat (a n : Nat) (h : n < 64) : shl .u64 (a : Int) (n : Int) = ((a * 2 ^ n % 2 ^ 64 : Nat) : Int) := by
  unfold shl
  rw [u64w, show min ((n : Int).toNat) (IntKind.bits .u64) = n by simp [IntKind.bits]; omega]
  rw [show (2 : Int) ^ n = ((2 ^ n : Nat) : Int) by simp]
  generalize 2 ^ n = q
  rw [show (2 : Nat) ^ 64 = 18446744073709551616 by decide, Int.natCast_emod, Int.natCast_mul]
  rfl
theorem every_f (lo hi : Nat) (h : lo ≤ hi) (h2 : hi ≤ 62) : field_every.f (lo : Int) (hi : Int) = some (evB lo hi) := by
  have hw1 : wrap64 ((hi : Int) + 1) = ((hi + 1 : Nat) : Int) := by unfold wrap64; omega
  have hw2 : IntKind.u64.wrap ((hi + 1 : Nat) : Int) = ((hi + 1 : Nat) : Int) := by rw [u64w]; omega
  have hw3 : IntKind.u64.wrap (lo : Int) = (lo : Int) := by rw [u64w]; omega
  unfold field_every.f
  rw [hw1, hw2, hw3, if_pos (by omega), if_pos (by omega), shl_one _ (by omega), shl_one _ (by omega)]
  have h3 : 2 ^ lo ≤ 2 ^ (hi + 1) := Nat.pow_le_pow_right (by decide) (by omega)
  have h4 : 2 ^ (hi + 1) ≤ 2 ^ 63 := Nat.pow_le_pow_right (by decide) (by omega)
  congr 1
  unfold evB
  rw [u64w]
  rw [show (2 : Nat) ^ 63 = 9223372036854775808 by decide] at h4
  generalize (2 : Nat) ^ (hi + 1) = q at h3 h4 ⊢
  generalize (2 : Nat) ^ lo = r at h3 ⊢
  omega
theorem andNot_zero (a b : Int) (ha : InU a) (hb : InU b) : (Go.bits .andNot .u64 a b = 0) ↔ ∀ i, i < 64 → bitAt a i = true → bitAt b i = true := by
  obtain ⟨n, rfl, hn⟩ := nat_of a ha
  obtain ⟨m, rfl, hm⟩ := nat_of b hb
  have e : Go.bits .andNot .u64 (n : Int) (m : Int) = ((BitVec.ofNat 64 n &&& ~~~ BitVec.ofNat 64 m).toNat : Int) := by
    have := (BitVec.ofNat 64 n &&& ~~~ BitVec.ofNat 64 m).isLt
    show IntKind.u64.wrap ((BitVec.ofInt 64 (n : Int) &&& ~~~ BitVec.ofInt 64 (m : Int)).toNat : Int) = _
    rw [BitVec.ofInt_natCast, BitVec.ofInt_natCast, u64w]
    omega
  rw [e]
  have hz : ((BitVec.ofNat 64 n &&& ~~~ BitVec.ofNat 64 m).toNat : Int) = 0 ↔ (BitVec.ofNat 64 n &&& ~~~ BitVec.ofNat 64 m) = 0#64 := by
    constructor
    · intro h; apply BitVec.eq_of_toNat_eq; simpa using h
    · intro h; rw [h]; rfl
  rw [hz]
  constructor
  · intro h i hi hb
    have := congrArg (fun v => v.getLsbD i) h
    simp only [BitVec.getLsbD_and, BitVec.getLsbD_not, BitVec.getLsbD_ofNat, hi, decide_true, Bool.true_and, BitVec.getLsbD_zero] at this
    unfold bitAt at hb ⊢
    rw [Int.toNat_natCast] at hb ⊢
    rw [hb] at this
    simpa using this
  · intro h
    apply BitVec.eq_of_getLsbD_eq
    intro i hi
    simp only [BitVec.getLsbD_and, BitVec.getLsbD_not, BitVec.getLsbD_ofNat, hi, decide_true, Bool.true_and, BitVec.getLsbD_zero]
    have := h i hi
    unfold bitAt at this
    rw [Int.toNat_natCast, Int.toNat_natCast] at this
    cases h1 : n.testBit i
    · simp
    · rw [this h1]; simp
def top (kind : Int) : Int := if kind = 4 then 6 else (Lex.limits kind).2.1
theorem check_f (b : Int) (s : Bool) (kind : Int) (lo hi : Nat) (hk : (Lex.limits kind).2.2 = 0) (hlo : (Lex.limits kind).1 = lo) (hhi : top kind = hi) (h1 : lo ≤ hi) (h2 : hi ≤ 59) :
    field_Check.f b s kind = if b = 0 then some 2 else if Go.bits .andNot .u64 b (evB lo hi) = 0 then (if s = true then (if b = evB lo hi then some 0 else some 2) else some 0) else some 2 := by
  unfold field_Check.f
  rw [Fld.limits_f]
  simp only [Option.bind_some]
  rw [if_pos hk, hlo, show (if kind = 4 then 6 else (Lex.limits kind).2.1) = (hi : Int) from hhi, every_f lo hi h1 (by omega)]
  rfl
theorem wf_in (a : Int) (h : (Lit.int .u64 a).wf = true) : InU a := by
  unfold InU
  simp [Lit.wf] at h
  obtain ⟨h1, h2⟩ := h
  have h1' : (0 : Int) ≤ a := h1
  have h2' : a ≤ 18446744073709551615 := h2
  omega
theorem chk_tot (b : Int) (s : Bool) (i : Nat) (hi : i < 5) : ∃ e, field_Check.f b s (i : Int) = some e := by
  have key : ∀ (kind : Int) (lo hi : Nat), (Lex.limits kind).2.2 = 0 → (Lex.limits kind).1 = lo → top kind = hi → lo ≤ hi → hi ≤ 59 → ∃ e, field_Check.f b s kind = some e := by
    intro kind lo hi hk hlo hhi h1 h2
    rw [check_f b s kind lo hi hk hlo hhi h1 h2]
    repeat' split
    all_goals exact ⟨_, rfl⟩
  rcases (by omega : i = 0 ∨ i = 1 ∨ i = 2 ∨ i = 3 ∨ i = 4) with rfl | rfl | rfl | rfl | rfl
  · exact key 0 0 59 rfl rfl rfl (by decide) (by decide)
  · exact key 1 0 23 rfl rfl rfl (by decide) (by decide)
  · exact key 2 1 31 rfl rfl rfl (by decide) (by decide)
  · exact key 3 1 12 rfl rfl rfl (by decide) (by decide)
  · exact key 4 0 6 rfl rfl rfl (by decide) (by decide)
/-! What day's functions answer, as plain numbers. -/
theorem u32w (z : Int) : IntKind.u32.wrap z = z % 4294967296 := by simp [IntKind.wrap, IntKind.bits, IntKind.signed]
theorem okS_of {b0 b1 b2 b3 b4 : Int} (h0 : InU b0) (h1 : InU b1) (h2 : InU b2) (h3 : InU b3) (h4 : InU b4) : Dy.okS b0 b1 b2 b3 b4 = true := decide_eq_true ⟨h0, h1, h2, h3, h4⟩
theorem odd_false (b0 : Int) (s0 : Bool) (b1 : Int) (s1 : Bool) (b2 : Int) (s2 : Bool) (b3 : Int) (s3 : Bool) (b4 : Int) (s4 : Bool)
    (q0 : field_Check.f b0 s0 0 = some 0) (q1 : field_Check.f b1 s1 1 = some 0) (q2 : field_Check.f b2 s2 2 = some 0) (q3 : field_Check.f b3 s3 3 = some 0) (q4 : field_Check.f b4 s4 4 = some 0) :
    day_odd.f b0 s0 b1 s1 b2 s2 b3 s3 b4 s4 = some false := by
  unfold day_odd.f spec_Check.f
  rw [q0]
  simp only [Option.bind_some]
  rw [if_neg (by decide), q1]
  simp only [Option.bind_some]
  rw [if_neg (by decide), q2]
  simp only [Option.bind_some]
  rw [if_neg (by decide), q3]
  simp only [Option.bind_some]
  rw [if_neg (by decide), q4]
  simp only [Option.bind_some]
  rw [if_neg (by decide)]
  rfl
theorem odd_is (b0 : Int) (s0 : Bool) (b1 : Int) (s1 : Bool) (b2 : Int) (s2 : Bool) (b3 : Int) (s3 : Bool) (b4 : Int) (s4 : Bool) :
    ∃ ob, day_odd.f b0 s0 b1 s1 b2 s2 b3 s3 b4 s4 = some ob ∧ (ob = false → field_Check.f b0 s0 0 = some 0 ∧ field_Check.f b1 s1 1 = some 0 ∧ field_Check.f b2 s2 2 = some 0 ∧ field_Check.f b3 s3 3 = some 0 ∧ field_Check.f b4 s4 4 = some 0) := by
  obtain ⟨e0, q0⟩ : ∃ e, field_Check.f b0 s0 0 = some e := chk_tot b0 s0 0 (by decide)
  obtain ⟨e1, q1⟩ : ∃ e, field_Check.f b1 s1 1 = some e := chk_tot b1 s1 1 (by decide)
  obtain ⟨e2, q2⟩ : ∃ e, field_Check.f b2 s2 2 = some e := chk_tot b2 s2 2 (by decide)
  obtain ⟨e3, q3⟩ : ∃ e, field_Check.f b3 s3 3 = some e := chk_tot b3 s3 3 (by decide)
  obtain ⟨e4, q4⟩ : ∃ e, field_Check.f b4 s4 4 = some e := chk_tot b4 s4 4 (by decide)
  unfold day_odd.f spec_Check.f
  rw [q0]
  simp only [Option.bind_some]
  by_cases c0 : e0 ≠ 0
  · rw [if_pos c0]; exact ⟨_, rfl, fun h => absurd (by simpa using h) c0⟩
  obtain rfl : e0 = 0 := by simpa using c0
  rw [if_neg c0, q1]
  simp only [Option.bind_some]
  by_cases c1 : e1 ≠ 0
  · rw [if_pos c1]; exact ⟨_, rfl, fun h => absurd (by simpa using h) c1⟩
  obtain rfl : e1 = 0 := by simpa using c1
  rw [if_neg c1, q2]
  simp only [Option.bind_some]
  by_cases c2 : e2 ≠ 0
  · rw [if_pos c2]; exact ⟨_, rfl, fun h => absurd (by simpa using h) c2⟩
  obtain rfl : e2 = 0 := by simpa using c2
  rw [if_neg c2, q3]
  simp only [Option.bind_some]
  by_cases c3 : e3 ≠ 0
  · rw [if_pos c3]; exact ⟨_, rfl, fun h => absurd (by simpa using h) c3⟩
  obtain rfl : e3 = 0 := by simpa using c3
  rw [if_neg c3, q4]
  simp only [Option.bind_some]
  by_cases c4 : e4 ≠ 0
  · rw [if_pos c4]; exact ⟨_, rfl, fun h => absurd (by simpa using h) c4⟩
  obtain rfl : e4 = 0 := by simpa using c4
  rw [if_neg c4]
  exact ⟨_, rfl, fun _ => by simp⟩
theorem mask_is {b0 : Int} {s0 : Bool} {b1 : Int} {s1 : Bool} {b2 : Int} {s2 : Bool} {b3 : Int} {s3 : Bool} {b4 : Int} {s4 : Bool} (h0 : InU b0) (h1 : InU b1) (h2 : InU b2) (h3 : InU b3) (h4 : InU b4) {ob : Bool}
    (A : day_odd.f b0 s0 b1 s1 b2 s2 b3 s3 b4 s4 = some ob) (y m : Int) : day_Mask.f b0 s0 b1 s1 b2 s2 b3 s3 b4 s4 y m = some (Dy.mask ob b2 s2 b3 b4 s4 y m) := by
  unfold day_Mask.f
  rw [if_pos (okS_of h0 h1 h2 h3 h4), A]
  rfl
theorem match_is {b0 : Int} {s0 : Bool} {b1 : Int} {s1 : Bool} {b2 : Int} {s2 : Bool} {b3 : Int} {s3 : Bool} {b4 : Int} {s4 : Bool} (h0 : InU b0) (h1 : InU b1) (h2 : InU b2) (h3 : InU b3) (h4 : InU b4) {ob : Bool}
    (A : day_odd.f b0 s0 b1 s1 b2 s2 b3 s3 b4 s4 = some ob) (t : Int) : day_Match.f b0 s0 b1 s1 b2 s2 b3 s3 b4 s4 t = some (Dy.match_ ob b0 b1 b2 s2 b3 b4 s4 t) := by
  unfold day_Match.f
  rw [if_pos (okS_of h0 h1 h2 h3 h4), A]
  rfl
/-- A mask, as a whole number and its bits. -/
theorem mask_bits (ob : Bool) (b2 : Int) (s2 : Bool) (b3 b4 : Int) (s4 : Bool) (y m : Int) : ∃ N : Nat, (Dy.mask ob b2 s2 b3 b4 s4 y m).1 = (N : Int) ∧ N < 2 ^ 32 ∧ ((Dy.mask ob b2 s2 b3 b4 s4 y m).2 ≠ 0 → N = 0) ∧
    ((Dy.mask ob b2 s2 b3 b4 s4 y m).2 = 0 → ob = false ∧ (Civ.day y m 1).2 = 0 ∧ ∀ d, N.testBit d = (Dy.has b3 m && (decide (1 ≤ d) && decide ((d : Int) ≤ Civ.len y m) && Dy.dayP b2 s2 b4 s4 (Civ.day y m 1).1 (d - 1)))) := by
  unfold Dy.mask
  cases ob with
  | true => rw [if_pos rfl]; exact ⟨0, rfl, by decide, fun _ => rfl, fun h => absurd h (by decide)⟩
  | false =>
    rw [if_neg (by decide)]
    by_cases he : (Civ.day y m 1).2 = 0
    · rw [if_neg (by simp [he])]
      have hb := Civ.len_bd y m
      cases hx : Dy.has b3 m with
      | false => rw [if_neg (by decide)]; exact ⟨0, rfl, by decide, fun _ => rfl, fun _ => ⟨rfl, he, fun d => by simp⟩⟩
      | true =>
        rw [if_pos rfl]
        refine ⟨Dy.maskN (Dy.dayP b2 s2 b4 s4 (Civ.day y m 1).1) (Civ.len y m).toNat, rfl, ?_, fun h => absurd rfl h, fun _ => ⟨rfl, he, fun d => ?_⟩⟩
        · exact Nat.lt_of_lt_of_le (Dy.maskN_lt _ _) (Nat.pow_le_pow_right (by decide) (by omega))
        · rw [Dy.maskN_bit, Bool.true_and]
          congr 2
          rw [decide_eq_decide]
          omega
    · rw [if_pos he]; exact ⟨0, rfl, by decide, fun _ => rfl, fun h => absurd h (by decide)⟩
theorem shr32 (N d : Nat) (h : d < 32) : shr .u32 (N : Int) (d : Int) = ((N / 2 ^ d : Nat) : Int) := by
  unfold shr
  rw [show min ((d : Int).toNat) (IntKind.bits .u32) = d by simp [IntKind.bits]; omega]
  rw [show (2 : Int) ^ d = ((2 ^ d : Nat) : Int) by simp]
  simp
theorem bit32 (N d : Nat) (hN : N < 2 ^ 32) (h : d < 32) : Go.bits .and .u32 (shr .u32 (N : Int) (d : Int)) 1 = if N.testBit d = true then 1 else 0 := by
  rw [shr32 N d h, show (1 : Int) = ((1 : Nat) : Int) from rfl, (Dy.bits_u32 _ 1 (by have := Nat.div_le_self N (2 ^ d); omega) (by decide)).1]
  have e : (N / 2 ^ d) &&& 1 = N / 2 ^ d % 2 := Nat.and_one_is_mod _
  rw [e, Nat.testBit_eq_decide_div_mod_eq]
  by_cases hb : N / 2 ^ d % 2 = 1
  · rw [decide_eq_true hb, if_pos rfl, hb]
  · rw [decide_eq_false hb, if_neg (by decide), show N / 2 ^ d % 2 = 0 by omega]; rfl
theorem u64n (d : Nat) (h : d < 4294967296) : IntKind.u64.wrap (d : Int) = (d : Int) := by rw [u64w]; omega
theorem has_eq (b v : Int) : Dy.has b v = (decide (0 ≤ v) && decide (v < 64) && bitAt b v.toNat) := rfl
/-- All values of a kind are had. -/
theorem has_ev (lo hi : Nat) (v : Int) (h : hi ≤ 62) (h1 : (lo : Int) ≤ v) (h2 : v ≤ hi) : Dy.has (evB lo hi) v = true := by
  rw [has_eq, bit_ev lo hi v.toNat (by omega), decide_eq_true (by omega), decide_eq_true (by omega), decide_eq_true (by omega), decide_eq_true (by omega)]
  rfl
theorem star_all {b : Int} {kind : Int} {lo hi : Nat} (hk : (Lex.limits kind).2.2 = 0) (hlo : (Lex.limits kind).1 = lo) (hhi : top kind = hi) (h1 : lo ≤ hi) (h2 : hi ≤ 59) (h : field_Check.f b true kind = some 0) : b = evB lo hi := by
  rw [check_f b true kind lo hi hk hlo hhi h1 h2] at h
  split at h
  · exact absurd h (by decide)
  · split at h
    · rw [if_pos rfl] at h
      split at h
      · assumption
      · exact absurd h (by decide)
    · exact absurd h (by decide)
theorem i64_of (v : Int) (h : (Lit.int .i64 v).wf = true) : -9223372036854775808 ≤ v ∧ v ≤ 9223372036854775807 := by
  have := h
  simp [Lit.wf, IntKind.min, IntKind.max, IntKind.bits, IntKind.signed] at this
  omega
end Go.Proofs.YtcjfjicagopppaaGreatDoor.PDay
