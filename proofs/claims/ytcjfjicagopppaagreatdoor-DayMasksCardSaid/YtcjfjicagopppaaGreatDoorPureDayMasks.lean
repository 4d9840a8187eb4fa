/- The law DayMasks, over numbers: its printed function answers true at every input. No condition. -/
import Derived.Test.YtcjfjicagopppaaGreatDoorPDayx11
import Derived.Test.YtcjfjicagopppaaGreatDoorDayLib
namespace Go.Proofs.YtcjfjicagopppaaGreatDoor.PDay
open Go.RowKit Go.Proofs.YtcjfjicagopppaaGreatDoorW.PrintWords Go.Proofs.YtcjfjicagopppaaGreatDoorW.PrintLast Go.Proofs.YtcjfjicagopppaaGreatDoorW.PrintMore
set_option linter.unusedVariables false
set_option linter.unusedSimpArgs false
/-! complineref18.Has, Check and All, over bits. -/
theorem Ref_half (x : Int) (h : InU x) : IntKind.u64.wrap (Int.tdiv x 2) = ((x.toNat / 2 : Nat) : Int) := by
  obtain ⟨n, rfl, hn⟩ := nat_of x h
  rw [u64w, Int.toNat_natCast]
  have : Int.tdiv (n : Int) 2 = ((n / 2 : Nat) : Int) := by rw [Int.tdiv_eq_ediv_of_nonneg (by omega)]; omega
  rw [this]
  rw [show (2 : Nat) ^ 64 = 18446744073709551616 by decide] at hn
  omega
theorem Ref_has_l : ∀ (d i : Nat) (v : Int) (x : Int) (K : Nat), InU x → (i : Int) + d = v → v ≤ 64 → complineref18_Has.l0 (d + 1 + K) v x (i : Int) = some (bitAt x d)
  | 0, i, v, x, K, hx, hv, h64 => by
    rw [show 0 + 1 + K = K + 1 by omega, complineref18_Has.l0, if_neg (by omega)]
    obtain ⟨n, rfl, hn⟩ := nat_of x hx
    congr 1
    unfold bitAt
    rw [Int.toNat_natCast, Nat.testBit_zero]
    rw [Int.tmod_eq_emod_of_nonneg (by omega)]
    rw [Bool.eq_iff_iff]
    simp only [beq_iff_eq, decide_eq_true_eq]
    omega
  | d + 1, i, v, x, K, hx, hv, h64 => by
    have hw : wrap64 ((i : Int) + 1) = ((i + 1 : Nat) : Int) := by unfold wrap64; omega
    rw [show d + 1 + 1 + K = (d + 1 + K) + 1 by omega, complineref18_Has.l0, if_pos (by omega), Ref_half x hx, hw]
    have hx2 : InU ((x.toNat / 2 : Nat) : Int) := by unfold InU at hx ⊢; omega
    rw [Ref_has_l d (i + 1) v _ K hx2 (by omega) h64]
    unfold bitAt
    rw [Int.toNat_natCast, Nat.testBit_succ]
theorem Ref_has (b : Int) (s : Bool) (v : Nat) (hb : InU b) (hv : v < 64) (K : Nat) : complineref18_Has.f (K + 70) b s (v : Int) = some (bitAt b v) := by
  unfold complineref18_Has.f
  rw [if_neg (by omega), decide_eq_false (by omega), complineref18_Has.j0, if_neg (by decide)]
  rw [show K + 69 = v + 1 + (K + 68 - v) by omega]
  exact Ref_has_l v 0 v b _ hb (by omega) (by omega)
/-- How many of the bits from v on, d of them, are set; and whether one lies out. -/
def cntF (f : Nat → Bool) : Nat → Nat → Nat
  | _, 0 => 0
  | v, d + 1 => (if f v then 1 else 0) + cntF f (v + 1) d
def outF (f : Nat → Bool) (lo hi : Nat) : Nat → Nat → Bool
  | _, 0 => false
  | v, d + 1 => (f v && (decide (v < lo) || decide (hi < v))) || outF f lo hi (v + 1) d
def finF (lo hi : Nat) (s : Bool) (m : Nat) : Option Int := if (m : Int) = 0 then some 2 else if s = true then (if (m : Int) = (hi : Int) - lo + 1 then some 0 else some 2) else some 0
theorem Ref_check_l (b : Int) (s : Bool) (lo hi : Nat) (hb : InU b) (hh : lo ≤ hi) (h59 : hi ≤ 59) : ∀ (d v n K : Nat), v + d = 64 → n ≤ v →
    complineref18_Check.l0 (2 * d + 1 + (K + 72)) (lo : Int) (hi : Int) (n : Int) (v : Int) b s = if outF (bitAt b) lo hi v d = true then some 2 else finF lo hi s (n + cntF (bitAt b) v d)
  | 0, v, n, K, hv, hn => by
    have hw : wrap64 (wrap64 ((hi : Int) - lo) + 1) = (hi : Int) - lo + 1 := by unfold wrap64; omega
    rw [show 2 * 0 + 1 + (K + 72) = (K + 72) + 1 by omega, complineref18_Check.l0, if_neg (by omega), hw]
    rfl
  | d + 1, v, n, K, hv, hn => by
    have hw : wrap64 ((v : Int) + 1) = ((v + 1 : Nat) : Int) := by unfold wrap64; omega
    have hwn : wrap64 ((n : Int) + 1) = ((n + 1 : Nat) : Int) := by unfold wrap64; omega
    rw [show 2 * (d + 1) + 1 + (K + 72) = (2 * d + 1 + (K + 72) + 1) + 1 by omega, complineref18_Check.l0, if_pos (by omega)]
    rw [show 2 * d + 1 + (K + 72) + 1 = (2 * d + K + 4) + 70 by omega, Ref_has b s v hb (by omega)]
    simp only [Option.bind_some]
    rw [show 2 * d + K + 4 + 70 = (2 * d + 1 + (K + 72)) + 1 by omega]
    unfold outF cntF
    cases hbv : bitAt b v
    · rw [if_neg (by decide), complineref18_Check.j1, if_neg (by decide), if_neg (by decide), hw, Ref_check_l b s lo hi hb hh h59 d (v + 1) n K (by omega) (by omega)]
      simp
    · rw [if_pos rfl]
      by_cases h1 : (v : Int) < lo
      · rw [if_pos h1, complineref18_Check.j1, if_pos rfl]
        rw [decide_eq_true (by omega : v < lo)]
        rfl
      · rw [if_neg h1, complineref18_Check.j1]
        by_cases h2 : (v : Int) > hi
        · rw [decide_eq_true h2, if_pos rfl, decide_eq_true (by omega : hi < v)]
          simp
        · rw [decide_eq_false h2, if_neg (by decide), if_pos rfl, hw, hwn, Ref_check_l b s lo hi hb hh h59 d (v + 1) (n + 1) K (by omega) (by omega)]
          rw [decide_eq_false (by omega : ¬ v < lo), decide_eq_false (by omega : ¬ hi < v)]
          simp [Nat.add_assoc]
theorem out_iff (f : Nat → Bool) (lo hi : Nat) : ∀ (d v : Nat), outF f lo hi v d = false ↔ ∀ i, v ≤ i → i < v + d → f i = true → lo ≤ i ∧ i ≤ hi
  | 0, v => ⟨fun _ i h1 h2 => by omega, fun _ => rfl⟩
  | d + 1, v => by
    unfold outF
    rw [Bool.or_eq_false_iff, out_iff f lo hi d (v + 1)]
    constructor
    · rintro ⟨h1, h2⟩ i h3 h4 h5
      by_cases hi' : i = v
      · subst hi'
        rw [h5] at h1
        simp at h1
        omega
      · exact h2 i (by omega) (by omega) h5
    · intro h
      refine ⟨?_, fun i h1 h2 h3 => h i (by omega) (by omega) h3⟩
      cases hf : f v
      · rfl
      · have := h v (by omega) (by omega) hf
        simp; omega
theorem cnt_zero (f : Nat → Bool) : ∀ (d v : Nat), cntF f v d = 0 ↔ ∀ i, v ≤ i → i < v + d → f i = false
  | 0, v => ⟨fun _ i h1 h2 => by omega, fun _ => rfl⟩
  | d + 1, v => by
    unfold cntF
    constructor
    · intro h i h1 h2
      by_cases hi : i = v
      · subst hi; cases hf : f i; rfl; rw [hf] at h; simp at h
      · exact (cnt_zero f d (v + 1)).1 (by omega) i (by omega) (by omega)
    · intro h
      rw [h v (by omega) (by omega), (cnt_zero f d (v + 1)).2 (fun i h1 h2 => h i (by omega) (by omega))]
      rfl
theorem cnt_le (f g : Nat → Bool) : ∀ (d v : Nat), (∀ i, v ≤ i → i < v + d → f i = true → g i = true) → cntF f v d ≤ cntF g v d ∧ (cntF f v d = cntF g v d ↔ ∀ i, v ≤ i → i < v + d → f i = g i)
  | 0, v, _ => ⟨Nat.le_refl _, fun _ i h1 h2 => by omega, fun _ => rfl⟩
  | d + 1, v, h => by
    obtain ⟨h1, h2⟩ := cnt_le f g d (v + 1) (fun i a b c => h i (by omega) (by omega) c)
    unfold cntF
    have h3 := h v (by omega) (by omega)
    constructor
    · cases hf : f v
      · simp; omega
      · rw [h3 hf]; simp; exact h1
    · constructor
      · intro he i a b
        by_cases hi : i = v
        · subst hi
          cases hf : f i
          · cases hg : g i
            · rfl
            · rw [hf, hg] at he; simp at he; omega
          · rw [h3 hf]
        · refine h2.1 ?_ i (by omega) (by omega)
          cases hf : f v
          · rw [hf] at he
            simp at he
            cases hg : g v
            · rw [hg] at he; simpa using he
            · rw [hg] at he; simp at he; omega
          · rw [hf, h3 hf] at he; simpa using he
      · intro he
        rw [he v (by omega) (by omega), h2.2 (fun i a b => he i (by omega) (by omega))]
theorem cnt_ext (f g : Nat → Bool) (h : ∀ i, f i = g i) : ∀ (d v : Nat), cntF f v d = cntF g v d
  | 0, _ => rfl
  | d + 1, v => by unfold cntF; rw [h v, cnt_ext f g h d (v + 1)]
theorem Ref_check (b : Int) (s : Bool) (kind : Int) (lo hi : Nat) (hb : InU b) (hk : (Lex.limits kind).2.2 = 0) (hlo : (Lex.limits kind).1 = lo) (hhi : top kind = hi) (h1 : lo ≤ hi) (h2 : hi ≤ 59)
    (hl : complineref18_limits.f kind = some ((lo : Int), (hi : Int), 0)) (hc : cntF (fun i => decide (lo ≤ i) && decide (i ≤ hi)) 0 64 = hi + 1 - lo) (K : Nat) :
    complineref18_Check.f (K + 201) b s kind = field_Check.f b s kind := by
  rw [check_f b s kind lo hi hk hlo hhi h1 h2]
  unfold complineref18_Check.f
  rw [hl]
  simp only [Option.bind_some, if_true]
  have e := Ref_check_l b s lo hi hb h1 h2 64 0 0 K (by omega) (by omega)
  rw [show 2 * 64 + 1 + (K + 72) = K + 201 by omega] at e
  refine (show complineref18_Check.l0 (K + 201) (lo : Int) (hi : Int) 0 0 b s = _ from e).trans ?_
  rw [Nat.zero_add]
  have hev := ev_in lo hi (by omega)
  by_cases ho : outF (bitAt b) lo hi 0 64 = true
  · rw [if_pos ho]
    by_cases hz : b = 0
    · rw [if_pos hz]
    · rw [if_neg hz, if_neg]
      intro ha
      rw [andNot_zero _ _ hb hev] at ha
      have : outF (bitAt b) lo hi 0 64 = false := (out_iff _ _ _ _ _).2 (fun i _ hi6 hbi => by
        have := ha i (by omega) hbi
        rw [bit_ev lo hi i (by omega)] at this
        simp at this
        exact this)
      rw [this] at ho
      cases ho
  · rw [if_neg ho]
    have ho' : outF (bitAt b) lo hi 0 64 = false := by simpa using ho
    have hin := (out_iff _ _ _ _ _).1 ho'
    have hsub : ∀ i, i < 64 → bitAt b i = true → bitAt (evB lo hi) i = true := by
      intro i hi6 hbi
      obtain ⟨q1, q2⟩ := hin i (by omega) (by omega) hbi
      rw [bit_ev lo hi i (by omega), decide_eq_true q1, decide_eq_true q2]
      rfl
    have hz : cntF (bitAt b) 0 64 = 0 ↔ b = 0 := by
      rw [cnt_zero]
      constructor
      · intro h
        exact eq_of_bits hb (by unfold InU; omega) (fun i hi6 => by rw [h i (by omega) (by omega), bit_zero])
      · rintro rfl i _ _
        exact bit_zero i
    have hf : cntF (bitAt b) 0 64 = hi + 1 - lo ↔ b = evB lo hi := by
      have q := (cnt_le (bitAt b) (bitAt (evB lo hi)) 64 0 (fun i _ h4 h5 => hsub i (by omega) h5)).2
      have q2 : cntF (bitAt (evB lo hi)) 0 64 = hi + 1 - lo := by rw [← hc]; exact cnt_ext _ _ (fun i => bit_ev lo hi i (by omega)) 64 0
      rw [q2] at q
      rw [q]
      constructor
      · intro h
        exact eq_of_bits hb hev (fun i hi6 => h i (by omega) (by omega))
      · rintro rfl i _ _
        rfl
    unfold finF
    rw [if_pos ((andNot_zero _ _ hb hev).2 hsub)]
    by_cases hb0 : b = 0
    · rw [if_pos (by rw [hz.2 hb0]; rfl), if_pos hb0]
    · rw [if_neg (by intro e; exact hb0 (hz.1 (by omega))), if_neg hb0]
      cases s
      · rfl
      · rw [if_pos rfl, if_pos rfl]
        by_cases hbe : b = evB lo hi
        · rw [if_pos (by rw [hf.2 hbe]; omega), if_pos hbe]
        · rw [if_neg (by intro e; exact hbe (hf.1 (by omega))), if_neg hbe]
theorem Ref_check_k (b : Int) (s : Bool) (i : Nat) (hi : i < 5) (hb : InU b) (K : Nat) : complineref18_Check.f (K + 201) b s (i : Int) = field_Check.f b s (i : Int) := by
  rcases (by omega : i = 0 ∨ i = 1 ∨ i = 2 ∨ i = 3 ∨ i = 4) with rfl | rfl | rfl | rfl | rfl
  · exact Ref_check b s 0 0 59 hb rfl rfl rfl (by decide) (by decide) rfl (by decide +kernel) K
  · exact Ref_check b s 1 0 23 hb rfl rfl rfl (by decide) (by decide) rfl (by decide +kernel) K
  · exact Ref_check b s 2 1 31 hb rfl rfl rfl (by decide) (by decide) rfl (by decide +kernel) K
  · exact Ref_check b s 3 1 12 hb rfl rfl rfl (by decide) (by decide) rfl (by decide +kernel) K
  · exact Ref_check b s 4 0 6 hb rfl rfl rfl (by decide) (by decide) rfl (by decide +kernel) K
theorem SC_step (k i j : Nat) (hj : j = i + 1) (x : List S24) (e : Int) (hi : i < 5) (hl : x.length = 5) (hq : complineref18_Check.f k (rd_T24 x (i : Int)).f0 (rd_T24 x (i : Int)).f1 (i : Int) = some e) :
    complineref19_Check.l0 (k + 1) x (i : Int) = if e = 0 then complineref19_Check.l0 k x (j : Int) else some ((i : Int) + 1, e) := by
  subst hj
  have hw : wrap64 ((i : Int) + 1) = (i : Int) + 1 := by unfold wrap64; omega
  rw [complineref19_Check.l0, if_pos (by omega), if_pos (by omega), if_pos (by omega), hq]
  simp only [Option.bind_some]
  rw [hw]
  rfl
theorem SC_ref (a0 : Int) (a1 : Bool) (a2 : Int) (a3 : Bool) (a4 : Int) (a5 : Bool) (a6 : Int) (a7 : Bool) (a8 : Int) (a9 : Bool) (h0 : InU a0) (h2 : InU a2) (h4 : InU a4) (h6 : InU a6) (h8 : InU a8) : ∃ n e, spec_Check.f a0 a1 a2 a3 a4 a5 a6 a7 a8 a9 = some (n, e) ∧ complineref19_Check.f 500 a0 a1 a2 a3 a4 a5 a6 a7 a8 a9 = some (n, e) := by
  unfold complineref19_Check.f complineref19_Fields.f spec_Check.f
  simp only [Option.bind_some]
  rw [show complineref19_Check.l0 500 ([(⟨a0, a1⟩ : S24), (⟨a2, a3⟩ : S24), (⟨a4, a5⟩ : S24), (⟨a6, a7⟩ : S24), (⟨a8, a9⟩ : S24)] : List S24) 0 = complineref19_Check.l0 500 ([(⟨a0, a1⟩ : S24), (⟨a2, a3⟩ : S24), (⟨a4, a5⟩ : S24), (⟨a6, a7⟩ : S24), (⟨a8, a9⟩ : S24)] : List S24) ((0 : Nat) : Int) from rfl]
  obtain ⟨e0, q0⟩ := chk_tot a0 a1 0 (by omega)
  have r0 : complineref18_Check.f 499 (rd_T24 ([(⟨a0, a1⟩ : S24), (⟨a2, a3⟩ : S24), (⟨a4, a5⟩ : S24), (⟨a6, a7⟩ : S24), (⟨a8, a9⟩ : S24)] : List S24) ((0 : Nat) : Int)).f0 (rd_T24 ([(⟨a0, a1⟩ : S24), (⟨a2, a3⟩ : S24), (⟨a4, a5⟩ : S24), (⟨a6, a7⟩ : S24), (⟨a8, a9⟩ : S24)] : List S24) ((0 : Nat) : Int)).f1 ((0 : Nat) : Int) = some e0 := (Ref_check_k a0 a1 0 (by omega) h0 298).trans q0
  rw [SC_step 499 0 1 rfl _ e0 (by omega) rfl r0, show field_Check.f a0 a1 0 = _ from q0]
  simp only [Option.bind_some]
  by_cases c0 : e0 ≠ 0
  · rw [if_pos c0, if_neg c0]; exact ⟨_, _, rfl, rfl⟩
  rw [if_neg c0, if_pos (by simpa using c0)]
  obtain ⟨e1, q1⟩ := chk_tot a2 a3 1 (by omega)
  have r1 : complineref18_Check.f 498 (rd_T24 ([(⟨a0, a1⟩ : S24), (⟨a2, a3⟩ : S24), (⟨a4, a5⟩ : S24), (⟨a6, a7⟩ : S24), (⟨a8, a9⟩ : S24)] : List S24) ((1 : Nat) : Int)).f0 (rd_T24 ([(⟨a0, a1⟩ : S24), (⟨a2, a3⟩ : S24), (⟨a4, a5⟩ : S24), (⟨a6, a7⟩ : S24), (⟨a8, a9⟩ : S24)] : List S24) ((1 : Nat) : Int)).f1 ((1 : Nat) : Int) = some e1 := (Ref_check_k a2 a3 1 (by omega) h2 297).trans q1
  rw [SC_step 498 1 2 rfl _ e1 (by omega) rfl r1, show field_Check.f a2 a3 1 = _ from q1]
  simp only [Option.bind_some]
  by_cases c1 : e1 ≠ 0
  · rw [if_pos c1, if_neg c1]; exact ⟨_, _, rfl, rfl⟩
  rw [if_neg c1, if_pos (by simpa using c1)]
  obtain ⟨e2, q2⟩ := chk_tot a4 a5 2 (by omega)
  have r2 : complineref18_Check.f 497 (rd_T24 ([(⟨a0, a1⟩ : S24), (⟨a2, a3⟩ : S24), (⟨a4, a5⟩ : S24), (⟨a6, a7⟩ : S24), (⟨a8, a9⟩ : S24)] : List S24) ((2 : Nat) : Int)).f0 (rd_T24 ([(⟨a0, a1⟩ : S24), (⟨a2, a3⟩ : S24), (⟨a4, a5⟩ : S24), (⟨a6, a7⟩ : S24), (⟨a8, a9⟩ : S24)] : List S24) ((2 : Nat) : Int)).f1 ((2 : Nat) : Int) = some e2 := (Ref_check_k a4 a5 2 (by omega) h4 296).trans q2
  rw [SC_step 497 2 3 rfl _ e2 (by omega) rfl r2, show field_Check.f a4 a5 2 = _ from q2]
  simp only [Option.bind_some]
  by_cases c2 : e2 ≠ 0
  · rw [if_pos c2, if_neg c2]; exact ⟨_, _, rfl, rfl⟩
  rw [if_neg c2, if_pos (by simpa using c2)]
  obtain ⟨e3, q3⟩ := chk_tot a6 a7 3 (by omega)
  have r3 : complineref18_Check.f 496 (rd_T24 ([(⟨a0, a1⟩ : S24), (⟨a2, a3⟩ : S24), (⟨a4, a5⟩ : S24), (⟨a6, a7⟩ : S24), (⟨a8, a9⟩ : S24)] : List S24) ((3 : Nat) : Int)).f0 (rd_T24 ([(⟨a0, a1⟩ : S24), (⟨a2, a3⟩ : S24), (⟨a4, a5⟩ : S24), (⟨a6, a7⟩ : S24), (⟨a8, a9⟩ : S24)] : List S24) ((3 : Nat) : Int)).f1 ((3 : Nat) : Int) = some e3 := (Ref_check_k a6 a7 3 (by omega) h6 295).trans q3
  rw [SC_step 496 3 4 rfl _ e3 (by omega) rfl r3, show field_Check.f a6 a7 3 = _ from q3]
  simp only [Option.bind_some]
  by_cases c3 : e3 ≠ 0
  · rw [if_pos c3, if_neg c3]; exact ⟨_, _, rfl, rfl⟩
  rw [if_neg c3, if_pos (by simpa using c3)]
  obtain ⟨e4, q4⟩ := chk_tot a8 a9 4 (by omega)
  have r4 : complineref18_Check.f 495 (rd_T24 ([(⟨a0, a1⟩ : S24), (⟨a2, a3⟩ : S24), (⟨a4, a5⟩ : S24), (⟨a6, a7⟩ : S24), (⟨a8, a9⟩ : S24)] : List S24) ((4 : Nat) : Int)).f0 (rd_T24 ([(⟨a0, a1⟩ : S24), (⟨a2, a3⟩ : S24), (⟨a4, a5⟩ : S24), (⟨a6, a7⟩ : S24), (⟨a8, a9⟩ : S24)] : List S24) ((4 : Nat) : Int)).f1 ((4 : Nat) : Int) = some e4 := (Ref_check_k a8 a9 4 (by omega) h8 294).trans q4
  rw [SC_step 495 4 5 rfl _ e4 (by omega) rfl r4, show field_Check.f a8 a9 4 = _ from q4]
  simp only [Option.bind_some]
  by_cases c4 : e4 ≠ 0
  · rw [if_pos c4, if_neg c4]; exact ⟨_, _, rfl, rfl⟩
  rw [if_neg c4, if_pos (by simpa using c4)]
  rw [complineref19_Check.l0, if_neg (by omega)]
  exact ⟨_, _, rfl, rfl⟩
theorem Ref_has_all (b : Int) (s : Bool) (v : Int) (hb : InU b) (K : Nat) : complineref18_Has.f (K + 70) b s v = some (decide (0 ≤ v) && decide (v < 64) && bitAt b v.toNat) := by
  by_cases h0 : v < 0
  · unfold complineref18_Has.f
    rw [if_pos h0, complineref18_Has.j0, if_pos rfl, decide_eq_false (by omega)]
    rfl
  by_cases h1 : v > 63
  · unfold complineref18_Has.f
    rw [if_neg h0, decide_eq_true h1, complineref18_Has.j0, if_pos rfl, decide_eq_false (by omega : ¬ v < 64)]
    simp
  obtain ⟨n, rfl⟩ : ∃ n : Nat, v = n := ⟨v.toNat, by omega⟩
  rw [Ref_has b s n hb (by omega) K, Int.toNat_natCast, decide_eq_true (by omega), decide_eq_true (by omega)]
  rfl
/-! The reference's calendar answers the same. -/
theorem Civ.rleap_f (y : Int) : complineref16_Leap.f y = some (Civ.leap y) := by
  unfold complineref16_Leap.f Civ.leap
  have e : (Int.tmod y 100 != 0) = decide (¬ y % 100 = 0) := by rw [Bool.eq_iff_iff]; simp [Civ.tm]
  simp only [Civ.tm, e]
  by_cases h1 : y % 400 = 0
  · have h4 : y % 4 = 0 := by omega
    simp [h1, h4]
  · by_cases h2 : y % 4 = 0 <;> simp [h1, h2]
theorem Civ.rlen_f (y m : Int) (k : Nat) (hk : 1 ≤ k) : complineref16_Length.f k y m = some (Civ.len y m) := by
  obtain ⟨k, rfl⟩ : ∃ j, k = j + 1 := ⟨k - 1, by omega⟩
  unfold complineref16_Length.f Civ.len
  simp only [complineref16_Length.j0, Civ.rleap_f, Option.bind_some]
  by_cases h1 : m < 1
  · simp [h1]
  by_cases h2 : 12 < m
  · simp [h1, h2]
  by_cases h3 : m = 2
  · subst h3; cases h : Civ.leap y <;> simp
  by_cases h4 : m = 4
  · subst h4; simp
  by_cases h5 : m = 6
  · subst h5; simp
  by_cases h6 : m = 9
  · subst h6; simp
  by_cases h7 : m = 11
  · subst h7; simp
  simp [h1, h2, h3, h4, h5, h6, h7]
theorem Civ.rdays_f (y : Int) : complineref16_days.f y = some (Civ.dby (y + 1) - Civ.dby y) := by
  unfold complineref16_days.f
  rw [Civ.rleap_f]
  simp only [Option.bind_some]
  have := Civ.leap_of y
  unfold Civ.dby
  split
  · rename_i h
    have := this.1 h
    congr 1; omega
  · rename_i h
    have h2 : ¬ (y % 4 = 0 ∧ (y % 100 ≠ 0 ∨ y % 400 = 0)) := fun x => h (this.2 x)
    congr 1; omega
theorem Civ.rday_l1 (y : Int) (m : Nat) (hm : m ≤ 20) (e : Nat) : ∀ (k i : Nat) (b : Int), -1000000 ≤ b → b ≤ 1000000 → 1 ≤ i → i + e = m → e + 1 < k →
    complineref16_Day.l1 k y m (b + Civ.cum y (i - 1)) i = some (b + Civ.cum y (m - 1), 0) := by
  induction e with
  | zero =>
    intro k i b hb hb' h1 h2 hk
    obtain ⟨k, rfl⟩ : ∃ j, k = j + 1 := ⟨k - 1, by omega⟩
    simp only [complineref16_Day.l1]
    rw [if_neg (by omega), show i = m by omega]
  | succ e ih =>
    intro k i b hb hb' h1 h2 hk
    obtain ⟨k, rfl⟩ : ∃ j, k = j + 1 := ⟨k - 1, by omega⟩
    simp only [complineref16_Day.l1]
    rw [if_pos (by omega), Civ.rlen_f _ _ _ (by omega)]
    simp only [Option.bind_some]
    have hl := Civ.len_bd y i
    have hc := Civ.cum_bd y (i - 1)
    rw [Civ.w64 (by omega) (by omega), Civ.w64 (by omega) (by omega)]
    have := ih k (i + 1) b hb hb' (by omega) (by omega) (by omega)
    obtain ⟨j, rfl⟩ : ∃ j, i = j + 1 := ⟨i - 1, by omega⟩
    simp only [Nat.add_sub_cancel, Civ.cum] at this ⊢
    rw [← this]
    congr 1
    all_goals push_cast
    all_goals omega
theorem Civ.rday_l0 (y : Int) (m : Nat) (hm : m ≤ 12) (hm1 : 1 ≤ m) (hy : y ≤ 2999) (e : Nat) : ∀ (k : Nat) (i b : Int), 0 ≤ b → b ≤ 40 → 1970 ≤ i → i + e = y → e + 40 < k →
    complineref16_Day.l0 k y m (b + Civ.dby i) i = some (b + Civ.dby y + Civ.cum y (m - 1), 0) := by
  induction e with
  | zero =>
    intro k i b hb hb' h1 h2 hk
    obtain ⟨k, rfl⟩ : ∃ j, k = j + 1 := ⟨k - 1, by omega⟩
    simp only [complineref16_Day.l0]
    obtain rfl : i = y := by omega
    rw [if_neg (by omega)]
    have hd := Civ.dby_bd h1 (show i ≤ 3000 by omega)
    have := Civ.rday_l1 i m (by omega) (m - 1) k 1 (b + Civ.dby i) (by omega) (by omega) (by omega) (by omega) (by omega)
    simpa [Civ.cum] using this
  | succ e ih =>
    intro k i b hb hb' h1 h2 hk
    obtain ⟨k, rfl⟩ : ∃ j, k = j + 1 := ⟨k - 1, by omega⟩
    simp only [complineref16_Day.l0]
    rw [if_pos (by omega), Civ.rdays_f]
    simp only [Option.bind_some]
    have hd := Civ.dby_bd h1 (show i ≤ 3000 by omega)
    have hd' := Civ.dby_bd (show 1970 ≤ i + 1 by omega) (show i + 1 ≤ 3000 by omega)
    rw [Civ.w64 (by omega) (by omega), Civ.w64 (by omega) (by omega)]
    rw [← ih k (i + 1) b hb hb' (by omega) (by omega) (by omega)]
    congr 1
    omega
theorem Civ.rday_f (y m d : Int) (k : Nat) (hk : 1200 ≤ k) : complineref16_Day.f k y m d = some (Civ.day y m d) := by
  obtain ⟨k, rfl⟩ : ∃ j, k = j + 1 := ⟨k - 1, by omega⟩
  unfold complineref16_Day.f Civ.day
  by_cases h1 : y < 1970
  · rw [if_pos h1, if_pos (.inl h1)]; simp [complineref16_Day.j0]
  rw [if_neg h1]
  by_cases h2 : 2999 < y
  · rw [if_pos h2, if_pos (.inr (.inl h2))]; simp [complineref16_Day.j0]
  rw [if_neg h2]
  by_cases h3 : d < 1
  · rw [if_pos h3, if_pos (.inr (.inr (.inl h3)))]; simp [complineref16_Day.j0]
  rw [if_neg h3, Civ.rlen_f _ _ _ (by omega)]
  simp only [Option.bind_some]
  by_cases h4 : Civ.len y m < d
  · rw [if_pos (.inr (.inr (.inr h4)))]; simp [complineref16_Day.j0, h4]
  rw [if_neg (by omega)]
  have hm := Civ.len_pos (show 1 ≤ Civ.len y m by omega)
  have hd : decide (d > Civ.len y m) = false := decide_eq_false (by omega)
  simp only [complineref16_Day.j0, hd]
  have b3 := Civ.len_bd y m
  rw [if_neg (by simp), Civ.w64 (by omega) (by omega)]
  have := Civ.rday_l0 y m.toNat (by omega) (by omega) (by omega) (y - 1970).toNat k 1970 (d - 1) (by omega) (by omega) (by omega) (by omega) (by omega)
  rw [show ((m.toNat : Nat) : Int) = m by omega, show Civ.dby 1970 = 0 by decide, Int.add_zero] at this
  rw [this]
  unfold Civ.num
  rw [show (m - 1).toNat = m.toNat - 1 by omega]
  congr 2
  omega
/-! The document's days. -/
theorem rhas_f (b : Int) (s : Bool) (v : Int) (hb : InU b) (k : Nat) (hk : 70 ≤ k) : complineref18_Has.f k b s v = some (Dy.has b v) := by
  rw [show k = (k - 70) + 70 by omega, Ref_has_all b s v hb]
  rfl
theorem ron_f (b0 : Int) (s0 : Bool) (b1 : Int) (s1 : Bool) (b2 : Int) (s2 : Bool) (b3 : Int) (s3 : Bool) (b4 : Int) (s4 : Bool) (h2 : InU b2) (h3 : InU b3) (h4 : InU b4) (mo d w : Int) (k : Nat) (hk : 70 ≤ k) :
    complineref21_On.f k b0 s0 b1 s1 b2 s2 b3 s3 b4 s4 mo d w = some (Dy.has b3 mo && Dy.by_ b2 s2 b4 s4 d w) := by
  unfold complineref21_On.f
  rw [rhas_f b3 s3 mo h3 k hk, rhas_f b2 s2 d h2 k hk, rhas_f b4 s4 w h4 k hk]
  simp only [Option.bind_some]
  unfold Dy.by_
  cases s2 <;> cases s4 <;> cases Dy.has b3 mo <;> cases Dy.has b2 d <;> cases Dy.has b4 w <;> rfl
theorem rodd_f (b0 : Int) (s0 : Bool) (b1 : Int) (s1 : Bool) (b2 : Int) (s2 : Bool) (b3 : Int) (s3 : Bool) (b4 : Int) (s4 : Bool) (h0 : InU b0) (h1 : InU b1) (h2 : InU b2) (h3 : InU b3) (h4 : InU b4) (k : Nat) (hk : 500 ≤ k) :
    ∃ n e, complineref19_Check.f k b0 s0 b1 s1 b2 s2 b3 s3 b4 s4 = some (n, e) ∧ day_odd.f b0 s0 b1 s1 b2 s2 b3 s3 b4 s4 = some (e != 0) := by
  obtain ⟨n, e, h, hr⟩ := SC_ref b0 s0 b1 s1 b2 s2 b3 s3 b4 s4 h0 h1 h2 h3 h4
  refine ⟨n, e, at_rounds (fun k => complineref19_Check.mono _ _ _ _ _ _ _ _ _ _ k) hk hr, ?_⟩
  unfold day_odd.f
  rw [h]
  rfl
theorem rmask_l (b0 : Int) (s0 : Bool) (b1 : Int) (s1 : Bool) (b2 : Int) (s2 : Bool) (b3 : Int) (s3 : Bool) (b4 : Int) (s4 : Bool) (h2 : InU b2) (h3 : InU b3) (h4 : InU b4) (y m first : Int) (L : Nat) (hL : Civ.len y m = L) (hL31 : L ≤ 31) (hf0 : 0 ≤ first) (hf1 : first ≤ 376199) (P : Nat → Bool)
    (hP : ∀ i, P i = (Dy.has b3 m && Dy.dayP b2 s2 b4 s4 first i)) (e : Nat) : ∀ (k j : Nat), j + e = L → e + 100 ≤ k →
    complineref21_Mask.l0 k y m first (Dy.maskN P j : Int) ((2 ^ j : Nat) : Int) ((j + 1 : Nat) : Int) b0 s0 b1 s1 b2 s2 b3 s3 b4 s4 = some ((Dy.maskN P L : Int), 0) := by
  induction e with
  | zero =>
    intro k j h hk
    obtain ⟨k, rfl⟩ : ∃ i, k = i + 1 := ⟨k - 1, by omega⟩
    rw [complineref21_Mask.l0, Civ.rlen_f y m k (by omega)]
    simp only [Option.bind_some]
    rw [if_neg (by omega), show j = L by omega]
  | succ e ih =>
    intro k j h hk
    obtain ⟨k, rfl⟩ : ∃ i, k = i + 1 := ⟨k - 1, by omega⟩
    have hk1 : 1 ≤ k := by omega
    have hk70 : 70 ≤ k := by omega
    have hle : ((j + 1 : Nat) : Int) ≤ Civ.len y m := by omega
    have next := ih k (j + 1) (by omega) (by omega)
    have hw : wrap64 (((j + 1 : Nat) : Int) + 1) = ((j + 1 + 1 : Nat) : Int) := by unfold wrap64; omega
    have ew : Int.tmod (wrap64 (wrap64 (wrap64 (first + ((j + 1 : Nat) : Int)) - 1) + 4)) 7 = ((first + 4) % 7 + (j : Int)) % 7 := by
      have w1 : wrap64 (first + ((j + 1 : Nat) : Int)) = first + (j + 1) := by unfold wrap64; omega
      have w2 : wrap64 (first + ((j : Int) + 1) - 1) = first + j := by unfold wrap64; omega
      have w3 : wrap64 (first + (j : Int) + 4) = first + j + 4 := by unfold wrap64; omega
      rw [w1, w2, w3]
      clear w1 w2 w3 hw
      rw [Int.tmod_eq_emod_of_nonneg (by omega)]
      omega
    have e12 : (2 * ((2 ^ j : Nat) : Int)) % 4294967296 = ((2 ^ (j + 1) : Nat) : Int) ∧ (P j = true → ((Dy.maskN P j : Int) + ((2 ^ (j + 1) : Nat) : Int)) % 4294967296 = (Dy.maskN P (j + 1) : Int)) := by
      clear hw ew next
      have h1 := Dy.maskN_lt P j
      have hp : (2 : Nat) ^ (j + 1) ≤ 2 ^ 31 := Nat.pow_le_pow_right (by decide) (by omega)
      have hp2 : (2 : Nat) ^ (j + 1) = 2 * 2 ^ j := by rw [Nat.pow_succ]; omega
      rw [show (2 : Nat) ^ 31 = 2147483648 by decide] at hp
      simp only [Dy.maskN]
      rw [hp2] at h1 hp ⊢
      generalize (2 : Nat) ^ j = q at h1 hp ⊢
      refine ⟨by omega, fun hj => ?_⟩
      rw [if_pos hj]
      omega
    obtain ⟨e1, e2⟩ := e12
    rw [complineref21_Mask.l0, Civ.rlen_f y m k hk1]
    simp only [Option.bind_some]
    rw [if_pos hle, ron_f b0 s0 b1 s1 b2 s2 b3 s3 b4 s4 h2 h3 h4 _ _ _ k hk70, ew, e1, hw]
    simp only [Option.bind_some]
    have hPj : (Dy.has b3 m && Dy.by_ b2 s2 b4 s4 ((j + 1 : Nat) : Int) (((first + 4) % 7 + (j : Int)) % 7)) = P j := by
      rw [hP j]
      unfold Dy.dayP
      congr 2
    rw [hPj]
    by_cases hj : P j = true
    · rw [if_pos hj, e2 hj]
      exact next
    · rw [if_neg hj]
      rw [Dy.mask_keep P j (by simpa using hj)] at next
      exact next
theorem rmask_f (b0 : Int) (s0 : Bool) (b1 : Int) (s1 : Bool) (b2 : Int) (s2 : Bool) (b3 : Int) (s3 : Bool) (b4 : Int) (s4 : Bool) (h0 : InU b0) (h1 : InU b1) (h2 : InU b2) (h3 : InU b3) (h4 : InU b4) (y m : Int) (k : Nat) (hk : 1300 ≤ k) {ob : Bool} (A : day_odd.f b0 s0 b1 s1 b2 s2 b3 s3 b4 s4 = some ob) :
    complineref21_Mask.f k b0 s0 b1 s1 b2 s2 b3 s3 b4 s4 y m = some (Dy.mask ob b2 s2 b3 b4 s4 y m) := by
  obtain ⟨n, e, hr, ho⟩ := rodd_f b0 s0 b1 s1 b2 s2 b3 s3 b4 s4 h0 h1 h2 h3 h4 k (by omega)
  rw [ho] at A
  obtain rfl := Option.some.inj A
  unfold complineref21_Mask.f Dy.mask
  rw [hr]
  simp only [Option.bind_some]
  by_cases he : e = 0
  · rw [if_pos he, if_neg (by simp [he]), Civ.rday_f y m 1 k (by omega)]
    simp only [Option.bind_some]
    by_cases hd : (Civ.day y m 1).2 = 0
    · rw [if_pos hd, if_neg (by simp [hd])]
      have hbd := Civ.day_bd y m 1
      obtain ⟨L, hL, hL31⟩ := Dy.len_nat y m
      have := rmask_l b0 s0 b1 s1 b2 s2 b3 s3 b4 s4 h2 h3 h4 y m (Civ.day y m 1).1 L hL hL31 hbd.1 hbd.2 (fun i => Dy.has b3 m && Dy.dayP b2 s2 b4 s4 (Civ.day y m 1).1 i) (fun i => rfl) L k 0 (by omega) (by omega)
      refine (show complineref21_Mask.l0 k y m (Civ.day y m 1).1 0 1 1 b0 s0 b1 s1 b2 s2 b3 s3 b4 s4 = _ from this).trans ?_
      rw [hL, Int.toNat_natCast]
      cases hx : Dy.has b3 m with
      | true => rw [if_pos rfl]; rfl
      | false =>
        rw [if_neg (by decide)]
        have z : ∀ n, Dy.maskN (fun i => false && Dy.dayP b2 s2 b4 s4 (Civ.day y m 1).1 i) n = 0 := by
          intro n
          induction n with
          | zero => rfl
          | succ n ih => simp only [Dy.maskN]; rw [ih]; rfl
        rw [z]; rfl
    · rw [if_neg hd, if_pos hd]
  · rw [if_neg he, if_pos (by simpa using he)]
theorem DayMasks_p (b0 : Int) (s0 : Bool) (b1 : Int) (s1 : Bool) (b2 : Int) (s2 : Bool) (b3 : Int) (s3 : Bool) (b4 : Int) (s4 : Bool) (y m : Int) (h0 : (Lit.int .u64 b0).wf = true) (h1 : (Lit.int .u64 b1).wf = true) (h2 : (Lit.int .u64 b2).wf = true) (h3 : (Lit.int .u64 b3).wf = true) (h4 : (Lit.int .u64 b4).wf = true)
    (_ : (Lit.int .i64 y).wf = true) (_ : (Lit.int .i64 m).wf = true) : ∃ k, complinelaw21_DayMasks.f k b0 s0 b1 s1 b2 s2 b3 s3 b4 s4 y m = some true := by
  refine ⟨1300, ?_⟩
  obtain ⟨ob, A, -⟩ := odd_is b0 s0 b1 s1 b2 s2 b3 s3 b4 s4
  unfold complinelaw21_DayMasks.f
  rw [show complinelaw21_works.f = some true from rfl, mask_is (wf_in _ h0) (wf_in _ h1) (wf_in _ h2) (wf_in _ h3) (wf_in _ h4) A y m, rmask_f b0 s0 b1 s1 b2 s2 b3 s3 b4 s4 (wf_in _ h0) (wf_in _ h1) (wf_in _ h2) (wf_in _ h3) (wf_in _ h4) y m 1300 (Nat.le_refl _) A]
  simp
end Go.Proofs.YtcjfjicagopppaaGreatDoor.PDay
namespace Go.Proofs.YtcjfjicagopppaaGreatDoor.Pure
open Go.RowKit Go.Proofs.YtcjfjicagopppaaGreatDoorW.PrintWords Go.Proofs.YtcjfjicagopppaaGreatDoorW.PrintLast Go.Proofs.YtcjfjicagopppaaGreatDoorW.PrintMore Go.Proofs.YtcjfjicagopppaaGreatDoor.PDay
theorem DayMasks : ∀ (a0_0 : Int) (a0_1 : Bool) (a0_2 : Int) (a0_3 : Bool) (a0_4 : Int) (a0_5 : Bool) (a0_6 : Int) (a0_7 : Bool) (a0_8 : Int) (a0_9 : Bool) (a1 : Int) (a2 : Int), (Lit.int .u64 a0_0).wf = true → (Lit.int .u64 a0_2).wf = true → (Lit.int .u64 a0_4).wf = true → (Lit.int .u64 a0_6).wf = true → (Lit.int .u64 a0_8).wf = true → (Lit.int .i64 a1).wf = true → (Lit.int .i64 a2).wf = true → ∃ k, complinelaw21_DayMasks.f k a0_0 a0_1 a0_2 a0_3 a0_4 a0_5 a0_6 a0_7 a0_8 a0_9 a1 a2 = some true := fun a0_0 a0_1 a0_2 a0_3 a0_4 a0_5 a0_6 a0_7 a0_8 a0_9 a1 a2 h0_ h1_ h2_ h3_ h4_ h5_ h6_ => DayMasks_p a0_0 a0_1 a0_2 a0_3 a0_4 a0_5 a0_6 a0_7 a0_8 a0_9 a1 a2 h0_ h1_ h2_ h3_ h4_ h5_ h6_
end Go.Proofs.YtcjfjicagopppaaGreatDoor.Pure
