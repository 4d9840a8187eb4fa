/- The law DayMatches, over numbers: its printed function answers true at every input. No condition. -/
import Derived.Test.YtcjfjicagopppaaGreatDoorPDayx14
import Derived.Test.YtcjfjicagopppaaGreatDoorDayLib
namespace Go.Proofs.YtcjfjicagopppaaGreatDoor.PDay
open Go.RowKit Go.Proofs.YtcjfjicagopppaaGreatDoorW.PrintWords Go.Proofs.YtcjfjicagopppaaGreatDoorW.PrintLast Go.Proofs.YtcjfjicagopppaaGreatDoorW.PrintMore
set_option linter.unusedVariables false
set_option linter.unusedSimpArgs false
/-! complineref18.Has, Check and All, over bits. -/
theorem Ref_half (x : Int) (h : InU x) : IntKind.u64.wrap (Int.tdiv x 2) = ((x.toNat / 2 : Nat) : Int) := by
  obtain ⟨n, rfl, hn⟩ := nat_of x h
  rw [u64w, Int.toNat_natCast]
  have : Int.tdiv (n : Int) 2 = ((n / 2 : Nat) : Int) := by rw [Int.tdiv_eq_ediv_of_nonneg (by omega)]; omega
  rw [this]
  rw [show (2 : Nat) ^ 64 = 18446744073709551616 by decide] at hn
  omega
theorem Ref_has_l : ∀ (d i : Nat) (v : Int) (x : Int) (K : Nat), InU x → (i : Int) + d = v → v ≤ 64 → complineref18_Has.l0 (d + 1 + K) v x (i : Int) = some (bitAt x d)
  | 0, i, v, x, K, hx, hv, h64 => by
    rw [show 0 + 1 + K = K + 1 by omega, complineref18_Has.l0, if_neg (by omega)]
    obtain ⟨n, rfl, hn⟩ := nat_of x hx
    congr 1
    unfold bitAt
    rw [Int.toNat_natCast, Nat.testBit_zero]
    rw [Int.tmod_eq_emod_of_nonneg (by omega)]
    rw [Bool.eq_iff_iff]
    simp only [beq_iff_eq, decide_eq_true_eq]
    omega
  | d + 1, i, v, x, K, hx, hv, h64 => by
    have hw : wrap64 ((i : Int) + 1) = ((i + 1 : Nat) : Int) := by unfold wrap64; omega
    rw [show d + 1 + 1 + K = (d + 1 + K) + 1 by omega, complineref18_Has.l0, if_pos (by omega), Ref_half x hx, hw]
    have hx2 : InU ((x.toNat / 2 : Nat) : Int) := by unfold InU at hx ⊢; omega
    rw [Ref_has_l d (i + 1) v _ K hx2 (by omega) h64]
    unfold bitAt
    rw [Int.toNat_natCast, Nat.testBit_succ]
theorem Ref_has (b : Int) (s : Bool) (v : Nat) (hb : InU b) (hv : v < 64) (K : Nat) : complineref18_Has.f (K + 70) b s (v : Int) = some (bitAt b v) := by
  unfold complineref18_Has.f
  rw [if_neg (by omega), decide_eq_false (by omega), complineref18_Has.j0, if_neg (by decide)]
  rw [show K + 69 = v + 1 + (K + 68 - v) by omega]
  exact Ref_has_l v 0 v b _ hb (by omega) (by omega)
/-- How many of the bits from v on, d of them, are set; and whether one lies out. -/
def cntF (f : Nat → Bool) : Nat → Nat → Nat
  | _, 0 => 0
  | v, d + 1 => (if f v then 1 else 0) + cntF f (v + 1) d
def outF (f : Nat → Bool) (lo hi : Nat) : Nat → Nat → Bool
  | _, 0 => false
  | v, d + 1 => (f v && (decide (v < lo) || decide (hi < v))) || outF f lo hi (v + 1) d
def finF (lo hi : Nat) (s : Bool) (m : Nat) : Option Int := if (m : Int) = 0 then some 2 else if s = true then (if (m : Int) = (hi : Int) - lo + 1 then some 0 else some 2) else some 0
theorem Ref_check_l (b : Int) (s : Bool) (lo hi : Nat) (hb : InU b) (hh : lo ≤ hi) (h59 : hi ≤ 59) : ∀ (d v n K : Nat), v + d = 64 → n ≤ v →
    complineref18_Check.l0 (2 * d + 1 + (K + 72)) (lo : Int) (hi : Int) (n : Int) (v : Int) b s = if outF (bitAt b) lo hi v d = true then some 2 else finF lo hi s (n + cntF (bitAt b) v d)
  | 0, v, n, K, hv, hn => by
    have hw : wrap64 (wrap64 ((hi : Int) - lo) + 1) = (hi : Int) - lo + 1 := by unfold wrap64; omega
    rw [show 2 * 0 + 1 + (K + 72) = (K + 72) + 1 by omega, complineref18_Check.l0, if_neg (by omega), hw]
    rfl
  | d + 1, v, n, K, hv, hn => by
    have hw : wrap64 ((v : Int) + 1) = ((v + 1 : Nat) : Int) := by unfold wrap64; omega
    have hwn : wrap64 ((n : Int) + 1) = ((n + 1 : Nat) : Int) := by unfold wrap64; omega
    rw [show 2 * (d + 1) + 1 + (K + 72) = (2 * d + 1 + (K + 72) + 1) + 1 by omega, complineref18_Check.l0, if_pos (by omega)]
    rw [show 2 * d + 1 + (K + 72) + 1 = (2 * d + K + 4) + 70 by omega, Ref_has b s v hb (by omega)]
    simp only [Option.bind_some]
    rw [show 2 * d + K + 4 + 70 = (2 * d + 1 + (K + 72)) + 1 by omega]
    unfold outF cntF
    cases hbv : bitAt b v
    · rw [if_neg (by decide), complineref18_Check.j1, if_neg (by decide), if_neg (by decide), hw, Ref_check_l b s lo hi hb hh h59 d (v + 1) n K (by omega) (by omega)]
      simp
    · rw [if_pos rfl]
      by_cases h1 : (v : Int) < lo
      · rw [if_pos h1, complineref18_Check.j1, if_pos rfl]
        rw [decide_eq_true (by omega : v < lo)]
        rfl
      · rw [if_neg h1, complineref18_Check.j1]
        by_cases h2 : (v : Int) > hi
        · rw [decide_eq_true h2, if_pos rfl, decide_eq_true (by omega : hi < v)]
          simp
        · rw [decide_eq_false h2, if_neg (by decide), if_pos rfl, hw, hwn, Ref_check_l b s lo hi hb hh h59 d (v + 1) (n + 1) K (by omega) (by omega)]
          rw [decide_eq_false (by omega : ¬ v < lo), decide_eq_false (by omega : ¬ hi < v)]
          simp [Nat.add_assoc]
theorem out_iff (f : Nat → Bool) (lo hi : Nat) : ∀ (d v : Nat), outF f lo hi v d = false ↔ ∀ i, v ≤ i → i < v + d → f i = true → lo ≤ i ∧ i ≤ hi
  | 0, v => ⟨fun _ i h1 h2 => by omega, fun _ => rfl⟩
  | d + 1, v => by
    unfold outF
    rw [Bool.or_eq_false_iff, out_iff f lo hi d (v + 1)]
    constructor
    · rintro ⟨h1, h2⟩ i h3 h4 h5
      by_cases hi' : i = v
      · subst hi'
        rw [h5] at h1
        simp at h1
        omega
      · exact h2 i (by omega) (by omega) h5
    · intro h
      refine ⟨?_, fun i h1 h2 h3 => h i (by omega) (by omega) h3⟩
      cases hf : f v
      · rfl
      · have := h v (by omega) (by omega) hf
        simp; omega
theorem cnt_zero (f : Nat → Bool) : ∀ (d v : Nat), cntF f v d = 0 ↔ ∀ i, v ≤ i → i < v + d → f i = false
  | 0, v => ⟨fun _ i h1 h2 => by omega, fun _ => rfl⟩
  | d + 1, v => by
    unfold cntF
    constructor
    · intro h i h1 h2
      by_cases hi : i = v
      · subst hi; cases hf : f i; rfl; rw [hf] at h; simp at h
      · exact (cnt_zero f d (v + 1)).1 (by omega) i (by omega) (by omega)
    · intro h
      rw [h v (by omega) (by omega), (cnt_zero f d (v + 1)).2 (fun i h1 h2 => h i (by omega) (by omega))]
      rfl
theorem cnt_le (f g : Nat → Bool) : ∀ (d v : Nat), (∀ i, v ≤ i → i < v + d → f i = true → g i = true) → cntF f v d ≤ cntF g v d ∧ (cntF f v d = cntF g v d ↔ ∀ i, v ≤ i → i < v + d → f i = g i)
  | 0, v, _ => ⟨Nat.le_refl _, fun _ i h1 h2 => by omega, fun _ => rfl⟩
  | d + 1, v, h => by
    obtain ⟨h1, h2⟩ := cnt_le f g d (v + 1) (fun i a b c => h i (by omega) (by omega) c)
    unfold cntF
    have h3 := h v (by omega) (by omega)
    constructor
    · cases hf : f v
      · simp; omega
      · rw [h3 hf]; simp; exact h1
    · constructor
      · intro he i a b
        by_cases hi : i = v
        · subst hi
          cases hf : f i
          · cases hg : g i
            · rfl
            · rw [hf, hg] at he; simp at he; omega
          · rw [h3 hf]
        · refine h2.1 ?_ i (by omega) (by omega)
          cases hf : f v
          · rw [hf] at he
            simp at he
            cases hg : g v
            · rw [hg] at he; simpa using he
            · rw [hg] at he; simp at he; omega
          · rw [hf, h3 hf] at he; simpa using he
      · intro he
        rw [he v (by omega) (by omega), h2.2 (fun i a b => he i (by omega) (by omega))]
theorem cnt_ext (f g : Nat → Bool) (h : ∀ i, f i = g i) : ∀ (d v : Nat), cntF f v d = cntF g v d
  | 0, _ => rfl
  | d + 1, v => by unfold cntF; rw [h v, cnt_ext f g h d (v + 1)]
theorem Ref_check (b : Int) (s : Bool) (kind : Int) (lo hi : Nat) (hb : InU b) (hk : (Lex.limits kind).2.2 = 0) (hlo : (Lex.limits kind).1 = lo) (hhi : top kind = hi) (h1 : lo ≤ hi) (h2 : hi ≤ 59)
    (hl : complineref18_limits.f kind = some ((lo : Int), (hi : Int), 0)) (hc : cntF (fun i => decide (lo ≤ i) && decide (i ≤ hi)) 0 64 = hi + 1 - lo) (K : Nat) :
    complineref18_Check.f (K + 201) b s kind = field_Check.f b s kind := by
  rw [check_f b s kind lo hi hk hlo hhi h1 h2]
  unfold complineref18_Check.f
  rw [hl]
  simp only [Option.bind_some, if_true]
  have e := Ref_check_l b s lo hi hb h1 h2 64 0 0 K (by omega) (by omega)
  rw [show 2 * 64 + 1 + (K + 72) = K + 201 by omega] at e
  refine (show complineref18_Check.l0 (K + 201) (lo : Int) (hi : Int) 0 0 b s = _ from e).trans ?_
  rw [Nat.zero_add]
  have hev := ev_in lo hi (by omega)
  by_cases ho : outF (bitAt b) lo hi 0 64 = true
  · rw [if_pos ho]
    by_cases hz : b = 0
    · rw [if_pos hz]
    · rw [if_neg hz, if_neg]
      intro ha
      rw [andNot_zero _ _ hb hev] at ha
      have : outF (bitAt b) lo hi 0 64 = false := (out_iff _ _ _ _ _).2 (fun i _ hi6 hbi => by
        have := ha i (by omega) hbi
        rw [bit_ev lo hi i (by omega)] at this
        simp at this
        exact this)
      rw [this] at ho
      cases ho
  · rw [if_neg ho]
    have ho' : outF (bitAt b) lo hi 0 64 = false := by simpa using ho
    have hin := (out_iff _ _ _ _ _).1 ho'
    have hsub : ∀ i, i < 64 → bitAt b i = true → bitAt (evB lo hi) i = true := by
      intro i hi6 hbi
      obtain ⟨q1, q2⟩ := hin i (by omega) (by omega) hbi
      rw [bit_ev lo hi i (by omega), decide_eq_true q1, decide_eq_true q2]
      rfl
    have hz : cntF (bitAt b) 0 64 = 0 ↔ b = 0 := by
      rw [cnt_zero]
      constructor
      · intro h
        exact eq_of_bits hb (by unfold InU; omega) (fun i hi6 => by rw [h i (by omega) (by omega), bit_zero])
      · rintro rfl i _ _
        exact bit_zero i
    have hf : cntF (bitAt b) 0 64 = hi + 1 - lo ↔ b = evB lo hi := by
      have q := (cnt_le (bitAt b) (bitAt (evB lo hi)) 64 0 (fun i _ h4 h5 => hsub i (by omega) h5)).2
      have q2 : cntF (bitAt (evB lo hi)) 0 64 = hi + 1 - lo := by rw [← hc]; exact cnt_ext _ _ (fun i => bit_ev lo hi i (by omega)) 64 0
      rw [q2] at q
      rw [q]
      constructor
      · intro h
        exact eq_of_bits hb hev (fun i hi6 => h i (by omega) (by omega))
      · rintro rfl i _ _
        rfl
    unfold finF
    rw [if_pos ((andNot_zero _ _ hb hev).2 hsub)]
    by_cases hb0 : b = 0
    · rw [if_pos (by rw [hz.2 hb0]; rfl), if_pos hb0]
    · rw [if_neg (by intro e; exact hb0 (hz.1 (by omega))), if_neg hb0]
      cases s
      · rfl
      · rw [if_pos rfl, if_pos rfl]
        by_cases hbe : b = evB lo hi
        · rw [if_pos (by rw [hf.2 hbe]; omega), if_pos hbe]
        · rw [if_neg (by intro e; exact hbe (hf.1 (by omega))), if_neg hbe]
theorem Ref_check_k (b : Int) (s : Bool) (i : Nat) (hi : i < 5) (hb : InU b) (K : Nat) : complineref18_Check.f (K + 201) b s (i : Int) = field_Check.f b s (i : Int) := by
  rcases (by omega : i = 0 ∨ i = 1 ∨ i = 2 ∨ i = 3 ∨ i = 4) with rfl | rfl | rfl | rfl | rfl
  · exact Ref_check b s 0 0 59 hb rfl rfl rfl (by decide) (by decide) rfl (by decide +kernel) K
  · exact Ref_check b s 1 0 23 hb rfl rfl rfl (by decide) (by decide) rfl (by decide +kernel) K
  · exact Ref_check b s 2 1 31 hb rfl rfl rfl (by decide) (by decide) rfl (by decide +kernel) K
  · exact Ref_check b s 3 1 12 hb rfl rfl rfl (by decide) (by decide) rfl (by decide +kernel) K
  · exact Ref_check b s 4 0 6 hb rfl rfl rfl (by decide) (by decide) rfl (by decide +kernel) K
theorem SC_step (k i j : Nat) (hj : j = i + 1) (x : List S24) (e : Int) (hi : i < 5) (hl : x.length = 5) (hq : complineref18_Check.f k (rd_T24 x (i : Int)).f0 (rd_T24 x (i : Int)).f1 (i : Int) = some e) :
    complineref19_Check.l0 (k + 1) x (i : Int) = if e = 0 then complineref19_Check.l0 k x (j : Int) else some ((i : Int) + 1, e) := by
  subst hj
  have hw : wrap64 ((i : Int) + 1) = (i : Int) + 1 := by unfold wrap64; omega
  rw [complineref19_Check.l0, if_pos (by omega), if_pos (by omega), if_pos (by omega), hq]
  simp only [Option.bind_some]
  rw [hw]
  rfl
theorem SC_ref (a0 : Int) (a1 : Bool) (a2 : Int) (a3 : Bool) (a4 : Int) (a5 : Bool) (a6 : Int) (a7 : Bool) (a8 : Int) (a9 : Bool) (h0 : InU a0) (h2 : InU a2) (h4 : InU a4) (h6 : InU a6) (h8 : InU a8) : ∃ n e, spec_Check.f a0 a1 a2 a3 a4 a5 a6 a7 a8 a9 = some (n, e) ∧ complineref19_Check.f 500 a0 a1 a2 a3 a4 a5 a6 a7 a8 a9 = some (n, e) := by
  unfold complineref19_Check.f complineref19_Fields.f spec_Check.f
  simp only [Option.bind_some]
  rw [show complineref19_Check.l0 500 ([(⟨a0, a1⟩ : S24), (⟨a2, a3⟩ : S24), (⟨a4, a5⟩ : S24), (⟨a6, a7⟩ : S24), (⟨a8, a9⟩ : S24)] : List S24) 0 = complineref19_Check.l0 500 ([(⟨a0, a1⟩ : S24), (⟨a2, a3⟩ : S24), (⟨a4, a5⟩ : S24), (⟨a6, a7⟩ : S24), (⟨a8, a9⟩ : S24)] : List S24) ((0 : Nat) : Int) from rfl]
  obtain ⟨e0, q0⟩ := chk_tot a0 a1 0 (by omega)
  have r0 : complineref18_Check.f 499 (rd_T24 ([(⟨a0, a1⟩ : S24), (⟨a2, a3⟩ : S24), (⟨a4, a5⟩ : S24), (⟨a6, a7⟩ : S24), (⟨a8, a9⟩ : S24)] : List S24) ((0 : Nat) : Int)).f0 (rd_T24 ([(⟨a0, a1⟩ : S24), (⟨a2, a3⟩ : S24), (⟨a4, a5⟩ : S24), (⟨a6, a7⟩ : S24), (⟨a8, a9⟩ : S24)] : List S24) ((0 : Nat) : Int)).f1 ((0 : Nat) : Int) = some e0 := (Ref_check_k a0 a1 0 (by omega) h0 298).trans q0
  rw [SC_step 499 0 1 rfl _ e0 (by omega) rfl r0, show field_Check.f a0 a1 0 = _ from q0]
  simp only [Option.bind_some]
  by_cases c0 : e0 ≠ 0
  · rw [if_pos c0, if_neg c0]; exact ⟨_, _, rfl, rfl⟩
  rw [if_neg c0, if_pos (by simpa using c0)]
  obtain ⟨e1, q1⟩ := chk_tot a2 a3 1 (by omega)
  have r1 : complineref18_Check.f 498 (rd_T24 ([(⟨a0, a1⟩ : S24), (⟨a2, a3⟩ : S24), (⟨a4, a5⟩ : S24), (⟨a6, a7⟩ : S24), (⟨a8, a9⟩ : S24)] : List S24) ((1 : Nat) : Int)).f0 (rd_T24 ([(⟨a0, a1⟩ : S24), (⟨a2, a3⟩ : S24), (⟨a4, a5⟩ : S24), (⟨a6, a7⟩ : S24), (⟨a8, a9⟩ : S24)] : List S24) ((1 : Nat) : Int)).f1 ((1 : Nat) : Int) = some e1 := (Ref_check_k a2 a3 1 (by omega) h2 297).trans q1
  rw [SC_step 498 1 2 rfl _ e1 (by omega) rfl r1, show field_Check.f a2 a3 1 = _ from q1]
  simp only [Option.bind_some]
  by_cases c1 : e1 ≠ 0
  · rw [if_pos c1, if_neg c1]; exact ⟨_, _, rfl, rfl⟩
  rw [if_neg c1, if_pos (by simpa using c1)]
  obtain ⟨e2, q2⟩ := chk_tot a4 a5 2 (by omega)
  have r2 : complineref18_Check.f 497 (rd_T24 ([(⟨a0, a1⟩ : S24), (⟨a2, a3⟩ : S24), (⟨a4, a5⟩ : S24), (⟨a6, a7⟩ : S24), (⟨a8, a9⟩ : S24)] : List S24) ((2 : Nat) : Int)).f0 (rd_T24 ([(⟨a0, a1⟩ : S24), (⟨a2, a3⟩ : S24), (⟨a4, a5⟩ : S24), (⟨a6, a7⟩ : S24), (⟨a8, a9⟩ : S24)] : List S24) ((2 : Nat) : Int)).f1 ((2 : Nat) : Int) = some e2 := (Ref_check_k a4 a5 2 (by omega) h4 296).trans q2
  rw [SC_step 497 2 3 rfl _ e2 (by omega) rfl r2, show field_Check.f a4 a5 2 = _ from q2]
  simp only [Option.bind_some]
  by_cases c2 : e2 ≠ 0
  · rw [if_pos c2, if_neg c2]; exact ⟨_, _, rfl, rfl⟩
  rw [if_neg c2, if_pos (by simpa using c2)]
  obtain ⟨e3, q3⟩ := chk_tot a6 a7 3 (by omega)
  have r3 : complineref18_Check.f 496 (rd_T24 ([(⟨a0, a1⟩ : S24), (⟨a2, a3⟩ : S24), (⟨a4, a5⟩ : S24), (⟨a6, a7⟩ : S24), (⟨a8, a9⟩ : S24)] : List S24) ((3 : Nat) : Int)).f0 (rd_T24 ([(⟨a0, a1⟩ : S24), (⟨a2, a3⟩ : S24), (⟨a4, a5⟩ : S24), (⟨a6, a7⟩ : S24), (⟨a8, a9⟩ : S24)] : List S24) ((3 : Nat) : Int)).f1 ((3 : Nat) : Int) = some e3 := (Ref_check_k a6 a7 3 (by omega) h6 295).trans q3
  rw [SC_step 496 3 4 rfl _ e3 (by omega) rfl r3, show field_Check.f a6 a7 3 = _ from q3]
  simp only [Option.bind_some]
  by_cases c3 : e3 ≠ 0
  · rw [if_pos c3, if_neg c3]; exact ⟨_, _, rfl, rfl⟩
  rw [if_neg c3, if_pos (by simpa using c3)]
  obtain ⟨e4, q4⟩ := chk_tot a8 a9 4 (by omega)
  have r4 : complineref18_Check.f 495 (rd_T24 ([(⟨a0, a1⟩ : S24), (⟨a2, a3⟩ : S24), (⟨a4, a5⟩ : S24), (⟨a6, a7⟩ : S24), (⟨a8, a9⟩ : S24)] : List S24) ((4 : Nat) : Int)).f0 (rd_T24 ([(⟨a0, a1⟩ : S24), (⟨a2, a3⟩ : S24), (⟨a4, a5⟩ : S24), (⟨a6, a7⟩ : S24), (⟨a8, a9⟩ : S24)] : List S24) ((4 : Nat) : Int)).f1 ((4 : Nat) : Int) = some e4 := (Ref_check_k a8 a9 4 (by omega) h8 294).trans q4
  rw [SC_step 495 4 5 rfl _ e4 (by omega) rfl r4, show field_Check.f a8 a9 4 = _ from q4]
  simp only [Option.bind_some]
  by_cases c4 : e4 ≠ 0
  · rw [if_pos c4, if_neg c4]; exact ⟨_, _, rfl, rfl⟩
  rw [if_neg c4, if_pos (by simpa using c4)]
  rw [complineref19_Check.l0, if_neg (by omega)]
  exact ⟨_, _, rfl, rfl⟩
theorem Ref_has_all (b : Int) (s : Bool) (v : Int) (hb : InU b) (K : Nat) : complineref18_Has.f (K + 70) b s v = some (decide (0 ≤ v) && decide (v < 64) && bitAt b v.toNat) := by
  by_cases h0 : v < 0
  · unfold complineref18_Has.f
    rw [if_pos h0, complineref18_Has.j0, if_pos rfl, decide_eq_false (by omega)]
    rfl
  by_cases h1 : v > 63
  · unfold complineref18_Has.f
    rw [if_neg h0, decide_eq_true h1, complineref18_Has.j0, if_pos rfl, decide_eq_false (by omega : ¬ v < 64)]
    simp
  obtain ⟨n, rfl⟩ : ∃ n : Nat, v = n := ⟨v.toNat, by omega⟩
  rw [Ref_has b s n hb (by omega) K, Int.toNat_natCast, decide_eq_true (by omega), decide_eq_true (by omega)]
  rfl
/-! The reference's calendar answers the same. -/
theorem Civ.rleap_f (y : Int) : complineref16_Leap.f y = some (Civ.leap y) := by
  unfold complineref16_Leap.f Civ.leap
  have e : (Int.tmod y 100 != 0) = decide (¬ y % 100 = 0) := by rw [Bool.eq_iff_iff]; simp [Civ.tm]
  simp only [Civ.tm, e]
  by_cases h1 : y % 400 = 0
  · have h4 : y % 4 = 0 := by omega
    simp [h1, h4]
  · by_cases h2 : y % 4 = 0 <;> simp [h1, h2]
theorem Civ.rlen_f (y m : Int) (k : Nat) (hk : 1 ≤ k) : complineref16_Length.f k y m = some (Civ.len y m) := by
  obtain ⟨k, rfl⟩ : ∃ j, k = j + 1 := ⟨k - 1, by omega⟩
  unfold complineref16_Length.f Civ.len
  simp only [complineref16_Length.j0, Civ.rleap_f, Option.bind_some]
  by_cases h1 : m < 1
  · simp [h1]
  by_cases h2 : 12 < m
  · simp [h1, h2]
  by_cases h3 : m = 2
  · subst h3; cases h : Civ.leap y <;> simp
  by_cases h4 : m = 4
  · subst h4; simp
  by_cases h5 : m = 6
  · subst h5; simp
  by_cases h6 : m = 9
  · subst h6; simp
  by_cases h7 : m = 11
  · subst h7; simp
  simp [h1, h2, h3, h4, h5, h6, h7]
theorem Civ.rdays_f (y : Int) : complineref16_days.f y = some (Civ.dby (y + 1) - Civ.dby y) := by
  unfold complineref16_days.f
  rw [Civ.rleap_f]
  simp only [Option.bind_some]
  have := Civ.leap_of y
  unfold Civ.dby
  split
  · rename_i h
    have := this.1 h
    congr 1; omega
  · rename_i h
    have h2 : ¬ (y % 4 = 0 ∧ (y % 100 ≠ 0 ∨ y % 400 = 0)) := fun x => h (this.2 x)
    congr 1; omega
theorem Civ.rday_l1 (y : Int) (m : Nat) (hm : m ≤ 20) (e : Nat) : ∀ (k i : Nat) (b : Int), -1000000 ≤ b → b ≤ 1000000 → 1 ≤ i → i + e = m → e + 1 < k →
    complineref16_Day.l1 k y m (b + Civ.cum y (i - 1)) i = some (b + Civ.cum y (m - 1), 0) := by
  induction e with
  | zero =>
    intro k i b hb hb' h1 h2 hk
    obtain ⟨k, rfl⟩ : ∃ j, k = j + 1 := ⟨k - 1, by omega⟩
    simp only [complineref16_Day.l1]
    rw [if_neg (by omega), show i = m by omega]
  | succ e ih =>
    intro k i b hb hb' h1 h2 hk
    obtain ⟨k, rfl⟩ : ∃ j, k = j + 1 := ⟨k - 1, by omega⟩
    simp only [complineref16_Day.l1]
    rw [if_pos (by omega), Civ.rlen_f _ _ _ (by omega)]
    simp only [Option.bind_some]
    have hl := Civ.len_bd y i
    have hc := Civ.cum_bd y (i - 1)
    rw [Civ.w64 (by omega) (by omega), Civ.w64 (by omega) (by omega)]
    have := ih k (i + 1) b hb hb' (by omega) (by omega) (by omega)
    obtain ⟨j, rfl⟩ : ∃ j, i = j + 1 := ⟨i - 1, by omega⟩
    simp only [Nat.add_sub_cancel, Civ.cum] at this ⊢
    rw [← this]
    congr 1
    all_goals push_cast
    all_goals omega
theorem Civ.rday_l0 (y : Int) (m : Nat) (hm : m ≤ 12) (hm1 : 1 ≤ m) (hy : y ≤ 2999) (e : Nat) : ∀ (k : Nat) (i b : Int), 0 ≤ b → b ≤ 40 → 1970 ≤ i → i + e = y → e + 40 < k →
    complineref16_Day.l0 k y m (b + Civ.dby i) i = some (b + Civ.dby y + Civ.cum y (m - 1), 0) := by
  induction e with
  | zero =>
    intro k i b hb hb' h1 h2 hk
    obtain ⟨k, rfl⟩ : ∃ j, k = j + 1 := ⟨k - 1, by omega⟩
    simp only [complineref16_Day.l0]
    obtain rfl : i = y := by omega
    rw [if_neg (by omega)]
    have hd := Civ.dby_bd h1 (show i ≤ 3000 by omega)
    have := Civ.rday_l1 i m (by omega) (m - 1) k 1 (b + Civ.dby i) (by omega) (by omega) (by omega) (by omega) (by omega)
    simpa [Civ.cum] using this
  | succ e ih =>
    intro k i b hb hb' h1 h2 hk
    obtain ⟨k, rfl⟩ : ∃ j, k = j + 1 := ⟨k - 1, by omega⟩
    simp only [complineref16_Day.l0]
    rw [if_pos (by omega), Civ.rdays_f]
    simp only [Option.bind_some]
    have hd := Civ.dby_bd h1 (show i ≤ 3000 by omega)
    have hd' := Civ.dby_bd (show 1970 ≤ i + 1 by omega) (show i + 1 ≤ 3000 by omega)
    rw [Civ.w64 (by omega) (by omega), Civ.w64 (by omega) (by omega)]
    rw [← ih k (i + 1) b hb hb' (by omega) (by omega) (by omega)]
    congr 1
    omega
theorem Civ.rday_f (y m d : Int) (k : Nat) (hk : 1200 ≤ k) : complineref16_Day.f k y m d = some (Civ.day y m d) := by
  obtain ⟨k, rfl⟩ : ∃ j, k = j + 1 := ⟨k - 1, by omega⟩
  unfold complineref16_Day.f Civ.day
  by_cases h1 : y < 1970
  · rw [if_pos h1, if_pos (.inl h1)]; simp [complineref16_Day.j0]
  rw [if_neg h1]
  by_cases h2 : 2999 < y
  · rw [if_pos h2, if_pos (.inr (.inl h2))]; simp [complineref16_Day.j0]
  rw [if_neg h2]
  by_cases h3 : d < 1
  · rw [if_pos h3, if_pos (.inr (.inr (.inl h3)))]; simp [complineref16_Day.j0]
  rw [if_neg h3, Civ.rlen_f _ _ _ (by omega)]
  simp only [Option.bind_some]
  by_cases h4 : Civ.len y m < d
  · rw [if_pos (.inr (.inr (.inr h4)))]; simp [complineref16_Day.j0, h4]
  rw [if_neg (by omega)]
  have hm := Civ.len_pos (show 1 ≤ Civ.len y m by omega)
  have hd : decide (d > Civ.len y m) = false := decide_eq_false (by omega)
  simp only [complineref16_Day.j0, hd]
  have b3 := Civ.len_bd y m
  rw [if_neg (by simp), Civ.w64 (by omega) (by omega)]
  have := Civ.rday_l0 y m.toNat (by omega) (by omega) (by omega) (y - 1970).toNat k 1970 (d - 1) (by omega) (by omega) (by omega) (by omega) (by omega)
  rw [show ((m.toNat : Nat) : Int) = m by omega, show Civ.dby 1970 = 0 by decide, Int.add_zero] at this
  rw [this]
  unfold Civ.num
  rw [show (m - 1).toNat = m.toNat - 1 by omega]
  congr 2
  omega
theorem Civ.rdate_l1 (y d : Int) (hd0 : 0 ≤ d) (hd : d ≤ 376199) (hy : y = Civ.yr d) (e : Nat) : ∀ (k i : Nat), i + e = Civ.mi d → e + 1 < k →
    complineref16_Date.l1 k (d - Civ.dby y - Civ.cum y i) y (1 + (i : Int)) = some (Civ.yr d, 1 + (Civ.mi d : Int), Civ.dy d, 0) := by
  have sp := Civ.mi_spec hd0 hd
  have bd := Civ.yr_bd hd0 hd
  subst hy
  have hdb := Civ.dby_bd bd.1 (by omega)
  induction e with
  | zero =>
    intro k i h2 hk
    obtain ⟨k, rfl⟩ : ∃ j, k = j + 1 := ⟨k - 1, by omega⟩
    obtain rfl : i = Civ.mi d := by omega
    simp only [complineref16_Date.l1]
    rw [Civ.rlen_f _ _ _ (by omega)]
    simp only [Option.bind_some]
    have hs := Civ.cum_len (Civ.yr d) (Civ.mi d)
    rw [show ((Civ.mi d : Int) + 1) = 1 + Civ.mi d by omega] at hs
    have hc := Civ.cum_bd (Civ.yr d) (Civ.mi d)
    rw [if_neg (by omega), Civ.w64 (by omega) (by omega)]
    unfold Civ.dy
    rfl
  | succ e ih =>
    intro k i h2 hk
    obtain ⟨k, rfl⟩ : ∃ j, k = j + 1 := ⟨k - 1, by omega⟩
    simp only [complineref16_Date.l1]
    rw [Civ.rlen_f _ _ _ (by omega)]
    simp only [Option.bind_some]
    have hs := Civ.cum_len (Civ.yr d) i
    rw [show ((i : Int) + 1) = 1 + i by omega] at hs
    have hmo := Civ.cum_mono (Civ.yr d) (show i + 1 ≤ Civ.mi d by omega)
    have hc := Civ.cum_bd (Civ.yr d) i
    have hl := Civ.len_bd (Civ.yr d) (1 + i)
    rw [if_pos (by omega), Civ.w64 (by omega) (by omega), Civ.w64 (by omega) (by omega)]
    rw [← ih k (i + 1) (by omega) (by omega)]
    congr 1
    omega
theorem Civ.rdate_l0 (d : Int) (hd0 : 0 ≤ d) (hd : d ≤ 376199) (e : Nat) : ∀ (k : Nat) (i : Int), 1970 ≤ i → i + e = Civ.yr d → e + 40 < k →
    complineref16_Date.l0 k (d - Civ.dby i) i 1 = some (Civ.yr d, 1 + (Civ.mi d : Int), Civ.dy d, 0) := by
  have sp := Civ.mi_spec hd0 hd
  have bd := Civ.yr_bd hd0 hd
  have up := Civ.yi_up hd
  have lo := Civ.yi_lo hd0
  induction e with
  | zero =>
    intro k i h1 h2 hk
    obtain ⟨k, rfl⟩ : ∃ j, k = j + 1 := ⟨k - 1, by omega⟩
    obtain rfl : i = Civ.yr d := by omega
    simp only [complineref16_Date.l0]
    rw [Civ.rdays_f]
    simp only [Option.bind_some]
    rw [if_neg (by unfold Civ.yr at *; omega)]
    have := Civ.rdate_l1 _ d hd0 hd rfl (Civ.mi d) k 0 (by omega) (by omega)
    simpa [Civ.cum] using this
  | succ e ih =>
    intro k i h1 h2 hk
    obtain ⟨k, rfl⟩ : ∃ j, k = j + 1 := ⟨k - 1, by omega⟩
    simp only [complineref16_Date.l0]
    rw [Civ.rdays_f]
    simp only [Option.bind_some]
    have hm := Civ.dby_mono (show i + 1 ≤ Civ.yr d by omega)
    have b1 := Civ.dby_bd h1 (show i ≤ 3000 by omega)
    have b2 := Civ.dby_bd (show 1970 ≤ i + 1 by omega) (show i + 1 ≤ 3000 by omega)
    rw [if_pos (by unfold Civ.yr at *; omega), Civ.w64 (by omega) (by omega), Civ.w64 (by omega) (by omega)]
    rw [← ih k (i + 1) (by omega) (by omega) (by omega)]
    congr 1
    omega
theorem Civ.rdate_f (d : Int) (k : Nat) (hk : 1200 ≤ k) : complineref16_Date.f k d = some (Civ.date d) := by
  obtain ⟨k, rfl⟩ : ∃ j, k = j + 1 := ⟨k - 1, by omega⟩
  unfold complineref16_Date.f Civ.date
  by_cases h1 : d < 0
  · rw [if_pos h1, if_pos (.inl h1)]; simp [complineref16_Date.j0]
  rw [if_neg h1]
  by_cases h2 : 376199 < d
  · rw [if_pos (.inr h2)]; simp [complineref16_Date.j0, h2]
  rw [if_neg (by omega)]
  have hd : decide (d > 376199) = false := decide_eq_false (by omega)
  simp only [complineref16_Date.j0, hd]
  have b := Civ.yr_bd (d := d) (by omega) (by omega)
  have := Civ.rdate_l0 d (by omega) (by omega) (Civ.yr d - 1970).toNat k 1970 (by omega) (by omega) (by omega)
  rw [show Civ.dby 1970 = 0 by decide, Int.sub_zero] at this
  rw [if_neg (by simp), this]
theorem Civ.rweek_f (d : Int) : complineref16_Week.f d = some (Civ.week d) := by
  unfold complineref16_Week.f Civ.week
  by_cases h0 : d < 0
  · rw [if_pos h0, if_pos (.inl h0)]
  · by_cases h1 : 376199 < d
    · rw [if_neg h0, if_pos h1, if_pos (.inr h1)]
    · rw [if_neg h0, if_neg h1, if_neg (by omega), Int.tmod_eq_emod_of_nonneg (a := d) (by omega), Civ.w64 (by omega) (by omega), Int.tmod_eq_emod_of_nonneg (by omega)]
      congr 2; omega
theorem Civ.rof_f (t : Int) (k : Nat) (hk : 1300 ≤ k) : complineref16_Of.f k t = some (Civ.of t) := by
  obtain ⟨k, rfl⟩ : ∃ j, k = j + 1 := ⟨k - 1, by omega⟩
  unfold complineref16_Of.f Civ.of
  by_cases h1 : t < 0
  · rw [if_pos h1, if_pos (.inl h1)]; simp [complineref16_Of.j0]
  rw [if_neg h1]
  by_cases h2 : 541727999 < t
  · rw [if_pos (.inr h2)]; simp [complineref16_Of.j0, h2]
  rw [if_neg (by omega)]
  have hd : decide (t > 541727999) = false := decide_eq_false (by omega)
  simp only [complineref16_Of.j0, hd]
  rw [if_neg (by simp), Int.tdiv_eq_ediv_of_nonneg (a := t) (by omega), Civ.w64 (x := t / 1440) (by omega) (by omega), Int.tmod_eq_emod_of_nonneg (a := t) (by omega), Int.tmod_eq_emod_of_nonneg (a := t) (by omega), Int.tdiv_eq_ediv_of_nonneg (by omega), Civ.w64 (x := t % 1440 / 60) (by omega) (by omega)]
  rw [Civ.rdate_f _ _ (by omega), Civ.rweek_f, Civ.date_is (by omega) (by omega)]
  simp only [Option.bind_some]
  unfold Civ.week
  rw [if_neg (by omega), show t % 1440 / 60 = t / 60 % 24 by omega]
/-! The document's days. -/
theorem rhas_f (b : Int) (s : Bool) (v : Int) (hb : InU b) (k : Nat) (hk : 70 ≤ k) : complineref18_Has.f k b s v = some (Dy.has b v) := by
  rw [show k = (k - 70) + 70 by omega, Ref_has_all b s v hb]
  rfl
theorem ron_f (b0 : Int) (s0 : Bool) (b1 : Int) (s1 : Bool) (b2 : Int) (s2 : Bool) (b3 : Int) (s3 : Bool) (b4 : Int) (s4 : Bool) (h2 : InU b2) (h3 : InU b3) (h4 : InU b4) (mo d w : Int) (k : Nat) (hk : 70 ≤ k) :
    complineref21_On.f k b0 s0 b1 s1 b2 s2 b3 s3 b4 s4 mo d w = some (Dy.has b3 mo && Dy.by_ b2 s2 b4 s4 d w) := by
  unfold complineref21_On.f
  rw [rhas_f b3 s3 mo h3 k hk, rhas_f b2 s2 d h2 k hk, rhas_f b4 s4 w h4 k hk]
  simp only [Option.bind_some]
  unfold Dy.by_
  cases s2 <;> cases s4 <;> cases Dy.has b3 mo <;> cases Dy.has b2 d <;> cases Dy.has b4 w <;> rfl
theorem rodd_f (b0 : Int) (s0 : Bool) (b1 : Int) (s1 : Bool) (b2 : Int) (s2 : Bool) (b3 : Int) (s3 : Bool) (b4 : Int) (s4 : Bool) (h0 : InU b0) (h1 : InU b1) (h2 : InU b2) (h3 : InU b3) (h4 : InU b4) (k : Nat) (hk : 500 ≤ k) :
    ∃ n e, complineref19_Check.f k b0 s0 b1 s1 b2 s2 b3 s3 b4 s4 = some (n, e) ∧ day_odd.f b0 s0 b1 s1 b2 s2 b3 s3 b4 s4 = some (e != 0) := by
  obtain ⟨n, e, h, hr⟩ := SC_ref b0 s0 b1 s1 b2 s2 b3 s3 b4 s4 h0 h1 h2 h3 h4
  refine ⟨n, e, at_rounds (fun k => complineref19_Check.mono _ _ _ _ _ _ _ _ _ _ k) hk hr, ?_⟩
  unfold day_odd.f
  rw [h]
  rfl
theorem Fld.and_split (a b r s : Nat) (hr : r < 2) (hs : s < 2) : (2 * a + r) &&& (2 * b + s) = 2 * (a &&& b) + (r &&& s) := by
  apply Nat.eq_of_testBit_eq
  intro i
  rw [Nat.testBit_and]
  cases i with
  | zero =>
    simp only [Nat.testBit_zero]
    have hr' : r = 0 ∨ r = 1 := by omega
    have hs' : s = 0 ∨ s = 1 := by omega
    rcases hr' with rfl | rfl <;> rcases hs' with rfl | rfl <;> simp <;> omega
  | succ i =>
    simp only [Nat.testBit_succ]
    rw [show (2 * a + r) / 2 = a by omega, show (2 * b + s) / 2 = b by omega, ← Nat.testBit_and]
    congr 1
    have : r &&& s < 2 := by
      have hr' : r = 0 ∨ r = 1 := by omega
      have hs' : s = 0 ∨ s = 1 := by omega
      rcases hr' with rfl | rfl <;> rcases hs' with rfl | rfl <;> decide
    omega
/-! How many bits: what bits.OnesCount64 reckons. -/
def popN : Nat → Nat → Nat
  | 0, _ => 0
  | f + 1, n => n % 2 + popN f (n / 2)
def val8 : List Nat → Nat
  | [] => 0
  | b :: l => b + 256 * val8 l
def rep8 (c : Nat) : Nat → Nat
  | 0 => 0
  | k + 1 => c + 256 * rep8 c k
theorem and_pow : ∀ (k l h c m : Nat), l < 2 ^ k → c < 2 ^ k → (l + 2 ^ k * h) &&& (c + 2 ^ k * m) = (l &&& c) + 2 ^ k * (h &&& m)
  | 0, l, h, c, m, hl, hc => by
    have : l = 0 := by simpa using hl
    have : c = 0 := by simpa using hc
    subst l; subst c; simp
  | k + 1, l, h, c, m, hl, hc => by
    have e : 2 ^ (k + 1) = 2 * 2 ^ k := by rw [Nat.pow_succ]; omega
    have e1 : l + 2 ^ (k + 1) * h = 2 * (l / 2 + 2 ^ k * h) + l % 2 := by rw [e, Nat.mul_assoc]; omega
    have e2 : c + 2 ^ (k + 1) * m = 2 * (c / 2 + 2 ^ k * m) + c % 2 := by rw [e, Nat.mul_assoc]; omega
    have e3 : (l &&& c) = 2 * ((l / 2) &&& (c / 2)) + ((l % 2) &&& (c % 2)) := by
      rw [← Fld.and_split _ _ _ _ (by omega) (by omega)]
      congr 1 <;> omega
    rw [e1, e2, Fld.and_split _ _ _ _ (by omega) (by omega), and_pow k _ _ _ _ (by omega) (by omega), e3, e, Nat.mul_assoc]
    omega
theorem and_byte (l h c m : Nat) (hl : l < 256) (hc : c < 256) : (l + 256 * h) &&& (c + 256 * m) = (l &&& c) + 256 * (h &&& m) := and_pow 8 l h c m hl hc
def f1 (b : Nat) : Nat := (b / 2 &&& 85) + (b &&& 85)
def f2 (b : Nat) : Nat := (b / 4 &&& 51) + (b &&& 51)
def f3 (b : Nat) : Nat := (b / 16 + b) &&& 15
theorem d1 : ∀ b : Fin 256, ∀ r : Fin 2, ((b.val / 2 + 128 * r.val) &&& 85) = (b.val / 2 &&& 85) ∧ b.val / 2 + 128 * r.val < 256 ∧ f1 b.val < 256 := by decide +kernel
theorem d2 : ∀ b : Fin 256, ∀ r : Fin 4, ((b.val / 4 + 64 * r.val) &&& 51) = (b.val / 4 &&& 51) ∧ b.val / 4 + 64 * r.val < 256 ∧ f2 b.val < 256 := by decide +kernel
theorem d3 : ∀ b : Fin 103, ∀ r : Fin 16, ((b.val / 16 + 16 * r.val + b.val) &&& 15) = f3 b.val ∧ (b.val < 69 → b.val / 16 + 16 * r.val + b.val < 256 + 256 * 2) := by decide +kernel
theorem stage1 : ∀ (l : List Nat), (∀ b ∈ l, b < 256) → (val8 l / 2 &&& rep8 85 l.length) + (val8 l &&& rep8 85 l.length) = val8 (l.map f1)
  | [], _ => rfl
  | b :: l, h => by
    have hb := h b (List.mem_cons_self ..)
    have ih := stage1 l (fun x hx => h x (List.mem_cons_of_mem _ hx))
    obtain ⟨q1, q2, q3⟩ := d1 ⟨b, hb⟩ ⟨val8 l % 2, by omega⟩
    dsimp only at q1 q2 q3
    have e : val8 (b :: l) / 2 = (b / 2 + 128 * (val8 l % 2)) + 256 * (val8 l / 2) := by simp only [val8]; omega
    rw [e]
    simp only [val8, rep8, List.length_cons, List.map_cons]
    rw [and_byte _ _ _ _ q2 (by decide), and_byte _ _ _ _ hb (by decide), q1, ← ih]
    unfold f1
    omega
theorem stage2 : ∀ (l : List Nat), (∀ b ∈ l, b < 256) → (val8 l / 4 &&& rep8 51 l.length) + (val8 l &&& rep8 51 l.length) = val8 (l.map f2)
  | [], _ => rfl
  | b :: l, h => by
    have hb := h b (List.mem_cons_self ..)
    have ih := stage2 l (fun x hx => h x (List.mem_cons_of_mem _ hx))
    obtain ⟨q1, q2, q3⟩ := d2 ⟨b, hb⟩ ⟨val8 l % 4, by omega⟩
    dsimp only at q1 q2 q3
    have e : val8 (b :: l) / 4 = (b / 4 + 64 * (val8 l % 4)) + 256 * (val8 l / 4) := by simp only [val8]; omega
    rw [e]
    simp only [val8, rep8, List.length_cons, List.map_cons]
    rw [and_byte _ _ _ _ q2 (by decide), and_byte _ _ _ _ hb (by decide), q1, ← ih]
    unfold f2
    omega
theorem d3' : ∀ b : Fin 69, ∀ r : Fin 16, b.val / 16 + 16 * r.val + b.val < 256 ∨ 12 ≤ r.val := by decide +kernel
theorem d4 : ∀ b : Fin 69, b.val / 16 ≤ 4 := by decide +kernel
theorem stage3 : ∀ (l : List Nat), (∀ b ∈ l, b < 69 ∧ b % 16 ≤ 4) → ((val8 l / 16 + val8 l) &&& rep8 15 l.length) = val8 (l.map f3) ∧ val8 l % 16 ≤ 4
  | [], _ => ⟨rfl, by decide⟩
  | b :: l, h => by
    obtain ⟨hb, hb4⟩ := h b (List.mem_cons_self ..)
    obtain ⟨ih, i4⟩ := stage3 l (fun x hx => h x (List.mem_cons_of_mem _ hx))
    obtain ⟨q1, -⟩ := d3 ⟨b, by omega⟩ ⟨val8 l % 16, by omega⟩
    dsimp only at q1
    have e : val8 (b :: l) / 16 + val8 (b :: l) = (b / 16 + 16 * (val8 l % 16) + b) + 256 * (val8 l / 16 + val8 l) := by simp only [val8]; omega
    rw [e]
    simp only [val8, rep8, List.length_cons, List.map_cons]
    rw [and_byte _ _ _ _ (by omega) (by decide), q1, ih]
    exact ⟨rfl, by omega⟩
theorem d5 : ∀ b : Fin 256, f3 (f2 (f1 b.val)) = popN 8 b.val ∧ f1 b.val < 256 ∧ f2 (f1 b.val) < 69 ∧ f2 (f1 b.val) % 16 ≤ 4 ∧ popN 8 b.val ≤ 8 := by decide +kernel
theorem popN_add : ∀ (k f n : Nat), popN (k + f) n = popN k (n % 2 ^ k) + popN f (n / 2 ^ k)
  | 0, f, n => by simp [popN, Nat.mod_one]
  | k + 1, f, n => by
    rw [show k + 1 + f = (k + f) + 1 by omega]
    simp only [popN]
    rw [popN_add k f (n / 2)]
    have e : 2 ^ (k + 1) = 2 * 2 ^ k := by rw [Nat.pow_succ]; omega
    rw [e, Nat.mod_mul, Nat.div_div_eq_div_mul]
    have e1 : (n % 2 + 2 * (n / 2 % 2 ^ k)) % 2 = n % 2 := by omega
    have e2 : (n % 2 + 2 * (n / 2 % 2 ^ k)) / 2 = n / 2 % 2 ^ k := by omega
    rw [e1, e2, Nat.add_assoc]
def bytes8 : Nat → Nat → List Nat
  | 0, _ => []
  | k + 1, n => n % 256 :: bytes8 k (n / 256)
theorem bytes8_lt : ∀ (k n : Nat), ∀ b ∈ bytes8 k n, b < 256
  | 0, _, b, h => by cases h
  | k + 1, n, b, h => by
    rcases List.mem_cons.1 h with rfl | h
    · exact Nat.mod_lt _ (by decide)
    · exact bytes8_lt k _ b h
theorem bytes8_len : ∀ (k n : Nat), (bytes8 k n).length = k
  | 0, _ => rfl
  | k + 1, n => by simp only [bytes8, List.length_cons, bytes8_len k]
theorem bytes8_val : ∀ (k n : Nat), n < 256 ^ k → val8 (bytes8 k n) = n
  | 0, n, h => by have : n = 0 := by simpa using h
                  subst this; rfl
  | k + 1, n, h => by
    simp only [bytes8, val8]
    rw [bytes8_val k (n / 256) (by rw [Nat.pow_succ] at h; exact Nat.div_lt_of_lt_mul (by rw [Nat.mul_comm]; exact h))]
    omega
theorem pop_bytes : ∀ (k n : Nat), popN (8 * k) n = ((bytes8 k n).map (popN 8)).sum
  | 0, n => rfl
  | k + 1, n => by
    rw [show 8 * (k + 1) = 8 + 8 * k by omega, popN_add]
    simp only [bytes8, List.map_cons, List.sum_cons]
    rw [pop_bytes k]
theorem u64_add (a b : Nat) (h : a + b < 18446744073709551616) : IntKind.u64.wrap ((a : Int) + (b : Int)) = ((a + b : Nat) : Int) := by rw [u64w]; omega
theorem and_u64 (a m : Nat) (ha : a < 18446744073709551616) (hm : m < 18446744073709551616) : Go.bits .and .u64 (a : Int) (m : Int) = ((a &&& m : Nat) : Int) := (bits_u64 a m ha hm).1
theorem val8_lt : ∀ (l : List Nat), (∀ b ∈ l, b < 256) → val8 l < 256 ^ l.length
  | [], _ => by simp [val8]
  | b :: l, h => by
    have := val8_lt l (fun x hx => h x (List.mem_cons_of_mem _ hx))
    have hb := h b (List.mem_cons_self ..)
    simp only [val8, List.length_cons]
    rw [Nat.pow_succ]
    generalize 256 ^ l.length = q at this ⊢
    omega
theorem small8 (y0 y1 y2 y3 y4 y5 y6 y7 V : Nat) (h0 : y0 < 69) (h1 : y1 < 69) (h2 : y2 < 69) (h3 : y3 < 69) (h4 : y4 < 69) (h5 : y5 < 69) (h6 : y6 < 69) (h7 : y7 < 69)
    (hV : y0 + 256 * (y1 + 256 * (y2 + 256 * (y3 + 256 * (y4 + 256 * (y5 + 256 * (y6 + 256 * (y7 + 256 * 0))))))) = V) : V / 16 + V < 18446744073709551616 := by omega
theorem small_list : ∀ (M : List Nat), M.length = 8 → (∀ b ∈ M, b < 69) → val8 M / 16 + val8 M < 18446744073709551616
  | [y0, y1, y2, y3, y4, y5, y6, y7], _, h => small8 y0 y1 y2 y3 y4 y5 y6 y7 _ (h y0 (by simp)) (h y1 (by simp)) (h y2 (by simp)) (h y3 (by simp)) (h y4 (by simp)) (h y5 (by simp)) (h y6 (by simp)) (h y7 (by simp)) rfl
theorem st1 (e0 e1 e2 R0 R1 R2 V3 : Nat) (h0 : e0 ≤ 8) (h1 : e1 ≤ 8) (h2 : e2 ≤ 8) (q1 : e2 + 256 * R2 = R1) (q0 : e1 + 256 * R1 = R0) (qV : e0 + 256 * R0 = V3) :
    V3 / 256 = R0 ∧ V3 + R0 = ((e0 + e1) + 256 * (e1 + e2)) + 65536 * (R1 + R2) := by omega
theorem st2 (A B C T S12 S34 W : Nat) (hA : A ≤ 4112) (hB : B ≤ 4112) (hC : C ≤ 4112) (q1 : S12 = B + 65536 * S34) (q2 : S34 = C + 65536 * T) (qW : W = A + 65536 * S12) :
    W / 65536 = S12 ∧ (W + S12) / 4294967296 = S34 + T ∧ W + S12 + (S34 + T) = A + B + C + T + 65536 * (B + C + T) + 4294967296 * (S34 + T) := by omega
theorem and127 (W : Nat) (h : W ≤ 800000000000000000) : Go.bits .and .i64 (W : Int) 127 = (W : Int) % 128 := by
  have h1 : ((W : Int)) < 2 ^ 63 := by rw [show (2 : Int) ^ 63 = 9223372036854775808 by decide]; omega
  have := bits_mask .i64 63 (by decide) (fun z h0 h1 => IntWalk.i64_in z ⟨by omega, by rw [show (2 : Int) ^ 63 = 9223372036854775808 by decide] at h1; omega⟩) 7 (by decide) (W : Int) (by omega) h1
  rw [show (2 : Int) ^ 7 - 1 = 127 by decide, show (2 : Int) ^ 7 = 128 by decide] at this
  exact this
theorem tail8 (e0 e1 e2 e3 e4 e5 e6 e7 V3 : Nat) (h0 : e0 ≤ 8) (h1 : e1 ≤ 8) (h2 : e2 ≤ 8) (h3 : e3 ≤ 8) (h4 : e4 ≤ 8) (h5 : e5 ≤ 8) (h6 : e6 ≤ 8) (h7 : e7 ≤ 8)
    (hV : e0 + 256 * (e1 + 256 * (e2 + 256 * (e3 + 256 * (e4 + 256 * (e5 + 256 * (e6 + 256 * (e7 + 256 * 0))))))) = V3) :
    some (Go.bits .and .i64 (wrap64 (IntKind.u64.wrap ((IntKind.u64.wrap ((IntKind.u64.wrap ((V3 : Int) + (V3 : Int) / 256)) + (IntKind.u64.wrap ((V3 : Int) + (V3 : Int) / 256)) / 65536)) + (IntKind.u64.wrap ((IntKind.u64.wrap ((V3 : Int) + (V3 : Int) / 256)) + (IntKind.u64.wrap ((V3 : Int) + (V3 : Int) / 256)) / 65536)) / 4294967296))) 127)
      = some ((e0 + (e1 + (e2 + (e3 + (e4 + (e5 + (e6 + (e7 + 0))))))) : Nat) : Int) := by
    obtain ⟨R5, q5⟩ : ∃ R, e6 + 256 * e7 = R := ⟨_, rfl⟩
    obtain ⟨R4, q4⟩ : ∃ R, e5 + 256 * R5 = R := ⟨_, rfl⟩
    obtain ⟨R3, q3⟩ : ∃ R, e4 + 256 * R4 = R := ⟨_, rfl⟩
    obtain ⟨R2, q2⟩ : ∃ R, e3 + 256 * R3 = R := ⟨_, rfl⟩
    obtain ⟨R1, q1⟩ : ∃ R, e2 + 256 * R2 = R := ⟨_, rfl⟩
    obtain ⟨R0, q0⟩ : ∃ R, e1 + 256 * R1 = R := ⟨_, rfl⟩
    have qV : e0 + 256 * R0 = V3 := by rw [← hV, ← q0, ← q1, ← q2, ← q3, ← q4, ← q5, Nat.mul_zero, Nat.add_zero]
    clear hV
    have b5 : R5 ≤ 2056 := by clear q4 q3 q2 q1 q0 qV; omega
    have b4 : R4 ≤ 526344 := by clear q5 q3 q2 q1 q0 qV; omega
    have b3 : R3 ≤ 134744072 := by clear q5 q4 q2 q1 q0 qV; omega
    have b2 : R2 ≤ 34494482440 := by clear q5 q4 q3 q1 q0 qV; omega
    have b1 : R1 ≤ 8830587504648 := by clear q5 q4 q3 q2 q0 qV; omega
    have b0 : R0 ≤ 2260630401189896 := by clear q5 q4 q3 q2 q1 qV; omega
    have bV : V3 ≤ 578721382704613384 := by clear q5 q4 q3 q2 q1 q0; omega
    obtain ⟨d1, c1⟩ := st1 e0 e1 e2 R0 R1 R2 V3 h0 h1 h2 q1 q0 qV
    have s12 : R1 + R2 = ((e2 + e3) + 256 * (e3 + e4)) + 65536 * (R3 + R4) := by clear q5 q0 qV c1 d1 b0 b1 b2 b3 b4 b5 bV h0 h1 h2 h3 h4 h5 h6 h7; omega
    have s34 : R3 + R4 = ((e4 + e5) + 256 * (e5 + e6)) + 65536 * (R5 + e7) := by clear q2 q1 q0 qV c1 d1 b0 b1 b2 b3 b4 b5 bV h0 h1 h2 h3 h4 h5 h6 h7 s12; omega
    obtain ⟨W1, hW1⟩ : ∃ W, V3 + R0 = W := ⟨_, rfl⟩
    rw [hW1] at c1
    obtain ⟨d2, d3, c3⟩ := st2 ((e0 + e1) + 256 * (e1 + e2)) ((e2 + e3) + 256 * (e3 + e4)) ((e4 + e5) + 256 * (e5 + e6)) (R5 + e7) (R1 + R2) (R3 + R4) W1 (by clear q0 q1 q2 q3 q4 q5 qV c1; omega) (by clear q0 q1 q2 q3 q4 q5 qV c1; omega) (by clear q0 q1 q2 q3 q4 q5 qV c1; omega) s12 s34 c1
    have w1 : IntKind.u64.wrap ((V3 : Int) + (V3 : Int) / 256) = (W1 : Int) := by clear q0 q1 q2 q3 q4 q5 qV c1 s12 s34 d2 d3 c3; rw [u64w]; omega
    rw [w1]
    have bW : W1 ≤ 600000000000000000 := by clear q0 q1 q2 q3 q4 q5 qV c1 s12 s34 d2 d3 c3; omega
    have w2 : IntKind.u64.wrap ((W1 : Int) + (W1 : Int) / 65536) = ((W1 + (R1 + R2) : Nat) : Int) := by clear q0 q1 q2 q3 q4 q5 qV c1 s12 s34 d3 c3; rw [u64w]; omega
    rw [w2]
    obtain ⟨W2, hW2⟩ : ∃ W, W1 + (R1 + R2) = W := ⟨_, rfl⟩
    rw [hW2] at d3 c3 ⊢
    have bX : W2 ≤ 700000000000000000 := by clear q0 q1 q2 q3 q4 q5 qV c1 s12 s34 d2 d3 c3; omega
    have w3 : IntKind.u64.wrap ((W2 : Int) + (W2 : Int) / 4294967296) = ((W2 + (R3 + R4 + (R5 + e7)) : Nat) : Int) := by clear q0 q1 q2 q3 q4 q5 qV c1 s12 s34 d2 c3; rw [u64w]; omega
    rw [w3]
    obtain ⟨W3, hW3⟩ : ∃ W, W2 + (R3 + R4 + (R5 + e7)) = W := ⟨_, rfl⟩
    rw [hW3] at c3 ⊢
    have bY : W3 ≤ 800000000000000000 := by clear q0 q1 q2 q3 q4 q5 qV c1 s12 s34 d2 d3 c3; omega
    have hm : W3 % 128 = e0 + (e1 + (e2 + (e3 + (e4 + (e5 + (e6 + (e7 + 0))))))) := by
      clear q0 q1 q2 q3 q4 qV c1 s12 s34 d2 d3 w1 w2 w3 hW1 hW2 hW3 bW bX bY b0 b1 b2 b3 b4 b5 bV
      rw [c3, ← q5]
      omega
    have w4 : wrap64 (W3 : Int) = (W3 : Int) := by clear q0 q1 q2 q3 q4 q5 qV c1 s12 s34 d2 d3 c3 hm; unfold wrap64; omega
    rw [w4]
    have w5 : Go.bits .and .i64 (W3 : Int) 127 = (W3 : Int) % 128 := and127 W3 bY
    rw [w5, ← hm]
    rfl
theorem tail_list : ∀ (M : List Nat) (V3 : Nat), M.length = 8 → (∀ b ∈ M, b ≤ 8) → val8 M = V3 →
    some (Go.bits .and .i64 (wrap64 (IntKind.u64.wrap ((IntKind.u64.wrap ((IntKind.u64.wrap ((V3 : Int) + (V3 : Int) / 256)) + (IntKind.u64.wrap ((V3 : Int) + (V3 : Int) / 256)) / 65536)) + (IntKind.u64.wrap ((IntKind.u64.wrap ((V3 : Int) + (V3 : Int) / 256)) + (IntKind.u64.wrap ((V3 : Int) + (V3 : Int) / 256)) / 65536)) / 4294967296))) 127)
      = some ((M.sum : Nat) : Int)
  | [y0, y1, y2, y3, y4, y5, y6, y7], V3, _, h, hV => tail8 y0 y1 y2 y3 y4 y5 y6 y7 V3 (h y0 (by simp)) (h y1 (by simp)) (h y2 (by simp)) (h y3 (by simp)) (h y4 (by simp)) (h y5 (by simp)) (h y6 (by simp)) (h y7 (by simp)) hV
set_option maxHeartbeats 2000000 in
theorem ones_f (n : Nat) (hn : n < 18446744073709551616) : bits_OnesCount64.f (n : Int) = some (popN 64 n : Int) := by
  obtain ⟨L, hL⟩ : ∃ L, bytes8 8 n = L := ⟨_, rfl⟩
  have hb : ∀ b ∈ L, b < 256 := by rw [← hL]; exact bytes8_lt 8 n
  have hl : L.length = 8 := by rw [← hL]; exact bytes8_len 8 n
  have hv : val8 L = n := by rw [← hL]; exact bytes8_val 8 n (by rw [show (256 : Nat) ^ 8 = 18446744073709551616 by decide]; exact hn)
  have hp : popN 64 n = (L.map (popN 8)).sum := by rw [← hL]; exact pop_bytes 8 n
  have s1 := stage1 L hb
  have b1 : ∀ b ∈ L.map f1, b < 256 := by
    intro b hm
    obtain ⟨x, hx, rfl⟩ := List.mem_map.1 hm
    exact (d5 ⟨x, hb x hx⟩).2.1
  have s2 := stage2 (L.map f1) b1
  have b2 : ∀ b ∈ (L.map f1).map f2, b < 69 ∧ b % 16 ≤ 4 := by
    intro b hm
    obtain ⟨y, hy, rfl⟩ := List.mem_map.1 hm
    obtain ⟨x, hx, rfl⟩ := List.mem_map.1 hy
    exact ⟨(d5 ⟨x, hb x hx⟩).2.2.1, (d5 ⟨x, hb x hx⟩).2.2.2.1⟩
  obtain ⟨s3, -⟩ := stage3 ((L.map f1).map f2) b2
  have v1 := val8_lt (L.map f1) b1
  have v2 := val8_lt ((L.map f1).map f2) (fun b hm => by have := (b2 b hm).1; omega)
  simp only [List.length_map, hl] at s1 s2 s3 v1 v2
  rw [show (256 : Nat) ^ 8 = 18446744073709551616 by decide] at v1 v2
  rw [hv, show rep8 85 8 = 6148914691236517205 by decide] at s1
  rw [show rep8 51 8 = 3689348814741910323 by decide] at s2
  rw [show rep8 15 8 = 1085102592571150095 by decide] at s3
  obtain ⟨V1, hV1⟩ : ∃ V, val8 (L.map f1) = V := ⟨_, rfl⟩
  obtain ⟨V2, hV2⟩ : ∃ V, val8 ((L.map f1).map f2) = V := ⟨_, rfl⟩
  obtain ⟨V3, hV3⟩ : ∃ V, val8 (((L.map f1).map f2).map f3) = V := ⟨_, rfl⟩
  rw [hV1] at s1 s2 v1
  rw [hV2] at s2 s3 v2
  rw [hV3] at s3
  have hm3 : (((L.map f1).map f2).map f3) = L.map (popN 8) := by
    rw [List.map_map, List.map_map]
    exact List.map_congr_left (fun x hx => (d5 ⟨x, hb x hx⟩).1)
  rw [hm3] at hV3
  have small : V2 / 16 + V2 < 18446744073709551616 := by rw [← hV2]; exact small_list ((L.map f1).map f2) (by rw [List.length_map, List.length_map]; exact hl) (fun b hm => (b2 b hm).1)
  have t1 : IntKind.u64.wrap ((Go.bits .and .u64 ((n : Int) / 2) 6148914691236517205) + (Go.bits .and .u64 (n : Int) 6148914691236517205)) = (V1 : Int) := by
    have e1 := and_u64 (n / 2) 6148914691236517205 (by omega) (by decide)
    have e2 := and_u64 n 6148914691236517205 hn (by decide)
    rw [show (n : Int) / 2 = ((n / 2 : Nat) : Int) by omega]
    rw [show (6148914691236517205 : Int) = ((6148914691236517205 : Nat) : Int) from rfl, e1, e2, u64_add _ _ (by omega), s1]
  have t2 : IntKind.u64.wrap ((Go.bits .and .u64 ((V1 : Int) / 4) 3689348814741910323) + (Go.bits .and .u64 (V1 : Int) 3689348814741910323)) = (V2 : Int) := by
    have e1 := and_u64 (V1 / 4) 3689348814741910323 (by omega) (by decide)
    have e2 := and_u64 V1 3689348814741910323 v1 (by decide)
    rw [show (V1 : Int) / 4 = ((V1 / 4 : Nat) : Int) by omega]
    rw [show (3689348814741910323 : Int) = ((3689348814741910323 : Nat) : Int) from rfl, e1, e2, u64_add _ _ (by omega), s2]
  have t3 : Go.bits .and .u64 (IntKind.u64.wrap (((V2 : Int) / 16) + (V2 : Int))) 1085102592571150095 = (V3 : Int) := by
    rw [show (V2 : Int) / 16 = ((V2 / 16 : Nat) : Int) by omega, u64_add _ _ small, show (1085102592571150095 : Int) = ((1085102592571150095 : Nat) : Int) from rfl, and_u64 _ _ small (by decide), s3]
  unfold bits_OnesCount64.f
  rw [t1, t2, t3]
  rw [hp]
  clear s1 s2 s3 v1 v2 t1 t2 t3 b1 b2 small hV1 hV2 hm3 hp hv hL
  exact tail_list (L.map (popN 8)) V3 (by rw [List.length_map]; exact hl) (fun b hm => by obtain ⟨x, hx, rfl⟩ := List.mem_map.1 hm; exact (d5 ⟨x, hb x hx⟩).2.2.2.2) hV3
theorem count_f (b : Int) (s : Bool) (hb : InU b) : field_Count.f b s = some (popN 64 b.toNat : Int) := by
  obtain ⟨n, rfl, hn⟩ := nat_of b hb
  unfold field_Count.f
  rw [ones_f n (by rw [show (2 : Nat) ^ 64 = 18446744073709551616 by decide] at hn; exact hn)]
  rfl
theorem pop_cnt (n : Nat) : ∀ (d v : Nat), popN d (n / 2 ^ v) = cntF (fun i => n.testBit i) v d
  | 0, v => rfl
  | d + 1, v => by
    unfold popN cntF
    have ht : n.testBit v = decide (n / 2 ^ v % 2 = 1) := Nat.testBit_eq_decide_div_mod_eq
    have hq : n / 2 ^ (v + 1) = n / 2 ^ v / 2 := by rw [Nat.pow_succ, Nat.div_div_eq_div_mul]
    rw [← pop_cnt n d (v + 1), hq, ht]
    generalize n / 2 ^ v = q
    by_cases h : q % 2 = 1
    · rw [decide_eq_true h, if_pos rfl, h]
    · rw [decide_eq_false h, if_neg (by decide)]
      omega
theorem Ref_count_l (b : Int) (s : Bool) (hb : InU b) (K : Nat) : ∀ (d v n : Nat), v + d = 64 → n ≤ v → complineref18_Count.l0 (d + (K + 71)) (n : Int) (v : Int) b s = some ((n + cntF (bitAt b) v d : Nat) : Int)
  | 0, v, n, hv, hn => by
    rw [show 0 + (K + 71) = (K + 70) + 1 by omega, complineref18_Count.l0, if_neg (by omega)]
    rfl
  | d + 1, v, n, hv, hn => by
    have hw : wrap64 ((v : Int) + 1) = ((v + 1 : Nat) : Int) := by unfold wrap64; omega
    have hwn : wrap64 ((n : Int) + 1) = ((n + 1 : Nat) : Int) := by unfold wrap64; omega
    rw [show d + 1 + (K + 71) = (d + (K + 71)) + 1 by omega, complineref18_Count.l0, if_pos (by omega), show d + (K + 71) = (d + K + 1) + 70 by omega, Ref_has b s v hb (by omega)]
    simp only [Option.bind_some]
    unfold cntF
    by_cases h : bitAt b v = true
    · rw [if_pos h, hwn, hw, show d + K + 1 + 70 = d + (K + 71) by omega, Ref_count_l b s hb K d (v + 1) (n + 1) (by omega) (by omega), if_pos h]
      congr 2
      omega
    · rw [if_neg h, hw, show d + K + 1 + 70 = d + (K + 71) by omega, Ref_count_l b s hb K d (v + 1) n (by omega) (by omega), if_neg h]
      congr 2
      omega
theorem Ref_count (b : Int) (s : Bool) (hb : InU b) (K : Nat) : complineref18_Count.f (K + 135) b s = field_Count.f b s := by
  rw [count_f b s hb]
  unfold complineref18_Count.f
  have e := Ref_count_l b s hb K 64 0 0 (by omega) (by omega)
  rw [show 64 + (K + 71) = K + 135 by omega] at e
  refine (show complineref18_Count.l0 (K + 135) 0 0 b s = _ from e).trans ?_
  have q := pop_cnt b.toNat 64 0
  rw [Nat.pow_zero, Nat.div_one] at q
  rw [q, Nat.zero_add]
  rfl
theorem rmatch_f (b0 : Int) (s0 : Bool) (b1 : Int) (s1 : Bool) (b2 : Int) (s2 : Bool) (b3 : Int) (s3 : Bool) (b4 : Int) (s4 : Bool) (h0 : InU b0) (h1 : InU b1) (h2 : InU b2) (h3 : InU b3) (h4 : InU b4) (t : Int) (k : Nat) (hk : 1300 ≤ k) {ob : Bool} (A : day_odd.f b0 s0 b1 s1 b2 s2 b3 s3 b4 s4 = some ob) :
    complineref21_Match.f k b0 s0 b1 s1 b2 s2 b3 s3 b4 s4 t = some (Dy.match_ ob b0 b1 b2 s2 b3 b4 s4 t) := by
  obtain ⟨n, e, hr, ho⟩ := rodd_f b0 s0 b1 s1 b2 s2 b3 s3 b4 s4 h0 h1 h2 h3 h4 k (by omega)
  rw [ho] at A
  obtain rfl := Option.some.inj A
  unfold complineref21_Match.f Dy.match_
  rw [hr]
  simp only [Option.bind_some]
  by_cases he : e = 0
  · rw [if_pos he, if_neg (by simp [he]), Civ.rof_f t k (by omega)]
    simp only [Option.bind_some]
    by_cases hr : t < 0 ∨ 541727999 < t
    · rw [show Civ.of t = (0, 0, 0, 0, 0, 0, 1) by unfold Civ.of; rw [if_pos hr], if_pos hr]
      rfl
    · rw [show Civ.of t = (Civ.yr (t / 1440), 1 + (Civ.mi (t / 1440) : Int), Civ.dy (t / 1440), t / 60 % 24, t % 60, (t / 1440 + 4) % 7, 0) by unfold Civ.of; rw [if_neg hr], if_neg hr]
      dsimp only
      rw [if_pos rfl, ron_f b0 s0 b1 s1 b2 s2 b3 s3 b4 s4 h2 h3 h4 _ _ _ k (by omega), rhas_f b1 s1 _ h1 k (by omega), rhas_f b0 s0 _ h0 k (by omega)]
      simp only [Option.bind_some]
      unfold Dy.at_
      cases (Dy.has b3 (1 + (Civ.mi (t / 1440) : Int)) && Dy.by_ b2 s2 b4 s4 (Civ.dy (t / 1440)) ((t / 1440 + 4) % 7)) <;> cases Dy.has b1 (t / 60 % 24) <;> simp
  · rw [if_neg he, if_pos (by simpa using he)]
theorem DayMatches_p (b0 : Int) (s0 : Bool) (b1 : Int) (s1 : Bool) (b2 : Int) (s2 : Bool) (b3 : Int) (s3 : Bool) (b4 : Int) (s4 : Bool) (t : Int) (h0 : (Lit.int .u64 b0).wf = true) (h1 : (Lit.int .u64 b1).wf = true) (h2 : (Lit.int .u64 b2).wf = true) (h3 : (Lit.int .u64 b3).wf = true) (h4 : (Lit.int .u64 b4).wf = true)
    (_ : (Lit.int .i64 t).wf = true) : ∃ k, complinelaw21_DayMatches.f k b0 s0 b1 s1 b2 s2 b3 s3 b4 s4 t = some true := by
  refine ⟨1300, ?_⟩
  obtain ⟨ob, A, -⟩ := odd_is b0 s0 b1 s1 b2 s2 b3 s3 b4 s4
  unfold complinelaw21_DayMatches.f
  rw [show complinelaw21_works.f = some true from rfl, match_is (wf_in _ h0) (wf_in _ h1) (wf_in _ h2) (wf_in _ h3) (wf_in _ h4) A t, rmatch_f b0 s0 b1 s1 b2 s2 b3 s3 b4 s4 (wf_in _ h0) (wf_in _ h1) (wf_in _ h2) (wf_in _ h3) (wf_in _ h4) t 1300 (Nat.le_refl _) A]
  simp only [Option.bind_some, if_true]
  rw [show (1300 : Nat) = 1165 + 135 from rfl, Ref_count b1 s1 (wf_in _ h1) 1165, Ref_count b0 s0 (wf_in _ h0) 1165]
  have c1 := count_f b1 s1 (wf_in _ h1)
  have c0 := count_f b0 s0 (wf_in _ h0)
  have hM : day_Minutes.f b0 s0 b1 s1 b2 s2 b3 s3 b4 s4 = some (if ob = true then (0, 2) else (wrap64 ((popN 64 b1.toNat : Int) * (popN 64 b0.toNat : Int)), 0)) := by
    unfold day_Minutes.f
    rw [A, c1, c0]
    cases ob <;> rfl
  rw [c1, c0]
  generalize popN 64 b1.toNat = P at hM ⊢
  generalize popN 64 b0.toNat = Q at hM ⊢
  cases ob with
  | true =>
    rw [if_pos rfl] at hM
    rw [hM]
    rfl
  | false =>
    rw [if_neg (by decide)] at hM
    rw [hM]
    simp only [Option.bind_some]
    rw [if_pos trivial]
    have hm : (Dy.match_ false b0 b1 b2 s2 b3 b4 s4 t).2 = 0 ∨ (Dy.match_ false b0 b1 b2 s2 b3 b4 s4 t).2 = 1 := by
      unfold Dy.match_
      rw [if_neg (by simp)]
      split
      · exact .inr rfl
      · exact .inl rfl
    generalize Dy.match_ false b0 b1 b2 s2 b3 b4 s4 t = M at hm ⊢
    rcases hm with h | h <;> simp [h]
end Go.Proofs.YtcjfjicagopppaaGreatDoor.PDay
namespace Go.Proofs.YtcjfjicagopppaaGreatDoor.Pure
open Go.RowKit Go.Proofs.YtcjfjicagopppaaGreatDoorW.PrintWords Go.Proofs.YtcjfjicagopppaaGreatDoorW.PrintLast Go.Proofs.YtcjfjicagopppaaGreatDoorW.PrintMore Go.Proofs.YtcjfjicagopppaaGreatDoor.PDay
theorem DayMatches : ∀ (a0_0 : Int) (a0_1 : Bool) (a0_2 : Int) (a0_3 : Bool) (a0_4 : Int) (a0_5 : Bool) (a0_6 : Int) (a0_7 : Bool) (a0_8 : Int) (a0_9 : Bool) (a1 : Int), (Lit.int .u64 a0_0).wf = true → (Lit.int .u64 a0_2).wf = true → (Lit.int .u64 a0_4).wf = true → (Lit.int .u64 a0_6).wf = true → (Lit.int .u64 a0_8).wf = true → (Lit.int .i64 a1).wf = true → ∃ k, complinelaw21_DayMatches.f k a0_0 a0_1 a0_2 a0_3 a0_4 a0_5 a0_6 a0_7 a0_8 a0_9 a1 = some true := fun a0_0 a0_1 a0_2 a0_3 a0_4 a0_5 a0_6 a0_7 a0_8 a0_9 a1 h0_ h1_ h2_ h3_ h4_ h5_ => DayMatches_p a0_0 a0_1 a0_2 a0_3 a0_4 a0_5 a0_6 a0_7 a0_8 a0_9 a1 h0_ h1_ h2_ h3_ h4_ h5_
end Go.Proofs.YtcjfjicagopppaaGreatDoor.Pure
