/- What the calendar answers: closed forms of civil's functions and of the reference's, and the laws over numbers. -/
import Derived.Test.YtjhfdabehdjplaaPCivx
namespace Go.Proofs.Ytjhfdabehdjplaa.PCiv
open Go.RowKit Go.Proofs.YtjhfdabehdjplaaW.PrintWords Go.Proofs.YtjhfdabehdjplaaW.PrintLast Go.Proofs.YtjhfdabehdjplaaW.PrintMore
set_option linter.unusedVariables false
set_option linter.unusedSimpArgs false
/-! The calendar: what civil's printed functions answer, in closed form. -/
theorem Civ.leap_of (y : Int) : Civ.leap y = true ↔ (y % 4 = 0 ∧ (y % 100 ≠ 0 ∨ y % 400 = 0)) := by
  simp [Civ.leap]
theorem Civ.cum12 (y : Int) : Civ.cum y 12 = Civ.dby (y + 1) - Civ.dby y := by
  simp only [Civ.cum, Civ.len]
  simp
  have := Civ.leap_of y
  unfold Civ.dby
  split
  · rename_i h
    have := this.1 h
    omega
  · rename_i h
    have h2 : ¬ (y % 4 = 0 ∧ (y % 100 ≠ 0 ∨ y % 400 = 0)) := fun x => h (this.2 x)
    omega
def Civ.week (d : Int) : Int × Int := if d < 0 ∨ 376199 < d then (0, 1) else ((d + 4) % 7, 0)
theorem Civ.week_f (d : Int) : civil_Week.f d = some (Civ.week d) := by
  unfold civil_Week.f Civ.week
  by_cases h0 : d < 0
  · rw [if_pos h0, if_pos (.inl h0)]
  · by_cases h1 : 376199 < d
    · rw [if_neg h0, if_pos h1, if_pos (.inr h1)]
    · rw [if_neg h0, if_neg h1, if_neg (by omega), Civ.w64 (by omega) (by omega), Int.tmod_eq_emod_of_nonneg (by omega)]
theorem Civ.gone_k (y : Int) (m : Nat) (hm : m ≤ 20) (k : Nat) (hk : 30 ≤ k) : civil_gone.f k y m = some (Civ.cum y (m - 1)) := by
  unfold civil_gone.f
  rcases Nat.eq_zero_or_pos m with h | h
  · subst h
    obtain ⟨k, rfl⟩ : ∃ j, k = j + 1 := ⟨k - 1, by omega⟩
    simp [civil_gone.l0, Civ.cum]
  · have := Civ.gone_l y m hm (m - 1) k 1 (by omega) (by omega) (by omega)
    simpa [Civ.cum] using this
theorem Civ.len_pos {y m : Int} (h : 1 ≤ Civ.len y m) : 1 ≤ m ∧ m ≤ 12 := by
  unfold Civ.len at h
  split at h
  · omega
  · split at h
    · omega
    · omega
theorem Civ.len_ge {y m : Int} (h : 1 ≤ m) (h2 : m ≤ 12) : 28 ≤ Civ.len y m := by
  unfold Civ.len
  repeat' split
  all_goals omega
theorem Civ.dby_bd {y : Int} (h0 : 1970 ≤ y) (h1 : y ≤ 3000) : 0 ≤ Civ.dby y ∧ Civ.dby y ≤ 376200 := by unfold Civ.dby; omega
def Civ.num (y m d : Int) : Int := Civ.dby y + Civ.cum y (m - 1).toNat + d - 1
def Civ.day (y m d : Int) : Int × Int := if y < 1970 ∨ 2999 < y ∨ d < 1 ∨ Civ.len y m < d then (0, 1) else (Civ.num y m d, 0)
theorem Civ.day_f (y m d : Int) (k : Nat) (hk : 100 ≤ k) : civil_Day.f k y m d = some (Civ.day y m d) := by
  obtain ⟨k, rfl⟩ : ∃ j, k = j + 1 := ⟨k - 1, by omega⟩
  unfold civil_Day.f Civ.day
  by_cases h1 : y < 1970
  · rw [if_pos h1, if_pos (.inl h1)]; simp [civil_Day.j0]
  rw [if_neg h1]
  by_cases h2 : 2999 < y
  · rw [if_pos h2, if_pos (.inr (.inl h2))]; simp [civil_Day.j0]
  rw [if_neg h2]
  by_cases h3 : d < 1
  · rw [if_pos h3, if_pos (.inr (.inr (.inl h3)))]; simp [civil_Day.j0]
  rw [if_neg h3]
  simp only [civil_Length.f, Option.bind_some]
  by_cases h4 : Civ.len y m < d
  · rw [if_pos (.inr (.inr (.inr h4)))]; simp [civil_Day.j0, h4]
  rw [if_neg (by omega)]
  have hm := Civ.len_pos (show 1 ≤ Civ.len y m by omega)
  have hg := Civ.gone_k y m.toNat (by omega) k (by omega)
  rw [show ((m.toNat : Nat) : Int) = m by omega] at hg
  have hd : decide (d > Civ.len y m) = false := decide_eq_false (by omega)
  simp only [civil_Day.j0, hd]
  rw [if_neg (by simp), Civ.ahead_f (by omega) (by omega), hg]
  simp only [Option.bind_some]
  have b1 := Civ.dby_bd (y := y) (by omega) (by omega)
  have b2 := Civ.cum_bd y (m.toNat - 1)
  have b3 := Civ.len_bd y m
  rw [Civ.w64 (x := Civ.dby y + _) (by omega) (by omega), Civ.w64 (x := Civ.dby y + _ + _) (by omega) (by omega), Civ.w64 (by omega) (by omega)]
  unfold Civ.num
  rw [show (m - 1).toNat = m.toNat - 1 by omega]
/-- A date that there is. -/
def Civ.ok (y m d : Int) : Prop := 1970 ≤ y ∧ y ≤ 2999 ∧ 1 ≤ m ∧ m ≤ 12 ∧ 1 ≤ d ∧ d ≤ Civ.len y m
theorem Civ.day_ok {y m d : Int} (h : Civ.ok y m d) : Civ.day y m d = (Civ.num y m d, 0) := by
  obtain ⟨h1, h2, h3, h4, h5, h6⟩ := h
  unfold Civ.day
  rw [if_neg (by omega)]
theorem Civ.day_no {y m d : Int} (h : ¬ Civ.ok y m d) : Civ.day y m d = (0, 1) := by
  unfold Civ.day
  split
  · rfl
  · rename_i hn
    have := Civ.len_pos (show 1 ≤ Civ.len y m by omega)
    exact absurd ⟨by omega, by omega, this.1, this.2, by omega, by omega⟩ h
theorem Civ.mi_spec {d : Int} (h0 : 0 ≤ d) (h : d ≤ 376199) :
    d - Civ.dby (Civ.yr d) < Civ.cum (Civ.yr d) (Civ.mi d + 1) ∧ Civ.cum (Civ.yr d) (Civ.mi d) ≤ d - Civ.dby (Civ.yr d) ∧ Civ.mi d ≤ 11 := by
  have s := Civ.srch_spec (fun i => decide (d - Civ.dby (Civ.yr d) < Civ.cum (Civ.yr d) (i + 1))) 11 0
  have hu := Civ.yi_up h
  have hl := Civ.yi_lo h0
  have hle : Civ.mi d ≤ 11 := s.2.2.2
  refine ⟨?_, ?_, hle⟩
  · rcases Nat.lt_or_ge (Civ.mi d) 11 with hlt | hge
    · exact of_decide_eq_true (s.2.1 hlt)
    · rw [show Civ.mi d = 11 by omega]
      have := Civ.cum12 (Civ.yr d)
      rw [show (11 + 1 : Nat) = 12 by rfl, this]
      unfold Civ.yr
      omega
  · rcases Nat.eq_zero_or_pos (Civ.mi d) with hz | hp
    · rw [hz]; simp only [Civ.cum]; unfold Civ.yr; omega
    · have := of_decide_eq_false (s.1 (Civ.mi d - 1) (by omega) (show Civ.mi d - 1 < Civ.mi d by omega))
      rw [show Civ.mi d - 1 + 1 = Civ.mi d by omega] at this
      omega
theorem Civ.yr_bd {d : Int} (h0 : 0 ≤ d) (_ : d ≤ 376199) : 1970 ≤ Civ.yr d ∧ Civ.yr d ≤ 2999 := by
  have h1 := Civ.yi_lo h0
  have h2 := Civ.yi_le d
  refine ⟨by unfold Civ.yr; omega, ?_⟩
  unfold Civ.yr
  rcases Nat.lt_or_ge (Civ.yi d) 1030 with hl | hl
  · omega
  · omega
theorem Civ.date_ok {d : Int} (h0 : 0 ≤ d) (h : d ≤ 376199) : Civ.ok (Civ.yr d) (1 + Civ.mi d) (Civ.dy d) ∧ Civ.num (Civ.yr d) (1 + Civ.mi d) (Civ.dy d) = d := by
  have hm := Civ.mi_spec h0 h
  have hy := Civ.yr_bd h0 h
  have hs : Civ.cum (Civ.yr d) (Civ.mi d + 1) = Civ.cum (Civ.yr d) (Civ.mi d) + Civ.len (Civ.yr d) (1 + Civ.mi d) := by
    simp only [Civ.cum]; rw [show ((Civ.mi d : Int) + 1) = 1 + Civ.mi d by omega]
  refine ⟨⟨hy.1, hy.2, by omega, by omega, by unfold Civ.dy; omega, by unfold Civ.dy; omega⟩, ?_⟩
  unfold Civ.num Civ.dy
  rw [show (1 + (Civ.mi d : Int) - 1).toNat = Civ.mi d by omega]
  omega
theorem Civ.date_is {d : Int} (h0 : 0 ≤ d) (h : d ≤ 376199) : Civ.date d = (Civ.yr d, 1 + (Civ.mi d : Int), Civ.dy d, 0) := by
  unfold Civ.date; rw [if_neg (by omega)]
theorem Civ.date_no {d : Int} (h : d < 0 ∨ 376199 < d) : Civ.date d = (0, 0, 0, 1) := by
  unfold Civ.date; rw [if_pos h]
theorem Civ.cum_len (y : Int) (m : Nat) : Civ.cum y (m + 1) = Civ.cum y m + Civ.len y (m + 1) := by simp only [Civ.cum]
theorem Civ.num_lt {y m d : Int} (h : Civ.ok y m d) : Civ.dby y ≤ Civ.num y m d ∧ Civ.num y m d < Civ.dby (y + 1) := by
  obtain ⟨h1, h2, h3, h4, h5, h6⟩ := h
  have hc := Civ.cum_bd y (m - 1).toNat
  have hs := Civ.cum_len y (m - 1).toNat
  rw [show (((m - 1).toNat : Nat) : Int) + 1 = m by omega] at hs
  have hm := Civ.cum_mono y (show (m - 1).toNat + 1 ≤ 12 by omega)
  have h12 := Civ.cum12 y
  unfold Civ.num
  omega
theorem Civ.num_inj {y m d y' m' d' : Int} (h : Civ.ok y m d) (h' : Civ.ok y' m' d') (e : Civ.num y m d = Civ.num y' m' d') : y = y' ∧ m = m' ∧ d = d' := by
  have l := Civ.num_lt h
  have l' := Civ.num_lt h'
  have hy : y = y' := by
    by_cases c : y < y'
    · have := Civ.dby_mono (show y + 1 ≤ y' by omega); omega
    · by_cases c' : y' < y
      · have := Civ.dby_mono (show y' + 1 ≤ y by omega); omega
      · omega
  subst hy
  obtain ⟨h1, h2, h3, h4, h5, h6⟩ := h
  obtain ⟨_, _, h3', h4', h5', h6'⟩ := h'
  have hs := Civ.cum_len y (m - 1).toNat
  rw [show (((m - 1).toNat : Nat) : Int) + 1 = m by omega] at hs
  have hs' := Civ.cum_len y (m' - 1).toNat
  rw [show (((m' - 1).toNat : Nat) : Int) + 1 = m' by omega] at hs'
  unfold Civ.num at e
  have hm : m = m' := by
    by_cases c : m < m'
    · have := Civ.cum_mono y (show (m - 1).toNat + 1 ≤ (m' - 1).toNat by omega); omega
    · by_cases c' : m' < m
      · have := Civ.cum_mono y (show (m' - 1).toNat + 1 ≤ (m - 1).toNat by omega); omega
      · omega
  subst hm
  exact ⟨rfl, rfl, by omega⟩
theorem Civ.num_bd {y m d : Int} (h : Civ.ok y m d) : 0 ≤ Civ.num y m d ∧ Civ.num y m d ≤ 376199 := by
  have l := Civ.num_lt h
  have b1 := Civ.dby_bd (y := y) h.1 (by have := h.2.1; omega)
  have b2 := Civ.dby_bd (y := y + 1) (by have := h.1; omega) (by have := h.2.1; omega)
  omega
/-- What is told of a date is told back. -/
theorem Civ.date_num {y m d : Int} (h : Civ.ok y m d) : Civ.date (Civ.num y m d) = (y, m, d, 0) := by
  have b := Civ.num_bd h
  have k := Civ.date_ok b.1 b.2
  obtain ⟨e1, e2, e3⟩ := Civ.num_inj k.1 h k.2
  rw [Civ.date_is b.1 b.2, e1, e2, e3]
def Civ.of (t : Int) : Int × Int × Int × Int × Int × Int × Int :=
  if t < 0 ∨ 541727999 < t then (0, 0, 0, 0, 0, 0, 1) else (Civ.yr (t / 1440), 1 + (Civ.mi (t / 1440) : Int), Civ.dy (t / 1440), t / 60 % 24, t % 60, (t / 1440 + 4) % 7, 0)
theorem Civ.of_f (t : Int) (k : Nat) (hk : 2 ≤ k) : civil_Of.f k t = some (Civ.of t) := by
  obtain ⟨k, rfl⟩ : ∃ j, k = j + 1 := ⟨k - 1, by omega⟩
  unfold civil_Of.f Civ.of
  by_cases h1 : t < 0
  · rw [if_pos h1, if_pos (.inl h1)]; simp [civil_Of.j0]
  rw [if_neg h1]
  by_cases h2 : 541727999 < t
  · rw [if_pos (.inr h2)]; simp [civil_Of.j0, h2]
  rw [if_neg (by omega)]
  have hd : decide (t > 541727999) = false := decide_eq_false (by omega)
  simp only [civil_Of.j0, hd]
  rw [if_neg (by simp), Int.tdiv_eq_ediv_of_nonneg (by omega), Int.tdiv_eq_ediv_of_nonneg (by omega), Civ.w64 (x := t / 1440) (by omega) (by omega), Civ.w64 (x := t / 60) (by omega) (by omega)]
  rw [Int.tmod_eq_emod_of_nonneg (by omega), Int.tmod_eq_emod_of_nonneg (by omega), Civ.week_f]
  simp only [civil_Date.f, Option.bind_some]
  rw [Civ.date_is (by omega) (by omega)]
  unfold Civ.week
  rw [if_neg (by omega)]
def Civ.to (y m d h n : Int) : Int × Int := if (Civ.day y m d).2 ≠ 0 ∨ h < 0 ∨ 23 < h ∨ n < 0 ∨ 59 < n then (0, 1) else ((Civ.day y m d).1 * 1440 + h * 60 + n, 0)
theorem Civ.day_bd (y m d : Int) : 0 ≤ (Civ.day y m d).1 ∧ (Civ.day y m d).1 ≤ 376199 := by
  by_cases h : Civ.ok y m d
  · rw [Civ.day_ok h]; exact Civ.num_bd h
  · rw [Civ.day_no h]; simp
theorem Civ.to_f (y m d h n q : Int) (k : Nat) (hk : 100 ≤ k) : civil_To.f k y m d h n q = some (Civ.to y m d h n) := by
  unfold civil_To.f Civ.to
  rw [Civ.day_f y m d k hk]
  simp only [Option.bind_some]
  have b := Civ.day_bd y m d
  by_cases h1 : (Civ.day y m d).2 = 0
  · rw [if_pos h1]
    by_cases h2 : h < 0
    · rw [if_pos h2, if_pos (by omega)]
    rw [if_neg h2]
    by_cases h3 : 23 < h
    · rw [if_pos h3, if_pos (by omega)]
    rw [if_neg h3]
    by_cases h4 : n < 0
    · rw [if_pos h4, if_pos (by omega)]
    rw [if_neg h4]
    by_cases h5 : 59 < n
    · rw [if_pos h5, if_pos (by omega)]
    rw [if_neg h5, if_neg (by omega), Civ.w64 (x := (Civ.day y m d).1 * 1440) (by omega) (by omega), Civ.w64 (x := h * 60) (by omega) (by omega), Civ.w64 (x := (Civ.day y m d).1 * 1440 + h * 60) (by omega) (by omega), Civ.w64 (by omega) (by omega)]
  · rw [if_neg h1, if_pos (.inl h1)]
/-! The reference's calendar answers the same. -/
theorem Civ.rleap_f (y : Int) : complineref16_Leap.f y = some (Civ.leap y) := by
  unfold complineref16_Leap.f Civ.leap
  have e : (Int.tmod y 100 != 0) = decide (¬ y % 100 = 0) := by rw [Bool.eq_iff_iff]; simp [Civ.tm]
  simp only [Civ.tm, e]
  by_cases h1 : y % 400 = 0
  · have h4 : y % 4 = 0 := by omega
    simp [h1, h4]
  · by_cases h2 : y % 4 = 0 <;> simp [h1, h2]
theorem Civ.rlen_f (y m : Int) (k : Nat) (hk : 1 ≤ k) : complineref16_Length.f k y m = some (Civ.len y m) := by
  obtain ⟨k, rfl⟩ : ∃ j, k = j + 1 := ⟨k - 1, by omega⟩
  unfold complineref16_Length.f Civ.len
  simp only [complineref16_Length.j0, Civ.rleap_f, Option.bind_some]
  by_cases h1 : m < 1
  · simp [h1]
  by_cases h2 : 12 < m
  · simp [h1, h2]
  by_cases h3 : m = 2
  · subst h3; cases h : Civ.leap y <;> simp
  by_cases h4 : m = 4
  · subst h4; simp
  by_cases h5 : m = 6
  · subst h5; simp
  by_cases h6 : m = 9
  · subst h6; simp
  by_cases h7 : m = 11
  · subst h7; simp
  simp [h1, h2, h3, h4, h5, h6, h7]
theorem Civ.rdays_f (y : Int) : complineref16_days.f y = some (Civ.dby (y + 1) - Civ.dby y) := by
  unfold complineref16_days.f
  rw [Civ.rleap_f]
  simp only [Option.bind_some]
  have := Civ.leap_of y
  unfold Civ.dby
  split
  · rename_i h
    have := this.1 h
    congr 1; omega
  · rename_i h
    have h2 : ¬ (y % 4 = 0 ∧ (y % 100 ≠ 0 ∨ y % 400 = 0)) := fun x => h (this.2 x)
    congr 1; omega
theorem Civ.rday_l1 (y : Int) (m : Nat) (hm : m ≤ 20) (e : Nat) : ∀ (k i : Nat) (b : Int), -1000000 ≤ b → b ≤ 1000000 → 1 ≤ i → i + e = m → e + 1 < k →
    complineref16_Day.l1 k y m (b + Civ.cum y (i - 1)) i = some (b + Civ.cum y (m - 1), 0) := by
  induction e with
  | zero =>
    intro k i b hb hb' h1 h2 hk
    obtain ⟨k, rfl⟩ : ∃ j, k = j + 1 := ⟨k - 1, by omega⟩
    simp only [complineref16_Day.l1]
    rw [if_neg (by omega), show i = m by omega]
  | succ e ih =>
    intro k i b hb hb' h1 h2 hk
    obtain ⟨k, rfl⟩ : ∃ j, k = j + 1 := ⟨k - 1, by omega⟩
    simp only [complineref16_Day.l1]
    rw [if_pos (by omega), Civ.rlen_f _ _ _ (by omega)]
    simp only [Option.bind_some]
    have hl := Civ.len_bd y i
    have hc := Civ.cum_bd y (i - 1)
    rw [Civ.w64 (by omega) (by omega), Civ.w64 (by omega) (by omega)]
    have := ih k (i + 1) b hb hb' (by omega) (by omega) (by omega)
    obtain ⟨j, rfl⟩ : ∃ j, i = j + 1 := ⟨i - 1, by omega⟩
    simp only [Nat.add_sub_cancel, Civ.cum] at this ⊢
    rw [← this]
    congr 1
    all_goals push_cast
    all_goals omega
theorem Civ.rday_l0 (y : Int) (m : Nat) (hm : m ≤ 12) (hm1 : 1 ≤ m) (hy : y ≤ 2999) (e : Nat) : ∀ (k : Nat) (i b : Int), 0 ≤ b → b ≤ 40 → 1970 ≤ i → i + e = y → e + 40 < k →
    complineref16_Day.l0 k y m (b + Civ.dby i) i = some (b + Civ.dby y + Civ.cum y (m - 1), 0) := by
  induction e with
  | zero =>
    intro k i b hb hb' h1 h2 hk
    obtain ⟨k, rfl⟩ : ∃ j, k = j + 1 := ⟨k - 1, by omega⟩
    simp only [complineref16_Day.l0]
    obtain rfl : i = y := by omega
    rw [if_neg (by omega)]
    have hd := Civ.dby_bd h1 (show i ≤ 3000 by omega)
    have := Civ.rday_l1 i m (by omega) (m - 1) k 1 (b + Civ.dby i) (by omega) (by omega) (by omega) (by omega) (by omega)
    simpa [Civ.cum] using this
  | succ e ih =>
    intro k i b hb hb' h1 h2 hk
    obtain ⟨k, rfl⟩ : ∃ j, k = j + 1 := ⟨k - 1, by omega⟩
    simp only [complineref16_Day.l0]
    rw [if_pos (by omega), Civ.rdays_f]
    simp only [Option.bind_some]
    have hd := Civ.dby_bd h1 (show i ≤ 3000 by omega)
    have hd' := Civ.dby_bd (show 1970 ≤ i + 1 by omega) (show i + 1 ≤ 3000 by omega)
    rw [Civ.w64 (by omega) (by omega), Civ.w64 (by omega) (by omega)]
    rw [← ih k (i + 1) b hb hb' (by omega) (by omega) (by omega)]
    congr 1
    omega
theorem Civ.rday_f (y m d : Int) (k : Nat) (hk : 1200 ≤ k) : complineref16_Day.f k y m d = some (Civ.day y m d) := by
  obtain ⟨k, rfl⟩ : ∃ j, k = j + 1 := ⟨k - 1, by omega⟩
  unfold complineref16_Day.f Civ.day
  by_cases h1 : y < 1970
  · rw [if_pos h1, if_pos (.inl h1)]; simp [complineref16_Day.j0]
  rw [if_neg h1]
  by_cases h2 : 2999 < y
  · rw [if_pos h2, if_pos (.inr (.inl h2))]; simp [complineref16_Day.j0]
  rw [if_neg h2]
  by_cases h3 : d < 1
  · rw [if_pos h3, if_pos (.inr (.inr (.inl h3)))]; simp [complineref16_Day.j0]
  rw [if_neg h3, Civ.rlen_f _ _ _ (by omega)]
  simp only [Option.bind_some]
  by_cases h4 : Civ.len y m < d
  · rw [if_pos (.inr (.inr (.inr h4)))]; simp [complineref16_Day.j0, h4]
  rw [if_neg (by omega)]
  have hm := Civ.len_pos (show 1 ≤ Civ.len y m by omega)
  have hd : decide (d > Civ.len y m) = false := decide_eq_false (by omega)
  simp only [complineref16_Day.j0, hd]
  have b3 := Civ.len_bd y m
  rw [if_neg (by simp), Civ.w64 (by omega) (by omega)]
  have := Civ.rday_l0 y m.toNat (by omega) (by omega) (by omega) (y - 1970).toNat k 1970 (d - 1) (by omega) (by omega) (by omega) (by omega) (by omega)
  rw [show ((m.toNat : Nat) : Int) = m by omega, show Civ.dby 1970 = 0 by decide, Int.add_zero] at this
  rw [this]
  unfold Civ.num
  rw [show (m - 1).toNat = m.toNat - 1 by omega]
  congr 2
  omega
theorem Civ.rdate_l1 (y d : Int) (hd0 : 0 ≤ d) (hd : d ≤ 376199) (hy : y = Civ.yr d) (e : Nat) : ∀ (k i : Nat), i + e = Civ.mi d → e + 1 < k →
    complineref16_Date.l1 k (d - Civ.dby y - Civ.cum y i) y (1 + (i : Int)) = some (Civ.yr d, 1 + (Civ.mi d : Int), Civ.dy d, 0) := by
  have sp := Civ.mi_spec hd0 hd
  have bd := Civ.yr_bd hd0 hd
  subst hy
  have hdb := Civ.dby_bd bd.1 (by omega)
  induction e with
  | zero =>
    intro k i h2 hk
    obtain ⟨k, rfl⟩ : ∃ j, k = j + 1 := ⟨k - 1, by omega⟩
    obtain rfl : i = Civ.mi d := by omega
    simp only [complineref16_Date.l1]
    rw [Civ.rlen_f _ _ _ (by omega)]
    simp only [Option.bind_some]
    have hs := Civ.cum_len (Civ.yr d) (Civ.mi d)
    rw [show ((Civ.mi d : Int) + 1) = 1 + Civ.mi d by omega] at hs
    have hc := Civ.cum_bd (Civ.yr d) (Civ.mi d)
    rw [if_neg (by omega), Civ.w64 (by omega) (by omega)]
    unfold Civ.dy
    rfl
  | succ e ih =>
    intro k i h2 hk
    obtain ⟨k, rfl⟩ : ∃ j, k = j + 1 := ⟨k - 1, by omega⟩
    simp only [complineref16_Date.l1]
    rw [Civ.rlen_f _ _ _ (by omega)]
    simp only [Option.bind_some]
    have hs := Civ.cum_len (Civ.yr d) i
    rw [show ((i : Int) + 1) = 1 + i by omega] at hs
    have hmo := Civ.cum_mono (Civ.yr d) (show i + 1 ≤ Civ.mi d by omega)
    have hc := Civ.cum_bd (Civ.yr d) i
    have hl := Civ.len_bd (Civ.yr d) (1 + i)
    rw [if_pos (by omega), Civ.w64 (by omega) (by omega), Civ.w64 (by omega) (by omega)]
    rw [← ih k (i + 1) (by omega) (by omega)]
    congr 1
    omega
theorem Civ.rdate_l0 (d : Int) (hd0 : 0 ≤ d) (hd : d ≤ 376199) (e : Nat) : ∀ (k : Nat) (i : Int), 1970 ≤ i → i + e = Civ.yr d → e + 40 < k →
    complineref16_Date.l0 k (d - Civ.dby i) i 1 = some (Civ.yr d, 1 + (Civ.mi d : Int), Civ.dy d, 0) := by
  have sp := Civ.mi_spec hd0 hd
  have bd := Civ.yr_bd hd0 hd
  have up := Civ.yi_up hd
  have lo := Civ.yi_lo hd0
  induction e with
  | zero =>
    intro k i h1 h2 hk
    obtain ⟨k, rfl⟩ : ∃ j, k = j + 1 := ⟨k - 1, by omega⟩
    obtain rfl : i = Civ.yr d := by omega
    simp only [complineref16_Date.l0]
    rw [Civ.rdays_f]
    simp only [Option.bind_some]
    rw [if_neg (by unfold Civ.yr at *; omega)]
    have := Civ.rdate_l1 _ d hd0 hd rfl (Civ.mi d) k 0 (by omega) (by omega)
    simpa [Civ.cum] using this
  | succ e ih =>
    intro k i h1 h2 hk
    obtain ⟨k, rfl⟩ : ∃ j, k = j + 1 := ⟨k - 1, by omega⟩
    simp only [complineref16_Date.l0]
    rw [Civ.rdays_f]
    simp only [Option.bind_some]
    have hm := Civ.dby_mono (show i + 1 ≤ Civ.yr d by omega)
    have b1 := Civ.dby_bd h1 (show i ≤ 3000 by omega)
    have b2 := Civ.dby_bd (show 1970 ≤ i + 1 by omega) (show i + 1 ≤ 3000 by omega)
    rw [if_pos (by unfold Civ.yr at *; omega), Civ.w64 (by omega) (by omega), Civ.w64 (by omega) (by omega)]
    rw [← ih k (i + 1) (by omega) (by omega) (by omega)]
    congr 1
    omega
theorem Civ.rdate_f (d : Int) (k : Nat) (hk : 1200 ≤ k) : complineref16_Date.f k d = some (Civ.date d) := by
  obtain ⟨k, rfl⟩ : ∃ j, k = j + 1 := ⟨k - 1, by omega⟩
  unfold complineref16_Date.f Civ.date
  by_cases h1 : d < 0
  · rw [if_pos h1, if_pos (.inl h1)]; simp [complineref16_Date.j0]
  rw [if_neg h1]
  by_cases h2 : 376199 < d
  · rw [if_pos (.inr h2)]; simp [complineref16_Date.j0, h2]
  rw [if_neg (by omega)]
  have hd : decide (d > 376199) = false := decide_eq_false (by omega)
  simp only [complineref16_Date.j0, hd]
  have b := Civ.yr_bd (d := d) (by omega) (by omega)
  have := Civ.rdate_l0 d (by omega) (by omega) (Civ.yr d - 1970).toNat k 1970 (by omega) (by omega) (by omega)
  rw [show Civ.dby 1970 = 0 by decide, Int.sub_zero] at this
  rw [if_neg (by simp), this]
theorem Civ.rweek_f (d : Int) : complineref16_Week.f d = some (Civ.week d) := by
  unfold complineref16_Week.f Civ.week
  by_cases h0 : d < 0
  · rw [if_pos h0, if_pos (.inl h0)]
  · by_cases h1 : 376199 < d
    · rw [if_neg h0, if_pos h1, if_pos (.inr h1)]
    · rw [if_neg h0, if_neg h1, if_neg (by omega), Int.tmod_eq_emod_of_nonneg (a := d) (by omega), Civ.w64 (by omega) (by omega), Int.tmod_eq_emod_of_nonneg (by omega)]
      congr 2; omega
theorem Civ.rof_f (t : Int) (k : Nat) (hk : 1300 ≤ k) : complineref16_Of.f k t = some (Civ.of t) := by
  obtain ⟨k, rfl⟩ : ∃ j, k = j + 1 := ⟨k - 1, by omega⟩
  unfold complineref16_Of.f Civ.of
  by_cases h1 : t < 0
  · rw [if_pos h1, if_pos (.inl h1)]; simp [complineref16_Of.j0]
  rw [if_neg h1]
  by_cases h2 : 541727999 < t
  · rw [if_pos (.inr h2)]; simp [complineref16_Of.j0, h2]
  rw [if_neg (by omega)]
  have hd : decide (t > 541727999) = false := decide_eq_false (by omega)
  simp only [complineref16_Of.j0, hd]
  rw [if_neg (by simp), Int.tdiv_eq_ediv_of_nonneg (a := t) (by omega), Civ.w64 (x := t / 1440) (by omega) (by omega), Int.tmod_eq_emod_of_nonneg (a := t) (by omega), Int.tmod_eq_emod_of_nonneg (a := t) (by omega), Int.tdiv_eq_ediv_of_nonneg (by omega), Civ.w64 (x := t % 1440 / 60) (by omega) (by omega)]
  rw [Civ.rdate_f _ _ (by omega), Civ.rweek_f, Civ.date_is (by omega) (by omega)]
  simp only [Option.bind_some]
  unfold Civ.week
  rw [if_neg (by omega), show t % 1440 / 60 = t / 60 % 24 by omega]
theorem Civ.rto_f (y m d h n q : Int) (k : Nat) (hk : 1200 ≤ k) : complineref16_To.f k y m d h n q = some (Civ.to y m d h n) := by
  unfold complineref16_To.f Civ.to
  rw [Civ.rday_f y m d k hk]
  simp only [Option.bind_some]
  have b := Civ.day_bd y m d
  by_cases h1 : (Civ.day y m d).2 = 0
  · rw [if_pos h1]
    by_cases h2 : h < 0
    · rw [if_pos h2, if_pos (by omega)]
    rw [if_neg h2]
    by_cases h3 : 23 < h
    · rw [if_pos h3, if_pos (by omega)]
    rw [if_neg h3]
    by_cases h4 : n < 0
    · rw [if_pos h4, if_pos (by omega)]
    rw [if_neg h4]
    by_cases h5 : 59 < n
    · rw [if_pos h5, if_pos (by omega)]
    rw [if_neg h5, if_neg (by omega), Civ.w64 (x := (Civ.day y m d).1 * 1440) (by omega) (by omega), Civ.w64 (x := h * 60) (by omega) (by omega), Civ.w64 (x := (Civ.day y m d).1 * 1440 + h * 60) (by omega) (by omega), Civ.w64 (by omega) (by omega)]
  · rw [if_neg h1, if_pos (.inl h1)]
/-! The laws, over numbers. -/
theorem Civ.works_f (k : Nat) (hk : 1300 ≤ k) : complinelaw16_works.f k = some true := by
  unfold complinelaw16_works.f
  rw [Civ.day_f _ _ _ _ (by omega), Civ.week_f, Civ.of_f _ _ (by omega), Civ.to_f _ _ _ _ _ _ _ (by omega), Civ.leap_f, Civ.leap_f]
  simp only [Option.bind_some, civil_Date.f, civil_Length.f]
  decide +kernel
theorem CivilDays_p : complinelaw16_CivilDays.Pure := by
  intro y m d _ _ _
  refine ⟨1300, ?_⟩
  unfold complinelaw16_CivilDays.f
  rw [Civ.works_f _ (by omega), Civ.day_f _ _ _ _ (by omega), Civ.rday_f _ _ _ _ (by omega), Civ.leap_f, Civ.rleap_f, Civ.rlen_f _ _ _ (by omega)]
  simp [civil_Length.f]
theorem CivilDates_p : complinelaw16_CivilDates.Pure := by
  intro d _
  refine ⟨1300, ?_⟩
  unfold complinelaw16_CivilDates.f
  rw [Civ.works_f _ (by omega), Civ.rdate_f _ _ (by omega), Civ.week_f, Civ.rweek_f]
  simp [civil_Date.f]
theorem CivilBack_p : complinelaw16_CivilBack.Pure := by
  intro d _
  refine ⟨1300, ?_⟩
  unfold complinelaw16_CivilBack.f
  rw [Civ.works_f _ (by omega)]
  simp only [Option.bind_some, civil_Date.f, if_true]
  by_cases h : d < 0 ∨ 376199 < d
  · rw [Civ.date_no h]
    simp only []
    rw [if_neg (show ¬ (1 : Int) = 0 by decide)]
    by_cases h0 : d < 0
    · rw [if_pos h0]
    · rw [if_neg h0, decide_eq_true (by omega)]
  · have hd := Civ.date_ok (d := d) (by omega) (by omega)
    rw [Civ.date_is (by omega) (by omega)]
    simp only [if_true]
    rw [Civ.day_f _ _ _ _ (by omega), Civ.day_ok hd.1, hd.2]
    simp only [Option.bind_some, civil_Length.f, if_true]
    rw [if_pos hd.1.2.2.2.2.1, decide_eq_true hd.1.2.2.2.2.2]
theorem Civ.next_day {d : Int} (h0 : 0 ≤ d) (h : d < 376199) :
    Civ.date (d + 1) = if Civ.dy d < Civ.len (Civ.yr d) (1 + Civ.mi d) then (Civ.yr d, 1 + (Civ.mi d : Int), Civ.dy d + 1, 0) else if 1 + (Civ.mi d : Int) < 12 then (Civ.yr d, 1 + (Civ.mi d : Int) + 1, 1, 0) else (Civ.yr d + 1, 1, 1, 0) := by
  obtain ⟨ok, hn⟩ := Civ.date_ok (d := d) h0 (by omega)
  obtain ⟨h1, h2, h3, h4, h5, h6⟩ := ok
  have hs := Civ.cum_len (Civ.yr d) (Civ.mi d)
  rw [show ((Civ.mi d : Int) + 1) = 1 + Civ.mi d by omega] at hs
  have e1 : (1 + (Civ.mi d : Int) - 1).toNat = Civ.mi d := by omega
  unfold Civ.num at hn
  rw [e1] at hn
  split
  · rename_i hl
    rw [← Civ.date_num (y := Civ.yr d) (m := 1 + Civ.mi d) (d := Civ.dy d + 1) ⟨h1, h2, h3, h4, by omega, by omega⟩]
    congr 1
    unfold Civ.num
    rw [e1]
    omega
  · rename_i hl
    split
    · rename_i hm
      have hp := Civ.len_ge (y := Civ.yr d) (m := 1 + (Civ.mi d : Int) + 1) (by omega) (by omega)
      rw [← Civ.date_num (y := Civ.yr d) (m := 1 + Civ.mi d + 1) (d := 1) ⟨h1, h2, by omega, by omega, by omega, by omega⟩]
      congr 1
      unfold Civ.num
      rw [show (1 + (Civ.mi d : Int) + 1 - 1).toNat = Civ.mi d + 1 by omega, hs]
      omega
    · rename_i hm
      have hp := Civ.len_ge (y := Civ.yr d + 1) (m := 1) (by omega) (by omega)
      have h12 := Civ.cum12 (Civ.yr d)
      have e12 : Civ.mi d = 11 := by omega
      rw [e12] at hs hn hl h6
      have hy : Civ.yr d ≤ 2998 := by
        by_cases c : Civ.yr d = 2999
        · have : Civ.dby (Civ.yr d + 1) = 376200 := by rw [c]; decide
          rw [show (11 + 1 : Nat) = 12 by rfl] at hs
          omega
        · omega
      rw [← Civ.date_num (y := Civ.yr d + 1) (m := 1) (d := 1) ⟨by omega, by omega, by omega, by omega, by omega, by omega⟩]
      congr 1
      unfold Civ.num
      rw [show ((1 : Int) - 1).toNat = 0 by decide]
      simp only [Civ.cum]
      rw [show (11 + 1 : Nat) = 12 by rfl] at hs
      omega
theorem CivilGoes_p : complinelaw16_CivilGoes.Pure := by
  intro d hw
  refine ⟨1300, ?_⟩
  unfold complinelaw16_CivilGoes.f
  rw [Civ.works_f _ (by omega)]
  simp only [Option.bind_some, if_true]
  by_cases h0 : d < 0
  · rw [if_pos h0]; simp [complinelaw16_CivilGoes.j0]
  rw [if_neg h0]
  by_cases h1 : 376199 ≤ d
  · simp [complinelaw16_CivilGoes.j0, h1]
  have hd : decide (d ≥ 376199) = false := decide_eq_false (by omega)
  rw [hd, show (1300 : Nat) = 1298 + 1 + 1 by rfl]
  simp only [complinelaw16_CivilGoes.j0]
  rw [if_neg (by simp), Civ.w64 (x := d + 1) (by omega) (by omega), Civ.week_f, Civ.week_f]
  simp only [civil_Date.f, Option.bind_some]
  rw [Civ.date_is (by omega) (by omega), Civ.next_day (by omega) (by omega)]
  obtain ⟨ok, hn⟩ := Civ.date_ok (d := d) (by omega) (by omega)
  obtain ⟨k1, k2, k3, k4, k5, k6⟩ := ok
  have hl := Civ.len_bd (Civ.yr d) (1 + Civ.mi d)
  unfold Civ.week
  rw [if_neg (show ¬ (d < 0 ∨ 376199 < d) by omega), if_neg (show ¬ (d + 1 < 0 ∨ 376199 < d + 1) by omega)]
  have ew : Int.tmod (wrap64 ((d + 4) % 7 + 1)) 7 = (d + 1 + 4) % 7 := by
    rw [Civ.w64 (by omega) (by omega), Int.tmod_eq_emod_of_nonneg (by omega)]; omega
  have w1 : wrap64 (Civ.dy d + 1) = Civ.dy d + 1 := Civ.w64 (by omega) (by omega)
  have w2 : wrap64 (1 + (Civ.mi d : Int) + 1) = 1 + (Civ.mi d : Int) + 1 := Civ.w64 (by omega) (by omega)
  have w3 : wrap64 (Civ.yr d + 1) = Civ.yr d + 1 := Civ.w64 (by omega) (by omega)
  by_cases c : Civ.dy d < Civ.len (Civ.yr d) (1 + (Civ.mi d : Int))
  · simp [complinelaw16_CivilGoes.j1, civil_Length.f, ew, w1, c]
  · by_cases c2 : 1 + (Civ.mi d : Int) < 12
    · simp [complinelaw16_CivilGoes.j1, civil_Length.f, ew, w2, c, c2]
    · simp [complinelaw16_CivilGoes.j1, civil_Length.f, ew, w3, c, c2]
theorem Civ.leap_400 (y : Int) : Civ.leap (y + 400) = Civ.leap y := by
  rw [Bool.eq_iff_iff, Civ.leap_of, Civ.leap_of]; omega
theorem Civ.len_400 (y m : Int) : Civ.len (y + 400) m = Civ.len y m := by unfold Civ.len; rw [Civ.leap_400]
theorem Civ.cum_400 (y : Int) (m : Nat) : Civ.cum (y + 400) m = Civ.cum y m := by
  induction m with
  | zero => rfl
  | succ m ih => simp only [Civ.cum, ih, Civ.len_400]
theorem CivilAges_p : complinelaw16_CivilAges.Pure := by
  intro y m d _ _ _
  refine ⟨1300, ?_⟩
  unfold complinelaw16_CivilAges.f
  rw [Civ.works_f _ (by omega)]
  simp only [Option.bind_some, if_true]
  by_cases h0 : y < 1970
  · rw [if_pos h0]; simp [complinelaw16_CivilAges.j0]
  rw [if_neg h0]
  by_cases h1 : 2599 < y
  · simp [complinelaw16_CivilAges.j0, h1]
  have hd : decide (y > 2599) = false := decide_eq_false (by omega)
  rw [hd, show (1300 : Nat) = 1299 + 1 by rfl]
  simp only [complinelaw16_CivilAges.j0]
  rw [if_neg (by simp), Civ.w64 (x := y + 400) (by omega) (by omega), Civ.day_f _ _ _ _ (by omega), Civ.day_f _ _ _ _ (by omega)]
  simp only [Option.bind_some, if_true]
  by_cases ho : Civ.ok y m d
  · have hq : Civ.ok (y + 400) m d := ⟨by omega, by omega, ho.2.2.1, ho.2.2.2.1, ho.2.2.2.2.1, by rw [Civ.len_400]; exact ho.2.2.2.2.2⟩
    have b1 := Civ.num_bd ho
    have b2 := Civ.num_bd hq
    have e : Civ.num (y + 400) m d = Civ.num y m d + 146097 := by
      unfold Civ.num
      rw [Civ.cum_400]
      unfold Civ.dby
      omega
    rw [Civ.day_ok ho, Civ.day_ok hq, e]
    simp only [if_true]
    rw [e] at b2
    rw [Civ.week_f, Civ.week_f]
    simp only [Option.bind_some]
    have e1 : Civ.week (Civ.num y m d) = ((Civ.num y m d + 4) % 7, 0) := by unfold Civ.week; rw [if_neg (by omega)]
    have e2 : Civ.week (Civ.num y m d + 146097) = ((Civ.num y m d + 4) % 7, 0) := by
      unfold Civ.week
      rw [if_neg (by omega), show (Civ.num y m d + 146097 + 4) % 7 = (Civ.num y m d + 4) % 7 by omega]
    have e3 : wrap64 (Civ.num y m d + 146097 - Civ.num y m d) = 146097 := by rw [Civ.w64 (by omega) (by omega)]; omega
    rw [e1, e2, e3]
    simp
  · have hq : ¬ Civ.ok (y + 400) m d := fun hq => ho ⟨by omega, by omega, hq.2.2.1, hq.2.2.2.1, hq.2.2.2.2.1, by rw [← Civ.len_400]; exact hq.2.2.2.2.2⟩
    rw [Civ.day_no ho, Civ.day_no hq]
    simp
theorem CivilMinutes_p (t y m d h n q : Int) : ∃ k, complinelaw16_CivilMinutes.f k t y m d h n q = some true := by
  refine ⟨1300, ?_⟩
  unfold complinelaw16_CivilMinutes.f
  rw [Civ.works_f _ (by omega), Civ.of_f _ _ (by omega), Civ.rof_f _ _ (by omega), Civ.to_f _ _ _ _ _ _ _ (by omega), Civ.rto_f _ _ _ _ _ _ _ (by omega)]
  simp
theorem Civ.of_to {y m d h n : Int} (hz : (Civ.to y m d h n).2 = 0) : ∃ w, Civ.of (Civ.to y m d h n).1 = (y, m, d, h, n, w, 0) := by
  unfold Civ.to at hz ⊢
  by_cases hc : (Civ.day y m d).2 ≠ 0 ∨ h < 0 ∨ 23 < h ∨ n < 0 ∨ 59 < n
  · rw [if_pos hc] at hz; simp at hz
  · rw [if_neg hc]
    by_cases ho : Civ.ok y m d
    · have b := Civ.num_bd ho
      have dn := Civ.date_num ho
      rw [Civ.day_ok ho]
      simp only
      unfold Civ.of
      have e : (Civ.num y m d * 1440 + h * 60 + n) / 1440 = Civ.num y m d := by omega
      rw [if_neg (by omega), e]
      rw [Civ.date_is b.1 b.2] at dn
      simp only [Prod.mk.injEq] at dn
      rw [dn.1, dn.2.1, dn.2.2.1, show (Civ.num y m d * 1440 + h * 60 + n) / 60 % 24 = h by omega, show (Civ.num y m d * 1440 + h * 60 + n) % 60 = n by omega]
      exact ⟨_, rfl⟩
    · rw [Civ.day_no ho] at hc; simp at hc
theorem Civ.to_of {t : Int} (h0 : 0 ≤ t) (h : t ≤ 541727999) : Civ.to (Civ.yr (t / 1440)) (1 + (Civ.mi (t / 1440) : Int)) (Civ.dy (t / 1440)) (t / 60 % 24) (t % 60) = (t, 0) := by
  obtain ⟨ok, hn⟩ := Civ.date_ok (d := t / 1440) (by omega) (by omega)
  unfold Civ.to
  rw [Civ.day_ok ok, hn, if_neg (by simp; omega)]
  simp
  omega
theorem Civ.turns_j (y m d h n q : Int) (k : Nat) (hk : 1300 ≤ k) : complinelaw16_CivilTurns.j0 k true y m d h n q = some true := by
  obtain ⟨k, rfl⟩ : ∃ j, k = j + 1 := ⟨k - 1, by omega⟩
  simp only [complinelaw16_CivilTurns.j0]
  rw [Civ.to_f _ _ _ _ _ _ _ (by omega)]
  simp only [Option.bind_some]
  by_cases hz : (Civ.to y m d h n).2 = 0
  · rw [if_pos hz, Civ.of_f _ _ (by omega)]
    obtain ⟨w, e⟩ := Civ.of_to hz
    rw [e]
    simp
  · rw [if_neg hz]
    have e : (Civ.to y m d h n).1 = 0 := by
      unfold Civ.to at hz ⊢
      split
      · rfl
      · rename_i c; rw [if_neg c] at hz; simp at hz
    rw [e]
    simp
theorem CivilTurns_p (t y m d h n q : Int) : ∃ k, complinelaw16_CivilTurns.f k t y m d h n q = some true := by
  refine ⟨1300, ?_⟩
  unfold complinelaw16_CivilTurns.f
  rw [Civ.works_f _ (by omega), Civ.of_f _ _ (by omega)]
  simp only [Option.bind_some, if_true]
  rw [Civ.turns_j _ _ _ _ _ _ _ (by omega)]
  by_cases hc : t < 0 ∨ 541727999 < t
  · unfold Civ.of; rw [if_pos hc]; simp
  · rw [show Civ.of t = (Civ.yr (t / 1440), 1 + (Civ.mi (t / 1440) : Int), Civ.dy (t / 1440), t / 60 % 24, t % 60, (t / 1440 + 4) % 7, 0) by unfold Civ.of; rw [if_neg hc]]
    simp only [if_true]
    rw [Civ.to_f _ _ _ _ _ _ _ (by omega), Civ.to_of (by omega) (by omega)]
    simp
end Go.Proofs.Ytjhfdabehdjplaa.PCiv
