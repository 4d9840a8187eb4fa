/- SoI: walks of the slab's functions. -/
import Derived.Test.YtppbdjoikdldiaaSoH
namespace Go.Proofs.Ytppbdjoikdldiaa.PSlabOf
open Go.RowKit Go.Proofs.YtppbdjoikdldiaaW.PrintWords Go.Proofs.YtppbdjoikdldiaaW.PrintLast Go.Proofs.YtppbdjoikdldiaaW.PrintMore
set_option linter.unusedVariables false
set_option linter.unusedSimpArgs false
theorem contains_36 {σ : Type} (P Q : σ → World → Prop) (step : Int → σ → Bool × σ) (b1 : Nat) (xs : List Int) (A : Option Addr) (c : Nat)
    (H : ∀ (s : σ) (x : Int) (W : World), P s W → x ∈ xs → Calls Try.prog 36 #[.int .i64 x, .pointer (some ⟨b1, 0, none⟩)] W fun e w' => e = .returned (.bool (step x s).1) ∧ ((step x s).1 = true → Q (step x s).2 w') ∧ ((step x s).1 = false → P (step x s).2 w'))
    (HC : ∀ W s, P s W → Kd.C (Kd.int .i64) W A xs.length xs) (hl : xs.length ≤ 100000) (s0 : σ) (W0 : World) (h0 : P s0 W0) :
    Calls Try.prog 35 #[.slice A xs.length c, .func (.func 36) #[] #[.pointer (some ⟨b1, 0, none⟩)]] W0 fun e w' => e = .returned (.bool (scan step xs s0).1) ∧ ((scan step xs s0).1 = true → Q (scan step xs s0).2 w') ∧ ((scan step xs s0).1 = false → P (scan step xs s0).2 w') := by
  have HI := idx_36 P Q step b1 xs A c H HC hl s0 W0 h0
  obtain ⟨b, hb⟩ : ∃ b, (scan step xs s0).1 = b := ⟨_, rfl⟩
  obtain ⟨s', hs'⟩ : ∃ s', (scan step xs s0).2 = s' := ⟨_, rfl⟩
  rw [hb, hs'] at HI ⊢
  clear hb hs'
  cases b with
  | true =>
    have HI := Aside0.mk (HI.mono (fun e w' h => show ∃ r : Int, e = .returned (.int .i64 r) ∧ 0 ≤ r ∧ Q s' w' from by
      obtain ⟨r, h1, (⟨_, h2, h3⟩ | ⟨h2, _⟩)⟩ := h
      · exact ⟨r, h1, h2, h3⟩
      · cases h2))
    go_enter Try.func35, Try.ntmps35
    go_wp2_with (first | (go_at_call 50; refine HI.out.mono ?_; rintro e w' ⟨r, rfl, h0, hq⟩; have d0 : decide (r ≥ 0) = true := decide_eq_true h0; have HQ := Aside0.mk hq; clear hq))
    go_ret
    exact ⟨rfl, fun _ => HQ.out, (fun h => by cases h)⟩
  | false =>
    have HI := Aside0.mk (HI.mono (fun e w' h => show e = .returned (.int .i64 (-1)) ∧ P s' w' from by
      obtain ⟨r, h1, (⟨h2, _⟩ | ⟨_, h2, h3⟩)⟩ := h
      · cases h2
      · subst h2; exact ⟨h1, h3⟩))
    go_enter Try.func35, Try.ntmps35
    go_wp2_with (first | (go_at_call 50; refine HI.out.mono ?_; rintro e w' ⟨rfl, hq⟩; have HQ := Aside0.mk hq; clear hq))
    go_ret
    exact ⟨rfl, (fun h => by cases h), fun _ => HQ.out⟩
theorem contains_38 {σ : Type} (P Q : σ → World → Prop) (step : Int → σ → Bool × σ) (b1 b2 b3 b4 : Nat) (xs : List Int) (A : Option Addr) (c : Nat)
    (H : ∀ (s : σ) (x : Int) (W : World), P s W → x ∈ xs → Calls Try.prog 38 #[.int .i64 x, .pointer (some ⟨b1, 0, none⟩), .pointer (some ⟨b2, 0, none⟩), .pointer (some ⟨b3, 0, none⟩), .pointer (some ⟨b4, 0, none⟩)] W fun e w' => e = .returned (.bool (step x s).1) ∧ ((step x s).1 = true → Q (step x s).2 w') ∧ ((step x s).1 = false → P (step x s).2 w'))
    (HC : ∀ W s, P s W → Kd.C (Kd.int .i64) W A xs.length xs) (hl : xs.length ≤ 100000) (s0 : σ) (W0 : World) (h0 : P s0 W0) :
    Calls Try.prog 35 #[.slice A xs.length c, .func (.func 38) #[] #[.pointer (some ⟨b1, 0, none⟩), .pointer (some ⟨b2, 0, none⟩), .pointer (some ⟨b3, 0, none⟩), .pointer (some ⟨b4, 0, none⟩)]] W0 fun e w' => e = .returned (.bool (scan step xs s0).1) ∧ ((scan step xs s0).1 = true → Q (scan step xs s0).2 w') ∧ ((scan step xs s0).1 = false → P (scan step xs s0).2 w') := by
  have HI := idx_38 P Q step b1 b2 b3 b4 xs A c H HC hl s0 W0 h0
  obtain ⟨b, hb⟩ : ∃ b, (scan step xs s0).1 = b := ⟨_, rfl⟩
  obtain ⟨s', hs'⟩ : ∃ s', (scan step xs s0).2 = s' := ⟨_, rfl⟩
  rw [hb, hs'] at HI ⊢
  clear hb hs'
  cases b with
  | true =>
    have HI := Aside0.mk (HI.mono (fun e w' h => show ∃ r : Int, e = .returned (.int .i64 r) ∧ 0 ≤ r ∧ Q s' w' from by
      obtain ⟨r, h1, (⟨_, h2, h3⟩ | ⟨h2, _⟩)⟩ := h
      · exact ⟨r, h1, h2, h3⟩
      · cases h2))
    go_enter Try.func35, Try.ntmps35
    go_wp2_with (first | (go_at_call 50; refine HI.out.mono ?_; rintro e w' ⟨r, rfl, h0, hq⟩; have d0 : decide (r ≥ 0) = true := decide_eq_true h0; have HQ := Aside0.mk hq; clear hq))
    go_ret
    exact ⟨rfl, fun _ => HQ.out, (fun h => by cases h)⟩
  | false =>
    have HI := Aside0.mk (HI.mono (fun e w' h => show e = .returned (.int .i64 (-1)) ∧ P s' w' from by
      obtain ⟨r, h1, (⟨h2, _⟩ | ⟨_, h2, h3⟩)⟩ := h
      · cases h2
      · subst h2; exact ⟨h1, h3⟩))
    go_enter Try.func35, Try.ntmps35
    go_wp2_with (first | (go_at_call 50; refine HI.out.mono ?_; rintro e w' ⟨rfl, hq⟩; have HQ := Aside0.mk hq; clear hq))
    go_ret
    exact ⟨rfl, (fun h => by cases h), fun _ => HQ.out⟩
theorem contains_41 {σ : Type} (P Q : σ → World → Prop) (step : S30 → σ → Bool × σ) (b1 b2 b3 : Nat) (xs : List S30) (A : Option Addr) (c : Nat)
    (H : ∀ (s : σ) (x : S30) (W : World), P s W → x ∈ xs → Calls Try.prog 41 #[.agg #[.int .i64 x.f0, .int .i64 x.f1], .pointer (some ⟨b1, 0, none⟩), .pointer (some ⟨b2, 0, none⟩), .pointer (some ⟨b3, 0, none⟩)] W fun e w' => e = .returned (.bool (step x s).1) ∧ ((step x s).1 = true → Q (step x s).2 w') ∧ ((step x s).1 = false → P (step x s).2 w'))
    (HC : ∀ W s, P s W → Kd.C k30 W A xs.length xs) (hl : xs.length ≤ 100000) (s0 : σ) (W0 : World) (h0 : P s0 W0) :
    Calls Try.prog 40 #[.slice A xs.length c, .func (.func 41) #[] #[.pointer (some ⟨b1, 0, none⟩), .pointer (some ⟨b2, 0, none⟩), .pointer (some ⟨b3, 0, none⟩)]] W0 fun e w' => e = .returned (.bool (scan step xs s0).1) ∧ ((scan step xs s0).1 = true → Q (scan step xs s0).2 w') ∧ ((scan step xs s0).1 = false → P (scan step xs s0).2 w') := by
  have HI := idx_41 P Q step b1 b2 b3 xs A c H HC hl s0 W0 h0
  obtain ⟨b, hb⟩ : ∃ b, (scan step xs s0).1 = b := ⟨_, rfl⟩
  obtain ⟨s', hs'⟩ : ∃ s', (scan step xs s0).2 = s' := ⟨_, rfl⟩
  rw [hb, hs'] at HI ⊢
  clear hb hs'
  cases b with
  | true =>
    have HI := Aside0.mk (HI.mono (fun e w' h => show ∃ r : Int, e = .returned (.int .i64 r) ∧ 0 ≤ r ∧ Q s' w' from by
      obtain ⟨r, h1, (⟨_, h2, h3⟩ | ⟨h2, _⟩)⟩ := h
      · exact ⟨r, h1, h2, h3⟩
      · cases h2))
    go_enter Try.func40, Try.ntmps40
    go_wp2_with (first | (go_at_call 51; refine HI.out.mono ?_; rintro e w' ⟨r, rfl, h0, hq⟩; have d0 : decide (r ≥ 0) = true := decide_eq_true h0; have HQ := Aside0.mk hq; clear hq))
    go_ret
    exact ⟨rfl, fun _ => HQ.out, (fun h => by cases h)⟩
  | false =>
    have HI := Aside0.mk (HI.mono (fun e w' h => show e = .returned (.int .i64 (-1)) ∧ P s' w' from by
      obtain ⟨r, h1, (⟨h2, _⟩ | ⟨_, h2, h3⟩)⟩ := h
      · cases h2
      · subst h2; exact ⟨h1, h3⟩))
    go_enter Try.func40, Try.ntmps40
    go_wp2_with (first | (go_at_call 51; refine HI.out.mono ?_; rintro e w' ⟨rfl, hq⟩; have HQ := Aside0.mk hq; clear hq))
    go_ret
    exact ⟨rfl, (fun h => by cases h), fun _ => HQ.out⟩
section
variable {m n : Int} {us fs : List Int} {A : List S30} {A2 A3 A4 : Option Addr} {c2 c3 c4 : Nat} {bP bG bU bF bA bS bI bO bK bR : Nat} {csK csR : Array Value} {w0 : World} {seen : List Int} {sv : Value} {W W' : World}
theorem few_set (us s : List Int) (p : Int) (hf : Few us s) (h0 : 0 ≤ p) (h1 : p < us.length) (hb : rd s p + 1 = 1) : Few us (s.set p.toNat (rd s p + 1)) := by
  rw [hb]
  refine ⟨by rw [List.length_set]; exact hf.1, fun q => ?_⟩
  unfold rd
  rw [List.getD_eq_getElem?_getD]
  by_cases e : p.toNat = q.toNat
  · rw [← e, List.getElem?_set_self (by have := hf.1; omega)]
    exact ⟨by decide, by decide⟩
  · rw [List.getElem?_set_ne e]
    have := hf.2 q
    unfold rd at this
    rw [List.getD_eq_getElem?_getD] at this
    exact this
theorem few3 (n : Int) (us s : List Int) (p : Int) (hf : Few us s) (hb : (bad3 n us p s).1 = false) : Few us (bad3 n us p s).2 := by
  unfold bad3 at hb ⊢
  by_cases h1 : inP us p = false
  · rw [if_pos h1] at hb; cases hb
  · rw [if_neg h1] at hb ⊢
    by_cases h2 : rd us p = n
    · rw [if_pos h2] at hb; cases hb
    · rw [if_neg h2] at hb ⊢
      have hp : 0 ≤ p ∧ p < us.length := by simpa [inP] using h1
      exact few_set us s p hf hp.1 hp.2 (by simpa using hb)
theorem few4 (us s : List Int) (x : S30) (hf : Few us s) (hb : (bad4 us x s).1 = false) : Few us (bad4 us x s).2 := by
  unfold bad4 at hb ⊢
  by_cases h1 : inP us x.f0 = false
  · rw [if_pos h1] at hb; cases hb
  · rw [if_neg h1] at hb ⊢
    by_cases h2 : rd us x.f0 = x.f1
    · rw [if_pos h2] at hb ⊢
      have hp : 0 ≤ x.f0 ∧ x.f0 < us.length := by simpa [inP] using h1
      exact few_set us s x.f0 hf hp.1 hp.2 (by simpa using hb)
    · rw [if_neg h2] at hb; cases hb
set_option maxHeartbeats 4000000 in
theorem rule2_calls (hr2 : Kd.C (Kd.int .i64) w0 A2 us.length us) (hl : us.length ≤ 100000) (h : OfF m n us fs A A2 A3 A4 c2 c3 c4 bP bG bU bF bA bS bI bO bK csK bR csR w0 seen sv W) :
    Calls Try.prog 34 #[.pointer (some ⟨bU, 0, none⟩), .pointer (some ⟨bG, 0, none⟩)] W fun e w' => e = .returned (.bool (!(us.any (bad2 n)))) ∧ OfF m n us fs A A2 A3 A4 c2 c3 c4 bP bG bU bF bA bS bI bO bK csK bR csR w0 seen sv w' := by
  have HI := contains_36 (σ := Unit) (fun _ w => OfF m n us fs A A2 A3 A4 c2 c3 c4 bP bG bU bF bA bS bI bO bK csK bR csR w0 seen sv w) (fun _ w => OfF m n us fs A A2 A3 A4 c2 c3 c4 bP bG bU bF bA bS bI bO bK csK bR csR w0 seen sv w) (fun x s => (bad2 n x, s)) bG us A2 c2
    (fun s x w hp _ => (bad2_calls w n x bG hp.g).mono (fun e w' h => ⟨h.1, fun _ => hp.below h.2, fun _ => hp.below h.2⟩)) (fun w _ hp => Kd.C_below hr2 hp.hb) hl () W h
  have hs : ∀ (l : List Int), (scan (fun x (s : Unit) => (bad2 n x, s)) l ()).1 = l.any (bad2 n) := by
    intro l
    induction l with
    | nil => rfl
    | cons x l ih =>
      rw [scan_cons, List.any_cons]
      cases hb : bad2 n x with
      | true => simp
      | false => simpa using ih
  rw [hs] at HI
  have HI := Aside0.mk (HI.mono (fun e w' h => show e = .returned (.bool (us.any (bad2 n))) ∧ OfF m n us fs A A2 A3 A4 c2 c3 c4 bP bG bU bF bA bS bI bO bK csK bR csR w0 seen sv w' from ⟨h.1, by
    cases hb : us.any (bad2 n) with
    | true => exact h.2.1 hb
    | false => exact h.2.2 hb⟩))
  have u0 := (blk_cell h.u 0).trans (show _ = some (Value.slice A2 us.length c2) from rfl)
  clear h hs
  go_enter Try.func34, Try.ntmps34
  go_wp2_with (first | (go_at_call 35; refine HI.out.mono ?_; rintro e w' ⟨rfl, hq⟩; have HQ := Aside0.mk hq; clear hq))
  go_ret
  exact ⟨rfl, HQ.out⟩
set_option maxHeartbeats 4000000 in
theorem rule3_calls (hr2 : Kd.C (Kd.int .i64) w0 A2 us.length us) (hr3 : Kd.C (Kd.int .i64) w0 A3 fs.length fs) (hl : fs.length ≤ 100000) (h : OfF m n us fs A A2 A3 A4 c2 c3 c4 bP bG bU bF bA bS bI bO bK csK bR csR w0 seen sv W) (hf : Few us seen) :
    Calls Try.prog 37 #[.pointer (some ⟨bF, 0, none⟩), .pointer (some ⟨bI, 0, none⟩), .pointer (some ⟨bU, 0, none⟩), .pointer (some ⟨bG, 0, none⟩), .pointer (some ⟨bO, 0, none⟩)] W fun e w' => e = .returned (.bool (!(scan (bad3 n us) fs seen).1)) ∧ OfF m n us fs A A2 A3 A4 c2 c3 c4 bP bG bU bF bA bS bI bO bK csK bR csR w0 (scan (bad3 n us) fs seen).2 sv w' ∧ ((scan (bad3 n us) fs seen).1 = false → Few us (scan (bad3 n us) fs seen).2) := by
  have HI := contains_38 (fun s w => OfF m n us fs A A2 A3 A4 c2 c3 c4 bP bG bU bF bA bS bI bO bK csK bR csR w0 s sv w ∧ Few us s) (fun s w => OfF m n us fs A A2 A3 A4 c2 c3 c4 bP bG bU bF bA bS bI bO bK csK bR csR w0 s sv w) (bad3 n us) bI bU bG bO fs A3 c3
    (fun s x w hp _ => (closure3 hr2 hp.1 hp.2 x).mono (fun e w' h => ⟨h.1, fun _ => h.2, fun hb => ⟨h.2, few3 n us s x hp.2 hb⟩⟩)) (fun w _ hp => Kd.C_below hr3 hp.1.hb) hl seen W ⟨h, hf⟩
  have HI := Aside0.mk (HI.mono (fun e w' h => show e = .returned (.bool (scan (bad3 n us) fs seen).1) ∧ OfF m n us fs A A2 A3 A4 c2 c3 c4 bP bG bU bF bA bS bI bO bK csK bR csR w0 (scan (bad3 n us) fs seen).2 sv w' ∧ ((scan (bad3 n us) fs seen).1 = false → Few us (scan (bad3 n us) fs seen).2) from ⟨h.1, by
    cases hb : (scan (bad3 n us) fs seen).1 with
    | true => exact h.2.1 hb
    | false => exact (h.2.2 hb).1, fun hb => (h.2.2 hb).2⟩))
  have f0 := (blk_cell h.f 0).trans (show _ = some (Value.slice A3 fs.length c3) from rfl)
  obtain ⟨b, hb⟩ : ∃ b, (scan (bad3 n us) fs seen).1 = b := ⟨_, rfl⟩
  obtain ⟨s', hs'⟩ : ∃ s', (scan (bad3 n us) fs seen).2 = s' := ⟨_, rfl⟩
  rw [hb, hs'] at HI ⊢
  clear h hb hs' hf
  go_enter Try.func37, Try.ntmps37
  go_wp2_with (first | (go_at_call 35; refine HI.out.mono ?_; rintro e w' ⟨rfl, hq, hq2⟩; have HQ := Aside0.mk hq; have HQ2 := Aside0.mk hq2; clear hq hq2))
  go_ret
  exact ⟨rfl, HQ.out, HQ2.out⟩
set_option maxHeartbeats 4000000 in
theorem rule4_calls (hr2 : Kd.C (Kd.int .i64) w0 A2 us.length us) (hr4 : Kd.C k30 w0 A4 A.length A) (hl : A.length ≤ 100000) (h : OfF m n us fs A A2 A3 A4 c2 c3 c4 bP bG bU bF bA bS bI bO bK csK bR csR w0 seen sv W) (hf : Few us seen) :
    Calls Try.prog 39 #[.pointer (some ⟨bA, 0, none⟩), .pointer (some ⟨bI, 0, none⟩), .pointer (some ⟨bU, 0, none⟩), .pointer (some ⟨bO, 0, none⟩)] W fun e w' => e = .returned (.bool (!(scan (bad4 us) A seen).1)) ∧ OfF m n us fs A A2 A3 A4 c2 c3 c4 bP bG bU bF bA bS bI bO bK csK bR csR w0 (scan (bad4 us) A seen).2 sv w' ∧ ((scan (bad4 us) A seen).1 = false → Few us (scan (bad4 us) A seen).2) := by
  have HI := contains_41 (fun s w => OfF m n us fs A A2 A3 A4 c2 c3 c4 bP bG bU bF bA bS bI bO bK csK bR csR w0 s sv w ∧ Few us s) (fun s w => OfF m n us fs A A2 A3 A4 c2 c3 c4 bP bG bU bF bA bS bI bO bK csK bR csR w0 s sv w) (bad4 us) bI bU bO A A4 c4
    (fun s x w hp _ => (closure4 hr2 hp.1 hp.2 x).mono (fun e w' h => ⟨h.1, fun _ => h.2, fun hb => ⟨h.2, few4 us s x hp.2 hb⟩⟩)) (fun w _ hp => Kd.C_below hr4 hp.1.hb) hl seen W ⟨h, hf⟩
  have HI := Aside0.mk (HI.mono (fun e w' h => show e = .returned (.bool (scan (bad4 us) A seen).1) ∧ OfF m n us fs A A2 A3 A4 c2 c3 c4 bP bG bU bF bA bS bI bO bK csK bR csR w0 (scan (bad4 us) A seen).2 sv w' ∧ ((scan (bad4 us) A seen).1 = false → Few us (scan (bad4 us) A seen).2) from ⟨h.1, by
    cases hb : (scan (bad4 us) A seen).1 with
    | true => exact h.2.1 hb
    | false => exact (h.2.2 hb).1, fun hb => (h.2.2 hb).2⟩))
  have f0 := (blk_cell h.a 0).trans (show _ = some (Value.slice A4 A.length c4) from rfl)
  obtain ⟨b, hb⟩ : ∃ b, (scan (bad4 us) A seen).1 = b := ⟨_, rfl⟩
  obtain ⟨s', hs'⟩ : ∃ s', (scan (bad4 us) A seen).2 = s' := ⟨_, rfl⟩
  rw [hb, hs'] at HI ⊢
  clear h hb hs' hf
  go_enter Try.func39, Try.ntmps39
  go_wp2_with (first | (go_at_call 40; refine HI.out.mono ?_; rintro e w' ⟨rfl, hq, hq2⟩; have HQ := Aside0.mk hq; have HQ2 := Aside0.mk hq2; clear hq hq2))
  go_ret
  exact ⟨rfl, HQ.out, HQ2.out⟩
end
section
variable {m n : Int} {us fs : List Int} {A : List S30} {A2 A3 A4 : Option Addr} {c2 c3 c4 : Nat} {bP bG bU bF bA bS bI bO bK bR : Nat} {csK csR : Array Value} {w0 : World} {seen : List Int} {sv : Value} {W W' : World}
/-- A place that is not told of. -/
def lost (n : Int) (us s : List Int) (p : Nat) : Bool := rd s p == 0 && rd us p != n
def ok5 (n : Int) (us s : List Int) : Bool := (List.range s.length).all (fun p => !(lost n us s p))
set_option maxHeartbeats 4000000 in
set_option maxRecDepth 100000 in
theorem rule5_calls (hr2 : Kd.C (Kd.int .i64) w0 A2 us.length us) (h : OfF m n us fs A A2 A3 A4 c2 c3 c4 bP bG bU bF bA bS bI bO bK csK bR csR w0 seen sv W) (hf : seen.length = us.length) (hl : us.length ≤ 100000) :
    Calls Try.prog 42 #[.pointer (some ⟨bS, 0, none⟩), .pointer (some ⟨bU, 0, none⟩), .pointer (some ⟨bG, 0, none⟩)] W fun e w' => e = .returned (.bool (ok5 n us seen)) ∧ OfF m n us fs A A2 A3 A4 c2 c3 c4 bP bG bU bF bA bS bI bO bK csK bR csR w0 seen sv w' := by
  obtain ⟨As, cs, hsv, hcs, HCs⟩ := Kd.R_reads h.sr
  have HSV := Aside0.mk hsv
  have s0 := (blk_cell h.s 0).trans (show _ = some (Value.slice As seen.length cs) from by rw [hsv]; rfl)
  have HF := Aside0.mk h
  have HR2 := Aside0.mk hr2
  have HCs := Aside0.mk HCs
  have hf2 := Aside0.mk hf
  clear h hr2 hsv
  go_enter Try.func42, Try.ntmps42
  go_wp2
  clear s0
  go_loopg [8] seen.length (fun gf i wr => ∃ (k : Nat), i = .int .i64 (k : Int) ∧ k + gf = seen.length ∧ Aside0 (∀ p, p < k → lost n us seen p = false) ∧ ∃ d, wr = W.drewN d)
  case atStart => exact ⟨0, rfl, by omega, ⟨fun p hp => by omega⟩, 0, rfl⟩
  case round =>
    obtain ⟨k, rfl, hk, hs, d, rfl⟩ := hrel
    by_cases hlt : k < seen.length
    · obtain ⟨g', rfl⟩ : ∃ g', gk = g' + 1 := ⟨gk - 1, by omega⟩
      have hlt2 : (k : Int) < (seen.length : Int) := by omega
      have hlt3 : (k : Int) < (us.length : Int) := by omega
      have hwi : IntKind.i64.wrap ((k : Int) + 1) = (k : Int) + 1 := wrap_ok _ (by omega) (by omega)
      obtain ⟨ad, c0, hA, _, hK, hc0⟩ := Kd.C_get HCs.out (0 : Int) (k : Int) (by omega) hlt2
      obtain ⟨y, hy⟩ : ∃ y, rd seen (k : Int) = y := ⟨_, rfl⟩
      have z0 : W.cell? (ad.add k) = some (.int .i64 y) := by
        have := hc0 0 (.int .i64 (rd seen (k : Int))) (by rw [show c0 = [.int .i64 (rd seen (k : Int))] from hK]; rfl)
        rw [hy] at this
        simpa [show (Kd.int IntKind.i64).sz = 1 from rfl] using this
      subst hA
      obtain ⟨au, hA2⟩ : ∃ ad, A2 = some ad := by
        obtain ⟨ad, e, _⟩ := HR2.out.2.2 (by omega)
        exact ⟨ad, e⟩
      have HA2 := Aside0.mk hA2
      obtain ⟨x, hx⟩ : ∃ x, rd us (k : Int) = x := ⟨_, rfl⟩
      have u1 : W.cell? (au.add k) = some (.int .i64 x) := by
        have := HF.out.cellU (ad := au) (hA2 ▸ HR2.out) (k : Int) (by omega) hlt3
        rw [hx] at this
        simpa using this
      have u0 := (blk_cell HF.out.u 0).trans (show _ = some (Value.slice A2 us.length c2) from rfl)
      rw [hA2] at u0
      have g0 := (blk_cell HF.out.g 0).trans (show _ = some (Value.int .i64 n) from rfl)
      have HL := Aside0.mk (show lost n us seen k = (y == 0 && x != n) from by unfold lost; rw [hy, hx])
      clear hc0 hK hy hx
      by_cases hy0 : y = 0
      · have hb1 : (y == 0) = true := by simpa using hy0
        by_cases hxn : x = n
        · have hb2 : (x != n) = false := by simp [hxn]
          have hb3 : (x == n) = true := by simpa using hxn
          go_wp2
          go_quiet (fail)
          go_wp2
          go_roundg g'
          case measure => omega
          case rel =>
            refine ⟨k + 1, rfl, by omega, ⟨fun p hp => ?_⟩, _, rfl⟩
            by_cases e : p = k
            · rw [e, HL.out, hb2, Bool.and_false]
            · exact hs.out p (by omega)
        · have hb2 : (x != n) = true := by simp [hxn]
          have hb3 : (x == n) = false := by simpa using hxn
          go_wp2
          go_quiet (fail)
          go_wp2
          go_ret
          refine ⟨?_, OfF.drewN (OfF.drewN HF.out _) _⟩
          have : ok5 n us seen = false := by
            unfold ok5
            apply List.all_eq_false.mpr
            exact ⟨k, List.mem_range.mpr hlt, by rw [HL.out, hb1, hb2]; simp⟩
          rw [this]
          rfl
      · have hb1 : (y == 0) = false := by simpa using hy0
        go_wp2
        go_quiet (fail)
        go_wp2
        go_roundg g'
        case measure => omega
        case rel =>
          refine ⟨k + 1, rfl, by omega, ⟨fun p hp => ?_⟩, _, rfl⟩
          by_cases e : p = k
          · rw [e, HL.out, hb1, Bool.false_and]
          · exact hs.out p (by omega)
    · have hge : ¬ (k : Int) < (seen.length : Int) := by omega
      go_wp2
      go_ret
      refine ⟨?_, OfF.drewN HF.out _⟩
      have : ok5 n us seen = true := by
        unfold ok5
        apply List.all_eq_true.mpr
        intro p hp
        rw [hs.out p (by have := List.mem_range.mp hp; omega)]
        rfl
      rw [this]
      rfl
end
end Go.Proofs.Ytppbdjoikdldiaa.PSlabOf
