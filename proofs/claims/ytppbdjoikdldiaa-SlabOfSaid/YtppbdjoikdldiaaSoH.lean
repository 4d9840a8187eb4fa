/- SoH: walks of the slab's functions. -/
import Derived.Test.YtppbdjoikdldiaaSoE
import Derived.Laws.EntriesVeiled
namespace Go.Proofs.Ytppbdjoikdldiaa.PSlabOf
open Go.RowKit Go.Proofs.YtppbdjoikdldiaaW.PrintWords Go.Proofs.YtppbdjoikdldiaaW.PrintLast Go.Proofs.YtppbdjoikdldiaaW.PrintMore
set_option linter.unusedVariables false
set_option linter.unusedSimpArgs false
/-- What Of's rules look at and write: the boxes of its variables, and the row of what was seen. -/
structure OfF (m n : Int) (us fs : List Int) (A : List S30) (A2 A3 A4 : Option Addr) (c2 c3 c4 : Nat) (bP bG bU bF bA bS bI bO bK : Nat) (csK : Array Value) (bR : Nat) (csR : Array Value) (w0 : World) (seen : List Int) (sv : Value) (W : World) : Prop where
  p : W.heap[bP]? = some (.cells #[.int .i64 m] 3 (0, 0))
  g : W.heap[bG]? = some (.cells #[.int .i64 n] 3 (0, 0))
  u : W.heap[bU]? = some (.cells #[.slice A2 us.length c2] 42 (0, 0))
  f : W.heap[bF]? = some (.cells #[.slice A3 fs.length c3] 42 (0, 0))
  a : W.heap[bA]? = some (.cells #[.slice A4 A.length c4] 28 (0, 0))
  s : W.heap[bS]? = some (.cells #[sv] 42 (0, 0))
  i : W.heap[bI]? = some (.cells #[.func (.func 31) #[] #[.pointer (some ⟨bU, 0, none⟩)]] 41 (0, 0))
  o : W.heap[bO]? = some (.cells #[.func (.func 32) #[] #[.pointer (some ⟨bS, 0, none⟩)]] 41 (0, 0))
  k : W.heap[bK]? = some (.cells csK 62 (0, 0))
  r : W.heap[bR]? = some (.cells csR 23 (0, 0))
  sr : Kd.R (Kd.int .i64) 3 W w0.heap.size (fun k => k ≠ bP ∧ k ≠ bG) sv seen
  hb : Below w0.heap.size w0 W
section
variable {m n : Int} {us fs : List Int} {A : List S30} {A2 A3 A4 : Option Addr} {c2 c3 c4 : Nat} {bP bG bU bF bA bS bI bO bK bR : Nat} {csK csR : Array Value} {w0 : World} {seen : List Int} {sv : Value} {W W' : World}
theorem OfF.below (h : OfF m n us fs A A2 A3 A4 c2 c3 c4 bP bG bU bF bA bS bI bO bK csK bR csR w0 seen sv W) (hb : Below W.heap.size W W') : OfF m n us fs A A2 A3 A4 c2 c3 c4 bP bG bU bF bA bS bI bO bK csK bR csR w0 seen sv W' :=
  ⟨blk_keep h.p hb, blk_keep h.g hb, blk_keep h.u hb, blk_keep h.f hb, blk_keep h.a hb, blk_keep h.s hb, blk_keep h.i hb, blk_keep h.o hb, blk_keep h.k hb, blk_keep h.r hb, Kd.R_below h.sr hb, below_step h.hb hb⟩
theorem OfF.drewN (h : OfF m n us fs A A2 A3 A4 c2 c3 c4 bP bG bU bF bA bS bI bO bK csK bR csR w0 seen sv W) (k : Nat) : OfF m n us fs A A2 A3 A4 c2 c3 c4 bP bG bU bF bA bS bI bO bK csK bR csR w0 seen sv (W.drewN k) := h.below (below_dr W k)
/-- Is it a place? -/
def inP (us : List Int) (p : Int) : Bool := decide (0 ≤ p ∧ p < us.length)
theorem in_calls (h : OfF m n us fs A A2 A3 A4 c2 c3 c4 bP bG bU bF bA bS bI bO bK csK bR csR w0 seen sv W) (p : Int) :
    Calls Try.prog 31 #[.int .i64 p, .pointer (some ⟨bU, 0, none⟩)] W fun e w' => e = .returned (.bool (inP us p)) ∧ Drawn0 W w' := by
  have u0 := (blk_cell h.u 0).trans (show _ = some (Value.slice A2 us.length c2) from rfl)
  have e : inP us p = (decide (p ≥ 0) && decide (p < (us.length : Int))) := by unfold inP; simp
  clear h
  go_enter Try.func31, Try.ntmps31
  by_cases h0 : 0 ≤ p
  · have d0 : decide (p ≥ 0) = true := decide_eq_true h0
    rw [d0, Bool.true_and] at e
    rw [e]
    go_wp2
    repeat (go_quiet (fail); try go_wp2)
    all_goals go_ret
    exact ⟨rfl, 0, rfl⟩
  · have d0 : decide (p ≥ 0) = false := decide_eq_false (by omega)
    rw [d0, Bool.false_and] at e
    rw [e]
    go_wp2
    repeat (go_quiet (fail); try go_wp2)
    all_goals go_ret
    exact ⟨rfl, 0, rfl⟩
theorem OfF.put (h : OfF m n us fs A A2 A3 A4 c2 c3 c4 bP bG bU bF bA bS bI bO bK csK bR csR w0 seen sv W) {gs cap : Nat} (hsv : sv = .slice (some ⟨gs, 0, none⟩) seen.length cap) (p : Int) (x : Int) : OfF m n us fs A A2 A3 A4 c2 c3 c4 bP bG bU bF bA bS bI bO bK csK bR csR w0 (seen.set p.toNat x) sv (W.setCell ⟨gs, p.toNat, none⟩ (.int .i64 x)) := by
  subst hsv
  obtain ⟨hr, hg⟩ := Kd.R_put (enc := Value.int .i64) (h1 := fun _ => rfl) h.sr p x
  have hq := h.sr.1 gs rfl
  have hge : w0.heap.size ≤ gs := Kd.R_base h.sr gs rfl
  obtain ⟨cells, hc⟩ := Kd.R_typed h.sr gs rfl
  have far : ∀ k, k ≠ gs → (W.setCell ⟨gs, p.toNat, none⟩ (.int .i64 x)).heap[k]? = W.heap[k]? := fun k hk => Below.heap_setCell W ⟨gs, p.toNat, none⟩ _ k hk
  have ne : ∀ (b : Nat) (cs : Array Value) (t : TypeId), t ≠ 3 → W.heap[b]? = some (.cells cs t (0, 0)) → b ≠ gs := fun b cs t ht hb => blk_ne hb hc ht
  exact ⟨(far _ (fun e => hq.1 e.symm)).trans h.p, (far _ (fun e => hq.2 e.symm)).trans h.g, (far _ (ne _ _ _ (by decide) h.u)).trans h.u, (far _ (ne _ _ _ (by decide) h.f)).trans h.f, (far _ (ne _ _ _ (by decide) h.a)).trans h.a, (far _ (ne _ _ _ (by decide) h.s)).trans h.s, (far _ (ne _ _ _ (by decide) h.i)).trans h.i, (far _ (ne _ _ _ (by decide) h.o)).trans h.o, (far _ (ne _ _ _ (by decide) h.k)).trans h.k, (far _ (ne _ _ _ (by decide) h.r)).trans h.r, hr, Below.setCell h.hb (p := ⟨gs, p.toNat, none⟩) hge _⟩
theorem once_calls (h : OfF m n us fs A A2 A3 A4 c2 c3 c4 bP bG bU bF bA bS bI bO bK csK bR csR w0 seen sv W) (p : Int) (h0 : 0 ≤ p) (h1 : p < seen.length) (hs0 : 0 ≤ rd seen p) (hs1 : rd seen p ≤ 1000000) :
    Calls Try.prog 32 #[.int .i64 p, .pointer (some ⟨bS, 0, none⟩)] W fun e w' => e = .returned (.bool (rd seen p + 1 == 1)) ∧ OfF m n us fs A A2 A3 A4 c2 c3 c4 bP bG bU bF bA bS bI bO bK csK bR csR w0 (seen.set p.toNat (rd seen p + 1)) sv w' ∧ W.heap.size ≤ w'.heap.size ∧ ∀ (k : Nat) (cs : Array Value) {t : TypeId} {fr : Nat × Nat}, W.heap[k]? = some (.cells cs t fr) → t ≠ 3 → w'.heap[k]? = some (.cells cs t fr) := by
  obtain ⟨gs, cap, hsv, hbg, hlt, _⟩ := Kd.R_form h.sr (by omega)
  have s0 := (blk_cell h.s 0).trans (show _ = some sv from rfl)
  have HF := Aside0.mk h
  have HP := Aside0.mk (OfF.put h hsv p (rd seen p + 1))
  have hlc : seen.length ≤ cap := by
    obtain ⟨A', c', he, hl, _⟩ := Kd.R_reads h.sr
    rw [hsv] at he
    injection he with _ _ e3
    omega
  have HSV := Aside0.mk hsv
  rw [hsv] at s0
  have hsr := h.sr
  rw [hsv] at hsr
  obtain ⟨qa, q1⟩ := Kd.R_cell (0 : Int) hsr p h0 h1
  have q0 : W.cell? ⟨gs, p.toNat, none⟩ = some (.int .i64 (rd seen p)) := qa
  clear qa
  obtain ⟨y, hy⟩ : ∃ y, rd seen p = y := ⟨_, rfl⟩
  rw [hy] at q0 hs0 hs1 HP ⊢
  clear hy
  have hw : IntKind.i64.wrap (y + 1) = y + 1 := wrap_ok _ (by omega) (by omega)
  have HV := Aside0.mk h
  clear h hsr
  have hne : gs ≠ bS := fun e => blk_ne HF.out.s (Kd.R_typed HF.out.sr gs (by rw [HSV.out]; rfl)).choose_spec (by decide) e.symm
  have hne2 : bS ≠ gs := fun e => hne e.symm
  go_enter Try.func32, Try.ntmps32
  go_wp2
  go_ret
  refine ⟨rfl, HP.out, by rw [World.size_setCell]; exact Nat.le_refl _, ?_⟩
  intro k cs t fr hk ht
  have hng : k ≠ gs := fun e => blk_ne hk (Kd.R_typed HF.out.sr gs (by rw [HSV.out]; rfl)).choose_spec ht e
  exact (Below.heap_setCell W ⟨gs, p.toNat, none⟩ _ k hng).trans hk
theorem rule1_calls (h : OfF m n us fs A A2 A3 A4 c2 c3 c4 bP bG bU bF bA bS bI bO bK csK bR csR w0 seen sv W) : Calls Try.prog 33 #[.pointer (some ⟨bU, 0, none⟩), .pointer (some ⟨bP, 0, none⟩)] W fun e w' => e = .returned (.bool (decide ((us.length : Int) ≤ m))) ∧ Below W.heap.size W w' := by
  have u0 := (blk_cell h.u 0).trans (show _ = some (Value.slice A2 us.length c2) from rfl)
  have p0 := (blk_cell h.p 0).trans (show _ = some (Value.int .i64 m) from rfl)
  clear h
  go_enter Try.func33, Try.ntmps33
  go_wp2
  repeat (go_quiet (fail); try go_wp2)
  go_ret
  exact ⟨rfl, Below.refl _ _⟩
def bad2 (n : Int) (x : Int) : Bool := decide (x < 1) || decide (n < x)
theorem bad2_calls (W : World) (n x : Int) (bG : Nat) (hg : W.heap[bG]? = some (.cells #[.int .i64 n] 3 (0, 0))) : Calls Try.prog 36 #[.int .i64 x, .pointer (some ⟨bG, 0, none⟩)] W fun e w' => e = .returned (.bool (bad2 n x)) ∧ Below W.heap.size W w' := by
  have g0 := (blk_cell hg 0).trans (show _ = some (Value.int .i64 n) from rfl)
  clear hg
  unfold bad2
  go_enter Try.func36, Try.ntmps36
  by_cases h1 : x < 1
  · have d1 : decide (x < 1) = true := decide_eq_true h1
    rw [d1, Bool.true_or]
    go_wp2
    repeat (go_quiet (fail); try go_wp2)
    go_ret
    exact ⟨rfl, Below.refl _ _⟩
  · have d1 : decide (x < 1) = false := decide_eq_false h1
    rw [d1, Bool.false_or]
    go_wp2
    repeat (go_quiet (fail); try go_wp2)
    go_ret
    exact ⟨rfl, Below.refl _ _⟩
end
/-- Is there one that a test says yes to? The test may write. -/
def scan {α σ : Type} (step : α → σ → Bool × σ) : List α → σ → Bool × σ
  | [], s => (false, s)
  | x :: xs, s => if (step x s).1 = true then (true, (step x s).2) else scan step xs (step x s).2
theorem scan_cons {α σ : Type} (step : α → σ → Bool × σ) (x : α) (xs : List α) (s : σ) : scan step (x :: xs) s = if (step x s).1 = true then (true, (step x s).2) else scan step xs (step x s).2 := rfl
theorem drop_consI (A : List Int) (j : Nat) (h : j < A.length) : A.drop j = rd A (j : Int) :: A.drop (j + 1) := by
  rw [List.drop_eq_getElem_cons h]
  unfold rd
  rw [List.getD_eq_getElem?_getD, Int.toNat_natCast, List.getElem?_eq_getElem h]
  rfl
theorem idx_36 {σ : Type} (P Q : σ → World → Prop) (step : Int → σ → Bool × σ) (b1 : Nat) (xs : List Int) (A : Option Addr) (c : Nat)
    (H : ∀ (s : σ) (x : Int) (W : World), P s W → x ∈ xs → Calls Try.prog 36 #[.int .i64 x, .pointer (some ⟨b1, 0, none⟩)] W fun e w' => e = .returned (.bool (step x s).1) ∧ ((step x s).1 = true → Q (step x s).2 w') ∧ ((step x s).1 = false → P (step x s).2 w'))
    (HC : ∀ W s, P s W → Kd.C (Kd.int .i64) W A xs.length xs) (hl : xs.length ≤ 100000) (s0 : σ) (W0 : World) (h0 : P s0 W0) :
    Calls Try.prog 50 #[.slice A xs.length c, .func (.func 36) #[] #[.pointer (some ⟨b1, 0, none⟩)]] W0 fun e w' => ∃ r : Int, e = .returned (.int .i64 r) ∧ (((scan step xs s0).1 = true ∧ 0 ≤ r ∧ Q (scan step xs s0).2 w') ∨ ((scan step xs s0).1 = false ∧ r = -1 ∧ P (scan step xs s0).2 w')) := by
  have H := Aside0.mk H
  have HP := Aside0.mk h0
  clear h0
  go_enter Try.func50, Try.ntmps50
  go_wp2
  go_loopg [8] xs.length (fun gf i wr => ∃ (k : Nat) (s : σ), i = .int .i64 (k : Int) ∧ k + gf = xs.length ∧ Aside0 (scan step xs s0 = scan step (xs.drop k) s) ∧ Aside0 (P s wr))
  case atStart => exact ⟨0, s0, rfl, by omega, ⟨rfl⟩, HP⟩
  case round =>
    obtain ⟨k, s, rfl, hk, hs, hp⟩ := hrel
    by_cases hlt : k < xs.length
    · obtain ⟨g', rfl⟩ : ∃ g', gk = g' + 1 := ⟨gk - 1, by omega⟩
      have hlt2 : (k : Int) < (xs.length : Int) := by omega
      obtain ⟨ad, c0, hA, _, hK, hc0⟩ := Kd.C_get (HC wr s hp.out) (0 : Int) (k : Int) (by omega) hlt2
      subst hA
      have z0 : wr.cell? (ad.add k) = some (.int .i64 (rd xs (k : Int))) := by
        have := hc0 0 (.int .i64 (rd xs (k : Int))) (by rw [show c0 = [.int .i64 (rd xs (k : Int))] from hK]; rfl)
        simpa [show (Kd.int IntKind.i64).sz = 1 from rfl] using this
      have hsd := hs.out
      rw [drop_consI xs k hlt] at hsd
      obtain ⟨x, hx⟩ : ∃ x, rd xs (k : Int) = x := ⟨_, rfl⟩
      rw [hx] at z0
      have hxm : x ∈ xs := by
        rw [← hx]; unfold rd; rw [List.getD_eq_getElem?_getD, Int.toNat_natCast, List.getElem?_eq_getElem hlt]; exact List.getElem_mem _
      rw [hx] at hsd
      have hsd := Aside0.mk hsd
      clear hs hx
      have hwi : IntKind.i64.wrap ((k : Int) + 1) = (k : Int) + 1 := wrap_ok _ (by omega) (by omega)
      have HH := Aside0.mk (H.out s x wr hp.out hxm)
      clear hxm
      obtain ⟨b, hb⟩ : ∃ b, (step x s).1 = b := ⟨_, rfl⟩
      obtain ⟨s', hs'⟩ : ∃ s', (step x s).2 = s' := ⟨_, rfl⟩
      rw [hb, hs'] at HH
      have hst : step x s = (b, s') := by rw [← hb, ← hs']
      have hst := Aside0.mk hst
      clear hb hs'
      cases b with
      | true =>
        go_wp2_with (first | (go_at_call 36; refine HH.out.mono ?_; rintro e w' ⟨rfl, hq, _⟩; have HQ := Aside0.mk (hq rfl); clear hq))
        go_ret
        refine ⟨(k : Int), rfl, .inl ?_⟩
        have := hsd.out
        rw [scan_cons, hst.out] at this
        rw [this]
        exact ⟨rfl, by omega, HQ.out⟩
      | false =>
        go_wp2_with (first | (go_at_call 36; refine HH.out.mono ?_; rintro e w' ⟨rfl, _, hq⟩; have HQ := Aside0.mk (hq rfl); clear hq))
        go_roundg g'
        case measure => omega
        case rel =>
          refine ⟨k + 1, s', rfl, by omega, ⟨?_⟩, HQ⟩
          have := hsd.out
          rw [scan_cons, hst.out] at this
          exact this
    · have hge : ¬ (k : Int) < (xs.length : Int) := by omega
      go_wp2
      go_ret
      refine ⟨-1, rfl, .inr ?_⟩
      have := hs.out
      rw [List.drop_of_length_le (by omega)] at this
      rw [this]
      exact ⟨rfl, rfl, hp.out⟩
theorem idx_38 {σ : Type} (P Q : σ → World → Prop) (step : Int → σ → Bool × σ) (b1 b2 b3 b4 : Nat) (xs : List Int) (A : Option Addr) (c : Nat)
    (H : ∀ (s : σ) (x : Int) (W : World), P s W → x ∈ xs → Calls Try.prog 38 #[.int .i64 x, .pointer (some ⟨b1, 0, none⟩), .pointer (some ⟨b2, 0, none⟩), .pointer (some ⟨b3, 0, none⟩), .pointer (some ⟨b4, 0, none⟩)] W fun e w' => e = .returned (.bool (step x s).1) ∧ ((step x s).1 = true → Q (step x s).2 w') ∧ ((step x s).1 = false → P (step x s).2 w'))
    (HC : ∀ W s, P s W → Kd.C (Kd.int .i64) W A xs.length xs) (hl : xs.length ≤ 100000) (s0 : σ) (W0 : World) (h0 : P s0 W0) :
    Calls Try.prog 50 #[.slice A xs.length c, .func (.func 38) #[] #[.pointer (some ⟨b1, 0, none⟩), .pointer (some ⟨b2, 0, none⟩), .pointer (some ⟨b3, 0, none⟩), .pointer (some ⟨b4, 0, none⟩)]] W0 fun e w' => ∃ r : Int, e = .returned (.int .i64 r) ∧ (((scan step xs s0).1 = true ∧ 0 ≤ r ∧ Q (scan step xs s0).2 w') ∨ ((scan step xs s0).1 = false ∧ r = -1 ∧ P (scan step xs s0).2 w')) := by
  have H := Aside0.mk H
  have HP := Aside0.mk h0
  clear h0
  go_enter Try.func50, Try.ntmps50
  go_wp2
  go_loopg [8] xs.length (fun gf i wr => ∃ (k : Nat) (s : σ), i = .int .i64 (k : Int) ∧ k + gf = xs.length ∧ Aside0 (scan step xs s0 = scan step (xs.drop k) s) ∧ Aside0 (P s wr))
  case atStart => exact ⟨0, s0, rfl, by omega, ⟨rfl⟩, HP⟩
  case round =>
    obtain ⟨k, s, rfl, hk, hs, hp⟩ := hrel
    by_cases hlt : k < xs.length
    · obtain ⟨g', rfl⟩ : ∃ g', gk = g' + 1 := ⟨gk - 1, by omega⟩
      have hlt2 : (k : Int) < (xs.length : Int) := by omega
      obtain ⟨ad, c0, hA, _, hK, hc0⟩ := Kd.C_get (HC wr s hp.out) (0 : Int) (k : Int) (by omega) hlt2
      subst hA
      have z0 : wr.cell? (ad.add k) = some (.int .i64 (rd xs (k : Int))) := by
        have := hc0 0 (.int .i64 (rd xs (k : Int))) (by rw [show c0 = [.int .i64 (rd xs (k : Int))] from hK]; rfl)
        simpa [show (Kd.int IntKind.i64).sz = 1 from rfl] using this
      have hsd := hs.out
      rw [drop_consI xs k hlt] at hsd
      obtain ⟨x, hx⟩ : ∃ x, rd xs (k : Int) = x := ⟨_, rfl⟩
      rw [hx] at z0
      have hxm : x ∈ xs := by
        rw [← hx]; unfold rd; rw [List.getD_eq_getElem?_getD, Int.toNat_natCast, List.getElem?_eq_getElem hlt]; exact List.getElem_mem _
      rw [hx] at hsd
      have hsd := Aside0.mk hsd
      clear hs hx
      have hwi : IntKind.i64.wrap ((k : Int) + 1) = (k : Int) + 1 := wrap_ok _ (by omega) (by omega)
      have HH := Aside0.mk (H.out s x wr hp.out hxm)
      clear hxm
      obtain ⟨b, hb⟩ : ∃ b, (step x s).1 = b := ⟨_, rfl⟩
      obtain ⟨s', hs'⟩ : ∃ s', (step x s).2 = s' := ⟨_, rfl⟩
      rw [hb, hs'] at HH
      have hst : step x s = (b, s') := by rw [← hb, ← hs']
      have hst := Aside0.mk hst
      clear hb hs'
      cases b with
      | true =>
        go_wp2_with (first | (go_at_call 38; refine HH.out.mono ?_; rintro e w' ⟨rfl, hq, _⟩; have HQ := Aside0.mk (hq rfl); clear hq))
        go_ret
        refine ⟨(k : Int), rfl, .inl ?_⟩
        have := hsd.out
        rw [scan_cons, hst.out] at this
        rw [this]
        exact ⟨rfl, by omega, HQ.out⟩
      | false =>
        go_wp2_with (first | (go_at_call 38; refine HH.out.mono ?_; rintro e w' ⟨rfl, _, hq⟩; have HQ := Aside0.mk (hq rfl); clear hq))
        go_roundg g'
        case measure => omega
        case rel =>
          refine ⟨k + 1, s', rfl, by omega, ⟨?_⟩, HQ⟩
          have := hsd.out
          rw [scan_cons, hst.out] at this
          exact this
    · have hge : ¬ (k : Int) < (xs.length : Int) := by omega
      go_wp2
      go_ret
      refine ⟨-1, rfl, .inr ?_⟩
      have := hs.out
      rw [List.drop_of_length_le (by omega)] at this
      rw [this]
      exact ⟨rfl, rfl, hp.out⟩
theorem idx_41 {σ : Type} (P Q : σ → World → Prop) (step : S30 → σ → Bool × σ) (b1 b2 b3 : Nat) (xs : List S30) (A : Option Addr) (c : Nat)
    (H : ∀ (s : σ) (x : S30) (W : World), P s W → x ∈ xs → Calls Try.prog 41 #[.agg #[.int .i64 x.f0, .int .i64 x.f1], .pointer (some ⟨b1, 0, none⟩), .pointer (some ⟨b2, 0, none⟩), .pointer (some ⟨b3, 0, none⟩)] W fun e w' => e = .returned (.bool (step x s).1) ∧ ((step x s).1 = true → Q (step x s).2 w') ∧ ((step x s).1 = false → P (step x s).2 w'))
    (HC : ∀ W s, P s W → Kd.C k30 W A xs.length xs) (hl : xs.length ≤ 100000) (s0 : σ) (W0 : World) (h0 : P s0 W0) :
    Calls Try.prog 51 #[.slice A xs.length c, .func (.func 41) #[] #[.pointer (some ⟨b1, 0, none⟩), .pointer (some ⟨b2, 0, none⟩), .pointer (some ⟨b3, 0, none⟩)]] W0 fun e w' => ∃ r : Int, e = .returned (.int .i64 r) ∧ (((scan step xs s0).1 = true ∧ 0 ≤ r ∧ Q (scan step xs s0).2 w') ∨ ((scan step xs s0).1 = false ∧ r = -1 ∧ P (scan step xs s0).2 w')) := by
  have H := Aside0.mk H
  have HP := Aside0.mk h0
  clear h0
  go_enter Try.func51, Try.ntmps51
  go_wp2
  go_loopg [8] xs.length (fun gf i wr => ∃ (k : Nat) (s : σ), i = .int .i64 (k : Int) ∧ k + gf = xs.length ∧ Aside0 (scan step xs s0 = scan step (xs.drop k) s) ∧ Aside0 (P s wr))
  case atStart => exact ⟨0, s0, rfl, by omega, ⟨rfl⟩, HP⟩
  case round =>
    obtain ⟨k, s, rfl, hk, hs, hp⟩ := hrel
    by_cases hlt : k < xs.length
    · obtain ⟨g', rfl⟩ : ∃ g', gk = g' + 1 := ⟨gk - 1, by omega⟩
      have hlt2 : (k : Int) < (xs.length : Int) := by omega
      obtain ⟨ad, hA, z0, z1⟩ := at_T30 (HC wr s hp.out) (k : Int) (by omega) hlt2
      subst hA
      simp only [Int.toNat_natCast] at z0 z1
      have hsd := hs.out
      rw [drop_cons30 xs k hlt] at hsd
      obtain ⟨x, hx⟩ : ∃ x, rd_T30 xs (k : Int) = x := ⟨_, rfl⟩
      rw [hx] at z0 z1
      have hxm : x ∈ xs := by
        rw [← hx]; unfold rd_T30; rw [List.getD_eq_getElem?_getD, Int.toNat_natCast, List.getElem?_eq_getElem hlt]; exact List.getElem_mem _
      rw [hx] at hsd
      have hsd := Aside0.mk hsd
      clear hs hx
      have hwi : IntKind.i64.wrap ((k : Int) + 1) = (k : Int) + 1 := wrap_ok _ (by omega) (by omega)
      have HH := Aside0.mk (H.out s x wr hp.out hxm)
      clear hxm
      obtain ⟨b, hb⟩ : ∃ b, (step x s).1 = b := ⟨_, rfl⟩
      obtain ⟨s', hs'⟩ : ∃ s', (step x s).2 = s' := ⟨_, rfl⟩
      rw [hb, hs'] at HH
      have hst : step x s = (b, s') := by rw [← hb, ← hs']
      have hst := Aside0.mk hst
      clear hb hs'
      cases b with
      | true =>
        go_wp2_with (first | (go_at_call 41; refine HH.out.mono ?_; rintro e w' ⟨rfl, hq, _⟩; have HQ := Aside0.mk (hq rfl); clear hq))
        go_ret
        refine ⟨(k : Int), rfl, .inl ?_⟩
        have := hsd.out
        rw [scan_cons, hst.out] at this
        rw [this]
        exact ⟨rfl, by omega, HQ.out⟩
      | false =>
        go_wp2_with (first | (go_at_call 41; refine HH.out.mono ?_; rintro e w' ⟨rfl, _, hq⟩; have HQ := Aside0.mk (hq rfl); clear hq))
        go_roundg g'
        case measure => omega
        case rel =>
          refine ⟨k + 1, s', rfl, by omega, ⟨?_⟩, HQ⟩
          have := hsd.out
          rw [scan_cons, hst.out] at this
          exact this
    · have hge : ¬ (k : Int) < (xs.length : Int) := by omega
      go_wp2
      go_ret
      refine ⟨-1, rfl, .inr ?_⟩
      have := hs.out
      rw [List.drop_of_length_le (by omega)] at this
      rw [this]
      exact ⟨rfl, rfl, hp.out⟩
section
variable {m n : Int} {us fs : List Int} {A : List S30} {A2 A3 A4 : Option Addr} {c2 c3 c4 : Nat} {bP bG bU bF bA bS bI bO bK bR : Nat} {csK csR : Array Value} {w0 : World} {seen : List Int} {sv : Value} {W W' : World}
/-- What a freed place tells of itself. -/
def bad3 (n : Int) (us : List Int) (p : Int) (s : List Int) : Bool × List Int := if inP us p = false then (true, s) else if rd us p = n then (true, s) else (!(rd s p + 1 == 1), s.set p.toNat (rd s p + 1))
/-- Each was seen once at most. -/
def Few (us s : List Int) : Prop := s.length = us.length ∧ ∀ p, 0 ≤ rd s p ∧ rd s p ≤ 1
theorem OfF.cellU (h : OfF m n us fs A A2 A3 A4 c2 c3 c4 bP bG bU bF bA bS bI bO bK csK bR csR w0 seen sv W) {ad : Addr} (hr : Kd.C (Kd.int .i64) w0 (some ad) us.length us) (p : Int) (h0 : 0 ≤ p) (h1 : p < us.length) : W.cell? (ad.add p.toNat) = some (.int .i64 (rd us p)) := by
  obtain ⟨ad', c0, hA, _, hK, hc0⟩ := Kd.C_get (Kd.C_below hr h.hb) (0 : Int) p h0 h1
  injection hA with hA
  subst hA
  have := hc0 0 (.int .i64 (rd us p)) (by rw [show c0 = [.int .i64 (rd us p)] from hK]; rfl)
  simpa [show (Kd.int IntKind.i64).sz = 1 from rfl] using this
theorem OfF.S3 (h : OfF m n us fs A A2 A3 A4 c2 c3 c4 bP bG bU bF bA bS bI bO bK csK bR csR w0 seen sv W) {ad : Addr} (hr : Kd.C (Kd.int .i64) w0 (some ad) us.length us) (p : Int) (h0 : 0 ≤ p) (h1 : p < us.length) (hA : A2 = some ad) :
    W.cell? ⟨bI, 0, none⟩ = some (.func (.func 31) #[] #[.pointer (some ⟨bU, 0, none⟩)]) ∧ W.cell? ⟨bO, 0, none⟩ = some (.func (.func 32) #[] #[.pointer (some ⟨bS, 0, none⟩)]) ∧ W.cell? ⟨bU, 0, none⟩ = some (.slice (some ad) us.length c2) ∧ W.cell? ⟨bG, 0, none⟩ = some (.int .i64 n) ∧ W.cell? (ad.add p.toNat) = some (.int .i64 (rd us p)) := by
  subst hA
  exact ⟨(blk_cell h.i 0).trans rfl, (blk_cell h.o 0).trans rfl, (blk_cell h.u 0).trans rfl, (blk_cell h.g 0).trans rfl, h.cellU hr p h0 h1⟩
set_option maxHeartbeats 4000000 in
set_option maxRecDepth 100000 in
theorem closure3 (hr2 : Kd.C (Kd.int .i64) w0 A2 us.length us) (h : OfF m n us fs A A2 A3 A4 c2 c3 c4 bP bG bU bF bA bS bI bO bK csK bR csR w0 seen sv W) (hf : Few us seen) (p : Int) :
    Calls Try.prog 38 #[.int .i64 p, .pointer (some ⟨bI, 0, none⟩), .pointer (some ⟨bU, 0, none⟩), .pointer (some ⟨bG, 0, none⟩), .pointer (some ⟨bO, 0, none⟩)] W fun e w' => e = .returned (.bool (bad3 n us p seen).1) ∧ OfF m n us fs A A2 A3 A4 c2 c3 c4 bP bG bU bF bA bS bI bO bK csK bR csR w0 (bad3 n us p seen).2 sv w' := by
  have i0 := (blk_cell h.i 0).trans (show _ = some (Value.func (.func 31) #[] #[.pointer (some ⟨bU, 0, none⟩)]) from rfl)
  have u0 := (blk_cell h.u 0).trans (show _ = some (Value.slice A2 us.length c2) from rfl)
  have g0 := (blk_cell h.g 0).trans (show _ = some (Value.int .i64 n) from rfl)
  have HF := Aside0.mk h
  have HFd := Aside0.mk (h.below (below_dw W))
  have HIN := Aside0.mk (in_calls HFd.out p)
  by_cases hin : inP us p = false
  · have e : bad3 n us p seen = (true, seen) := by unfold bad3; rw [if_pos hin]
    rw [e]
    clear h e
    go_enter Try.func38, Try.ntmps38
    go_upto_region 1 with (fail)
    go_quiet ((go_at_call 31; exact Calls.quiet_of ((in_calls (OfF.drewN HF.out _) p).mono (fun _ _ h => ⟨h.1.trans (by rw [hin]), h.2.out⟩))))
    go_wp2
    go_ret
    exact ⟨rfl, OfF.drewN HF.out _⟩
  · have hin2 : inP us p = true := by simpa using hin
    have hpp : 0 ≤ p ∧ p < us.length := by simpa [inP] using hin2
    obtain ⟨ad, hA2⟩ : ∃ ad, A2 = some ad := by
      obtain ⟨ad, e, _⟩ := hr2.2.2 (by omega)
      exact ⟨ad, e⟩
    have HR2 := Aside0.mk (show Kd.C (Kd.int .i64) w0 (some ad) us.length us from hA2 ▸ hr2)
    have HA2 := Aside0.mk hA2
    by_cases hn : rd us p = n
    · have e : bad3 n us p seen = (true, seen) := by unfold bad3; rw [if_neg hin, if_pos hn]
      rw [e]
      have z0 := h.cellU HR2.out p hpp.1 hpp.2
      have hb1 : (rd us p == n) = true := by simpa using hn
      obtain ⟨x, hx⟩ : ∃ x, rd us p = x := ⟨_, rfl⟩
      rw [hx] at z0 hb1
      clear h e hx hn hr2
      subst hA2
      go_enter Try.func38, Try.ntmps38
      go_upto_region 1 with (fail)
      go_quiet ((go_at_call 31; exact Calls.quiet_of ((in_calls (OfF.drewN HF.out _) p).mono (fun _ _ h => ⟨h.1.trans (by rw [hin2]), h.2.out⟩))))
      go_wp2
      go_ret
      exact ⟨rfl, OfF.drewN HF.out _⟩
    · have e : bad3 n us p seen = (!(rd seen p + 1 == 1), seen.set p.toNat (rd seen p + 1)) := by unfold bad3; rw [if_neg hin, if_neg hn]
      rw [e]
      have hb1 : (rd us p == n) = false := by simpa using hn
      have HFew := Aside0.mk hf
      rw [hin2] at HIN
      clear h e hn hr2 i0 u0 g0
      go_enter Try.func38, Try.ntmps38
      go_upto_region 1 with (fail)
      go_region_held3 (fun w' => w'.cell? ⟨bI, 0, none⟩ = some (.func (.func 31) #[] #[.pointer (some ⟨bU, 0, none⟩)]) ∧ w'.cell? ⟨bO, 0, none⟩ = some (.func (.func 32) #[] #[.pointer (some ⟨bS, 0, none⟩)]) ∧ w'.cell? ⟨bU, 0, none⟩ = some (.slice (some ad) us.length c2) ∧ w'.cell? ⟨bG, 0, none⟩ = some (.int .i64 n) ∧ w'.cell? (ad.add p.toNat) = some (.int .i64 (rd us p)))
        (first | (exact OfF.S3 HFd.out HR2.out p hpp.1 hpp.2 HA2.out) | (exact OfF.S3 HF1.out HR2.out p hpp.1 hpp.2 HA2.out) | (exact OfF.S3 HF2.out HR2.out p hpp.1 hpp.2 HA2.out))
        (first
          | (go_at_call 31; refine HIN.out.mono ?_; rintro e w1 ⟨rfl, hd⟩; have HF1 := Aside0.mk (OfF.below HFd.out hd.below); clear hd)
          | (go_at_call 32; refine (once_calls HF1.out p hpp.1 (by have := HFew.out.1; omega) (HFew.out.2 p).1 (by have := (HFew.out.2 p).2; omega)).mono ?_; rintro e w2 ⟨rfl, hh, _, _⟩; have HF2 := Aside0.mk hh; clear hh))
      all_goals go_wp2
      all_goals go_ret
      all_goals exact ⟨rfl, HF2.out⟩
end
section
variable {m n : Int} {us fs : List Int} {A : List S30} {A2 A3 A4 : Option Addr} {c2 c3 c4 : Nat} {bP bG bU bF bA bS bI bO bK bR : Nat} {csK csR : Array Value} {w0 : World} {seen : List Int} {sv : Value} {W W' : World}
/-- What one that is alive tells of itself. -/
def bad4 (us : List Int) (h : S30) (s : List Int) : Bool × List Int := if inP us h.f0 = false then (true, s) else if rd us h.f0 = h.f1 then (!(rd s h.f0 + 1 == 1), s.set h.f0.toNat (rd s h.f0 + 1)) else (true, s)
theorem OfF.S4 (h : OfF m n us fs A A2 A3 A4 c2 c3 c4 bP bG bU bF bA bS bI bO bK csK bR csR w0 seen sv W) {ad : Addr} (hr : Kd.C (Kd.int .i64) w0 (some ad) us.length us) (p q : Int) (h0 : 0 ≤ p) (h1 : p < us.length) (hA : A2 = some ad) {b4 : Nat} (hb : W.heap[b4]? = some (.cells #[.int .i64 p, .int .i64 q] 30 (0, 0))) :
    W.cell? ⟨bI, 0, none⟩ = some (.func (.func 31) #[] #[.pointer (some ⟨bU, 0, none⟩)]) ∧ W.cell? ⟨bO, 0, none⟩ = some (.func (.func 32) #[] #[.pointer (some ⟨bS, 0, none⟩)]) ∧ W.cell? ⟨bU, 0, none⟩ = some (.slice (some ad) us.length c2) ∧ W.cell? ⟨b4, 0, none⟩ = some (.int .i64 p) ∧ W.cell? ⟨b4, 1, none⟩ = some (.int .i64 q) ∧ W.cell? (ad.add p.toNat) = some (.int .i64 (rd us p)) := by
  subst hA
  exact ⟨(blk_cell h.i 0).trans rfl, (blk_cell h.o 0).trans rfl, (blk_cell h.u 0).trans rfl, (blk_cell hb 0).trans rfl, (blk_cell hb 1).trans rfl, h.cellU hr p h0 h1⟩
set_option maxHeartbeats 4000000 in
set_option maxRecDepth 100000 in
theorem closure4 (hr2 : Kd.C (Kd.int .i64) w0 A2 us.length us) (h : OfF m n us fs A A2 A3 A4 c2 c3 c4 bP bG bU bF bA bS bI bO bK csK bR csR w0 seen sv W) (hf : Few us seen) (x : S30) :
    Calls Try.prog 41 #[.agg #[.int .i64 x.f0, .int .i64 x.f1], .pointer (some ⟨bI, 0, none⟩), .pointer (some ⟨bU, 0, none⟩), .pointer (some ⟨bO, 0, none⟩)] W fun e w' => e = .returned (.bool (bad4 us x seen).1) ∧ OfF m n us fs A A2 A3 A4 c2 c3 c4 bP bG bU bF bA bS bI bO bK csK bR csR w0 (bad4 us x seen).2 sv w' := by
  have hu30 := Try.underlying30
  obtain ⟨p, q⟩ := x
  show Calls Try.prog 41 #[.agg #[.int .i64 p, .int .i64 q], _, _, _] W _
  have HF := Aside0.mk (h.below (below_al W (Obj.cells #[.int .i64 p, .int .i64 q] 30)))
  have X1 := Aside0.mk (heap_alloc_new W (Obj.cells #[.int .i64 p, .int .i64 q] 30))
  clear h
  by_cases hin : inP us p = false
  · have e : bad4 us ⟨p, q⟩ seen = (true, seen) := by unfold bad4; rw [if_pos hin]
    rw [e]
    clear e
    go_enter Try.func41, Try.ntmps41
    go_upto_region 1 with (fail)
    obtain ⟨b4, hb4⟩ : ∃ b4, W.heap.size = b4 := ⟨_, rfl⟩
    rw [hb4] at X1 ⊢
    generalize (W.alloc (Obj.cells #[Value.int IntKind.i64 p, Value.int IntKind.i64 q] 30)) = W1 at HF X1 ⊢
    have i0 := (blk_cell HF.out.i 0).trans (show _ = some (Value.func (.func 31) #[] #[.pointer (some ⟨bU, 0, none⟩)]) from rfl)
    have k0 := (blk_cell X1.out 0).trans (show _ = some (Value.int .i64 p) from rfl)
    go_quiet ((go_at_call 31; exact Calls.quiet_of ((in_calls (OfF.drewN HF.out _) p).mono (fun _ _ h => ⟨h.1.trans (by rw [hin]), h.2.out⟩))))
    go_wp2
    go_ret
    exact ⟨rfl, OfF.drewN HF.out _⟩
  · have hin2 : inP us p = true := by simpa using hin
    have hpp : 0 ≤ p ∧ p < us.length := by simpa [inP] using hin2
    obtain ⟨ad, hA2⟩ : ∃ ad, A2 = some ad := by
      obtain ⟨ad, e, _⟩ := hr2.2.2 (by omega)
      exact ⟨ad, e⟩
    have HR2 := Aside0.mk (show Kd.C (Kd.int .i64) w0 (some ad) us.length us from hA2 ▸ hr2)
    have HA2 := Aside0.mk hA2
    by_cases hn : rd us p = q
    · have e : bad4 us ⟨p, q⟩ seen = (!(rd seen p + 1 == 1), seen.set p.toNat (rd seen p + 1)) := by unfold bad4; rw [if_neg hin, if_pos hn]
      rw [e]
      have hb1 : (rd us p == q) = true := by simpa using hn
      have hb2 : (rd us p != q) = false := by simp [bne, hb1]
      have HFew := Aside0.mk hf
      clear e hn hr2
      go_enter Try.func41, Try.ntmps41
      go_upto_region 1 with (fail)
      obtain ⟨b4, hb4⟩ : ∃ b4, W.heap.size = b4 := ⟨_, rfl⟩
      rw [hb4] at X1 ⊢
      generalize (W.alloc (Obj.cells #[Value.int IntKind.i64 p, Value.int IntKind.i64 q] 30)) = W1 at HF X1 ⊢
      have HFd := Aside0.mk (HF.out.below (below_dw W1))
      have Xd := Aside0.mk (blk_keep X1.out (below_dw W1))
      have HIN := Aside0.mk (in_calls HFd.out p)
      rw [hin2] at HIN
      clear HF X1
      go_region_held3 (fun w' => w'.cell? ⟨bI, 0, none⟩ = some (.func (.func 31) #[] #[.pointer (some ⟨bU, 0, none⟩)]) ∧ w'.cell? ⟨bO, 0, none⟩ = some (.func (.func 32) #[] #[.pointer (some ⟨bS, 0, none⟩)]) ∧ w'.cell? ⟨bU, 0, none⟩ = some (.slice (some ad) us.length c2) ∧ w'.cell? ⟨b4, 0, none⟩ = some (.int .i64 p) ∧ w'.cell? ⟨b4, 1, none⟩ = some (.int .i64 q) ∧ w'.cell? (ad.add p.toNat) = some (.int .i64 (rd us p)))
        (first | (exact OfF.S4 HFd.out HR2.out p q hpp.1 hpp.2 HA2.out Xd.out) | (exact OfF.S4 HF1.out HR2.out p q hpp.1 hpp.2 HA2.out X2.out) | (exact OfF.S4 HF2.out HR2.out p q hpp.1 hpp.2 HA2.out X3.out))
        (first
          | (go_at_call 31; refine HIN.out.mono ?_; rintro e w1 ⟨rfl, hd⟩; have HF1 := Aside0.mk (OfF.below HFd.out hd.below); have X2 := Aside0.mk (blk_keep Xd.out hd.below); clear hd)
          | (go_at_call 32; refine (once_calls HF1.out p hpp.1 (by have := HFew.out.1; omega) (HFew.out.2 p).1 (by have := (HFew.out.2 p).2; omega)).mono ?_; rintro e w2 ⟨rfl, hh, _, hkk⟩; have HF2 := Aside0.mk hh; have X3 := Aside0.mk (hkk _ _ X2.out (by decide)); clear hh hkk))
      all_goals go_wp2
      all_goals go_ret
      all_goals exact ⟨rfl, HF2.out⟩
    · have e : bad4 us ⟨p, q⟩ seen = (true, seen) := by unfold bad4; rw [if_neg hin, if_neg hn]
      rw [e]
      have z0 := HF.out.cellU HR2.out p hpp.1 hpp.2
      have hb1 : (rd us p == q) = false := by simpa using hn
      have hb2 : (rd us p != q) = true := by simp [bne, hb1]
      obtain ⟨y, hy⟩ : ∃ y, rd us p = y := ⟨_, rfl⟩
      rw [hy] at z0 hb1 hb2
      clear e hy hn hr2
      subst hA2
      go_enter Try.func41, Try.ntmps41
      go_upto_region 1 with (fail)
      obtain ⟨b4, hb4⟩ : ∃ b4, W.heap.size = b4 := ⟨_, rfl⟩
      rw [hb4] at X1 ⊢
      generalize (W.alloc (Obj.cells #[Value.int IntKind.i64 p, Value.int IntKind.i64 q] 30)) = W1 at HF X1 z0 ⊢
      have i0 := (blk_cell HF.out.i 0).trans (show _ = some (Value.func (.func 31) #[] #[.pointer (some ⟨bU, 0, none⟩)]) from rfl)
      have u0 := (blk_cell HF.out.u 0).trans (show _ = some (Value.slice (some ad) us.length c2) from rfl)
      have k0 := (blk_cell X1.out 0).trans (show _ = some (Value.int .i64 p) from rfl)
      have k1 := (blk_cell X1.out 1).trans (show _ = some (Value.int .i64 q) from rfl)
      go_quiet ((go_at_call 31; exact Calls.quiet_of ((in_calls (OfF.drewN HF.out _) p).mono (fun _ _ h => ⟨h.1.trans (by rw [hin2]), h.2.out⟩))))
      go_wp2
      go_ret
      exact ⟨rfl, OfF.drewN HF.out _⟩
end
end Go.Proofs.Ytppbdjoikdldiaa.PSlabOf
