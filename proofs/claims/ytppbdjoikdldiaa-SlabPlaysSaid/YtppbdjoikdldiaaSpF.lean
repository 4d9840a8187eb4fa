/- SpF: walks of the slab's functions. -/
import Derived.Test.YtppbdjoikdldiaaSpE
namespace Go.Proofs.Ytppbdjoikdldiaa.PSlabPlays
open Go.RowKit Go.Proofs.YtppbdjoikdldiaaW.PrintWords Go.Proofs.YtppbdjoikdldiaaW.PrintLast Go.Proofs.YtppbdjoikdldiaaW.PrintMore
set_option linter.unusedVariables false
set_option linter.unusedSimpArgs false
/-! A slab beside the document's own, its rows apart. -/
abbrev ownOf (v2 v3 v4 : Value) (N : Nat) (h : ∀ k, N ≤ k → some k ≠ v2.ownBlock ∧ some k ≠ v3.ownBlock ∧ some k ≠ v4.ownBlock) : Own where
  Q := fun k => some k ≠ v2.ownBlock ∧ some k ≠ v3.ownBlock ∧ some k ≠ v4.ownBlock
  N := N
  new := h
def Fl {α : Type} (d : Kd α) (e : Nat) (base : Nat) (W : World) (v : Value) (xs : List α) : Prop := Kd.R d e W base (fun k => some k = v.ownBlock) v xs
theorem flat_int {e base : Nat} {ok : Nat → Prop} {w : World} {v : Value} {xs : List Int} (h : Kd.R (Kd.int .i64) e w base ok v xs) : Fl (Kd.int .i64) e base w v xs := Kd.R_flat (fun h => h) h (fun k hk _ => hk.symm)
theorem flat_30 {e base : Nat} {ok : Nat → Prop} {w : World} {v : Value} {xs : List S30} (h : Kd.R k30 e w base ok v xs) : Fl k30 e base w v xs := Kd.R_flat (fun {_ _ _ _} h => by obtain ⟨_, _, rfl, rfl, rfl⟩ := h; exact ⟨_, _, rfl, rfl, rfl⟩) h (fun k hk _ => hk.symm)
theorem unflat_int {e base : Nat} {ok : Nat → Prop} {w : World} {v : Value} {xs : List Int} (h : Fl (Kd.int .i64) e base w v xs) (hok : ∀ k, some k = v.ownBlock → ok k) : Kd.R (Kd.int .i64) e w base ok v xs := Kd.R_mono h hok
theorem unflat_30 {e base : Nat} {ok : Nat → Prop} {w : World} {v : Value} {xs : List S30} (h : Fl k30 e base w v xs) (hok : ∀ k, some k = v.ownBlock → ok k) : Kd.R k30 e w base ok v xs := Kd.R_mono h hok
theorem Fl.move {α : Type} {d : Kd α} {e base : Nat} {w w' : World} {v : Value} {xs : List α} (h : Fl d e base w v xs) (hm : ∀ k, some k = v.ownBlock → k < w.heap.size → w'.heap[k]? = w.heap[k]?) : Fl d e base w' v xs := Kd.R_step h hm
theorem Fl.lt {α : Type} {d : Kd α} {e base : Nat} {w : World} {v : Value} {xs : List α} (h : Fl d e base w v xs) {k : Nat} (hk : some k = v.ownBlock) : k < w.heap.size := Kd.R_lt h k hk.symm
theorem Fl.ty {α : Type} {d : Kd α} {e base : Nat} {w : World} {v : Value} {xs : List α} (h : Fl d e base w v xs) {k : Nat} (hk : some k = v.ownBlock) : ∃ cells, w.heap[k]? = some (.cells cells e (0, 0)) := Kd.R_typed h k hk.symm
theorem Fl.neTy {α : Type} {d : Kd α} {e base : Nat} {w : World} {v : Value} {xs : List α} (h : Fl d e base w v xs) {k t : Nat} {cs : Array Value} {fr : Nat × Nat} (hb : w.heap[k]? = some (.cells cs t fr)) (ht : t ≠ e) : some k ≠ v.ownBlock := by
  intro hk
  obtain ⟨cells, hc⟩ := h.ty hk
  rw [hb] at hc
  injection hc with hc
  injection hc with _ h2 _
  exact ht h2
theorem SW.reown {o1 o2 : Own} {base : Nat} {w : World} {g : Nat} {S : SSt} (h : @SW o1 base w g S) (hq : ∀ k, k < w.heap.size → o1.Q k → o2.Q k) (hn : o2.N ≤ w.heap.size) : @SW o2 base w g S := by
  obtain ⟨⟨vp, vf, hs⟩, hi⟩ := h
  exact ⟨⟨vp, vf, hs.1, hs.2.1, Kd.R_mono (Kd.R_bound hs.2.2.1) (fun k hk => hq k hk.2.2.1 hk.1), Kd.R_mono (Kd.R_bound hs.2.2.2.1) (fun k hk => hq k hk.2.2.1 hk.1), hq g (blk_lt hs.1) hs.2.2.2.2.1, hn⟩, hi⟩
theorem SW.moveO {o : Own} {base : Nat} {w w' : World} {g : Nat} {S : SSt} (h : @SW o base w g S) (hm : ∀ k, k < w.heap.size → o.Q k → w'.heap[k]? = w.heap[k]?) (hsz : w.heap.size ≤ w'.heap.size) : @SW o base w' g S := by
  obtain ⟨⟨vp, vf, hs⟩, hi⟩ := h
  exact ⟨⟨vp, vf, (hm g (blk_lt hs.1) hs.2.2.2.2.1).trans hs.1, hs.2.1, Kd.R_step hs.2.2.1 (fun k h1 h2 => hm k h2 h1), Kd.R_step hs.2.2.2.1 (fun k h1 h2 => hm k h2 h1), hs.2.2.2.2.1, Nat.le_trans hs.2.2.2.2.2 hsz⟩, hi⟩
structure PlF (base g : Nat) (S R : SSt) (A T : List S30) (v2 v3 v4 tv : Value) (W : World) : Prop where
  r2 : Fl (Kd.int .i64) 3 base W v2 R.used
  r3 : Fl (Kd.int .i64) 3 base W v3 R.fs
  r4 : Fl k30 30 base W v4 A
  d23 : ∀ k, some k = v2.ownBlock → some k ≠ v3.ownBlock
  t : Fl k30 30 base W tv T
  dt : ∀ k, some k = tv.ownBlock → some k ≠ v4.ownBlock
  al : R.AliveOf A
  inv : R.Inv
  sw : ∃ h, @SW (ownOf v2 v3 v4 W.heap.size h) base W g S
theorem PlF.top {base g : Nat} {S R : SSt} {A T : List S30} {v2 v3 v4 tv : Value} {W : World} (h : PlF base g S R A T v2 v3 v4 tv W) (W' : World) (hsz : W.heap.size ≤ W'.heap.size) : ∀ k, W'.heap.size ≤ k → some k ≠ v2.ownBlock ∧ some k ≠ v3.ownBlock ∧ some k ≠ v4.ownBlock :=
  fun k hk => ⟨fun e => by have := h.r2.lt e; omega, fun e => by have := h.r3.lt e; omega, fun e => by have := h.r4.lt e; omega⟩
theorem PlF.below {base g : Nat} {S R : SSt} {A T : List S30} {v2 v3 v4 tv : Value} {W W' : World} (h : PlF base g S R A T v2 v3 v4 tv W) (hb : Below W.heap.size W W') : PlF base g S R A T v2 v3 v4 tv W' := by
  obtain ⟨hN, hs⟩ := h.sw
  refine ⟨h.r2.move (fun k _ hk => hb.block k hk), h.r3.move (fun k _ hk => hb.block k hk), h.r4.move (fun k _ hk => hb.block k hk), h.d23, h.t.move (fun k _ hk => hb.block k hk), h.dt, h.al, h.inv, h.top W' hb.size, ?_⟩
  exact SW.reown (SW.moveO hs (fun k hk _ => hb.block k hk) hb.size) (fun k _ hq => hq) (Nat.le_refl _)
/-- Behind an operation on the slab. -/
theorem PlF.slab {base g : Nat} {S S' R : SSt} {A T : List S30} {v2 v3 v4 tv : Value} {W W' : World} (h : PlF base g S R A T v2 v3 v4 tv W) (hN : ∀ k, W.heap.size ≤ k → some k ≠ v2.ownBlock ∧ some k ≠ v3.ownBlock ∧ some k ≠ v4.ownBlock)
    (hs : @SW (ownOf v2 v3 v4 W.heap.size hN) base W' g S') (hst : @Stays (ownOf v2 v3 v4 W.heap.size hN) W W') : PlF base g S' R A T v2 v3 v4 tv W' := by
  have hk : ∀ k, k < W.heap.size → (some k = v2.ownBlock ∨ some k = v3.ownBlock ∨ some k = v4.ownBlock) → W'.heap[k]? = W.heap[k]? := by
    intro k hk hv
    refine (@Stays.keep (ownOf v2 v3 v4 W.heap.size hN) W W' hst) k hk (fun hq => ?_)
    rcases hv with e | e | e
    · exact hq.1 e
    · exact hq.2.1 e
    · exact hq.2.2 e
  refine ⟨h.r2.move (fun k e hl => hk k hl (.inl e)), h.r3.move (fun k e hl => hk k hl (.inr (.inl e))), h.r4.move (fun k e hl => hk k hl (.inr (.inr e))), h.d23, h.t.move (fun k e hl => ?_), h.dt, h.al, h.inv, h.top W' (@Stays.le (ownOf v2 v3 v4 W.heap.size hN) W W' hst), ?_⟩
  · obtain ⟨cells, hc⟩ := h.t.ty e
    rw [hc]
    exact (@Stays.typ (ownOf v2 v3 v4 W.heap.size hN) W W' hst) _ _ _ _ hc (by decide) (by decide) (by decide)
  · exact SW.reown hs (fun k _ hq => hq) (Nat.le_refl _)
/-- Behind an operation on the document's own. -/
theorem PlF.ref {base g : Nat} {S R R' : SSt} {A A' T : List S30} {v2 v3 v4 tv v2' v3' v4' : Value} {W W' : World} (h : PlF base g S R A T v2 v3 v4 tv W)
    (hk : Kept W W' (fun k => some k = v2.ownBlock ∨ some k = v3.ownBlock ∨ some k = v4.ownBlock))
    (h2 : Kd.R (Kd.int .i64) 3 W' base (fun k_ => ((some k_ = v2.ownBlock ∨ some k_ = v3.ownBlock ∨ some k_ = v4.ownBlock) ∨ W.heap.size ≤ k_) ∧ some k_ ≠ (v3' : Value).ownBlock) v2' R'.used)
    (h3 : Kd.R (Kd.int .i64) 3 W' base (fun k_ => ((some k_ = v2.ownBlock ∨ some k_ = v3.ownBlock ∨ some k_ = v4.ownBlock) ∨ W.heap.size ≤ k_) ∧ some k_ ≠ (v2' : Value).ownBlock) v3' R'.fs)
    (h4 : Kd.R k30 30 W' base (fun k_ => ((some k_ = v2.ownBlock ∨ some k_ = v3.ownBlock ∨ some k_ = v4.ownBlock) ∨ W.heap.size ≤ k_)) v4' A') (hal : R'.AliveOf A') (hinv : R'.Inv) : PlF base g S R' A' T v2' v3' v4' tv W' := by
  have f2 := flat_int h2
  have f3 := flat_int h3
  have f4 := flat_30 h4
  have out : ∀ k, k < W.heap.size → (some k ≠ v2.ownBlock ∧ some k ≠ v3.ownBlock ∧ some k ≠ v4.ownBlock) → some k ≠ v2'.ownBlock ∧ some k ≠ v3'.ownBlock ∧ some k ≠ v4'.ownBlock := by
    intro k hlt hn
    refine ⟨fun e => ?_, fun e => ?_, fun e => ?_⟩
    · have := (h2.1 k e.symm).1
      rcases this with (e | e | e) | e
      · exact hn.1 e
      · exact hn.2.1 e
      · exact hn.2.2 e
      · omega
    · have := (h3.1 k e.symm).1
      rcases this with (e | e | e) | e
      · exact hn.1 e
      · exact hn.2.1 e
      · exact hn.2.2 e
      · omega
    · have := h4.1 k e.symm
      rcases this with (e | e | e) | e
      · exact hn.1 e
      · exact hn.2.1 e
      · exact hn.2.2 e
      · omega
  have keep : ∀ k, k < W.heap.size → (some k ≠ v2.ownBlock ∧ some k ≠ v3.ownBlock ∧ some k ≠ v4.ownBlock) → W'.heap[k]? = W.heap[k]? := by
    intro k hlt hn
    refine hk.2 k hlt ?_
    rintro (e | e | e)
    · exact hn.1 e
    · exact hn.2.1 e
    · exact hn.2.2 e
  have tn : ∀ k, some k = tv.ownBlock → some k ≠ v2.ownBlock ∧ some k ≠ v3.ownBlock ∧ some k ≠ v4.ownBlock := by
    intro k e
    obtain ⟨cells, hc⟩ := h.t.ty e
    exact ⟨h.r2.neTy hc (by decide), h.r3.neTy hc (by decide), h.dt k e⟩
  have top : ∀ k, W'.heap.size ≤ k → some k ≠ v2'.ownBlock ∧ some k ≠ v3'.ownBlock ∧ some k ≠ v4'.ownBlock := fun k hk => ⟨fun e => by have := f2.lt e; omega, fun e => by have := f3.lt e; omega, fun e => by have := f4.lt e; omega⟩
  obtain ⟨hN, hs⟩ := h.sw
  refine ⟨f2, f3, f4, fun k e => (h2.1 k e.symm).2, h.t.move (fun k e hl => keep k hl (tn k e)), fun k e => (out k (h.t.lt e) (tn k e)).2.2, hal, hinv, top, ?_⟩
  have hs2 := SW.moveO hs (fun k hlt hq => keep k hlt hq) hk.1
  obtain ⟨⟨vp, vf, hz⟩, hi⟩ := hs
  obtain ⟨⟨vp2, vf2, hz2⟩, hi2⟩ := hs2
  refine ⟨⟨vp, vf, (keep g (blk_lt hz.1) hz.2.2.2.2.1).trans hz.1, hz.2.1, ?_, ?_, out g (blk_lt hz.1) hz.2.2.2.2.1, Nat.le_refl _⟩, hi⟩
  · exact Kd.R_mono (Kd.R_step (Kd.R_bound hz.2.2.1) (fun k h1 h2 => keep k h2 h1.1)) (fun k hk => out k hk.2.2.1 hk.1)
  · exact Kd.R_mono (Kd.R_step (Kd.R_bound hz.2.2.2.1) (fun k h1 h2 => keep k h2 h1.1)) (fun k hk => out k hk.2.2.1 hk.1)
theorem Fl.Ci' {base : Nat} {W : World} {A : Option Addr} {n c : Nat} {xs : List Int} (h : Fl (Kd.int .i64) 3 base W (.slice A n c) xs) : n = xs.length ∧ xs.length ≤ c ∧ Kd.C (Kd.int .i64) W A xs.length xs := by
  obtain ⟨A', c', he, hl, hC⟩ := Kd.R_reads h
  injection he with e1 e2 e3
  subst e1 e2 e3
  exact ⟨rfl, hl, hC⟩
theorem Fl.C30' {base : Nat} {W : World} {A : Option Addr} {n c : Nat} {xs : List S30} (h : Fl k30 30 base W (.slice A n c) xs) : n = xs.length ∧ xs.length ≤ c ∧ Kd.C k30 W A xs.length xs := by
  obtain ⟨A', c', he, hl, hC⟩ := Kd.R_reads h
  injection he with e1 e2 e3
  subst e1 e2 e3
  exact ⟨rfl, hl, hC⟩
/-- A block of the call's own that is none of these. -/
def Loc (b : Nat) (cs : Array Value) (t : Nat) (v4 tv : Value) (W : World) : Prop := W.heap[b]? = some (.cells cs t (0, 0)) ∧ (t ≠ 62 ∧ t ≠ 64 ∧ t ≠ 3) ∧ some b ≠ v4.ownBlock ∧ some b ≠ tv.ownBlock
theorem Loc.below {b : Nat} {cs : Array Value} {t : Nat} {v4 tv : Value} {W W' : World} (h : Loc b cs t v4 tv W) (hb : Below W.heap.size W W') : Loc b cs t v4 tv W' := ⟨blk_keep h.1 hb, h.2⟩
theorem Loc.slab {b : Nat} {cs : Array Value} {t : Nat} {v2 v3 v4 tv : Value} {W W' : World} {hN : ∀ k, W.heap.size ≤ k → some k ≠ v2.ownBlock ∧ some k ≠ v3.ownBlock ∧ some k ≠ v4.ownBlock} (h : Loc b cs t v4 tv W) (hst : @Stays (ownOf v2 v3 v4 W.heap.size hN) W W') : Loc b cs t v4 tv W' := ⟨(@Stays.typ (ownOf v2 v3 v4 W.heap.size hN) W W' hst) _ _ _ _ h.1 h.2.1.1 h.2.1.2.1 h.2.1.2.2, h.2⟩
theorem Loc.ref {b : Nat} {cs : Array Value} {t : Nat} {base g : Nat} {S R : SSt} {A T : List S30} {v2 v3 v4 tv v4' : Value} {A' : List S30} {W W' : World} (h : Loc b cs t v4 tv W) (hp : PlF base g S R A T v2 v3 v4 tv W)
    (hk : Kept W W' (fun k => some k = v2.ownBlock ∨ some k = v3.ownBlock ∨ some k = v4.ownBlock))
    (h4 : Kd.R k30 30 W' base (fun k_ => ((some k_ = v2.ownBlock ∨ some k_ = v3.ownBlock ∨ some k_ = v4.ownBlock) ∨ W.heap.size ≤ k_)) v4' A') : Loc b cs t v4' tv W' := by
  have hlt := blk_lt h.1
  have n2 := hp.r2.neTy h.1 h.2.1.2.2
  have n3 := hp.r3.neTy h.1 h.2.1.2.2
  refine ⟨(hk.2 b hlt ?_).trans h.1, h.2.1, fun e => ?_, h.2.2.2⟩
  · rintro (e | e | e)
    · exact n2 e
    · exact n3 e
    · exact h.2.2.1 e
  · rcases h4.1 b e.symm with (e | e | e) | e
    · exact n2 e
    · exact n3 e
    · exact h.2.2.1 e
    · omega
theorem Loc.new {base g : Nat} {S R : SSt} {A T : List S30} {v2 v3 v4 tv : Value} {W : World} (hp : PlF base g S R A T v2 v3 v4 tv W) (cs : Array Value) (t : Nat) (ht : t ≠ 62 ∧ t ≠ 64 ∧ t ≠ 3) : Loc W.heap.size cs t v4 tv (W.alloc (Obj.cells cs t)) :=
  ⟨heap_alloc_new W _, ht, fun e => by have := hp.r4.lt e; omega, fun e => by have := hp.t.lt e; omega⟩
/-- A store into such a block. -/
theorem Loc.far {b b' : Nat} {cs : Array Value} {t : Nat} {v4 tv : Value} {W : World} (h : Loc b cs t v4 tv W) (hne : b ≠ b') (j : Nat) (u : Value) : Loc b cs t v4 tv (W.setCell ⟨b', j, none⟩ u) :=
  ⟨(Below.heap_setCell W ⟨b', j, none⟩ u b hne).trans h.1, h.2⟩
theorem Loc.put {b : Nat} {cs : Array Value} {t : Nat} {v4 tv : Value} {W : World} (h : Loc b cs t v4 tv W) (j : Nat) (u : Value) {cs' : Array Value} (hc : cs.setIfInBounds j u = cs') : Loc b cs' t v4 tv (W.setCell ⟨b, j, none⟩ u) :=
  ⟨by have := blk_set h.1 j u; rw [hc] at this; exact this, h.2⟩
theorem PlF.set {base g : Nat} {S R : SSt} {A T : List S30} {v2 v3 v4 tv : Value} {W : World} (h : PlF base g S R A T v2 v3 v4 tv W) {b t : Nat} {cs : Array Value} (hb : Loc b cs t v4 tv W) (j : Nat) (u : Value) : PlF base g S R A T v2 v3 v4 tv (W.setCell ⟨b, j, none⟩ u) := by
  have far : ∀ k, k ≠ b → (W.setCell ⟨b, j, none⟩ u).heap[k]? = W.heap[k]? := fun k hk => Below.heap_setCell W ⟨b, j, none⟩ u k hk
  have e0 : (W.setCell ⟨b, j, none⟩ u).heap.size = W.heap.size := World.size_setCell _ _ _
  obtain ⟨hN, hs⟩ := h.sw
  refine ⟨h.r2.move (fun k e _ => far k (fun hk => h.r2.neTy hb.1 hb.2.1.2.2 (hk ▸ e))), h.r3.move (fun k e _ => far k (fun hk => h.r3.neTy hb.1 hb.2.1.2.2 (hk ▸ e))), h.r4.move (fun k e _ => far k (fun hk => hb.2.2.1 (hk ▸ e))), h.d23, h.t.move (fun k e _ => far k (fun hk => hb.2.2.2 (hk ▸ e))), h.dt, h.al, h.inv, h.top _ (by rw [e0]; exact Nat.le_refl _), ?_⟩
  obtain ⟨⟨vp, vf, hz⟩, hi⟩ := hs
  refine ⟨⟨vp, vf, ?_⟩, hi⟩
  have := @Slab.far (ownOf v2 v3 v4 W.heap.size hN) base W g S.m S.n vp vf S.ps S.fs S.al hz b t cs hb.1 hb.2.1.1 hb.2.1.2.1 hb.2.1.2.2 j u
  exact ⟨this.1, this.2.1, this.2.2.1, this.2.2.2.1, this.2.2.2.2.1, Nat.le_refl _⟩
theorem SW.grown {o : Own} {base : Nat} {w w1 : World} {g : Nat} {S : SSt} {v : Value} {T : List S30} (h : @SW o base w g S) (hr : k30.R 30 w base (fun _ => True) v T) (hg : w.grownBy w1 v.ownBlock) : @SW o base w1 g S := by
  obtain ⟨⟨vp, vf, hs⟩, hi⟩ := h
  exact ⟨⟨vp, vf, (hg.block g (Slab.lt hs) (Kd.R_ne hr hs.1 (by decide))).trans hs.1, hs.2.1, Kd.R_over hs.2.2.1 hr (by decide) hg, Kd.R_over hs.2.2.2.1 hr (by decide) hg, hs.2.2.2.2.1, Nat.le_trans hs.2.2.2.2.2 hg.size⟩, hi⟩
/-- Behind an append to what was taken. -/
theorem PlF.app {base g : Nat} {S R : SSt} {A T T' : List S30} {v2 v3 v4 tv tv' : Value} {ok : Nat → Prop} {W W' : World} (h : PlF base g S R A T v2 v3 v4 tv W) (ho : Kd.R k30 30 W' base ok tv' T') (hg : W.grownBy W' tv.ownBlock) (hat : tv'.ownBlock = tv.ownBlock ∨ ∃ b, tv'.ownBlock = some b ∧ W.heap.size ≤ b) : PlF base g S R A T' v2 v3 v4 tv' W' := by
  have keep : ∀ k, k < W.heap.size → some k ≠ tv.ownBlock → W'.heap[k]? = W.heap[k]? := fun k hk hn => hg.block k hk hn
  have n2 : ∀ k, some k = v2.ownBlock → some k ≠ tv.ownBlock := fun k e => by obtain ⟨cs, hc⟩ := h.r2.ty e; exact h.t.neTy hc (by decide)
  have n3 : ∀ k, some k = v3.ownBlock → some k ≠ tv.ownBlock := fun k e => by obtain ⟨cs, hc⟩ := h.r3.ty e; exact h.t.neTy hc (by decide)
  have n4 : ∀ k, some k = v4.ownBlock → some k ≠ tv.ownBlock := fun k e e2 => h.dt k e2 e
  obtain ⟨hN, hs⟩ := h.sw
  refine ⟨h.r2.move (fun k e hl => keep k hl (n2 k e)), h.r3.move (fun k e hl => keep k hl (n3 k e)), h.r4.move (fun k e hl => keep k hl (n4 k e)), h.d23, flat_30 ho, fun k e e2 => ?_, h.al, h.inv, h.top W' hg.size, ?_⟩
  · rcases hat with hat | ⟨b, hb, hle⟩
    · exact h.dt k (e.trans hat) e2
    · have := h.r4.lt e2
      rw [hb] at e
      injection e with e
      omega
  · obtain ⟨⟨vp, vf, hz⟩, hi⟩ := hs
    have := SW.grown (o := ownOf v2 v3 v4 W.heap.size hN) ⟨⟨vp, vf, hz⟩, hi⟩ (Kd.R_mono h.t (fun _ _ => trivial)) hg
    exact SW.reown this (fun k _ hq => hq) (Nat.le_refl _)
theorem Loc.app {b : Nat} {cs : Array Value} {t : Nat} {v4 tv tv' : Value} {W W' : World} (h : Loc b cs t v4 tv W) (hg : W.grownBy W' tv.ownBlock) (hat : tv'.ownBlock = tv.ownBlock ∨ ∃ b, tv'.ownBlock = some b ∧ W.heap.size ≤ b) : Loc b cs t v4 tv' W' := by
  have hlt := blk_lt h.1
  refine ⟨(hg.block b hlt h.2.2.2).trans h.1, h.2.1, h.2.2.1, fun e => ?_⟩
  rcases hat with hat | ⟨b', hb, hle⟩
  · exact h.2.2.2 (e.trans hat)
  · rw [hb] at e
    injection e with e
    omega
theorem Loc.drewN {b : Nat} {cs : Array Value} {t : Nat} {v4 tv : Value} {W : World} (h : Loc b cs t v4 tv W) (n : Nat) : Loc b cs t v4 tv (W.drewN n) := h
theorem put5 {base g : Nat} {S R : SSt} {A T : List S30} {v2 v3 v4 tv : Value} {w0 W : World} (h : PlF base g S R A T v2 v3 v4 tv W) {b5 b8 b12 : Nat} {o0 o1 o2 o3 o4 : Value} {cs8 cs12 : Array Value} {t8 t12 : Nat} (h5 : Loc b5 #[o0, o1, o2, o3, o4] 44 v4 tv W) (h8 : Loc b8 cs8 t8 v4 tv W) (h12 : Loc b12 cs12 t12 v4 tv W) (h85 : b8 ≠ b5) (h125 : b12 ≠ b5) (hB : Below base w0 W) (hb5 : base ≤ b5) (x0 x1 x2 x3 x4 : Value) :
    PlF base g S R A T v2 v3 v4 tv (((((W.setCell ⟨b5, 0, none⟩ x0).setCell ⟨b5, 1, none⟩ x1).setCell ⟨b5, 2, none⟩ x2).setCell ⟨b5, 3, none⟩ x3).setCell ⟨b5, 4, none⟩ x4) ∧
    Loc b5 #[x0, x1, x2, x3, x4] 44 v4 tv (((((W.setCell ⟨b5, 0, none⟩ x0).setCell ⟨b5, 1, none⟩ x1).setCell ⟨b5, 2, none⟩ x2).setCell ⟨b5, 3, none⟩ x3).setCell ⟨b5, 4, none⟩ x4) ∧
    Loc b8 cs8 t8 v4 tv (((((W.setCell ⟨b5, 0, none⟩ x0).setCell ⟨b5, 1, none⟩ x1).setCell ⟨b5, 2, none⟩ x2).setCell ⟨b5, 3, none⟩ x3).setCell ⟨b5, 4, none⟩ x4) ∧
    Loc b12 cs12 t12 v4 tv (((((W.setCell ⟨b5, 0, none⟩ x0).setCell ⟨b5, 1, none⟩ x1).setCell ⟨b5, 2, none⟩ x2).setCell ⟨b5, 3, none⟩ x3).setCell ⟨b5, 4, none⟩ x4) ∧
    Below base w0 (((((W.setCell ⟨b5, 0, none⟩ x0).setCell ⟨b5, 1, none⟩ x1).setCell ⟨b5, 2, none⟩ x2).setCell ⟨b5, 3, none⟩ x3).setCell ⟨b5, 4, none⟩ x4) := by
  have a1 := Loc.put (cs' := #[x0, o1, o2, o3, o4]) h5 0 x0 rfl
  have a2 := Loc.put (cs' := #[x0, x1, o2, o3, o4]) a1 1 x1 rfl
  have a3 := Loc.put (cs' := #[x0, x1, x2, o3, o4]) a2 2 x2 rfl
  have a4 := Loc.put (cs' := #[x0, x1, x2, x3, o4]) a3 3 x3 rfl
  have a5 := Loc.put (cs' := #[x0, x1, x2, x3, x4]) a4 4 x4 rfl
  refine ⟨PlF.set (PlF.set (PlF.set (PlF.set (PlF.set h h5 0 x0) a1 1 x1) a2 2 x2) a3 3 x3) a4 4 x4, a5, ?_, ?_, ?_⟩
  · exact ((((h8.far h85 0 x0).far h85 1 x1).far h85 2 x2).far h85 3 x3).far h85 4 x4
  · exact ((((h12.far h125 0 x0).far h125 1 x1).far h125 2 x2).far h125 3 x3).far h125 4 x4
  · exact Below.setCell (Below.setCell (Below.setCell (Below.setCell (Below.setCell hB (p := ⟨b5, 0, none⟩) hb5 x0) (p := ⟨b5, 1, none⟩) hb5 x1) (p := ⟨b5, 2, none⟩) hb5 x2) (p := ⟨b5, 3, none⟩) hb5 x3) (p := ⟨b5, 4, none⟩) hb5 x4
theorem put2 {base g : Nat} {S R : SSt} {A T : List S30} {v2 v3 v4 tv : Value} {w0 W : World} (h : PlF base g S R A T v2 v3 v4 tv W) {b5 b8 b12 : Nat} {o0 o1 : Value} {cs8 cs5 : Array Value} {t8 t5 : Nat} (h12 : Loc b12 #[o0, o1] 30 v4 tv W) (h8 : Loc b8 cs8 t8 v4 tv W) (h5 : Loc b5 cs5 t5 v4 tv W) (h85 : b8 ≠ b12) (h125 : b5 ≠ b12) (hB : Below base w0 W) (hb5 : base ≤ b12) (x0 x1 : Value) :
    PlF base g S R A T v2 v3 v4 tv ((W.setCell ⟨b12, 0, none⟩ x0).setCell ⟨b12, 1, none⟩ x1) ∧
    Loc b12 #[x0, x1] 30 v4 tv ((W.setCell ⟨b12, 0, none⟩ x0).setCell ⟨b12, 1, none⟩ x1) ∧
    Loc b8 cs8 t8 v4 tv ((W.setCell ⟨b12, 0, none⟩ x0).setCell ⟨b12, 1, none⟩ x1) ∧
    Loc b5 cs5 t5 v4 tv ((W.setCell ⟨b12, 0, none⟩ x0).setCell ⟨b12, 1, none⟩ x1) ∧
    Below base w0 ((W.setCell ⟨b12, 0, none⟩ x0).setCell ⟨b12, 1, none⟩ x1) := by
  have a1 := Loc.put (cs' := #[x0, o1]) h12 0 x0 rfl
  have a2 := Loc.put (cs' := #[x0, x1]) a1 1 x1 rfl
  refine ⟨PlF.set (PlF.set h h12 0 x0) a1 1 x1, a2, (h8.far h85 0 x0).far h85 1 x1, (h5.far h125 0 x0).far h125 1 x1, ?_⟩
  exact Below.setCell (Below.setCell hB (p := ⟨b12, 0, none⟩) hb5 x0) (p := ⟨b12, 1, none⟩) hb5 x1
end Go.Proofs.Ytppbdjoikdldiaa.PSlabPlays
