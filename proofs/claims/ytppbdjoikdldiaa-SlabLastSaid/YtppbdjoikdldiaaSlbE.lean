/- SlbE: walks of the slab's functions. -/
import Derived.Test.YtppbdjoikdldiaaSlbC
import Derived.StillTailTactics
namespace Go.Proofs.Ytppbdjoikdldiaa.PSlabFresh
open Go.RowKit Go.Proofs.YtppbdjoikdldiaaW.PrintWords Go.Proofs.YtppbdjoikdldiaaW.PrintLast Go.Proofs.YtppbdjoikdldiaaW.PrintMore
set_option linter.unusedVariables false
set_option linter.unusedSimpArgs false
namespace SSt
def Holds (S : SSt) (T : List S30) : Prop := ∀ t ∈ T, 0 ≤ t.f0 ∧ t.f0 < S.ps.length ∧ t.f1 ≤ (rd_T64 S.ps t.f0).f0
theorem alive_parts {S : SSt} {p q : Int} (h : S.isAlive p q = true) : 0 ≤ p ∧ p < S.ps.length ∧ (rd_T64 S.ps p).f1 = true ∧ (rd_T64 S.ps p).f0 = q := by
  simp only [isAlive, Bool.and_eq_true, decide_eq_true_eq, beq_iff_eq] at h
  obtain ⟨⟨h0, h1, h2⟩, h3⟩ := h
  exact ⟨h0, h1, h2, h3⟩
theorem free_m (S : SSt) (p q : Int) : (S.free p q).m = S.m ∧ (S.free p q).n = S.n := by unfold free; split <;> exact ⟨rfl, rfl⟩
theorem take_m (S : SSt) : S.take.m = S.m ∧ S.take.n = S.n := by unfold take; split; exact ⟨rfl, rfl⟩; split <;> exact ⟨rfl, rfl⟩
theorem holds_free {S : SSt} {T : List S30} (p q : Int) (hT : S.Holds T) : (S.free p q).Holds T := by
  intro t ht
  have := hT t ht
  unfold free
  split
  rotate_left
  · exact this
  rename_i hA
  obtain ⟨h0, h1, h2, h3⟩ := alive_parts hA
  refine ⟨this.1, by simp; exact this.2.1, ?_⟩
  show t.f1 ≤ (rd_T64 (S.ps.set p.toNat ⟨q, false⟩) t.f0).f0
  rw [rd_set _ _ _ _ h0 h1 this.1]
  split
  · rename_i e
    have h4 := this.2.2
    rw [e, h3] at h4
    exact h4
  · exact this.2.2
/-- A take that goes: where, how far, and what is there behind. -/
theorem take_there {S : SSt} (h : S.Inv) (hf : ¬ S.full) : 0 ≤ S.takeP ∧ S.takeP < S.take.ps.length ∧ (rd_T64 S.take.ps S.takeP).f1 = true ∧ (rd_T64 S.take.ps S.takeP).f0 = S.takeG ∧
    (S.takeP < S.ps.length → (rd_T64 S.ps S.takeP).f0 < S.takeG) ∧ (∀ q : Int, 0 ≤ q → q < S.ps.length → q < S.take.ps.length ∧ (q ≠ S.takeP → rd_T64 S.take.ps q = rd_T64 S.ps q)) := by
  unfold takeP takeG take
  rw [if_neg hf, if_neg hf, if_neg hf]
  by_cases h0 : S.fs.length = 0
  · rw [if_pos h0, if_pos h0, if_pos h0]
    refine ⟨by omega, by simp; omega, ?_, ?_, fun hh => absurd hh (by omega), ?_⟩
    · rw [rd_app _ _ _ (by omega) (by omega), if_pos rfl]
    · rw [rd_app _ _ _ (by omega) (by omega), if_pos rfl]
    · intro q hq0 hq1
      refine ⟨by simp; omega, fun hne => ?_⟩
      show rd_T64 (S.ps ++ [_]) q = _
      rw [rd_app _ _ _ hq0 (by omega), if_neg hne]
  · rw [if_neg h0, if_neg h0, if_neg h0]
    have hm := h.fm _ (lastF_mem S h0)
    refine ⟨hm.1, by simp; exact hm.2.1, ?_, ?_, fun _ => by omega, ?_⟩
    · show (rd_T64 (S.ps.set S.lastF.toNat _) S.lastF).f1 = true
      rw [rd_set _ _ _ _ hm.1 hm.2.1 hm.1, if_pos rfl]
    · show (rd_T64 (S.ps.set S.lastF.toNat _) S.lastF).f0 = _
      rw [rd_set _ _ _ _ hm.1 hm.2.1 hm.1, if_pos rfl]
    · intro q hq0 hq1
      refine ⟨by simp; omega, fun hne => ?_⟩
      show rd_T64 (S.ps.set S.lastF.toNat _) q = _
      rw [rd_set _ _ _ _ hm.1 hm.2.1 hq0, if_neg hne]
theorem holds_take {S : SSt} {T : List S30} (h : S.Inv) (hT : S.Holds T) (hf : ¬ S.full) : S.take.Holds (T ++ [⟨S.takeP, S.takeG⟩]) := by
  obtain ⟨h0, h1, h2, h3, h4, h5⟩ := take_there h hf
  intro t ht
  rcases List.mem_append.mp ht with ht | ht
  · have := hT t ht
    have h6 := h5 _ this.1 this.2.1
    refine ⟨this.1, h6.1, ?_⟩
    by_cases e : t.f0 = S.takeP
    · rw [e, h3]
      have h7 := h4 (by omega)
      rw [← e] at h7
      omega
    · rw [h6.2 e]
      exact this.2.2
  · rw [List.mem_singleton] at ht
    subst ht
    exact ⟨h0, h1, by rw [h3]; exact Int.le_refl _⟩
theorem take_apart {S : SSt} {T : List S30} (h : S.Inv) (hT : S.Holds T) (hf : ¬ S.full) (t : S30) (ht : t ∈ T) (e : t.f0 = S.takeP) : t.f1 < S.takeG ∧ S.take.isAlive t.f0 t.f1 = false := by
  obtain ⟨h0, h1, h2, h3, h4, h5⟩ := take_there h hf
  have := hT t ht
  have h7 := h4 (by omega)
  rw [← e] at h7
  refine ⟨by omega, ?_⟩
  cases hA : S.take.isAlive t.f0 t.f1 with
  | false => rfl
  | true =>
    have h8 := alive_parts hA
    rw [e] at h8
    omega
theorem sums (S : SSt) : S.al + S.left + S.worn = S.m := by unfold left worn; omega
theorem full_take {S : SSt} (hf : S.full) : S.take = S := by unfold take; rw [if_pos hf]
theorem takeE_pos {S : SSt} (hf : S.full) : S.takeE = 6 := by unfold takeE; rw [if_pos hf]
theorem takeE_neg {S : SSt} (hf : ¬ S.full) : S.takeE = 0 := by unfold takeE; rw [if_neg hf]
/-- What is freed last is taken next. -/
theorem freed (S : SSt) (h : S.Inv) (p q : Int) (hA : S.isAlive p q = true) : S.freeE p q = 0 ∧ (S.free p q).isAlive p q = false ∧
    (q = S.n → (S.free p q).left = S.left ∧ (S.free p q).worn = S.worn + 1) ∧
    (q ≠ S.n → ¬ (S.free p q).full ∧ (S.free p q).takeP = p ∧ (S.free p q).takeG = q + 1 ∧ (S.free p q).take.left = S.left ∧ (S.free p q).take.worn = S.worn) := by
  obtain ⟨h0, h1, h2, h3⟩ := alive_parts hA
  have hpg := h.pg _ (rd_mem S.ps p h0 h1)
  have e : S.free p q = ⟨S.m, S.n, S.ps.set p.toNat ⟨q, false⟩, if q < S.n then S.fs ++ [p] else S.fs, S.al - 1⟩ := by unfold free; rw [if_pos hA]
  have hr : rd_T64 (S.ps.set p.toNat ⟨q, false⟩) p = ⟨q, false⟩ := by rw [rd_set _ _ _ _ h0 h1 h0, if_pos rfl]
  refine ⟨by unfold freeE; rw [if_pos hA], ?_, ?_, ?_⟩
  · rw [e]; simp [isAlive, hr]
  · intro hq
    rw [e, if_neg (by omega)]
    unfold left worn
    simp
    omega
  · intro hq
    have hlt : q < S.n := by omega
    rw [if_pos hlt] at e
    have hne : ¬ (S.free p q).full := by rw [e]; simp [full]
    have hl0 : ¬ (S.free p q).fs.length = 0 := by rw [e]; simp
    have hlast : (S.free p q).lastF = p := by
      rw [lastF_eq _ hl0]
      simp only [e]
      simp
    have hP : (S.free p q).takeP = p := by unfold takeP; rw [if_neg hne, if_neg hl0, hlast]
    have hG : (S.free p q).takeG = q + 1 := by
      unfold takeG
      rw [if_neg hne, if_neg hl0, hlast, e]
      show (rd_T64 (S.ps.set p.toNat ⟨q, false⟩) p).f0 + 1 = _
      rw [hr]
    refine ⟨hne, hP, hG, ?_, ?_⟩
    · unfold take
      rw [if_neg hne, if_neg hl0, e]
      unfold left
      simp
    · unfold take
      rw [if_neg hne, if_neg hl0, e]
      unfold worn
      simp
end SSt
def handP (a : Int) (b : Int) (c d : Int) (T : List S30) : S30 := if a = 1 ∧ 0 ≤ b ∧ b < T.length then rd_T30 T b else ⟨c, d⟩
theorem hand_f (a b c d : Int) (T : List S30) : complinelaw05_handle.f a b c d T = some ((handP a b c d T).f0, (handP a b c d T).f1) := by
  unfold complinelaw05_handle.f handP
  by_cases h1 : a = 1 <;> by_cases h2 : b ≥ 0 <;> by_cases h3 : b < (T.length : Int) <;> simp [h1, h2, h3] <;> omega
theorem hand_st (a b c d : Int) (A : Option Addr) (cp : Nat) (T : List S30) (w : World) (hr : Kd.C k30 w A T.length T) (hc : T.length ≤ cp) :
    Calls Try.prog 12 #[.agg #[.int .i64 a, .int .i64 b, .int .i64 c, .int .i64 d], .slice A T.length cp] w fun e w' => e = .returned (.agg #[.int .i64 (handP a b c d T).f0, .int .i64 (handP a b c d T).f1]) ∧ Below w.heap.size w w' :=
  complinelaw05_handle.calls a b c d A cp T _ _ w hr hc (hand_f a b c d T)
/-! What is done: rows of acts, read. -/
structure S32 where
  f0 : Int
  f1 : Int
  f2 : Int
  f3 : Int
def z32 : S32 := ⟨0, 0, 0, 0⟩
def k32 : Kd S32 := Kd.iso (Kd.pair (Kd.int .i64) (Kd.pair (Kd.int .i64) (Kd.pair (Kd.int .i64) (Kd.int .i64)))) (fun x : S32 => (x.f0, x.f1, x.f2, x.f3))
theorem k32_open {w : World} {x : S32} {cs : List Value} (h : k32.K w x cs) : cs = [.int .i64 x.f0, .int .i64 x.f1, .int .i64 x.f2, .int .i64 x.f3] := by
  obtain ⟨_, _, rfl, rfl, _, _, rfl, rfl, _, _, rfl, rfl, rfl⟩ := h
  exact rfl
theorem k32_mk (w : World) (x : S32) : k32.K w x [.int .i64 x.f0, .int .i64 x.f1, .int .i64 x.f2, .int .i64 x.f3] := ⟨[.int .i64 x.f0], [.int .i64 x.f1, .int .i64 x.f2, .int .i64 x.f3], rfl, rfl, [.int .i64 x.f1], [.int .i64 x.f2, .int .i64 x.f3], rfl, rfl, [.int .i64 x.f2], [.int .i64 x.f3], rfl, rfl, rfl⟩
def rd_T32 (xs : List S32) (i : Int) : S32 := xs.getD i.toNat z32
theorem at_T32 {w : World} {A : Option Addr} {n : Nat} {xs : List S32} (h : Kd.C k32 w A n xs) (i : Int) (h0 : 0 ≤ i) (h1 : i < n) : ∃ ad , A = some ad ∧ w.cell? (ad.add (i.toNat * 4)) = some (.int .i64 (rd_T32 xs i).f0) ∧ w.cell? ⟨(ad.add (i.toNat * 4)).block, (ad.add (i.toNat * 4)).off + 1, none⟩ = some (.int .i64 (rd_T32 xs i).f1) ∧
    w.cell? ⟨(ad.add (i.toNat * 4)).block, (ad.add (i.toNat * 4)).off + 2, none⟩ = some (.int .i64 (rd_T32 xs i).f2) ∧ w.cell? ⟨(ad.add (i.toNat * 4)).block, (ad.add (i.toNat * 4)).off + 3, none⟩ = some (.int .i64 (rd_T32 xs i).f3) := by
  obtain ⟨ad, c, e, _, hK, hc0⟩ := Kd.C_get h z32 i h0 h1
  have hc : ∀ j u, c[j]? = some u → w.cell? (ad.add (i.toNat * 4 + j)) = some u := hc0
  obtain rfl := k32_open hK
  exact ⟨ad, e, hc 0 _ rfl, by rw [← add_field _ _ 1 (by omega)]; exact hc 1 _ rfl, by rw [← add_field _ _ 2 (by omega)]; exact hc 2 _ rfl, by rw [← add_field _ _ 3 (by omega)]; exact hc 3 _ rfl⟩
theorem R_stays {base : Nat} {w w' : World} {v : Value} {T : List S30} (h : k30.R 30 w base (fun _ => True) v T) (hs : Stays w w') : k30.R 30 w' base (fun _ => True) v T :=
  Kd.R_mono (Kd.R_move (Kd.R_bound h) (fun k hk => by
    obtain ⟨_, _, _, q, hq, cells, hc⟩ := hk
    have hq' : q = 30 := by simpa [k30, Kd.iso, Kd.pair, Kd.int, Kd.scalar] using hq
    subst hq'
    rw [hc]
    exact hs _ _ _ _ hc (by decide) (by decide) (by decide))) (fun _ _ => trivial)
theorem R_C {base : Nat} {w : World} {A : Option Addr} {c n : Nat} {T : List S30} (h : k30.R 30 w base (fun _ => True) (.slice A n c) T) : n = T.length ∧ Kd.C k30 w A T.length T ∧ T.length ≤ c := by
  obtain ⟨A', c', he, hl, hC⟩ := Kd.R_reads h
  injection he with e1 e2 e3
  subst e1 e2 e3
  exact ⟨rfl, hC, hl⟩
theorem slab_info30 : (Try.prog.info? 30).map (fun i => (i.zero, i.size, i.bytes)) = some (some (.agg #[.int .i64 0, .int .i64 0]), 2, 16) := by kernel_rfl
theorem SW.grown {base : Nat} {w w1 : World} {g : Nat} {S : SSt} {v : Value} {T : List S30} (h : SW base w g S) (hr : k30.R 30 w base (fun _ => True) v T) (hg : w.grownBy w1 v.ownBlock) : SW base w1 g S := by
  obtain ⟨⟨vp, vf, hs⟩, hi⟩ := h
  refine ⟨⟨vp, vf, (hg.block g (Slab.lt hs) (Kd.R_ne hr hs.1 (by decide))).trans hs.1, hs.2.1, Kd.R_over hs.2.2.1 hr (by decide) hg, Kd.R_over hs.2.2.2 hr (by decide) hg⟩, hi⟩
theorem SSt.bounds {S : SSt} (h : S.Inv) : 0 ≤ S.al ∧ S.al ≤ 1024 ∧ 0 ≤ S.left ∧ S.left ≤ 1024 ∧ 0 ≤ S.worn ∧ S.worn ≤ 1024 := by
  have h1 := SSt.al0 h
  have h2 := h.m1
  have h3 := h.lp
  have h4 := h.fl
  unfold SSt.left SSt.worn
  omega
end Go.Proofs.Ytppbdjoikdldiaa.PSlabFresh
