/- SoC: walks of the slab's functions. -/
import Derived.Test.YtppbdjoikdldiaaSoA
namespace Go.Proofs.Ytppbdjoikdldiaa.PSlabOf
open Go.RowKit Go.Proofs.YtppbdjoikdldiaaW.PrintWords Go.Proofs.YtppbdjoikdldiaaW.PrintLast Go.Proofs.YtppbdjoikdldiaaW.PrintMore
set_option linter.unusedVariables false
set_option linter.unusedSimpArgs false
/-- A slab's state in plain numbers. -/
structure SSt where
  m : Int
  n : Int
  ps : List S64
  fs : List Int
  al : Int
namespace SSt
def isAlive (S : SSt) (p q : Int) : Bool := decide (0 ≤ p ∧ p < S.ps.length ∧ (rd_T64 S.ps p).f1 = true) && (rd_T64 S.ps p).f0 == q
def lastF (S : SSt) : Int := rd S.fs ((S.fs.length : Int) - 1)
def full (S : SSt) : Prop := S.fs.length = 0 ∧ (S.ps.length : Int) = S.m
instance (S : SSt) : Decidable S.full := inferInstanceAs (Decidable (_ ∧ _))
def take (S : SSt) : SSt :=
  if S.full then S else if S.fs.length = 0 then ⟨S.m, S.n, S.ps ++ [⟨1, true⟩], [], S.al + 1⟩
  else ⟨S.m, S.n, S.ps.set S.lastF.toNat ⟨(rd_T64 S.ps S.lastF).f0 + 1, true⟩, S.fs.take (S.fs.length - 1), S.al + 1⟩
def takeP (S : SSt) : Int := if S.full then 0 else if S.fs.length = 0 then (S.ps.length : Int) else S.lastF
def takeG (S : SSt) : Int := if S.full then 0 else if S.fs.length = 0 then 1 else (rd_T64 S.ps S.lastF).f0 + 1
def takeE (S : SSt) : Int := if S.full then 6 else 0
def free (S : SSt) (p q : Int) : SSt := if S.isAlive p q = true then ⟨S.m, S.n, S.ps.set p.toNat ⟨q, false⟩, if q < S.n then S.fs ++ [p] else S.fs, S.al - 1⟩ else S
def freeE (S : SSt) (p q : Int) : Int := if S.isAlive p q = true then 0 else 5
structure Inv (S : SSt) : Prop where
  m0 : 0 ≤ S.m
  m1 : S.m ≤ 1024
  n0 : 1 ≤ S.n
  n1 : S.n ≤ 65535
  lp : (S.ps.length : Int) ≤ S.m
  al : S.al = (S.ps.countP (fun x => x.f1) : Nat)
  fl : (S.fs.length : Int) + S.al ≤ S.ps.length
  nd : S.fs.Nodup
  fm : ∀ p ∈ S.fs, 0 ≤ p ∧ p < S.ps.length ∧ (rd_T64 S.ps p).f1 = false ∧ (rd_T64 S.ps p).f0 < S.n
  pg : ∀ x ∈ S.ps, 1 ≤ x.f0 ∧ x.f0 ≤ S.n
  cov : ∀ p : Int, 0 ≤ p → p < S.ps.length → (rd_T64 S.ps p).f1 = false → (rd_T64 S.ps p).f0 < S.n → p ∈ S.fs
theorem rd_set (ps : List S64) (p : Int) (x : S64) (q : Int) (h0 : 0 ≤ p) (h1 : p < ps.length) (hq : 0 ≤ q) : rd_T64 (ps.set p.toNat x) q = if q = p then x else rd_T64 ps q := by
  unfold rd_T64
  by_cases h : q = p
  · subst h
    rw [if_pos rfl, List.getD_eq_getElem?_getD, List.getElem?_set_self (by omega)]
    rfl
  · rw [if_neg h, List.getD_eq_getElem?_getD, List.getD_eq_getElem?_getD, List.getElem?_set_ne (by omega)]
theorem rd_mem (ps : List S64) (p : Int) (h0 : 0 ≤ p) (h1 : p < ps.length) : rd_T64 ps p ∈ ps := by
  unfold rd_T64
  rw [List.getD_eq_getElem?_getD, List.getElem?_eq_getElem (by omega)]
  exact List.getElem_mem _
theorem rd_app (ps : List S64) (x : S64) (q : Int) (hq : 0 ≤ q) (h1 : q < ps.length + 1) : rd_T64 (ps ++ [x]) q = if q = ps.length then x else rd_T64 ps q := by
  unfold rd_T64
  rw [List.getD_eq_getElem?_getD, List.getD_eq_getElem?_getD]
  by_cases h : q = ps.length
  · subst h
    rw [if_pos rfl, List.getElem?_append_right (by omega)]
    simp
  · rw [if_neg h, List.getElem?_append_left (by omega)]
theorem al0 {S : SSt} (h : S.Inv) : 0 ≤ S.al := by rw [h.al]; omega
theorem lastF_eq (S : SSt) (h : S.fs.length ≠ 0) : S.lastF = S.fs.getLast (by intro e; rw [e] at h; exact h rfl) := by
  unfold lastF rd
  rw [List.getLast_eq_getElem, List.getD_eq_getElem?_getD]
  have e : ((S.fs.length : Int) - 1).toNat = S.fs.length - 1 := by omega
  rw [e, List.getElem?_eq_getElem (by omega)]
  rfl
theorem lastF_mem (S : SSt) (h : S.fs.length ≠ 0) : S.lastF ∈ S.fs := by
  rw [lastF_eq S h]; exact List.getLast_mem _
theorem split_fs (S : SSt) (h : S.fs.length ≠ 0) : S.fs.take (S.fs.length - 1) ++ [S.lastF] = S.fs := by
  rw [lastF_eq S h, ← List.dropLast_eq_take]
  exact List.dropLast_concat_getLast _
theorem count_set (ps : List S64) (i : Nat) (x : S64) (h : i < ps.length) : (((ps.set i x).countP (fun y => y.f1) : Nat) : Int) = (ps.countP (fun y => y.f1) : Nat) - (if ps[i].f1 then 1 else 0) + (if x.f1 then 1 else 0) := by
  rw [List.countP_set h]
  have this : ps[i].f1 = true → 1 ≤ ps.countP (fun y => y.f1) := fun e => List.countP_pos_iff.mpr ⟨_, List.getElem_mem h, e⟩
  generalize ps.countP (fun y => y.f1) = c at this ⊢
  generalize ps[i].f1 = a at this ⊢
  generalize x.f1 = b
  cases a <;> cases b <;> simp at this ⊢ <;> omega
theorem rd_get (ps : List S64) (p : Int) (h0 : 0 ≤ p) (h1 : p < ps.length) : rd_T64 ps p = ps[p.toNat]'(by omega) := by
  unfold rd_T64
  rw [List.getD_eq_getElem?_getD, List.getElem?_eq_getElem (by omega)]
  rfl
theorem take_inv {S : SSt} (h : S.Inv) : S.take.Inv := by
  unfold take
  split
  · exact h
  rename_i hf
  have ha := al0 h
  split
  · rename_i h0
    have hl : (S.ps.length : Int) ≠ S.m := fun e => hf ⟨h0, e⟩
    have hlp := h.lp
    have hn : S.fs = [] := List.length_eq_zero_iff.mp h0
    refine ⟨h.m0, h.m1, h.n0, h.n1, ?_, ?_, ?_, List.nodup_nil, ?_, ?_, ?_⟩
    · simp; omega
    · simp [List.countP_append, h.al]
    · have := h.fl; simp at *; omega
    · intro p hp; cases hp
    · intro x hx
      rcases List.mem_append.mp hx with hx | hx
      · exact h.pg x hx
      · rw [List.mem_singleton] at hx; subst hx; exact ⟨by simp, h.n0⟩
    · intro p hp0 hp1 hp2 hp3
      simp at hp1 hp2 hp3
      rw [rd_app _ _ _ hp0 (by omega)] at hp2 hp3
      split at hp2
      · cases hp2
      · rename_i hne
        rw [if_neg hne] at hp3
        have := h.cov p hp0 (by omega) hp2 hp3
        rw [hn] at this
        cases this
  · rename_i h0
    have hm := h.fm _ (lastF_mem S h0)
    have hs := split_fs S h0
    have hnd : (S.fs.take (S.fs.length - 1) ++ [S.lastF]).Nodup := by rw [hs]; exact h.nd
    have hlt : S.lastF.toNat < S.ps.length := by omega
    have hg := rd_get S.ps S.lastF hm.1 hm.2.1
    have hnot : S.lastF ∉ S.fs.take (S.fs.length - 1) := fun hc => (List.nodup_append.mp hnd).2.2 _ hc _ (List.mem_singleton.mpr rfl) rfl
    refine ⟨h.m0, h.m1, h.n0, h.n1, ?_, ?_, ?_, ?_, ?_, ?_, ?_⟩
    · simp; exact h.lp
    · show S.al + 1 = _
      rw [count_set _ _ _ hlt, ← hg, hm.2.2.1, h.al]
      simp
    · show (((S.fs.take (S.fs.length - 1)).length : Nat) : Int) + (S.al + 1) ≤ ((S.ps.set _ _).length : Nat)
      rw [List.length_take, List.length_set]
      have := h.fl
      omega
    · exact (List.nodup_append.mp hnd).1
    · intro p hp
      have hp' : p ∈ S.fs := List.mem_of_mem_take hp
      have hne : p ≠ S.lastF := fun e => hnot (e ▸ hp)
      have := h.fm p hp'
      refine ⟨this.1, by simp; exact this.2.1, ?_, ?_⟩
      · show (rd_T64 (S.ps.set _ _) p).f1 = false
        rw [rd_set _ _ _ _ hm.1 hm.2.1 this.1, if_neg hne]; exact this.2.2.1
      · show (rd_T64 (S.ps.set _ _) p).f0 < S.n
        rw [rd_set _ _ _ _ hm.1 hm.2.1 this.1, if_neg hne]; exact this.2.2.2
    · intro x hx
      rcases List.mem_or_eq_of_mem_set hx with hx | hx
      · exact h.pg x hx
      · subst hx
        have := (h.pg _ (rd_mem S.ps S.lastF hm.1 hm.2.1)).1
        refine ⟨?_, ?_⟩
        · show 1 ≤ (rd_T64 S.ps S.lastF).f0 + 1
          omega
        · show (rd_T64 S.ps S.lastF).f0 + 1 ≤ S.n
          have := hm.2.2.2
          omega
    · intro p hp0 hp1 hp2 hp3
      simp at hp1
      have e2 : (rd_T64 (S.ps.set S.lastF.toNat ⟨(rd_T64 S.ps S.lastF).f0 + 1, true⟩) p).f1 = false := hp2
      have e3 : (rd_T64 (S.ps.set S.lastF.toNat ⟨(rd_T64 S.ps S.lastF).f0 + 1, true⟩) p).f0 < S.n := hp3
      rw [rd_set _ _ _ _ hm.1 hm.2.1 hp0] at e2 e3
      split at e2
      · cases e2
      · rename_i hne
        rw [if_neg hne] at e3
        have := h.cov p hp0 hp1 e2 e3
        rw [← hs] at this
        rcases List.mem_append.mp this with hx | hx
        · exact hx
        · exact absurd (List.mem_singleton.mp hx) hne
theorem free_inv {S : SSt} (h : S.Inv) (p q : Int) : (S.free p q).Inv := by
  unfold free
  split
  rotate_left
  · exact h
  rename_i hA
  have ha := al0 h
  simp only [isAlive, Bool.and_eq_true, decide_eq_true_eq, beq_iff_eq] at hA
  obtain ⟨⟨h0, h1, h2⟩, h3⟩ := hA
  have hlt : p.toNat < S.ps.length := by omega
  have hg := rd_get S.ps p h0 h1
  have hpg := h.pg _ (rd_mem S.ps p h0 h1)
  have hcp : 0 < S.ps.countP (fun y => y.f1) := List.countP_pos_iff.mpr ⟨_, rd_mem S.ps p h0 h1, h2⟩
  have hnot : p ∉ S.fs := fun hc => by have := (h.fm p hc).2.2.1; rw [h2] at this; cases this
  have hold : ∀ r ∈ S.fs, 0 ≤ r ∧ r < ((S.ps.set p.toNat ⟨q, false⟩).length : Nat) ∧ (rd_T64 (S.ps.set p.toNat ⟨q, false⟩) r).f1 = false ∧ (rd_T64 (S.ps.set p.toNat ⟨q, false⟩) r).f0 < S.n := by
    intro r hr
    have := h.fm r hr
    have hne : r ≠ p := fun e => hnot (e ▸ hr)
    rw [rd_set _ _ _ _ h0 h1 this.1, if_neg hne]
    refine ⟨this.1, by simp; exact this.2.1, this.2.2.1, this.2.2.2⟩
  refine ⟨h.m0, h.m1, h.n0, h.n1, ?_, ?_, ?_, ?_, ?_, ?_, ?_⟩
  · simp; exact h.lp
  · show S.al - 1 = _
    rw [count_set _ _ _ hlt, ← hg, h2, h.al]
    simp
  · show (((if q < S.n then S.fs ++ [p] else S.fs).length : Nat) : Int) + (S.al - 1) ≤ ((S.ps.set _ _).length : Nat)
    rw [List.length_set]
    have := h.fl
    split <;> simp <;> omega
  · show (if q < S.n then S.fs ++ [p] else S.fs).Nodup
    split
    · refine List.nodup_append.mpr ⟨h.nd, by simp, ?_⟩
      intro a hx b hb
      rw [List.mem_singleton] at hb
      subst hb
      exact fun e => hnot (e ▸ hx)
    · exact h.nd
  · intro r hr
    have hr' : r ∈ (if q < S.n then S.fs ++ [p] else S.fs) := hr
    split at hr'
    · rename_i hq
      rcases List.mem_append.mp hr' with hx | hx
      · exact hold r hx
      · rw [List.mem_singleton] at hx
        subst hx
        refine ⟨h0, by simp; exact h1, ?_⟩
        show (rd_T64 (S.ps.set r.toNat ⟨q, false⟩) r).f1 = false ∧ (rd_T64 (S.ps.set r.toNat ⟨q, false⟩) r).f0 < S.n
        rw [rd_set _ _ _ _ h0 h1 h0, if_pos rfl]
        exact ⟨rfl, hq⟩
    · exact hold r hr'
  · intro x hx
    rcases List.mem_or_eq_of_mem_set hx with hx | hx
    · exact h.pg x hx
    · subst hx
      rw [h3] at hpg
      exact hpg
  · intro r hr0 hr1 hr2 hr3
    have hr1' : r < S.ps.length := by simpa using hr1
    have e2 : (rd_T64 (S.ps.set p.toNat ⟨q, false⟩) r).f1 = false := hr2
    have e3 : (rd_T64 (S.ps.set p.toNat ⟨q, false⟩) r).f0 < S.n := hr3
    rw [rd_set _ _ _ _ h0 h1 hr0] at e2 e3
    show r ∈ (if q < S.n then S.fs ++ [p] else S.fs)
    split at e2
    · rename_i he
      rw [if_pos he] at e3
      rw [if_pos e3, he]
      simp
    · rename_i hne
      rw [if_neg hne] at e3
      have := h.cov r hr0 hr1' e2 e3
      split
      · exact List.mem_append_left _ this
      · exact this
end SSt
def SSt.new (m n : Int) : SSt := ⟨m, n, [], [], 0⟩
def SSt.left (S : SSt) : Int := S.m - S.ps.length + S.fs.length
def SSt.worn (S : SSt) : Int := S.ps.length - S.al - S.fs.length
def SSt.atV (S : SSt) (p : Int) : Value := if 0 ≤ p ∧ p < S.ps.length ∧ (rd_T64 S.ps p).f1 = true then .tuple #[.agg #[.int .i64 p, .int .i64 (rd_T64 S.ps p).f0], .bool true] else .tuple #[.agg #[.int .i64 0, .int .i64 0], .bool false]
variable [Own]
/-- The state's contract. -/
def SW (base : Nat) (w : World) (g : Nat) (S : SSt) : Prop := (∃ vp vf, Slab base w g S.m S.n vp vf S.ps S.fs S.al) ∧ S.Inv
theorem SW.inv {base : Nat} {w : World} {g : Nat} {S : SSt} (h : SW base w g S) : S.Inv := h.2
theorem SW.below {base : Nat} {w w' : World} {g : Nat} {S : SSt} (h : SW base w g S) (hb : Below w.heap.size w w') : SW base w' g S := by
  obtain ⟨⟨vp, vf, hs⟩, hi⟩ := h
  exact ⟨⟨vp, vf, Slab.below hs hb⟩, hi⟩
theorem SW.drewN {base : Nat} {w : World} {g : Nat} {S : SSt} (h : SW base w g S) (k : Nat) : SW base (w.drewN k) g S := by
  obtain ⟨⟨vp, vf, hs⟩, hi⟩ := h
  exact ⟨⟨vp, vf, Slab.drewN hs k⟩, hi⟩
theorem SW.alloc {base : Nat} {w : World} {g : Nat} {S : SSt} (h : SW base w g S) (o : Obj) : SW base (w.alloc o) g S := h.below (below_alloc (Below.refl _ _) o)
theorem new_st (m n : Int) (w : World) (h1 : 0 ≤ m) (h2 : m ≤ 1024) (h3 : 1 ≤ n) (h4 : n ≤ 65535) (hN : Own.N ≤ w.heap.size) :
    Calls Try.prog 10 #[.int .i64 m, .int .i64 n] w fun e w' => ∃ g, e = .returned (.tuple #[.pointer (some ⟨g, 0, none⟩), .int .i64 0]) ∧ SW w.heap.size w' g (SSt.new m n) ∧ Below w.heap.size w w' := by
  refine (new_ok w.heap.size m n w h1 h2 h3 h4 hN).mono ?_
  rintro e w' ⟨g, rfl, _, hs, hb⟩
  refine ⟨g, rfl, ⟨⟨_, _, hs⟩, ⟨h1, h2, h3, h4, ?_, rfl, ?_, List.nodup_nil, ?_, ?_, ?_⟩⟩, hb⟩
  · exact h1
  · exact Int.le_refl _
  · intro p hp; cases hp
  · intro x hx; cases hx
  · intro p h0 h1; simp [SSt.new] at h1; omega
theorem take_st (base : Nat) (g : Nat) (S : SSt) (w : World) (h : SW base w g S) (hbase : base ≤ w.heap.size) :
    Calls Try.prog 13 #[.pointer (some ⟨g, 0, none⟩)] w fun e w' => e = .returned (.tuple #[.agg #[.int .i64 S.takeP, .int .i64 S.takeG], .int .i64 S.takeE]) ∧ SW base w' g S.take ∧ Below base w w' ∧ Stays w w' ∧ w.heap.size ≤ w'.heap.size := by
  obtain ⟨⟨vp, vf, hs⟩, hi⟩ := h
  have hi2 := SSt.take_inv hi
  have ha := SSt.al0 hi
  have hfl := hi.fl
  have hlp := hi.lp
  have hm := hi.m1
  have hn := hi.n1
  unfold SSt.takeP SSt.takeG SSt.takeE SSt.take
  unfold SSt.take at hi2
  by_cases hf : S.full
  · rw [if_pos hf] at hi2
    rw [if_pos hf, if_pos hf, if_pos hf, if_pos hf]
    have hs' : Slab base w g S.m S.n vp vf S.ps [] S.al := by
      have := List.length_eq_zero_iff.mp hf.1
      rw [this] at hs; exact hs
    refine (take_full base g S.m S.n S.al vp vf S.ps w hs' hf.2 hbase).mono ?_
    rintro e w' ⟨rfl, h1, h2, h3, h4⟩
    refine ⟨rfl, ⟨⟨vp, vf, ?_⟩, hi⟩, h2, h3, h4⟩
    have := List.length_eq_zero_iff.mp hf.1
    rw [this]; exact h1
  · rw [if_neg hf] at hi2
    rw [if_neg hf, if_neg hf, if_neg hf, if_neg hf]
    by_cases h0 : S.fs.length = 0
    · rw [if_pos h0] at hi2
      rw [if_pos h0, if_pos h0, if_pos h0]
      have hs' : Slab base w g S.m S.n vp vf S.ps [] S.al := by
        have := List.length_eq_zero_iff.mp h0
        rw [this] at hs; exact hs
      refine (take_fresh base g S.m S.n S.al vp vf S.ps w hs' (fun e => hf ⟨h0, e⟩) (by omega) ha (by omega) hbase).mono ?_
      rintro e w' ⟨rfl, ⟨vp', h1⟩, h2, h3, h4⟩
      exact ⟨rfl, ⟨⟨vp', vf, h1⟩, hi2⟩, h2, h3, h4⟩
    · rw [if_neg h0] at hi2
      rw [if_neg h0, if_neg h0, if_neg h0]
      have hmem := hi.fm _ (SSt.lastF_mem S h0)
      have hpg := hi.pg _ (SSt.rd_mem S.ps S.lastF hmem.1 hmem.2.1)
      refine (take_pop base g S.m S.n S.al vp vf S.ps S.fs w S.lastF hs (by omega) (by omega) rfl hmem.1 hmem.2.1 (by omega) (by omega) (by omega) ha (by omega) hbase).mono ?_
      rintro e w' ⟨rfl, ⟨vf', h1⟩, h2, h3, h4⟩
      exact ⟨rfl, ⟨⟨vp, vf', h1⟩, hi2⟩, h2, h3, h4⟩
theorem free_st (base : Nat) (g : Nat) (S : SSt) (w : World) (p q : Int) (h : SW base w g S) (hbase : base ≤ w.heap.size) :
    Calls Try.prog 11 #[.pointer (some ⟨g, 0, none⟩), .agg #[.int .i64 p, .int .i64 q]] w fun e w' => e = .returned (.int .i64 (S.freeE p q)) ∧ SW base w' g (S.free p q) ∧ Below base w w' ∧ Stays w w' ∧ w.heap.size ≤ w'.heap.size := by
  obtain ⟨⟨vp, vf, hs⟩, hi⟩ := h
  have hi2 := SSt.free_inv hi p q
  have ha := SSt.al0 hi
  have hfl := hi.fl
  have hlp := hi.lp
  have hm := hi.m1
  unfold SSt.free SSt.freeE
  unfold SSt.free at hi2
  by_cases hA : S.isAlive p q = true
  · rw [if_pos hA] at hi2
    rw [if_pos hA, if_pos hA]
    have hA' := hA
    simp only [SSt.isAlive, Bool.and_eq_true, decide_eq_true_eq, beq_iff_eq] at hA'
    obtain ⟨⟨h0, h1, h2⟩, h3⟩ := hA'
    by_cases hq : q < S.n
    · rw [if_pos hq] at hi2
      rw [if_pos hq]
      refine (free_back base g S.m S.n S.al vp vf S.ps S.fs w p q hs h0 h1 h2 h3 hq (by omega) (by omega) (by omega) hbase).mono ?_
      rintro e w' ⟨rfl, ⟨vf', h1⟩, h2, h3, h4⟩
      exact ⟨rfl, ⟨⟨vp, vf', h1⟩, hi2⟩, h2, h3, h4⟩
    · rw [if_neg hq] at hi2
      rw [if_neg hq]
      refine (free_worn base g S.m S.n S.al vp vf S.ps S.fs w p q hs h0 h1 h2 h3 (by omega) (by omega) (by omega) hbase).mono ?_
      rintro e w' ⟨rfl, h1, h2, h3, h4⟩
      exact ⟨rfl, ⟨⟨vp, vf, h1⟩, hi2⟩, h2, h3, h4⟩
  · rw [if_neg hA, if_neg hA]
    refine (free_none base g S.m S.n S.al vp vf S.ps S.fs w p q hs (by simpa [SSt.isAlive] using hA)).mono ?_
    rintro e w' ⟨rfl, hb⟩
    exact ⟨rfl, ⟨⟨vp, vf, Slab.below hs hb⟩, hi⟩, Below.mono hb hbase, Stays.below hb, hb.size⟩
theorem alive_st (base : Nat) (g : Nat) (S : SSt) (w : World) (p q : Int) (h : SW base w g S) :
    Calls Try.prog 14 #[.pointer (some ⟨g, 0, none⟩), .agg #[.int .i64 p, .int .i64 q]] w fun e w' => e = .returned (.bool (S.isAlive p q)) ∧ Below w.heap.size w w' := by
  obtain ⟨⟨vp, vf, hs⟩, hi⟩ := h
  exact alive_calls base g S.m S.n S.al vp vf S.ps S.fs w p q hs
theorem len_st (base : Nat) (g : Nat) (S : SSt) (w : World) (h : SW base w g S) :
    Calls Try.prog 15 #[.pointer (some ⟨g, 0, none⟩)] w fun e w' => e = .returned (.int .i64 S.al) ∧ Drawn0 w w' := by
  obtain ⟨⟨vp, vf, hs⟩, hi⟩ := h
  exact len_calls base g S.m S.n S.al vp vf S.ps S.fs w hs
theorem left_st (base : Nat) (g : Nat) (S : SSt) (w : World) (h : SW base w g S) :
    Calls Try.prog 16 #[.pointer (some ⟨g, 0, none⟩)] w fun e w' => e = .returned (.int .i64 S.left) ∧ Drawn0 w w' := by
  obtain ⟨⟨vp, vf, hs⟩, hi⟩ := h
  have ha := SSt.al0 hi
  have hfl := hi.fl
  have hlp := hi.lp
  have hm := hi.m1
  have hm0 := hi.m0
  exact left_lit base g S.m S.n S.al vp vf S.ps S.fs w S.left hs (by unfold SSt.left wrap64; omega)
theorem worn_st (base : Nat) (g : Nat) (S : SSt) (w : World) (h : SW base w g S) :
    Calls Try.prog 17 #[.pointer (some ⟨g, 0, none⟩)] w fun e w' => e = .returned (.int .i64 S.worn) ∧ Drawn0 w w' := by
  obtain ⟨⟨vp, vf, hs⟩, hi⟩ := h
  have ha := SSt.al0 hi
  have hfl := hi.fl
  have hlp := hi.lp
  have hm := hi.m1
  have hm0 := hi.m0
  exact worn_lit base g S.m S.n S.al vp vf S.ps S.fs w S.worn hs (by unfold SSt.worn wrap64; omega)
theorem at_st (base : Nat) (g : Nat) (S : SSt) (w : World) (p : Int) (h : SW base w g S) :
    Calls Try.prog 24 #[.pointer (some ⟨g, 0, none⟩), .int .i64 p] w fun e w' => e = .returned (S.atV p) ∧ Below w.heap.size w w' := by
  obtain ⟨⟨vp, vf, hs⟩, hi⟩ := h
  exact at_free base g S.m S.n S.al vp vf S.ps S.fs w p hs
end Go.Proofs.Ytppbdjoikdldiaa.PSlabOf
