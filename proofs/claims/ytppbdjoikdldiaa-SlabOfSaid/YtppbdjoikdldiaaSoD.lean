/- SoD: walks of the slab's functions. -/
import Derived.Test.YtppbdjoikdldiaaSoC
import Derived.Test.YtppbdjoikdldiaaPSlabOfx3
import Derived.Laws.Cover3
import Derived.StillTailTactics
namespace Go.Proofs.Ytppbdjoikdldiaa.PSlabOf
open Go.RowKit Go.Proofs.YtppbdjoikdldiaaW.PrintWords Go.Proofs.YtppbdjoikdldiaaW.PrintLast Go.Proofs.YtppbdjoikdldiaaW.PrintMore
set_option linter.unusedVariables false
set_option linter.unusedSimpArgs false
namespace SSt
def Holds (S : SSt) (T : List S30) : Prop := ∀ t ∈ T, 0 ≤ t.f0 ∧ t.f0 < S.ps.length ∧ t.f1 ≤ (rd_T64 S.ps t.f0).f0
theorem alive_parts {S : SSt} {p q : Int} (h : S.isAlive p q = true) : 0 ≤ p ∧ p < S.ps.length ∧ (rd_T64 S.ps p).f1 = true ∧ (rd_T64 S.ps p).f0 = q := by
  simp only [isAlive, Bool.and_eq_true, decide_eq_true_eq, beq_iff_eq] at h
  obtain ⟨⟨h0, h1, h2⟩, h3⟩ := h
  exact ⟨h0, h1, h2, h3⟩
theorem free_m (S : SSt) (p q : Int) : (S.free p q).m = S.m ∧ (S.free p q).n = S.n := by unfold free; split <;> exact ⟨rfl, rfl⟩
theorem take_m (S : SSt) : S.take.m = S.m ∧ S.take.n = S.n := by unfold take; split; exact ⟨rfl, rfl⟩; split <;> exact ⟨rfl, rfl⟩
theorem holds_free {S : SSt} {T : List S30} (p q : Int) (hT : S.Holds T) : (S.free p q).Holds T := by
  intro t ht
  have := hT t ht
  unfold free
  split
  rotate_left
  · exact this
  rename_i hA
  obtain ⟨h0, h1, h2, h3⟩ := alive_parts hA
  refine ⟨this.1, by simp; exact this.2.1, ?_⟩
  show t.f1 ≤ (rd_T64 (S.ps.set p.toNat ⟨q, false⟩) t.f0).f0
  rw [rd_set _ _ _ _ h0 h1 this.1]
  split
  · rename_i e
    have h4 := this.2.2
    rw [e, h3] at h4
    exact h4
  · exact this.2.2
/-- A take that goes: where, how far, and what is there behind. -/
theorem take_there {S : SSt} (h : S.Inv) (hf : ¬ S.full) : 0 ≤ S.takeP ∧ S.takeP < S.take.ps.length ∧ (rd_T64 S.take.ps S.takeP).f1 = true ∧ (rd_T64 S.take.ps S.takeP).f0 = S.takeG ∧
    (S.takeP < S.ps.length → (rd_T64 S.ps S.takeP).f0 < S.takeG) ∧ (∀ q : Int, 0 ≤ q → q < S.ps.length → q < S.take.ps.length ∧ (q ≠ S.takeP → rd_T64 S.take.ps q = rd_T64 S.ps q)) := by
  unfold takeP takeG take
  rw [if_neg hf, if_neg hf, if_neg hf]
  by_cases h0 : S.fs.length = 0
  · rw [if_pos h0, if_pos h0, if_pos h0]
    refine ⟨by omega, by simp; omega, ?_, ?_, fun hh => absurd hh (by omega), ?_⟩
    · rw [rd_app _ _ _ (by omega) (by omega), if_pos rfl]
    · rw [rd_app _ _ _ (by omega) (by omega), if_pos rfl]
    · intro q hq0 hq1
      refine ⟨by simp; omega, fun hne => ?_⟩
      show rd_T64 (S.ps ++ [_]) q = _
      rw [rd_app _ _ _ hq0 (by omega), if_neg hne]
  · rw [if_neg h0, if_neg h0, if_neg h0]
    have hm := h.fm _ (lastF_mem S h0)
    refine ⟨hm.1, by simp; exact hm.2.1, ?_, ?_, fun _ => by omega, ?_⟩
    · show (rd_T64 (S.ps.set S.lastF.toNat _) S.lastF).f1 = true
      rw [rd_set _ _ _ _ hm.1 hm.2.1 hm.1, if_pos rfl]
    · show (rd_T64 (S.ps.set S.lastF.toNat _) S.lastF).f0 = _
      rw [rd_set _ _ _ _ hm.1 hm.2.1 hm.1, if_pos rfl]
    · intro q hq0 hq1
      refine ⟨by simp; omega, fun hne => ?_⟩
      show rd_T64 (S.ps.set S.lastF.toNat _) q = _
      rw [rd_set _ _ _ _ hm.1 hm.2.1 hq0, if_neg hne]
theorem holds_take {S : SSt} {T : List S30} (h : S.Inv) (hT : S.Holds T) (hf : ¬ S.full) : S.take.Holds (T ++ [⟨S.takeP, S.takeG⟩]) := by
  obtain ⟨h0, h1, h2, h3, h4, h5⟩ := take_there h hf
  intro t ht
  rcases List.mem_append.mp ht with ht | ht
  · have := hT t ht
    have h6 := h5 _ this.1 this.2.1
    refine ⟨this.1, h6.1, ?_⟩
    by_cases e : t.f0 = S.takeP
    · rw [e, h3]
      have h7 := h4 (by omega)
      rw [← e] at h7
      omega
    · rw [h6.2 e]
      exact this.2.2
  · rw [List.mem_singleton] at ht
    subst ht
    exact ⟨h0, h1, by rw [h3]; exact Int.le_refl _⟩
theorem take_apart {S : SSt} {T : List S30} (h : S.Inv) (hT : S.Holds T) (hf : ¬ S.full) (t : S30) (ht : t ∈ T) (e : t.f0 = S.takeP) : t.f1 < S.takeG ∧ S.take.isAlive t.f0 t.f1 = false := by
  obtain ⟨h0, h1, h2, h3, h4, h5⟩ := take_there h hf
  have := hT t ht
  have h7 := h4 (by omega)
  rw [← e] at h7
  refine ⟨by omega, ?_⟩
  cases hA : S.take.isAlive t.f0 t.f1 with
  | false => rfl
  | true =>
    have h8 := alive_parts hA
    rw [e] at h8
    omega
theorem sums (S : SSt) : S.al + S.left + S.worn = S.m := by unfold left worn; omega
theorem full_take {S : SSt} (hf : S.full) : S.take = S := by unfold take; rw [if_pos hf]
theorem takeE_pos {S : SSt} (hf : S.full) : S.takeE = 6 := by unfold takeE; rw [if_pos hf]
theorem takeE_neg {S : SSt} (hf : ¬ S.full) : S.takeE = 0 := by unfold takeE; rw [if_neg hf]
/-- What is freed last is taken next. -/
theorem freed (S : SSt) (h : S.Inv) (p q : Int) (hA : S.isAlive p q = true) : S.freeE p q = 0 ∧ (S.free p q).isAlive p q = false ∧
    (q = S.n → (S.free p q).left = S.left ∧ (S.free p q).worn = S.worn + 1) ∧
    (q ≠ S.n → ¬ (S.free p q).full ∧ (S.free p q).takeP = p ∧ (S.free p q).takeG = q + 1 ∧ (S.free p q).take.left = S.left ∧ (S.free p q).take.worn = S.worn) := by
  obtain ⟨h0, h1, h2, h3⟩ := alive_parts hA
  have hpg := h.pg _ (rd_mem S.ps p h0 h1)
  have e : S.free p q = ⟨S.m, S.n, S.ps.set p.toNat ⟨q, false⟩, if q < S.n then S.fs ++ [p] else S.fs, S.al - 1⟩ := by unfold free; rw [if_pos hA]
  have hr : rd_T64 (S.ps.set p.toNat ⟨q, false⟩) p = ⟨q, false⟩ := by rw [rd_set _ _ _ _ h0 h1 h0, if_pos rfl]
  refine ⟨by unfold freeE; rw [if_pos hA], ?_, ?_, ?_⟩
  · rw [e]; simp [isAlive, hr]
  · intro hq
    rw [e, if_neg (by omega)]
    unfold left worn
    simp
    omega
  · intro hq
    have hlt : q < S.n := by omega
    rw [if_pos hlt] at e
    have hne : ¬ (S.free p q).full := by rw [e]; simp [full]
    have hl0 : ¬ (S.free p q).fs.length = 0 := by rw [e]; simp
    have hlast : (S.free p q).lastF = p := by
      rw [lastF_eq _ hl0]
      simp only [e]
      simp
    have hP : (S.free p q).takeP = p := by unfold takeP; rw [if_neg hne, if_neg hl0, hlast]
    have hG : (S.free p q).takeG = q + 1 := by
      unfold takeG
      rw [if_neg hne, if_neg hl0, hlast, e]
      show (rd_T64 (S.ps.set p.toNat ⟨q, false⟩) p).f0 + 1 = _
      rw [hr]
    refine ⟨hne, hP, hG, ?_, ?_⟩
    · unfold take
      rw [if_neg hne, if_neg hl0, e]
      unfold left
      simp
    · unfold take
      rw [if_neg hne, if_neg hl0, e]
      unfold worn
      simp
end SSt
def handP (a : Int) (b : Int) (c d : Int) (T : List S30) : S30 := if a = 1 ∧ 0 ≤ b ∧ b < T.length then rd_T30 T b else ⟨c, d⟩
/-! What is done: rows of acts, read. -/
structure S32 where
  f0 : Int
  f1 : Int
  f2 : Int
  f3 : Int
def z32 : S32 := ⟨0, 0, 0, 0⟩
def k32 : Kd S32 := Kd.iso (Kd.pair (Kd.int .i64) (Kd.pair (Kd.int .i64) (Kd.pair (Kd.int .i64) (Kd.int .i64)))) (fun x : S32 => (x.f0, x.f1, x.f2, x.f3))
theorem k32_open {w : World} {x : S32} {cs : List Value} (h : k32.K w x cs) : cs = [.int .i64 x.f0, .int .i64 x.f1, .int .i64 x.f2, .int .i64 x.f3] := by
  obtain ⟨_, _, rfl, rfl, _, _, rfl, rfl, _, _, rfl, rfl, rfl⟩ := h
  exact rfl
theorem k32_mk (w : World) (x : S32) : k32.K w x [.int .i64 x.f0, .int .i64 x.f1, .int .i64 x.f2, .int .i64 x.f3] := ⟨[.int .i64 x.f0], [.int .i64 x.f1, .int .i64 x.f2, .int .i64 x.f3], rfl, rfl, [.int .i64 x.f1], [.int .i64 x.f2, .int .i64 x.f3], rfl, rfl, [.int .i64 x.f2], [.int .i64 x.f3], rfl, rfl, rfl⟩
def rd_T32 (xs : List S32) (i : Int) : S32 := xs.getD i.toNat z32
theorem at_T32 {w : World} {A : Option Addr} {n : Nat} {xs : List S32} (h : Kd.C k32 w A n xs) (i : Int) (h0 : 0 ≤ i) (h1 : i < n) : ∃ ad , A = some ad ∧ w.cell? (ad.add (i.toNat * 4)) = some (.int .i64 (rd_T32 xs i).f0) ∧ w.cell? ⟨(ad.add (i.toNat * 4)).block, (ad.add (i.toNat * 4)).off + 1, none⟩ = some (.int .i64 (rd_T32 xs i).f1) ∧
    w.cell? ⟨(ad.add (i.toNat * 4)).block, (ad.add (i.toNat * 4)).off + 2, none⟩ = some (.int .i64 (rd_T32 xs i).f2) ∧ w.cell? ⟨(ad.add (i.toNat * 4)).block, (ad.add (i.toNat * 4)).off + 3, none⟩ = some (.int .i64 (rd_T32 xs i).f3) := by
  obtain ⟨ad, c, e, _, hK, hc0⟩ := Kd.C_get h z32 i h0 h1
  have hc : ∀ j u, c[j]? = some u → w.cell? (ad.add (i.toNat * 4 + j)) = some u := hc0
  obtain rfl := k32_open hK
  exact ⟨ad, e, hc 0 _ rfl, by rw [← add_field _ _ 1 (by omega)]; exact hc 1 _ rfl, by rw [← add_field _ _ 2 (by omega)]; exact hc 2 _ rfl, by rw [← add_field _ _ 3 (by omega)]; exact hc 3 _ rfl⟩
theorem R_C {base : Nat} {w : World} {A : Option Addr} {c n : Nat} {T : List S30} (h : k30.R 30 w base (fun _ => True) (.slice A n c) T) : n = T.length ∧ Kd.C k30 w A T.length T ∧ T.length ≤ c := by
  obtain ⟨A', c', he, hl, hC⟩ := Kd.R_reads h
  injection he with e1 e2 e3
  subst e1 e2 e3
  exact ⟨rfl, hC, hl⟩
theorem slab_info30 : (Try.prog.info? 30).map (fun i => (i.zero, i.size, i.bytes)) = some (some (.agg #[.int .i64 0, .int .i64 0]), 2, 16) := by kernel_rfl
theorem SSt.bounds {S : SSt} (h : S.Inv) : 0 ≤ S.al ∧ S.al ≤ 1024 ∧ 0 ≤ S.left ∧ S.left ≤ 1024 ∧ 0 ≤ S.worn ∧ S.worn ≤ 1024 := by
  have h1 := SSt.al0 h
  have h2 := h.m1
  have h3 := h.lp
  have h4 := h.fl
  unfold SSt.left SSt.worn
  omega
theorem w64 (x : Int) (h1 : -9223372036854775808 ≤ x) (h2 : x ≤ 9223372036854775807) : wrap64 x = x := by unfold wrap64; omega
theorem drop_cons30 (A : List S30) (j : Nat) (h : j < A.length) : A.drop j = rd_T30 A (j : Int) :: A.drop (j + 1) := by
  rw [List.drop_eq_getElem_cons h]
  unfold rd_T30
  rw [List.getD_eq_getElem?_getD, Int.toNat_natCast, List.getElem?_eq_getElem h]
  rfl
def hit (p q : Int) (t : S30) : Bool := t.f0 == p && t.f1 == q
theorem isAlive_l (A : List S30) (p q m n : Int) (u f : List Int) (hl : A.length ≤ 100000) : ∀ (k j : Nat), j ≤ A.length → A.length - j + 1 ≤ k → complineref05_IsAlive.l0 k (j : Int) m n u f A p q = some ((A.drop j).any (hit p q))
  | 0, j, _, h => by omega
  | k + 1, j, hj, h => by
    unfold complineref05_IsAlive.l0
    by_cases hlt : j < A.length
    · rw [if_pos (by omega), if_pos (by omega), drop_cons30 A j hlt, List.any_cons]
      have ih := isAlive_l A p q m n u f hl k (j + 1) (by omega) (by omega)
      rw [w64 _ (by omega) (by omega), show ((j : Int) + 1) = ((j + 1 : Nat) : Int) from rfl, ih]
      unfold hit
      cases ((rd_T30 A (j : Int)).f0 == p && (rd_T30 A (j : Int)).f1 == q) <;> simp
    · rw [if_neg (by omega), List.drop_of_length_le (by omega)]
      rfl
theorem at_l (A : List S30) (p m n : Int) (u f : List Int) (hl : A.length ≤ 100000) : ∀ (k j : Nat), j ≤ A.length → A.length - j + 1 ≤ k → complineref05_At.l0 k p (j : Int) m n u f A = some (match (A.drop j).find? (fun t => t.f0 == p) with | some t => (t.f0, t.f1, true) | none => (0, 0, false))
  | 0, j, _, h => by omega
  | k + 1, j, hj, h => by
    unfold complineref05_At.l0
    by_cases hlt : j < A.length
    · rw [if_pos (by omega), if_pos (by omega), drop_cons30 A j hlt, List.find?_cons]
      have ih := at_l A p m n u f hl k (j + 1) (by omega) (by omega)
      rw [w64 _ (by omega) (by omega), show ((j : Int) + 1) = ((j + 1 : Nat) : Int) from rfl, ih]
      by_cases he : (rd_T30 A (j : Int)).f0 = p
      · rw [if_pos he]; simp [he]
      · have : ((rd_T30 A (j : Int)).f0 == p) = false := by simpa using he
        rw [if_neg he, this]
    · rw [if_neg (by omega), List.drop_of_length_le (by omega)]
      rfl
theorem same_l (l : List Int) (hl : l.length ≤ 100000) : ∀ (k j : Nat), j ≤ l.length → l.length - j + 1 ≤ k → complineref02_Same.l0 k l l (j : Int) = some true
  | 0, j, _, h => by omega
  | k + 1, j, hj, h => by
    unfold complineref02_Same.l0
    by_cases hlt : j < l.length
    · have ih := same_l l hl k (j + 1) (by omega) (by omega)
      rw [if_pos (by omega), if_pos (by omega), if_pos (by omega), if_pos rfl, w64 _ (by omega) (by omega), show ((j : Int) + 1) = ((j + 1 : Nat) : Int) from rfl, ih]
    · rw [if_neg (by omega)]
theorem same_f (l : List Int) (hl : l.length ≤ 100000) : complineref02_Same.f 200000 l l = some true := by
  unfold complineref02_Same.f
  rw [if_pos rfl]
  exact same_l l hl 200000 0 (by omega) (by omega)
namespace SSt
def used (S : SSt) : List Int := S.ps.map (fun x => x.f0)
structure AliveOf (S : SSt) (A : List S30) : Prop where
  mem : ∀ t, t ∈ A ↔ S.isAlive t.f0 t.f1 = true
  nd : (A.map (fun t => t.f0)).Nodup
  len : (A.length : Int) = S.al
theorem used_len (S : SSt) : S.used.length = S.ps.length := by unfold used; simp
theorem used_rd (S : SSt) (p : Int) (h0 : 0 ≤ p) (h1 : p < S.ps.length) : rd S.used p = (rd_T64 S.ps p).f0 := by
  unfold rd used
  rw [List.getD_eq_getElem?_getD, List.getElem?_map, rd_get _ _ h0 h1, List.getElem?_eq_getElem (by omega)]
  rfl
theorem any_hit {S : SSt} {A : List S30} (h : S.AliveOf A) (p q : Int) : A.any (hit p q) = S.isAlive p q := by
  cases hA : S.isAlive p q with
  | true =>
    have := (h.mem ⟨p, q⟩).mpr hA
    exact List.any_eq_true.mpr ⟨_, this, by simp [hit]⟩
  | false =>
    apply List.any_eq_false.mpr
    intro t ht
    have := (h.mem t).mp ht
    intro hc
    simp only [hit, Bool.and_eq_true, beq_iff_eq] at hc
    rw [hc.1, hc.2, hA] at this
    cases this
theorem alive_isAlive {S : SSt} {A : List S30} (h : S.AliveOf A) (hi : S.Inv) (p q : Int) : complineref05_IsAlive.f 200000 S.m S.n S.used S.fs A p q = some (S.isAlive p q) := by
  have := hi.m1
  have := hi.lp
  have := hi.fl
  have := h.len
  unfold complineref05_IsAlive.f
  have e := isAlive_l A p q S.m S.n S.used S.fs (by omega) 200000 0 (by omega) (by omega)
  rw [show ((0 : Nat) : Int) = 0 from rfl] at e
  rw [e, List.drop_zero, any_hit h]
def atP (S : SSt) (p : Int) : Int × Int × Bool := if 0 ≤ p ∧ p < S.ps.length ∧ (rd_T64 S.ps p).f1 = true then (p, (rd_T64 S.ps p).f0, true) else (0, 0, false)
theorem atV_eq (S : SSt) (p : Int) : S.atV p = .tuple #[.agg #[.int .i64 (S.atP p).1, .int .i64 (S.atP p).2.1], .bool (S.atP p).2.2] := by
  unfold atV atP
  split <;> rfl
theorem alive_at {S : SSt} {A : List S30} (h : S.AliveOf A) (hi : S.Inv) (p : Int) : complineref05_At.f 200000 S.m S.n S.used S.fs A p = some (S.atP p) := by
  have := hi.m1
  have := hi.lp
  have := hi.fl
  have := h.len
  unfold complineref05_At.f
  have e := at_l A p S.m S.n S.used S.fs (by omega) 200000 0 (by omega) (by omega)
  rw [show ((0 : Nat) : Int) = 0 from rfl] at e
  rw [e, List.drop_zero]
  congr 1
  cases hf : A.find? (fun t => t.f0 == p) with
  | some t =>
    have ht := List.mem_of_find?_eq_some hf
    have hp := List.find?_some hf
    simp at hp
    obtain ⟨a0, a1, a2, a3⟩ := alive_parts ((h.mem t).mp ht)
    rw [hp] at a0 a1 a2 a3
    unfold atP
    rw [if_pos ⟨a0, a1, a2⟩]
    show (t.f0, t.f1, true) = _
    rw [hp, a3]
  | none =>
    unfold atP
    rw [if_neg]
    rintro ⟨a0, a1, a2⟩
    have : S.isAlive p (rd_T64 S.ps p).f0 = true := by simp [isAlive, a0, a1, a2]
    have := (h.mem ⟨p, _⟩).mpr this
    have := List.find?_eq_none.mp hf _ this
    simp at this
theorem not_there {S : SSt} (h : S.Inv) (hf : ¬ S.full) (q : Int) : S.isAlive S.takeP q = false := by
  cases hA : S.isAlive S.takeP q with
  | false => rfl
  | true =>
    obtain ⟨a0, a1, a2, a3⟩ := alive_parts hA
    unfold takeP at a1 a2
    rw [if_neg hf] at a1 a2
    by_cases h0 : S.fs.length = 0
    · rw [if_pos h0] at a1
      omega
    · rw [if_neg h0] at a2
      have := (h.fm _ (lastF_mem S h0)).2.2.1
      rw [a2] at this
      cases this
theorem take_len {S : SSt} (hf : ¬ S.full) (q : Int) (h1 : q < S.take.ps.length) (hne : q ≠ S.takeP) : q < S.ps.length := by
  unfold take at h1
  unfold takeP at hne
  rw [if_neg hf] at h1 hne
  by_cases h0 : S.fs.length = 0
  · rw [if_pos h0] at h1 hne
    simp at h1
    omega
  · rw [if_neg h0] at h1
    simpa using h1
theorem take_alive {S : SSt} (h : S.Inv) (hf : ¬ S.full) (p q : Int) : S.take.isAlive p q = if p = S.takeP then q == S.takeG else S.isAlive p q := by
  obtain ⟨h0, h1, h2, h3, h4, h5⟩ := take_there h hf
  by_cases hp : p = S.takeP
  · rw [if_pos hp]
    unfold isAlive
    rw [hp, h2, h3]
    simp [h0, h1]
    exact Bool.beq_comm
  · rw [if_neg hp]
    unfold isAlive
    by_cases a0 : 0 ≤ p
    · by_cases a1 : p < S.ps.length
      · obtain ⟨b1, b2⟩ := h5 p a0 a1
        rw [b2 hp]
        simp [a0, a1, b1]
      · have : ¬ p < S.take.ps.length := fun hc => a1 (take_len hf p hc hp)
        simp [a1, this]
    · simp [a0]
theorem alive_take {S : SSt} {A : List S30} (h : S.AliveOf A) (hi : S.Inv) (hf : ¬ S.full) : S.take.AliveOf (A ++ [⟨S.takeP, S.takeG⟩]) := by
  have hno := not_there hi hf
  refine ⟨?_, ?_, ?_⟩
  · intro t
    rw [take_alive hi hf]
    constructor
    · intro ht
      rcases List.mem_append.mp ht with ht | ht
      · have := (h.mem t).mp ht
        by_cases hp : t.f0 = S.takeP
        · rw [hp, hno] at this
          cases this
        · rw [if_neg hp]; exact this
      · rw [List.mem_singleton] at ht
        subst ht
        simp
    · intro ht
      by_cases hp : t.f0 = S.takeP
      · rw [if_pos hp] at ht
        apply List.mem_append_right
        rw [List.mem_singleton]
        obtain ⟨a, b⟩ := t
        simp at ht hp
        subst ht hp
        rfl
      · rw [if_neg hp] at ht
        exact List.mem_append_left _ ((h.mem t).mpr ht)
  · rw [List.map_append, List.map_cons, List.map_nil]
    refine List.nodup_append.mpr ⟨h.nd, by simp, ?_⟩
    intro a ha b hb
    rw [List.mem_singleton] at hb
    subst hb
    rintro rfl
    obtain ⟨t, ht, he⟩ := List.mem_map.mp ha
    have := (h.mem t).mp ht
    rw [he, hno] at this
    cases this
  · have := h.len
    have e : S.take.al = S.al + 1 := by
      unfold take
      rw [if_neg hf]
      split <;> rfl
    rw [e, List.length_append, List.length_singleton]
    omega
theorem filter_len : ∀ (A : List S30) (p q : Int), (A.map (fun t => t.f0)).Nodup → (∃ t ∈ A, hit p q t = true) → (A.filter (fun t => !(hit p q t))).length + 1 = A.length
  | [], _, _, _, h => by obtain ⟨t, ht, _⟩ := h; cases ht
  | a :: A, p, q, hn, h => by
    rw [List.map_cons, List.nodup_cons] at hn
    by_cases ha : hit p q a = true
    · have : A.filter (fun t => !(hit p q t)) = A := by
        apply List.filter_eq_self.mpr
        intro t ht
        simp only [hit, Bool.and_eq_true, beq_iff_eq] at ha
        have : t.f0 ≠ p := fun e => hn.1 (by rw [ha.1, ← e]; exact List.mem_map_of_mem ht)
        simp [hit, this]
      rw [List.filter_cons, ha, this]
      rfl
    · have ih := filter_len A p q hn.2 (by
        obtain ⟨t, ht, hh⟩ := h
        rcases List.mem_cons.mp ht with rfl | ht
        · exact absurd hh ha
        · exact ⟨t, ht, hh⟩)
      have hf : hit p q a = false := by simpa using ha
      rw [List.filter_cons, hf]
      simp only [Bool.not_false, if_true, List.length_cons]
      omega
theorem free_alive {S : SSt} (p q : Int) (hA : S.isAlive p q = true) (r s : Int) : (S.free p q).isAlive r s = if r = p then false else S.isAlive r s := by
  obtain ⟨h0, h1, h2, h3⟩ := alive_parts hA
  have e : (S.free p q).ps = S.ps.set p.toNat ⟨q, false⟩ := by unfold free; rw [if_pos hA]
  unfold isAlive
  rw [e, List.length_set]
  by_cases hr : r = p
  · rw [if_pos hr, hr, rd_set _ _ _ _ h0 h1 h0, if_pos rfl]
    simp
  · rw [if_neg hr]
    by_cases a0 : 0 ≤ r
    · rw [rd_set _ _ _ _ h0 h1 a0, if_neg hr]
    · simp [a0]
theorem alive_free {S : SSt} {A : List S30} (h : S.AliveOf A) (p q : Int) (hA : S.isAlive p q = true) : (S.free p q).AliveOf (A.filter (fun t => !(hit p q t))) := by
  obtain ⟨h0, h1, h2, h3⟩ := alive_parts hA
  refine ⟨?_, ?_, ?_⟩
  · intro t
    rw [List.mem_filter, free_alive p q hA, h.mem]
    by_cases hp : t.f0 = p
    · rw [if_pos hp]
      constructor
      · rintro ⟨ht, hn⟩
        have := (alive_parts ht).2.2.2
        rw [hp, h3] at this
        simp [hit, hp, this] at hn
      · intro hc; cases hc
    · rw [if_neg hp]
      simp [hit, hp]
  · exact h.nd.sublist (List.Sublist.map _ List.filter_sublist)
  · have := filter_len A p q h.nd ⟨⟨p, q⟩, (h.mem _).mpr hA, by simp [hit]⟩
    have hl := h.len
    have e : (S.free p q).al = S.al - 1 := by unfold free; rw [if_pos hA]
    rw [e]
    omega
end SSt
theorem info3' : (Try.prog.info? 3).map (fun i => (i.zero, i.size, i.bytes)) = some (some (.int .i64 0), 1, 8) := by kernel_rfl
theorem run_eql_nil42 (a : Option Addr) (l c : Nat) (w : World) : (binOp .eql 42 (.slice a l c) (.slice none 0 0)).run Try.prog w = .ok (.bool a.isNone) w := by
  simp only [binOp]
  simp [run_equal_slice_nil w 42 3 a l c Try.underlying42]
attribute [local go_sem high] run_eql_nil42
theorem clone_calls (A : Option Addr) (c : Nat) (fs : List Int) (w : World) (hr : Kd.C (Kd.int .i64) w A fs.length fs) (hc : fs.length ≤ c) (hl : fs.length ≤ 100000) :
    Calls Try.prog 30 #[.slice A fs.length c] w fun e w' => ∃ v, e = .returned v ∧ Kd.R (Kd.int .i64) 3 w' w.heap.size (fun _ => True) v fs ∧ Below w.heap.size w w' := by
  have HR := Aside0.mk hr
  clear hr
  cases A with
  | none =>
    have h0 : fs = [] := by
      cases fs with
      | nil => rfl
      | cons x l =>
        obtain ⟨ad, e, _⟩ := HR.out.2.2 (by simp)
        cases e
    subst h0
    go_enter Try.func30, Try.ntmps30
    go_wp2
    trace_state
    go_ret
    exact ⟨_, rfl, Kd.R_nil _ _ _ _ _, Below.refl _ _⟩
  | some ad =>
    go_enter Try.func30, Try.ntmps30
    go_wp2_with (first | ((with_reducible refine gate_dst (N := 5) rfl ?_); refine Kd.R_lit (Kd.int .i64) _ 3 ?hg (N := 5) ?hd (xs := ([] : List Int)) (inner := []) (ok := fun _ => True) (okp := fun _ => True) ?hr ?hp (fun _ hk => hk) trivial (Below.refl _ _) (Nat.le_refl _) (by simp) ?_; (case hd => rfl); (case hg => rfl); (case hr => first | (go_simp; done) | (go_simp; rfl)); (case hp => exact (Reps.none _ _)); intro v1 w1 ho hb hg_ hnew_; clear hg_ hnew_; have HO1 := Aside0.mk ho; have HB1 := Aside0.mk hb; clear ho hb) | ((with_reducible refine gate_builtin (b := .append) (xs := #[.tmp 5, .tmp 6]) rfl ?_); at_builtin; refine Kd.R_append_rows (Kd.int .i64) (w0 := w) w.heap.size rfl (.tmp 5) (.tmp 6) 42 3 (.int .i64 0) 8 rfl Try.underlying42 info3' rfl (by decide) (by omega) v1 [] fs _ _ _ (fun _ => True) (fun _ => False) rfl rfl ?aO ?aR (fun _ _ h => h) (fun _ h => h.elim) ?aF ?aB ?aS ?aL ?_; (case aR => exact Kd.C_below HR.out HB1.out); (case aB => exact HB1.out); (case aF => exact (fun _ _ => trivial)); (case aO => exact HO1.out); (case aS => exact HB1.out.size); (case aL => simp; omega); intro v2 w2 ho hb hg hat; have HO2 := Aside0.mk ho; have HB2 := Aside0.mk hb; clear ho hb hg hat))
    go_ret
    exact ⟨v2, rfl, HO2.out, HB2.out⟩
theorem map_take_succ (ps : List S64) (k : Nat) (h : k < ps.length) : (ps.take (k + 1)).map (fun x => x.f0) = (ps.take k).map (fun x => x.f0) ++ [(rd_T64 ps (k : Int)).f0] := by
  rw [List.take_add_one, List.getElem?_eq_getElem h, List.map_append]
  unfold rd_T64
  rw [List.getD_eq_getElem?_getD, Int.toNat_natCast, List.getElem?_eq_getElem h]
  rfl
set_option maxHeartbeats 4000000 in
set_option maxRecDepth 100000 in
theorem image_st [Own] (base : Nat) (g : Nat) (S : SSt) (w : World) (h : SW base w g S) :
    Calls Try.prog 20 #[.pointer (some ⟨g, 0, none⟩)] w fun e w' => ∃ v1 v2, e = .returned (.tuple #[v1, v2]) ∧ Kd.R (Kd.int .i64) 3 w' w.heap.size (fun _ => True) v1 (S.ps.map (fun x => x.f0)) ∧ Kd.R (Kd.int .i64) 3 w' w.heap.size (fun _ => True) v2 S.fs ∧ Below w.heap.size w w' := by
  have hlp := h.2.lp
  have hfl := h.2.fl
  have ha := SSt.al0 h.2
  have hm := h.2.m1
  obtain ⟨⟨vp, vf, hs⟩, hi⟩ := h
  obtain ⟨A, c, hve, hcl, HC⟩ := Kd.R_reads hs.2.2.1
  obtain ⟨Af, cf, hvf, hcf, HF⟩ := Kd.R_reads hs.2.2.2.1
  subst hve hvf
  have hc2 : w.cell? ⟨g, 2, none⟩ = some (.slice A S.ps.length c) := (blk_cell hs.1 2).trans rfl
  have hf2 := blk_frozen hs.1 2
  have HS := Aside0.mk hs.1
  have HC := Aside0.mk HC
  have HF := Aside0.mk HF
  have hu62 := Try.underlying62
  have hu64 := Try.underlying64
  clear hs hi
  go_enter Try.func20, Try.ntmps20
  go_wp2
  go_loopg [4, 12] S.ps.length (fun gf u i wr => ∃ (k : Nat), k + gf = S.ps.length ∧ i = .int .i64 (k : Int) ∧ Aside0 (Kd.R (Kd.int .i64) 3 wr w.heap.size (fun _ => True) u ((S.ps.take k).map (fun x => x.f0))) ∧ Aside0 (Below w.heap.size w wr))
  case atStart =>
    exact ⟨0, by omega, rfl, ⟨Kd.R_nil _ _ _ _ _⟩, ⟨Below.refl _ _⟩⟩
  case round =>
    obtain ⟨k, hk, rfl, HU, HB⟩ := hrel
    by_cases hlt : k < S.ps.length
    · obtain ⟨g', rfl⟩ : ∃ g', gk = g' + 1 := ⟨gk - 1, by omega⟩
      have hlt2 : (k : Int) < (S.ps.length : Int) := by omega
      have HCr := Aside0.mk (Kd.C_below HC.out HB.out)
      obtain ⟨ad, rfl, z0, z1⟩ := at_T64 HCr.out (k : Int) (by omega) hlt2
      simp only [Int.toNat_natCast] at z0 z1
      obtain ⟨x, hx⟩ : ∃ x, rd_T64 S.ps (k : Int) = x := ⟨_, rfl⟩
      rw [hx] at z0 z1
      have HX := Aside0.mk hx
      clear hx
      have hwi : IntKind.i64.wrap ((k : Int) + 1) = (k : Int) + 1 := wrap_ok _ (by omega) (by omega)
      go_upto_region 5 with (fail)
      have C1 := Aside0.mk (heap_alloc_new wr (Obj.cells #[Value.int IntKind.i64 x.f0, Value.bool x.f1] 64))
      have HU4 := Aside0.mk (Kd.R_below HU.out (below_alloc (Below.refl _ _) (Obj.cells #[Value.int IntKind.i64 x.f0, Value.bool x.f1] 64)))
      have HB4 := Aside0.mk (Below.alloc HB.out HB.out.size (Obj.cells #[Value.int IntKind.i64 x.f0, Value.bool x.f1] 64))
      obtain ⟨b, hb⟩ : ∃ b, wr.heap.size = b := ⟨_, rfl⟩
      rw [hb] at C1 ⊢
      generalize (wr.alloc (Obj.cells #[Value.int IntKind.i64 x.f0, Value.bool x.f1] 64)) = w4 at C1 HU4 HB4 ⊢
      clear HU HB HCr z0 z1 hb
      have c0 := (blk_cell C1.out 0).trans (show _ = some (Value.int .i64 x.f0) from rfl)
      obtain ⟨Au, cu, rfl⟩ := Kd.R_slice HU4.out
      go_wp2_with (first | ((with_reducible refine gate_builtin (b := .append) (xs := #[.tmp 16, .tmp 19]) rfl ?_); at_builtin; refine Kd.R_append (Kd.int .i64) (w0 := w) w.heap.size rfl (.tmp 16) (.tmp 19) 42 3 (.int .i64 0) 8 rfl Try.underlying42 info3' rfl (by decide) (by omega) _ ((S.ps.take k).map (fun x => x.f0)) x.f0 [.int .i64 x.f0] (fun _ => True) (fun _ => False) rfl rfl ?aP (fun _ hk => hk.elim) ?aF ?aO ?aB ?aS ?aL ?_; (case aP => exact rfl); (case aB => exact HB4.out); (case aF => exact (fun _ _ => trivial)); (case aO => exact HU4.out); (case aS => exact HB4.out.size); (case aL => simp; omega); intro v1 w6 ho hb hg hat; have HO := Aside0.mk ho; have HB6 := Aside0.mk hb; clear ho hb hg hat))
      go_roundg g'
      case measure => omega
      case rel =>
        refine ⟨k + 1, by omega, rfl, ⟨?_⟩, HB6⟩
        rw [map_take_succ _ _ hlt, HX.out]
        exact HO.out
    · have hge : ¬ (k : Int) < (S.ps.length : Int) := by omega
      have hk2 : S.ps.take k = S.ps := List.take_of_length_le (by omega)
      have HU := HU.out
      rw [hk2] at HU
      have HU := Aside0.mk HU
      have HSr := Aside0.mk ((HB.out.block g (blk_lt HS.out)).trans HS.out)
      have d3 := (blk_cell HSr.out 3).trans (show _ = some (Value.slice Af S.fs.length cf) from rfl)
      have f3 := blk_frozen HSr.out 3
      have HCL := Aside0.mk (clone_calls Af cf S.fs wr (Kd.C_below HF.out HB.out) hcf (by omega))
      clear hc2 hf2
      go_wp2_with (first | (go_at_call 30; refine HCL.out.mono ?_; rintro e w5 ⟨v2, rfl, hv, hb⟩; have HV := Aside0.mk hv; have HB5 := Aside0.mk hb; clear hv hb))
      trace_state
      go_ret2
      exact ⟨_, v2, rfl, Kd.R_below HU.out HB5.out, Kd.R_lower HV.out HB.out.size, below_step HB.out HB5.out⟩
end Go.Proofs.Ytppbdjoikdldiaa.PSlabOf
