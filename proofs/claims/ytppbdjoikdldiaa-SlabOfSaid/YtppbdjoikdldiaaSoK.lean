/- SoK: walks of the slab's functions. -/
import Derived.Test.YtppbdjoikdldiaaSoJ
namespace Go.Proofs.Ytppbdjoikdldiaa.PSlabOf
open Go.RowKit Go.Proofs.YtppbdjoikdldiaaW.PrintWords Go.Proofs.YtppbdjoikdldiaaW.PrintLast Go.Proofs.YtppbdjoikdldiaaW.PrintMore
set_option linter.unusedVariables false
set_option linter.unusedSimpArgs false
def cntI (l : List Int) (p : Int) : Int := (l.countP (fun x => x == p) : Nat)
def cntH (l : List S30) (p : Int) : Int := (l.countP (fun x => x.f0 == p) : Nat)
theorem drop_consI' (A : List Int) (j : Nat) (h : j < A.length) : A.drop j = rd A (j : Int) :: A.drop (j + 1) := drop_consI A j h
theorem has_l (l : List Int) (p : Int) (hl : l.length ≤ 100000) : ∀ (k j c : Nat), c ≤ j → j ≤ l.length → l.length - j + 1 ≤ k → complineref05_has.l0 k l p (c : Int) (j : Int) = some ((c : Int) + ((l.drop j).countP (fun x => x == p) : Nat))
  | 0, j, c, _, _, h => by omega
  | k + 1, j, c, hc, hj, h => by
    unfold complineref05_has.l0
    by_cases hlt : j < l.length
    · rw [if_pos (by omega), if_pos (by omega), drop_consI l j hlt, List.countP_cons]
      by_cases he : rd l (j : Int) = p
      · have ih := has_l l p hl k (j + 1) (c + 1) (by omega) (by omega) (by omega)
        rw [if_pos he, w64 _ (by omega) (by omega), w64 _ (by omega) (by omega), show ((j : Int) + 1) = ((j + 1 : Nat) : Int) from rfl, show ((c : Int) + 1) = ((c + 1 : Nat) : Int) from rfl, ih]
        simp [he]
        omega
      · have ih := has_l l p hl k (j + 1) c (by omega) (by omega) (by omega)
        rw [if_neg he, w64 _ (by omega) (by omega), show ((j : Int) + 1) = ((j + 1 : Nat) : Int) from rfl, ih]
        simp [he]
    · rw [if_neg (by omega), List.drop_of_length_le (by omega)]
      simp
theorem has_f (l : List Int) (p : Int) (hl : l.length ≤ 100000) : complineref05_has.f 200000 l p = some (cntI l p) := by
  unfold complineref05_has.f cntI
  have := has_l l p hl 200000 0 0 (by omega) (by omega) (by omega)
  simpa using this
theorem at_l' (l : List S30) (p : Int) (hl : l.length ≤ 100000) : ∀ (k j c : Nat), c ≤ j → j ≤ l.length → l.length - j + 1 ≤ k → complineref05_at.l0 k l p (c : Int) (j : Int) = some ((c : Int) + ((l.drop j).countP (fun x => x.f0 == p) : Nat))
  | 0, j, c, _, _, h => by omega
  | k + 1, j, c, hc, hj, h => by
    unfold complineref05_at.l0
    by_cases hlt : j < l.length
    · rw [if_pos (by omega), if_pos (by omega), drop_cons30 l j hlt, List.countP_cons]
      by_cases he : (rd_T30 l (j : Int)).f0 = p
      · have ih := at_l' l p hl k (j + 1) (c + 1) (by omega) (by omega) (by omega)
        rw [if_pos he, w64 _ (by omega) (by omega), w64 _ (by omega) (by omega), show ((j : Int) + 1) = ((j + 1 : Nat) : Int) from rfl, show ((c : Int) + 1) = ((c + 1 : Nat) : Int) from rfl, ih]
        simp [he]
        omega
      · have ih := at_l' l p hl k (j + 1) c (by omega) (by omega) (by omega)
        rw [if_neg he, w64 _ (by omega) (by omega), show ((j : Int) + 1) = ((j + 1 : Nat) : Int) from rfl, ih]
        simp [he]
    · rw [if_neg (by omega), List.drop_of_length_le (by omega)]
      simp
theorem at_f' (l : List S30) (p : Int) (hl : l.length ≤ 100000) : complineref05_at.f 200000 l p = some (cntH l p) := by
  unfold complineref05_at.f cntH
  have := at_l' l p hl 200000 0 0 (by omega) (by omega) (by omega)
  simpa using this
/-- The document's tests. -/
def t2 (n : Int) (us fs : List Int) (p : Int) : Bool := decide (p < 0) || (decide ((us.length : Int) ≤ p) || (cntI fs p != 1 || decide (n ≤ rd us p)))
def t3 (us fs : List Int) (A : List S30) (t : S30) : Bool := decide (t.f0 < 0) || (decide ((us.length : Int) ≤ t.f0) || (t.f1 != rd us t.f0 || (cntH A t.f0 != 1 || cntI fs t.f0 != 0)))
def t4 (n : Int) (fs : List Int) (A : List S30) (x p : Int) : Bool := decide (x < 1) || (decide (n < x) || (decide (x < n) && (cntI fs p == 0 && cntH A p == 0)))
def RefOk (m n : Int) (us fs : List Int) (A : List S30) : Prop := (us.length : Int) ≤ m ∧ (∀ p ∈ fs, t2 n us fs p = false) ∧ (∀ t ∈ A, t3 us fs A t = false) ∧ ∀ k : Nat, k < us.length → t4 n fs A (rd us (k : Int)) (k : Int) = false
theorem cntI_zero (l : List Int) (p : Int) : cntI l p = 0 ↔ p ∉ l := by
  unfold cntI
  rw [Int.natCast_eq_zero, List.countP_eq_zero]
  constructor
  · intro h hp
    exact h p hp (by simp)
  · intro h x hx hc
    have : x = p := by simpa using hc
    exact h (this ▸ hx)
theorem cntH_zero (l : List S30) (p : Int) : cntH l p = 0 ↔ p ∉ l.map (fun t => t.f0) := by
  unfold cntH
  rw [Int.natCast_eq_zero, List.countP_eq_zero]
  constructor
  · intro h hp
    obtain ⟨t, ht, he⟩ := List.mem_map.mp hp
    exact h t ht (by simpa using he)
  · intro h x hx hc
    have : x.f0 = p := by simpa using hc
    exact h (this ▸ List.mem_map_of_mem hx)
theorem nodup_cnt : ∀ (l : List Int), l.Nodup ↔ ∀ p ∈ l, cntI l p = 1
  | [] => by simp
  | x :: l => by
    rw [List.nodup_cons, nodup_cnt l]
    have e : ∀ p, cntI (x :: l) p = cntI l p + if x = p then 1 else 0 := by
      intro p
      unfold cntI
      rw [List.countP_cons]
      by_cases h : x = p <;> simp [h]
    constructor
    · rintro ⟨h1, h2⟩ p hp
      rw [e]
      rcases List.mem_cons.mp hp with rfl | hp
      · rw [(cntI_zero l p).mpr h1, if_pos rfl]; rfl
      · rw [h2 p hp, if_neg (fun e2 : x = p => h1 (e2.symm ▸ hp))]; rfl
    · intro h
      have hx := h x List.mem_cons_self
      rw [e, if_pos rfl] at hx
      have hx0 : cntI l x = 0 := by omega
      have hnx := (cntI_zero l x).mp hx0
      refine ⟨hnx, fun p hp => ?_⟩
      have := h p (List.mem_cons_of_mem _ hp)
      rw [e, if_neg (fun e2 : x = p => hnx (e2.symm ▸ hp))] at this
      omega
theorem cntH_map (l : List S30) (p : Int) : cntH l p = cntI (l.map (fun t => t.f0)) p := by
  unfold cntH cntI
  rw [List.countP_map]
  rfl
theorem refOk_iff (m n : Int) (us fs : List Int) (A : List S30) : RefOk m n us fs A ↔ OkP m n us fs A := by
  unfold RefOk OkP
  constructor
  · rintro ⟨c1, c2, c3, c4⟩
    have hx : ∀ x ∈ us, 1 ≤ x ∧ x ≤ n := by
      intro x hx
      obtain ⟨k, hk, rfl⟩ := List.mem_iff_getElem.mp hx
      have := c4 k hk
      unfold t4 at this
      simp only [Bool.or_eq_false_iff, decide_eq_false_iff_not] at this
      have e : rd us (k : Int) = us[k] := by
        unfold rd
        rw [List.getD_eq_getElem?_getD, Int.toNat_natCast, List.getElem?_eq_getElem hk]
        rfl
      rw [e] at this
      omega
    have h2 : ∀ p ∈ fs, 0 ≤ p ∧ p < us.length ∧ cntI fs p = 1 ∧ rd us p < n := by
      intro p hp
      have := c2 p hp
      unfold t2 at this
      simp only [Bool.or_eq_false_iff, decide_eq_false_iff_not, bne_eq_false_iff_eq] at this
      omega
    have h3 : ∀ t ∈ A, 0 ≤ t.f0 ∧ t.f0 < us.length ∧ t.f1 = rd us t.f0 ∧ cntH A t.f0 = 1 ∧ cntI fs t.f0 = 0 := by
      intro t ht
      have := c3 t ht
      unfold t3 at this
      simp only [Bool.or_eq_false_iff, decide_eq_false_iff_not, bne_eq_false_iff_eq] at this
      omega
    refine ⟨c1, hx, ⟨(nodup_cnt fs).mpr (fun p hp => (h2 p hp).2.2.1), fun p hp => ⟨(h2 p hp).1, (h2 p hp).2.1, by have := (h2 p hp).2.2.2; omega⟩⟩, ⟨(nodup_cnt _).mpr (fun p hp => ?_), fun t ht => ⟨(h3 t ht).1, (h3 t ht).2.1, (h3 t ht).2.2.1.symm, (cntI_zero _ _).mp (h3 t ht).2.2.2.2⟩⟩, fun p h0 h1 hn => ?_⟩
    · obtain ⟨t, ht, rfl⟩ := List.mem_map.mp hp
      rw [← cntH_map]
      exact (h3 t ht).2.2.2.1
    · have h4 := c4 p.toNat (by omega)
      rw [show ((p.toNat : Nat) : Int) = p by omega] at h4
      have hm := hx _ (rd_memI us p h0 h1)
      unfold t4 at h4
      simp only [Bool.or_eq_false_iff, Bool.and_eq_false_iff, decide_eq_false_iff_not, beq_eq_false_iff_ne] at h4
      by_cases e1 : p ∈ fs
      · exact .inl e1
      · right
        apply Classical.byContradiction
        intro e2
        have z1 := (cntI_zero fs p).mpr e1
        have z2 := (cntH_zero A p).mpr e2
        omega
  · rintro ⟨c1, c2, ⟨c3, c3'⟩, ⟨c4, c4'⟩, c5⟩
    refine ⟨c1, fun p hp => ?_, fun t ht => ?_, fun k hk => ?_⟩
    · have h := c3' p hp
      have h1 := (nodup_cnt fs).mp c3 p hp
      have h2 := c2 _ (rd_memI us p h.1 h.2.1)
      unfold t2
      simp only [Bool.or_eq_false_iff, decide_eq_false_iff_not, bne_eq_false_iff_eq]
      omega
    · have h := c4' t ht
      have h1 := (nodup_cnt _).mp c4 t.f0 (List.mem_map_of_mem ht)
      rw [← cntH_map] at h1
      have h2 := (cntI_zero fs t.f0).mpr h.2.2.2
      unfold t3
      simp only [Bool.or_eq_false_iff, decide_eq_false_iff_not, bne_eq_false_iff_eq]
      omega
    · have h := c2 _ (rd_memI us (k : Int) (by omega) (by omega))
      unfold t4
      simp only [Bool.or_eq_false_iff, Bool.and_eq_false_iff, decide_eq_false_iff_not, beq_eq_false_iff_ne]
      refine ⟨by omega, by omega, ?_⟩
      by_cases hn : rd us (k : Int) = n
      · left; omega
      · right
        rcases c5 (k : Int) (by omega) (by omega) hn with h | h
        · left
          intro hc
          exact (cntI_zero fs _).mp hc h
        · right
          intro hc
          exact (cntH_zero A _).mp hc h
theorem new_f_bad (m n : Int) (h : m < 0 ∨ 1024 < m ∨ n < 1 ∨ 65535 < n) : complineref05_New.f m n = some (0, 0, [], [], [], 1) := by
  unfold complineref05_New.f
  split
  · rfl
  split
  · rfl
  split
  · rfl
  split
  · rfl
  · omega
theorem new_f_ok (m n : Int) (h : 0 ≤ m ∧ m ≤ 1024 ∧ 1 ≤ n ∧ n ≤ 65535) : complineref05_New.f m n = some (m, n, [], [], [], 0) := by
  unfold complineref05_New.f
  rw [if_neg (by omega), if_neg (by omega), if_neg (by omega), if_neg (by omega)]
/-- How the document's Of ends. -/
def RefEnd (m n : Int) (us fs : List Int) (A : List S30) (w : World) (e : Ending) (w' : World) : Prop :=
  ∃ (x0 x1 : Int) (B2 B3 B4 : Option Addr) (n2 e2 n3 e3 n4 e4 : Nat) (k : Int), e = .returned (.tuple #[.agg #[.int .i64 x0, .int .i64 x1, .slice B2 n2 e2, .slice B3 n3 e3, .slice B4 n4 e4], .int .i64 k]) ∧ Below w.heap.size w w' ∧
    (((m < 0 ∨ 1024 < m ∨ n < 1 ∨ 65535 < n) ∧ k = 1) ∨ (¬ (m < 0 ∨ 1024 < m ∨ n < 1 ∨ 65535 < n) ∧ ¬ RefOk m n us fs A ∧ k = 2) ∨
      (¬ (m < 0 ∨ 1024 < m ∨ n < 1 ∨ 65535 < n) ∧ RefOk m n us fs A ∧ k = 0 ∧ x0 = m ∧ x1 = n ∧ n2 = us.length ∧ n3 = fs.length ∧ n4 = A.length ∧ Kd.C (Kd.int .i64) w' B2 us.length us ∧ us.length ≤ e2 ∧ Kd.C (Kd.int .i64) w' B3 fs.length fs ∧ fs.length ≤ e3 ∧ Kd.C k30 w' B4 A.length A ∧ A.length ≤ e4))
theorem blk_put5 {w : World} {g : Nat} {t : TypeId} {a0 a1 a2 a3 a4 b0 b1 b2 b3 b4 : Value} (h : w.heap[g]? = some (.cells #[a0, a1, a2, a3, a4] t (0, 0))) :
    (((((w.setCell ⟨g, 0, none⟩ b0).setCell ⟨g, 1, none⟩ b1).setCell ⟨g, 2, none⟩ b2).setCell ⟨g, 3, none⟩ b3).setCell ⟨g, 4, none⟩ b4).heap[g]? = some (.cells #[b0, b1, b2, b3, b4] t (0, 0)) := by
  refine blk_put (cs := #[b0, b1, b2, b3, a4]) ?_ 4 _ rfl
  refine blk_put (cs := #[b0, b1, b2, a3, a4]) ?_ 3 _ rfl
  refine blk_put (cs := #[b0, b1, a2, a3, a4]) ?_ 2 _ rfl
  refine blk_put (cs := #[b0, a1, a2, a3, a4]) ?_ 1 _ rfl
  exact blk_put h 0 _ rfl
theorem below_put5 {b : Nat} {w0 w : World} {g : Nat} {b0 b1 b2 b3 b4 : Value} (h : Below b w0 w) (hg : b ≤ g) :
    Below b w0 (((((w.setCell ⟨g, 0, none⟩ b0).setCell ⟨g, 1, none⟩ b1).setCell ⟨g, 2, none⟩ b2).setCell ⟨g, 3, none⟩ b3).setCell ⟨g, 4, none⟩ b4) :=
  Below.setCell (Below.setCell (Below.setCell (Below.setCell (Below.setCell h (p := ⟨g, 0, none⟩) hg _) (p := ⟨g, 1, none⟩) hg _) (p := ⟨g, 2, none⟩) hg _) (p := ⟨g, 3, none⟩) hg _) (p := ⟨g, 4, none⟩) hg _
theorem put5_keep {w : World} {g k : Nat} {b0 b1 b2 b3 b4 : Value} {o : Option Obj} (h : w.heap[k]? = o) (hne : k ≠ g) : (((((w.setCell ⟨g, 0, none⟩ b0).setCell ⟨g, 1, none⟩ b1).setCell ⟨g, 2, none⟩ b2).setCell ⟨g, 3, none⟩ b3).setCell ⟨g, 4, none⟩ b4).heap[k]? = o := by
  rw [Below.heap_setCell _ ⟨g, 4, none⟩ _ k hne, Below.heap_setCell _ ⟨g, 3, none⟩ _ k hne, Below.heap_setCell _ ⟨g, 2, none⟩ _ k hne, Below.heap_setCell _ ⟨g, 1, none⟩ _ k hne, Below.heap_setCell _ ⟨g, 0, none⟩ _ k hne]
  exact h

set_option maxHeartbeats 8000000 in
set_option maxRecDepth 100000 in
theorem ref_of_bad (m n : Int) (us fs : List Int) (A : List S30) (A2 A3 A4 : Option Addr) (c2 c3 c4 : Nat) (w : World) (hbad : m < 0 ∨ 1024 < m ∨ n < 1 ∨ 65535 < n) :
    Calls Try.prog 22 #[.int .i64 m, .int .i64 n, .slice A2 us.length c2, .slice A3 fs.length c3, .slice A4 A.length c4] w fun e w' => RefEnd m n us fs A w e w' := by
  have hu44 := Try.underlying44
  have hf := new_f_bad m n hbad
  have HN := Aside0.mk (fun W => complineref05_New.calls m n 0 0 [] [] [] 1 W hf)
  have HBAD := Aside0.mk hbad
  clear hf hbad
  go_enter Try.func22, Try.ntmps22
  go_upto_region 1 with (first | ((with_reducible refine gate_dst (N := 10) rfl ?_); refine box_event ?hg (N := 10) ?hd (cs := #[.int .i64 0, .int .i64 0, .slice none 0 0, .slice none 0 0, .slice none 0 0]) (t := 44) ?hr ?_; (case hd => rfl); (case hg => rfl); (case hr => first | (go_simp; done) | (go_simp; rfl)); intro g10 hg1 w1 hbox hb; have F10 := Aside0.mk hbox; have G10 := Aside0.mk (show w.heap.size ≤ g10 from Nat.le_of_eq hg1.symm); have B1 := Aside0.mk hb; clear hbox hg1 hb))
  go_upto_region 2 with (first | (go_at_call 18; refine (HN.out _).mono ?_; rintro e w3 ⟨x2, x3, x4, rfl, h2, h3, h4, hb⟩; (obtain ⟨R2, e2, rfl⟩ := Kd.R_slice h2); (obtain ⟨R3, e3, rfl⟩ := Kd.R_slice h3); (obtain ⟨R4, e4, rfl⟩ := Kd.R_slice h4); have F10b := Aside0.mk (blk_keep F10.out hb); have B3 := Aside0.mk (below_step B1.out hb); clear h2 h3 h4 hb))
  have F10c := Aside0.mk (blk_keep F10b.out (below_al w3 (Obj.cells #[Value.int IntKind.i64 0, Value.int IntKind.i64 0, Value.slice R2 0 e2, Value.slice R3 0 e3, Value.slice R4 0 e4] 44)))
  have B4 := Aside0.mk (below_step B3.out (below_al w3 (Obj.cells #[Value.int IntKind.i64 0, Value.int IntKind.i64 0, Value.slice R2 0 e2, Value.slice R3 0 e3, Value.slice R4 0 e4] 44)))
  have X1 := Aside0.mk (heap_alloc_new w3 (Obj.cells #[Value.int IntKind.i64 0, Value.int IntKind.i64 0, Value.slice R2 0 e2, Value.slice R3 0 e3, Value.slice R4 0 e4] 44))
  generalize (w3.alloc (Obj.cells #[Value.int IntKind.i64 0, Value.int IntKind.i64 0, Value.slice R2 0 e2, Value.slice R3 0 e3, Value.slice R4 0 e4] 44)) = w4 at F10c B4 X1 ⊢
  generalize w3.heap.size = g12 at X1 ⊢
  clear F10 F10b B1 B3 HN
  have p0 : w4.cell? ⟨g10, 0, none⟩ = some (.int .i64 0) := (blk_cell F10c.out 0).trans rfl
  have pz0 := blk_frozen F10c.out 0
  have p1 : w4.cell? ⟨g10, 1, none⟩ = some (.int .i64 0) := (blk_cell F10c.out 1).trans rfl
  have pz1 := blk_frozen F10c.out 1
  have p2 : w4.cell? ⟨g10, 2, none⟩ = some (.slice none 0 0) := (blk_cell F10c.out 2).trans rfl
  have pz2 := blk_frozen F10c.out 2
  have p3 : w4.cell? ⟨g10, 3, none⟩ = some (.slice none 0 0) := (blk_cell F10c.out 3).trans rfl
  have pz3 := blk_frozen F10c.out 3
  have p4 : w4.cell? ⟨g10, 4, none⟩ = some (.slice none 0 0) := (blk_cell F10c.out 4).trans rfl
  have pz4 := blk_frozen F10c.out 4
  have q0 : w4.cell? ⟨g12, 0, none⟩ = some (.int .i64 0) := (blk_cell X1.out 0).trans rfl
  have qz0 := blk_frozen X1.out 0
  have q1 : w4.cell? ⟨g12, 1, none⟩ = some (.int .i64 0) := (blk_cell X1.out 1).trans rfl
  have qz1 := blk_frozen X1.out 1
  have q2 : w4.cell? ⟨g12, 2, none⟩ = some (.slice R2 0 e2) := (blk_cell X1.out 2).trans rfl
  have qz2 := blk_frozen X1.out 2
  have q3 : w4.cell? ⟨g12, 3, none⟩ = some (.slice R3 0 e3) := (blk_cell X1.out 3).trans rfl
  have qz3 := blk_frozen X1.out 3
  have q4 : w4.cell? ⟨g12, 4, none⟩ = some (.slice R4 0 e4) := (blk_cell X1.out 4).trans rfl
  have qz4 := blk_frozen X1.out 4
  go_wp2
  refine bodyPost_ret (results_ct rfl _ _ g10 44 #[.int .i64 0, .int .i64 0, .slice R2 0 e2, .slice R3 0 e3, .slice R4 0 e4] (0, 0) _ rfl (blk_put5 F10c.out) Try.underlying44 rfl (by kernel_rfl)) rfl ?_
  exact ⟨_, _, _, _, _, _, _, _, _, _, _, _, rfl, below_put5 B4.out G10.out, .inl ⟨HBAD.out, rfl⟩⟩

theorem cellI {w : World} {A : Option Addr} {l : List Int} (hr : Kd.C (Kd.int .i64) w A l.length l) (p : Int) (h0 : 0 ≤ p) (h1 : p < l.length) :
    ∃ ad, A = some ad ∧ ∀ (W : World), Below w.heap.size w W → W.cell? (ad.add p.toNat) = some (.int .i64 (rd l p)) := by
  obtain ⟨ad, c0, hA, _, hK, hc0⟩ := Kd.C_get hr (0 : Int) p h0 h1
  refine ⟨ad, hA, fun W hB => ?_⟩
  obtain ⟨ad', c0', hA', _, hK', hc0'⟩ := Kd.C_get (Kd.C_below hr hB) (0 : Int) p h0 h1
  rw [hA] at hA'
  cases hA'
  have := hc0' 0 (.int .i64 (rd l p)) (by rw [show c0' = [.int .i64 (rd l p)] from hK']; rfl)
  simpa [show (Kd.int IntKind.i64).sz = 1 from rfl] using this
theorem mem_rd {l : List Int} {p : Int} (h : p ∈ l) : ∃ j : Nat, j < l.length ∧ rd l (j : Int) = p := by
  obtain ⟨j, hj, e⟩ := List.mem_iff_getElem.mp h
  refine ⟨j, hj, ?_⟩
  unfold rd
  rw [List.getD_eq_getElem?_getD, Int.toNat_natCast, List.getElem?_eq_getElem hj]
  exact e

theorem mem_rd30 {l : List S30} {p : S30} (h : p ∈ l) : ∃ j : Nat, j < l.length ∧ rd_T30 l (j : Int) = p := by
  obtain ⟨j, hj, e⟩ := List.mem_iff_getElem.mp h
  refine ⟨j, hj, ?_⟩
  unfold rd_T30
  rw [List.getD_eq_getElem?_getD, Int.toNat_natCast, List.getElem?_eq_getElem hj]
  exact e
theorem rd_mem30 (l : List S30) (p : Int) (h0 : 0 ≤ p) (h1 : p < l.length) : rd_T30 l p ∈ l := by
  unfold rd_T30
  rw [List.getD_eq_getElem?_getD, List.getElem?_eq_getElem (by omega)]
  exact List.getElem_mem _
theorem below_drewG {b : Nat} {w w' : World} (h : Below b w w') (k : Nat) : Below b w (w'.drewN k) := pw_below_drewN h k

theorem R_put5 {α : Type} {d : Kd α} {e : Nat} {w : World} {base : Nat} {ok : Nat → Prop} {v : Value} {xs : List α} (h : d.R e w base ok v xs) {g t : Nat} {cells : Array Value} (hb : w.heap[g]? = some (.cells cells t (0, 0))) (ht : ∀ q, q ∈ e :: d.E → q ≠ t) {b0 b1 b2 b3 b4 : Value} :
    d.R e (((((w.setCell ⟨g, 0, none⟩ b0).setCell ⟨g, 1, none⟩ b1).setCell ⟨g, 2, none⟩ b2).setCell ⟨g, 3, none⟩ b3).setCell ⟨g, 4, none⟩ b4) base ok v xs :=
  Kd.R_set (Kd.R_set (Kd.R_set (Kd.R_set (Kd.R_set h hb ht 0 b0) (blk_set hb 0 b0) ht 1 b1) (blk_set (blk_set hb 0 b0) 1 b1) ht 2 b2) (blk_set (blk_set (blk_set hb 0 b0) 1 b1) 2 b2) ht 3 b3) (blk_set (blk_set (blk_set (blk_set hb 0 b0) 1 b1) 2 b2) 3 b3) ht 4 b4
theorem R_readsS {α : Type} {d : Kd α} {e : Nat} {w : World} {base : Nat} {ok : Nat → Prop} {A : Option Addr} {n c : Nat} {xs : List α} (h : d.R e w base ok (.slice A n c) xs) : xs.length ≤ c ∧ d.C w A xs.length xs := by
  obtain ⟨A', c', e', h1, h2⟩ := Kd.R_reads h
  injection e' with e1 e2 e3
  subst e1 e3
  exact ⟨h1, h2⟩

set_option maxHeartbeats 16000000 in
set_option maxRecDepth 100000 in
theorem ref_of_good (m n : Int) (us fs : List Int) (A : List S30) (A2 A3 A4 : Option Addr) (c2 c3 c4 : Nat) (w : World) (hnb : ¬ (m < 0 ∨ 1024 < m ∨ n < 1 ∨ 65535 < n))
    (hr2 : Kd.C (Kd.int .i64) w A2 us.length us) (hc2 : us.length ≤ c2) (hr3 : Kd.C (Kd.int .i64) w A3 fs.length fs) (hc3 : fs.length ≤ c3) (hr4 : Kd.C k30 w A4 A.length A) (hc4 : A.length ≤ c4) (hl2 : us.length ≤ 60) (hl3 : fs.length ≤ 60) (hl4 : A.length ≤ 60) :
    Calls Try.prog 22 #[.int .i64 m, .int .i64 n, .slice A2 us.length c2, .slice A3 fs.length c3, .slice A4 A.length c4] w fun e w' => RefEnd m n us fs A w e w' := by
  have hu44 := Try.underlying44
  have hu30 := Try.underlying30
  have h1 : 0 ≤ m ∧ m ≤ 1024 ∧ 1 ≤ n ∧ n ≤ 65535 := by omega
  have HNB := Aside0.mk hnb
  clear hnb
  have HR2 := Aside0.mk hr2
  have HR3 := Aside0.mk hr3
  have HR4 := Aside0.mk hr4
  clear hr2 hr3 hr4
  have HN := Aside0.mk (fun W => complineref05_New.calls m n m n [] [] [] 0 W (new_f_ok m n h1))
  have HHAS := Aside0.mk (fun (W : World) (p : Int) (hB : Below w.heap.size w W) => complineref05_has.calls 200000 A3 c3 fs p _ W (Kd.C_below HR3.out hB) hc3 (has_f fs p (by omega)))
  have HAT := Aside0.mk (fun (W : World) (p : Int) (hB : Below w.heap.size w W) => complineref05_at.calls 200000 A4 c4 A p _ W (Kd.C_below HR4.out hB) hc4 (at_f' A p (by omega)))
  go_enter Try.func22, Try.ntmps22
  go_upto_region 1 with (first | ((with_reducible refine gate_dst (N := 10) rfl ?_); refine box_event ?hg (N := 10) ?hd (cs := #[.int .i64 0, .int .i64 0, .slice none 0 0, .slice none 0 0, .slice none 0 0]) (t := 44) ?hr ?_; (case hd => rfl); (case hg => rfl); (case hr => first | (go_simp; done) | (go_simp; rfl)); intro g10 hg1 w1 hbox hb; have F10 := Aside0.mk hbox; have G10 := Aside0.mk (show w.heap.size ≤ g10 from Nat.le_of_eq hg1.symm); have B1 := Aside0.mk hb; clear hbox hg1 hb))
  go_upto_region 2 with (first | (go_at_call 18; refine (HN.out _).mono ?_; rintro e w3 ⟨x2, x3, x4, rfl, h2, h3, h4, hb⟩; (obtain ⟨R2, e2, rfl⟩ := Kd.R_slice h2); (obtain ⟨R3, e3, rfl⟩ := Kd.R_slice h3); (obtain ⟨R4, e4, rfl⟩ := Kd.R_slice h4); have F10b := Aside0.mk (blk_keep F10.out hb); have B3 := Aside0.mk (below_step B1.out hb); clear h2 h3 h4 hb))
  have F10c := Aside0.mk (blk_keep F10b.out (below_al w3 (Obj.cells #[Value.int IntKind.i64 m, Value.int IntKind.i64 n, Value.slice R2 0 e2, Value.slice R3 0 e3, Value.slice R4 0 e4] 44)))
  have B4 := Aside0.mk (below_step B3.out (below_al w3 (Obj.cells #[Value.int IntKind.i64 m, Value.int IntKind.i64 n, Value.slice R2 0 e2, Value.slice R3 0 e3, Value.slice R4 0 e4] 44)))
  have X1 := Aside0.mk (heap_alloc_new w3 (Obj.cells #[Value.int IntKind.i64 m, Value.int IntKind.i64 n, Value.slice R2 0 e2, Value.slice R3 0 e3, Value.slice R4 0 e4] 44))
  have G12 := Aside0.mk (show w.heap.size ≤ w3.heap.size from B3.out.size)
  have G1012 := Aside0.mk (show g10 ≠ w3.heap.size from fun e => by have := blk_lt F10b.out; omega)
  generalize (w3.alloc (Obj.cells #[Value.int IntKind.i64 m, Value.int IntKind.i64 n, Value.slice R2 0 e2, Value.slice R3 0 e3, Value.slice R4 0 e4] 44)) = w4 at F10c B4 X1 ⊢
  generalize w3.heap.size = g12 at X1 G12 G1012 ⊢
  clear F10 F10b B1 B3 HN
  by_cases hlen : m < (us.length : Int)
  · have p0 : w4.cell? ⟨g10, 0, none⟩ = some (.int .i64 0) := (blk_cell F10c.out 0).trans rfl
    have pz0 := blk_frozen F10c.out 0
    have p1 : w4.cell? ⟨g10, 1, none⟩ = some (.int .i64 0) := (blk_cell F10c.out 1).trans rfl
    have pz1 := blk_frozen F10c.out 1
    have p2 : w4.cell? ⟨g10, 2, none⟩ = some (.slice none 0 0) := (blk_cell F10c.out 2).trans rfl
    have pz2 := blk_frozen F10c.out 2
    have p3 : w4.cell? ⟨g10, 3, none⟩ = some (.slice none 0 0) := (blk_cell F10c.out 3).trans rfl
    have pz3 := blk_frozen F10c.out 3
    have p4 : w4.cell? ⟨g10, 4, none⟩ = some (.slice none 0 0) := (blk_cell F10c.out 4).trans rfl
    have pz4 := blk_frozen F10c.out 4
    go_wp2
    refine bodyPost_ret (results_ct rfl _ _ g10 44 #[.int .i64 0, .int .i64 0, .slice none 0 0, .slice none 0 0, .slice none 0 0] (0, 0) _ rfl (blk_put5 (F10c.out)) Try.underlying44 rfl (by kernel_rfl)) rfl ?_
    exact ⟨_, _, _, _, _, _, _, _, _, _, _, _, rfl, below_put5 (B4.out) G10.out, .inr (.inl ⟨HNB.out, fun h => by have := h.1; omega, rfl⟩)⟩
  have hlen2 := Aside0.mk (show (us.length : Int) ≤ m from by omega)
  go_wp2
  clear hlen
  go_loopg [14] fs.length (fun gf i wr => ∃ k : Nat, i = .int .i64 (k : Int) ∧ k + gf = fs.length ∧ Aside0 (∀ j : Nat, j < k → t2 n us fs (rd fs (j : Int)) = false) ∧ Aside0 (wr.heap[g10]? = some (.cells #[.int .i64 0, .int .i64 0, .slice none 0 0, .slice none 0 0, .slice none 0 0] 44 (0, 0))) ∧ Aside0 (wr.heap[g12]? = some (.cells #[.int .i64 m, .int .i64 n, .slice R2 0 e2, .slice R3 0 e3, .slice R4 0 e4] 44 (0, 0))) ∧ Aside0 (Below w.heap.size w wr))
  case atStart => exact ⟨0, rfl, by omega, ⟨fun j hj => by omega⟩, F10c, X1, B4⟩
  case round =>
    clear F10c X1 B4
    obtain ⟨k, rfl, hk, HT, F10, F12, GB⟩ := hrel
    by_cases hlt : k < fs.length
    · obtain ⟨g', rfl⟩ : ∃ g', gk = g' + 1 := ⟨gk - 1, by omega⟩
      have hlt2 : (k : Int) < (fs.length : Int) := by omega
      have hwi : IntKind.i64.wrap ((k : Int) + 1) = (k : Int) + 1 := wrap_ok _ (by omega) (by omega)
      obtain ⟨x, hx⟩ : ∃ x, rd fs (k : Int) = x := ⟨_, rfl⟩
      have hxm : x ∈ fs := hx ▸ rd_memI fs (k : Int) (by omega) hlt2
      obtain ⟨ad3, hA3, z3⟩ := cellI HR3.out (k : Int) (by omega) hlt2
      rw [hx] at z3
      simp only [Int.toNat_natCast] at z3
      have HX := Aside0.mk hx
      have HA3 := Aside0.mk hA3
      have HXM := Aside0.mk hxm
      clear hx hxm
      have HF : ∀ (h : t2 n us fs x = true), ¬ RefOk m n us fs A := fun h hR => by have := hR.2.1 x HXM.out; rw [h] at this; cases this
      have HF := Aside0.mk HF
      subst hA3
      have y0 := z3 wr GB.out
      have HZ3 := Aside0.mk z3
      clear z3
      by_cases a1 : x < 0
      · have HT2 := Aside0.mk (show t2 n us fs x = true from by unfold t2; simp [a1])
        have p0 : wr.cell? ⟨g10, 0, none⟩ = some (.int .i64 0) := (blk_cell F10.out 0).trans rfl
        have pz0 := blk_frozen F10.out 0
        have p1 : wr.cell? ⟨g10, 1, none⟩ = some (.int .i64 0) := (blk_cell F10.out 1).trans rfl
        have pz1 := blk_frozen F10.out 1
        have p2 : wr.cell? ⟨g10, 2, none⟩ = some (.slice none 0 0) := (blk_cell F10.out 2).trans rfl
        have pz2 := blk_frozen F10.out 2
        have p3 : wr.cell? ⟨g10, 3, none⟩ = some (.slice none 0 0) := (blk_cell F10.out 3).trans rfl
        have pz3 := blk_frozen F10.out 3
        have p4 : wr.cell? ⟨g10, 4, none⟩ = some (.slice none 0 0) := (blk_cell F10.out 4).trans rfl
        have pz4 := blk_frozen F10.out 4
        go_wp2
        refine bodyPost_ret (results_ct rfl _ _ g10 44 #[.int .i64 0, .int .i64 0, .slice none 0 0, .slice none 0 0, .slice none 0 0] (0, 0) _ rfl (blk_put5 (F10.out)) Try.underlying44 rfl (by kernel_rfl)) rfl ?_
        exact ⟨_, _, _, _, _, _, _, _, _, _, _, _, rfl, below_put5 (GB.out) G10.out, .inr (.inl ⟨HNB.out, HF.out HT2.out, rfl⟩)⟩
      have a1' : 0 ≤ x := by omega
      by_cases a2 : (us.length : Int) ≤ x
      · have HT2 := Aside0.mk (show t2 n us fs x = true from by unfold t2; simp [a2])
        have p0 : wr.cell? ⟨g10, 0, none⟩ = some (.int .i64 0) := (blk_cell F10.out 0).trans rfl
        have pz0 := blk_frozen F10.out 0
        have p1 : wr.cell? ⟨g10, 1, none⟩ = some (.int .i64 0) := (blk_cell F10.out 1).trans rfl
        have pz1 := blk_frozen F10.out 1
        have p2 : wr.cell? ⟨g10, 2, none⟩ = some (.slice none 0 0) := (blk_cell F10.out 2).trans rfl
        have pz2 := blk_frozen F10.out 2
        have p3 : wr.cell? ⟨g10, 3, none⟩ = some (.slice none 0 0) := (blk_cell F10.out 3).trans rfl
        have pz3 := blk_frozen F10.out 3
        have p4 : wr.cell? ⟨g10, 4, none⟩ = some (.slice none 0 0) := (blk_cell F10.out 4).trans rfl
        have pz4 := blk_frozen F10.out 4
        go_wp2
        refine bodyPost_ret (results_ct rfl _ _ g10 44 #[.int .i64 0, .int .i64 0, .slice none 0 0, .slice none 0 0, .slice none 0 0] (0, 0) _ rfl (blk_put5 (F10.out)) Try.underlying44 rfl (by kernel_rfl)) rfl ?_
        exact ⟨_, _, _, _, _, _, _, _, _, _, _, _, rfl, below_put5 (GB.out) G10.out, .inr (.inl ⟨HNB.out, HF.out HT2.out, rfl⟩)⟩
      have a2' : x < (us.length : Int) := by omega
      obtain ⟨c, hc⟩ : ∃ c, cntI fs x = c := ⟨_, rfl⟩
      have HH := Aside0.mk (fun W hB => hc ▸ HHAS.out W x hB)
      by_cases a3 : c = 1
      rotate_left
      · have a3b : (c != 1) = true := by simpa using a3
        have HT2 := Aside0.mk (show t2 n us fs x = true from by unfold t2; rw [hc]; simp [a3])
        clear hc
        go_wp2_with (first | (go_at_call 43; refine (HH.out _ (GB.out)).mono ?_; rintro e wq ⟨rfl, hd⟩; (obtain ⟨nd, hd⟩ := hd); have F10q := Aside0.mk (hd ▸ blk_drewN F10.out nd); have F12q := Aside0.mk (hd ▸ blk_drewN F12.out nd); have GBq := Aside0.mk (hd ▸ pw_below_drewN GB.out nd); have p0 : wq.cell? ⟨g10, 0, none⟩ = some (.int .i64 0) := (blk_cell F10q.out 0).trans rfl; have pz0 := blk_frozen F10q.out 0; have p1 : wq.cell? ⟨g10, 1, none⟩ = some (.int .i64 0) := (blk_cell F10q.out 1).trans rfl; have pz1 := blk_frozen F10q.out 1; have p2 : wq.cell? ⟨g10, 2, none⟩ = some (.slice none 0 0) := (blk_cell F10q.out 2).trans rfl; have pz2 := blk_frozen F10q.out 2; have p3 : wq.cell? ⟨g10, 3, none⟩ = some (.slice none 0 0) := (blk_cell F10q.out 3).trans rfl; have pz3 := blk_frozen F10q.out 3; have p4 : wq.cell? ⟨g10, 4, none⟩ = some (.slice none 0 0) := (blk_cell F10q.out 4).trans rfl; have pz4 := blk_frozen F10q.out 4;have y0q := HZ3.out wq GBq.out; clear hd))
        refine bodyPost_ret (results_ct rfl _ _ g10 44 #[.int .i64 0, .int .i64 0, .slice none 0 0, .slice none 0 0, .slice none 0 0] (0, 0) _ rfl (blk_put5 (F10q.out)) Try.underlying44 rfl (by kernel_rfl)) rfl ?_
        exact ⟨_, _, _, _, _, _, _, _, _, _, _, _, rfl, below_put5 (GBq.out) G10.out, .inr (.inl ⟨HNB.out, HF.out HT2.out, rfl⟩)⟩
      have a3b : (c != 1) = false := by simpa using a3
      obtain ⟨ad2, hA2, z2⟩ := cellI HR2.out x a1' a2'
      obtain ⟨y, hy⟩ : ∃ y, rd us x = y := ⟨_, rfl⟩
      rw [hy] at z2
      have HA2 := Aside0.mk hA2
      subst hA2
      have HZ2 := Aside0.mk z2
      clear z2
      by_cases a4 : n ≤ y
      · have HT2 := Aside0.mk (show t2 n us fs x = true from by unfold t2; rw [hc, hy]; simp [a4])
        clear hc hy a3
        go_wp2_with (first | (go_at_call 43; refine (HH.out _ (GB.out)).mono ?_; rintro e wq ⟨rfl, hd⟩; (obtain ⟨nd, hd⟩ := hd); have F10q := Aside0.mk (hd ▸ blk_drewN F10.out nd); have F12q := Aside0.mk (hd ▸ blk_drewN F12.out nd); have GBq := Aside0.mk (hd ▸ pw_below_drewN GB.out nd); have p0 : wq.cell? ⟨g10, 0, none⟩ = some (.int .i64 0) := (blk_cell F10q.out 0).trans rfl; have pz0 := blk_frozen F10q.out 0; have p1 : wq.cell? ⟨g10, 1, none⟩ = some (.int .i64 0) := (blk_cell F10q.out 1).trans rfl; have pz1 := blk_frozen F10q.out 1; have p2 : wq.cell? ⟨g10, 2, none⟩ = some (.slice none 0 0) := (blk_cell F10q.out 2).trans rfl; have pz2 := blk_frozen F10q.out 2; have p3 : wq.cell? ⟨g10, 3, none⟩ = some (.slice none 0 0) := (blk_cell F10q.out 3).trans rfl; have pz3 := blk_frozen F10q.out 3; have p4 : wq.cell? ⟨g10, 4, none⟩ = some (.slice none 0 0) := (blk_cell F10q.out 4).trans rfl; have pz4 := blk_frozen F10q.out 4;have y0q := HZ3.out wq GBq.out; have y2q := HZ2.out wq GBq.out; clear hd))
        refine bodyPost_ret (results_ct rfl _ _ g10 44 #[.int .i64 0, .int .i64 0, .slice none 0 0, .slice none 0 0, .slice none 0 0] (0, 0) _ rfl (blk_put5 (F10q.out)) Try.underlying44 rfl (by kernel_rfl)) rfl ?_
        exact ⟨_, _, _, _, _, _, _, _, _, _, _, _, rfl, below_put5 (GBq.out) G10.out, .inr (.inl ⟨HNB.out, HF.out HT2.out, rfl⟩)⟩
      have a4' : y < n := by omega
      have HT2 := Aside0.mk (show t2 n us fs x = false from by unfold t2; rw [hc, hy, a3b]; simp; omega)
      clear hc hy a3
      go_wp2_with (first | (go_at_call 43; refine (HH.out _ (GB.out)).mono ?_; rintro e wq ⟨rfl, hd⟩; (obtain ⟨nd, hd⟩ := hd); have F10q := Aside0.mk (hd ▸ blk_drewN F10.out nd); have F12q := Aside0.mk (hd ▸ blk_drewN F12.out nd); have GBq := Aside0.mk (hd ▸ pw_below_drewN GB.out nd); have y0q := HZ3.out wq GBq.out; have y2q := HZ2.out wq GBq.out; clear hd))
      go_roundg g'
      case measure => omega
      case rel =>
        refine ⟨k + 1, rfl, by omega, ⟨fun j hj => ?_⟩, F10q, F12q, GBq⟩
        by_cases e : j = k
        · subst e; rw [HX.out]; exact HT2.out
        · exact HT.out j (by omega)
    have hge : ¬ (k : Int) < (fs.length : Int) := by omega
    go_wp2
    have HT2 := Aside0.mk (show ∀ p ∈ fs, t2 n us fs p = false from fun p hp => by obtain ⟨j, hj, e⟩ := mem_rd hp; rw [← e]; exact HT.out j (by omega))
    clear HT hk hge
    go_loopg [15, 16] A.length (fun gf i pv wr => ∃ k : Nat, i = .int .i64 (k : Int) ∧ k + gf = A.length ∧ Aside0 (∀ j : Nat, j < k → t3 us fs A (rd_T30 A (j : Int)) = false) ∧ Aside0 (wr.heap[g10]? = some (.cells #[.int .i64 0, .int .i64 0, .slice none 0 0, .slice none 0 0, .slice none 0 0] 44 (0, 0))) ∧ Aside0 (wr.heap[g12]? = some (.cells #[.int .i64 m, .int .i64 n, .slice R2 0 e2, .slice R3 0 e3, .slice R4 0 e4] 44 (0, 0))) ∧ Aside0 (Below w.heap.size w wr))
    case atStart => exact ⟨0, rfl, by omega, ⟨fun j hj => by omega⟩, F10, F12, GB⟩
    case round =>
      clear F10 F12 GB
      obtain ⟨k, rfl, hk, HT, F10, F12, GB⟩ := hrel
      by_cases hlt : k < A.length
      · obtain ⟨g', rfl⟩ : ∃ g', gk = g' + 1 := ⟨gk - 1, by omega⟩
        have hlt2 : (k : Int) < (A.length : Int) := by omega
        have hwi : IntKind.i64.wrap ((k : Int) + 1) = (k : Int) + 1 := wrap_ok _ (by omega) (by omega)
        obtain ⟨x, hx⟩ : ∃ x, rd_T30 A (k : Int) = x := ⟨_, rfl⟩
        have hxm : x ∈ A := hx ▸ rd_mem30 A (k : Int) (by omega) hlt2
        obtain ⟨ad4, hA4, y0, y1⟩ := at_T30 (Kd.C_below HR4.out GB.out) (k : Int) (by omega) hlt2
        rw [hx] at y0 y1
        simp only [Int.toNat_natCast] at y0 y1
        have HX := Aside0.mk hx
        have HA4 := Aside0.mk hA4
        have HXM := Aside0.mk hxm
        clear hx hxm
        have HF : ∀ (h : t3 us fs A x = true), ¬ RefOk m n us fs A := fun h hR => by have := hR.2.2.1 x HXM.out; rw [h] at this; cases this
        have HF := Aside0.mk HF
        subst hA4
        by_cases a1 : x.f0 < 0
        · have HT2 := Aside0.mk (show t3 us fs A x = true from by unfold t3; simp [a1])
          have HH3 := HHAS
          have HH4 := HAT
          go_upto_region 15 with (fail)
          go_quiet ((first | (go_at_call 44; exact Calls.quiet_of ((HH4.out _ (below_drewG GB.out _)).mono (fun _ _ h => ⟨h.1, h.2.out⟩))) | (go_at_call 43; exact Calls.quiet_of ((HH3.out _ (below_drewG GB.out _)).mono (fun _ _ h => ⟨h.1, h.2.out⟩)))))
          generalize hWQ : World.drewN wr _ = wq
          have F10q := Aside0.mk (hWQ ▸ blk_drewN F10.out _)
          have F12q := Aside0.mk (hWQ ▸ blk_drewN F12.out _)
          have GBq := Aside0.mk (hWQ ▸ pw_below_drewN GB.out _)
          clear hWQ
          have p0 : wq.cell? ⟨g10, 0, none⟩ = some (.int .i64 0) := (blk_cell F10q.out 0).trans rfl
          have pz0 := blk_frozen F10q.out 0
          have p1 : wq.cell? ⟨g10, 1, none⟩ = some (.int .i64 0) := (blk_cell F10q.out 1).trans rfl
          have pz1 := blk_frozen F10q.out 1
          have p2 : wq.cell? ⟨g10, 2, none⟩ = some (.slice none 0 0) := (blk_cell F10q.out 2).trans rfl
          have pz2 := blk_frozen F10q.out 2
          have p3 : wq.cell? ⟨g10, 3, none⟩ = some (.slice none 0 0) := (blk_cell F10q.out 3).trans rfl
          have pz3 := blk_frozen F10q.out 3
          have p4 : wq.cell? ⟨g10, 4, none⟩ = some (.slice none 0 0) := (blk_cell F10q.out 4).trans rfl
          have pz4 := blk_frozen F10q.out 4
          go_wp2
          refine bodyPost_ret (results_ct rfl _ _ g10 44 #[.int .i64 0, .int .i64 0, .slice none 0 0, .slice none 0 0, .slice none 0 0] (0, 0) _ rfl (blk_put5 (F10q.out)) Try.underlying44 rfl (by kernel_rfl)) rfl ?_
          exact ⟨_, _, _, _, _, _, _, _, _, _, _, _, rfl, below_put5 (GBq.out) G10.out, .inr (.inl ⟨HNB.out, HF.out HT2.out, rfl⟩)⟩
        have a1' : 0 ≤ x.f0 := by omega
        by_cases a2 : (us.length : Int) ≤ x.f0
        · have HT2 := Aside0.mk (show t3 us fs A x = true from by unfold t3; simp [a2])
          have HH3 := HHAS
          have HH4 := HAT
          go_upto_region 15 with (fail)
          go_quiet ((first | (go_at_call 44; exact Calls.quiet_of ((HH4.out _ (below_drewG GB.out _)).mono (fun _ _ h => ⟨h.1, h.2.out⟩))) | (go_at_call 43; exact Calls.quiet_of ((HH3.out _ (below_drewG GB.out _)).mono (fun _ _ h => ⟨h.1, h.2.out⟩)))))
          generalize hWQ : World.drewN wr _ = wq
          have F10q := Aside0.mk (hWQ ▸ blk_drewN F10.out _)
          have F12q := Aside0.mk (hWQ ▸ blk_drewN F12.out _)
          have GBq := Aside0.mk (hWQ ▸ pw_below_drewN GB.out _)
          clear hWQ
          have p0 : wq.cell? ⟨g10, 0, none⟩ = some (.int .i64 0) := (blk_cell F10q.out 0).trans rfl
          have pz0 := blk_frozen F10q.out 0
          have p1 : wq.cell? ⟨g10, 1, none⟩ = some (.int .i64 0) := (blk_cell F10q.out 1).trans rfl
          have pz1 := blk_frozen F10q.out 1
          have p2 : wq.cell? ⟨g10, 2, none⟩ = some (.slice none 0 0) := (blk_cell F10q.out 2).trans rfl
          have pz2 := blk_frozen F10q.out 2
          have p3 : wq.cell? ⟨g10, 3, none⟩ = some (.slice none 0 0) := (blk_cell F10q.out 3).trans rfl
          have pz3 := blk_frozen F10q.out 3
          have p4 : wq.cell? ⟨g10, 4, none⟩ = some (.slice none 0 0) := (blk_cell F10q.out 4).trans rfl
          have pz4 := blk_frozen F10q.out 4
          go_wp2
          refine bodyPost_ret (results_ct rfl _ _ g10 44 #[.int .i64 0, .int .i64 0, .slice none 0 0, .slice none 0 0, .slice none 0 0] (0, 0) _ rfl (blk_put5 (F10q.out)) Try.underlying44 rfl (by kernel_rfl)) rfl ?_
          exact ⟨_, _, _, _, _, _, _, _, _, _, _, _, rfl, below_put5 (GBq.out) G10.out, .inr (.inl ⟨HNB.out, HF.out HT2.out, rfl⟩)⟩
        have a2' : x.f0 < (us.length : Int) := by omega
        obtain ⟨ad2, hA2, z2⟩ := cellI HR2.out x.f0 a1' a2'
        obtain ⟨y, hy⟩ : ∃ y, rd us x.f0 = y := ⟨_, rfl⟩
        rw [hy] at z2
        have HA2 := Aside0.mk hA2
        subst hA2
        have y2 := z2 wr GB.out
        clear z2
        obtain ⟨c, hc⟩ : ∃ c, cntH A x.f0 = c := ⟨_, rfl⟩
        obtain ⟨d, hd⟩ : ∃ d, cntI fs x.f0 = d := ⟨_, rfl⟩
        have HH4 := Aside0.mk (fun W hB => hc ▸ HAT.out W x.f0 hB)
        have HH3 := Aside0.mk (fun W hB => hd ▸ HHAS.out W x.f0 hB)
        by_cases a5 : x.f1 = y
        rotate_left
        · have a5b : (x.f1 != y) = true := by simpa using a5
          have HT2 := Aside0.mk (show t3 us fs A x = true from by unfold t3; rw [hc, hd, hy]; simp [a5])
          clear hc hd hy a5
          go_upto_region 15 with (fail)
          go_quiet ((first | (go_at_call 44; exact Calls.quiet_of ((HH4.out _ (below_drewG GB.out _)).mono (fun _ _ h => ⟨h.1, h.2.out⟩))) | (go_at_call 43; exact Calls.quiet_of ((HH3.out _ (below_drewG GB.out _)).mono (fun _ _ h => ⟨h.1, h.2.out⟩)))))
          generalize hWQ : World.drewN wr _ = wq
          have F10q := Aside0.mk (hWQ ▸ blk_drewN F10.out _)
          have F12q := Aside0.mk (hWQ ▸ blk_drewN F12.out _)
          have GBq := Aside0.mk (hWQ ▸ pw_below_drewN GB.out _)
          clear hWQ
          have p0 : wq.cell? ⟨g10, 0, none⟩ = some (.int .i64 0) := (blk_cell F10q.out 0).trans rfl
          have pz0 := blk_frozen F10q.out 0
          have p1 : wq.cell? ⟨g10, 1, none⟩ = some (.int .i64 0) := (blk_cell F10q.out 1).trans rfl
          have pz1 := blk_frozen F10q.out 1
          have p2 : wq.cell? ⟨g10, 2, none⟩ = some (.slice none 0 0) := (blk_cell F10q.out 2).trans rfl
          have pz2 := blk_frozen F10q.out 2
          have p3 : wq.cell? ⟨g10, 3, none⟩ = some (.slice none 0 0) := (blk_cell F10q.out 3).trans rfl
          have pz3 := blk_frozen F10q.out 3
          have p4 : wq.cell? ⟨g10, 4, none⟩ = some (.slice none 0 0) := (blk_cell F10q.out 4).trans rfl
          have pz4 := blk_frozen F10q.out 4
          go_wp2
          refine bodyPost_ret (results_ct rfl _ _ g10 44 #[.int .i64 0, .int .i64 0, .slice none 0 0, .slice none 0 0, .slice none 0 0] (0, 0) _ rfl (blk_put5 (F10q.out)) Try.underlying44 rfl (by kernel_rfl)) rfl ?_
          exact ⟨_, _, _, _, _, _, _, _, _, _, _, _, rfl, below_put5 (GBq.out) G10.out, .inr (.inl ⟨HNB.out, HF.out HT2.out, rfl⟩)⟩
        have a5b : (x.f1 != y) = false := by simpa using a5
        by_cases a3 : c = 1
        rotate_left
        · have a3b : (c != 1) = true := by simpa using a3
          have HT2 := Aside0.mk (show t3 us fs A x = true from by unfold t3; rw [hc, hd, hy]; simp [a3])
          clear hc hd hy a3 a5
          go_upto_region 15 with (fail)
          go_quiet ((first | (go_at_call 44; exact Calls.quiet_of ((HH4.out _ (below_drewG GB.out _)).mono (fun _ _ h => ⟨h.1, h.2.out⟩))) | (go_at_call 43; exact Calls.quiet_of ((HH3.out _ (below_drewG GB.out _)).mono (fun _ _ h => ⟨h.1, h.2.out⟩)))))
          generalize hWQ : World.drewN wr _ = wq
          have F10q := Aside0.mk (hWQ ▸ blk_drewN F10.out _)
          have F12q := Aside0.mk (hWQ ▸ blk_drewN F12.out _)
          have GBq := Aside0.mk (hWQ ▸ pw_below_drewN GB.out _)
          clear hWQ
          have p0 : wq.cell? ⟨g10, 0, none⟩ = some (.int .i64 0) := (blk_cell F10q.out 0).trans rfl
          have pz0 := blk_frozen F10q.out 0
          have p1 : wq.cell? ⟨g10, 1, none⟩ = some (.int .i64 0) := (blk_cell F10q.out 1).trans rfl
          have pz1 := blk_frozen F10q.out 1
          have p2 : wq.cell? ⟨g10, 2, none⟩ = some (.slice none 0 0) := (blk_cell F10q.out 2).trans rfl
          have pz2 := blk_frozen F10q.out 2
          have p3 : wq.cell? ⟨g10, 3, none⟩ = some (.slice none 0 0) := (blk_cell F10q.out 3).trans rfl
          have pz3 := blk_frozen F10q.out 3
          have p4 : wq.cell? ⟨g10, 4, none⟩ = some (.slice none 0 0) := (blk_cell F10q.out 4).trans rfl
          have pz4 := blk_frozen F10q.out 4
          go_wp2
          refine bodyPost_ret (results_ct rfl _ _ g10 44 #[.int .i64 0, .int .i64 0, .slice none 0 0, .slice none 0 0, .slice none 0 0] (0, 0) _ rfl (blk_put5 (F10q.out)) Try.underlying44 rfl (by kernel_rfl)) rfl ?_
          exact ⟨_, _, _, _, _, _, _, _, _, _, _, _, rfl, below_put5 (GBq.out) G10.out, .inr (.inl ⟨HNB.out, HF.out HT2.out, rfl⟩)⟩
        have a3b : (c != 1) = false := by simpa using a3
        by_cases a4 : d = 0
        rotate_left
        · have a4b : (d != 0) = true := by simpa using a4
          have HT2 := Aside0.mk (show t3 us fs A x = true from by unfold t3; rw [hc, hd, hy]; simp [a4])
          clear hc hd hy a3 a4 a5
          go_upto_region 15 with (fail)
          go_quiet ((first | (go_at_call 44; exact Calls.quiet_of ((HH4.out _ (below_drewG GB.out _)).mono (fun _ _ h => ⟨h.1, h.2.out⟩))) | (go_at_call 43; exact Calls.quiet_of ((HH3.out _ (below_drewG GB.out _)).mono (fun _ _ h => ⟨h.1, h.2.out⟩)))))
          generalize hWQ : World.drewN wr _ = wq
          have F10q := Aside0.mk (hWQ ▸ blk_drewN F10.out _)
          have F12q := Aside0.mk (hWQ ▸ blk_drewN F12.out _)
          have GBq := Aside0.mk (hWQ ▸ pw_below_drewN GB.out _)
          clear hWQ
          have p0 : wq.cell? ⟨g10, 0, none⟩ = some (.int .i64 0) := (blk_cell F10q.out 0).trans rfl
          have pz0 := blk_frozen F10q.out 0
          have p1 : wq.cell? ⟨g10, 1, none⟩ = some (.int .i64 0) := (blk_cell F10q.out 1).trans rfl
          have pz1 := blk_frozen F10q.out 1
          have p2 : wq.cell? ⟨g10, 2, none⟩ = some (.slice none 0 0) := (blk_cell F10q.out 2).trans rfl
          have pz2 := blk_frozen F10q.out 2
          have p3 : wq.cell? ⟨g10, 3, none⟩ = some (.slice none 0 0) := (blk_cell F10q.out 3).trans rfl
          have pz3 := blk_frozen F10q.out 3
          have p4 : wq.cell? ⟨g10, 4, none⟩ = some (.slice none 0 0) := (blk_cell F10q.out 4).trans rfl
          have pz4 := blk_frozen F10q.out 4
          go_wp2
          refine bodyPost_ret (results_ct rfl _ _ g10 44 #[.int .i64 0, .int .i64 0, .slice none 0 0, .slice none 0 0, .slice none 0 0] (0, 0) _ rfl (blk_put5 (F10q.out)) Try.underlying44 rfl (by kernel_rfl)) rfl ?_
          exact ⟨_, _, _, _, _, _, _, _, _, _, _, _, rfl, below_put5 (GBq.out) G10.out, .inr (.inl ⟨HNB.out, HF.out HT2.out, rfl⟩)⟩
        have a4b : (d != 0) = false := by simpa using a4
        have HT2 := Aside0.mk (show t3 us fs A x = false from by unfold t3; rw [hc, hd, hy, a3b, a4b, a5b]; simp; omega)
        clear hc hd hy a3 a4 a5
        go_upto_region 15 with (fail)
        go_quiet ((first | (go_at_call 44; exact Calls.quiet_of ((HH4.out _ (below_drewG GB.out _)).mono (fun _ _ h => ⟨h.1, h.2.out⟩))) | (go_at_call 43; exact Calls.quiet_of ((HH3.out _ (below_drewG GB.out _)).mono (fun _ _ h => ⟨h.1, h.2.out⟩)))))
        generalize hWQ : World.drewN wr _ = wq
        have F10q := Aside0.mk (hWQ ▸ blk_drewN F10.out _)
        have F12q := Aside0.mk (hWQ ▸ blk_drewN F12.out _)
        have GBq := Aside0.mk (hWQ ▸ pw_below_drewN GB.out _)
        clear hWQ
        go_wp2
        go_roundg g'
        case measure => omega
        case rel =>
          refine ⟨k + 1, rfl, by omega, ⟨fun j hj => ?_⟩, F10q, F12q, GBq⟩
          by_cases e : j = k
          · subst e; rw [HX.out]; exact HT2.out
          · exact HT.out j (by omega)
      have hge : ¬ (k : Int) < (A.length : Int) := by omega
      go_wp2
      have HT3 := Aside0.mk (show ∀ t ∈ A, t3 us fs A t = false from fun t ht => by obtain ⟨j, hj, e⟩ := mem_rd30 ht; rw [← e]; exact HT.out j (by omega))
      clear HT hk hge
      go_loopg [17] us.length (fun gf i wr => ∃ k : Nat, i = .int .i64 (k : Int) ∧ k + gf = us.length ∧ Aside0 (∀ j : Nat, j < k → t4 n fs A (rd us (j : Int)) (j : Int) = false) ∧ Aside0 (wr.heap[g10]? = some (.cells #[.int .i64 0, .int .i64 0, .slice none 0 0, .slice none 0 0, .slice none 0 0] 44 (0, 0))) ∧ Aside0 (wr.heap[g12]? = some (.cells #[.int .i64 m, .int .i64 n, .slice R2 0 e2, .slice R3 0 e3, .slice R4 0 e4] 44 (0, 0))) ∧ Aside0 (Below w.heap.size w wr))
      case atStart => exact ⟨0, rfl, by omega, ⟨fun j hj => by omega⟩, F10, F12, GB⟩
      case round =>
        clear F10 F12 GB
        obtain ⟨k, rfl, hk, HT, F10, F12, GB⟩ := hrel
        by_cases hlt : k < us.length
        · obtain ⟨g', rfl⟩ : ∃ g', gk = g' + 1 := ⟨gk - 1, by omega⟩
          have hlt2 : (k : Int) < (us.length : Int) := by omega
          have hwi : IntKind.i64.wrap ((k : Int) + 1) = (k : Int) + 1 := wrap_ok _ (by omega) (by omega)
          obtain ⟨x, hx⟩ : ∃ x, rd us (k : Int) = x := ⟨_, rfl⟩
          obtain ⟨ad2, hA2, z2⟩ := cellI HR2.out (k : Int) (by omega) hlt2
          rw [hx] at z2
          simp only [Int.toNat_natCast] at z2
          have HX := Aside0.mk hx
          have HA2 := Aside0.mk hA2
          have HKL := Aside0.mk hlt
          clear hx
          have HF : ∀ (h : t4 n fs A x (k : Int) = true), ¬ RefOk m n us fs A := fun h hR => by have := hR.2.2.2 k HKL.out; rw [HX.out, h] at this; cases this
          have HF := Aside0.mk HF
          subst hA2
          have y0 := z2 wr GB.out
          clear z2
          by_cases a1 : x < 1
          · have HT2 := Aside0.mk (show t4 n fs A x (k : Int) = true from by unfold t4; simp [a1])
            have p0 : wr.cell? ⟨g10, 0, none⟩ = some (.int .i64 0) := (blk_cell F10.out 0).trans rfl
            have pz0 := blk_frozen F10.out 0
            have p1 : wr.cell? ⟨g10, 1, none⟩ = some (.int .i64 0) := (blk_cell F10.out 1).trans rfl
            have pz1 := blk_frozen F10.out 1
            have p2 : wr.cell? ⟨g10, 2, none⟩ = some (.slice none 0 0) := (blk_cell F10.out 2).trans rfl
            have pz2 := blk_frozen F10.out 2
            have p3 : wr.cell? ⟨g10, 3, none⟩ = some (.slice none 0 0) := (blk_cell F10.out 3).trans rfl
            have pz3 := blk_frozen F10.out 3
            have p4 : wr.cell? ⟨g10, 4, none⟩ = some (.slice none 0 0) := (blk_cell F10.out 4).trans rfl
            have pz4 := blk_frozen F10.out 4
            go_wp2
            refine bodyPost_ret (results_ct rfl _ _ g10 44 #[.int .i64 0, .int .i64 0, .slice none 0 0, .slice none 0 0, .slice none 0 0] (0, 0) _ rfl (blk_put5 (F10.out)) Try.underlying44 rfl (by kernel_rfl)) rfl ?_
            exact ⟨_, _, _, _, _, _, _, _, _, _, _, _, rfl, below_put5 (GB.out) G10.out, .inr (.inl ⟨HNB.out, HF.out HT2.out, rfl⟩)⟩
          have a1' : ¬ x < 1 := a1
          by_cases a2 : n < x
          · have HT2 := Aside0.mk (show t4 n fs A x (k : Int) = true from by unfold t4; simp [a2])
            have p0 : wr.cell? ⟨g10, 0, none⟩ = some (.int .i64 0) := (blk_cell F10.out 0).trans rfl
            have pz0 := blk_frozen F10.out 0
            have p1 : wr.cell? ⟨g10, 1, none⟩ = some (.int .i64 0) := (blk_cell F10.out 1).trans rfl
            have pz1 := blk_frozen F10.out 1
            have p2 : wr.cell? ⟨g10, 2, none⟩ = some (.slice none 0 0) := (blk_cell F10.out 2).trans rfl
            have pz2 := blk_frozen F10.out 2
            have p3 : wr.cell? ⟨g10, 3, none⟩ = some (.slice none 0 0) := (blk_cell F10.out 3).trans rfl
            have pz3 := blk_frozen F10.out 3
            have p4 : wr.cell? ⟨g10, 4, none⟩ = some (.slice none 0 0) := (blk_cell F10.out 4).trans rfl
            have pz4 := blk_frozen F10.out 4
            go_wp2
            refine bodyPost_ret (results_ct rfl _ _ g10 44 #[.int .i64 0, .int .i64 0, .slice none 0 0, .slice none 0 0, .slice none 0 0] (0, 0) _ rfl (blk_put5 (F10.out)) Try.underlying44 rfl (by kernel_rfl)) rfl ?_
            exact ⟨_, _, _, _, _, _, _, _, _, _, _, _, rfl, below_put5 (GB.out) G10.out, .inr (.inl ⟨HNB.out, HF.out HT2.out, rfl⟩)⟩
          have a2' : ¬ n < x := a2
          by_cases a3 : x < n
          rotate_left
          · have HT2 := Aside0.mk (show t4 n fs A x (k : Int) = false from by unfold t4; simp [a1, a2, a3])
            go_wp2
            go_roundg g'
            case measure => omega
            case rel =>
              refine ⟨k + 1, rfl, by omega, ⟨fun j hj => ?_⟩, F10, F12, GB⟩
              by_cases e : j = k
              · subst e; rw [HX.out]; exact HT2.out
              · exact HT.out j (by omega)
          obtain ⟨c, hc⟩ : ∃ c, cntI fs (k : Int) = c := ⟨_, rfl⟩
          obtain ⟨d, hd⟩ : ∃ d, cntH A (k : Int) = d := ⟨_, rfl⟩
          have HH3 := Aside0.mk (fun W hB => hc ▸ HHAS.out W (k : Int) hB)
          have HH4 := Aside0.mk (fun W hB => hd ▸ HAT.out W (k : Int) hB)
          by_cases a4 : c = 0
          rotate_left
          · have a4b : (c == 0) = false := by simpa using a4
            have HT2 := Aside0.mk (show t4 n fs A x (k : Int) = false from by unfold t4; rw [hc, hd]; simp [a1, a2, a3, a4])
            clear hc hd a4
            go_wp2_with (first | (go_at_call 43; refine (HH3.out _ (GB.out)).mono ?_; rintro e wq ⟨rfl, hd⟩; (obtain ⟨nd, hd⟩ := hd); have F10q := Aside0.mk (hd ▸ blk_drewN F10.out nd); have F12q := Aside0.mk (hd ▸ blk_drewN F12.out nd); have GBq := Aside0.mk (hd ▸ pw_below_drewN GB.out nd); clear hd))
            go_roundg g'
            case measure => omega
            case rel =>
              refine ⟨k + 1, rfl, by omega, ⟨fun j hj => ?_⟩, F10q, F12q, GBq⟩
              by_cases e : j = k
              · subst e; rw [HX.out]; exact HT2.out
              · exact HT.out j (by omega)
          have a4b : (c == 0) = true := by simpa using a4
          by_cases a5 : d = 0
          rotate_left
          · have a5b : (d == 0) = false := by simpa using a5
            have HT2 := Aside0.mk (show t4 n fs A x (k : Int) = false from by unfold t4; rw [hc, hd]; simp [a1, a2, a3, a4, a5])
            clear hc hd a4 a5
            go_wp2_with (first | (go_at_call 43; refine (HH3.out _ (GB.out)).mono ?_; rintro e wq ⟨rfl, hd⟩; (obtain ⟨nd, hd⟩ := hd); have F10q := Aside0.mk (hd ▸ blk_drewN F10.out nd); have F12q := Aside0.mk (hd ▸ blk_drewN F12.out nd); have GBq := Aside0.mk (hd ▸ pw_below_drewN GB.out nd); clear hd) | (go_at_call 44; refine (HH4.out _ (GBq.out)).mono ?_; rintro e wr2 ⟨rfl, hd⟩; (obtain ⟨nd2, hd⟩ := hd); have F10r := Aside0.mk (hd ▸ blk_drewN F10q.out nd2); have F12r := Aside0.mk (hd ▸ blk_drewN F12q.out nd2); have GBr := Aside0.mk (hd ▸ pw_below_drewN GBq.out nd2);  clear hd))
            go_roundg g'
            case measure => omega
            case rel =>
              refine ⟨k + 1, rfl, by omega, ⟨fun j hj => ?_⟩, F10r, F12r, GBr⟩
              by_cases e : j = k
              · subst e; rw [HX.out]; exact HT2.out
              · exact HT.out j (by omega)
          have a5b : (d == 0) = true := by simpa using a5
          have HT2 := Aside0.mk (show t4 n fs A x (k : Int) = true from by unfold t4; rw [hc, hd]; simp [a1, a2, a3, a4, a5])
          clear hc hd a4 a5
          go_wp2_with (first | (go_at_call 43; refine (HH3.out _ (GB.out)).mono ?_; rintro e wq ⟨rfl, hd⟩; (obtain ⟨nd, hd⟩ := hd); have F10q := Aside0.mk (hd ▸ blk_drewN F10.out nd); have F12q := Aside0.mk (hd ▸ blk_drewN F12.out nd); have GBq := Aside0.mk (hd ▸ pw_below_drewN GB.out nd); clear hd) | (go_at_call 44; refine (HH4.out _ (GBq.out)).mono ?_; rintro e wr2 ⟨rfl, hd⟩; (obtain ⟨nd2, hd⟩ := hd); have F10r := Aside0.mk (hd ▸ blk_drewN F10q.out nd2); have F12r := Aside0.mk (hd ▸ blk_drewN F12q.out nd2); have GBr := Aside0.mk (hd ▸ pw_below_drewN GBq.out nd2); have p0 : wr2.cell? ⟨g10, 0, none⟩ = some (.int .i64 0) := (blk_cell F10r.out 0).trans rfl; have pz0 := blk_frozen F10r.out 0; have p1 : wr2.cell? ⟨g10, 1, none⟩ = some (.int .i64 0) := (blk_cell F10r.out 1).trans rfl; have pz1 := blk_frozen F10r.out 1; have p2 : wr2.cell? ⟨g10, 2, none⟩ = some (.slice none 0 0) := (blk_cell F10r.out 2).trans rfl; have pz2 := blk_frozen F10r.out 2; have p3 : wr2.cell? ⟨g10, 3, none⟩ = some (.slice none 0 0) := (blk_cell F10r.out 3).trans rfl; have pz3 := blk_frozen F10r.out 3; have p4 : wr2.cell? ⟨g10, 4, none⟩ = some (.slice none 0 0) := (blk_cell F10r.out 4).trans rfl; have pz4 := blk_frozen F10r.out 4; clear hd))
          refine bodyPost_ret (results_ct rfl _ _ g10 44 #[.int .i64 0, .int .i64 0, .slice none 0 0, .slice none 0 0, .slice none 0 0] (0, 0) _ rfl (blk_put5 (F10r.out)) Try.underlying44 rfl (by kernel_rfl)) rfl ?_
          exact ⟨_, _, _, _, _, _, _, _, _, _, _, _, rfl, below_put5 (GBr.out) G10.out, .inr (.inl ⟨HNB.out, HF.out HT2.out, rfl⟩)⟩
        have hge : ¬ (k : Int) < (us.length : Int) := by omega
        have HOK := Aside0.mk (show RefOk m n us fs A from ⟨hlen2.out, HT2.out, HT3.out, fun j hj => HT.out j (by omega)⟩)
        clear HT HT2 HT3 hk
        have wz : Aside0 True := ⟨trivial⟩

        go_upto_region 23 with (first | ((with_reducible refine gate_dst (N := 158) rfl ?_); refine Kd.R_lit (Kd.int .i64) _ 3 ?hg (N := 158) ?hd (xs := ([] : List Int)) (inner := []) (ok := fun _ => True) (okp := fun _ => True) ?hr ?hp (fun _ hk => hk) trivial (Below.refl _ _) (Nat.le_refl _) (by simp) ?_; (case hd => rfl); (case hg => rfl); (case hr => first | (go_simp; done) | (go_simp; rfl)); (case hp => exact (Reps.none _ _)); intro v1 w1 ho hb hg_ hnew_; clear hg_ hnew_; have HO1 := Aside0.mk ho; have HB1 := Aside0.mk hb; clear ho hb) | ((with_reducible refine gate_builtin (b := .append) (xs := #[.tmp 158, .tmp 159]) rfl ?_); at_builtin; refine Kd.R_append_rows (Kd.int .i64) (w0 := wr) wr.heap.size rfl (.tmp 158) (.tmp 159) 42 3 (.int .i64 0) 8 rfl Try.underlying42 info3' rfl (by decide) (by omega) v1 [] us _ _ _ (fun _ => True) (fun _ => False) rfl rfl ?aO ?aR (fun _ _ h => h) (fun _ h => h.elim) ?aF ?aB ?aS ?aL ?_; (case aR => exact Kd.C_below HR2.out (below_step GB.out HB1.out)); (case aB => exact HB1.out); (case aF => exact (fun _ _ => trivial)); (case aO => exact HO1.out); (case aS => exact HB1.out.size); (case aL => simp; omega); intro v2 w2 ho hb hg hat; have HO2 := Aside0.mk (show (Kd.int .i64).R 3 w2 wr.heap.size (fun _ => True) v2 us from ho); (obtain ⟨V2, k2, rfl⟩ := Kd.R_slice HO2.out); have HB2 := Aside0.mk hb; have F10x := Aside0.mk (blk_keep F10.out hb); have F12x := Aside0.mk (blk_keep F12.out hb); have Bx := Aside0.mk (below_step GB.out hb); have q0 := (blk_cell F12x.out 2).trans (show _ = some (.slice R2 0 e2) from rfl); have qz := blk_frozen F12x.out 2; clear ho hb hg hat))
        have F12_2 := Aside0.mk (show (w2.setCell ⟨g12, 2, none⟩ (Value.slice V2 us.length k2)).heap[g12]? = some (.cells #[.int .i64 m, .int .i64 n, .slice V2 us.length k2, .slice R3 0 e3, .slice R4 0 e4] 44 (0, 0)) from blk_put F12x.out 2 _ rfl)
        have F10_2 := Aside0.mk ((Below.heap_setCell w2 ⟨g12, 2, none⟩ (Value.slice V2 us.length k2) g10 G1012.out).trans F10x.out)
        have B_2 := Aside0.mk (Below.setCell Bx.out (p := ⟨g12, 2, none⟩) G12.out (Value.slice V2 us.length k2))
        have O_2 := Aside0.mk (Kd.R_set HO2.out F12x.out (by decide) 2 (Value.slice V2 us.length k2))

        generalize w2.setCell ⟨g12, 2, none⟩ (Value.slice V2 us.length k2) = W2 at F12_2 F10_2 B_2 O_2  ⊢
        clear q0 qz F10x F12x Bx HO1 HB1 HO2 HB2 F10 F12 GB 

        go_upto_region 24 with (first | ((with_reducible refine gate_dst (N := 162) rfl ?_); refine Kd.R_lit (Kd.int .i64) _ 3 ?hg (N := 162) ?hd (xs := ([] : List Int)) (inner := []) (ok := fun _ => True) (okp := fun _ => True) ?hr ?hp (fun _ hk => hk) trivial (Below.refl _ _) (Nat.le_refl _) (by simp) ?_; (case hd => rfl); (case hg => rfl); (case hr => first | (go_simp; done) | (go_simp; rfl)); (case hp => exact (Reps.none _ _)); intro v1 w1 ho hb hg_ hnew_; clear hg_ hnew_; have HO1 := Aside0.mk ho; have HB1 := Aside0.mk hb; clear ho hb) | ((with_reducible refine gate_builtin (b := .append) (xs := #[.tmp 162, .tmp 163]) rfl ?_); at_builtin; refine Kd.R_append_rows (Kd.int .i64) (w0 := W2) W2.heap.size rfl (.tmp 162) (.tmp 163) 42 3 (.int .i64 0) 8 rfl Try.underlying42 info3' rfl (by decide) (by omega) v1 [] fs _ _ _ (fun _ => True) (fun _ => False) rfl rfl ?aO ?aR (fun _ _ h => h) (fun _ h => h.elim) ?aF ?aB ?aS ?aL ?_; (case aR => exact Kd.C_below HR3.out (below_step B_2.out HB1.out)); (case aB => exact HB1.out); (case aF => exact (fun _ _ => trivial)); (case aO => exact HO1.out); (case aS => exact HB1.out.size); (case aL => simp; omega); intro v2 w2 ho hb hg hat; have HO2 := Aside0.mk (show (Kd.int .i64).R 3 w2 W2.heap.size (fun _ => True) v2 fs from ho); (obtain ⟨V3, k3, rfl⟩ := Kd.R_slice HO2.out); have HB2 := Aside0.mk hb; have F10x := Aside0.mk (blk_keep F10_2.out hb); have F12x := Aside0.mk (blk_keep F12_2.out hb); have Bx := Aside0.mk (below_step B_2.out hb); have q0 := (blk_cell F12x.out 3).trans (show _ = some (.slice R3 0 e3) from rfl); have qz := blk_frozen F12x.out 3; clear ho hb hg hat))
        have F12_3 := Aside0.mk (show (w2.setCell ⟨g12, 3, none⟩ (Value.slice V3 fs.length k3)).heap[g12]? = some (.cells #[.int .i64 m, .int .i64 n, .slice V2 us.length k2, .slice V3 fs.length k3, .slice R4 0 e4] 44 (0, 0)) from blk_put F12x.out 3 _ rfl)
        have F10_3 := Aside0.mk ((Below.heap_setCell w2 ⟨g12, 3, none⟩ (Value.slice V3 fs.length k3) g10 G1012.out).trans F10x.out)
        have B_3 := Aside0.mk (Below.setCell Bx.out (p := ⟨g12, 3, none⟩) G12.out (Value.slice V3 fs.length k3))
        have O_3 := Aside0.mk (Kd.R_set HO2.out F12x.out (by decide) 3 (Value.slice V3 fs.length k3))
        have O2_3 := Aside0.mk (Kd.R_set (Kd.R_below O_2.out HB2.out) F12x.out (by decide) 3 (Value.slice V3 fs.length k3))
        generalize w2.setCell ⟨g12, 3, none⟩ (Value.slice V3 fs.length k3) = W3 at F12_3 F10_3 B_3 O_3 O2_3 ⊢
        clear q0 qz F10x F12x Bx HO1 HB1 HO2 HB2 F10_2 F12_2 B_2 O_2

        go_upto_region 25 with (first | ((with_reducible refine gate_dst (N := 166) rfl ?_); refine Kd.R_lit k30 _ 30 ?hg (N := 166) ?hd (xs := ([] : List S30)) (inner := []) (ok := fun _ => True) (okp := fun _ => True) ?hr ?hp (fun _ hk => hk) trivial (Below.refl _ _) (Nat.le_refl _) (by simp) ?_; (case hd => rfl); (case hg => rfl); (case hr => first | (go_simp; done) | (go_simp; rfl)); (case hp => exact (Reps.none _ _)); intro v1 w1 ho hb hg_ hnew_; clear hg_ hnew_; have HO1 := Aside0.mk ho; have HB1 := Aside0.mk hb; clear ho hb) | ((with_reducible refine gate_builtin (b := .append) (xs := #[.tmp 166, .tmp 167]) rfl ?_); at_builtin; refine Kd.R_append_rows k30 (w0 := W3) W3.heap.size rfl (.tmp 166) (.tmp 167) 28 30 (.agg #[.int .i64 0, .int .i64 0]) 16 rfl Try.underlying28 slab_info30 rfl (by decide) (by omega) v1 [] A _ _ _ (fun _ => True) (fun _ => False) rfl rfl ?aO ?aR (fun _ _ h => h) (fun _ h => h.elim) ?aF ?aB ?aS ?aL ?_; (case aR => exact Kd.C_below HR4.out (below_step B_3.out HB1.out)); (case aB => exact HB1.out); (case aF => exact (fun _ _ => trivial)); (case aO => exact HO1.out); (case aS => exact HB1.out.size); (case aL => simp; omega); intro v2 w2 ho hb hg hat; have HO2 := Aside0.mk (show k30.R 30 w2 W3.heap.size (fun _ => True) v2 A from ho); (obtain ⟨V4, k4, rfl⟩ := Kd.R_slice HO2.out); have HB2 := Aside0.mk hb; have F10x := Aside0.mk (blk_keep F10_3.out hb); have F12x := Aside0.mk (blk_keep F12_3.out hb); have Bx := Aside0.mk (below_step B_3.out hb); have q0 := (blk_cell F12x.out 4).trans (show _ = some (.slice R4 0 e4) from rfl); have qz := blk_frozen F12x.out 4; clear ho hb hg hat))
        have F12_4 := Aside0.mk (show (w2.setCell ⟨g12, 4, none⟩ (Value.slice V4 A.length k4)).heap[g12]? = some (.cells #[.int .i64 m, .int .i64 n, .slice V2 us.length k2, .slice V3 fs.length k3, .slice V4 A.length k4] 44 (0, 0)) from blk_put F12x.out 4 _ rfl)
        have F10_4 := Aside0.mk ((Below.heap_setCell w2 ⟨g12, 4, none⟩ (Value.slice V4 A.length k4) g10 G1012.out).trans F10x.out)
        have B_4 := Aside0.mk (Below.setCell Bx.out (p := ⟨g12, 4, none⟩) G12.out (Value.slice V4 A.length k4))
        have O_4 := Aside0.mk (Kd.R_set HO2.out F12x.out (by decide) 4 (Value.slice V4 A.length k4))
        have O2_4 := Aside0.mk (Kd.R_set (Kd.R_below O2_3.out HB2.out) F12x.out (by decide) 4 (Value.slice V4 A.length k4))
        have O3_4 := Aside0.mk (Kd.R_set (Kd.R_below O_3.out HB2.out) F12x.out (by decide) 4 (Value.slice V4 A.length k4))
        generalize w2.setCell ⟨g12, 4, none⟩ (Value.slice V4 A.length k4) = W4 at F12_4 F10_4 B_4 O_4 O2_4 O3_4 ⊢
        clear q0 qz F10x F12x Bx HO1 HB1 HO2 HB2 F10_3 F12_3 B_3 O2_3 O_3
        have p0 : W4.cell? ⟨g10, 0, none⟩ = some (.int .i64 0) := (blk_cell F10_4.out 0).trans rfl
        have pz0 := blk_frozen F10_4.out 0
        have p1 : W4.cell? ⟨g10, 1, none⟩ = some (.int .i64 0) := (blk_cell F10_4.out 1).trans rfl
        have pz1 := blk_frozen F10_4.out 1
        have p2 : W4.cell? ⟨g10, 2, none⟩ = some (.slice none 0 0) := (blk_cell F10_4.out 2).trans rfl
        have pz2 := blk_frozen F10_4.out 2
        have p3 : W4.cell? ⟨g10, 3, none⟩ = some (.slice none 0 0) := (blk_cell F10_4.out 3).trans rfl
        have pz3 := blk_frozen F10_4.out 3
        have p4 : W4.cell? ⟨g10, 4, none⟩ = some (.slice none 0 0) := (blk_cell F10_4.out 4).trans rfl
        have pz4 := blk_frozen F10_4.out 4
        have q0 : W4.cell? ⟨g12, 0, none⟩ = some (.int .i64 m) := (blk_cell F12_4.out 0).trans rfl
        have qz0 := blk_frozen F12_4.out 0
        have q1 : W4.cell? ⟨g12, 1, none⟩ = some (.int .i64 n) := (blk_cell F12_4.out 1).trans rfl
        have qz1 := blk_frozen F12_4.out 1
        have q2 : W4.cell? ⟨g12, 2, none⟩ = some (.slice V2 us.length k2) := (blk_cell F12_4.out 2).trans rfl
        have qz2 := blk_frozen F12_4.out 2
        have q3 : W4.cell? ⟨g12, 3, none⟩ = some (.slice V3 fs.length k3) := (blk_cell F12_4.out 3).trans rfl
        have qz3 := blk_frozen F12_4.out 3
        have q4 : W4.cell? ⟨g12, 4, none⟩ = some (.slice V4 A.length k4) := (blk_cell F12_4.out 4).trans rfl
        have qz4 := blk_frozen F12_4.out 4
        go_wp2
        refine bodyPost_ret (results_ct rfl _ _ g10 44 #[.int .i64 m, .int .i64 n, .slice V2 us.length k2, .slice V3 fs.length k3, .slice V4 A.length k4] (0, 0) _ rfl (blk_put5 F10_4.out) Try.underlying44 rfl (by kernel_rfl)) rfl ?_
        exact ⟨_, _, _, _, _, _, _, _, _, _, _, _, rfl, below_put5 B_4.out G10.out, .inr (.inr ⟨HNB.out, HOK.out, rfl, rfl, rfl, rfl, rfl, rfl, (R_readsS (R_put5 O2_4.out F10_4.out (by decide))).2, (R_readsS O2_4.out).1, (R_readsS (R_put5 O3_4.out F10_4.out (by decide))).2, (R_readsS O3_4.out).1, (R_readsS (R_put5 O_4.out F10_4.out (by decide))).2, (R_readsS O_4.out).1⟩)⟩
end Go.Proofs.Ytppbdjoikdldiaa.PSlabOf
