/- SoJ: walks of the slab's functions. -/
import Derived.Test.YtppbdjoikdldiaaSoI
namespace Go.Proofs.Ytppbdjoikdldiaa.PSlabOf
open Go.RowKit Go.Proofs.YtppbdjoikdldiaaW.PrintWords Go.Proofs.YtppbdjoikdldiaaW.PrintLast Go.Proofs.YtppbdjoikdldiaaW.PrintMore
set_option linter.unusedVariables false
set_option linter.unusedSimpArgs false
/-- What Of's rules say. -/
def okOf (m n : Int) (us fs : List Int) (A : List S30) : Bool :=
  decide ((us.length : Int) ≤ m) && (!(us.any (bad2 n)) && (!(scan (bad3 n us) fs (List.replicate us.length 0)).1 && (!(scan (bad4 us) A (scan (bad3 n us) fs (List.replicate us.length 0)).2).1 && ok5 n us (scan (bad4 us) A (scan (bad3 n us) fs (List.replicate us.length 0)).2).2)))
/-- The places that are made. -/
def mkPs (us : List Int) (A : List S30) : List S64 := (List.range us.length).map (fun (p : Nat) => (⟨rd us (p : Int), A.any (fun t => t.f0 == (p : Int))⟩ : S64))
def OfEnd (m n : Int) (us fs : List Int) (A : List S30) (w : World) (e : Ending) (w' : World) : Prop :=
  Below w.heap.size w w' ∧ ((((m < 0 ∨ 1024 < m ∨ n < 1 ∨ 65535 < n) ∧ e = .returned (.tuple #[.pointer none, .int .i64 1])) ∨
    (¬ (m < 0 ∨ 1024 < m ∨ n < 1 ∨ 65535 < n) ∧ okOf m n us fs A = false ∧ e = .returned (.tuple #[.pointer none, .int .i64 2]))) ∨
    (¬ (m < 0 ∨ 1024 < m ∨ n < 1 ∨ 65535 < n) ∧ okOf m n us fs A = true ∧ ∃ g vp vf, e = .returned (.tuple #[.pointer (some ⟨g, 0, none⟩), .int .i64 0]) ∧ @Slab ⟨fun _ => True, 0, fun _ _ => trivial⟩ w.heap.size w' g m n vp vf (mkPs us A) fs A.length))
theorem five (w : World) (c1 c2 c3 c4 c5 : Array Value) (t1 t2 t3 t4 t5 : TypeId) :
    (((((w.alloc (Obj.cells c1 t1)).alloc (Obj.cells c2 t2)).alloc (Obj.cells c3 t3)).alloc (Obj.cells c4 t4)).alloc (Obj.cells c5 t5)).heap[w.heap.size]? = some (.cells c1 t1 (0, 0)) ∧
    (((((w.alloc (Obj.cells c1 t1)).alloc (Obj.cells c2 t2)).alloc (Obj.cells c3 t3)).alloc (Obj.cells c4 t4)).alloc (Obj.cells c5 t5)).heap[w.heap.size + 1]? = some (.cells c2 t2 (0, 0)) ∧
    (((((w.alloc (Obj.cells c1 t1)).alloc (Obj.cells c2 t2)).alloc (Obj.cells c3 t3)).alloc (Obj.cells c4 t4)).alloc (Obj.cells c5 t5)).heap[w.heap.size + 1 + 1]? = some (.cells c3 t3 (0, 0)) ∧
    (((((w.alloc (Obj.cells c1 t1)).alloc (Obj.cells c2 t2)).alloc (Obj.cells c3 t3)).alloc (Obj.cells c4 t4)).alloc (Obj.cells c5 t5)).heap[w.heap.size + 1 + 1 + 1]? = some (.cells c4 t4 (0, 0)) ∧
    (((((w.alloc (Obj.cells c1 t1)).alloc (Obj.cells c2 t2)).alloc (Obj.cells c3 t3)).alloc (Obj.cells c4 t4)).alloc (Obj.cells c5 t5)).heap[w.heap.size + 1 + 1 + 1 + 1]? = some (.cells c5 t5 (0, 0)) ∧
    Below w.heap.size w (((((w.alloc (Obj.cells c1 t1)).alloc (Obj.cells c2 t2)).alloc (Obj.cells c3 t3)).alloc (Obj.cells c4 t4)).alloc (Obj.cells c5 t5)) := by
  have a1 := heap_alloc_new w (Obj.cells c1 t1)
  have a2 := heap_alloc_new (w.alloc (Obj.cells c1 t1)) (Obj.cells c2 t2)
  have a3 := heap_alloc_new ((w.alloc (Obj.cells c1 t1)).alloc (Obj.cells c2 t2)) (Obj.cells c3 t3)
  have a4 := heap_alloc_new (((w.alloc (Obj.cells c1 t1)).alloc (Obj.cells c2 t2)).alloc (Obj.cells c3 t3)) (Obj.cells c4 t4)
  have a5 := heap_alloc_new ((((w.alloc (Obj.cells c1 t1)).alloc (Obj.cells c2 t2)).alloc (Obj.cells c3 t3)).alloc (Obj.cells c4 t4)) (Obj.cells c5 t5)
  rw [World.size_alloc] at a2
  rw [World.size_alloc, World.size_alloc] at a3
  rw [World.size_alloc, World.size_alloc, World.size_alloc] at a4
  rw [World.size_alloc, World.size_alloc, World.size_alloc, World.size_alloc] at a5
  exact ⟨blk_alloc (blk_alloc (blk_alloc (blk_alloc a1 _) _) _) _, blk_alloc (blk_alloc (blk_alloc a2 _) _) _, blk_alloc (blk_alloc a3 _) _, blk_alloc a4 _, a5, below_alloc (below_alloc (below_alloc (below_alloc (below_alloc (Below.refl _ _) _) _) _) _) _⟩
theorem few0 (us : List Int) : Few us (List.replicate us.length 0) := by
  refine ⟨by simp, fun p => ?_⟩
  unfold rd
  rw [List.getD_eq_getElem?_getD, List.getElem?_replicate]
  split <;> exact ⟨by decide, by decide⟩
theorem four (w : World) (c1 c2 c3 c4 : Array Value) (t1 t2 t3 t4 : TypeId) :
    ((((w.alloc (Obj.cells c1 t1)).alloc (Obj.cells c2 t2)).alloc (Obj.cells c3 t3)).alloc (Obj.cells c4 t4)).heap[w.heap.size]? = some (.cells c1 t1 (0, 0)) ∧
    ((((w.alloc (Obj.cells c1 t1)).alloc (Obj.cells c2 t2)).alloc (Obj.cells c3 t3)).alloc (Obj.cells c4 t4)).heap[w.heap.size + 1]? = some (.cells c2 t2 (0, 0)) ∧
    ((((w.alloc (Obj.cells c1 t1)).alloc (Obj.cells c2 t2)).alloc (Obj.cells c3 t3)).alloc (Obj.cells c4 t4)).heap[w.heap.size + 1 + 1]? = some (.cells c3 t3 (0, 0)) ∧
    ((((w.alloc (Obj.cells c1 t1)).alloc (Obj.cells c2 t2)).alloc (Obj.cells c3 t3)).alloc (Obj.cells c4 t4)).heap[w.heap.size + 1 + 1 + 1]? = some (.cells c4 t4 (0, 0)) ∧
    Below w.heap.size w ((((w.alloc (Obj.cells c1 t1)).alloc (Obj.cells c2 t2)).alloc (Obj.cells c3 t3)).alloc (Obj.cells c4 t4)) := by
  have a1 := heap_alloc_new w (Obj.cells c1 t1)
  have a2 := heap_alloc_new (w.alloc (Obj.cells c1 t1)) (Obj.cells c2 t2)
  have a3 := heap_alloc_new ((w.alloc (Obj.cells c1 t1)).alloc (Obj.cells c2 t2)) (Obj.cells c3 t3)
  have a4 := heap_alloc_new (((w.alloc (Obj.cells c1 t1)).alloc (Obj.cells c2 t2)).alloc (Obj.cells c3 t3)) (Obj.cells c4 t4)
  rw [World.size_alloc] at a2
  rw [World.size_alloc, World.size_alloc] at a3
  rw [World.size_alloc, World.size_alloc, World.size_alloc] at a4
  exact ⟨blk_alloc (blk_alloc (blk_alloc a1 _) _) _, blk_alloc (blk_alloc a2 _) _, blk_alloc a3 _, a4, below_alloc (below_alloc (below_alloc (below_alloc (Below.refl _ _) _) _) _) _⟩
theorem mkPs_nil (us : List Int) : mkPs us [] = us.map (fun x => (⟨x, false⟩ : S64)) := by
  unfold mkPs
  apply List.ext_getElem
  · simp
  · intro i h1 h2
    simp at h1 h2
    simp only [List.getElem_map, List.getElem_range, List.any_nil]
    have : rd us (i : Int) = us[i] := by
      unfold rd
      rw [List.getD_eq_getElem?_getD, Int.toNat_natCast, List.getElem?_eq_getElem h1]
      rfl
    rw [this]
theorem mkPs_len (us : List Int) (A : List S30) : (mkPs us A).length = us.length := by unfold mkPs; simp
theorem mkPs_rd (us : List Int) (A : List S30) (p : Int) (h0 : 0 ≤ p) (h1 : p < us.length) : rd_T64 (mkPs us A) p = ⟨rd us p, A.any (fun t => t.f0 == p)⟩ := by
  unfold rd_T64
  rw [List.getD_eq_getElem?_getD, List.getElem?_eq_getElem (by rw [mkPs_len]; omega)]
  unfold mkPs
  simp only [List.getElem_map, List.getElem_range, Option.getD_some]
  rw [show ((p.toNat : Nat) : Int) = p by omega]
theorem mkPs_get (us : List Int) (A : List S30) (i : Nat) (h : i < (mkPs us A).length) : (mkPs us A)[i] = ⟨rd us (i : Int), A.any (fun t => t.f0 == (i : Int))⟩ := by
  simp [mkPs]
theorem mkPs_step (us : List Int) (A : List S30) (t : S30) (h0 : 0 ≤ t.f0) (h1 : t.f0 < us.length) : mkPs us (A ++ [t]) = (mkPs us A).set t.f0.toNat ⟨(rd_T64 (mkPs us A) t.f0).f0, true⟩ := by
  rw [mkPs_rd us A t.f0 h0 h1]
  apply List.ext_getElem
  · rw [List.length_set, mkPs_len, mkPs_len]
  · intro i h2 h3
    have hi : i < us.length := by rw [mkPs_len] at h2; exact h2
    rw [List.getElem_set, mkPs_get, mkPs_get, List.any_append]
    by_cases e : t.f0.toNat = i
    · rw [if_pos e]
      subst e
      have : ((t.f0.toNat : Nat) : Int) = t.f0 := by omega
      rw [this]
      simp
    · rw [if_neg e]
      have : (t.f0 == (i : Int)) = false := by simp; omega
      simp [this]
theorem scan4_in (us : List Int) : ∀ (A : List S30) (s : List Int), (scan (bad4 us) A s).1 = false → ∀ t ∈ A, inP us t.f0 = true ∧ rd us t.f0 = t.f1
  | [], _, _, _, h => by cases h
  | x :: A, s, h, t, ht => by
    rw [scan_cons] at h
    by_cases hb : (bad4 us x s).1 = true
    · rw [if_pos hb] at h; cases h
    · rw [if_neg hb] at h
      rcases List.mem_cons.mp ht with rfl | ht
      · have hb : (bad4 us t s).1 = false := by simpa using hb
        unfold bad4 at hb
        by_cases h1 : inP us t.f0 = false
        · rw [if_pos h1] at hb; cases hb
        · rw [if_neg h1] at hb
          by_cases h2 : rd us t.f0 = t.f1
          · exact ⟨by simpa using h1, h2⟩
          · rw [if_neg h2] at hb; cases hb
      · exact scan4_in us A _ h t ht
theorem okOf_in {m n : Int} {us fs : List Int} {A : List S30} (h : okOf m n us fs A = true) : ∀ t ∈ A, 0 ≤ t.f0 ∧ t.f0 < us.length ∧ rd us t.f0 = t.f1 := by
  intro t ht
  unfold okOf at h
  simp only [Bool.and_eq_true, Bool.not_eq_true'] at h
  have := scan4_in us A _ h.2.2.2.1 t ht
  have h2 : 0 ≤ t.f0 ∧ t.f0 < us.length := by simpa [inP] using this.1
  exact ⟨h2.1, h2.2, this.2⟩
theorem map_snoc (us : List Int) (k : Nat) (h : k < us.length) : (us.take (k + 1)).map (fun x => (⟨x, false⟩ : S64)) = (us.take k).map (fun x => (⟨x, false⟩ : S64)) ++ [⟨rd us (k : Int), false⟩] := by
  rw [List.take_add_one, List.getElem?_eq_getElem h, List.map_append]
  have : rd us (k : Int) = us[k] := by
    unfold rd
    rw [List.getD_eq_getElem?_getD, Int.toNat_natCast, List.getElem?_eq_getElem h]
    rfl
  rw [this]
  rfl
theorem take_snoc30 (A : List S30) (k : Nat) (h : k < A.length) : A.take (k + 1) = A.take k ++ [rd_T30 A (k : Int)] := by
  rw [List.take_add_one, List.getElem?_eq_getElem h]
  unfold rd_T30
  rw [List.getD_eq_getElem?_getD, Int.toNat_natCast, List.getElem?_eq_getElem h]
  rfl
set_option maxHeartbeats 8000000 in
set_option maxRecDepth 100000 in
theorem of_calls (m n : Int) (us fs : List Int) (A : List S30) (A2 A3 A4 : Option Addr) (c2 c3 c4 : Nat) (w : World)
    (hr2 : Kd.C (Kd.int .i64) w A2 us.length us) (hc2 : us.length ≤ c2) (hr3 : Kd.C (Kd.int .i64) w A3 fs.length fs) (hc3 : fs.length ≤ c3) (hr4 : Kd.C k30 w A4 A.length A) (hc4 : A.length ≤ c4) (hl2 : us.length ≤ 60) (hl3 : fs.length ≤ 60) (hl4 : A.length ≤ 60) :
    Calls Try.prog 21 #[.int .i64 m, .int .i64 n, .slice A2 us.length c2, .slice A3 fs.length c3, .slice A4 A.length c4] w fun e w' => OfEnd m n us fs A w e w' := by
  have hu30 := Try.underlying30
  have hu62 := Try.underlying62
  have hu64 := Try.underlying64
  have HR2 := Aside0.mk hr2
  have HR3 := Aside0.mk hr3
  have HR4 := Aside0.mk hr4
  clear hr2 hr3 hr4
  go_enter Try.func21, Try.ntmps21
  go_upto_region 1 with (fail)
  obtain ⟨x1, x2, x3, x4, x5, xb⟩ := five w #[Value.int IntKind.i64 m] #[Value.int IntKind.i64 n] #[Value.slice A2 us.length c2] #[Value.slice A3 fs.length c3] #[Value.slice A4 A.length c4] 3 3 42 42 28
  generalize (((((w.alloc (Obj.cells #[Value.int IntKind.i64 m] 3)).alloc (Obj.cells #[Value.int IntKind.i64 n] 3)).alloc (Obj.cells #[Value.slice A2 us.length c2] 42)).alloc (Obj.cells #[Value.slice A3 fs.length c3] 42)).alloc (Obj.cells #[Value.slice A4 A.length c4] 28)) = w1 at x1 x2 x3 x4 x5 xb ⊢
  have hbP : w.heap.size ≤ w.heap.size := Nat.le_refl _
  have hPG : w.heap.size ≠ w.heap.size + 1 := by omega
  generalize w.heap.size + 1 + 1 + 1 + 1 = bA at x5 ⊢
  generalize w.heap.size + 1 + 1 + 1 = bF at x4 ⊢
  generalize w.heap.size + 1 + 1 = bU at x3 ⊢
  generalize w.heap.size + 1 = bG at x2 hPG ⊢
  obtain ⟨bP, hbP⟩ : ∃ b, w.heap.size = b := ⟨_, rfl⟩
  rw [hbP] at x1 ⊢
  have X1 := Aside0.mk x1
  have X2 := Aside0.mk x2
  have X3 := Aside0.mk x3
  have X4 := Aside0.mk x4
  have X5 := Aside0.mk x5
  have XB := Aside0.mk xb
  have y1 := (blk_cell x1 0).trans (show _ = some (Value.int .i64 m) from rfl)
  have y2 := (blk_cell x2 0).trans (show _ = some (Value.int .i64 n) from rfl)
  clear x1 x2 x3 x4 x5 xb
  by_cases hbad : m < 0 ∨ 1024 < m ∨ n < 1 ∨ 65535 < n
  · go_wp2_with (first | (go_at_call 10; refine (new_bad 0 m n _ hbad).mono ?_; rintro e w2 ⟨rfl, ⟨nd, rfl⟩⟩))
    go_ret2
    exact ⟨pw_below_drewN XB.out nd, .inl (.inl ⟨hbad, rfl⟩)⟩
  have h1 : 0 ≤ m ∧ m ≤ 1024 ∧ 1 ≤ n ∧ n ≤ 65535 := by omega
  have HBAD := Aside0.mk hbad
  clear hbad
  go_upto_region 4 with (first | (go_at_call 10; refine (@new_ok ⟨fun _ => True, 0, fun _ _ => trivial⟩ 0 m n w1 h1.1 h1.2.1 h1.2.2.1 h1.2.2.2 (Nat.zero_le _)).mono ?_; rintro e w2 ⟨g, rfl, hg, hs, hb⟩; have K1 := Aside0.mk hs.1; have HG := Aside0.mk (Nat.le_trans XB.out.size hg); have Y1 := Aside0.mk (blk_keep X1.out hb); have Y2 := Aside0.mk (blk_keep X2.out hb); have Y3 := Aside0.mk (blk_keep X3.out hb); have Y4 := Aside0.mk (blk_keep X4.out hb); have Y5 := Aside0.mk (blk_keep X5.out hb); have YB := Aside0.mk (below_step XB.out hb); clear hs hb hg))
  clear X1 X2 X3 X4 X5 XB y1 y2
  have y3 := (blk_cell Y3.out 0).trans (show _ = some (Value.slice A2 us.length c2) from rfl)
  have hBB := YB.out.size
  go_upto_region 5 with (first | ((with_reducible refine gate_dst (N := 35) rfl ?_); refine Kd.R_make (Kd.int .i64) (w0 := w) w.heap.size 3 ?hg (N := 35) ?hd 42 (.tmp 34) (.tmp 34) rfl (us.length : Int) rfl rfl Try.underlying42 (.int .i64 0) 8 info3' rfl (by decide) (by omega) (0 : Int) (ok := fun k => k ≠ bP ∧ k ≠ bG) (okp := fun _ => False) rfl (fun _ h => h.elim) ?hf (by omega) (by omega) ?hB ?hs ?_; (case hd => rfl); (case hg => rfl); (case hf => exact ⟨fun e => by have := blk_lt Y1.out; omega, fun e => by have := blk_lt Y2.out; omega⟩); (case hB => exact YB.out); (case hs => exact YB.out.size); intro v1 w3 ho hb hg hq; rw [Int.toNat_natCast] at ho; (obtain ⟨As, cs, hv1⟩ := Kd.R_slice ho); rw [List.length_replicate] at hv1; subst hv1; have HO := Aside0.mk ho; have HB3 := Aside0.mk hb; have HG3 := Aside0.mk (show Below w2.heap.size w2 w3 from ⟨hg.os, hg.tape, hg.output, hg.size, fun k hk => hg.block k hk (by simp)⟩); clear ho hb hg hq))
  go_upto_region 8 with (fail)
  obtain ⟨q1, q2, q3, q4, qb⟩ := four w3 #[Value.slice As us.length cs] #[Value.func (Fn.func 31) #[] #[Value.pointer (some ⟨bU, 0, none⟩)]] #[Value.func (Fn.func 32) #[] #[Value.pointer (some ⟨w3.heap.size, 0, none⟩)]] #[Value.func (Fn.func 33) #[] #[Value.pointer (some ⟨bU, 0, none⟩), Value.pointer (some ⟨bP, 0, none⟩)], Value.func (Fn.func 34) #[] #[Value.pointer (some ⟨bU, 0, none⟩), Value.pointer (some ⟨bG, 0, none⟩)], Value.func (Fn.func 37) #[] #[Value.pointer (some ⟨bF, 0, none⟩), Value.pointer (some ⟨(w3.heap.size + 1), 0, none⟩), Value.pointer (some ⟨bU, 0, none⟩), Value.pointer (some ⟨bG, 0, none⟩), Value.pointer (some ⟨(w3.heap.size + 1 + 1), 0, none⟩)], Value.func (Fn.func 39) #[] #[Value.pointer (some ⟨bA, 0, none⟩), Value.pointer (some ⟨(w3.heap.size + 1), 0, none⟩), Value.pointer (some ⟨bU, 0, none⟩), Value.pointer (some ⟨(w3.heap.size + 1 + 1), 0, none⟩)], Value.func (Fn.func 42) #[] #[Value.pointer (some ⟨w3.heap.size, 0, none⟩), Value.pointer (some ⟨bU, 0, none⟩), Value.pointer (some ⟨bG, 0, none⟩)]] 42 41 41 23
  have Z1 := blk_keep (blk_keep Y1.out HG3.out) qb
  have Z2 := blk_keep (blk_keep Y2.out HG3.out) qb
  have Z3 := blk_keep (blk_keep Y3.out HG3.out) qb
  have Z4 := blk_keep (blk_keep Y4.out HG3.out) qb
  have Z5 := blk_keep (blk_keep Y5.out HG3.out) qb
  have Z6 := blk_keep (blk_keep K1.out HG3.out) qb
  have ZO := Kd.R_below HO.out qb
  have ZB := below_step HB3.out qb
  generalize ((((w3.alloc (Obj.cells #[Value.slice As us.length cs] 42)).alloc (Obj.cells #[Value.func (Fn.func 31) #[] #[Value.pointer (some ⟨bU, 0, none⟩)]] 41)).alloc (Obj.cells #[Value.func (Fn.func 32) #[] #[Value.pointer (some ⟨w3.heap.size, 0, none⟩)]] 41)).alloc (Obj.cells #[Value.func (Fn.func 33) #[] #[Value.pointer (some ⟨bU, 0, none⟩), Value.pointer (some ⟨bP, 0, none⟩)], Value.func (Fn.func 34) #[] #[Value.pointer (some ⟨bU, 0, none⟩), Value.pointer (some ⟨bG, 0, none⟩)], Value.func (Fn.func 37) #[] #[Value.pointer (some ⟨bF, 0, none⟩), Value.pointer (some ⟨(w3.heap.size + 1), 0, none⟩), Value.pointer (some ⟨bU, 0, none⟩), Value.pointer (some ⟨bG, 0, none⟩), Value.pointer (some ⟨(w3.heap.size + 1 + 1), 0, none⟩)], Value.func (Fn.func 39) #[] #[Value.pointer (some ⟨bA, 0, none⟩), Value.pointer (some ⟨(w3.heap.size + 1), 0, none⟩), Value.pointer (some ⟨bU, 0, none⟩), Value.pointer (some ⟨(w3.heap.size + 1 + 1), 0, none⟩)], Value.func (Fn.func 42) #[] #[Value.pointer (some ⟨w3.heap.size, 0, none⟩), Value.pointer (some ⟨bU, 0, none⟩), Value.pointer (some ⟨bG, 0, none⟩)]] 23)) = w7 at q1 q2 q3 q4 qb Z1 Z2 Z3 Z4 Z5 Z6 ZO ZB ⊢
  generalize w3.heap.size + 1 + 1 + 1 = bR at q4 ⊢
  generalize w3.heap.size + 1 + 1 = bO at q3 q4 ⊢
  generalize w3.heap.size + 1 = bI at q2 q4 ⊢
  generalize w3.heap.size = bS at q1 q3 q4 ⊢
  have HF := Aside0.mk (show OfF m n us fs A A2 A3 A4 c2 c3 c4 bP bG bU bF bA bS bI bO g #[.int .i64 m, .int .i64 n, .slice none 0 0, .slice none 0 0, .int .i64 0] bR #[Value.func (Fn.func 33) #[] #[Value.pointer (some ⟨bU, 0, none⟩), Value.pointer (some ⟨bP, 0, none⟩)], Value.func (Fn.func 34) #[] #[Value.pointer (some ⟨bU, 0, none⟩), Value.pointer (some ⟨bG, 0, none⟩)], Value.func (Fn.func 37) #[] #[Value.pointer (some ⟨bF, 0, none⟩), Value.pointer (some ⟨bI, 0, none⟩), Value.pointer (some ⟨bU, 0, none⟩), Value.pointer (some ⟨bG, 0, none⟩), Value.pointer (some ⟨bO, 0, none⟩)], Value.func (Fn.func 39) #[] #[Value.pointer (some ⟨bA, 0, none⟩), Value.pointer (some ⟨bI, 0, none⟩), Value.pointer (some ⟨bU, 0, none⟩), Value.pointer (some ⟨bO, 0, none⟩)], Value.func (Fn.func 42) #[] #[Value.pointer (some ⟨bS, 0, none⟩), Value.pointer (some ⟨bU, 0, none⟩), Value.pointer (some ⟨bG, 0, none⟩)]] w (List.replicate us.length 0) (Value.slice As us.length cs) w7 from ⟨Z1, Z2, Z3, Z4, Z5, q1, q2, q3, Z6, q4, ZO, ZB⟩)
  clear q1 q2 q3 q4 qb Z1 Z2 Z3 Z4 Z5 Z6 ZO ZB Y1 Y2 Y3 Y4 Y5 K1 HG3 HO HB3 YB hBB y3
  generalize hs0 : List.replicate us.length (0 : Int) = s0 at HF
  have HW0 := Aside0.mk (hs0 ▸ few0 us)
  have hs0 := Aside0.mk hs0
  go_wp2
  obtain ⟨b1, hb1⟩ : ∃ b, decide ((us.length : Int) ≤ m) = b := ⟨_, rfl⟩
  obtain ⟨b2, hb2⟩ : ∃ b, us.any (bad2 n) = b := ⟨_, rfl⟩
  obtain ⟨b3, hb3⟩ : ∃ b, (scan (bad3 n us) fs s0).1 = b := ⟨_, rfl⟩
  obtain ⟨s3, hs3⟩ : ∃ s, (scan (bad3 n us) fs s0).2 = s := ⟨_, rfl⟩
  obtain ⟨b4, hb4⟩ : ∃ b, (scan (bad4 us) A s3).1 = b := ⟨_, rfl⟩
  obtain ⟨s4, hs4⟩ : ∃ s, (scan (bad4 us) A s3).2 = s := ⟨_, rfl⟩
  obtain ⟨b5, hb5⟩ : ∃ b, ok5 n us s4 = b := ⟨_, rfl⟩
  have hok := Aside0.mk (show okOf m n us fs A = (b1 && (!b2 && (!b3 && (!b4 && b5)))) from by unfold okOf; rw [hs0.out, hb1, hb2, hb3, hs3, hb4, hs4, hb5])
  have hb1 := Aside0.mk hb1
  have hb2 := Aside0.mk hb2
  have hb3 := Aside0.mk hb3
  have hb4 := Aside0.mk hb4
  have hb5 := Aside0.mk hb5
  have hs3 := Aside0.mk hs3
  have hs4 := Aside0.mk hs4
  refine wp_loop_rounds 6 ?_
  have cc := (blk_cell HF.out.r 0).trans (show _ = some (Value.func (Fn.func 33) #[] #[Value.pointer (some ⟨bU, 0, none⟩), Value.pointer (some ⟨bP, 0, none⟩)]) from rfl)
  have HC := (rule1_calls HF.out).mono (fun e w' h => show e = .returned (.bool (decide ((us.length : Int) ≤ m))) ∧ OfF m n us fs A A2 A3 A4 c2 c3 c4 bP bG bU bF bA bS bI bO g #[.int .i64 m, .int .i64 n, .slice none 0 0, .slice none 0 0, .int .i64 0] bR #[Value.func (Fn.func 33) #[] #[Value.pointer (some ⟨bU, 0, none⟩), Value.pointer (some ⟨bP, 0, none⟩)], Value.func (Fn.func 34) #[] #[Value.pointer (some ⟨bU, 0, none⟩), Value.pointer (some ⟨bG, 0, none⟩)], Value.func (Fn.func 37) #[] #[Value.pointer (some ⟨bF, 0, none⟩), Value.pointer (some ⟨bI, 0, none⟩), Value.pointer (some ⟨bU, 0, none⟩), Value.pointer (some ⟨bG, 0, none⟩), Value.pointer (some ⟨bO, 0, none⟩)], Value.func (Fn.func 39) #[] #[Value.pointer (some ⟨bA, 0, none⟩), Value.pointer (some ⟨bI, 0, none⟩), Value.pointer (some ⟨bU, 0, none⟩), Value.pointer (some ⟨bO, 0, none⟩)], Value.func (Fn.func 42) #[] #[Value.pointer (some ⟨bS, 0, none⟩), Value.pointer (some ⟨bU, 0, none⟩), Value.pointer (some ⟨bG, 0, none⟩)]] w s0 (Value.slice As us.length cs) w' from ⟨h.1, HF.out.below h.2⟩)
  rw [hb1.out] at HC
  have HC := Aside0.mk HC
  rw [rounds_succ]
  cases b1 with
  | false =>
    go_wp2_with (first | (go_at_call 33; refine HC.out.mono ?_; rintro e wr1 ⟨rfl, hq⟩; have HF1 := Aside0.mk hq; clear hq))
    go_ret2
    exact ⟨HF1.out.hb, .inl (.inr ⟨HBAD.out, by rw [hok.out]; simp, rfl⟩)⟩
  | true =>
    go_wp2_with (first | (go_at_call 33; refine HC.out.mono ?_; rintro e wr1 ⟨rfl, hq⟩; have HF1 := Aside0.mk hq; clear hq))
    clear cc HC
    have cc := (blk_cell HF1.out.r 1).trans (show _ = some (Value.func (Fn.func 34) #[] #[Value.pointer (some ⟨bU, 0, none⟩), Value.pointer (some ⟨bG, 0, none⟩)]) from rfl)
    have HC := rule2_calls HR2.out (by omega) HF1.out
    rw [hb2.out] at HC
    have HC := Aside0.mk HC
    rw [rounds_succ]
    cases b2 with
    | true =>
      go_wp2_with (first | (go_at_call 34; refine HC.out.mono ?_; rintro e wr2 ⟨rfl, hq⟩; have HF2 := Aside0.mk hq; clear hq))
      go_ret2
      exact ⟨HF2.out.hb, .inl (.inr ⟨HBAD.out, by rw [hok.out]; simp, rfl⟩)⟩
    | false =>
      go_wp2_with (first | (go_at_call 34; refine HC.out.mono ?_; rintro e wr2 ⟨rfl, hq⟩; have HF2 := Aside0.mk hq; clear hq))
      clear cc HC
      have cc := (blk_cell HF2.out.r 2).trans (show _ = some (Value.func (Fn.func 37) #[] #[Value.pointer (some ⟨bF, 0, none⟩), Value.pointer (some ⟨bI, 0, none⟩), Value.pointer (some ⟨bU, 0, none⟩), Value.pointer (some ⟨bG, 0, none⟩), Value.pointer (some ⟨bO, 0, none⟩)]) from rfl)
      have HC := rule3_calls HR2.out HR3.out (by omega) HF2.out HW0.out
      rw [hb3.out, hs3.out] at HC
      have HC := Aside0.mk HC
      rw [rounds_succ]
      cases b3 with
      | true =>
        go_wp2_with (first | (go_at_call 37; refine HC.out.mono ?_; rintro e wr3 ⟨rfl, hq, hw⟩; have HF3 := Aside0.mk hq; clear hq; have HWX := Aside0.mk hw; clear hw))
        go_ret2
        exact ⟨HF3.out.hb, .inl (.inr ⟨HBAD.out, by rw [hok.out]; simp, rfl⟩)⟩
      | false =>
        go_wp2_with (first | (go_at_call 37; refine HC.out.mono ?_; rintro e wr3 ⟨rfl, hq, hw⟩; have HF3 := Aside0.mk hq; clear hq; have HWX := Aside0.mk hw; clear hw))
        have HW3 := Aside0.mk (HWX.out (by first | trivial | rfl))
        clear cc HC
        have cc := (blk_cell HF3.out.r 3).trans (show _ = some (Value.func (Fn.func 39) #[] #[Value.pointer (some ⟨bA, 0, none⟩), Value.pointer (some ⟨bI, 0, none⟩), Value.pointer (some ⟨bU, 0, none⟩), Value.pointer (some ⟨bO, 0, none⟩)]) from rfl)
        have HC := rule4_calls HR2.out HR4.out (by omega) HF3.out HW3.out
        rw [hb4.out, hs4.out] at HC
        have HC := Aside0.mk HC
        rw [rounds_succ]
        cases b4 with
        | true =>
          go_wp2_with (first | (go_at_call 39; refine HC.out.mono ?_; rintro e wr4 ⟨rfl, hq, hw⟩; have HF4 := Aside0.mk hq; clear hq; have HWX := Aside0.mk hw; clear hw))
          go_ret2
          exact ⟨HF4.out.hb, .inl (.inr ⟨HBAD.out, by rw [hok.out]; simp, rfl⟩)⟩
        | false =>
          go_wp2_with (first | (go_at_call 39; refine HC.out.mono ?_; rintro e wr4 ⟨rfl, hq, hw⟩; have HF4 := Aside0.mk hq; clear hq; have HWX := Aside0.mk hw; clear hw))
          have HW4 := Aside0.mk (HWX.out (by first | trivial | rfl))
          clear cc HC
          have cc := (blk_cell HF4.out.r 4).trans (show _ = some (Value.func (Fn.func 42) #[] #[Value.pointer (some ⟨bS, 0, none⟩), Value.pointer (some ⟨bU, 0, none⟩), Value.pointer (some ⟨bG, 0, none⟩)]) from rfl)
          have HC := rule5_calls HR2.out HF4.out HW4.out.1 (by omega)
          rw [hb5.out] at HC
          have HC := Aside0.mk HC
          rw [rounds_succ]
          cases b5 with
          | false =>
            go_wp2_with (first | (go_at_call 42; refine HC.out.mono ?_; rintro e wr5 ⟨rfl, hq⟩; have HF5 := Aside0.mk hq; clear hq))
            go_ret2
            exact ⟨HF5.out.hb, .inl (.inr ⟨HBAD.out, by rw [hok.out]; simp, rfl⟩)⟩
          | true =>
            go_wp2_with (first | (go_at_call 42; refine HC.out.mono ?_; rintro e wr5 ⟨rfl, hq⟩; have HF5 := Aside0.mk hq; clear hq))
            clear cc HC
            rw [rounds_succ]
            have u0 := (blk_cell HF5.out.u 0).trans (show _ = some (Value.slice A2 us.length c2) from rfl)
            clear HF HF1 HF2 HF3 HF4 HW0 HW3 HW4 hb1 hb2 hb3 hb4 hb5 hs3 hs4 hs0
            have hok2 : okOf m n us fs A = true := by rw [hok.out]; rfl
            have HOK := Aside0.mk hok2
            clear hok hok2
            letI : Own := ⟨fun _ => True, 0, fun _ _ => trivial⟩
            have HS0 := Aside0.mk (show Slab w.heap.size wr5 g m n (.slice none 0 0) (.slice none 0 0) [] [] 0 from ⟨HF5.out.k, HG.out, Kd.R_nil _ _ _ _ _, Kd.R_nil _ _ _ _ _, trivial, Nat.zero_le _⟩)
            have G4 := Aside0.mk HF5.out.f
            have G5 := Aside0.mk HF5.out.a
            have GB := Aside0.mk HF5.out.hb
            clear HF5
            go_wp2
            go_loopg [56] us.length (fun gf i wr => ∃ (k : Nat) (vp : Value), i = .int .i64 (k : Int) ∧ k + gf = us.length ∧ Aside0 (Slab w.heap.size wr g m n vp (.slice none 0 0) ((us.take k).map (fun x => (⟨x, false⟩ : S64))) [] 0) ∧ Aside0 (wr.heap[bF]? = some (.cells #[.slice A3 fs.length c3] 42 (0, 0))) ∧ Aside0 (wr.heap[bA]? = some (.cells #[.slice A4 A.length c4] 28 (0, 0))) ∧ Aside0 (Below w.heap.size w wr))
            case atStart => exact ⟨0, _, rfl, by omega, HS0, G4, G5, GB⟩
            case round =>
              clear HS0 G4 G5 GB u0
              obtain ⟨k, vp, rfl, hk, HS, G4, G5, GB⟩ := hrel
              by_cases hlt : k < us.length
              · obtain ⟨g', rfl⟩ : ∃ g', gk = g' + 1 := ⟨gk - 1, by omega⟩
                have hlt2 : (k : Int) < (us.length : Int) := by omega
                have hwi : IntKind.i64.wrap ((k : Int) + 1) = (k : Int) + 1 := wrap_ok _ (by omega) (by omega)
                obtain ⟨ad, c0, hA, _, hK, hc0⟩ := Kd.C_get (Kd.C_below HR2.out GB.out) (0 : Int) (k : Int) (by omega) hlt2
                obtain ⟨x, hx⟩ : ∃ x, rd us (k : Int) = x := ⟨_, rfl⟩
                have z0 : wr.cell? (ad.add k) = some (.int .i64 x) := by
                  have := hc0 0 (.int .i64 (rd us (k : Int))) (by rw [show c0 = [.int .i64 (rd us (k : Int))] from hK]; rfl)
                  rw [hx] at this
                  simpa [show (Kd.int IntKind.i64).sz = 1 from rfl] using this
                have HX := Aside0.mk hx
                have HA2 := Aside0.mk hA
                clear hc0 hK hx
                subst hA
                obtain ⟨Ap, cp, rfl⟩ := HS.out.vp_form
                obtain ⟨L, hL⟩ : ∃ L, (us.take k).map (fun x => (⟨x, false⟩ : S64)) = L := ⟨_, rfl⟩
                have hLl : L.length ≤ 60 := by rw [← hL]; simp; omega
                rw [hL] at HS
                have HL := Aside0.mk hL
                clear hL
                have d2 := (blk_cell HS.out.1 2).trans (show _ = some (Value.slice Ap L.length cp) from rfl)
                have e2 := blk_frozen HS.out.1 2
                go_wp2_with (first | ((with_reducible refine gate_builtin (b := .append) (xs := #[.tmp 64, .tmp 67]) rfl ?_); at_builtin; refine Kd.R_append k64 (w0 := w) w.heap.size rfl (.tmp 64) (.tmp 67) 58 64 (.agg #[.int .i64 0, .bool false]) 16 rfl Try.underlying58 slab_info64 rfl (by decide) (by omega) (.slice Ap L.length cp) L ⟨x, false⟩ [.int .i64 x, .bool false] (fun _ => True) (fun _ => False) rfl rfl ?aP (fun _ hk => hk.elim) ?aF ?aO ?aB ?aS ?aL ?_; (case aP => exact k64_mkM _ _ _ _); (case aB => exact GB.out); (case aF => exact (fun _ _ => trivial)); (case aO => exact HS.out.2.2.1); (case aS => exact GB.out.size); (case aL => omega); intro v1 w6 ho hb hg hat; (obtain ⟨A9, c9, rfl⟩ := Kd.R_slice ho); have hb1 := Aside0.mk ((hg.block g (blk_lt HS.out.1) (Kd.R_ne HS.out.2.2.1 HS.out.1 (by decide))).trans HS.out.1); have hf1 := blk_frozen hb1.out 2; have hc1 := (blk_cell hb1.out 2).trans (show _ = some (Value.slice Ap L.length cp) from rfl); have HO := Aside0.mk ho; have HB := Aside0.mk hb; have I4 := Aside0.mk ((hg.block bF (blk_lt G4.out) (Kd.R_ne HS.out.2.2.1 G4.out (by decide))).trans G4.out); have I5 := Aside0.mk ((hg.block bA (blk_lt G5.out) (Kd.R_ne HS.out.2.2.1 G5.out (by decide))).trans G5.out); clear ho hb hg hat))
                go_roundg g'
                case measure => omega
                case rel =>
                  refine ⟨k + 1, .slice A9 (L ++ [(⟨x, false⟩ : S64)]).length c9, rfl, by omega, ⟨?_⟩, ⟨?_⟩, ⟨?_⟩, ⟨?_⟩⟩
                  · rw [map_snoc us k hlt, HL.out, HX.out]
                    exact Slab.set hb1.out HS.out.2.1 2 _ (by simp) HO.out (Kd.R_nil _ _ _ _ _) ⟨trivial, Nat.zero_le _⟩
                  · exact (Below.heap_setCell _ ⟨g, 2, none⟩ _ bF (blk_ne I4.out hb1.out (by decide))).trans I4.out
                  · exact (Below.heap_setCell _ ⟨g, 2, none⟩ _ bA (blk_ne I5.out hb1.out (by decide))).trans I5.out
                  · exact Below.setCell HB.out (p := ⟨g, 2, none⟩) HG.out _
              · have hge : ¬ (k : Int) < (us.length : Int) := by omega
                have hkk : us.take k = us := List.take_of_length_le (by omega)
                have HS1 := HS.out
                rw [hkk, ← mkPs_nil] at HS1
                have HS := Aside0.mk HS1
                clear HS1 hkk
                have f0 := (blk_cell G4.out 0).trans (show _ = some (Value.slice A3 fs.length c3) from rfl)
                have HCL := Aside0.mk (clone_calls A3 c3 fs wr (Kd.C_below HR3.out GB.out) hc3 (by omega))
                go_upto_region 20 with (first | (go_at_call 30; refine HCL.out.mono ?_; rintro e wc ⟨vc, rfl, hv, hb⟩; (obtain ⟨A8, c8, rfl⟩ := Kd.R_slice hv); have HSc := Aside0.mk (Slab.below HS.out hb); have H5 := Aside0.mk (blk_keep G5.out hb); have HBc := Aside0.mk (below_step GB.out hb); have HV := Aside0.mk (Kd.R_lower hv GB.out.size); have d3 := (blk_cell HSc.out.1 3).trans (show _ = some (Value.slice none 0 0) from rfl); have e3 := blk_frozen HSc.out.1 3; clear hv hb))
                have HS2 := Aside0.mk (Slab.set HSc.out.1 HSc.out.2.1 3 (.slice A8 fs.length c8) rfl HSc.out.2.2.1 HV.out ⟨trivial, Nat.zero_le _⟩)
                have K5 := Aside0.mk ((Below.heap_setCell wc ⟨g, 3, none⟩ (.slice A8 fs.length c8) bA (blk_ne H5.out HSc.out.1 (by decide))).trans H5.out)
                have KB := Aside0.mk (Below.setCell HBc.out (p := ⟨g, 3, none⟩) HG.out (.slice A8 fs.length c8))
                generalize wc.setCell ⟨g, 3, none⟩ (.slice A8 fs.length c8) = wd at HS2 K5 KB ⊢
                clear HSc H5 HBc HV d3 e3 HS G4 G5 GB f0 HCL hk
                have a0 := (blk_cell K5.out 0).trans (show _ = some (Value.slice A4 A.length c4) from rfl)
                go_wp2
                clear a0
                go_loopg [80] A.length (fun gf i wr => ∃ (j : Nat) (vp vf : Value), i = .int .i64 (j : Int) ∧ j + gf = A.length ∧ Aside0 (Slab w.heap.size wr g m n vp vf (mkPs us (A.take j)) fs (j : Int)) ∧ Aside0 (Below w.heap.size w wr))
                case atStart => exact ⟨0, _, _, rfl, by omega, HS2, KB⟩
                case round =>
                  clear HS2 K5 KB
                  obtain ⟨j, vp, vf, rfl, hj, HS, GB⟩ := hrel
                  by_cases hjt : j < A.length
                  · obtain ⟨g', rfl⟩ : ∃ g', gk = g' + 1 := ⟨gk - 1, by omega⟩
                    have hjt2 : (j : Int) < (A.length : Int) := by omega
                    have hwi : IntKind.i64.wrap ((j : Int) + 1) = (j : Int) + 1 := wrap_ok _ (by omega) (by omega)
                    obtain ⟨ad, hA4, z0, z1⟩ := at_T30 (Kd.C_below HR4.out GB.out) (j : Int) (by omega) hjt2
                    obtain ⟨t, ht⟩ : ∃ t, rd_T30 A (j : Int) = t := ⟨_, rfl⟩
                    have htm : t ∈ A := by
                      rw [← ht]; unfold rd_T30; rw [List.getD_eq_getElem?_getD, Int.toNat_natCast, List.getElem?_eq_getElem hjt]; exact List.getElem_mem _
                    obtain ⟨h0, hh1, _⟩ := okOf_in HOK.out t htm
                    rw [ht] at z0 z1
                    simp only [Int.toNat_natCast] at z0 z1
                    have HTT := Aside0.mk (show A.take (j + 1) = A.take j ++ [t] from by rw [take_snoc30 A j hjt, ht])
                    clear ht htm
                    subst hA4
                    obtain ⟨PS, hPS⟩ : ∃ P, mkPs us (A.take j) = P := ⟨_, rfl⟩
                    have hPl : PS.length = us.length := by rw [← hPS, mkPs_len]
                    rw [hPS] at HS
                    have h1 : t.f0 < (PS.length : Int) := by omega
                    have HPS := Aside0.mk (show mkPs us (A.take (j + 1)) = PS.set t.f0.toNat ⟨(rd_T64 PS t.f0).f0, true⟩ from by rw [HTT.out, mkPs_step us _ t h0 hh1, hPS])
                    clear hPS hh1 hPl
                    obtain ⟨gp, cap, rfl, hbp, hltp, cells, hcp⟩ := Kd.R_form HS.out.2.2.1 (by omega)
                    clear hbp hltp hcp
                    go_upto_region 23 with (fail)
                    have X23 := Aside0.mk (heap_alloc_new wr (Obj.cells #[Value.int IntKind.i64 t.f0, Value.int IntKind.i64 t.f1] 30))
                    have HS4 := Aside0.mk (Slab.below HS.out (below_al wr (Obj.cells #[Value.int IntKind.i64 t.f0, Value.int IntKind.i64 t.f1] 30)))
                    have GB4 := Aside0.mk (below_step GB.out (below_al wr (Obj.cells #[Value.int IntKind.i64 t.f0, Value.int IntKind.i64 t.f1] 30)))
                    generalize wr.alloc (Obj.cells #[Value.int IntKind.i64 t.f0, Value.int IntKind.i64 t.f1] 30) = w4 at X23 HS4 GB4 ⊢
                    generalize wr.heap.size = b23 at X23 ⊢
                    clear HS GB z0 z1
                    have t0 := (blk_cell X23.out 0).trans (show _ = some (Value.int .i64 t.f0) from rfl)
                    obtain ⟨_, _, hq0, hq2, hcf, hq4, hq5, hq6, hq7⟩ := Slab.cells HS4.out t.f0 h0 h1
                    have hq1 := hcf 2
                    clear hcf hq2 hq4 hq6
                    go_region
                    have HS5 := Aside0.mk (Slab.put_alive HS4.out t.f0 h0 h1 true).1
                    have GG5 := Aside0.mk (Slab.put_alive HS4.out t.f0 h0 h1 true).2
                    have GB5 := Aside0.mk (Below.grown GB4.out GG5.out GB4.out.size (by intro k hk; injection hk with hk; exact hk ▸ Kd.R_base HS4.out.2.2.1 gp rfl))
                    generalize ((w4.setCell ⟨gp, t.f0.toNat * 2 + 1, none⟩ (.bool true)).drew) = w5 at HS5 GG5 GB5 ⊢
                    clear hq0 hq1 hq5 hq7 t0 X23 HS4 GB4 GG5
                    have k4 := (blk_cell HS5.out.1 4).trans (show _ = some (Value.int .i64 (j : Int)) from rfl)
                    have k5 := blk_frozen HS5.out.1 4
                    go_wp2
                    go_roundg g'
                    case measure => omega
                    case rel =>
                      refine ⟨j + 1, .slice (some ⟨gp, 0, none⟩) PS.length cap, vf, rfl, by omega, ⟨?_⟩, ⟨Below.setCell GB5.out (p := ⟨g, 4, none⟩) HG.out _⟩⟩
                      rw [HPS.out]
                      exact Slab.set HS5.out.1 HS5.out.2.1 4 _ rfl HS5.out.2.2.1 HS5.out.2.2.2.1 HS5.out.2.2.2.2
                  · have hge2 : ¬ (j : Int) < (A.length : Int) := by omega
                    go_wp2
                    go_ret2
                    refine ⟨GB.out, .inr ⟨HBAD.out, HOK.out, g, vp, vf, rfl, ?_⟩⟩
                    have e1 : A.take j = A := List.take_of_length_le (by omega)
                    have e2 : (A.length : Int) = (j : Int) := by omega
                    rw [e2]
                    have := HS.out
                    rw [e1] at this
                    exact this
theorem rd_setI (s : List Int) (p q : Int) (v : Int) (h0 : 0 ≤ p) (h1 : p < s.length) (hq : 0 ≤ q) : rd (s.set p.toNat v) q = if q = p then v else rd s q := by
  unfold rd
  rw [List.getD_eq_getElem?_getD]
  by_cases e : q = p
  · subst e
    rw [if_pos rfl, List.getElem?_set_self (by omega)]
    rfl
  · rw [if_neg e, List.getElem?_set_ne (by omega), ← List.getD_eq_getElem?_getD]
theorem inP_iff (us : List Int) (p : Int) : inP us p = true ↔ 0 ≤ p ∧ p < us.length := by simp [inP]
theorem bad3_iff (n : Int) (us s : List Int) (x : Int) (hf : Few us s) : (bad3 n us x s).1 = false ↔ inP us x = true ∧ rd us x ≠ n ∧ rd s x = 0 := by
  unfold bad3
  cases hi : inP us x with
  | false => simp
  | true =>
    by_cases hn : rd us x = n
    · simp [hn]
    · have := hf.2 x
      simp [hn]
      constructor <;> intro h <;> omega
theorem bad3_snd (n : Int) (us s : List Int) (x : Int) (h : (bad3 n us x s).1 = false) : (bad3 n us x s).2 = s.set x.toNat (rd s x + 1) := by
  unfold bad3 at h ⊢
  split
  · rename_i h1; rw [if_pos h1] at h; cases h
  · rename_i h1
    rw [if_neg h1] at h
    split
    · rename_i h2; rw [if_pos h2] at h; cases h
    · rfl
theorem bad4_iff (us s : List Int) (x : S30) (hf : Few us s) : (bad4 us x s).1 = false ↔ inP us x.f0 = true ∧ rd us x.f0 = x.f1 ∧ rd s x.f0 = 0 := by
  unfold bad4
  cases hi : inP us x.f0 with
  | false => simp
  | true =>
    by_cases hn : rd us x.f0 = x.f1
    · have := hf.2 x.f0
      simp [hn]
      constructor <;> intro h <;> omega
    · simp [hn]
theorem bad4_snd (us s : List Int) (x : S30) (h : (bad4 us x s).1 = false) : (bad4 us x s).2 = s.set x.f0.toNat (rd s x.f0 + 1) := by
  unfold bad4 at h ⊢
  split
  · rename_i h1; rw [if_pos h1] at h; cases h
  · rename_i h1
    rw [if_neg h1] at h
    split
    · rfl
    · rename_i h2; rw [if_neg h2] at h; cases h
theorem scan3_ok (n : Int) (us : List Int) : ∀ (fs s : List Int), Few us s →
    ((scan (bad3 n us) fs s).1 = false ↔ fs.Nodup ∧ ∀ p ∈ fs, inP us p = true ∧ rd us p ≠ n ∧ rd s p = 0) ∧
    ((scan (bad3 n us) fs s).1 = false → Few us (scan (bad3 n us) fs s).2 ∧ ∀ q : Int, 0 ≤ q → q < us.length → rd (scan (bad3 n us) fs s).2 q = if q ∈ fs then 1 else rd s q)
  | [], s, hf => by
    refine ⟨by simp [scan], fun _ => ⟨hf, fun q _ _ => by simp [scan]⟩⟩
  | x :: fs, s, hf => by
    rw [scan_cons]
    cases hb : (bad3 n us x s).1 with
    | true =>
      rw [if_pos rfl]
      refine ⟨?_, fun h => by cases h⟩
      constructor
      · intro h; cases h
      · rintro ⟨_, h⟩
        have := (bad3_iff n us s x hf).mpr (h x List.mem_cons_self)
        rw [hb] at this
        cases this
    | false =>
      rw [if_neg (by simp)]
      have hx := (bad3_iff n us s x hf).mp hb
      have hxr := (inP_iff us x).mp hx.1
      have hf' := few3 n us s x hf hb
      have h2 := bad3_snd n us s x hb
      obtain ⟨ih1, ih2⟩ := scan3_ok n us fs _ hf'
      rw [h2] at ih1 ih2 ⊢
      have hrd : ∀ q : Int, 0 ≤ q → rd (s.set x.toNat (rd s x + 1)) q = if q = x then rd s x + 1 else rd s q := fun q hq => rd_setI s x q _ hxr.1 (by have := hf.1; omega) hq
      refine ⟨?_, ?_⟩
      · rw [ih1, List.nodup_cons]
        constructor
        · rintro ⟨hn, hp⟩
          refine ⟨⟨fun hm => ?_, hn⟩, fun p hp' => ?_⟩
          · have := (hp x hm).2.2
            rw [hrd x hxr.1, if_pos rfl] at this
            omega
          · rcases List.mem_cons.mp hp' with rfl | hp'
            · exact hx
            · have h3 := hp p hp'
              have hpr := (inP_iff us p).mp h3.1
              refine ⟨h3.1, h3.2.1, ?_⟩
              have h4 := h3.2.2
              rw [hrd p hpr.1] at h4
              by_cases e : p = x
              · rw [if_pos e] at h4; omega
              · rwa [if_neg e] at h4
        · rintro ⟨⟨hnx, hn⟩, hp⟩
          refine ⟨hn, fun p hp' => ?_⟩
          have h3 := hp p (List.mem_cons_of_mem _ hp')
          have hpr := (inP_iff us p).mp h3.1
          refine ⟨h3.1, h3.2.1, ?_⟩
          rw [hrd p hpr.1, if_neg (fun (e : p = x) => hnx (by rw [← e]; exact hp'))]
          exact h3.2.2
      · intro h
        obtain ⟨i1, i2⟩ := ih2 h
        refine ⟨i1, fun q hq0 hq1 => ?_⟩
        rw [i2 q hq0 hq1, hrd q hq0]
        by_cases e : q = x
        · subst e
          rw [if_pos rfl]
          simp [hx.2.2]
        · rw [if_neg e]
          simp [e]
theorem scan4_ok (us : List Int) : ∀ (A : List S30) (s : List Int), Few us s →
    ((scan (bad4 us) A s).1 = false ↔ (A.map (fun t => t.f0)).Nodup ∧ ∀ t ∈ A, inP us t.f0 = true ∧ rd us t.f0 = t.f1 ∧ rd s t.f0 = 0) ∧
    ((scan (bad4 us) A s).1 = false → Few us (scan (bad4 us) A s).2 ∧ ∀ q : Int, 0 ≤ q → q < us.length → rd (scan (bad4 us) A s).2 q = if q ∈ A.map (fun t => t.f0) then 1 else rd s q)
  | [], s, hf => by
    refine ⟨by simp [scan], fun _ => ⟨hf, fun q _ _ => by simp [scan]⟩⟩
  | x :: A, s, hf => by
    rw [scan_cons]
    cases hb : (bad4 us x s).1 with
    | true =>
      rw [if_pos rfl]
      refine ⟨?_, fun h => by cases h⟩
      constructor
      · intro h; cases h
      · rintro ⟨_, h⟩
        have := (bad4_iff us s x hf).mpr (h x List.mem_cons_self)
        rw [hb] at this
        cases this
    | false =>
      rw [if_neg (by simp)]
      have hx := (bad4_iff us s x hf).mp hb
      have hxr := (inP_iff us x.f0).mp hx.1
      have hf' := few4 us s x hf hb
      have h2 := bad4_snd us s x hb
      obtain ⟨ih1, ih2⟩ := scan4_ok us A _ hf'
      rw [h2] at ih1 ih2 ⊢
      have hrd : ∀ q : Int, 0 ≤ q → rd (s.set x.f0.toNat (rd s x.f0 + 1)) q = if q = x.f0 then rd s x.f0 + 1 else rd s q := fun q hq => rd_setI s x.f0 q _ hxr.1 (by have := hf.1; omega) hq
      refine ⟨?_, ?_⟩
      · rw [ih1, List.map_cons, List.nodup_cons]
        constructor
        · rintro ⟨hn, hp⟩
          refine ⟨⟨fun hm => ?_, hn⟩, fun t ht => ?_⟩
          · obtain ⟨t, ht, he⟩ := List.mem_map.mp hm
            have := (hp t ht).2.2
            rw [he, hrd x.f0 hxr.1, if_pos rfl] at this
            omega
          · rcases List.mem_cons.mp ht with rfl | ht
            · exact hx
            · have h3 := hp t ht
              have hpr := (inP_iff us t.f0).mp h3.1
              refine ⟨h3.1, h3.2.1, ?_⟩
              have h4 := h3.2.2
              rw [hrd t.f0 hpr.1] at h4
              by_cases e : t.f0 = x.f0
              · rw [if_pos e] at h4; omega
              · rwa [if_neg e] at h4
        · rintro ⟨⟨hnx, hn⟩, hp⟩
          refine ⟨hn, fun t ht => ?_⟩
          have h3 := hp t (List.mem_cons_of_mem _ ht)
          have hpr := (inP_iff us t.f0).mp h3.1
          refine ⟨h3.1, h3.2.1, ?_⟩
          rw [hrd t.f0 hpr.1, if_neg (fun (e : t.f0 = x.f0) => hnx (by rw [← e]; exact List.mem_map_of_mem ht))]
          exact h3.2.2
      · intro h
        obtain ⟨i1, i2⟩ := ih2 h
        refine ⟨i1, fun q hq0 hq1 => ?_⟩
        rw [i2 q hq0 hq1, hrd q hq0]
        by_cases e : q = x.f0
        · subst e
          rw [if_pos rfl]
          simp [hx.2.2]
        · rw [if_neg e]
          simp [e]
/-- What Of's rules say, plainly. -/
def OkP (m n : Int) (us fs : List Int) (A : List S30) : Prop :=
  (us.length : Int) ≤ m ∧ (∀ x ∈ us, 1 ≤ x ∧ x ≤ n) ∧ (fs.Nodup ∧ ∀ p ∈ fs, 0 ≤ p ∧ p < us.length ∧ rd us p ≠ n) ∧ ((A.map (fun t => t.f0)).Nodup ∧ ∀ t ∈ A, 0 ≤ t.f0 ∧ t.f0 < us.length ∧ rd us t.f0 = t.f1 ∧ t.f0 ∉ fs) ∧
  ∀ p : Int, 0 ≤ p → p < us.length → rd us p ≠ n → p ∈ fs ∨ p ∈ A.map (fun t => t.f0)
theorem rd_zero (us : List Int) (q : Int) : rd (List.replicate us.length 0) q = 0 := by
  unfold rd
  rw [List.getD_eq_getElem?_getD, List.getElem?_replicate]
  split <;> rfl
theorem okOf_iff (m n : Int) (us fs : List Int) (A : List S30) : okOf m n us fs A = true ↔ OkP m n us fs A := by
  obtain ⟨a1, a2⟩ := scan3_ok n us fs _ (few0 us)
  unfold okOf OkP
  simp only [Bool.and_eq_true, Bool.not_eq_true', decide_eq_true_eq]
  have h2 : us.any (bad2 n) = false ↔ ∀ x ∈ us, 1 ≤ x ∧ x ≤ n := by
    rw [List.any_eq_false]
    constructor
    · intro h x hx
      have := h x hx
      simp [bad2] at this
      omega
    · intro h x hx
      have := h x hx
      simp [bad2]
      omega
  rw [h2]
  constructor
  · rintro ⟨c1, c2, c3, c4, c5⟩
    have b3 := a1.mp c3
    obtain ⟨f3, r3⟩ := a2 c3
    obtain ⟨d1, d2⟩ := scan4_ok us A _ f3
    have b4 := d1.mp c4
    obtain ⟨f4, r4⟩ := d2 c4
    refine ⟨c1, c2, ⟨b3.1, fun p hp => ?_⟩, ⟨b4.1, fun t ht => ?_⟩, fun p hp0 hp1 hn => ?_⟩
    · have := b3.2 p hp
      have hr := (inP_iff us p).mp this.1
      exact ⟨hr.1, hr.2, this.2.1⟩
    · have := b4.2 t ht
      have hr := (inP_iff us t.f0).mp this.1
      refine ⟨hr.1, hr.2, this.2.1, fun hc => ?_⟩
      have h3 := this.2.2
      rw [r3 _ hr.1 hr.2, if_pos hc] at h3
      cases h3
    · have h5 := List.all_eq_true.mp c5 p.toNat (List.mem_range.mpr (by have := f4.1; omega))
      simp only [lost, Bool.not_eq_true', Bool.and_eq_false_iff] at h5
      rw [show ((p.toNat : Nat) : Int) = p by omega] at h5
      rw [r4 p hp0 hp1] at h5
      by_cases e : p ∈ A.map (fun t => t.f0)
      · exact .inr e
      · rw [if_neg e, r3 p hp0 hp1] at h5
        by_cases e2 : p ∈ fs
        · exact .inl e2
        · rw [if_neg e2, rd_zero] at h5
          simp [hn] at h5
  · rintro ⟨c1, c2, ⟨c3, c3'⟩, ⟨c4, c4'⟩, c5⟩
    have e3 : (scan (bad3 n us) fs (List.replicate us.length 0)).1 = false := a1.mpr ⟨c3, fun p hp => by
      have := c3' p hp
      exact ⟨(inP_iff us p).mpr ⟨this.1, this.2.1⟩, this.2.2, rd_zero us p⟩⟩
    obtain ⟨f3, r3⟩ := a2 e3
    obtain ⟨d1, d2⟩ := scan4_ok us A _ f3
    have e4 : (scan (bad4 us) A (scan (bad3 n us) fs (List.replicate us.length 0)).2).1 = false := d1.mpr ⟨c4, fun t ht => by
      have := c4' t ht
      refine ⟨(inP_iff us t.f0).mpr ⟨this.1, this.2.1⟩, this.2.2.1, ?_⟩
      rw [r3 _ this.1 this.2.1, if_neg this.2.2.2, rd_zero]⟩
    obtain ⟨f4, r4⟩ := d2 e4
    refine ⟨c1, c2, e3, e4, ?_⟩
    unfold ok5
    apply List.all_eq_true.mpr
    intro k hk
    have hk' : k < us.length := by have := List.mem_range.mp hk; rw [f4.1] at this; exact this
    have hr4 := r4 (k : Int) (by omega) (by omega)
    simp only [lost, Bool.not_eq_true', Bool.and_eq_false_iff]
    by_cases hn : rd us (k : Int) = n
    · right; simp [hn]
    · left
      rw [hr4]
      rcases c5 (k : Int) (by omega) (by omega) hn with h | h
      · by_cases e : (k : Int) ∈ A.map (fun t => t.f0)
        · rw [if_pos e]; rfl
        · rw [if_neg e, r3 _ (by omega) (by omega), if_pos h]; rfl
      · rw [if_pos h]; rfl
theorem rd_memI (us : List Int) (p : Int) (h0 : 0 ≤ p) (h1 : p < us.length) : rd us p ∈ us := by
  unfold rd
  rw [List.getD_eq_getElem?_getD, List.getElem?_eq_getElem (by omega)]
  exact List.getElem_mem _
theorem mkPs_used (us : List Int) (A : List S30) : (mkPs us A).map (fun x => x.f0) = us := by
  apply List.ext_getElem
  · rw [List.length_map, mkPs_len]
  · intro i h1 h2
    rw [List.getElem_map, mkPs_get]
    show rd us (i : Int) = us[i]
    unfold rd
    rw [List.getD_eq_getElem?_getD, Int.toNat_natCast, List.getElem?_eq_getElem h2]
    rfl
theorem any_place (A : List S30) (p : Int) : A.any (fun t => t.f0 == p) = true ↔ p ∈ A.map (fun t => t.f0) := by
  rw [List.any_eq_true, List.mem_map]
  constructor
  · rintro ⟨t, ht, he⟩
    exact ⟨t, ht, by simpa using he⟩
  · rintro ⟨t, ht, he⟩
    exact ⟨t, ht, by simpa using he⟩
/-- As many places are marked as there are of them. -/
theorem mkPs_count (us : List Int) (B : List S30) (hn : (B.map (fun t => t.f0)).Nodup) (hr : ∀ t ∈ B, 0 ≤ t.f0 ∧ t.f0 < us.length) : ∀ j, j ≤ B.length → ((mkPs us (B.take j)).countP (fun x => x.f1) : Int) = j
  | 0, _ => by
    rw [List.take_zero, mkPs_nil]
    have : (us.map (fun x => (⟨x, false⟩ : S64))).countP (fun x => x.f1) = 0 := by
      apply List.countP_eq_zero.mpr
      intro x hx
      obtain ⟨y, _, rfl⟩ := List.mem_map.mp hx
      simp
    rw [this]
  | j + 1, h => by
    have ih := mkPs_count us B hn hr j (by omega)
    have hj : j < B.length := by omega
    obtain ⟨t, ht⟩ : ∃ t, rd_T30 B (j : Int) = t := ⟨_, rfl⟩
    have htj : B[j] = t := by
      rw [← ht]; unfold rd_T30; rw [List.getD_eq_getElem?_getD, Int.toNat_natCast, List.getElem?_eq_getElem hj]; rfl
    have htm : t ∈ B := by rw [← htj]; exact List.getElem_mem _
    have hrt := hr t htm
    have hnot : t.f0 ∉ (B.take j).map (fun t => t.f0) := by
      intro hc
      have e : B.map (fun t => t.f0) = (B.take j).map (fun t => t.f0) ++ (B.drop j).map (fun t => t.f0) := by rw [← List.map_append, List.take_append_drop]
      rw [e] at hn
      have hd : t.f0 ∈ (B.drop j).map (fun t => t.f0) := by
        rw [drop_cons30 B j hj, ht, List.map_cons]
        exact List.mem_cons_self
      exact (List.nodup_append.mp hn).2.2 _ hc _ hd rfl
    rw [take_snoc30 B j hj, ht, mkPs_step us _ t hrt.1 hrt.2]
    have hl : t.f0.toNat < (mkPs us (B.take j)).length := by rw [mkPs_len]; omega
    rw [SSt.count_set _ _ _ hl, ih, mkPs_get]
    have : (B.take j).any (fun x => x.f0 == ((t.f0.toNat : Nat) : Int)) = false := by
      rw [show ((t.f0.toNat : Nat) : Int) = t.f0 by omega]
      cases hb : (B.take j).any (fun x => x.f0 == t.f0) with
      | false => rfl
      | true => exact absurd ((any_place _ _).mp hb) hnot
    show (j : Int) - (if (B.take j).any (fun x => x.f0 == ((t.f0.toNat : Nat) : Int)) = true then 1 else 0) + (if true = true then 1 else 0) = ((j + 1 : Nat) : Int)
    rw [this]
    simp
theorem okP_len {m n : Int} {us fs : List Int} {A : List S30} (h : OkP m n us fs A) : fs.length + A.length ≤ us.length := by
  obtain ⟨c1, c2, ⟨c3, c3'⟩, ⟨c4, c4'⟩, c5⟩ := h
  have hn : ((A ++ fs.map (fun p => (⟨p, 0⟩ : S30))).map (fun t => t.f0)).Nodup := by
    rw [List.map_append, List.map_map]
    have : fs.map ((fun t => t.f0) ∘ fun p => (⟨p, 0⟩ : S30)) = fs := by
      have : ((fun (t : S30) => t.f0) ∘ fun p => (⟨p, 0⟩ : S30)) = id := rfl
      rw [this, List.map_id]
    rw [this]
    refine List.nodup_append.mpr ⟨c4, c3, ?_⟩
    rintro a ha b hb rfl
    obtain ⟨t, ht, rfl⟩ := List.mem_map.mp ha
    exact (c4' t ht).2.2.2 hb
  have := mkPs_count us _ hn (fun t ht => by
    rcases List.mem_append.mp ht with ht | ht
    · exact ⟨(c4' t ht).1, (c4' t ht).2.1⟩
    · obtain ⟨p, hp, rfl⟩ := List.mem_map.mp ht
      exact ⟨(c3' p hp).1, (c3' p hp).2.1⟩) _ (Nat.le_refl _)
  have h2 := List.countP_le_length (p := fun (x : S64) => x.f1) (l := mkPs us ((A ++ fs.map (fun p => (⟨p, 0⟩ : S30))).take (A ++ fs.map (fun p => (⟨p, 0⟩ : S30))).length))
  rw [mkPs_len] at h2
  simp at this h2
  omega
theorem okP_inv {m n : Int} {us fs : List Int} {A : List S30} (h : OkP m n us fs A) (hm : 0 ≤ m ∧ m ≤ 1024 ∧ 1 ≤ n ∧ n ≤ 65535) : (⟨m, n, mkPs us A, fs, A.length⟩ : SSt).Inv ∧ (⟨m, n, mkPs us A, fs, A.length⟩ : SSt).AliveOf A := by
  have hl := okP_len h
  obtain ⟨c1, c2, ⟨c3, c3'⟩, ⟨c4, c4'⟩, c5⟩ := h
  have hcnt := mkPs_count us A c4 (fun t ht => ⟨(c4' t ht).1, (c4' t ht).2.1⟩) A.length (Nat.le_refl _)
  rw [List.take_length] at hcnt
  refine ⟨⟨hm.1, hm.2.1, hm.2.2.1, hm.2.2.2, ?_, ?_, ?_, c3, ?_, ?_, ?_⟩, ⟨?_, c4, rfl⟩⟩
  · show ((mkPs us A).length : Int) ≤ m
    rw [mkPs_len]; exact c1
  · show (A.length : Int) = ((mkPs us A).countP (fun x => x.f1) : Nat)
    exact hcnt.symm
  · show (fs.length : Int) + (A.length : Int) ≤ ((mkPs us A).length : Nat)
    rw [mkPs_len]; omega
  · intro p hp
    have h3 := c3' p hp
    show 0 ≤ p ∧ p < ((mkPs us A).length : Nat) ∧ (rd_T64 (mkPs us A) p).f1 = false ∧ (rd_T64 (mkPs us A) p).f0 < n
    rw [mkPs_len, mkPs_rd us A p h3.1 h3.2.1]
    refine ⟨h3.1, h3.2.1, ?_, ?_⟩
    · show A.any (fun t => t.f0 == p) = false
      cases hb : A.any (fun t => t.f0 == p) with
      | false => rfl
      | true =>
        obtain ⟨t, ht, he⟩ := List.mem_map.mp ((any_place A p).mp hb)
        exact absurd (he ▸ hp) (c4' t ht).2.2.2
    · show rd us p < n
      have := c2 _ (rd_memI us p h3.1 h3.2.1)
      have := h3.2.2
      omega
  · intro x hx
    obtain ⟨k, hk, rfl⟩ := List.mem_iff_getElem.mp hx
    have hk' : k < us.length := by rw [mkPs_len] at hk; exact hk
    have := c2 _ (rd_memI us (k : Int) (by omega) (by omega))
    show 1 ≤ ((mkPs us A)[k]'hk).f0 ∧ ((mkPs us A)[k]'hk).f0 ≤ n
    rw [mkPs_get]
    exact this
  · intro p h0 h1 h2 h3
    have h1' : p < us.length := by have : p < ((mkPs us A).length : Nat) := h1; rwa [mkPs_len] at this
    have h2' : (rd_T64 (mkPs us A) p).f1 = false := h2
    have h3' : (rd_T64 (mkPs us A) p).f0 < n := h3
    rw [mkPs_rd us A p h0 h1'] at h2' h3'
    have h2'' : A.any (fun t => t.f0 == p) = false := h2'
    have h3'' : rd us p < n := h3'
    rcases c5 p h0 h1' (by omega) with h | h
    · exact h
    · rw [(any_place A p).mpr h] at h2''
      cases h2''
  · intro t
    show t ∈ A ↔ (decide (0 ≤ t.f0 ∧ t.f0 < ((mkPs us A).length : Nat) ∧ (rd_T64 (mkPs us A) t.f0).f1 = true) && (rd_T64 (mkPs us A) t.f0).f0 == t.f1) = true
    rw [mkPs_len]
    constructor
    · intro ht
      have h4 := c4' t ht
      rw [mkPs_rd us A _ h4.1 h4.2.1]
      have : A.any (fun x => x.f0 == t.f0) = true := (any_place A _).mpr (List.mem_map_of_mem ht)
      simp [h4.1, h4.2.1, h4.2.2.1, this]
    · intro h
      simp only [Bool.and_eq_true, decide_eq_true_eq, beq_iff_eq] at h
      obtain ⟨⟨h0, h1, h2⟩, h3⟩ := h
      rw [mkPs_rd us A _ h0 h1] at h2 h3
      obtain ⟨x, hx, he⟩ := List.mem_map.mp ((any_place A _).mp h2)
      have h4 := c4' x hx
      have h5 : rd us t.f0 = t.f1 := h3
      rw [← he, h4.2.2.1] at h5
      obtain ⟨a, b⟩ := t
      obtain ⟨c, d⟩ := x
      simp at he h5
      subst he h5
      exact hx
end Go.Proofs.Ytppbdjoikdldiaa.PSlabOf
