/- SoL: walks of the slab's functions. -/
import Derived.Test.YtppbdjoikdldiaaSoK
import Derived.Test.YtppbdjoikdldiaaSoB
namespace Go.Proofs.Ytppbdjoikdldiaa.PSlabOf
open Go.RowKit Go.Proofs.YtppbdjoikdldiaaW.PrintWords Go.Proofs.YtppbdjoikdldiaaW.PrintLast Go.Proofs.YtppbdjoikdldiaaW.PrintMore
set_option linter.unusedVariables false
set_option linter.unusedSimpArgs false
theorem ref_of_calls (m n : Int) (us fs : List Int) (A : List S30) (A2 A3 A4 : Option Addr) (c2 c3 c4 : Nat) (w : World)
    (hr2 : Kd.C (Kd.int .i64) w A2 us.length us) (hc2 : us.length ≤ c2) (hr3 : Kd.C (Kd.int .i64) w A3 fs.length fs) (hc3 : fs.length ≤ c3) (hr4 : Kd.C k30 w A4 A.length A) (hc4 : A.length ≤ c4) (hl2 : us.length ≤ 60) (hl3 : fs.length ≤ 60) (hl4 : A.length ≤ 60) :
    Calls Try.prog 22 #[.int .i64 m, .int .i64 n, .slice A2 us.length c2, .slice A3 fs.length c3, .slice A4 A.length c4] w fun e w' => RefEnd m n us fs A w e w' := by
  by_cases h : m < 0 ∨ 1024 < m ∨ n < 1 ∨ 65535 < n
  · exact ref_of_bad m n us fs A A2 A3 A4 c2 c3 c4 w h
  · exact ref_of_good m n us fs A A2 A3 A4 c2 c3 c4 w h hr2 hc2 hr3 hc3 hr4 hc4 hl2 hl3 hl4
/-- Both Ofs end with the same word. -/
theorem both_bad (m n : Int) (us fs : List Int) (A : List S30) (k : Int) (hk : ((m < 0 ∨ 1024 < m ∨ n < 1 ∨ 65535 < n) ∧ k = 1) ∨ (¬ (m < 0 ∨ 1024 < m ∨ n < 1 ∨ 65535 < n) ∧ okOf m n us fs A = false ∧ k = 2)) :
    (∀ w e w', OfEnd m n us fs A w e w' → e = .returned (.tuple #[.pointer none, .int .i64 k]) ∧ Below w.heap.size w w') ∧
    (∀ w e w', RefEnd m n us fs A w e w' → ∃ (x0 x1 : Int) (B2 B3 B4 : Option Addr) (n2 e2 n3 e3 n4 e4 : Nat), e = .returned (.tuple #[.agg #[.int .i64 x0, .int .i64 x1, .slice B2 n2 e2, .slice B3 n3 e3, .slice B4 n4 e4], .int .i64 k]) ∧ Below w.heap.size w w') := by
  refine ⟨?_, ?_⟩
  · rintro w e w' ⟨hb, (⟨h1, rfl⟩ | ⟨h1, h2, rfl⟩) | ⟨h1, h2, _⟩⟩
    · rcases hk with ⟨_, rfl⟩ | ⟨h, _⟩
      · exact ⟨rfl, hb⟩
      · exact absurd h1 h
    · rcases hk with ⟨h, _⟩ | ⟨_, _, rfl⟩
      · exact absurd h h1
      · exact ⟨rfl, hb⟩
    · rcases hk with ⟨h, _⟩ | ⟨_, h, _⟩
      · exact absurd h h1
      · rw [h2] at h; cases h
  · rintro w e w' ⟨x0, x1, B2, B3, B4, n2, e2, n3, e3, n4, e4, k', rfl, hb, ⟨h1, rfl⟩ | ⟨h1, h2, rfl⟩ | ⟨h1, h2, _⟩⟩
    · rcases hk with ⟨_, rfl⟩ | ⟨h, _⟩
      · exact ⟨x0, x1, B2, B3, B4, n2, e2, n3, e3, n4, e4, rfl, hb⟩
      · exact absurd h1 h
    · rcases hk with ⟨h, _⟩ | ⟨_, _, rfl⟩
      · exact absurd h h1
      · exact ⟨x0, x1, B2, B3, B4, n2, e2, n3, e3, n4, e4, rfl, hb⟩
    · rcases hk with ⟨h, _⟩ | ⟨_, h, _⟩
      · exact absurd h h1
      · have := (okOf_iff m n us fs A).mpr ((refOk_iff m n us fs A).mp h2)
        rw [this] at h; cases h
theorem both_good (m n : Int) (us fs : List Int) (A : List S30) (hb0 : ¬ (m < 0 ∨ 1024 < m ∨ n < 1 ∨ 65535 < n)) (hok : okOf m n us fs A = true) :
    (∀ w e w', OfEnd m n us fs A w e w' → ∃ g, e = .returned (.tuple #[.pointer (some ⟨g, 0, none⟩), .int .i64 0]) ∧ @SW ⟨fun _ => True, 0, fun _ _ => trivial⟩ w.heap.size w' g ⟨m, n, mkPs us A, fs, A.length⟩ ∧ Below w.heap.size w w') ∧
    (∀ w e w', RefEnd m n us fs A w e w' → ∃ (B2 B3 B4 : Option Addr) (e2 e3 e4 : Nat), e = .returned (.tuple #[.agg #[.int .i64 m, .int .i64 n, .slice B2 us.length e2, .slice B3 fs.length e3, .slice B4 A.length e4], .int .i64 0]) ∧ Below w.heap.size w w' ∧
      Kd.C (Kd.int .i64) w' B2 us.length us ∧ us.length ≤ e2 ∧ Kd.C (Kd.int .i64) w' B3 fs.length fs ∧ fs.length ≤ e3 ∧ Kd.C k30 w' B4 A.length A ∧ A.length ≤ e4) := by
  have hP := (okOf_iff m n us fs A).mp hok
  have hI := okP_inv hP (by omega)
  refine ⟨?_, ?_⟩
  · rintro w e w' ⟨hb, (⟨h1, rfl⟩ | ⟨h1, h2, rfl⟩) | ⟨h1, h2, g, vp, vf, rfl, hs⟩⟩
    · exact absurd h1 hb0
    · rw [hok] at h2; cases h2
    · exact ⟨g, rfl, ⟨⟨vp, vf, hs⟩, hI.1⟩, hb⟩
  · rintro w e w' ⟨x0, x1, B2, B3, B4, n2, e2, n3, e3, n4, e4, k', rfl, hb, ⟨h1, rfl⟩ | ⟨h1, h2, rfl⟩ | ⟨h1, h2, rfl, rfl, rfl, rfl, rfl, rfl, h3⟩⟩
    · exact absurd h1 hb0
    · exact absurd ((refOk_iff m n us fs A).mpr hP) h2
    · exact ⟨B2, B3, B4, e2, e3, e4, rfl, hb, h3⟩
abbrev ownT : Own := ⟨fun _ => True, 0, fun _ _ => trivial⟩
theorem SW.setOther {base : Nat} {w : World} {g : Nat} {S : SSt} (h : @SW ownT base w g S) {b : Nat} {cs : Array Value} (hb : w.heap[b]? = some (.cells cs 30 (0, 0))) (j : Nat) (u : Value) : @SW ownT base (w.setCell ⟨b, j, none⟩ u) g S := by
  obtain ⟨⟨vp, vf, hs⟩, hi⟩ := h
  exact ⟨⟨vp, vf, (Below.heap_setCell w ⟨b, j, none⟩ u g (blk_ne hs.1 hb (by decide))).trans hs.1, hs.2.1, Kd.R_set hs.2.2.1 hb (by decide) j u, Kd.R_set hs.2.2.2.1 hb (by decide) j u, trivial, Nat.zero_le _⟩, hi⟩
theorem alike_of (base g : Nat) (m n : Int) (us fs : List Int) (A : List S30) (B2 B3 B4 : Option Addr) (e2 e3 e4 : Nat) (p q : Int) (w : World) (h : @SW ownT base w g ⟨m, n, mkPs us A, fs, A.length⟩) (hA : (⟨m, n, mkPs us A, fs, A.length⟩ : SSt).AliveOf A)
    (h2 : Kd.C (Kd.int .i64) w B2 us.length us) (c2 : us.length ≤ e2) (h3 : Kd.C (Kd.int .i64) w B3 fs.length fs) (c3 : fs.length ≤ e3) (h4 : Kd.C k30 w B4 A.length A) (c4 : A.length ≤ e4) :
    Calls Try.prog 23 #[.pointer (some ⟨g, 0, none⟩), .agg #[.int .i64 m, .int .i64 n, .slice B2 us.length e2, .slice B3 fs.length e3, .slice B4 A.length e4], .agg #[.int .i64 p, .int .i64 q]] w fun e w' => e = .returned (.bool true) ∧ Below w.heap.size w w' := by
  have e : (⟨m, n, mkPs us A, fs, A.length⟩ : SSt).used = us := mkPs_used us A
  have := @alike_st ownT base g ⟨m, n, mkPs us A, fs, A.length⟩ A B2 B3 B4 e2 e3 e4 p q w h hA (by rw [e]; exact h2) (by rw [e]; exact c2) h3 c3 h4 c4
  rw [e] at this
  exact this
set_option maxHeartbeats 8000000 in
set_option maxRecDepth 100000 in
theorem of_law (m n : Int) (A2 : Option Addr) (c2 : Nat) (us : List Int) (A3 : Option Addr) (c3 : Nat) (fs : List Int) (A4 : Option Addr) (c4 : Nat) (A : List S30) (w : World)
    (hr2 : Kd.C (Kd.int .i64) w A2 us.length us) (hc2 : us.length ≤ c2) (hr3 : Kd.C (Kd.int .i64) w A3 fs.length fs) (hc3 : fs.length ≤ c3) (hr4 : Kd.C k30 w A4 A.length A) (hc4 : A.length ≤ c4) :
    Calls Try.prog 8 #[.int .i64 m, .int .i64 n, .slice A2 us.length c2, .slice A3 fs.length c3, .slice A4 A.length c4] w fun e w' => e = .returned (.bool true) ∧ Below w.heap.size w w' := by
  have hu30 := Try.underlying30
  have hu44 := Try.underlying44
  have HR2 := Aside0.mk hr2
  have HR3 := Aside0.mk hr3
  have HR4 := Aside0.mk hr4
  clear hr2 hr3 hr4
  go_enter Try.func8, Try.ntmps8
  go_upto_region 4 with (first | (go_at_call 9; refine (works_calls _).mono ?_; rintro e w1 ⟨rfl, hb⟩; have HB1 := Aside0.mk hb; clear hb))
  by_cases hl2 : 60 < us.length
  · have hlen : (60 : Int) < (us.length : Int) := by omega
    go_wp2
    go_ret
    exact ⟨rfl, HB1.out⟩
  have hlen2 : ¬ (60 : Int) < (us.length : Int) := by omega
  by_cases hl3 : 60 < fs.length
  · have hlen : (60 : Int) < (fs.length : Int) := by omega
    go_wp2
    go_ret
    exact ⟨rfl, HB1.out⟩
  have hlen3 : ¬ (60 : Int) < (fs.length : Int) := by omega
  by_cases hl4 : 60 < A.length
  · have hlen : (60 : Int) < (A.length : Int) := by omega
    go_wp2
    go_ret
    exact ⟨rfl, HB1.out⟩
  have hlen4 : ¬ (60 : Int) < (A.length : Int) := by omega
  have HOF := Aside0.mk (fun (W : World) (hB : Below w.heap.size w W) => of_calls m n us fs A A2 A3 A4 c2 c3 c4 W (Kd.C_below HR2.out hB) hc2 (Kd.C_below HR3.out hB) hc3 (Kd.C_below HR4.out hB) hc4 (by omega) (by omega) (by omega))
  have HRF := Aside0.mk (fun (W : World) (hB : Below w.heap.size w W) => ref_of_calls m n us fs A A2 A3 A4 c2 c3 c4 W (Kd.C_below HR2.out hB) hc2 (Kd.C_below HR3.out hB) hc3 (Kd.C_below HR4.out hB) hc4 (by omega) (by omega) (by omega))
  by_cases hgood : ¬ (m < 0 ∨ 1024 < m ∨ n < 1 ∨ 65535 < n) ∧ okOf m n us fs A = true
  rotate_left
  · obtain ⟨k, hk, hk0⟩ : ∃ k : Int, (((m < 0 ∨ 1024 < m ∨ n < 1 ∨ 65535 < n) ∧ k = 1) ∨ (¬ (m < 0 ∨ 1024 < m ∨ n < 1 ∨ 65535 < n) ∧ okOf m n us fs A = false ∧ k = 2)) ∧ (k = 1 ∨ k = 2) := by
      by_cases h : m < 0 ∨ 1024 < m ∨ n < 1 ∨ 65535 < n
      · exact ⟨1, .inl ⟨h, rfl⟩, .inl rfl⟩
      · refine ⟨2, .inr ⟨h, ?_, rfl⟩, .inr rfl⟩
        cases ho : okOf m n us fs A with
        | false => rfl
        | true => exact absurd ⟨h, ho⟩ hgood
    obtain ⟨b1, b2⟩ := both_bad m n us fs A k hk
    have H1 := Aside0.mk b1
    have H2 := Aside0.mk b2
    have kne : (k != 0) = true := by rcases hk0 with rfl | rfl <;> rfl
    clear hgood hk b1 b2
    go_upto_region 7 with (first | (go_at_call 21; refine (HOF.out _ HB1.out).mono ?_; intro e w2 h; (obtain ⟨rfl, hb⟩ := H1.out _ _ _ h); have HB2 := Aside0.mk (below_step HB1.out hb); clear h hb))
    go_upto_region 8 with (first | (go_at_call 22; refine (HRF.out _ HB2.out).mono ?_; intro e w3 h; (obtain ⟨x0, x1, B2, B3, B4, n2, e2, n3, e3, n4, e4, rfl, hb⟩ := H2.out _ _ _ h); have HB3 := Aside0.mk (below_step HB2.out hb); clear h hb))
    go_wp2
    go_ret
    exact ⟨rfl, below_step HB3.out (below_al _ _)⟩
  · obtain ⟨b1, b2⟩ := both_good m n us fs A hgood.1 hgood.2
    have H1 := Aside0.mk b1
    have H2 := Aside0.mk b2
    have HIA := Aside0.mk (okP_inv ((okOf_iff m n us fs A).mp hgood.2) (by omega))
    clear hgood b1 b2
    go_upto_region 7 with (first | (go_at_call 21; refine (HOF.out _ HB1.out).mono ?_; intro e w2 h; (obtain ⟨g, rfl, hs, hb⟩ := H1.out _ _ _ h); have HS2 := Aside0.mk hs; have HB2 := Aside0.mk (below_step HB1.out hb); clear h hs hb))
    go_upto_region 8 with (first | (go_at_call 22; refine (HRF.out _ HB2.out).mono ?_; intro e w3 h; (obtain ⟨B2, B3, B4, e2, e3, e4, rfl, hb, h2, h2', h3, h3', h4, h4'⟩ := H2.out _ _ _ h); have K2 := Aside0.mk h2; have K3 := Aside0.mk h3; have K4 := Aside0.mk h4; have HB3 := Aside0.mk (below_step HB2.out hb); have HS3 := Aside0.mk (@SW.below ⟨fun _ => True, 0, fun _ _ => trivial⟩ _ _ _ _ _ HS2.out hb); clear h hb h2 h3 h4))
    have L4 := Aside0.mk (below_al w3 (Obj.cells #[.int .i64 m, .int .i64 n, .slice B2 us.length e2, .slice B3 fs.length e3, .slice B4 A.length e4] 44))
    have X1 := Aside0.mk (heap_alloc_new w3 (Obj.cells #[.int .i64 m, .int .i64 n, .slice B2 us.length e2, .slice B3 fs.length e3, .slice B4 A.length e4] 44))
    generalize w3.alloc (Obj.cells #[.int .i64 m, .int .i64 n, .slice B2 us.length e2, .slice B3 fs.length e3, .slice B4 A.length e4] 44) = w4 at L4 X1 ⊢
    generalize hb14 : w3.heap.size = b14 at X1 ⊢
    go_upto_region 11 with (fail)
    have L5 := Aside0.mk (below_step L4.out (below_al w4 (Obj.cells #[Value.int .i64 0, Value.int .i64 0] 30)))
    have X15 := Aside0.mk (blk_keep X1.out (below_al w4 (Obj.cells #[Value.int .i64 0, Value.int .i64 0] 30)))
    have X2 := Aside0.mk (heap_alloc_new w4 (Obj.cells #[Value.int .i64 0, Value.int .i64 0] 30))
    have G16 := Aside0.mk (show w3.heap.size ≤ w4.heap.size from by have := L4.out.size; omega)
    generalize w4.alloc (Obj.cells #[Value.int .i64 0, Value.int .i64 0] 30) = w5 at L5 X15 X2 ⊢
    generalize w4.heap.size = b16 at X2 G16 ⊢
    have HS5 := Aside0.mk (@SW.below ownT _ _ _ _ _ HS3.out L5.out)
    clear X1 L4
    have HB5 := Aside0.mk (show Below w3.heap.size w3 w5 from L5.out)
    clear L5 hb14
    have t0 := (blk_cell X15.out 0).trans (show _ = some (Value.int .i64 m) from rfl)
    have t1 := (blk_cell X15.out 1).trans (show _ = some (Value.int .i64 n) from rfl)
    have t2 := (blk_cell X15.out 2).trans (show _ = some (Value.slice B2 us.length e2) from rfl)
    have t3 := (blk_cell X15.out 3).trans (show _ = some (Value.slice B3 fs.length e3) from rfl)
    have t4 := (blk_cell X15.out 4).trans (show _ = some (Value.slice B4 A.length e4) from rfl)
    have r0 := (blk_cell X2.out 0).trans (show _ = some (Value.int .i64 0) from rfl)
    have r1 := (blk_cell X2.out 1).trans (show _ = some (Value.int .i64 0) from rfl)
    by_cases hA : 0 < A.length
    · have hA2 : (0 : Int) < (A.length : Int) := by omega
      obtain ⟨ad4, hA4, z0, z1⟩ := at_T30 (Kd.C_below HR4.out (HB3.out.trans (Below.mono HB5.out HB3.out.size))) 0 (by omega) hA2
      obtain ⟨x, hx⟩ : ∃ x, rd_T30 A 0 = x := ⟨_, rfl⟩
      rw [hx] at z0 z1
      simp only [Int.toNat_zero, Nat.zero_mul] at z0 z1
      rw [show ad4.add 0 = ad4 from rfl] at z0 z1
      clear hx
      subst hA4
      have rz0 := blk_frozen X2.out 0
      have rz1 := blk_frozen X2.out 1
      go_upto_region 13 with (fail)
      have HS6 := Aside0.mk (SW.setOther (SW.setOther HS5.out X2.out 0 (.int .i64 x.f0)) (blk_set X2.out 0 (.int .i64 x.f0)) 1 (.int .i64 x.f1))
      have X16 := Aside0.mk ((Below.heap_setCell (w5.setCell ⟨b16, 0, none⟩ (.int .i64 x.f0)) ⟨b16, 1, none⟩ (.int .i64 x.f1) b14 (blk_ne X15.out X2.out (by decide))).trans ((Below.heap_setCell w5 ⟨b16, 0, none⟩ (.int .i64 x.f0) b14 (blk_ne X15.out X2.out (by decide))).trans X15.out))
      have X26 := Aside0.mk (show ((w5.setCell ⟨b16, 0, none⟩ (.int .i64 x.f0)).setCell ⟨b16, 1, none⟩ (.int .i64 x.f1)).heap[b16]? = some (.cells #[.int .i64 x.f0, .int .i64 x.f1] 30 (0, 0)) from blk_put (cs := #[.int .i64 x.f0, .int .i64 0]) (blk_put X2.out 0 _ rfl) 1 _ rfl)
      have HB6 := Aside0.mk (Below.setCell (Below.setCell HB5.out (p := ⟨b16, 0, none⟩) G16.out (.int .i64 x.f0)) (p := ⟨b16, 1, none⟩) G16.out (.int .i64 x.f1))
      generalize (w5.setCell ⟨b16, 0, none⟩ (.int .i64 x.f0)).setCell ⟨b16, 1, none⟩ (.int .i64 x.f1) = w6 at HS6 X16 X26 HB6 ⊢
      clear t0 t1 t2 t3 t4 r0 r1 rz0 rz1 HS5 X15 X2 HB5 z0 z1
      have t0 := (blk_cell X16.out 0).trans (show _ = some (Value.int .i64 m) from rfl)
      have t1 := (blk_cell X16.out 1).trans (show _ = some (Value.int .i64 n) from rfl)
      have t2 := (blk_cell X16.out 2).trans (show _ = some (Value.slice B2 us.length e2) from rfl)
      have t3 := (blk_cell X16.out 3).trans (show _ = some (Value.slice B3 fs.length e3) from rfl)
      have t4 := (blk_cell X16.out 4).trans (show _ = some (Value.slice B4 A.length e4) from rfl)
      have r0 := (blk_cell X26.out 0).trans (show _ = some (Value.int .i64 x.f0) from rfl)
      have r1 := (blk_cell X26.out 1).trans (show _ = some (Value.int .i64 x.f1) from rfl)
      have HAL := Aside0.mk (alike_of _ g m n us fs A B2 B3 B4 e2 e3 e4 x.f0 x.f1 w6 HS6.out HIA.out.2 (Kd.C_below K2.out HB6.out) h2' (Kd.C_below K3.out HB6.out) h3' (Kd.C_below K4.out HB6.out) h4')
      go_wp2_with (first | (go_at_call 23; refine HAL.out.mono ?_; rintro e w7 ⟨rfl, hb⟩; have HB7 := Aside0.mk hb; clear hb))
      go_ret
      exact ⟨rfl, below_step (HB3.out.trans (Below.mono HB6.out HB3.out.size)) HB7.out⟩
    · have hA2 : ¬ (0 : Int) < (A.length : Int) := by omega
      have HAL := Aside0.mk (alike_of _ g m n us fs A B2 B3 B4 e2 e3 e4 0 0 w5 HS5.out HIA.out.2 (Kd.C_below K2.out HB5.out) h2' (Kd.C_below K3.out HB5.out) h3' (Kd.C_below K4.out HB5.out) h4')
      go_wp2_with (first | (go_at_call 23; refine HAL.out.mono ?_; rintro e w7 ⟨rfl, hb⟩; have HB7 := Aside0.mk hb; clear hb))
      go_ret
      exact ⟨rfl, below_step (HB3.out.trans (Below.mono HB5.out HB3.out.size)) HB7.out⟩
end Go.Proofs.Ytppbdjoikdldiaa.PSlabOf
