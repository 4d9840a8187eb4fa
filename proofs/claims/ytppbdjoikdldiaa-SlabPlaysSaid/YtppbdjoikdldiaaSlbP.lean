/- SlbP: walks of the slab's functions. -/
import Derived.Test.YtppbdjoikdldiaaSpG
namespace Go.Proofs.Ytppbdjoikdldiaa.PSlabPlays
open Go.RowKit Go.Proofs.YtppbdjoikdldiaaW.PrintWords Go.Proofs.YtppbdjoikdldiaaW.PrintLast Go.Proofs.YtppbdjoikdldiaaW.PrintMore
set_option linter.unusedVariables false
set_option linter.unusedSimpArgs false
theorem SW.reown2 {o1 o2 : Own} {base : Nat} {w w' : World} {g : Nat} {S : SSt} (h : @SW o1 base w g S) (hb : Below w.heap.size w w') (hq : ∀ k, k < w.heap.size → o2.Q k) (hn : o2.N ≤ w'.heap.size) : @SW o2 base w' g S := by
  obtain ⟨⟨vp, vf, hs⟩, hi⟩ := h
  exact ⟨⟨vp, vf, (hb.block g (blk_lt hs.1)).trans hs.1, hs.2.1, Kd.R_below (Kd.R_mono (Kd.R_bound hs.2.2.1) (fun k hk => hq k hk.2.2.1)) hb, Kd.R_below (Kd.R_mono (Kd.R_bound hs.2.2.2.1) (fun k hk => hq k hk.2.2.1)) hb, hq g (blk_lt hs.1), hn⟩, hi⟩
theorem new_f_bad (m n : Int) (h : m < 0 ∨ 1024 < m ∨ n < 1 ∨ 65535 < n) : complineref05_New.f m n = some (0, 0, [], [], [], 1) := by
  unfold complineref05_New.f
  split
  · rfl
  split
  · rfl
  split
  · rfl
  split
  · rfl
  · omega
theorem new_f_ok (m n : Int) (h : 0 ≤ m ∧ m ≤ 1024 ∧ 1 ≤ n ∧ n ≤ 65535) : complineref05_New.f m n = some (m, n, [], [], [], 0) := by
  unfold complineref05_New.f
  rw [if_neg (by omega), if_neg (by omega), if_neg (by omega), if_neg (by omega)]
theorem new_alive (m n : Int) : (SSt.new m n).AliveOf [] := by
  refine ⟨fun t => ?_, List.nodup_nil, rfl⟩
  constructor
  · intro h; cases h
  · intro h
    have := SSt.alive_parts h
    have h2 := this.2.1
    simp [SSt.new] at h2
    omega
attribute [local go_sem high] eqA30
set_option maxHeartbeats 8000000 in
set_option maxRecDepth 100000 in
theorem plays_law (m n : Int) (a : Option Addr) (cap : Nat) (l : List S32) (w : World) (hr : Kd.C k32 w a l.length l) (hc : l.length ≤ cap) : Calls Try.prog 6 #[.int .i64 m, .int .i64 n, .slice a l.length cap] w fun e w' => e = .returned (.bool true) ∧ Below w.heap.size w w' := by
  have hu30 := Try.underlying30
  have hu32 := Try.underlying32
  have hu44 := Try.underlying44
  have HR := Aside0.mk hr
  clear hr
  go_enter Try.func6, Try.ntmps6
  go_upto_region 4 with (first | (go_at_call 9; refine (works_calls _).mono ?_; rintro e w1 ⟨rfl, hb⟩; have HB1 := Aside0.mk hb; clear hb))
  by_cases hlen : 60 < l.length
  · have hlen2 : (60 : Int) < (l.length : Int) := by omega
    go_wp2
    go_ret
    exact ⟨rfl, HB1.out⟩
  have hlen2 : ¬ (60 : Int) < (l.length : Int) := by omega
  by_cases hbad : m < 0 ∨ 1024 < m ∨ n < 1 ∨ 65535 < n
  · have hf := new_f_bad m n hbad
    have HN := Aside0.mk (fun W => complineref05_New.calls m n 0 0 [] [] [] 1 W hf)
    go_wp2_with (first | (go_at_call 10; refine (new_bad 0 m n _ hbad).mono ?_; rintro e w2 ⟨rfl, ⟨nd, rfl⟩⟩) | (go_at_call 18; refine (HN.out _).mono ?_; rintro e w3 ⟨x2, x3, x4, rfl, h2, h3, h4, hb⟩; (obtain ⟨B2, e2, rfl⟩ := Kd.R_slice h2); (obtain ⟨B3, e3, rfl⟩ := Kd.R_slice h3); (obtain ⟨B4, e4, rfl⟩ := Kd.R_slice h4); have HB3 := Aside0.mk (below_step (pw_below_drewN HB1.out nd) hb); clear h2 h3 h4 hb))
    go_ret
    exact ⟨rfl, below_step HB3.out (below_al _ _)⟩
  have h1 : 0 ≤ m ∧ m ≤ 1024 ∧ 1 ≤ n ∧ n ≤ 65535 := by omega
  clear hbad
  have HN := Aside0.mk (fun W => complineref05_New.calls m n m n [] [] [] 0 W (new_f_ok m n h1))
  go_upto_region 7 with (first | (go_at_call 10; refine (@new_st ⟨fun _ => True, 0, fun _ _ => trivial⟩ m n _ h1.1 h1.2.1 h1.2.2.1 h1.2.2.2 (Nat.zero_le _)).mono ?_; rintro e w2 ⟨g, rfl, hs, hb⟩; have HS2 := Aside0.mk hs; have HB2 := Aside0.mk hb; clear hs hb))
  go_upto_region 8 with (first | (go_at_call 18; refine (HN.out _).mono ?_; rintro e w3 ⟨x2, x3, x4, rfl, h2, h3, h4, hb⟩; (obtain ⟨B2, e2, rfl⟩ := Kd.R_slice h2); (obtain ⟨B3, e3, rfl⟩ := Kd.R_slice h3); (obtain ⟨B4, e4, rfl⟩ := Kd.R_slice h4); have H2 := Aside0.mk h2; have H3 := Aside0.mk h3; have H4 := Aside0.mk h4; have HB3 := Aside0.mk hb; clear h2 h3 h4 hb))
  have ge2 : ∀ k, some k = (Value.slice B2 ([] : List Int).length e2).ownBlock → w2.heap.size ≤ k := fun k e => Kd.R_base H2.out k e.symm
  have ge3 : ∀ k, some k = (Value.slice B3 ([] : List Int).length e3).ownBlock → w2.heap.size ≤ k := fun k e => Kd.R_base H3.out k e.symm
  have ge4 : ∀ k, some k = (Value.slice B4 ([] : List S30).length e4).ownBlock → w2.heap.size ≤ k := fun k e => Kd.R_base H4.out k e.symm
  have f2 : Fl (Kd.int .i64) 3 w1.heap.size w3 (Value.slice B2 ([] : List Int).length e2) (SSt.new m n).used := flat_int (Kd.R_lower H2.out HB2.out.size)
  have f3 : Fl (Kd.int .i64) 3 w1.heap.size w3 (Value.slice B3 ([] : List Int).length e3) (SSt.new m n).fs := flat_int (Kd.R_lower H3.out HB2.out.size)
  have f4 : Fl k30 30 w1.heap.size w3 (Value.slice B4 ([] : List S30).length e4) [] := flat_30 (Kd.R_lower H4.out HB2.out.size)
  have top : ∀ k, w3.heap.size ≤ k → some k ≠ (Value.slice B2 ([] : List Int).length e2).ownBlock ∧ some k ≠ (Value.slice B3 ([] : List Int).length e3).ownBlock ∧ some k ≠ (Value.slice B4 ([] : List S30).length e4).ownBlock := fun k hk => ⟨fun e => by have := f2.lt e; omega, fun e => by have := f3.lt e; omega, fun e => by have := f4.lt e; omega⟩
  have HP3 : PlF w1.heap.size g (SSt.new m n) (SSt.new m n) [] [] (Value.slice B2 ([] : List Int).length e2) (Value.slice B3 ([] : List Int).length e3) (Value.slice B4 ([] : List S30).length e4) (.slice none 0 0) w3 := by
    refine ⟨f2, f3, f4, fun k e => H2.out.1 k e.symm, Kd.R_nil _ _ _ _ _, (fun k e => by cases e), new_alive m n, HS2.out.2, top, ?_⟩
    exact SW.reown2 HS2.out HB3.out (fun k hk => ⟨fun e => by have := ge2 k e; omega, fun e => by have := ge3 k e; omega, fun e => by have := ge4 k e; omega⟩) (Nat.le_refl _)
  clear ge2 ge3 ge4 f2 f3 f4 top H2 H3 H4 HN
  have HB4 := Aside0.mk (below_step (below_step HB2.out HB3.out) (below_al w3 (Obj.cells #[Value.int IntKind.i64 m, Value.int IntKind.i64 n, Value.slice B2 0 e2, Value.slice B3 0 e3, Value.slice B4 0 e4] 44)))
  have HP4 := Aside0.mk (PlF.below HP3 (below_al w3 (Obj.cells #[Value.int IntKind.i64 m, Value.int IntKind.i64 n, Value.slice B2 0 e2, Value.slice B3 0 e3, Value.slice B4 0 e4] 44)))
  have X1 := Aside0.mk (heap_alloc_new w3 (Obj.cells #[Value.int IntKind.i64 m, Value.int IntKind.i64 n, Value.slice B2 0 e2, Value.slice B3 0 e3, Value.slice B4 0 e4] 44))
  clear HP3
  generalize (w3.alloc (Obj.cells #[Value.int IntKind.i64 m, Value.int IntKind.i64 n, Value.slice B2 0 e2, Value.slice B3 0 e3, Value.slice B4 0 e4] 44)) = w4 at HB4 HP4 X1 ⊢
  generalize w3.heap.size = b10 at X1 ⊢
  have HPL := play_st w1 g (SSt.new m n) [] [] _ _ _ _ a cap l w4 HP4.out HB4.out (fun W hb => Kd.C_below HR.out (HB1.out.trans (Below.mono hb HB1.out.size))) (by omega) (by decide)
  change Calls Try.prog 19 #[.pointer (some ⟨g, 0, none⟩), .agg #[.int .i64 m, .int .i64 n, .slice B2 0 e2, .slice B3 0 e3, .slice B4 0 e4], .slice a l.length cap, .slice none 0 0] w4 _ at HPL
  have HPL := Aside0.mk HPL
  have t0 := (blk_cell X1.out 0).trans (show _ = some (Value.int .i64 m) from rfl)
  have t1 := (blk_cell X1.out 1).trans (show _ = some (Value.int .i64 n) from rfl)
  have t2 := (blk_cell X1.out 2).trans (show _ = some (Value.slice B2 0 e2) from rfl)
  have t3 := (blk_cell X1.out 3).trans (show _ = some (Value.slice B3 0 e3) from rfl)
  have t4 := (blk_cell X1.out 4).trans (show _ = some (Value.slice B4 0 e4) from rfl)
  go_wp2_with (first | (go_at_call 19; refine HPL.out.mono ?_; rintro e w5 ⟨S', A', T', u2, u3, u4, tv', rfl, hp, hb, hx1, hx2, hx3⟩; (obtain ⟨C2, d2, rfl, _⟩ := hp.r2.Ci); (obtain ⟨C3, d3, rfl, _⟩ := hp.r3.Ci); (obtain ⟨C4, d4, rfl, _⟩ := hp.r4.C30); (obtain ⟨C5, d5, rfl, _⟩ := hp.t.C30); have HB5 := Aside0.mk hb; clear hp hb hx1 hx2 hx3))
  go_ret
  exact ⟨rfl, HB1.out.trans (Below.mono (below_step HB5.out (below_al _ _)) HB1.out.size)⟩
end Go.Proofs.Ytppbdjoikdldiaa.PSlabPlays
