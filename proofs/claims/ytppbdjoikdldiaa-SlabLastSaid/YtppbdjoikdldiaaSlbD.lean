/- SlbD: walks of the slab's functions. -/
import Derived.Test.YtppbdjoikdldiaaSlbC
namespace Go.Proofs.Ytppbdjoikdldiaa.PSlabFresh
open Go.RowKit Go.Proofs.YtppbdjoikdldiaaW.PrintWords Go.Proofs.YtppbdjoikdldiaaW.PrintLast Go.Proofs.YtppbdjoikdldiaaW.PrintMore
set_option linter.unusedVariables false
set_option linter.unusedSimpArgs false
namespace SSt
def wear (n : Int) (i : Nat) : SSt := if i = 0 then SSt.new 1 n else ⟨1, n, [⟨i, false⟩], if (i : Int) < n then [0] else [], 0⟩
theorem wear_step (n : Int) (i : Nat) (h : (i : Int) < n) : (wear n i).takeP = 0 ∧ (wear n i).takeG = i + 1 ∧ (wear n i).takeE = 0 ∧ (wear n i).take.freeE 0 (i + 1) = 0 ∧ (wear n i).take.free 0 (i + 1) = wear n (i + 1) := by
  by_cases h0 : i = 0
  · subst h0
    have e : wear n 0 = ⟨1, n, [], [], 0⟩ := rfl
    have ef : ¬ (wear n 0).full := by rw [e]; simp [full]
    have et : (wear n 0).take = ⟨1, n, [⟨1, true⟩], [], 1⟩ := by unfold take; rw [if_neg ef, e]; rfl
    refine ⟨?_, ?_, ?_, ?_, ?_⟩
    · unfold takeP; rw [if_neg ef, e]; rfl
    · unfold takeG; rw [if_neg ef, e]; rfl
    · unfold takeE; rw [if_neg ef]
    · rw [et]; rfl
    · rw [et]
      have : (⟨1, n, [⟨1, true⟩], [], 1⟩ : SSt).free 0 1 = ⟨1, n, [⟨1, false⟩], if (1 : Int) < n then [0] else [], 0⟩ := rfl
      rw [show ((0 : Nat) : Int) + 1 = 1 from rfl, this]
      rfl
  · have e : wear n i = ⟨1, n, [⟨i, false⟩], [0], 0⟩ := by unfold wear; rw [if_neg h0, if_pos h]
    have ef : ¬ (wear n i).full := by rw [e]; simp [full]
    have et : (wear n i).take = ⟨1, n, [⟨(i : Int) + 1, true⟩], [], 1⟩ := by unfold take; rw [if_neg ef, e]; rfl
    refine ⟨?_, ?_, ?_, ?_, ?_⟩
    · unfold takeP; rw [if_neg ef, e]; rfl
    · unfold takeG; rw [if_neg ef, e]; rfl
    · unfold takeE; rw [if_neg ef]
    · rw [et]; unfold freeE; rw [if_pos]; simp [isAlive, rd_T64]
    · rw [et]
      unfold free
      rw [if_pos (by simp [isAlive, rd_T64])]
      unfold wear
      rw [if_neg (show ¬ (i + 1 = 0) by omega)]
      show (⟨1, n, [⟨(i : Int) + 1, false⟩], if (i : Int) + 1 < n then [0] else [], 0⟩ : SSt) = ⟨1, n, [⟨((i + 1 : Nat) : Int), false⟩], if ((i + 1 : Nat) : Int) < n then [0] else [], 0⟩
      rw [Int.natCast_add]
      rfl
theorem wear_end (n : Int) (i : Nat) (h : (i : Int) = n) (h1 : 1 ≤ n) : (wear n i).takeE = 6 ∧ (wear n i).take.worn = 1 := by
  have e : wear n i = ⟨1, n, [⟨i, false⟩], [], 0⟩ := by unfold wear; rw [if_neg (by omega), if_neg (by omega)]
  have ef : (wear n i).full := by rw [e]; simp [full]
  refine ⟨by unfold takeE; rw [if_pos ef], ?_⟩
  unfold take
  rw [if_pos ef, e]
  rfl
end SSt
attribute [local go_sem high] eqA30
set_option maxHeartbeats 4000000 in
set_option maxRecDepth 100000 in
theorem wears_calls (n : Int) (w : World) : Calls Try.prog 5 #[.int .i64 n] w fun e w' => e = .returned (.bool true) ∧ Below w.heap.size w w' := by
  have hu30 := Try.underlying30
  go_enter Try.func5, Try.ntmps5
  go_upto_region 4 with (first | (go_at_call 9; refine (works_calls _).mono ?_; rintro e w1 ⟨rfl, hb⟩; have HB1 := Aside0.mk hb; clear hb))
  by_cases hbad : n < 1 ∨ 65535 < n
  · go_wp2_with (first | (go_at_call 10; refine (new_bad 0 1 n _ (by omega)).mono ?_; rintro e w2 ⟨rfl, ⟨nd, rfl⟩⟩))
    go_ret
    exact ⟨rfl, pw_below_drewN HB1.out nd⟩
  · have h1 : 1 ≤ n := by omega
    have h2 : n ≤ 65535 := by omega
    clear hbad
    go_upto_region 7 with (first | (go_at_call 10; refine (new_st 1 n _ (by omega) (by omega) h1 h2).mono ?_; rintro e w2 ⟨g, rfl, hs, hb⟩; have HS2 := Aside0.mk hs; have HB2 := Aside0.mk hb; clear hs hb))
    · go_ret
      exact ⟨rfl, HB1.out.trans (Below.mono HB2.out HB1.out.size)⟩
    rename_i hn
    have hNn : ((n.toNat : Nat) : Int) = n := by omega
    have HBB := Aside0.mk (HB1.out.trans (Below.mono HB2.out HB1.out.size))
    go_wp2
    go_loopg [6] n.toNat (fun gf i wr => ∃ k : Nat, i = .int .i64 ((k : Int) + 1) ∧ k + gf = n.toNat ∧ Aside0 (SW w1.heap.size wr g (SSt.wear n k)) ∧ Aside0 (Below w1.heap.size w1 wr))
    case atStart =>
      exact ⟨0, rfl, by omega, HS2, HB2⟩
    case round =>
      obtain ⟨k, rfl, hk, HS, HB⟩ := hrel
      by_cases hlt : (k : Int) < n
      · obtain ⟨g', rfl⟩ : ∃ g', gk = g' + 1 := ⟨gk - 1, by omega⟩
        obtain ⟨f1, f2, f3, f4, f5⟩ := SSt.wear_step n k hlt
        have hle : decide ((k : Int) + 1 ≤ n) = true := decide_eq_true (by omega)
        have hw : IntKind.i64.wrap ((k : Int) + 1 + 1) = (k : Int) + 1 + 1 := wrap_ok _ (by omega) (by omega)
        have HT := Aside0.mk (take_st w1.heap.size g _ wr HS.out HB.out.size)
        rw [f1, f2, f3] at HT
        have F4 := Aside0.mk f4
        have F5 := Aside0.mk f5
        clear f1 f2 f3 f4 f5
        go_upto_region 11 with (first | (go_at_call 13; refine HT.out.mono ?_; rintro e w3 ⟨rfl, hs, hb, hst, hsz⟩; have HS3 := Aside0.mk hs; have HB3 := Aside0.mk (HB.out.trans hb); clear hs hb hst hsz))
        have C1 := Aside0.mk (heap_alloc_new w3 (Obj.cells #[Value.int IntKind.i64 0, Value.int IntKind.i64 ((k : Int) + 1)] 30))
        have HS4 := Aside0.mk (SW.alloc HS3.out (Obj.cells #[Value.int IntKind.i64 0, Value.int IntKind.i64 ((k : Int) + 1)] 30))
        have HB4 := Aside0.mk (Below.alloc HB3.out HB3.out.size (Obj.cells #[Value.int IntKind.i64 0, Value.int IntKind.i64 ((k : Int) + 1)] 30))
        obtain ⟨c, hcc⟩ : ∃ c, w3.heap.size = c := ⟨_, rfl⟩
        rw [hcc] at C1 ⊢
        generalize (w3.alloc (Obj.cells #[Value.int IntKind.i64 0, Value.int IntKind.i64 ((k : Int) + 1)] 30)) = w4 at C1 HS4 HB4 ⊢
        have za := (blk_cell C1.out 0).trans (show _ = some (Value.int .i64 0) from rfl)
        have zb := (blk_cell C1.out 1).trans (show _ = some (Value.int .i64 ((k : Int) + 1)) from rfl)
        have HF := Aside0.mk (free_st w1.heap.size g _ w4 0 ((k : Int) + 1) HS4.out HB4.out.size)
        rw [F4.out, F5.out] at HF
        go_upto_region 12 with (first | (go_at_call 11; refine HF.out.mono ?_; rintro e w5 ⟨rfl, hs, hb, hst, hsz⟩; have HS5 := Aside0.mk hs; have HB5 := Aside0.mk (HB4.out.trans hb); have C2 := Aside0.mk (hst _ _ _ _ C1.out (by decide) (by decide) (by decide)); clear hs hb hst hsz))
        clear za zb
        have zb := (blk_cell C2.out 1).trans (show _ = some (Value.int .i64 ((k : Int) + 1)) from rfl)
        go_wp2
        go_roundg g'
        case measure => omega
        case rel => exact ⟨k + 1, rfl, by omega, HS5, HB5⟩
      · have hkn : (k : Int) = n := by omega
        obtain ⟨f1, f2⟩ := SSt.wear_end n k hkn h1
        have hle : decide ((k : Int) + 1 ≤ n) = false := decide_eq_false (by omega)
        have hle2 : ¬ (k : Int) + 1 ≤ n := by omega
        have HT := Aside0.mk (take_st w1.heap.size g _ wr HS.out HB.out.size)
        rw [f1] at HT
        have F2 := Aside0.mk f2
        clear f1 f2
        go_upto_region 15 with (first | (go_at_call 13; refine HT.out.mono ?_; rintro e w3 ⟨rfl, hs, hb, hst, hsz⟩; have HS3 := Aside0.mk hs; have HB3 := Aside0.mk (HB.out.trans hb); clear hs hb hst hsz))
        have HS4 := Aside0.mk (SW.alloc HS3.out (Obj.cells #[Value.int IntKind.i64 (SSt.wear n k).takeP, Value.int IntKind.i64 (SSt.wear n k).takeG] 30))
        have HB4 := Aside0.mk (Below.alloc HB3.out HB3.out.size (Obj.cells #[Value.int IntKind.i64 (SSt.wear n k).takeP, Value.int IntKind.i64 (SSt.wear n k).takeG] 30))
        generalize (w3.alloc _) = w4 at HS4 HB4 ⊢
        have HW := Aside0.mk (worn_st w1.heap.size g _ w4 HS4.out)
        rw [F2.out] at HW
        go_wp2_with (first | (go_at_call 17; refine HW.out.mono ?_; rintro e w5 ⟨rfl, ⟨nd, rfl⟩⟩))
        go_ret
        exact ⟨rfl, pw_below_drewN (HB1.out.trans (Below.mono HB4.out HB1.out.size)) nd⟩
end Go.Proofs.Ytppbdjoikdldiaa.PSlabFresh
