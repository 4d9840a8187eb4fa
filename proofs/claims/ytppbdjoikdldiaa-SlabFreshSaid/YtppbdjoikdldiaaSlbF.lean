/- SlbF: walks of the slab's functions. -/
import Derived.Test.YtppbdjoikdldiaaSlbD
import Derived.Test.YtppbdjoikdldiaaSlbE
namespace Go.Proofs.Ytppbdjoikdldiaa.PSlabFresh
open Go.RowKit Go.Proofs.YtppbdjoikdldiaaW.PrintWords Go.Proofs.YtppbdjoikdldiaaW.PrintLast Go.Proofs.YtppbdjoikdldiaaW.PrintMore
set_option linter.unusedVariables false
set_option linter.unusedSimpArgs false
attribute [local go_sem high] eqA30
set_option maxHeartbeats 4000000 in
set_option maxRecDepth 100000 in
theorem fresh_law (m n : Int) (a : Option Addr) (cap : Nat) (l : List S32) (w : World) (hr : Kd.C k32 w a l.length l) (hc : l.length ≤ cap) : Calls Try.prog 3 #[.int .i64 m, .int .i64 n, .slice a l.length cap] w fun e w' => e = .returned (.bool true) ∧ Below w.heap.size w w' := by
  have hu30 := Try.underlying30
  have hu32 := Try.underlying32
  have HR := Aside0.mk hr
  clear hr
  go_enter Try.func3, Try.ntmps3
  go_upto_region 4 with (first | (go_at_call 9; refine (works_calls _).mono ?_; rintro e w1 ⟨rfl, hb⟩; have HB1 := Aside0.mk hb; clear hb))
  by_cases hlen : 60 < l.length
  · have hlen2 : (60 : Int) < (l.length : Int) := by omega
    go_wp2
    go_ret
    exact ⟨rfl, HB1.out⟩
  have hlen2 : ¬ (60 : Int) < (l.length : Int) := by omega
  by_cases hbad : m < 0 ∨ 1024 < m ∨ n < 1 ∨ 65535 < n
  · go_wp2_with (first | (go_at_call 10; refine (new_bad 0 m n _ hbad).mono ?_; rintro e w2 ⟨rfl, ⟨nd, rfl⟩⟩))
    go_ret
    exact ⟨rfl, pw_below_drewN HB1.out nd⟩
  have h1 : 0 ≤ m ∧ m ≤ 1024 ∧ 1 ≤ n ∧ n ≤ 65535 := by omega
  clear hbad
  go_upto_region 9 with (first | (go_at_call 10; refine (new_st m n _ h1.1 h1.2.1 h1.2.2.1 h1.2.2.2).mono ?_; rintro e w2 ⟨g, rfl, hs, hb⟩; have HS2 := Aside0.mk hs; have HB2 := Aside0.mk hb; clear hs hb))
  have HL2 := Aside0.mk (Kd.C_below HR.out (HB1.out.trans (Below.mono HB2.out HB1.out.size)))
  go_wp2
  go_loopg [10, 11] l.length (fun gf tk i wr => ∃ (k : Nat) (S : SSt) (T : List S30) (A : Option Addr) (c : Nat), tk = .slice A T.length c ∧ i = .int .i64 (k : Int) ∧ k + gf = l.length ∧ T.length ≤ k ∧ S.m = m ∧ Aside0 (SW w1.heap.size wr g S) ∧ Aside0 (k30.R 30 wr w1.heap.size (fun _ => True) (.slice A T.length c) T) ∧ Aside0 (S.Holds T) ∧ Aside0 (Below w1.heap.size w1 wr))
  case atStart =>
    exact ⟨0, SSt.new m n, [], none, 0, rfl, rfl, by omega, Nat.le_refl _, rfl, HS2, ⟨Kd.R_nil _ _ _ _ _⟩, ⟨fun t ht => by cases ht⟩, HB2⟩
  case round =>
    obtain ⟨k, S, T, A, c, rfl, rfl, hk, hT, hm, HS, HRT, HH, HB⟩ := hrel
    by_cases hlt : k < l.length
    · obtain ⟨g', rfl⟩ : ∃ g', gk = g' + 1 := ⟨gk - 1, by omega⟩
      have hlt2 : (k : Int) < (l.length : Int) := by omega
      have HL := Aside0.mk (Kd.C_below HR.out (HB1.out.trans (Below.mono HB.out HB1.out.size)))
      obtain ⟨ad, rfl, z0, z1, z2, z3⟩ := at_T32 HL.out (k : Int) (by omega) hlt2
      obtain ⟨x, hx⟩ : ∃ x, rd_T32 l (k : Int) = x := ⟨_, rfl⟩
      rw [hx] at z0 z1 z2 z3
      have HX := Aside0.mk hx
      clear hx
      simp only [Int.toNat_natCast] at z0 z1 z2 z3
      obtain ⟨_, HC, hcl⟩ := R_C HRT.out
      have HC := Aside0.mk HC
      have hwi : IntKind.i64.wrap ((k : Int) + 1) = (k : Int) + 1 := wrap_ok _ (by omega) (by omega)
      by_cases hk0 : x.f0 = 0
      · have hk1 : (x.f0 == 0) = true := by simpa using hk0
        by_cases hf : S.full
        · have HT := Aside0.mk (take_st w1.heap.size g S wr HS.out HB.out.size)
          rw [SSt.takeE_pos hf, SSt.full_take hf] at HT
          go_upto_region 12 with (first | (go_at_call 13; refine HT.out.mono ?_; rintro e w3 ⟨rfl, hs, hb, hst, hsz⟩; have HS3 := Aside0.mk hs; have HB3 := Aside0.mk (HB.out.trans hb); have HR3 := Aside0.mk (R_stays HRT.out hst); clear hs hb hst hsz))
          go_wp2
          go_roundg g'
          case measure => omega
          case rel => exact ⟨k + 1, S, T, A, c, rfl, rfl, by omega, by omega, hm, ⟨SW.alloc HS3.out _⟩, ⟨Kd.R_below HR3.out (below_alloc (Below.refl _ _) _)⟩, HH, ⟨Below.alloc HB3.out HB3.out.size _⟩⟩
        have HT := Aside0.mk (take_st w1.heap.size g S wr HS.out HB.out.size)
        rw [SSt.takeE_neg hf] at HT
        have HAP := Aside0.mk (SSt.take_apart HS.out.2 HH.out hf)
        obtain ⟨P, hP⟩ : ∃ P, S.takeP = P := ⟨_, rfl⟩
        obtain ⟨G, hG⟩ : ∃ G, S.takeG = G := ⟨_, rfl⟩
        rw [hP, hG] at HT HAP
        have HP := Aside0.mk hP
        have HG := Aside0.mk hG
        clear hP hG
        go_upto_region 15 with (fail)
        go_upto_region 16 with (first | (go_at_call 13; refine HT.out.mono ?_; rintro e w3 ⟨rfl, hs, hb, hst, hsz⟩; have HS3 := Aside0.mk hs; have HB3 := Aside0.mk (HB.out.trans hb); have HR3 := Aside0.mk (R_stays HRT.out hst); clear hs hb hst hsz))
        have C1 := Aside0.mk (heap_alloc_new w3 (Obj.cells #[Value.int IntKind.i64 P, Value.int IntKind.i64 G] 30))
        have HS4 := Aside0.mk (SW.alloc HS3.out (Obj.cells #[Value.int IntKind.i64 P, Value.int IntKind.i64 G] 30))
        have HB4 := Aside0.mk (Below.alloc HB3.out HB3.out.size (Obj.cells #[Value.int IntKind.i64 P, Value.int IntKind.i64 G] 30))
        have HR4 := Aside0.mk (Kd.R_below HR3.out (below_alloc (Below.refl _ _) (Obj.cells #[Value.int IntKind.i64 P, Value.int IntKind.i64 G] 30)))
        obtain ⟨h, hh⟩ : ∃ h, w3.heap.size = h := ⟨_, rfl⟩
        rw [hh] at C1 ⊢
        generalize (w3.alloc (Obj.cells #[Value.int IntKind.i64 P, Value.int IntKind.i64 G] 30)) = w4 at C1 HS4 HB4 HR4 ⊢
        clear HS3 HB3 HR3 hh z0 z1 z2 z3 hk0 hk1
        go_upto_region 17 with (fail)
        go_wp2
        go_loopg [14] T.length (fun gf j wx => ∃ (k2 : Nat), j = .int .i64 (k2 : Int) ∧ k2 + gf = T.length ∧ Aside0 (Below w4.heap.size w4 wx))
        case atStart => exact ⟨0, rfl, by omega, ⟨Below.refl _ _⟩⟩
        case round =>
          obtain ⟨k2, rfl, hk2, HX4⟩ := hrel
          have C2 := Aside0.mk ((HX4.out.block _ (blk_lt C1.out)).trans C1.out)
          have c0 := (blk_cell C2.out 0).trans (show _ = some (Value.int .i64 P) from rfl)
          have c1 := (blk_cell C2.out 1).trans (show _ = some (Value.int .i64 G) from rfl)
          by_cases hlt2 : k2 < T.length
          · obtain ⟨g2, rfl⟩ : ∃ g2, gk = g2 + 1 := ⟨gk - 1, by omega⟩
            have hlt3 : (k2 : Int) < (T.length : Int) := by omega
            have HC5 := Aside0.mk (R_C (Kd.R_below HR4.out HX4.out)).2.1
            obtain ⟨ae, rfl, y0, y1⟩ := at_T30 HC5.out (k2 : Int) (by omega) hlt3
            obtain ⟨t, ht⟩ : ∃ t, rd_T30 T (k2 : Int) = t := ⟨_, rfl⟩
            have htm : t ∈ T := by
              rw [← ht]; unfold rd_T30; rw [List.getD_eq_getElem?_getD, List.getElem?_eq_getElem (by omega)]; exact List.getElem_mem _
            rw [ht] at y0 y1
            have HTT := Aside0.mk ht
            have HTM := Aside0.mk htm
            clear ht htm
            simp only [Int.toNat_natCast] at y0 y1
            have hw2 : IntKind.i64.wrap ((k2 : Int) + 1) = (k2 : Int) + 1 := wrap_ok _ (by omega) (by omega)
            clear hwi
            go_upto_region 20 with (fail)
            by_cases he : t.f0 = P
            · obtain ⟨hg1, hg2⟩ := HAP.out t HTM.out he
              have b1 : (t.f0 == P) = true := by simpa using he
              have b2 : (t.f1 == G) = false := by simp; omega
              have b3 : decide (G < t.f1) = false := decide_eq_false (by omega)
              have HAL := Aside0.mk (alive_st w1.heap.size g S.take (wr.drew) t.f0 t.f1 (SW.drewN (SW.below HS4.out HX4.out) 1))
              rw [hg2] at HAL
              clear hg1 hg2 he
              go_still_tail 30, (by kernel_rfl)
              change wpList _ _ _ _ _ wr.drew
              have c0 : wr.drew.cell? ⟨h, 0, none⟩ = some (Value.int .i64 P) := c0
              have c1 : wr.drew.cell? ⟨h, 1, none⟩ = some (Value.int .i64 G) := c1
              have y0 : wr.drew.cell? (ae.add (k2 * 2)) = some (Value.int .i64 t.f0) := y0
              have y1 : wr.drew.cell? ⟨(ae.add (k2 * 2)).block, (ae.add (k2 * 2)).off + 1, none⟩ = some (Value.int .i64 t.f1) := y1
              have HX5 : Aside0 (Below w4.heap.size w4 wr.drew) := Aside0.mk (pw_below_drewN HX4.out 1)
              generalize wr.drew = w5 at c0 c1 y0 y1 HX5 HAL ⊢
              go_wp2_with (first | (go_at_call 14; refine HAL.out.mono ?_; rintro e w6 ⟨rfl, hb⟩; have HX6 := Aside0.mk (below_step HX5.out hb); clear hb))
              go_roundg g2
              case measure => omega
              case rel => exact ⟨k2 + 1, rfl, by omega, HX6⟩
            · have b1 : (t.f0 == P) = false := by simpa using he
              go_quiet (fail)
              go_wp2
              go_roundg g2
              case measure => omega
              case rel => exact ⟨k2 + 1, rfl, by omega, ⟨pw_below_drewN HX4.out _⟩⟩
          · have hge : ¬ (k2 : Int) < (T.length : Int) := by omega
            have HS5 := Aside0.mk (SW.below HS4.out HX4.out)
            have HB5 := Aside0.mk (below_step HB4.out HX4.out)
            have HR5 := Aside0.mk (Kd.R_below HR4.out HX4.out)
            clear HS4 HB4 HR4
            go_wp2_with (first | ((with_reducible refine gate_builtin (b := .append) (xs := #[.tmp 106, .tmp 108]) rfl ?_); at_builtin; refine Kd.R_append k30 (w0 := w1) w1.heap.size rfl (.tmp 106) (.tmp 108) 28 30 (.agg #[.int .i64 0, .int .i64 0]) 16 rfl Try.underlying28 slab_info30 rfl (by decide) (by omega) (.slice A T.length c) T ⟨P, G⟩ [.int .i64 P, .int .i64 G] (fun _ => True) (fun _ => False) rfl rfl ?aP (fun _ hk => hk.elim) ?aF ?aO ?aB ?aS ?aL ?_; (case aP => exact k30_mkM _ _ _ _); (case aB => exact HB5.out); (case aF => exact (fun _ _ => trivial)); (case aO => exact HR5.out); (case aS => exact HB5.out.size); (case aL => omega); intro v1 w6 ho hb hg hat; (obtain ⟨A1, c1', rfl⟩ := Kd.R_slice ho); have HO := Aside0.mk ho; have HB6 := Aside0.mk hb; have HS6 := Aside0.mk (SW.grown HS5.out HR5.out hg); clear ho hb hg hat))
            go_roundg g'
            case measure => omega
            case rel =>
              have hh := SSt.holds_take HS.out.2 HH.out hf
              rw [HP.out, HG.out] at hh
              exact ⟨k + 1, S.take, T ++ [⟨P, G⟩], A1, c1', by rw [List.length_append]; rfl, rfl, by omega, by simp; omega, (SSt.take_m S).1.trans hm, HS6, HO, ⟨hh⟩, HB6⟩
      · have hk1 : (x.f0 == 0) = false := by simpa using hk0
        go_upto_region 14 with (fail)
        go_upto_region 12 with (first | (go_at_call 12; refine (hand_st x.f0 x.f1 x.f2 x.f3 A c T wr HC.out hcl).mono ?_; rintro e w3 ⟨rfl, hb⟩; have HB3 := Aside0.mk hb; clear hb) | (go_at_call 11; refine (free_st w1.heap.size g S w3 (handP x.f0 x.f1 x.f2 x.f3 T).f0 (handP x.f0 x.f1 x.f2 x.f3 T).f1 (SW.below HS.out HB3.out) (Nat.le_trans HB.out.size HB3.out.size)).mono ?_; rintro e w4 ⟨rfl, hs, hb, hst, hsz⟩; have HS4 := Aside0.mk hs; have HB4 := Aside0.mk ((below_step HB.out HB3.out).trans hb); have HR4 := Aside0.mk (R_stays (R_stays HRT.out (Stays.below HB3.out)) hst); clear hs hb hst hsz))
        go_wp2
        go_roundg g'
        case measure => omega
        case rel => exact ⟨k + 1, S.free _ _, T, A, c, rfl, rfl, by omega, by omega, (SSt.free_m S _ _).1.trans hm, HS4, HR4, ⟨SSt.holds_free _ _ HH.out⟩, HB4⟩
    · have hge : ¬ (k : Int) < (l.length : Int) := by omega
      have hbd := SSt.bounds HS.out.2
      have hsm := SSt.sums S
      have hq1 : IntKind.i64.wrap (S.al + S.left) = S.al + S.left := wrap_ok _ (by omega) (by omega)
      have hq2 : IntKind.i64.wrap (S.al + S.left + S.worn) = m := by rw [wrap_ok _ (by omega) (by omega)]; omega
      clear hbd hsm
      have HL := Aside0.mk (len_st w1.heap.size g S wr HS.out)
      go_wp2_with (first | (go_at_call 15; refine HL.out.mono ?_; rintro e w3 ⟨rfl, ⟨nd1, rfl⟩⟩) | (go_at_call 16; refine (left_st w1.heap.size g S _ (SW.drewN HS.out _)).mono ?_; rintro e w3 ⟨rfl, ⟨nd2, rfl⟩⟩) | (go_at_call 17; refine (worn_st w1.heap.size g S _ (SW.drewN HS.out _)).mono ?_; rintro e w3 ⟨rfl, ⟨nd3, rfl⟩⟩))
      go_ret
      exact ⟨rfl, HB1.out.trans (Below.mono (pw_below_drewN HB.out _) HB1.out.size)⟩
end Go.Proofs.Ytppbdjoikdldiaa.PSlabFresh
