/- SlbG: walks of the slab's functions. -/
import Derived.Test.YtppbdjoikdldiaaSlbD
import Derived.Test.YtppbdjoikdldiaaSlbE
namespace Go.Proofs.Ytppbdjoikdldiaa.PSlabFresh
open Go.RowKit Go.Proofs.YtppbdjoikdldiaaW.PrintWords Go.Proofs.YtppbdjoikdldiaaW.PrintLast Go.Proofs.YtppbdjoikdldiaaW.PrintMore
set_option linter.unusedVariables false
set_option linter.unusedSimpArgs false
attribute [local go_sem high] eqA30
set_option maxHeartbeats 4000000 in
set_option maxRecDepth 100000 in
theorem last_law (m n : Int) (a : Option Addr) (cap : Nat) (l : List S32) (x3 : Int) (w : World) (hr : Kd.C k32 w a l.length l) (hc : l.length ≤ cap) : Calls Try.prog 4 #[.int .i64 m, .int .i64 n, .slice a l.length cap, .int .i64 x3] w fun e w' => e = .returned (.bool true) ∧ Below w.heap.size w w' := by
  have hu30 := Try.underlying30
  have hu32 := Try.underlying32
  have HR := Aside0.mk hr
  clear hr
  go_enter Try.func4, Try.ntmps4
  go_upto_region 4 with (first | (go_at_call 9; refine (works_calls _).mono ?_; rintro e w1 ⟨rfl, hb⟩; have HB1 := Aside0.mk hb; clear hb))
  by_cases hlen : 60 < l.length
  · have hlen2 : (60 : Int) < (l.length : Int) := by omega
    go_wp2
    go_ret
    exact ⟨rfl, HB1.out⟩
  have hlen2 : ¬ (60 : Int) < (l.length : Int) := by omega
  by_cases hbad : m < 0 ∨ 1024 < m ∨ n < 1 ∨ 65535 < n
  · go_wp2_with (first | (go_at_call 10; refine (new_bad 0 m n _ hbad).mono ?_; rintro e w2 ⟨rfl, ⟨nd, rfl⟩⟩))
    go_ret
    exact ⟨rfl, pw_below_drewN HB1.out nd⟩
  have h1 : 0 ≤ m ∧ m ≤ 1024 ∧ 1 ≤ n ∧ n ≤ 65535 := by omega
  clear hbad
  go_upto_region 9 with (first | (go_at_call 10; refine (new_st m n _ h1.1 h1.2.1 h1.2.2.1 h1.2.2.2).mono ?_; rintro e w2 ⟨g, rfl, hs, hb⟩; have HS2 := Aside0.mk hs; have HB2 := Aside0.mk hb; clear hs hb))
  have HL2 := Aside0.mk (Kd.C_below HR.out (HB1.out.trans (Below.mono HB2.out HB1.out.size)))
  go_wp2
  go_loopg [12, 13] l.length (fun gf tk i wr => ∃ (k : Nat) (S : SSt) (T : List S30) (A : Option Addr) (c : Nat), tk = .slice A T.length c ∧ i = .int .i64 (k : Int) ∧ k + gf = l.length ∧ T.length ≤ k ∧ S.n = n ∧ Aside0 (SW w1.heap.size wr g S) ∧ Aside0 (k30.R 30 wr w1.heap.size (fun _ => True) (.slice A T.length c) T) ∧ Aside0 (Below w1.heap.size w1 wr))
  case atStart =>
    exact ⟨0, SSt.new m n, [], none, 0, rfl, rfl, by omega, Nat.le_refl _, rfl, HS2, ⟨Kd.R_nil _ _ _ _ _⟩, HB2⟩
  case round =>
    obtain ⟨k, S, T, A, c, rfl, rfl, hk, hT, hm, HS, HRT, HB⟩ := hrel
    by_cases hlt : k < l.length
    · obtain ⟨g', rfl⟩ : ∃ g', gk = g' + 1 := ⟨gk - 1, by omega⟩
      have hlt2 : (k : Int) < (l.length : Int) := by omega
      have HL := Aside0.mk (Kd.C_below HR.out (HB1.out.trans (Below.mono HB.out HB1.out.size)))
      obtain ⟨ad, rfl, z0, z1, z2, z3⟩ := at_T32 HL.out (k : Int) (by omega) hlt2
      obtain ⟨x, hx⟩ : ∃ x, rd_T32 l (k : Int) = x := ⟨_, rfl⟩
      rw [hx] at z0 z1 z2 z3
      have HX := Aside0.mk hx
      clear hx
      simp only [Int.toNat_natCast] at z0 z1 z2 z3
      obtain ⟨_, HC, hcl⟩ := R_C HRT.out
      have HC := Aside0.mk HC
      have hwi : IntKind.i64.wrap ((k : Int) + 1) = (k : Int) + 1 := wrap_ok _ (by omega) (by omega)
      by_cases hk0 : x.f0 = 0
      · have hk1 : (x.f0 == 0) = true := by simpa using hk0
        by_cases hf : S.full
        · have HT := Aside0.mk (take_st w1.heap.size g S wr HS.out HB.out.size)
          rw [SSt.takeE_pos hf, SSt.full_take hf] at HT
          go_upto_region 12 with (first | (go_at_call 13; refine HT.out.mono ?_; rintro e w3 ⟨rfl, hs, hb, hst, hsz⟩; have HS3 := Aside0.mk hs; have HB3 := Aside0.mk (HB.out.trans hb); have HR3 := Aside0.mk (R_stays HRT.out hst); clear hs hb hst hsz))
          go_wp2
          go_roundg g'
          case measure => omega
          case rel => exact ⟨k + 1, S, T, A, c, rfl, rfl, by omega, by omega, hm, ⟨SW.alloc HS3.out _⟩, ⟨Kd.R_below HR3.out (below_alloc (Below.refl _ _) _)⟩, ⟨Below.alloc HB3.out HB3.out.size _⟩⟩
        have HT := Aside0.mk (take_st w1.heap.size g S wr HS.out HB.out.size)
        rw [SSt.takeE_neg hf] at HT
        obtain ⟨P, hP⟩ : ∃ P, S.takeP = P := ⟨_, rfl⟩
        obtain ⟨G, hG⟩ : ∃ G, S.takeG = G := ⟨_, rfl⟩
        rw [hP, hG] at HT
        clear hP hG
        go_upto_region 14 with (fail)
        go_upto_region 15 with (first | (go_at_call 13; refine HT.out.mono ?_; rintro e w3 ⟨rfl, hs, hb, hst, hsz⟩; have HS3 := Aside0.mk hs; have HB3 := Aside0.mk (HB.out.trans hb); have HR3 := Aside0.mk (R_stays HRT.out hst); clear hs hb hst hsz))
        have C1 := Aside0.mk (heap_alloc_new w3 (Obj.cells #[Value.int IntKind.i64 P, Value.int IntKind.i64 G] 30))
        have HS4 := Aside0.mk (SW.alloc HS3.out (Obj.cells #[Value.int IntKind.i64 P, Value.int IntKind.i64 G] 30))
        have HB4 := Aside0.mk (Below.alloc HB3.out HB3.out.size (Obj.cells #[Value.int IntKind.i64 P, Value.int IntKind.i64 G] 30))
        have HR4 := Aside0.mk (Kd.R_below HR3.out (below_alloc (Below.refl _ _) (Obj.cells #[Value.int IntKind.i64 P, Value.int IntKind.i64 G] 30)))
        obtain ⟨h, hh⟩ : ∃ h, w3.heap.size = h := ⟨_, rfl⟩
        rw [hh] at C1 ⊢
        generalize (w3.alloc (Obj.cells #[Value.int IntKind.i64 P, Value.int IntKind.i64 G] 30)) = w4 at C1 HS4 HB4 HR4 ⊢
        clear HS3 HB3 HR3 hh z0 z1 z2 z3 hk0 hk1
        have c0 := (blk_cell C1.out 0).trans (show _ = some (Value.int .i64 P) from rfl)
        have c1 := (blk_cell C1.out 1).trans (show _ = some (Value.int .i64 G) from rfl)
        go_upto_region 12 with (first | ((with_reducible refine gate_builtin (b := .append) (xs := #[.tmp 65, .tmp 67]) rfl ?_); at_builtin; refine Kd.R_append k30 (w0 := w1) w1.heap.size rfl (.tmp 65) (.tmp 67) 28 30 (.agg #[.int .i64 0, .int .i64 0]) 16 rfl Try.underlying28 slab_info30 rfl (by decide) (by omega) (.slice A T.length c) T ⟨P, G⟩ [.int .i64 P, .int .i64 G] (fun _ => True) (fun _ => False) rfl rfl ?aP (fun _ hk => hk.elim) ?aF ?aO ?aB ?aS ?aL ?_; (case aP => exact k30_mkM _ _ _ _); (case aB => exact HB4.out); (case aF => exact (fun _ _ => trivial)); (case aO => exact HR4.out); (case aS => exact HB4.out.size); (case aL => omega); intro v1 w6 ho hb hg hat; (obtain ⟨A1, c1', rfl⟩ := Kd.R_slice ho); have HO := Aside0.mk ho; have HB6 := Aside0.mk hb; have HS6 := Aside0.mk (SW.grown HS4.out HR4.out hg); clear ho hb hg hat))
        go_wp2
        go_roundg g'
        case measure => omega
        case rel => exact ⟨k + 1, S.take, T ++ [⟨P, G⟩], A1, c1', by rw [List.length_append]; rfl, rfl, by omega, by simp; omega, (SSt.take_m S).2.trans hm, HS6, HO, HB6⟩
      · have hk1 : (x.f0 == 0) = false := by simpa using hk0
        go_upto_region 17 with (fail)
        go_upto_region 12 with (first | (go_at_call 12; refine (hand_st x.f0 x.f1 x.f2 x.f3 A c T wr HC.out hcl).mono ?_; rintro e w3 ⟨rfl, hb⟩; have HB3 := Aside0.mk hb; clear hb) | (go_at_call 11; refine (free_st w1.heap.size g S w3 (handP x.f0 x.f1 x.f2 x.f3 T).f0 (handP x.f0 x.f1 x.f2 x.f3 T).f1 (SW.below HS.out HB3.out) (Nat.le_trans HB.out.size HB3.out.size)).mono ?_; rintro e w4 ⟨rfl, hs, hb, hst, hsz⟩; have HS4 := Aside0.mk hs; have HB4 := Aside0.mk ((below_step HB.out HB3.out).trans hb); have HR4 := Aside0.mk (R_stays (R_stays HRT.out (Stays.below HB3.out)) hst); clear hs hb hst hsz))
        go_wp2
        go_roundg g'
        case measure => omega
        case rel => exact ⟨k + 1, S.free _ _, T, A, c, rfl, rfl, by omega, by omega, (SSt.free_m S _ _).2.trans hm, HS4, HR4, HB4⟩
    · have hge : ¬ (k : Int) < (l.length : Int) := by omega
      clear hk hT hc HL2 HS2 HB2 HR
      have HBB := Aside0.mk (HB1.out.trans (Below.mono HB.out HB1.out.size))
      by_cases hx0 : x3 < 0
      · go_wp2
        go_ret
        exact ⟨rfl, HBB.out⟩
      by_cases hx1 : (T.length : Int) ≤ x3
      · go_wp2
        go_ret
        exact ⟨rfl, HBB.out⟩
      have hx2 : x3 < (T.length : Int) := by omega
      have hx3 : 0 ≤ x3 := by omega
      have HC := Aside0.mk (R_C HRT.out).2.1
      obtain ⟨ae, rfl, y0, y1⟩ := at_T30 HC.out x3 hx3 hx2
      obtain ⟨t, ht⟩ : ∃ t, rd_T30 T x3 = t := ⟨_, rfl⟩
      rw [ht] at y0 y1
      have HAL := Aside0.mk (alive_st w1.heap.size g S wr t.f0 t.f1 HS.out)
      cases hA : S.isAlive t.f0 t.f1 with
      | false =>
        rw [hA] at HAL
        go_wp2_with (first | (go_at_call 14; refine HAL.out.mono ?_; rintro e w6 ⟨rfl, hb⟩; have HX6 := Aside0.mk (below_step HBB.out hb); clear hb))
        go_ret
        exact ⟨rfl, HX6.out⟩
      | true =>
        rw [hA] at HAL
        obtain ⟨f1, f2, f3, f4⟩ := SSt.freed S HS.out.2 t.f0 t.f1 hA
        rw [hm] at f3 f4
        have HF4 := Aside0.mk f4
        have HF3 := Aside0.mk f3
        clear f3 f4
        go_upto_region 20 with (first | (go_at_call 14; refine HAL.out.mono ?_; rintro e w4 ⟨rfl, hb⟩; have HS4 := Aside0.mk (SW.below HS.out hb); have HB4 := Aside0.mk (below_step HB.out hb); have HR4 := Aside0.mk (R_C (Kd.R_below HRT.out hb)).2.1; clear hb))
        obtain ⟨ae', hae, y0, y1⟩ := at_T30 HR4.out x3 hx3 hx2
        injection hae with hae
        subst hae
        rw [ht] at y0 y1
        go_upto_region 21 with (fail)
        have C1 := Aside0.mk (heap_alloc_new w4 (Obj.cells #[Value.int IntKind.i64 t.f0, Value.int IntKind.i64 t.f1] 30))
        have HS5 := Aside0.mk (SW.alloc HS4.out (Obj.cells #[Value.int IntKind.i64 t.f0, Value.int IntKind.i64 t.f1] 30))
        have HB5 := Aside0.mk (Below.alloc HB4.out HB4.out.size (Obj.cells #[Value.int IntKind.i64 t.f0, Value.int IntKind.i64 t.f1] 30))
        obtain ⟨h, hh⟩ : ∃ h, w4.heap.size = h := ⟨_, rfl⟩
        rw [hh] at C1 ⊢
        generalize (w4.alloc (Obj.cells #[Value.int IntKind.i64 t.f0, Value.int IntKind.i64 t.f1] 30)) = w5 at C1 HS5 HB5 ⊢
        clear HS4 HB4 HR4 hh y0 y1
        go_upto_region 22 with (first | (go_at_call 16; refine (left_st w1.heap.size g S _ HS5.out).mono ?_; rintro e w6 ⟨rfl, ⟨nd1, rfl⟩⟩) | (go_at_call 17; refine (worn_st w1.heap.size g S _ (SW.drewN HS5.out _)).mono ?_; rintro e w6 ⟨rfl, ⟨nd2, rfl⟩⟩))
        have C2 := Aside0.mk (blk_drewN C1.out (nd1 + nd2))
        have HS6 := Aside0.mk (SW.drewN HS5.out (nd1 + nd2))
        have HB6 := Aside0.mk (pw_below_drewN HB5.out (nd1 + nd2))
        generalize w5.drewN (nd1 + nd2) = w6 at C2 HS6 HB6 ⊢
        clear HS5 HB5 C1
        have c0 := (blk_cell C2.out 0).trans (show _ = some (Value.int .i64 t.f0) from rfl)
        have c1 := (blk_cell C2.out 1).trans (show _ = some (Value.int .i64 t.f1) from rfl)
        have HFR := Aside0.mk (free_st w1.heap.size g S w6 t.f0 t.f1 HS6.out HB6.out.size)
        rw [f1] at HFR
        go_upto_region 23 with (first | (go_at_call 11; refine HFR.out.mono ?_; rintro e w7 ⟨rfl, hs, hb, hst, hsz⟩; have HS7 := Aside0.mk hs; have HB7 := Aside0.mk (HB6.out.trans hb); have C3 := Aside0.mk (hst _ _ _ _ C2.out (by decide) (by decide) (by decide)); clear hs hb hst hsz))
        clear c0 c1 HS6 HB6 C2 HFR f1
        have c0 := (blk_cell C3.out 0).trans (show _ = some (Value.int .i64 t.f0) from rfl)
        have c1 := (blk_cell C3.out 1).trans (show _ = some (Value.int .i64 t.f1) from rfl)
        have HA2 := Aside0.mk (alive_st w1.heap.size g (S.free t.f0 t.f1) w7 t.f0 t.f1 HS7.out)
        rw [f2] at HA2
        go_upto_region 25 with (first | (go_at_call 14; refine HA2.out.mono ?_; rintro e w8 ⟨rfl, hb⟩; have HS8 := Aside0.mk (SW.below HS7.out hb); have HB8 := Aside0.mk (below_step HB7.out hb); have C4 := Aside0.mk ((hb.block _ (blk_lt C3.out)).trans C3.out); clear hb))
        clear c0 c1 HS7 HB7 C3 HA2 f2
        have c0 := (blk_cell C4.out 0).trans (show _ = some (Value.int .i64 t.f0) from rfl)
        have c1 := (blk_cell C4.out 1).trans (show _ = some (Value.int .i64 t.f1) from rfl)
        have hbd := SSt.bounds HS.out.2
        by_cases hq : t.f1 = n
        · have hq2 : (t.f1 == n) = true := by simpa using hq
          obtain ⟨e1, e2⟩ := HF3.out hq
          have HL8 := Aside0.mk (left_st w1.heap.size g _ w8 HS8.out)
          have HW8 := Aside0.mk (fun nd => worn_st w1.heap.size g _ (w8.drewN nd) (SW.drewN HS8.out nd))
          rw [e1] at HL8
          rw [e2] at HW8
          have hw9 : IntKind.i64.wrap (S.worn + 1) = S.worn + 1 := wrap_ok _ (by omega) (by omega)
          clear e1 e2 hbd
          go_wp2_with (first | (go_at_call 16; refine HL8.out.mono ?_; rintro e w9 ⟨rfl, ⟨nd3, rfl⟩⟩) | (go_at_call 17; refine (HW8.out nd3).mono ?_; rintro e w9 ⟨rfl, ⟨nd4, rfl⟩⟩))
          go_ret
          exact ⟨rfl, HB1.out.trans (Below.mono (pw_below_drewN HB8.out _) HB1.out.size)⟩
        · have hq2 : (t.f1 == n) = false := by simpa using hq
          obtain ⟨e0, e1, e2, e3, e4⟩ := HF4.out hq
          have HT8 := Aside0.mk (take_st w1.heap.size g _ w8 HS8.out HB8.out.size)
          rw [e1, e2, SSt.takeE_neg e0] at HT8
          clear e0 e1 e2 hbd
          go_upto_region 28 with (first | (go_at_call 13; refine HT8.out.mono ?_; rintro e w9 ⟨rfl, hs, hb, hst, hsz⟩; have HS9 := Aside0.mk hs; have HB9 := Aside0.mk (HB8.out.trans hb); have C5 := Aside0.mk (hst _ _ _ _ C4.out (by decide) (by decide) (by decide)); clear hs hb hst hsz))
          have D1 := Aside0.mk (heap_alloc_new w9 (Obj.cells #[Value.int IntKind.i64 t.f0, Value.int IntKind.i64 (t.f1 + 1)] 30))
          have C6 := Aside0.mk (blk_alloc C5.out (Obj.cells #[Value.int IntKind.i64 t.f0, Value.int IntKind.i64 (t.f1 + 1)] 30))
          have HS10 := Aside0.mk (SW.alloc HS9.out (Obj.cells #[Value.int IntKind.i64 t.f0, Value.int IntKind.i64 (t.f1 + 1)] 30))
          have HB10 := Aside0.mk (Below.alloc HB9.out HB9.out.size (Obj.cells #[Value.int IntKind.i64 t.f0, Value.int IntKind.i64 (t.f1 + 1)] 30))
          obtain ⟨d, hd⟩ : ∃ d, w9.heap.size = d := ⟨_, rfl⟩
          rw [hd] at D1 ⊢
          generalize (w9.alloc (Obj.cells #[Value.int IntKind.i64 t.f0, Value.int IntKind.i64 (t.f1 + 1)] 30)) = w10 at D1 C6 HS10 HB10 ⊢
          clear HS8 HB8 C4 HS9 HB9 C5 c0 c1 hd
          have c0 := (blk_cell C6.out 0).trans (show _ = some (Value.int .i64 t.f0) from rfl)
          have c1 := (blk_cell C6.out 1).trans (show _ = some (Value.int .i64 t.f1) from rfl)
          have d0 := (blk_cell D1.out 0).trans (show _ = some (Value.int .i64 t.f0) from rfl)
          have d1 := (blk_cell D1.out 1).trans (show _ = some (Value.int .i64 (t.f1 + 1)) from rfl)
          have HL10 := Aside0.mk (left_st w1.heap.size g _ w10 HS10.out)
          have HW10 := Aside0.mk (fun nd => worn_st w1.heap.size g _ (w10.drewN nd) (SW.drewN HS10.out nd))
          rw [e3] at HL10
          rw [e4] at HW10
          clear e3 e4
          have hap := SSt.alive_parts hA
          have hpg := HS.out.2.pg _ (SSt.rd_mem S.ps t.f0 hap.1 hap.2.1)
          rw [hap.2.2.2] at hpg
          have hn1 := HS.out.2.n1
          have hw10 : IntKind.i64.wrap (t.f1 + 1) = t.f1 + 1 := wrap_ok _ (by omega) (by omega)
          clear hap hpg hn1
          go_wp2_with (first | (go_at_call 16; refine HL10.out.mono ?_; rintro e w11 ⟨rfl, ⟨nd3, rfl⟩⟩) | (go_at_call 17; refine (HW10.out nd3).mono ?_; rintro e w11 ⟨rfl, ⟨nd4, rfl⟩⟩))
          go_ret
          exact ⟨rfl, HB1.out.trans (Below.mono (pw_below_drewN HB10.out _) HB1.out.size)⟩
end Go.Proofs.Ytppbdjoikdldiaa.PSlabFresh
