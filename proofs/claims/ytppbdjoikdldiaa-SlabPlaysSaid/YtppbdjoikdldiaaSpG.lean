/- SpG: walks of the slab's functions. -/
import Derived.Test.YtppbdjoikdldiaaSpF
namespace Go.Proofs.Ytppbdjoikdldiaa.PSlabPlays
open Go.RowKit Go.Proofs.YtppbdjoikdldiaaW.PrintWords Go.Proofs.YtppbdjoikdldiaaW.PrintLast Go.Proofs.YtppbdjoikdldiaaW.PrintMore
set_option linter.unusedVariables false
set_option linter.unusedSimpArgs false
theorem kcell {W : World} {ad : Addr} {l : List S32} (h : Kd.C k32 W (some ad) l.length l) (k : Nat) (hk : k < l.length) : W.cell? (ad.add (k * 4)) = some (.int .i64 (rd_T32 l (k : Int)).f0) := by
  obtain ⟨ad', e, z0, _⟩ := at_T32 h (k : Int) (by omega) (by omega)
  injection e with e
  subst e
  simpa using z0
theorem SSt.alive_take' {S : SSt} {A : List S30} (h : S.AliveOf A) (hi : S.Inv) : S.take.AliveOf (if S.full then A else A ++ [⟨S.takeP, S.takeG⟩]) := by
  by_cases hf : S.full
  · rw [if_pos hf, SSt.full_take hf]; exact h
  · rw [if_neg hf]; exact SSt.alive_take h hi hf
theorem SSt.alive_free' {S : SSt} {A : List S30} (h : S.AliveOf A) (p q : Int) : (S.free p q).AliveOf (if S.isAlive p q = true then A.filter (fun t => !(hit p q t)) else A) := by
  by_cases hf : S.isAlive p q = true
  · rw [if_pos hf]; exact SSt.alive_free h p q hf
  · rw [if_neg hf]
    have : S.free p q = S := by unfold SSt.free; rw [if_neg hf]
    rw [this]; exact h
theorem blk_ne {W : World} {b b' : Nat} {cs cs' : Array Value} {t t' : TypeId} {fr fr' : Nat × Nat} (h : W.heap[b]? = some (.cells cs t fr)) (h' : W.heap[b']? = some (.cells cs' t' fr')) (ht : t ≠ t') : b ≠ b' := by
  rintro rfl
  rw [h] at h'
  injection h' with h'
  injection h' with _ h2 _
  exact ht h2
theorem Fl.C30 {base : Nat} {W : World} {v : Value} {xs : List S30} (h : Fl k30 30 base W v xs) : ∃ A c, v = .slice A xs.length c ∧ xs.length ≤ c ∧ Kd.C k30 W A xs.length xs := Kd.R_reads h
theorem Fl.Ci {base : Nat} {W : World} {v : Value} {xs : List Int} (h : Fl (Kd.int .i64) 3 base W v xs) : ∃ A c, v = .slice A xs.length c ∧ xs.length ≤ c ∧ Kd.C (Kd.int .i64) W A xs.length xs := Kd.R_reads h
attribute [local go_sem high] eqA30
set_option maxHeartbeats 8000000 in
set_option maxRecDepth 100000 in
theorem play_st (w0 : World) (g : Nat) (S : SSt) (A T : List S30) (v2 v3 v4 tv : Value) (a : Option Addr) (cap : Nat) (l : List S32) (w : World) (hP : PlF w0.heap.size g S S A T v2 v3 v4 tv w) (hB : Below w0.heap.size w0 w)
    (hL : ∀ W, Below w0.heap.size w0 W → Kd.C k32 W a l.length l) (hl : l.length ≤ 60) (hT : T.length ≤ 1000) :
    Calls Try.prog 19 #[.pointer (some ⟨g, 0, none⟩), .agg #[.int .i64 S.m, .int .i64 S.n, v2, v3, v4], .slice a l.length cap, tv] w fun e w' => ∃ S' A' T' u2 u3 u4 tv', e = .returned (.tuple #[.agg #[.int .i64 S'.m, .int .i64 S'.n, u2, u3, u4], tv', .bool true]) ∧ PlF w0.heap.size g S' S' A' T' u2 u3 u4 tv' w' ∧ Below w0.heap.size w0 w' ∧ S'.m = S.m ∧ S'.n = S.n ∧ T'.length ≤ T.length + l.length := by
  have hu30 := Try.underlying30
  have hu32 := Try.underlying32
  have hu44 := Try.underlying44
  obtain ⟨A2, c2, rfl, hc2, _⟩ := hP.r2.Ci
  obtain ⟨A3, c3, rfl, hc3, _⟩ := hP.r3.Ci
  obtain ⟨A4, c4, rfl, hc4, _⟩ := hP.r4.C30
  obtain ⟨At, ct, rfl, hct, _⟩ := hP.t.C30
  have HP := Aside0.mk hP
  have HL := Aside0.mk hL
  have HB := Aside0.mk hB
  clear hP hL hB
  go_enter Try.func19, Try.ntmps19
  go_upto_region 1 with (fail)
  have L5 := Aside0.mk (Loc.below (Loc.new HP.out #[Value.int IntKind.i64 S.m, Value.int IntKind.i64 S.n, Value.slice A2 S.used.length c2, Value.slice A3 S.fs.length c3, Value.slice A4 A.length c4] 44 (by decide)) (below_al (w.alloc (Obj.cells #[Value.int IntKind.i64 S.m, Value.int IntKind.i64 S.n, Value.slice A2 S.used.length c2, Value.slice A3 S.fs.length c3, Value.slice A4 A.length c4] 44)) (Obj.cells #[Value.int IntKind.i64 0, Value.int IntKind.i64 0, Value.slice none 0 0, Value.slice none 0 0, Value.slice none 0 0] 44)))
  have HP1 := PlF.below HP.out (below_al w (Obj.cells #[Value.int IntKind.i64 S.m, Value.int IntKind.i64 S.n, Value.slice A2 S.used.length c2, Value.slice A3 S.fs.length c3, Value.slice A4 A.length c4] 44))
  have L8 := Loc.new HP1 #[Value.int IntKind.i64 0, Value.int IntKind.i64 0, Value.slice none 0 0, Value.slice none 0 0, Value.slice none 0 0] 44 (by decide)
  rw [World.size_alloc] at L8
  have L8 := Aside0.mk L8
  have HP2 := Aside0.mk (PlF.below HP1 (below_al (w.alloc (Obj.cells #[Value.int IntKind.i64 S.m, Value.int IntKind.i64 S.n, Value.slice A2 S.used.length c2, Value.slice A3 S.fs.length c3, Value.slice A4 A.length c4] 44)) (Obj.cells #[Value.int IntKind.i64 0, Value.int IntKind.i64 0, Value.slice none 0 0, Value.slice none 0 0, Value.slice none 0 0] 44)))
  have HB2 := Aside0.mk (below_step (below_step HB.out (below_al w (Obj.cells #[Value.int IntKind.i64 S.m, Value.int IntKind.i64 S.n, Value.slice A2 S.used.length c2, Value.slice A3 S.fs.length c3, Value.slice A4 A.length c4] 44))) (below_al (w.alloc (Obj.cells #[Value.int IntKind.i64 S.m, Value.int IntKind.i64 S.n, Value.slice A2 S.used.length c2, Value.slice A3 S.fs.length c3, Value.slice A4 A.length c4] 44)) (Obj.cells #[Value.int IntKind.i64 0, Value.int IntKind.i64 0, Value.slice none 0 0, Value.slice none 0 0, Value.slice none 0 0] 44)))
  clear HP1
  generalize ((w.alloc (Obj.cells #[Value.int IntKind.i64 S.m, Value.int IntKind.i64 S.n, Value.slice A2 S.used.length c2, Value.slice A3 S.fs.length c3, Value.slice A4 A.length c4] 44)).alloc (Obj.cells #[Value.int IntKind.i64 0, Value.int IntKind.i64 0, Value.slice none 0 0, Value.slice none 0 0, Value.slice none 0 0] 44)) = w2 at L5 L8 HP2 HB2 ⊢
  have hne58 : w.heap.size ≠ w.heap.size + 1 := by omega
  have hb5 : w0.heap.size ≤ w.heap.size := HB.out.size
  have hb8 : w0.heap.size ≤ w.heap.size + 1 := by omega
  generalize w.heap.size + 1 = b8 at L8 hne58 hb8 ⊢
  generalize hq5 : w.heap.size = b5 at L5 hne58 hb5 ⊢
  clear hq5
  have hb5 := Aside0.mk hb5
  have hb8 := Aside0.mk hb8
  go_wp2
  go_loopg [3, 11] l.length (fun gf tk i wr => ∃ (k : Nat) (S' : SSt) (A' T' : List S30) (u2 u3 u4 : Value), i = .int .i64 (k : Int) ∧ k + gf = l.length ∧ T'.length ≤ T.length + k ∧ Aside0 (S'.m = S.m) ∧ Aside0 (S'.n = S.n) ∧ Aside0 (PlF w0.heap.size g S' S' A' T' u2 u3 u4 tk wr) ∧ Aside0 (Loc b5 #[Value.int IntKind.i64 S'.m, Value.int IntKind.i64 S'.n, u2, u3, u4] 44 u4 tk wr) ∧ Aside0 (Loc b8 #[Value.int IntKind.i64 0, Value.int IntKind.i64 0, Value.slice none 0 0, Value.slice none 0 0, Value.slice none 0 0] 44 u4 tk wr) ∧ Aside0 (Below w0.heap.size w0 wr))
  case atStart =>
    exact ⟨0, S, A, T, _, _, _, rfl, by omega, Nat.le_refl _, ⟨rfl⟩, ⟨rfl⟩, HP2, L5, L8, HB2⟩
  case round =>
    clear HP HB hc2 hc3 hc4 hct HP2 L5 L8 HB2
    obtain ⟨k, S', A', T', u2, u3, u4, rfl, hk, hT', hm, hn, HP, L5, L8, HB⟩ := hrel
    by_cases hlt : k < l.length
    · obtain ⟨g', rfl⟩ : ∃ g', gk = g' + 1 := ⟨gk - 1, by omega⟩
      obtain ⟨A2, c2, rfl, hc2, _⟩ := HP.out.r2.Ci
      obtain ⟨A3, c3, rfl, hc3, _⟩ := HP.out.r3.Ci
      obtain ⟨A4, c4, rfl, hc4, _⟩ := HP.out.r4.C30
      obtain ⟨At, ct, rfl, hct, HCT⟩ := HP.out.t.C30
      have HCT := Aside0.mk HCT
      have hlt2 : (k : Int) < (l.length : Int) := by omega
      obtain ⟨ad, rfl, z0, z1, z2, z3⟩ := at_T32 (HL.out wr HB.out) (k : Int) (by omega) hlt2
      obtain ⟨x, hx⟩ : ∃ x, rd_T32 l (k : Int) = x := ⟨_, rfl⟩
      rw [hx] at z0 z1 z2 z3
      have HX := Aside0.mk hx
      clear hx
      simp only [Int.toNat_natCast] at z0 z1 z2 z3
      have hwi : IntKind.i64.wrap ((k : Int) + 1) = (k : Int) + 1 := wrap_ok _ (by omega) (by omega)
      go_upto_region 5 with (first | (go_at_call 12; refine (hand_st x.f0 x.f1 x.f2 x.f3 At ct T' wr HCT.out hct).mono ?_; rintro e w3 ⟨rfl, hb⟩; have HP3 := Aside0.mk (PlF.below HP.out hb); have L53 := Aside0.mk (Loc.below L5.out hb); have L83 := Aside0.mk (Loc.below L8.out hb); have HB3 := Aside0.mk (below_step HB.out hb); clear hb))
      obtain ⟨p0, hp0⟩ : ∃ r, (handP x.f0 x.f1 x.f2 x.f3 T').f0 = r := ⟨_, rfl⟩
      obtain ⟨q0, hq0⟩ : ∃ r, (handP x.f0 x.f1 x.f2 x.f3 T').f1 = r := ⟨_, rfl⟩
      rw [hp0, hq0]
      clear hp0 hq0
      have L12 := Aside0.mk (Loc.new HP3.out #[Value.int IntKind.i64 p0, Value.int IntKind.i64 q0] 30 (by decide))
      have HP4 := Aside0.mk (PlF.below HP3.out (below_al w3 (Obj.cells #[Value.int IntKind.i64 p0, Value.int IntKind.i64 q0] 30)))
      have L54 := Aside0.mk (Loc.below L53.out (below_al w3 (Obj.cells #[Value.int IntKind.i64 p0, Value.int IntKind.i64 q0] 30)))
      have L84 := Aside0.mk (Loc.below L83.out (below_al w3 (Obj.cells #[Value.int IntKind.i64 p0, Value.int IntKind.i64 q0] 30)))
      have HB4 := Aside0.mk (below_step HB3.out (below_al w3 (Obj.cells #[Value.int IntKind.i64 p0, Value.int IntKind.i64 q0] 30)))
      have hb12 : w0.heap.size ≤ w3.heap.size := HB3.out.size
      generalize (w3.alloc (Obj.cells #[Value.int IntKind.i64 p0, Value.int IntKind.i64 q0] 30)) = w4 at L12 HP4 L54 L84 HB4 ⊢
      generalize w3.heap.size = b12 at L12 hb12 ⊢
      have hb12 := Aside0.mk hb12
      clear HP3 L53 L83 HB3 HCT HP L5 L8 HB z0 z1 z2 z3
      have z0 := kcell (HL.out w4 HB4.out) k hlt
      rw [HX.out] at z0
      by_cases hk0 : x.f0 = 0
      · have hk1 : (x.f0 == 0) = true := by simpa using hk0
        go_upto_region 6 with (fail)
        obtain ⟨hN, hsw⟩ := HP4.out.sw
        have HT := Aside0.mk (@take_st (ownOf (Value.slice A2 S'.used.length c2) (Value.slice A3 S'.fs.length c3) (Value.slice A4 A'.length c4) w4.heap.size hN) w0.heap.size g S' w4 hsw HB4.out.size)
        obtain ⟨P, hPP⟩ : ∃ r, S'.takeP = r := ⟨_, rfl⟩
        obtain ⟨G, hGG⟩ : ∃ r, S'.takeG = r := ⟨_, rfl⟩
        rw [hPP, hGG] at HT
        have hPP := Aside0.mk hPP
        have hGG := Aside0.mk hGG
        have HW := Aside0.mk hsw
        clear hsw
        go_upto_region 7 with (first | (go_at_call 13; refine HT.out.mono ?_; rintro e w5 ⟨rfl, hs, hb, hst, hsz⟩; have HP5 := Aside0.mk (PlF.slab HP4.out hN hs hst); have L55 := Aside0.mk (Loc.slab L54.out hst); have L85 := Aside0.mk (Loc.slab L84.out hst); have L125 := Aside0.mk (Loc.slab L12.out hst); have HB5 := Aside0.mk (HB4.out.trans hb); clear hs hb hst hsz))
        clear HT HW HP4 L54 L84 L12 HB4 z0
        have L136 := Aside0.mk (Loc.new HP5.out #[Value.int IntKind.i64 P, Value.int IntKind.i64 G] 30 (by decide))
        have HP6 := Aside0.mk (PlF.below HP5.out (below_al w5 (Obj.cells #[Value.int IntKind.i64 P, Value.int IntKind.i64 G] 30)))
        have L56 := Aside0.mk (Loc.below L55.out (below_al w5 (Obj.cells #[Value.int IntKind.i64 P, Value.int IntKind.i64 G] 30)))
        have L86 := Aside0.mk (Loc.below L85.out (below_al w5 (Obj.cells #[Value.int IntKind.i64 P, Value.int IntKind.i64 G] 30)))
        have L126 := Aside0.mk (Loc.below L125.out (below_al w5 (Obj.cells #[Value.int IntKind.i64 P, Value.int IntKind.i64 G] 30)))
        have HB6 := Aside0.mk (below_step HB5.out (below_al w5 (Obj.cells #[Value.int IntKind.i64 P, Value.int IntKind.i64 G] 30)))
        generalize (w5.alloc (Obj.cells #[Value.int IntKind.i64 P, Value.int IntKind.i64 G] 30)) = w6 at L136 HP6 L56 L86 L126 HB6 ⊢
        have h1213 : b12 ≠ w5.heap.size := by have := blk_lt L125.out.1; omega
        generalize w5.heap.size = b13 at L136 h1213 ⊢
        have h1312 : b13 ≠ b12 := fun e => h1213 e.symm
        have h1213 := Aside0.mk h1213
        have h1312 := Aside0.mk h1312
        clear HP5 L55 L85 L125 HB5
        have y0 := (blk_cell L56.out.1 0).trans (show _ = some (Value.int .i64 S'.m) from rfl)
        have y1 := (blk_cell L56.out.1 1).trans (show _ = some (Value.int .i64 S'.n) from rfl)
        have y2 := (blk_cell L56.out.1 2).trans (show _ = some (Value.slice A2 S'.used.length c2) from rfl)
        have y3 := (blk_cell L56.out.1 3).trans (show _ = some (Value.slice A3 S'.fs.length c3) from rfl)
        have y4 := (blk_cell L56.out.1 4).trans (show _ = some (Value.slice A4 A'.length c4) from rfl)
        have HRT := Aside0.mk (complineref05_Take.calls S'.m S'.n (fun k => some k = (Value.slice A2 S'.used.length c2).ownBlock) (Value.slice A2 S'.used.length c2) S'.used (fun k => some k = (Value.slice A3 S'.fs.length c3).ownBlock) (Value.slice A3 S'.fs.length c3) S'.fs (fun k => some k = (Value.slice A4 A'.length c4).ownBlock) (Value.slice A4 A'.length c4) A' _ _ _ _ _ _ _ _ w0 w6 HB6.out HP6.out.r2 (fun k e => HP6.out.d23 k e) HP6.out.r3 (fun k e e2 => HP6.out.d23 k e2 e) HP6.out.r4 (SSt.ref_take HP6.out.al HP6.out.inv))
        rw [hPP.out, hGG.out] at HRT
        go_upto_region 8 with (first | (go_at_call 28; refine HRT.out.mono ?_; rintro e w7 ⟨x2, x3, x4, rfl, h2, h3, h4, hb, hkp⟩; (obtain ⟨B2, e2, rfl⟩ := Kd.R_slice h2); (obtain ⟨B3, e3, rfl⟩ := Kd.R_slice h3); (obtain ⟨B4, e4, rfl⟩ := Kd.R_slice h4); have H2 := Aside0.mk h2; have H3 := Aside0.mk h3; have H4 := Aside0.mk h4; have HK := Aside0.mk hkp; have HB7 := Aside0.mk hb; clear h2 h3 h4 hb hkp))
        have HAL := SSt.alive_take' HP6.out.al HP6.out.inv
        rw [hPP.out, hGG.out] at HAL
        have HP7 := Aside0.mk (PlF.ref (R' := S'.take) HP6.out HK.out H2.out H3.out H4.out HAL (SSt.take_inv HP6.out.inv))
        have L57 := Aside0.mk (Loc.ref L56.out HP6.out HK.out H4.out)
        have L87 := Aside0.mk (Loc.ref L86.out HP6.out HK.out H4.out)
        have L127 := Aside0.mk (Loc.ref L126.out HP6.out HK.out H4.out)
        have L137 := Aside0.mk (Loc.ref L136.out HP6.out HK.out H4.out)
        have hmS := (SSt.take_m S').1
        have hnS := (SSt.take_m S').2
        have hTE : S'.takeE = if S'.full then 6 else 0 := rfl
        have hA1 : (if S'.full then A' else A' ++ [(⟨P, G⟩ : S30)]) = (if S'.full then A' else A' ++ [⟨P, G⟩]) := rfl
        clear HK H2 H3 H4 HRT HAL L56 L86 L126 L136 HP6 HB6 y0 y1 y2 y3 y4
        generalize hS1 : S'.take = S1 at HP7 hmS hnS ⊢
        generalize (if S'.full then A' else A' ++ [(⟨P, G⟩ : S30)]) = A1 at HP7 L57 L87 L127 L137 ⊢
        have hS1 := Aside0.mk hS1
        clear hA1
        have L158 := Aside0.mk (Loc.below (Loc.new HP7.out #[Value.int IntKind.i64 S'.m, Value.int IntKind.i64 S'.n, Value.slice B2 S1.used.length e2, Value.slice B3 S1.fs.length e3, Value.slice B4 A1.length e4] 44 (by decide)) (below_al (w7.alloc (Obj.cells #[Value.int IntKind.i64 S'.m, Value.int IntKind.i64 S'.n, Value.slice B2 S1.used.length e2, Value.slice B3 S1.fs.length e3, Value.slice B4 A1.length e4] 44)) (Obj.cells #[Value.int IntKind.i64 P, Value.int IntKind.i64 G] 30)))
        have HP7b := PlF.below HP7.out (below_al w7 (Obj.cells #[Value.int IntKind.i64 S'.m, Value.int IntKind.i64 S'.n, Value.slice B2 S1.used.length e2, Value.slice B3 S1.fs.length e3, Value.slice B4 A1.length e4] 44))
        have L168 := Loc.new HP7b #[Value.int IntKind.i64 P, Value.int IntKind.i64 G] 30 (by decide)
        rw [World.size_alloc] at L168
        have L168 := Aside0.mk L168
        have HP8 := Aside0.mk (PlF.below HP7b (below_al (w7.alloc (Obj.cells #[Value.int IntKind.i64 S'.m, Value.int IntKind.i64 S'.n, Value.slice B2 S1.used.length e2, Value.slice B3 S1.fs.length e3, Value.slice B4 A1.length e4] 44)) (Obj.cells #[Value.int IntKind.i64 P, Value.int IntKind.i64 G] 30)))
        clear HP7b
        have L58 := Aside0.mk (Loc.below (Loc.below L57.out (below_al w7 (Obj.cells #[Value.int IntKind.i64 S'.m, Value.int IntKind.i64 S'.n, Value.slice B2 S1.used.length e2, Value.slice B3 S1.fs.length e3, Value.slice B4 A1.length e4] 44))) (below_al (w7.alloc (Obj.cells #[Value.int IntKind.i64 S'.m, Value.int IntKind.i64 S'.n, Value.slice B2 S1.used.length e2, Value.slice B3 S1.fs.length e3, Value.slice B4 A1.length e4] 44)) (Obj.cells #[Value.int IntKind.i64 P, Value.int IntKind.i64 G] 30)))
        have L88 := Aside0.mk (Loc.below (Loc.below L87.out (below_al w7 (Obj.cells #[Value.int IntKind.i64 S'.m, Value.int IntKind.i64 S'.n, Value.slice B2 S1.used.length e2, Value.slice B3 S1.fs.length e3, Value.slice B4 A1.length e4] 44))) (below_al (w7.alloc (Obj.cells #[Value.int IntKind.i64 S'.m, Value.int IntKind.i64 S'.n, Value.slice B2 S1.used.length e2, Value.slice B3 S1.fs.length e3, Value.slice B4 A1.length e4] 44)) (Obj.cells #[Value.int IntKind.i64 P, Value.int IntKind.i64 G] 30)))
        have L128 := Aside0.mk (Loc.below (Loc.below L127.out (below_al w7 (Obj.cells #[Value.int IntKind.i64 S'.m, Value.int IntKind.i64 S'.n, Value.slice B2 S1.used.length e2, Value.slice B3 S1.fs.length e3, Value.slice B4 A1.length e4] 44))) (below_al (w7.alloc (Obj.cells #[Value.int IntKind.i64 S'.m, Value.int IntKind.i64 S'.n, Value.slice B2 S1.used.length e2, Value.slice B3 S1.fs.length e3, Value.slice B4 A1.length e4] 44)) (Obj.cells #[Value.int IntKind.i64 P, Value.int IntKind.i64 G] 30)))
        have L138 := Aside0.mk (Loc.below (Loc.below L137.out (below_al w7 (Obj.cells #[Value.int IntKind.i64 S'.m, Value.int IntKind.i64 S'.n, Value.slice B2 S1.used.length e2, Value.slice B3 S1.fs.length e3, Value.slice B4 A1.length e4] 44))) (below_al (w7.alloc (Obj.cells #[Value.int IntKind.i64 S'.m, Value.int IntKind.i64 S'.n, Value.slice B2 S1.used.length e2, Value.slice B3 S1.fs.length e3, Value.slice B4 A1.length e4] 44)) (Obj.cells #[Value.int IntKind.i64 P, Value.int IntKind.i64 G] 30)))
        have HB8 := Aside0.mk (below_step (below_step HB7.out (below_al w7 (Obj.cells #[Value.int IntKind.i64 S'.m, Value.int IntKind.i64 S'.n, Value.slice B2 S1.used.length e2, Value.slice B3 S1.fs.length e3, Value.slice B4 A1.length e4] 44))) (below_al (w7.alloc (Obj.cells #[Value.int IntKind.i64 S'.m, Value.int IntKind.i64 S'.n, Value.slice B2 S1.used.length e2, Value.slice B3 S1.fs.length e3, Value.slice B4 A1.length e4] 44)) (Obj.cells #[Value.int IntKind.i64 P, Value.int IntKind.i64 G] 30)))
        generalize ((w7.alloc (Obj.cells #[Value.int IntKind.i64 S'.m, Value.int IntKind.i64 S'.n, Value.slice B2 S1.used.length e2, Value.slice B3 S1.fs.length e3, Value.slice B4 A1.length e4] 44)).alloc (Obj.cells #[Value.int IntKind.i64 P, Value.int IntKind.i64 G] 30)) = w8 at L158 L168 HP8 L58 L88 L128 L138 HB8 ⊢
        generalize w7.heap.size + 1 = b16 at L168 ⊢
        have h515 : b5 ≠ w7.heap.size := by have := blk_lt L57.out.1; omega
        generalize w7.heap.size = b15 at L158 h515 ⊢
        have h155 : b15 ≠ b5 := fun e => h515 e.symm
        have h515 := Aside0.mk h515
        have h155 := Aside0.mk h155
        clear HP7 L57 L87 L127 L137 HB7
        have y0 := (blk_cell L138.out.1 0).trans (show _ = some (Value.int .i64 P) from rfl)
        have y1 := (blk_cell L138.out.1 1).trans (show _ = some (Value.int .i64 G) from rfl)
        have y2 := (blk_cell L168.out.1 0).trans (show _ = some (Value.int .i64 P) from rfl)
        have y3 := (blk_cell L168.out.1 1).trans (show _ = some (Value.int .i64 G) from rfl)
        go_upto_region 10 with (fail)
        by_cases hf : S'.full
        · rw [hTE, if_pos hf]
          clear y0 y1 y2 y3
          go_upto_region 12 with (fail)
          have m0 := (blk_cell L158.out.1 0).trans (show _ = some (Value.int .i64 S'.m) from rfl)
          have m1 := (blk_cell L158.out.1 1).trans (show _ = some (Value.int .i64 S'.n) from rfl)
          rw [← hmS] at m0
          rw [← hnS] at m1
          have m2 := (blk_cell L158.out.1 2).trans (show _ = some (Value.slice B2 S1.used.length e2) from rfl)
          have m3 := (blk_cell L158.out.1 3).trans (show _ = some (Value.slice B3 S1.fs.length e3) from rfl)
          have m4 := (blk_cell L158.out.1 4).trans (show _ = some (Value.slice B4 A1.length e4) from rfl)
          have n0 := (blk_cell L138.out.1 0).trans (show _ = some (Value.int .i64 P) from rfl)
          have n1 := (blk_cell L138.out.1 1).trans (show _ = some (Value.int .i64 G) from rfl)
          have k0 := (blk_cell L58.out.1 0).trans (show _ = some (Value.int .i64 S'.m) from rfl)
          have k1 := (blk_cell L58.out.1 1).trans (show _ = some (Value.int .i64 S'.n) from rfl)
          have k2 := (blk_cell L58.out.1 2).trans (show _ = some (Value.slice A2 S'.used.length c2) from rfl)
          have k3 := (blk_cell L58.out.1 3).trans (show _ = some (Value.slice A3 S'.fs.length c3) from rfl)
          have k4 := (blk_cell L58.out.1 4).trans (show _ = some (Value.slice A4 A'.length c4) from rfl)
          have k5 := (blk_cell L128.out.1 0).trans (show _ = some (Value.int .i64 p0) from rfl)
          have k6 := (blk_cell L128.out.1 1).trans (show _ = some (Value.int .i64 q0) from rfl)
          have hn1 : b5 ≠ b12 := blk_ne L58.out.1 L128.out.1 (by decide)
          have hn2 : b12 ≠ b5 := fun e => hn1 e.symm
          have hn3 : b13 ≠ b5 := fun e => blk_ne L58.out.1 L138.out.1 (by decide) e.symm
          have hn4 : b13 ≠ b12 := h1312.out
          have hn5 : b15 ≠ b5 := h155.out
          have hn6 : b15 ≠ b12 := blk_ne L158.out.1 L128.out.1 (by decide)
          have f0 := blk_frozen L58.out.1 0
          have f1 := blk_frozen L58.out.1 1
          have f2 := blk_frozen L58.out.1 2
          have f3 := blk_frozen L58.out.1 3
          have f4 := blk_frozen L58.out.1 4
          have f5 := blk_frozen L128.out.1 0
          have f6 := blk_frozen L128.out.1 1
          have hmS2 := Aside0.mk hmS
          have hnS2 := Aside0.mk hnS
          clear hmS hnS
          go_region
          clear m0 m1 m2 m3 m4 n0 n1 k0 k1 k2 k3 k4 k5 k6 f0 f1 f2 f3 f4 f5 f6 hn1 hn2 hn3 hn4 hn5 hn6
          have hne12 : b12 ≠ b5 := fun e => blk_ne L58.out.1 L128.out.1 (by decide) e.symm
          have hne8 : b8 ≠ b12 := blk_ne L88.out.1 L128.out.1 (by decide)
          obtain ⟨g1, g2, g3, g4, g5⟩ := put5 HP8.out L58.out L88.out L128.out (fun e => hne58 e.symm) hne12 HB8.out hb5.out (Value.int IntKind.i64 S1.m) (Value.int IntKind.i64 S1.n) (Value.slice B2 S1.used.length e2) (Value.slice B3 S1.fs.length e3) (Value.slice B4 A1.length e4)
          obtain ⟨i1, i2, i3, i4, i5⟩ := put2 g1 g4 g3 g2 hne8 (fun e => hne12 e.symm) g5 hb12.out (Value.int IntKind.i64 P) (Value.int IntKind.i64 G)
          have HPd := Aside0.mk (PlF.below i1 (below_dw _))
          have L12d := Aside0.mk (Loc.below i2 (below_dw _))
          have L8d := Aside0.mk (Loc.below i3 (below_dw _))
          have L5d := Aside0.mk (Loc.below i4 (below_dw _))
          have HBd := Aside0.mk (below_step i5 (below_dw _))
          clear g1 g2 g3 g4 g5 i1 i2 i3 i4 i5 hne12 hne8
          generalize ((((((((w8.setCell ⟨b5, 0, none⟩ (Value.int IntKind.i64 S1.m)).setCell ⟨b5, 1, none⟩ (Value.int IntKind.i64 S1.n)).setCell ⟨b5, 2, none⟩ (Value.slice B2 S1.used.length e2)).setCell ⟨b5, 3, none⟩ (Value.slice B3 S1.fs.length e3)).setCell ⟨b5, 4, none⟩ (Value.slice B4 A1.length e4)).setCell ⟨b12, 0, none⟩ (Value.int IntKind.i64 P)).setCell ⟨b12, 1, none⟩ (Value.int IntKind.i64 G)).drew) = wd at HPd L12d L8d L5d HBd ⊢
          have z0 := kcell (HL.out wd HBd.out) k hlt
          rw [HX.out, hk0] at z0
          go_upto_region 19 with (fail)
          clear z0
          obtain ⟨hNz, hswz⟩ := HPd.out.sw
          obtain ⟨_, hz2, hC2⟩ := Fl.Ci' HPd.out.r2
          obtain ⟨_, hz3, hC3⟩ := Fl.Ci' HPd.out.r3
          obtain ⟨_, hz4, hC4⟩ := Fl.C30' HPd.out.r4
          have HAK := Aside0.mk (@alike_st (ownOf (Value.slice B2 S1.used.length e2) (Value.slice B3 S1.fs.length e3) (Value.slice B4 A1.length e4) wd.heap.size hNz) w0.heap.size g S1 A1 B2 B3 B4 e2 e3 e4 P G wd hswz HPd.out.al hC2 hz2 hC3 hz3 hC4 hz4)
          clear hswz hC2 hC3 hC4
          have t0 := (blk_cell L5d.out.1 0).trans (show _ = some (Value.int .i64 S1.m) from rfl)
          have t1 := (blk_cell L5d.out.1 1).trans (show _ = some (Value.int .i64 S1.n) from rfl)
          have t2 := (blk_cell L5d.out.1 2).trans (show _ = some (Value.slice B2 S1.used.length e2) from rfl)
          have t3 := (blk_cell L5d.out.1 3).trans (show _ = some (Value.slice B3 S1.fs.length e3) from rfl)
          have t4 := (blk_cell L5d.out.1 4).trans (show _ = some (Value.slice B4 A1.length e4) from rfl)
          have s0 := (blk_cell L12d.out.1 0).trans (show _ = some (Value.int .i64 P) from rfl)
          have s1 := (blk_cell L12d.out.1 1).trans (show _ = some (Value.int .i64 G) from rfl)
          go_upto_region 3 with (first | (go_at_call 23; refine HAK.out.mono ?_; rintro e wz ⟨rfl, hb⟩; have HPz := Aside0.mk (PlF.below HPd.out hb); have L5z := Aside0.mk (Loc.below L5d.out hb); have L8z := Aside0.mk (Loc.below L8d.out hb); have HBz := Aside0.mk (below_step HBd.out hb); clear hb))
          go_wp2
          go_roundg g'
          case measure => omega
          case rel => exact ⟨k + 1, S1, A1, T', _, _, _, rfl, by omega, by omega, ⟨hmS2.out.trans hm.out⟩, ⟨hnS2.out.trans hn.out⟩, HPz, L5z, L8z, HBz⟩
        · rw [hTE, if_neg hf]
          clear y2 y3
          go_upto_region 12 with (first | ((with_reducible refine gate_builtin (b := .append) (xs := #[.tmp 63, .tmp 65]) rfl ?_); at_builtin; refine Kd.R_append k30 (w0 := w0) w0.heap.size rfl (.tmp 63) (.tmp 65) 28 30 (.agg #[.int .i64 0, .int .i64 0]) 16 rfl Try.underlying28 slab_info30 rfl (by decide) (by omega) (.slice At T'.length ct) T' ⟨P, G⟩ [.int .i64 P, .int .i64 G] (fun _ => True) (fun _ => False) rfl rfl ?aP (fun _ hk => hk.elim) ?aF ?aO ?aB ?aS ?aL ?_; (case aP => exact k30_mkM _ _ _ _); (case aB => exact HB8.out); (case aF => exact (fun _ _ => trivial)); (case aO => exact Kd.R_mono HP8.out.t (fun _ _ => trivial)); (case aS => exact HB8.out.size); (case aL => omega); intro v1 w9 ho hb hg hat; (obtain ⟨A9, c9, rfl⟩ := Kd.R_slice ho); have HP9 := Aside0.mk (PlF.app HP8.out ho hg hat); have L59 := Aside0.mk (Loc.app L58.out hg hat); have L89 := Aside0.mk (Loc.app L88.out hg hat); have L129 := Aside0.mk (Loc.app L128.out hg hat); have L139 := Aside0.mk (Loc.app L138.out hg hat); have L159 := Aside0.mk (Loc.app L158.out hg hat); have HB9 := Aside0.mk hb; clear ho hb hg hat))
          clear y0 y1 HP8 L58 L88 L128 L138 L158 L168 HB8
          have m0 := (blk_cell L159.out.1 0).trans (show _ = some (Value.int .i64 S'.m) from rfl)
          have m1 := (blk_cell L159.out.1 1).trans (show _ = some (Value.int .i64 S'.n) from rfl)
          rw [← hmS] at m0
          rw [← hnS] at m1
          have m2 := (blk_cell L159.out.1 2).trans (show _ = some (Value.slice B2 S1.used.length e2) from rfl)
          have m3 := (blk_cell L159.out.1 3).trans (show _ = some (Value.slice B3 S1.fs.length e3) from rfl)
          have m4 := (blk_cell L159.out.1 4).trans (show _ = some (Value.slice B4 A1.length e4) from rfl)
          have n0 := (blk_cell L139.out.1 0).trans (show _ = some (Value.int .i64 P) from rfl)
          have n1 := (blk_cell L139.out.1 1).trans (show _ = some (Value.int .i64 G) from rfl)
          have k0 := (blk_cell L59.out.1 0).trans (show _ = some (Value.int .i64 S'.m) from rfl)
          have k1 := (blk_cell L59.out.1 1).trans (show _ = some (Value.int .i64 S'.n) from rfl)
          have k2 := (blk_cell L59.out.1 2).trans (show _ = some (Value.slice A2 S'.used.length c2) from rfl)
          have k3 := (blk_cell L59.out.1 3).trans (show _ = some (Value.slice A3 S'.fs.length c3) from rfl)
          have k4 := (blk_cell L59.out.1 4).trans (show _ = some (Value.slice A4 A'.length c4) from rfl)
          have k5 := (blk_cell L129.out.1 0).trans (show _ = some (Value.int .i64 p0) from rfl)
          have k6 := (blk_cell L129.out.1 1).trans (show _ = some (Value.int .i64 q0) from rfl)
          have hn1 : b5 ≠ b12 := blk_ne L59.out.1 L129.out.1 (by decide)
          have hn2 : b12 ≠ b5 := fun e => hn1 e.symm
          have hn3 : b13 ≠ b5 := fun e => blk_ne L59.out.1 L139.out.1 (by decide) e.symm
          have hn4 : b13 ≠ b12 := h1312.out
          have hn5 : b15 ≠ b5 := h155.out
          have hn6 : b15 ≠ b12 := blk_ne L159.out.1 L129.out.1 (by decide)
          have f0 := blk_frozen L59.out.1 0
          have f1 := blk_frozen L59.out.1 1
          have f2 := blk_frozen L59.out.1 2
          have f3 := blk_frozen L59.out.1 3
          have f4 := blk_frozen L59.out.1 4
          have f5 := blk_frozen L129.out.1 0
          have f6 := blk_frozen L129.out.1 1
          have hmS2 := Aside0.mk hmS
          have hnS2 := Aside0.mk hnS
          clear hmS hnS
          go_region
          clear m0 m1 m2 m3 m4 n0 n1 k0 k1 k2 k3 k4 k5 k6 f0 f1 f2 f3 f4 f5 f6 hn1 hn2 hn3 hn4 hn5 hn6
          have hne12 : b12 ≠ b5 := fun e => blk_ne L59.out.1 L129.out.1 (by decide) e.symm
          have hne8 : b8 ≠ b12 := blk_ne L89.out.1 L129.out.1 (by decide)
          obtain ⟨g1, g2, g3, g4, g5⟩ := put5 HP9.out L59.out L89.out L129.out (fun e => hne58 e.symm) hne12 HB9.out hb5.out (Value.int IntKind.i64 S1.m) (Value.int IntKind.i64 S1.n) (Value.slice B2 S1.used.length e2) (Value.slice B3 S1.fs.length e3) (Value.slice B4 A1.length e4)
          obtain ⟨i1, i2, i3, i4, i5⟩ := put2 g1 g4 g3 g2 hne8 (fun e => hne12 e.symm) g5 hb12.out (Value.int IntKind.i64 P) (Value.int IntKind.i64 G)
          have HPd := Aside0.mk (PlF.below i1 (below_dw _))
          have L12d := Aside0.mk (Loc.below i2 (below_dw _))
          have L8d := Aside0.mk (Loc.below i3 (below_dw _))
          have L5d := Aside0.mk (Loc.below i4 (below_dw _))
          have HBd := Aside0.mk (below_step i5 (below_dw _))
          clear g1 g2 g3 g4 g5 i1 i2 i3 i4 i5 hne12 hne8
          generalize ((((((((w9.setCell ⟨b5, 0, none⟩ (Value.int IntKind.i64 S1.m)).setCell ⟨b5, 1, none⟩ (Value.int IntKind.i64 S1.n)).setCell ⟨b5, 2, none⟩ (Value.slice B2 S1.used.length e2)).setCell ⟨b5, 3, none⟩ (Value.slice B3 S1.fs.length e3)).setCell ⟨b5, 4, none⟩ (Value.slice B4 A1.length e4)).setCell ⟨b12, 0, none⟩ (Value.int IntKind.i64 P)).setCell ⟨b12, 1, none⟩ (Value.int IntKind.i64 G)).drew) = wd at HPd L12d L8d L5d HBd ⊢
          have z0 := kcell (HL.out wd HBd.out) k hlt
          rw [HX.out, hk0] at z0
          go_upto_region 19 with (fail)
          clear z0
          obtain ⟨hNz, hswz⟩ := HPd.out.sw
          obtain ⟨_, hz2, hC2⟩ := Fl.Ci' HPd.out.r2
          obtain ⟨_, hz3, hC3⟩ := Fl.Ci' HPd.out.r3
          obtain ⟨_, hz4, hC4⟩ := Fl.C30' HPd.out.r4
          have HAK := Aside0.mk (@alike_st (ownOf (Value.slice B2 S1.used.length e2) (Value.slice B3 S1.fs.length e3) (Value.slice B4 A1.length e4) wd.heap.size hNz) w0.heap.size g S1 A1 B2 B3 B4 e2 e3 e4 P G wd hswz HPd.out.al hC2 hz2 hC3 hz3 hC4 hz4)
          clear hswz hC2 hC3 hC4
          have t0 := (blk_cell L5d.out.1 0).trans (show _ = some (Value.int .i64 S1.m) from rfl)
          have t1 := (blk_cell L5d.out.1 1).trans (show _ = some (Value.int .i64 S1.n) from rfl)
          have t2 := (blk_cell L5d.out.1 2).trans (show _ = some (Value.slice B2 S1.used.length e2) from rfl)
          have t3 := (blk_cell L5d.out.1 3).trans (show _ = some (Value.slice B3 S1.fs.length e3) from rfl)
          have t4 := (blk_cell L5d.out.1 4).trans (show _ = some (Value.slice B4 A1.length e4) from rfl)
          have s0 := (blk_cell L12d.out.1 0).trans (show _ = some (Value.int .i64 P) from rfl)
          have s1 := (blk_cell L12d.out.1 1).trans (show _ = some (Value.int .i64 G) from rfl)
          go_upto_region 3 with (first | (go_at_call 23; refine HAK.out.mono ?_; rintro e wz ⟨rfl, hb⟩; have HPz := Aside0.mk (PlF.below HPd.out hb); have L5z := Aside0.mk (Loc.below L5d.out hb); have L8z := Aside0.mk (Loc.below L8d.out hb); have HBz := Aside0.mk (below_step HBd.out hb); clear hb))
          go_wp2
          go_roundg g'
          case measure => omega
          case rel =>
            rw [List.length_append, List.length_singleton] at HPz L5z L8z
            exact ⟨k + 1, S1, A1, (T' ++ [⟨P, G⟩]), _, _, _, rfl, by omega, by simp; omega, ⟨hmS2.out.trans hm.out⟩, ⟨hnS2.out.trans hn.out⟩, HPz, L5z, L8z, HBz⟩
      · have hk1 : (x.f0 == 0) = false := by simpa using hk0
        by_cases hk2 : x.f0 = 1 ∨ x.f0 = 2
        · have hk3 : (x.f0 == 1) = true ∨ ((x.f0 == 1) = false ∧ (x.f0 == 2) = true) := by
            rcases hk2 with e | e
            · exact .inl (by simpa using e)
            · exact .inr ⟨by rw [e]; decide, by simpa using e⟩
          have hk4 : ¬ x.f0 = 0 := hk0
          clear hk2 hk0
          rcases hk3 with hk3 | ⟨hk3, hk4⟩
          · go_upto_region 14 with (fail)
            obtain ⟨hN, hsw⟩ := HP4.out.sw
            have HT := Aside0.mk (@free_st (ownOf (Value.slice A2 S'.used.length c2) (Value.slice A3 S'.fs.length c3) (Value.slice A4 A'.length c4) w4.heap.size hN) w0.heap.size g S' w4 p0 q0 hsw HB4.out.size)
            clear hsw
            have y0 := (blk_cell L12.out.1 0).trans (show _ = some (Value.int .i64 p0) from rfl)
            have y1 := (blk_cell L12.out.1 1).trans (show _ = some (Value.int .i64 q0) from rfl)
            go_upto_region 15 with (first | (go_at_call 11; refine HT.out.mono ?_; rintro e w5 ⟨rfl, hs, hb, hst, hsz⟩; have HP5 := Aside0.mk (PlF.slab HP4.out hN hs hst); have L55 := Aside0.mk (Loc.slab L54.out hst); have L85 := Aside0.mk (Loc.slab L84.out hst); have L125 := Aside0.mk (Loc.slab L12.out hst); have HB5 := Aside0.mk (HB4.out.trans hb); clear hs hb hst hsz))
            clear HT HP4 L54 L84 L12 HB4 z0 y0 y1
            have y0 := (blk_cell L125.out.1 0).trans (show _ = some (Value.int .i64 p0) from rfl)
            have y1 := (blk_cell L125.out.1 1).trans (show _ = some (Value.int .i64 q0) from rfl)
            have t0 := (blk_cell L55.out.1 0).trans (show _ = some (Value.int .i64 S'.m) from rfl)
            have t1 := (blk_cell L55.out.1 1).trans (show _ = some (Value.int .i64 S'.n) from rfl)
            have t2 := (blk_cell L55.out.1 2).trans (show _ = some (Value.slice A2 S'.used.length c2) from rfl)
            have t3 := (blk_cell L55.out.1 3).trans (show _ = some (Value.slice A3 S'.fs.length c3) from rfl)
            have t4 := (blk_cell L55.out.1 4).trans (show _ = some (Value.slice A4 A'.length c4) from rfl)
            have HRF := Aside0.mk (complineref05_Free.calls 200000 S'.m S'.n (fun k => some k = (Value.slice A2 S'.used.length c2).ownBlock) (Value.slice A2 S'.used.length c2) S'.used (fun k => some k = (Value.slice A3 S'.fs.length c3).ownBlock) (Value.slice A3 S'.fs.length c3) S'.fs (fun k => some k = (Value.slice A4 A'.length c4).ownBlock) (Value.slice A4 A'.length c4) A' p0 q0 _ _ _ _ _ _ w0 w5 HB5.out HP5.out.r2 (fun k e => HP5.out.d23 k e) HP5.out.r3 (fun k e e2 => HP5.out.d23 k e2 e) HP5.out.r4 (SSt.ref_free HP5.out.al HP5.out.inv p0 q0))
            go_upto_region 16 with (first | (go_at_call 29; refine HRF.out.mono ?_; rintro e w6 ⟨x2, x3, x4, rfl, h2, h3, h4, hb, hkp⟩; (obtain ⟨B2, e2, rfl⟩ := Kd.R_slice h2); (obtain ⟨B3, e3, rfl⟩ := Kd.R_slice h3); (obtain ⟨B4, e4, rfl⟩ := Kd.R_slice h4); have H2 := Aside0.mk h2; have H3 := Aside0.mk h3; have H4 := Aside0.mk h4; have HK := Aside0.mk hkp; have HB6 := Aside0.mk hb; clear h2 h3 h4 hb hkp))
            have HAL := SSt.alive_free' HP5.out.al p0 q0
            have HP6 := Aside0.mk (PlF.ref (R' := S'.free p0 q0) HP5.out HK.out H2.out H3.out H4.out HAL (SSt.free_inv HP5.out.inv p0 q0))
            have L56 := Aside0.mk (Loc.ref L55.out HP5.out HK.out H4.out)
            have L86 := Aside0.mk (Loc.ref L85.out HP5.out HK.out H4.out)
            have L126 := Aside0.mk (Loc.ref L125.out HP5.out HK.out H4.out)
            have hmS := (SSt.free_m S' p0 q0).1
            have hnS := (SSt.free_m S' p0 q0).2
            clear HK H2 H3 H4 HRF HAL L55 L85 L125 HP5 HB5 y0 y1 t0 t1 t2 t3 t4
            generalize S'.free p0 q0 = S1 at HP6 hmS hnS ⊢
            generalize (if S'.isAlive p0 q0 = true then A'.filter (fun t => !(hit p0 q0 t)) else A') = A1 at HP6 L56 L86 L126 ⊢
            have L197 := Aside0.mk (Loc.new HP6.out #[Value.int IntKind.i64 S'.m, Value.int IntKind.i64 S'.n, Value.slice B2 S1.used.length e2, Value.slice B3 S1.fs.length e3, Value.slice B4 A1.length e4] 44 (by decide))
            have HP7 := Aside0.mk (PlF.below HP6.out (below_al w6 (Obj.cells #[Value.int IntKind.i64 S'.m, Value.int IntKind.i64 S'.n, Value.slice B2 S1.used.length e2, Value.slice B3 S1.fs.length e3, Value.slice B4 A1.length e4] 44)))
            have L57 := Aside0.mk (Loc.below L56.out (below_al w6 (Obj.cells #[Value.int IntKind.i64 S'.m, Value.int IntKind.i64 S'.n, Value.slice B2 S1.used.length e2, Value.slice B3 S1.fs.length e3, Value.slice B4 A1.length e4] 44)))
            have L87 := Aside0.mk (Loc.below L86.out (below_al w6 (Obj.cells #[Value.int IntKind.i64 S'.m, Value.int IntKind.i64 S'.n, Value.slice B2 S1.used.length e2, Value.slice B3 S1.fs.length e3, Value.slice B4 A1.length e4] 44)))
            have L127 := Aside0.mk (Loc.below L126.out (below_al w6 (Obj.cells #[Value.int IntKind.i64 S'.m, Value.int IntKind.i64 S'.n, Value.slice B2 S1.used.length e2, Value.slice B3 S1.fs.length e3, Value.slice B4 A1.length e4] 44)))
            have HB7 := Aside0.mk (below_step HB6.out (below_al w6 (Obj.cells #[Value.int IntKind.i64 S'.m, Value.int IntKind.i64 S'.n, Value.slice B2 S1.used.length e2, Value.slice B3 S1.fs.length e3, Value.slice B4 A1.length e4] 44)))
            have h519 : b5 ≠ w6.heap.size := by have := blk_lt L56.out.1; omega
            generalize (w6.alloc (Obj.cells #[Value.int IntKind.i64 S'.m, Value.int IntKind.i64 S'.n, Value.slice B2 S1.used.length e2, Value.slice B3 S1.fs.length e3, Value.slice B4 A1.length e4] 44)) = w7 at L197 HP7 L57 L87 L127 HB7 ⊢
            generalize w6.heap.size = b19 at L197 h519 ⊢
            have h195 : b19 ≠ b5 := fun e => h519 e.symm
            clear h519 HP6 L56 L86 L126 HB6
            have m0 := (blk_cell L197.out.1 0).trans (show _ = some (Value.int .i64 S'.m) from rfl)
            have m1 := (blk_cell L197.out.1 1).trans (show _ = some (Value.int .i64 S'.n) from rfl)
            rw [← hmS] at m0
            rw [← hnS] at m1
            have m2 := (blk_cell L197.out.1 2).trans (show _ = some (Value.slice B2 S1.used.length e2) from rfl)
            have m3 := (blk_cell L197.out.1 3).trans (show _ = some (Value.slice B3 S1.fs.length e3) from rfl)
            have m4 := (blk_cell L197.out.1 4).trans (show _ = some (Value.slice B4 A1.length e4) from rfl)
            have k0 := (blk_cell L57.out.1 0).trans (show _ = some (Value.int .i64 S'.m) from rfl)
            have k1 := (blk_cell L57.out.1 1).trans (show _ = some (Value.int .i64 S'.n) from rfl)
            have k2 := (blk_cell L57.out.1 2).trans (show _ = some (Value.slice A2 S'.used.length c2) from rfl)
            have k3 := (blk_cell L57.out.1 3).trans (show _ = some (Value.slice A3 S'.fs.length c3) from rfl)
            have k4 := (blk_cell L57.out.1 4).trans (show _ = some (Value.slice A4 A'.length c4) from rfl)
            have f0 := blk_frozen L57.out.1 0
            have f1 := blk_frozen L57.out.1 1
            have f2 := blk_frozen L57.out.1 2
            have f3 := blk_frozen L57.out.1 3
            have f4 := blk_frozen L57.out.1 4
            have hmS2 := Aside0.mk hmS
            have hnS2 := Aside0.mk hnS
            clear hmS hnS
            go_upto_region 19 with (fail)
            clear m0 m1 m2 m3 m4 k0 k1 k2 k3 k4 f0 f1 f2 f3 f4
            have hne12 : b12 ≠ b5 := fun e => blk_ne L57.out.1 L127.out.1 (by decide) e.symm
            obtain ⟨g1, g2, g3, g4, g5⟩ := put5 HP7.out L57.out L87.out L127.out (fun e => hne58 e.symm) hne12 HB7.out hb5.out (Value.int IntKind.i64 S1.m) (Value.int IntKind.i64 S1.n) (Value.slice B2 S1.used.length e2) (Value.slice B3 S1.fs.length e3) (Value.slice B4 A1.length e4)
            have HPd := Aside0.mk g1
            have L5d := Aside0.mk g2
            have L8d := Aside0.mk g3
            have L12d := Aside0.mk g4
            have HBd := Aside0.mk g5
            clear g1 g2 g3 g4 g5 hne12
            generalize (((((w7.setCell ⟨b5, 0, none⟩ (Value.int IntKind.i64 S1.m)).setCell ⟨b5, 1, none⟩ (Value.int IntKind.i64 S1.n)).setCell ⟨b5, 2, none⟩ (Value.slice B2 S1.used.length e2)).setCell ⟨b5, 3, none⟩ (Value.slice B3 S1.fs.length e3)).setCell ⟨b5, 4, none⟩ (Value.slice B4 A1.length e4)) = wd at HPd L12d L8d L5d HBd ⊢
            obtain ⟨hNz, hswz⟩ := HPd.out.sw
            obtain ⟨_, hz2, hC2⟩ := Fl.Ci' HPd.out.r2
            obtain ⟨_, hz3, hC3⟩ := Fl.Ci' HPd.out.r3
            obtain ⟨_, hz4, hC4⟩ := Fl.C30' HPd.out.r4
            have HAK := Aside0.mk (@alike_st (ownOf (Value.slice B2 S1.used.length e2) (Value.slice B3 S1.fs.length e3) (Value.slice B4 A1.length e4) wd.heap.size hNz) w0.heap.size g S1 A1 B2 B3 B4 e2 e3 e4 p0 q0 wd hswz HPd.out.al hC2 hz2 hC3 hz3 hC4 hz4)
            clear hswz hC2 hC3 hC4
            have t0 := (blk_cell L5d.out.1 0).trans (show _ = some (Value.int .i64 S1.m) from rfl)
            have t1 := (blk_cell L5d.out.1 1).trans (show _ = some (Value.int .i64 S1.n) from rfl)
            have t2 := (blk_cell L5d.out.1 2).trans (show _ = some (Value.slice B2 S1.used.length e2) from rfl)
            have t3 := (blk_cell L5d.out.1 3).trans (show _ = some (Value.slice B3 S1.fs.length e3) from rfl)
            have t4 := (blk_cell L5d.out.1 4).trans (show _ = some (Value.slice B4 A1.length e4) from rfl)
            have s0 := (blk_cell L12d.out.1 0).trans (show _ = some (Value.int .i64 p0) from rfl)
            have s1 := (blk_cell L12d.out.1 1).trans (show _ = some (Value.int .i64 q0) from rfl)
            go_upto_region 3 with (first | (go_at_call 23; refine HAK.out.mono ?_; rintro e wz ⟨rfl, hb⟩; have HPz := Aside0.mk (PlF.below HPd.out hb); have L5z := Aside0.mk (Loc.below L5d.out hb); have L8z := Aside0.mk (Loc.below L8d.out hb); have HBz := Aside0.mk (below_step HBd.out hb); clear hb))
            go_wp2
            go_roundg g'
            case measure => omega
            case rel => exact ⟨k + 1, S1, A1, T', _, _, _, rfl, by omega, by omega, ⟨hmS2.out.trans hm.out⟩, ⟨hnS2.out.trans hn.out⟩, HPz, L5z, L8z, HBz⟩
          · go_upto_region 14 with (fail)
            obtain ⟨hN, hsw⟩ := HP4.out.sw
            have HT := Aside0.mk (@free_st (ownOf (Value.slice A2 S'.used.length c2) (Value.slice A3 S'.fs.length c3) (Value.slice A4 A'.length c4) w4.heap.size hN) w0.heap.size g S' w4 p0 q0 hsw HB4.out.size)
            clear hsw
            have y0 := (blk_cell L12.out.1 0).trans (show _ = some (Value.int .i64 p0) from rfl)
            have y1 := (blk_cell L12.out.1 1).trans (show _ = some (Value.int .i64 q0) from rfl)
            go_upto_region 15 with (first | (go_at_call 11; refine HT.out.mono ?_; rintro e w5 ⟨rfl, hs, hb, hst, hsz⟩; have HP5 := Aside0.mk (PlF.slab HP4.out hN hs hst); have L55 := Aside0.mk (Loc.slab L54.out hst); have L85 := Aside0.mk (Loc.slab L84.out hst); have L125 := Aside0.mk (Loc.slab L12.out hst); have HB5 := Aside0.mk (HB4.out.trans hb); clear hs hb hst hsz))
            clear HT HP4 L54 L84 L12 HB4 z0 y0 y1
            have y0 := (blk_cell L125.out.1 0).trans (show _ = some (Value.int .i64 p0) from rfl)
            have y1 := (blk_cell L125.out.1 1).trans (show _ = some (Value.int .i64 q0) from rfl)
            have t0 := (blk_cell L55.out.1 0).trans (show _ = some (Value.int .i64 S'.m) from rfl)
            have t1 := (blk_cell L55.out.1 1).trans (show _ = some (Value.int .i64 S'.n) from rfl)
            have t2 := (blk_cell L55.out.1 2).trans (show _ = some (Value.slice A2 S'.used.length c2) from rfl)
            have t3 := (blk_cell L55.out.1 3).trans (show _ = some (Value.slice A3 S'.fs.length c3) from rfl)
            have t4 := (blk_cell L55.out.1 4).trans (show _ = some (Value.slice A4 A'.length c4) from rfl)
            have HRF := Aside0.mk (complineref05_Free.calls 200000 S'.m S'.n (fun k => some k = (Value.slice A2 S'.used.length c2).ownBlock) (Value.slice A2 S'.used.length c2) S'.used (fun k => some k = (Value.slice A3 S'.fs.length c3).ownBlock) (Value.slice A3 S'.fs.length c3) S'.fs (fun k => some k = (Value.slice A4 A'.length c4).ownBlock) (Value.slice A4 A'.length c4) A' p0 q0 _ _ _ _ _ _ w0 w5 HB5.out HP5.out.r2 (fun k e => HP5.out.d23 k e) HP5.out.r3 (fun k e e2 => HP5.out.d23 k e2 e) HP5.out.r4 (SSt.ref_free HP5.out.al HP5.out.inv p0 q0))
            go_upto_region 16 with (first | (go_at_call 29; refine HRF.out.mono ?_; rintro e w6 ⟨x2, x3, x4, rfl, h2, h3, h4, hb, hkp⟩; (obtain ⟨B2, e2, rfl⟩ := Kd.R_slice h2); (obtain ⟨B3, e3, rfl⟩ := Kd.R_slice h3); (obtain ⟨B4, e4, rfl⟩ := Kd.R_slice h4); have H2 := Aside0.mk h2; have H3 := Aside0.mk h3; have H4 := Aside0.mk h4; have HK := Aside0.mk hkp; have HB6 := Aside0.mk hb; clear h2 h3 h4 hb hkp))
            have HAL := SSt.alive_free' HP5.out.al p0 q0
            have HP6 := Aside0.mk (PlF.ref (R' := S'.free p0 q0) HP5.out HK.out H2.out H3.out H4.out HAL (SSt.free_inv HP5.out.inv p0 q0))
            have L56 := Aside0.mk (Loc.ref L55.out HP5.out HK.out H4.out)
            have L86 := Aside0.mk (Loc.ref L85.out HP5.out HK.out H4.out)
            have L126 := Aside0.mk (Loc.ref L125.out HP5.out HK.out H4.out)
            have hmS := (SSt.free_m S' p0 q0).1
            have hnS := (SSt.free_m S' p0 q0).2
            clear HK H2 H3 H4 HRF HAL L55 L85 L125 HP5 HB5 y0 y1 t0 t1 t2 t3 t4
            generalize S'.free p0 q0 = S1 at HP6 hmS hnS ⊢
            generalize (if S'.isAlive p0 q0 = true then A'.filter (fun t => !(hit p0 q0 t)) else A') = A1 at HP6 L56 L86 L126 ⊢
            have L197 := Aside0.mk (Loc.new HP6.out #[Value.int IntKind.i64 S'.m, Value.int IntKind.i64 S'.n, Value.slice B2 S1.used.length e2, Value.slice B3 S1.fs.length e3, Value.slice B4 A1.length e4] 44 (by decide))
            have HP7 := Aside0.mk (PlF.below HP6.out (below_al w6 (Obj.cells #[Value.int IntKind.i64 S'.m, Value.int IntKind.i64 S'.n, Value.slice B2 S1.used.length e2, Value.slice B3 S1.fs.length e3, Value.slice B4 A1.length e4] 44)))
            have L57 := Aside0.mk (Loc.below L56.out (below_al w6 (Obj.cells #[Value.int IntKind.i64 S'.m, Value.int IntKind.i64 S'.n, Value.slice B2 S1.used.length e2, Value.slice B3 S1.fs.length e3, Value.slice B4 A1.length e4] 44)))
            have L87 := Aside0.mk (Loc.below L86.out (below_al w6 (Obj.cells #[Value.int IntKind.i64 S'.m, Value.int IntKind.i64 S'.n, Value.slice B2 S1.used.length e2, Value.slice B3 S1.fs.length e3, Value.slice B4 A1.length e4] 44)))
            have L127 := Aside0.mk (Loc.below L126.out (below_al w6 (Obj.cells #[Value.int IntKind.i64 S'.m, Value.int IntKind.i64 S'.n, Value.slice B2 S1.used.length e2, Value.slice B3 S1.fs.length e3, Value.slice B4 A1.length e4] 44)))
            have HB7 := Aside0.mk (below_step HB6.out (below_al w6 (Obj.cells #[Value.int IntKind.i64 S'.m, Value.int IntKind.i64 S'.n, Value.slice B2 S1.used.length e2, Value.slice B3 S1.fs.length e3, Value.slice B4 A1.length e4] 44)))
            have h519 : b5 ≠ w6.heap.size := by have := blk_lt L56.out.1; omega
            generalize (w6.alloc (Obj.cells #[Value.int IntKind.i64 S'.m, Value.int IntKind.i64 S'.n, Value.slice B2 S1.used.length e2, Value.slice B3 S1.fs.length e3, Value.slice B4 A1.length e4] 44)) = w7 at L197 HP7 L57 L87 L127 HB7 ⊢
            generalize w6.heap.size = b19 at L197 h519 ⊢
            have h195 : b19 ≠ b5 := fun e => h519 e.symm
            clear h519 HP6 L56 L86 L126 HB6
            have m0 := (blk_cell L197.out.1 0).trans (show _ = some (Value.int .i64 S'.m) from rfl)
            have m1 := (blk_cell L197.out.1 1).trans (show _ = some (Value.int .i64 S'.n) from rfl)
            rw [← hmS] at m0
            rw [← hnS] at m1
            have m2 := (blk_cell L197.out.1 2).trans (show _ = some (Value.slice B2 S1.used.length e2) from rfl)
            have m3 := (blk_cell L197.out.1 3).trans (show _ = some (Value.slice B3 S1.fs.length e3) from rfl)
            have m4 := (blk_cell L197.out.1 4).trans (show _ = some (Value.slice B4 A1.length e4) from rfl)
            have k0 := (blk_cell L57.out.1 0).trans (show _ = some (Value.int .i64 S'.m) from rfl)
            have k1 := (blk_cell L57.out.1 1).trans (show _ = some (Value.int .i64 S'.n) from rfl)
            have k2 := (blk_cell L57.out.1 2).trans (show _ = some (Value.slice A2 S'.used.length c2) from rfl)
            have k3 := (blk_cell L57.out.1 3).trans (show _ = some (Value.slice A3 S'.fs.length c3) from rfl)
            have k4 := (blk_cell L57.out.1 4).trans (show _ = some (Value.slice A4 A'.length c4) from rfl)
            have f0 := blk_frozen L57.out.1 0
            have f1 := blk_frozen L57.out.1 1
            have f2 := blk_frozen L57.out.1 2
            have f3 := blk_frozen L57.out.1 3
            have f4 := blk_frozen L57.out.1 4
            have hmS2 := Aside0.mk hmS
            have hnS2 := Aside0.mk hnS
            clear hmS hnS
            go_upto_region 19 with (fail)
            clear m0 m1 m2 m3 m4 k0 k1 k2 k3 k4 f0 f1 f2 f3 f4
            have hne12 : b12 ≠ b5 := fun e => blk_ne L57.out.1 L127.out.1 (by decide) e.symm
            obtain ⟨g1, g2, g3, g4, g5⟩ := put5 HP7.out L57.out L87.out L127.out (fun e => hne58 e.symm) hne12 HB7.out hb5.out (Value.int IntKind.i64 S1.m) (Value.int IntKind.i64 S1.n) (Value.slice B2 S1.used.length e2) (Value.slice B3 S1.fs.length e3) (Value.slice B4 A1.length e4)
            have HPd := Aside0.mk g1
            have L5d := Aside0.mk g2
            have L8d := Aside0.mk g3
            have L12d := Aside0.mk g4
            have HBd := Aside0.mk g5
            clear g1 g2 g3 g4 g5 hne12
            generalize (((((w7.setCell ⟨b5, 0, none⟩ (Value.int IntKind.i64 S1.m)).setCell ⟨b5, 1, none⟩ (Value.int IntKind.i64 S1.n)).setCell ⟨b5, 2, none⟩ (Value.slice B2 S1.used.length e2)).setCell ⟨b5, 3, none⟩ (Value.slice B3 S1.fs.length e3)).setCell ⟨b5, 4, none⟩ (Value.slice B4 A1.length e4)) = wd at HPd L12d L8d L5d HBd ⊢
            obtain ⟨hNz, hswz⟩ := HPd.out.sw
            obtain ⟨_, hz2, hC2⟩ := Fl.Ci' HPd.out.r2
            obtain ⟨_, hz3, hC3⟩ := Fl.Ci' HPd.out.r3
            obtain ⟨_, hz4, hC4⟩ := Fl.C30' HPd.out.r4
            have HAK := Aside0.mk (@alike_st (ownOf (Value.slice B2 S1.used.length e2) (Value.slice B3 S1.fs.length e3) (Value.slice B4 A1.length e4) wd.heap.size hNz) w0.heap.size g S1 A1 B2 B3 B4 e2 e3 e4 p0 q0 wd hswz HPd.out.al hC2 hz2 hC3 hz3 hC4 hz4)
            clear hswz hC2 hC3 hC4
            have t0 := (blk_cell L5d.out.1 0).trans (show _ = some (Value.int .i64 S1.m) from rfl)
            have t1 := (blk_cell L5d.out.1 1).trans (show _ = some (Value.int .i64 S1.n) from rfl)
            have t2 := (blk_cell L5d.out.1 2).trans (show _ = some (Value.slice B2 S1.used.length e2) from rfl)
            have t3 := (blk_cell L5d.out.1 3).trans (show _ = some (Value.slice B3 S1.fs.length e3) from rfl)
            have t4 := (blk_cell L5d.out.1 4).trans (show _ = some (Value.slice B4 A1.length e4) from rfl)
            have s0 := (blk_cell L12d.out.1 0).trans (show _ = some (Value.int .i64 p0) from rfl)
            have s1 := (blk_cell L12d.out.1 1).trans (show _ = some (Value.int .i64 q0) from rfl)
            go_upto_region 3 with (first | (go_at_call 23; refine HAK.out.mono ?_; rintro e wz ⟨rfl, hb⟩; have HPz := Aside0.mk (PlF.below HPd.out hb); have L5z := Aside0.mk (Loc.below L5d.out hb); have L8z := Aside0.mk (Loc.below L8d.out hb); have HBz := Aside0.mk (below_step HBd.out hb); clear hb))
            go_wp2
            go_roundg g'
            case measure => omega
            case rel => exact ⟨k + 1, S1, A1, T', _, _, _, rfl, by omega, by omega, ⟨hmS2.out.trans hm.out⟩, ⟨hnS2.out.trans hn.out⟩, HPz, L5z, L8z, HBz⟩
        · have hk3 : (x.f0 == 1) = false := by simpa using (fun e => hk2 (.inl e) : ¬ x.f0 = 1)
          have hk4 : (x.f0 == 2) = false := by simpa using (fun e => hk2 (.inr e) : ¬ x.f0 = 2)
          clear hk2 hk0
          go_upto_region 19 with (fail)
          clear z0
          obtain ⟨hNz, hswz⟩ := HP4.out.sw
          obtain ⟨_, hz2, hC2⟩ := Fl.Ci' HP4.out.r2
          obtain ⟨_, hz3, hC3⟩ := Fl.Ci' HP4.out.r3
          obtain ⟨_, hz4, hC4⟩ := Fl.C30' HP4.out.r4
          have HAK := Aside0.mk (@alike_st (ownOf (Value.slice A2 S'.used.length c2) (Value.slice A3 S'.fs.length c3) (Value.slice A4 A'.length c4) w4.heap.size hNz) w0.heap.size g S' A' A2 A3 A4 c2 c3 c4 p0 q0 w4 hswz HP4.out.al hC2 hz2 hC3 hz3 hC4 hz4)
          clear hswz hC2 hC3 hC4
          have t0 := (blk_cell L54.out.1 0).trans (show _ = some (Value.int .i64 S'.m) from rfl)
          have t1 := (blk_cell L54.out.1 1).trans (show _ = some (Value.int .i64 S'.n) from rfl)
          have t2 := (blk_cell L54.out.1 2).trans (show _ = some (Value.slice A2 S'.used.length c2) from rfl)
          have t3 := (blk_cell L54.out.1 3).trans (show _ = some (Value.slice A3 S'.fs.length c3) from rfl)
          have t4 := (blk_cell L54.out.1 4).trans (show _ = some (Value.slice A4 A'.length c4) from rfl)
          have s0 := (blk_cell L12.out.1 0).trans (show _ = some (Value.int .i64 p0) from rfl)
          have s1 := (blk_cell L12.out.1 1).trans (show _ = some (Value.int .i64 q0) from rfl)
          go_upto_region 3 with (first | (go_at_call 23; refine HAK.out.mono ?_; rintro e wz ⟨rfl, hb⟩; have HPz := Aside0.mk (PlF.below HP4.out hb); have L5z := Aside0.mk (Loc.below L54.out hb); have L8z := Aside0.mk (Loc.below L84.out hb); have HBz := Aside0.mk (below_step HB4.out hb); clear hb))
          go_wp2
          go_roundg g'
          case measure => omega
          case rel => exact ⟨k + 1, S', A', T', _, _, _, rfl, by omega, by omega, hm, hn, HPz, L5z, L8z, HBz⟩
    · have hge : ¬ (k : Int) < (l.length : Int) := by omega
      obtain ⟨A2, c2, rfl, hc2, _⟩ := HP.out.r2.Ci
      obtain ⟨A3, c3, rfl, hc3, _⟩ := HP.out.r3.Ci
      obtain ⟨A4, c4, rfl, hc4, _⟩ := HP.out.r4.C30
      obtain ⟨At, ct, rfl, hct, HCT⟩ := HP.out.t.C30
      have t0 := (blk_cell L5.out.1 0).trans (show _ = some (Value.int .i64 S'.m) from rfl)
      have t1 := (blk_cell L5.out.1 1).trans (show _ = some (Value.int .i64 S'.n) from rfl)
      have t2 := (blk_cell L5.out.1 2).trans (show _ = some (Value.slice A2 S'.used.length c2) from rfl)
      have t3 := (blk_cell L5.out.1 3).trans (show _ = some (Value.slice A3 S'.fs.length c3) from rfl)
      have t4 := (blk_cell L5.out.1 4).trans (show _ = some (Value.slice A4 A'.length c4) from rfl)
      have k0 := (blk_cell L8.out.1 0).trans (show _ = some (Value.int .i64 0) from rfl)
      have k1 := (blk_cell L8.out.1 1).trans (show _ = some (Value.int .i64 0) from rfl)
      have k2 := (blk_cell L8.out.1 2).trans (show _ = some (Value.slice none 0 0) from rfl)
      have k3 := (blk_cell L8.out.1 3).trans (show _ = some (Value.slice none 0 0) from rfl)
      have k4 := (blk_cell L8.out.1 4).trans (show _ = some (Value.slice none 0 0) from rfl)
      have f0 := blk_frozen L8.out.1 0
      have f1 := blk_frozen L8.out.1 1
      have f2 := blk_frozen L8.out.1 2
      have f3 := blk_frozen L8.out.1 3
      have f4 := blk_frozen L8.out.1 4
      go_wp2
      obtain ⟨g1, g2, g3, g4, g5⟩ := put5 HP.out L8.out L5.out L5.out hne58 hne58 HB.out hb8.out (Value.int IntKind.i64 S'.m) (Value.int IntKind.i64 S'.n) (Value.slice A2 S'.used.length c2) (Value.slice A3 S'.fs.length c3) (Value.slice A4 A'.length c4)
      refine bodyPost_ret (results_ctt rfl _ _ b8 44 #[Value.int IntKind.i64 S'.m, Value.int IntKind.i64 S'.n, (Value.slice A2 S'.used.length c2), (Value.slice A3 S'.fs.length c3), (Value.slice A4 A'.length c4)] (0, 0) _ rfl g2.1 Try.underlying44 rfl (by kernel_rfl)) rfl ?_
      exact ⟨S', A', T', _, _, _, _, rfl, g1, g5, hm.out, hn.out, by omega⟩
end Go.Proofs.Ytppbdjoikdldiaa.PSlabPlays
