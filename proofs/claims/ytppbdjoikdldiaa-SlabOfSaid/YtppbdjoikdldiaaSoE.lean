/- SoE: walks of the slab's functions. -/
import Derived.Test.YtppbdjoikdldiaaSoD
import Derived.Deep.RegionHeld3
namespace Go.Proofs.Ytppbdjoikdldiaa.PSlabOf
open Go.RowKit Go.Proofs.YtppbdjoikdldiaaW.PrintWords Go.Proofs.YtppbdjoikdldiaaW.PrintLast Go.Proofs.YtppbdjoikdldiaaW.PrintMore
set_option linter.unusedVariables false
set_option linter.unusedSimpArgs false
theorem keep_cell {w w' : World} {p : Addr} {v : Value} (h : w.cell? p = some v) (hb : Below w.heap.size w w') : w'.cell? p = some v := by
  have hlt := World.block_lt_of_cell? w _ h
  rw [← h]
  unfold World.cell?
  rw [hb.block _ hlt]
/-- What stays while a slab and the document's own are looked at. -/
structure AkF [Own] (base : Nat) (g : Nat) (S : SSt) (A : List S30) (A2 A3 A4 : Option Addr) (c2 c3 c4 : Nat) (p q : Int) (b4 b5 : Nat) (w W : World) : Prop where
  sw : SW base W g S
  hb : Below w.heap.size w W
  r2 : Kd.C (Kd.int .i64) W A2 S.used.length S.used
  r3 : Kd.C (Kd.int .i64) W A3 S.fs.length S.fs
  r4 : Kd.C k30 W A4 A.length A
  x : W.heap[b4]? = some (Obj.cells #[Value.int IntKind.i64 S.m, Value.int IntKind.i64 S.n, Value.slice A2 S.used.length c2, Value.slice A3 S.fs.length c3, Value.slice A4 A.length c4] 44)
  y : W.heap[b5]? = some (Obj.cells #[Value.int IntKind.i64 p, Value.int IntKind.i64 q] 30)
theorem AkF.move [Own] {base g : Nat} {S : SSt} {A : List S30} {A2 A3 A4 : Option Addr} {c2 c3 c4 : Nat} {p q : Int} {b4 b5 : Nat} {w W W' : World} (h : AkF base g S A A2 A3 A4 c2 c3 c4 p q b4 b5 w W) (hb : Below W.heap.size W W') : AkF base g S A A2 A3 A4 c2 c3 c4 p q b4 b5 w W' :=
  ⟨h.sw.below hb, below_step h.hb hb, Kd.C_below h.r2 hb, Kd.C_below h.r3 hb, Kd.C_below h.r4 hb, (hb.block _ (blk_lt h.x)).trans h.x, (hb.block _ (blk_lt h.y)).trans h.y⟩
theorem blk_keep {w w' : World} {g : Nat} {cs : Array Value} {t : TypeId} {fr : Nat × Nat} (h : w.heap[g]? = some (Obj.cells cs t fr)) (hb : Below w.heap.size w w') : w'.heap[g]? = some (Obj.cells cs t fr) := (hb.block _ (blk_lt h)).trans h
theorem below_al (w : World) (o : Obj) : Below w.heap.size w (w.alloc o) := below_alloc (Below.refl _ _) o
theorem below_dw (w : World) : Below w.heap.size w w.drew := below_drew1 (Below.refl _ _)
theorem below_dr (w : World) (n : Nat) : Below w.heap.size w (w.drewN n) := pw_below_drewN (Below.refl _ _) n
theorem akS [Own] {base g : Nat} {S : SSt} {A : List S30} {A2 A3 A4 : Option Addr} {c2 c3 c4 : Nat} {p q r1 r2 : Int} {b4 b5 d d2 : Nat} {w W : World} (h : AkF base g S A A2 A3 A4 c2 c3 c4 p q b4 b5 w W) (hd : W.heap[d]? = some (Obj.cells #[Value.int IntKind.i64 r1, Value.int IntKind.i64 r2] 30)) (he : W.heap[d2]? = some (Obj.cells #[Value.int IntKind.i64 r1, Value.int IntKind.i64 r2] 30)) : W.cell? ⟨b4, 0, none⟩ = some (Value.int .i64 S.m) ∧ W.cell? ⟨b4, 1, none⟩ = some (Value.int .i64 S.n) ∧ W.cell? ⟨b4, 2, none⟩ = some (Value.slice A2 S.used.length c2) ∧ W.cell? ⟨b4, 3, none⟩ = some (Value.slice A3 S.fs.length c3) ∧ W.cell? ⟨b4, 4, none⟩ = some (Value.slice A4 A.length c4) ∧ W.cell? ⟨b5, 0, none⟩ = some (Value.int .i64 p) ∧ W.cell? ⟨b5, 1, none⟩ = some (Value.int .i64 q) ∧ W.cell? ⟨d, 0, none⟩ = some (Value.int .i64 r1) ∧ W.cell? ⟨d, 1, none⟩ = some (Value.int .i64 r2) ∧ W.cell? ⟨d2, 0, none⟩ = some (Value.int .i64 r1) ∧ W.cell? ⟨d2, 1, none⟩ = some (Value.int .i64 r2) :=
  ⟨(blk_cell h.x 0).trans rfl, (blk_cell h.x 1).trans rfl, (blk_cell h.x 2).trans rfl, (blk_cell h.x 3).trans rfl, (blk_cell h.x 4).trans rfl, (blk_cell h.y 0).trans rfl, (blk_cell h.y 1).trans rfl, (blk_cell hd 0).trans rfl, (blk_cell hd 1).trans rfl, (blk_cell he 0).trans rfl, (blk_cell he 1).trans rfl⟩
theorem SSt.ref_left {S : SSt} {A : List S30} (h : S.AliveOf A) (hi : S.Inv) : complineref05_Left.f S.m S.n S.used S.fs A = some S.left := by
  have := hi.m1
  have := hi.m0
  have := hi.lp
  have := hi.fl
  have := SSt.al0 hi
  have := SSt.used_len S
  unfold complineref05_Left.f SSt.left
  rw [w64 ((S.fs.length : Int) + S.m) (by omega) (by omega), w64 _ (by omega) (by omega)]
  congr 1
  omega
theorem SSt.ref_worn {S : SSt} {A : List S30} (h : S.AliveOf A) (hi : S.Inv) : complineref05_Worn.f S.m S.n S.used S.fs A = some S.worn := by
  have := hi.m1
  have := hi.m0
  have := hi.lp
  have := hi.fl
  have := SSt.al0 hi
  have := SSt.used_len S
  have := h.len
  unfold complineref05_Worn.f SSt.worn
  rw [w64 ((S.used.length : Int) - (S.fs.length : Int)) (by omega) (by omega), w64 _ (by omega) (by omega)]
  congr 1
  omega
attribute [local go_sem high] eqA30
set_option maxHeartbeats 8000000 in
set_option maxRecDepth 100000 in
theorem alike_st [Own] (base : Nat) (g : Nat) (S : SSt) (A : List S30) (A2 A3 A4 : Option Addr) (c2 c3 c4 : Nat) (p q : Int) (w : World) (h : SW base w g S) (hA : S.AliveOf A)
    (hr2 : Kd.C (Kd.int .i64) w A2 S.used.length S.used) (hc2 : S.used.length ≤ c2) (hr3 : Kd.C (Kd.int .i64) w A3 S.fs.length S.fs) (hc3 : S.fs.length ≤ c3) (hr4 : Kd.C k30 w A4 A.length A) (hc4 : A.length ≤ c4) :
    Calls Try.prog 23 #[.pointer (some ⟨g, 0, none⟩), .agg #[.int .i64 S.m, .int .i64 S.n, .slice A2 S.used.length c2, .slice A3 S.fs.length c3, .slice A4 A.length c4], .agg #[.int .i64 p, .int .i64 q]] w fun e w' => e = .returned (.bool true) ∧ Below w.heap.size w w' := by
  have hu30 := Try.underlying30
  have hu44 := Try.underlying44
  have hul : S.used.length ≤ 1024 := by have := SSt.used_len S; have := h.2.m1; have := h.2.lp; omega
  have hm1 := h.2.m1
  have hlp := h.2.lp
  have hfl := h.2.fl
  have ha0 := SSt.al0 h.2
  have hlen := hA.len
  have HS0 := Aside0.mk h
  have HR2 := Aside0.mk hr2
  have HR3 := Aside0.mk hr3
  have HR4 := Aside0.mk hr4
  have HA := Aside0.mk hA
  clear h hr2 hr3 hr4 hA
  go_enter Try.func23, Try.ntmps23
  go_upto_region 1 with (fail)
  have X1 := blk_alloc (heap_alloc_new w (Obj.cells #[Value.int IntKind.i64 S.m, Value.int IntKind.i64 S.n, Value.slice A2 S.used.length c2, Value.slice A3 S.fs.length c3, Value.slice A4 A.length c4] 44)) (Obj.cells #[Value.int IntKind.i64 p, Value.int IntKind.i64 q] 30)
  have Y1 := heap_alloc_new (w.alloc (Obj.cells #[Value.int IntKind.i64 S.m, Value.int IntKind.i64 S.n, Value.slice A2 S.used.length c2, Value.slice A3 S.fs.length c3, Value.slice A4 A.length c4] 44)) (Obj.cells #[Value.int IntKind.i64 p, Value.int IntKind.i64 q] 30)
  have HB1 := below_alloc (below_alloc (Below.refl w.heap.size w) (Obj.cells #[Value.int IntKind.i64 S.m, Value.int IntKind.i64 S.n, Value.slice A2 S.used.length c2, Value.slice A3 S.fs.length c3, Value.slice A4 A.length c4] 44)) (Obj.cells #[Value.int IntKind.i64 p, Value.int IntKind.i64 q] 30)
  rw [World.size_alloc] at Y1
  have HF := Aside0.mk (show AkF base g S A A2 A3 A4 c2 c3 c4 p q w.heap.size (w.heap.size + 1) w ((w.alloc (Obj.cells #[Value.int IntKind.i64 S.m, Value.int IntKind.i64 S.n, Value.slice A2 S.used.length c2, Value.slice A3 S.fs.length c3, Value.slice A4 A.length c4] 44)).alloc (Obj.cells #[Value.int IntKind.i64 p, Value.int IntKind.i64 q] 30)) from ⟨SW.alloc (SW.alloc HS0.out _) _, HB1, Kd.C_below HR2.out HB1, Kd.C_below HR3.out HB1, Kd.C_below HR4.out HB1, X1, Y1⟩)
  clear X1 Y1 HB1
  generalize ((w.alloc (Obj.cells #[Value.int IntKind.i64 S.m, Value.int IntKind.i64 S.n, Value.slice A2 S.used.length c2, Value.slice A3 S.fs.length c3, Value.slice A4 A.length c4] 44)).alloc (Obj.cells #[Value.int IntKind.i64 p, Value.int IntKind.i64 q] 30)) = w1 at HF ⊢
  generalize w.heap.size + 1 = b5 at HF ⊢
  obtain ⟨b4, hb4⟩ : ∃ b4, w.heap.size = b4 := ⟨_, rfl⟩
  have HF := Aside0.mk (show AkF base g S A A2 A3 A4 c2 c3 c4 p q b4 b5 w w1 from hb4 ▸ HF.out)
  rw [hb4]
  clear HR2 HR3 HR4
  have x0 := (blk_cell HF.out.x 0).trans (show _ = some (Value.int .i64 S.m) from rfl)
  have x1 := (blk_cell HF.out.x 1).trans (show _ = some (Value.int .i64 S.n) from rfl)
  have x2 := (blk_cell HF.out.x 2).trans (show _ = some (Value.slice A2 S.used.length c2) from rfl)
  have x3 := (blk_cell HF.out.x 3).trans (show _ = some (Value.slice A3 S.fs.length c3) from rfl)
  have x4 := (blk_cell HF.out.x 4).trans (show _ = some (Value.slice A4 A.length c4) from rfl)
  have y0 := (blk_cell HF.out.y 0).trans (show _ = some (Value.int .i64 p) from rfl)
  have y1 := (blk_cell HF.out.y 1).trans (show _ = some (Value.int .i64 q) from rfl)
  have HT := Aside0.mk (at_st base g S w1 p HF.out.sw)
  rw [SSt.atV_eq] at HT
  have HT2 := Aside0.mk (fun W h2 h3 h4 => complineref05_At.calls 200000 S.m S.n A2 c2 S.used A3 c3 S.fs A4 c4 A p (S.atP p).1 (S.atP p).2.1 (S.atP p).2.2 W h2 hc2 h3 hc3 h4 hc4 (SSt.alive_at HA.out HS0.out.2 p))
  obtain ⟨r1, hr1⟩ : ∃ r, (S.atP p).1 = r := ⟨_, rfl⟩
  obtain ⟨r2, hr2⟩ : ∃ r, (S.atP p).2.1 = r := ⟨_, rfl⟩
  obtain ⟨r3, hr3⟩ : ∃ r, (S.atP p).2.2 = r := ⟨_, rfl⟩
  rw [hr1, hr2, hr3] at HT HT2
  clear hr1 hr2 hr3
  go_upto_region 2 with (first | (go_at_call 24; refine HT.out.mono ?_; rintro e w2 ⟨rfl, hb⟩; have HF2 := Aside0.mk (AkF.move HF.out hb); clear hb))
  clear x0 x1 x2 x3 x4 y0 y1
  have D1 := Aside0.mk (heap_alloc_new w2 (Obj.cells #[Value.int IntKind.i64 r1, Value.int IntKind.i64 r2] 30))
  have HF3 := Aside0.mk (AkF.move HF2.out (below_al w2 (Obj.cells #[Value.int IntKind.i64 r1, Value.int IntKind.i64 r2] 30)))
  obtain ⟨d, hd⟩ : ∃ d, w2.heap.size = d := ⟨_, rfl⟩
  rw [hd] at D1 ⊢
  generalize (w2.alloc (Obj.cells #[Value.int IntKind.i64 r1, Value.int IntKind.i64 r2] 30)) = w3 at D1 HF3 ⊢
  clear HF HF2 HT hd
  have x0 := (blk_cell HF3.out.x 0).trans (show _ = some (Value.int .i64 S.m) from rfl)
  have x1 := (blk_cell HF3.out.x 1).trans (show _ = some (Value.int .i64 S.n) from rfl)
  have x2 := (blk_cell HF3.out.x 2).trans (show _ = some (Value.slice A2 S.used.length c2) from rfl)
  have x3 := (blk_cell HF3.out.x 3).trans (show _ = some (Value.slice A3 S.fs.length c3) from rfl)
  have x4 := (blk_cell HF3.out.x 4).trans (show _ = some (Value.slice A4 A.length c4) from rfl)
  have y0 := (blk_cell HF3.out.y 0).trans (show _ = some (Value.int .i64 p) from rfl)
  have y1 := (blk_cell HF3.out.y 1).trans (show _ = some (Value.int .i64 q) from rfl)
  go_upto_region 3 with (first | (go_at_call 45; refine (HT2.out w3 HF3.out.r2 HF3.out.r3 HF3.out.r4).mono ?_; rintro e w4 ⟨rfl, hb⟩; have HF4 := Aside0.mk (AkF.move HF3.out hb); have D2 := Aside0.mk (blk_keep D1.out hb); clear hb))
  clear x0 x1 x2 x3 x4 y0 y1
  have E1 := Aside0.mk (heap_alloc_new w4 (Obj.cells #[Value.int IntKind.i64 r1, Value.int IntKind.i64 r2] 30))
  have D3 := Aside0.mk (blk_alloc D2.out (Obj.cells #[Value.int IntKind.i64 r1, Value.int IntKind.i64 r2] 30))
  have HF5 := Aside0.mk (AkF.move HF4.out (below_al w4 (Obj.cells #[Value.int IntKind.i64 r1, Value.int IntKind.i64 r2] 30)))
  obtain ⟨d2, hd2⟩ : ∃ d, w4.heap.size = d := ⟨_, rfl⟩
  rw [hd2] at E1 ⊢
  generalize (w4.alloc (Obj.cells #[Value.int IntKind.i64 r1, Value.int IntKind.i64 r2] 30)) = w5 at D3 E1 HF5 ⊢
  clear HF3 HF4 HT2 hd2 D1 D2
  go_upto_region 4 with (first | (go_at_call 20; refine (image_st base g S w5 HF5.out.sw).mono ?_; rintro e w6 ⟨v1, v2, rfl, hv1, hv2, hb⟩; have HF6 := Aside0.mk (AkF.move HF5.out hb); have D4 := Aside0.mk (blk_keep D3.out hb); have E2 := Aside0.mk (blk_keep E1.out hb); (obtain ⟨Au, cu, rfl, hcu, hCu⟩ := Kd.R_reads hv1); (obtain ⟨Af, cf, rfl, hcf, hCf⟩ := Kd.R_reads hv2); have CU := Aside0.mk (show Kd.C (Kd.int .i64) w6 Au S.used.length S.used from hCu); have CF := Aside0.mk hCf; have hcu2 : S.used.length ≤ cu := hcu; clear hv1 hv2 hCu hCf hb))
  rw [← SSt.used_len S]
  clear HF5 D3 E1
  have x0 := (blk_cell HF6.out.x 0).trans (show _ = some (Value.int .i64 S.m) from rfl)
  have x1 := (blk_cell HF6.out.x 1).trans (show _ = some (Value.int .i64 S.n) from rfl)
  have x2 := (blk_cell HF6.out.x 2).trans (show _ = some (Value.slice A2 S.used.length c2) from rfl)
  have x3 := (blk_cell HF6.out.x 3).trans (show _ = some (Value.slice A3 S.fs.length c3) from rfl)
  have x4 := (blk_cell HF6.out.x 4).trans (show _ = some (Value.slice A4 A.length c4) from rfl)
  have y0 := (blk_cell HF6.out.y 0).trans (show _ = some (Value.int .i64 p) from rfl)
  have y1 := (blk_cell HF6.out.y 1).trans (show _ = some (Value.int .i64 q) from rfl)
  have HSu := Aside0.mk (fun W h1 h2 => complineref02_Same.calls 200000 Au cu S.used A2 c2 S.used true W h1 hcu2 h2 hc2 (same_f S.used (by omega)))
  have HSf := Aside0.mk (fun W h1 h2 => complineref02_Same.calls 200000 Af cf S.fs A3 c3 S.fs true W h1 hcf h2 hc3 (same_f S.fs (by omega)))
  go_upto_region 5 with (first | (go_at_call_of 46 (Value.slice Au S.used.length cu); refine (HSu.out w6 CU.out HF6.out.r2).mono ?_; rintro e w7 ⟨rfl, ⟨nd1, rfl⟩⟩) | (go_at_call_of 46 (Value.slice Af S.fs.length cf); refine (HSf.out (w6.drewN nd1) (Kd.C_below CF.out (below_dr w6 nd1)) (Kd.C_below HF6.out.r3 (below_dr w6 nd1))).mono ?_; rintro e w7 ⟨rfl, ⟨nd2, rfl⟩⟩))
  have HF7 := Aside0.mk (AkF.move HF6.out (below_dr w6 (nd1 + nd2)))
  have D5 := Aside0.mk (blk_keep D4.out (below_dr w6 (nd1 + nd2)))
  have E3 := Aside0.mk (blk_keep E2.out (below_dr w6 (nd1 + nd2)))
  generalize w6.drewN (nd1 + nd2) = w7 at HF7 D5 E3 ⊢
  clear x0 x1 x2 x3 x4 y0 y1
  clear HF6 D4 E2 CU CF HSu HSf
  have HIA := Aside0.mk (fun W h2 h3 h4 => complineref05_IsAlive.calls 200000 S.m S.n A2 c2 S.used A3 c3 S.fs A4 c4 A p q (S.isAlive p q) W h2 hc2 h3 hc3 h4 hc4 (SSt.alive_isAlive HA.out HS0.out.2 p q))
  have HIL := Aside0.mk (fun W h2 h3 h4 => complineref05_Left.calls S.m S.n A2 c2 S.used A3 c3 S.fs A4 c4 A S.left W h2 hc2 h3 hc3 h4 hc4 (SSt.ref_left HA.out HS0.out.2))
  have HIW := Aside0.mk (fun W h2 h3 h4 => complineref05_Worn.calls S.m S.n A2 c2 S.used A3 c3 S.fs A4 c4 A S.worn W h2 hc2 h3 hc3 h4 hc4 (SSt.ref_worn HA.out HS0.out.2))
  have HLN := Aside0.mk (show ∀ W, SW base W g S → Calls Try.prog 15 #[.pointer (some ⟨g, 0, none⟩)] W fun e w' => e = .returned (.int .i64 (A.length : Int)) ∧ Drawn0 W w' from fun W h => by rw [hlen]; exact len_st base g S W h)
  clear hlen
  have HFd := Aside0.mk (AkF.move HF7.out (below_dw w7))
  have Dd := Aside0.mk (blk_keep D5.out (below_dw w7))
  have Ed := Aside0.mk (blk_keep E3.out (below_dw w7))
  clear HF7 D5 E3
  go_region_held3 (fun w' => w'.cell? ⟨b4, 0, none⟩ = some (Value.int .i64 S.m) ∧ w'.cell? ⟨b4, 1, none⟩ = some (Value.int .i64 S.n) ∧ w'.cell? ⟨b4, 2, none⟩ = some (Value.slice A2 S.used.length c2) ∧ w'.cell? ⟨b4, 3, none⟩ = some (Value.slice A3 S.fs.length c3) ∧ w'.cell? ⟨b4, 4, none⟩ = some (Value.slice A4 A.length c4) ∧ w'.cell? ⟨b5, 0, none⟩ = some (Value.int .i64 p) ∧ w'.cell? ⟨b5, 1, none⟩ = some (Value.int .i64 q) ∧ w'.cell? ⟨d, 0, none⟩ = some (Value.int .i64 r1) ∧ w'.cell? ⟨d, 1, none⟩ = some (Value.int .i64 r2) ∧ w'.cell? ⟨d2, 0, none⟩ = some (Value.int .i64 r1) ∧ w'.cell? ⟨d2, 1, none⟩ = some (Value.int .i64 r2))
    (first | (exact akS HFd.out Dd.out Ed.out) | (exact akS HF8.out D8.out E8.out) | (exact akS HF9.out D9.out E9.out) | (exact akS HF10.out D10.out E10.out) | (exact akS HF11.out D11.out E11.out) | (exact akS HF12.out D12.out E12.out) | (exact akS HF13.out D13.out E13.out) | (exact akS HF14.out D14.out E14.out))
    (first
      | (go_at_call 14; refine (alive_st base g S w7.drew p q HFd.out.sw).mono ?_; rintro e w8 ⟨rfl, hb⟩; have HF8 := Aside0.mk (AkF.move HFd.out hb); have D8 := Aside0.mk (blk_keep Dd.out hb); have E8 := Aside0.mk (blk_keep Ed.out hb); clear hb)
      | (go_at_call 47; refine (HIA.out w8 HF8.out.r2 HF8.out.r3 HF8.out.r4).mono ?_; rintro e w9 ⟨rfl, hb⟩; have HF9 := Aside0.mk (AkF.move HF8.out hb); have D9 := Aside0.mk (blk_keep D8.out hb); have E9 := Aside0.mk (blk_keep E8.out hb); clear hb)
      | (go_at_call 15; refine (HLN.out w9 HF9.out.sw).mono ?_; rintro e w10 ⟨rfl, hd⟩; have hb := hd.below; have HF10 := Aside0.mk (AkF.move HF9.out hb); have D10 := Aside0.mk (blk_keep D9.out hb); have E10 := Aside0.mk (blk_keep E9.out hb); clear hb hd)
      | (go_at_call 16; refine (left_st base g S w10 HF10.out.sw).mono ?_; rintro e w11 ⟨rfl, hd⟩; have hb := hd.below; have HF11 := Aside0.mk (AkF.move HF10.out hb); have D11 := Aside0.mk (blk_keep D10.out hb); have E11 := Aside0.mk (blk_keep E10.out hb); clear hb hd)
      | (go_at_call 48; refine (HIL.out w11 HF11.out.r2 HF11.out.r3 HF11.out.r4).mono ?_; rintro e w12 ⟨rfl, hb⟩; have HF12 := Aside0.mk (AkF.move HF11.out hb); have D12 := Aside0.mk (blk_keep D11.out hb); have E12 := Aside0.mk (blk_keep E11.out hb); clear hb)
      | (go_at_call 17; refine (worn_st base g S w12 HF12.out.sw).mono ?_; rintro e w13 ⟨rfl, hd⟩; have hb := hd.below; have HF13 := Aside0.mk (AkF.move HF12.out hb); have D13 := Aside0.mk (blk_keep D12.out hb); have E13 := Aside0.mk (blk_keep E12.out hb); clear hb hd)
      | (go_at_call 49; refine (HIW.out w13 HF13.out.r2 HF13.out.r3 HF13.out.r4).mono ?_; rintro e w14 ⟨rfl, hb⟩; have HF14 := Aside0.mk (AkF.move HF13.out hb); have D14 := Aside0.mk (blk_keep D13.out hb); have E14 := Aside0.mk (blk_keep E13.out hb); clear hb))
  all_goals go_wp2
  all_goals go_ret
  all_goals exact ⟨rfl, HF14.out.hb⟩
theorem blk_ne {W : World} {b b' : Nat} {cs cs' : Array Value} {t t' : TypeId} {fr fr' : Nat × Nat} (h : W.heap[b]? = some (.cells cs t fr)) (h' : W.heap[b']? = some (.cells cs' t' fr')) (ht : t ≠ t') : b ≠ b' := by
  rintro rfl
  rw [h] at h'
  injection h' with h'
  injection h' with _ h2 _
  exact ht h2
end Go.Proofs.Ytppbdjoikdldiaa.PSlabOf
