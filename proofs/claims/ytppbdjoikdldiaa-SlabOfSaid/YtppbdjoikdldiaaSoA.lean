/- SoA: walks of the slab's functions. -/
import Derived.Test.YtppbdjoikdldiaaPSlabOfx2
import Derived.Lib.Hide
import Derived.LoopN
import Derived.Deep.RegionWith
namespace Go.Proofs.Ytppbdjoikdldiaa.PSlabOf
open Go.RowKit Go.Proofs.YtppbdjoikdldiaaW.PrintWords Go.Proofs.YtppbdjoikdldiaaW.PrintLast Go.Proofs.YtppbdjoikdldiaaW.PrintMore
set_option linter.unusedVariables false
set_option linter.unusedSimpArgs false
/-- Which blocks are a slab's own to write: from N on all are. -/
class Own where
  Q : Nat → Prop
  N : Nat
  new : ∀ k, N ≤ k → Q k
variable [Own]
/-- A slab of the call's own at block g: its fields; the places' row and the free ones' row. -/
def Slab (base : Nat) (w : World) (g : Nat) (m n : Int) (vp vf : Value) (ps : List S64) (fs : List Int) (al : Int) : Prop :=
  w.heap[g]? = some (.cells #[.int .i64 m, .int .i64 n, vp, vf, .int .i64 al] 62 (0, 0)) ∧ base ≤ g ∧ k64.R 64 w base Own.Q vp ps ∧ (Kd.int .i64).R 3 w base Own.Q vf fs ∧ Own.Q g ∧ Own.N ≤ w.heap.size
/-- What is neither a slab nor a row of one stays; and what is not its own. -/
structure Stays (w w' : World) : Prop where
  typ : ∀ (k : Nat) (cells : Array Value) (t : TypeId) (fr : Nat × Nat), w.heap[k]? = some (Obj.cells cells t fr) → t ≠ 62 → t ≠ 64 → t ≠ 3 → w'.heap[k]? = some (Obj.cells cells t fr)
  keep : ∀ k, k < w.heap.size → ¬ Own.Q k → w'.heap[k]? = w.heap[k]?
  le : w.heap.size ≤ w'.heap.size
instance (w w' : World) : CoeFun (Stays w w') (fun _ => ∀ (k : Nat) (cells : Array Value) (t : TypeId) (fr : Nat × Nat), w.heap[k]? = some (Obj.cells cells t fr) → t ≠ 62 → t ≠ 64 → t ≠ 3 → w'.heap[k]? = some (Obj.cells cells t fr)) := ⟨fun h => h.typ⟩
theorem Stays.refl (w : World) : Stays w w := ⟨fun _ _ _ _ h _ _ _ => h, fun _ _ _ => rfl, Nat.le_refl _⟩
theorem Stays.trans {a b c : World} (h1 : Stays a b) (h2 : Stays b c) : Stays a c := ⟨fun k cs t fr h a1 a2 a3 => h2.typ k cs t fr (h1.typ k cs t fr h a1 a2 a3) a1 a2 a3, fun k hk hq => (h2.keep k (Nat.lt_of_lt_of_le hk h1.le) hq).trans (h1.keep k hk hq), Nat.le_trans h1.le h2.le⟩
theorem Stays.below {w w' : World} (h : Below w.heap.size w w') : Stays w w' := ⟨fun k cs t fr hk _ _ _ => by
  rw [h.block k (blk_lt hk)]; exact hk, fun k hk _ => h.block k hk, h.size⟩
theorem Stays.drewN {w w' : World} (h : Stays w w') (m : Nat) : Stays w (w'.drewN m) := ⟨h.typ, h.keep, h.le⟩
theorem Stays.alloc {w w' : World} (h : Stays w w') (o : Obj) : Stays w (w'.alloc o) := h.trans (Stays.below (below_alloc (Below.refl _ _) o))
theorem Stays.set {w w' : World} (h : Stays w w') {g t : Nat} {cells : Array Value} (hb : w'.heap[g]? = some (Obj.cells cells t (0, 0))) (ht : t = 62 ∨ t = 64 ∨ t = 3) (hq : Own.Q g) (j : Nat) (u : Value) : Stays w (w'.setCell ⟨g, j, none⟩ u) := by
  refine ⟨?_, ?_, by rw [World.size_setCell]; exact h.le⟩
  · intro k cs t' fr hk a1 a2 a3
    have := h.typ k cs t' fr hk a1 a2 a3
    have hne : k ≠ g := by
      rintro rfl
      rw [hb] at this
      injection this with this
      injection this with _ h2 _
      rcases ht with rfl | rfl | rfl <;> simp_all
    rw [Below.heap_setCell w' ⟨g, j, none⟩ u k hne]
    exact this
  · intro k hk hnq
    have hne : k ≠ g := by
      rintro rfl
      exact hnq hq
    rw [Below.heap_setCell w' ⟨g, j, none⟩ u k hne]
    exact h.keep k hk hnq
theorem Stays.grown {w w' : World} {v : Value} {t : Nat} (hty : ∀ k, v.ownBlock = some k → ∃ cells, w.heap[k]? = some (Obj.cells cells t (0, 0))) (ht : t = 62 ∨ t = 64 ∨ t = 3) (hq : ∀ k, v.ownBlock = some k → Own.Q k) (hg : w.grownBy w' v.ownBlock) : Stays w w' := by
  refine ⟨?_, ?_, hg.size⟩
  · intro k cs t' fr hk a1 a2 a3
    have hne : some k ≠ v.ownBlock := by
      intro e
      obtain ⟨cells, hc⟩ := hty k e.symm
      rw [hk] at hc
      injection hc with hc
      injection hc with _ h2 _
      rcases ht with rfl | rfl | rfl <;> simp_all
    rw [hg.block k (blk_lt hk) hne]
    exact hk
  · intro k hk hnq
    have hne : some k ≠ v.ownBlock := fun e => hnq (hq k e.symm)
    exact hg.block k hk hne
theorem Slab.vp_form {base : Nat} {w : World} {g : Nat} {m n : Int} {vp vf : Value} {ps : List S64} {fs : List Int} {al : Int} (h : Slab base w g m n vp vf ps fs al) : ∃ A c, vp = .slice A ps.length c := Kd.R_slice h.2.2.1
theorem Slab.vf_form {base : Nat} {w : World} {g : Nat} {m n : Int} {vp vf : Value} {ps : List S64} {fs : List Int} {al : Int} (h : Slab base w g m n vp vf ps fs al) : ∃ A c, vf = .slice A fs.length c := Kd.R_slice h.2.2.2.1
/-- A field is stored. -/
theorem Slab.set {base : Nat} {w : World} {g : Nat} {m n : Int} {vp vf : Value} {al : Int} (hb : w.heap[g]? = some (.cells #[.int .i64 m, .int .i64 n, vp, vf, .int .i64 al] 62 (0, 0))) (hg : base ≤ g) (j : Nat) (u : Value) {m' n' : Int} {vp' vf' : Value} {ps' : List S64} {fs' : List Int} {al' : Int}
    (hc : (#[.int .i64 m, .int .i64 n, vp, vf, .int .i64 al] : Array Value).setIfInBounds j u = #[.int .i64 m', .int .i64 n', vp', vf', .int .i64 al']) (hp : k64.R 64 w base Own.Q vp' ps') (hf : (Kd.int .i64).R 3 w base Own.Q vf' fs') (hqn : Own.Q g ∧ Own.N ≤ w.heap.size) :
    Slab base (w.setCell ⟨g, j, none⟩ u) g m' n' vp' vf' ps' fs' al' := by
  refine ⟨?_, hg, ?_, ?_, hqn.1, by rw [World.size_setCell]; exact hqn.2⟩
  · have := blk_set hb j u
    rw [hc] at this
    exact this
  · exact Kd.R_set hp hb (by decide) j u
  · exact Kd.R_set hf hb (by decide) j u
theorem Slab.drewN {base : Nat} {w : World} {g : Nat} {m n : Int} {vp vf : Value} {ps : List S64} {fs : List Int} {al : Int} (h : Slab base w g m n vp vf ps fs al) (k : Nat) : Slab base (w.drewN k) g m n vp vf ps fs al := ⟨h.1, h.2.1, Kd.R_drewN h.2.2.1 k, Kd.R_drewN h.2.2.2.1 k, h.2.2.2.2⟩
theorem Slab.below {base : Nat} {w w' : World} {g : Nat} {m n : Int} {vp vf : Value} {ps : List S64} {fs : List Int} {al : Int} (h : Slab base w g m n vp vf ps fs al) (hb : Below w.heap.size w w') : Slab base w' g m n vp vf ps fs al :=
  ⟨by rw [hb.block g (blk_lt h.1)]; exact h.1, h.2.1, Kd.R_below h.2.2.1 hb, Kd.R_below h.2.2.2.1 hb, h.2.2.2.2.1, Nat.le_trans h.2.2.2.2.2 hb.size⟩
theorem Slab.lt {base : Nat} {w : World} {g : Nat} {m n : Int} {vp vf : Value} {ps : List S64} {fs : List Int} {al : Int} (h : Slab base w g m n vp vf ps fs al) : g < w.heap.size := blk_lt h.1
omit [Own] in
theorem wrap_ok (x : Int) (h1 : -9223372036854775808 ≤ x) (h2 : x ≤ 9223372036854775807) : IntKind.i64.wrap x = x := IntWalk.i64_in x ⟨h1, h2⟩
omit [Own] in
theorem slab_info3 : (Try.prog.info? 3).map (fun i => (i.zero, i.size, i.bytes)) = some (some (.int .i64 0), 1, 8) := by kernel_rfl
theorem pop_none (base : Nat) (g : Nat) (m n al : Int) (vp vf : Value) (ps : List S64) (w : World) (hI : Slab base w g m n vp vf ps [] al) :
    Calls Try.prog 26 #[.pointer (some ⟨g, 3, none⟩)] w fun e w' => e = .returned (.tuple #[.int .i64 0, .bool false]) ∧ Drawn0 w w' := by
  obtain ⟨A, c, rfl⟩ := hI.vf_form
  have hc3 : w.cell? ⟨g, 3, none⟩ = some (.slice A 0 c) := (blk_cell hI.1 3).trans rfl
  have hf3 := blk_frozen hI.1 3
  clear hI
  go_enter Try.func26, Try.ntmps26
  go_wp2
  go_ret2
  exact ⟨rfl, 0, rfl⟩
theorem pop_some (base : Nat) (g : Nat) (m n al : Int) (vp vf : Value) (ps : List S64) (fs : List Int) (w : World) (hI : Slab base w g m n vp vf ps fs al) (hfs : 0 < fs.length) (hl : fs.length ≤ 100000) :
    Calls Try.prog 26 #[.pointer (some ⟨g, 3, none⟩)] w fun e w' => e = .returned (.tuple #[.int .i64 (rd fs ((fs.length : Int) - 1)), .bool true]) ∧ (∃ vf', Slab base w' g m n vp vf' ps (fs.take (fs.length - 1)) al) ∧ Below base w w' ∧ Stays w w' ∧ w.heap.size ≤ w'.heap.size := by
  obtain ⟨gf, cap, rfl, hbf, hltf, cells, hcf⟩ := Kd.R_form hI.2.2.2.1 hfs
  have hc3 : w.cell? ⟨g, 3, none⟩ = some (.slice (some ⟨gf, 0, none⟩) fs.length cap) := (blk_cell hI.1 3).trans rfl
  have hf3 := blk_frozen hI.1 3
  have hlast : w.cell? ⟨gf, fs.length - 1, none⟩ = some (.int .i64 (rd fs ((fs.length : Int) - 1))) := by
    have := Kd.R_cell (d := (0 : Int)) hI.2.2.2.1 ((fs.length : Int) - 1) (by omega) (by omega)
    rw [show ((fs.length : Int) - 1).toNat = fs.length - 1 by omega] at this
    exact this.1
  have hfl := blk_frozen hcf (fs.length - 1)
  have hcap : fs.length ≤ cap := by
    obtain ⟨_, h2, _⟩ := Kd.R_reads' hI.2.2.2.1
    exact h2
  have hsub : IntKind.i64.wrap ((fs.length : Int) - 1) = (fs.length : Int) - 1 := wrap_ok _ (by omega) (by omega)
  have hsl : ∀ W : World, (Instr.slice 42 (.slice (some ⟨gf, 0, none⟩) fs.length cap) none (some (.int .i64 ((fs.length : Int) - 1))) none).run Try.prog W = .ok (.slice (some ⟨gf, 0, none⟩) (fs.length - 1) cap) W := by
    intro W
    obtain ⟨i, hi, _⟩ := Option.map_eq_some_iff.1 slab_info3
    have := cut_to (P := Try.prog) 42 3 .i64 Try.underlying42 hi (some ⟨gf, 0, none⟩) fs.length cap ((fs.length : Int) - 1) (by omega) (by omega) hcap W
    rwa [show ((fs.length : Int) - 1).toNat = fs.length - 1 by omega] at this
  have hne : ((fs.length : Int) == 0) = false := by rw [beq_eq_false_iff_ne]; omega
  have HI := Aside0.mk hI
  clear hI
  go_enter Try.func26, Try.ntmps26
  go_wp2
  go_quiet (fail)
  go_wp2
  go_region
  go_wp2
  go_ret2
  refine ⟨rfl, ⟨.slice (some ⟨gf, 0, none⟩) (fs.length - 1) cap, ?_⟩, ?_, ?_, ?_⟩
  · refine Slab.set (Slab.drewN HI.out _).1 HI.out.2.1 3 _ rfl (Kd.R_drewN HI.out.2.2.1 _) ?_ HI.out.2.2.2.2
    have := Kd.R_take (Kd.R_drewN HI.out.2.2.2.1 (nq + 1)) (m := fs.length - 1) (by omega)
    exact this
  · refine Below.setCell ?_ HI.out.2.1 _
    exact pw_below_drewN (Below.refl _ _) _
  · exact Stays.set (Stays.drewN (Stays.refl w) _) HI.out.1 (.inl rfl) HI.out.2.2.2.2.1 3 _
  · rw [World.size_setCell]; exact Nat.le_refl _
theorem push_calls (base : Nat) (g : Nat) (m n al : Int) (vp vf : Value) (ps : List S64) (fs : List Int) (x : Int) (w : World) (hI : Slab base w g m n vp vf ps fs al) (hl : fs.length ≤ 100000) (hbase : base ≤ w.heap.size) :
    Calls Try.prog 25 #[.pointer (some ⟨g, 3, none⟩), .int .i64 x] w fun e w' => e = .returned (.tuple #[]) ∧ (∃ vf', Slab base w' g m n vp vf' ps (fs ++ [x]) al) ∧ Below base w w' ∧ Stays w w' ∧ w.heap.size ≤ w'.heap.size := by
  have hc3 : w.cell? ⟨g, 3, none⟩ = some vf := (blk_cell hI.1 3).trans rfl
  have hf3 := blk_frozen hI.1 3
  have HI := Aside0.mk hI
  clear hI
  go_enter Try.func25, Try.ntmps25
  go_wp2_with (first | ((with_reducible refine gate_builtin (b := .append) (xs := #[.tmp 8, .tmp 10]) rfl ?_); at_builtin; refine Kd.R_append (Kd.int .i64) (w0 := w) base rfl (.tmp 8) (.tmp 10) 42 3 (.int .i64 0) 8 rfl Try.underlying42 slab_info3 rfl (by decide) (by omega) vf fs x [.int .i64 x] Own.Q (fun _ => False) rfl rfl ?aP (fun _ hk => hk.elim) ?aF ?aO ?aB ?aS ?aL ?_; (case aP => exact rfl); (case aB => exact Below.refl _ _); (case aF => exact (fun k hk => Own.new k (Nat.le_trans HI.out.2.2.2.2.2 hk))); (case aO => exact HI.out.2.2.2.1); (case aS => exact hbase); (case aL => omega); intro v1 w1 ho hb hg hat; (obtain ⟨A1, c1, rfl⟩ := Kd.R_slice ho); have hb1 := Aside0.mk ((hg.block g (Slab.lt HI.out) (Kd.R_ne HI.out.2.2.2.1 HI.out.1 (by decide))).trans HI.out.1); have hf1 := blk_frozen hb1.out 3; have hc1 := (blk_cell hb1.out 3).trans (show _ = some vf from rfl); have HO := Aside0.mk ho; have HB := Aside0.mk hb; have HG := Aside0.mk hg; clear ho hb hg hat))
  go_end0
  refine ⟨rfl, ⟨.slice A1 (fs ++ [x]).length c1, ?_⟩, ?_, ?_, ?_⟩
  · exact Slab.set hb1.out HI.out.2.1 3 _ (by simp) (Kd.R_over HI.out.2.2.1 HI.out.2.2.2.1 (by decide) HG.out) HO.out ⟨HI.out.2.2.2.2.1, Nat.le_trans HI.out.2.2.2.2.2 HG.out.size⟩
  · exact Below.setCell HB.out HI.out.2.1 _
  · exact Stays.set (Stays.grown (Kd.R_typed HI.out.2.2.2.1) (.inr (.inr rfl)) HI.out.2.2.2.1.1 HG.out) hb1.out (.inl rfl) HI.out.2.2.2.2.1 3 _
  · rw [World.size_setCell]; exact HG.out.size
omit [Own] in
theorem slab_info64 : (Try.prog.info? 64).map (fun i => (i.zero, i.size, i.bytes)) = some (some (.agg #[.int .i64 0, .bool false]), 2, 16) := by kernel_rfl
theorem fresh_full (base : Nat) (g : Nat) (m n al : Int) (vp vf : Value) (ps : List S64) (fs : List Int) (w : World) (hI : Slab base w g m n vp vf ps fs al) (hfull : (ps.length : Int) = m) :
    Calls Try.prog 27 #[.pointer (some ⟨g, 0, none⟩)] w fun e w' => e = .returned (.tuple #[.int .i64 0, .bool false]) ∧ Drawn0 w w' := by
  obtain ⟨A, c, rfl⟩ := hI.vp_form
  have hc0 : w.cell? ⟨g, 0, none⟩ = some (.int .i64 m) := (blk_cell hI.1 0).trans rfl
  have hc2 : w.cell? ⟨g, 2, none⟩ = some (.slice A ps.length c) := (blk_cell hI.1 2).trans rfl
  have hf0 := blk_frozen hI.1 0
  have hf2 := blk_frozen hI.1 2
  have he : ((ps.length : Int) == m) = true := by rw [hfull]; simp
  clear hI
  go_enter Try.func27, Try.ntmps27
  go_wp2
  repeat (go_quiet (fail); try go_wp2)
  go_ret2
  exact ⟨rfl, _, rfl⟩
theorem fresh_more (base : Nat) (g : Nat) (m n al : Int) (vp vf : Value) (ps : List S64) (fs : List Int) (w : World) (hI : Slab base w g m n vp vf ps fs al) (hless : (ps.length : Int) ≠ m) (hl : ps.length ≤ 100000) (hbase : base ≤ w.heap.size) :
    Calls Try.prog 27 #[.pointer (some ⟨g, 0, none⟩)] w fun e w' => e = .returned (.tuple #[.int .i64 ps.length, .bool true]) ∧ (∃ vp', Slab base w' g m n vp' vf (ps ++ [⟨0, false⟩]) fs al) ∧ Below base w w' ∧ Stays w w' ∧ w.heap.size ≤ w'.heap.size := by
  obtain ⟨A, c, rfl⟩ := hI.vp_form
  have hc0 : w.cell? ⟨g, 0, none⟩ = some (.int .i64 m) := (blk_cell hI.1 0).trans rfl
  have hc2 : w.cell? ⟨g, 2, none⟩ = some (.slice A ps.length c) := (blk_cell hI.1 2).trans rfl
  have hf0 := blk_frozen hI.1 0
  have hf2 := blk_frozen hI.1 2
  have he : ((ps.length : Int) == m) = false := by rw [beq_eq_false_iff_ne]; exact hless
  have hw : IntKind.i64.wrap (((ps ++ [(⟨0, false⟩ : S64)]).length : Int) - 1) = (ps.length : Int) := by rw [List.length_append, List.length_singleton, wrap_ok _ (by omega) (by omega)]; omega
  have HI := Aside0.mk hI
  clear hI
  have hu64 := Try.underlying64
  go_enter Try.func27, Try.ntmps27
  go_wp2
  go_quiet (fail)
  go_wp2_with (first | ((with_reducible refine gate_builtin (b := .append) (xs := #[.tmp 18, .tmp 20]) rfl ?_); at_builtin; refine Kd.R_append k64 (w0 := w) base rfl (.tmp 18) (.tmp 20) 58 64 (.agg #[.int .i64 0, .bool false]) 16 rfl Try.underlying58 slab_info64 rfl (by decide) (by omega) (.slice A ps.length c) ps ⟨0, false⟩ [.int .i64 0, .bool false] Own.Q (fun _ => False) rfl rfl ?aP (fun _ hk => hk.elim) ?aF ?aO ?aB ?aS ?aL ?_; (case aP => exact k64_mkM _ _ _ _); (case aB => exact pw_below_drewN (Below.refl _ _) _); (case aF => exact (fun k hk => Own.new k (Nat.le_trans HI.out.2.2.2.2.2 hk))); (case aO => exact Kd.R_drewN HI.out.2.2.1 _); (case aS => exact hbase); (case aL => omega); intro v1 w1 ho hb hg hat; (obtain ⟨A1, c1, rfl⟩ := Kd.R_slice ho); have hb1 := Aside0.mk ((hg.block g (Slab.lt HI.out) (Kd.R_ne HI.out.2.2.1 HI.out.1 (by decide))).trans HI.out.1); have hf1 := blk_frozen hb1.out 2; have hc1 := (blk_cell hb1.out 2).trans (show _ = some (Value.slice A ps.length c) from rfl); have HO := Aside0.mk ho; have HB := Aside0.mk hb; have HG := Aside0.mk (show w.grownBy w1 _ from ⟨hg.os, hg.tape, hg.output, hg.size, hg.block⟩); clear ho hb hg hat))
  go_ret2
  refine ⟨rfl, ⟨.slice A1 (ps ++ [(⟨0, false⟩ : S64)]).length c1, ?_⟩, ?_, ?_, ?_⟩
  · exact Slab.set hb1.out HI.out.2.1 2 _ (by simp) HO.out (Kd.R_over HI.out.2.2.2.1 HI.out.2.2.1 (by decide) HG.out) ⟨HI.out.2.2.2.2.1, Nat.le_trans HI.out.2.2.2.2.2 HG.out.size⟩
  · exact Below.setCell HB.out HI.out.2.1 _
  · exact Stays.set (Stays.grown (Kd.R_typed HI.out.2.2.1) (.inr (.inl rfl)) HI.out.2.2.1.1 HG.out) hb1.out (.inl rfl) HI.out.2.2.2.2.1 2 _
  · rw [World.size_setCell]; exact HG.out.size
omit [Own] in
theorem new_bad (base : Nat) (p n : Int) (w : World) (h : p < 0 ∨ 1024 < p ∨ n < 1 ∨ 65535 < n) :
    Calls Try.prog 10 #[.int .i64 p, .int .i64 n] w fun e w' => e = .returned (.tuple #[.pointer none, .int .i64 1]) ∧ Drawn0 w w' := by
  go_enter Try.func10, Try.ntmps10
  go_wp2
  repeat (go_quiet (fail); try go_wp2)
  all_goals first | (go_ret2; exact ⟨rfl, 0, rfl⟩) | (exfalso; simp_all; omega)
theorem new_ok (base : Nat) (p n : Int) (w : World) (h1 : 0 ≤ p) (h2 : p ≤ 1024) (h3 : 1 ≤ n) (h4 : n ≤ 65535) (hN : Own.N ≤ w.heap.size) :
    Calls Try.prog 10 #[.int .i64 p, .int .i64 n] w fun e w' => ∃ g, e = .returned (.tuple #[.pointer (some ⟨g, 0, none⟩), .int .i64 0]) ∧ w.heap.size ≤ g ∧ Slab w.heap.size w' g p n (.slice none 0 0) (.slice none 0 0) [] [] 0 ∧ Below w.heap.size w w' := by
  have d1 : decide (p < 0) = false := decide_eq_false (by omega)
  have d2 : decide (p > 1024) = false := decide_eq_false (by omega)
  have d3 : decide (n < 1) = false := decide_eq_false (by omega)
  have d4 : decide (n > 65535) = false := decide_eq_false (by omega)
  have hu62 := Try.underlying62
  have HB := Aside0.mk (Below.refl w.heap.size w)
  clear h1 h2 h3 h4
  go_enter Try.func10, Try.ntmps10
  go_wp2
  go_ret2
  refine ⟨w.heap.size, rfl, Nat.le_refl _, ⟨heap_alloc_new w _, Nat.le_refl _, Kd.R_nil _ _ _ _ _, Kd.R_nil _ _ _ _ _, Own.new _ hN, Nat.le_trans hN (below_alloc (Below.refl _ _) _).size⟩, below_alloc (Below.refl _ _) _⟩
theorem Slab.put_place {base : Nat} {w : World} {g : Nat} {m n : Int} {gp cap : Nat} {vf : Value} {ps : List S64} {fs : List Int} {al : Int} (hs : Slab base w g m n (.slice (some ⟨gp, 0, none⟩) ps.length cap) vf ps fs al) (p : Int) (h0 : 0 ≤ p) (h1 : p < ps.length) (x' : S64) :
    Slab base (((w.setCell ⟨gp, p.toNat * 2, none⟩ (.int .i64 x'.f0)).setCell ⟨gp, p.toNat * 2 + 1, none⟩ (.bool x'.f1)).drew) g m n (.slice (some ⟨gp, 0, none⟩) ps.length cap) vf (ps.set p.toNat x') fs al ∧
    w.grownBy (((w.setCell ⟨gp, p.toNat * 2, none⟩ (.int .i64 x'.f0)).setCell ⟨gp, p.toNat * 2 + 1, none⟩ (.bool x'.f1)).drew) (some gp) := by
  obtain ⟨c, hcl, hcm, hcc, hcf⟩ := Kd.R_elem hs.2.2.1 z64 p h0 h1
  obtain rfl := k64_openM hcm
  obtain ⟨hr, hg⟩ := Kd.R_seg (okp := fun _ => False) hs.2.2.1 p h0 h1 (c := [.int .i64 (ps.getD p.toNat z64).f0, .bool (ps.getD p.toNat z64).f1]) (seg := [.int .i64 x'.f0, .bool x'.f1]) (j := 0) hcl hcc (by show 0 + 2 ≤ 2; omega) (x' := x') (k64_mkM _ _ _ _) (fun _ h => h.elim)
  have hg' : w.grownBy (((w.setCell ⟨gp, p.toNat * 2, none⟩ (.int .i64 x'.f0)).setCell ⟨gp, p.toNat * 2 + 1, none⟩ (.bool x'.f1)).drew) (some gp) := ⟨hg.os, hg.tape, hg.output, hg.size, hg.block⟩
  have hne : some g ≠ some gp := Kd.R_ne hs.2.2.1 hs.1 (by decide)
  refine ⟨⟨?_, hs.2.1, Kd.R_drew hr, ?_, hs.2.2.2.2.1, Nat.le_trans hs.2.2.2.2.2 hg'.size⟩, hg'⟩
  · exact (hg'.block g (blk_lt hs.1) hne).trans hs.1
  · exact Kd.R_over hs.2.2.2.1 hs.2.2.1 (by decide) hg'
theorem Slab.put_alive {base : Nat} {w : World} {g : Nat} {m n : Int} {gp cap : Nat} {vf : Value} {ps : List S64} {fs : List Int} {al : Int} (hs : Slab base w g m n (.slice (some ⟨gp, 0, none⟩) ps.length cap) vf ps fs al) (p : Int) (h0 : 0 ≤ p) (h1 : p < ps.length) (b : Bool) :
    Slab base ((w.setCell ⟨gp, p.toNat * 2 + 1, none⟩ (.bool b)).drew) g m n (.slice (some ⟨gp, 0, none⟩) ps.length cap) vf (ps.set p.toNat ⟨(rd_T64 ps p).f0, b⟩) fs al ∧
    w.grownBy ((w.setCell ⟨gp, p.toNat * 2 + 1, none⟩ (.bool b)).drew) (some gp) := by
  obtain ⟨c, hcl, hcm, hcc, hcf⟩ := Kd.R_elem hs.2.2.1 z64 p h0 h1
  obtain rfl := k64_openM hcm
  obtain ⟨hr, hg⟩ := Kd.R_seg (okp := fun _ => False) hs.2.2.1 p h0 h1 (c := [.int .i64 (ps.getD p.toNat z64).f0, .bool (ps.getD p.toNat z64).f1]) (seg := [.bool b]) (j := 1) hcl hcc (by show 1 + 1 ≤ 2; omega) (x' := ⟨(rd_T64 ps p).f0, b⟩) (k64_mkM _ _ _ _) (fun _ h => h.elim)
  have hg' : w.grownBy ((w.setCell ⟨gp, p.toNat * 2 + 1, none⟩ (.bool b)).drew) (some gp) := ⟨hg.os, hg.tape, hg.output, hg.size, hg.block⟩
  have hne : some g ≠ some gp := Kd.R_ne hs.2.2.1 hs.1 (by decide)
  refine ⟨⟨?_, hs.2.1, Kd.R_drew hr, ?_, hs.2.2.2.2.1, Nat.le_trans hs.2.2.2.2.2 hg'.size⟩, hg'⟩
  · exact (hg'.block g (blk_lt hs.1) hne).trans hs.1
  · exact Kd.R_over hs.2.2.2.1 hs.2.2.1 (by decide) hg'
theorem Slab.cells {base : Nat} {w : World} {g : Nat} {m n : Int} {gp cap : Nat} {vf : Value} {ps : List S64} {fs : List Int} {al : Int} (hs : Slab base w g m n (.slice (some ⟨gp, 0, none⟩) ps.length cap) vf ps fs al) (p : Int) (h0 : 0 ≤ p) (h1 : p < ps.length) :
    w.cell? ⟨g, 0, none⟩ = some (.int .i64 m) ∧ w.cell? ⟨g, 1, none⟩ = some (.int .i64 n) ∧ w.cell? ⟨g, 2, none⟩ = some (.slice (some ⟨gp, 0, none⟩) ps.length cap) ∧ w.cell? ⟨g, 4, none⟩ = some (.int .i64 al) ∧ (∀ j, w.frozen? ⟨g, j, none⟩ = false) ∧
    w.cell? ⟨gp, p.toNat * 2, none⟩ = some (.int .i64 (rd_T64 ps p).f0) ∧ w.cell? ⟨gp, p.toNat * 2 + 1, none⟩ = some (.bool (rd_T64 ps p).f1) ∧ w.frozen? ⟨gp, p.toNat * 2, none⟩ = false ∧ w.frozen? ⟨gp, p.toNat * 2 + 1, none⟩ = false := by
  obtain ⟨c, hcl, hcm, hcc, hcf⟩ := Kd.R_elem hs.2.2.1 z64 p h0 h1
  obtain rfl := k64_openM hcm
  exact ⟨(blk_cell hs.1 0).trans rfl, (blk_cell hs.1 1).trans rfl, (blk_cell hs.1 2).trans rfl, (blk_cell hs.1 4).trans rfl, fun j => blk_frozen hs.1 j, hcc 0 _ rfl, hcc 1 _ rfl, hcf 0, hcf 1⟩
theorem Slab.far {base : Nat} {w : World} {g : Nat} {m n : Int} {vp vf : Value} {ps : List S64} {fs : List Int} {al : Int} (hs : Slab base w g m n vp vf ps fs al) {b t : Nat} {cs : Array Value} (hb : w.heap[b]? = some (.cells cs t (0, 0))) (h1 : t ≠ 62) (h2 : t ≠ 64) (h3 : t ≠ 3) (j : Nat) (u : Value) : Slab base (w.setCell ⟨b, j, none⟩ u) g m n vp vf ps fs al := by
  have q64 : ∀ q, q ∈ 64 :: k64.E → q ≠ t := by
    intro q hq
    have : q = 64 := by simpa [k64, Kd.iso, Kd.pair, Kd.int, Kd.bool, Kd.scalar] using hq
    omega
  have q3 : ∀ q, q ∈ 3 :: (Kd.int .i64).E → q ≠ t := by
    intro q hq
    have : q = 3 := by simpa [Kd.int, Kd.scalar] using hq
    omega
  refine ⟨?_, hs.2.1, Kd.R_set hs.2.2.1 hb q64 j u, Kd.R_set hs.2.2.2.1 hb q3 j u, hs.2.2.2.2.1, by rw [World.size_setCell]; exact hs.2.2.2.2.2⟩
  have hne : g ≠ b := by
    rintro rfl
    have := hs.1.symm.trans hb
    injection this with this
    injection this with _ h _
    exact h1 h.symm
  exact (Below.heap_setCell w ⟨b, j, none⟩ u g hne).trans hs.1
theorem Stays.setNew {w w' : World} (h : Stays w w') {b : Nat} (hb : w.heap.size ≤ b) (j : Nat) (u : Value) : Stays w (w'.setCell ⟨b, j, none⟩ u) := by
  refine ⟨?_, ?_, by rw [World.size_setCell]; exact h.le⟩
  · intro k cs t fr hk a1 a2 a3
    have hlt := blk_lt hk
    exact (Below.heap_setCell w' ⟨b, j, none⟩ u k (by show k ≠ b; omega)).trans (h.typ k cs t fr hk a1 a2 a3)
  · intro k hk hq
    exact (Below.heap_setCell w' ⟨b, j, none⟩ u k (by show k ≠ b; omega)).trans (h.keep k hk hq)
omit [Own] in
theorem rd_set_same (ps : List S64) (p : Int) (h0 : 0 ≤ p) (h1 : p < ps.length) (x : S64) : rd_T64 (ps.set p.toNat x) p = x := by
  unfold rd_T64
  rw [List.getD_eq_getElem?_getD, List.getElem?_set_self (by omega)]
  rfl
theorem take_full (base : Nat) (g : Nat) (m n al : Int) (vp vf : Value) (ps : List S64) (w : World) (hI : Slab base w g m n vp vf ps [] al) (hfull : (ps.length : Int) = m) (hbase : base ≤ w.heap.size) :
    Calls Try.prog 13 #[.pointer (some ⟨g, 0, none⟩)] w fun e w' => e = .returned (.tuple #[.agg #[.int .i64 0, .int .i64 0], .int .i64 6]) ∧ Slab base w' g m n vp vf ps [] al ∧ Below base w w' ∧ Stays w w' ∧ w.heap.size ≤ w'.heap.size := by
  have HI := Aside0.mk hI
  have hu30 := Try.underlying30
  clear hI
  go_enter Try.func13, Try.ntmps13
  go_wp2
  refine wp_loop_rounds 3 ?_
  rw [rounds_succ]
  go_wp2_with (first | (go_at_call 26; refine (pop_none base g m n al vp vf ps _ (Slab.below HI.out (below_alloc (below_alloc (Below.refl _ _) _) _))).mono ?_; rintro e w' ⟨rfl, ⟨nd, rfl⟩⟩))
  rw [rounds_succ]
  go_wp2_with (first | (go_at_call 27; refine (fresh_full base g m n al vp vf ps [] _ (Slab.drewN (Slab.below HI.out (below_alloc (below_alloc (Below.refl _ _) _) _)) _) hfull).mono ?_; rintro e w' ⟨rfl, ⟨nd2, rfl⟩⟩))
  rw [rounds_succ]
  go_wp2
  (try simp only [Exit.inBlock, Exit.then])
  refine bodyPost_ret (results_ct rfl _ _ w.heap.size 30 #[.int .i64 0, .int .i64 0] (0, 0) _ rfl (by refine blk_put (cs := #[.int .i64 0, .int .i64 0]) ?_ 1 _ rfl; refine blk_put (cs := #[.int .i64 0, .int .i64 0]) ?_ 0 _ rfl; refine blk_drewN ?_ _; refine blk_alloc ?_ _; exact heap_alloc_new w _) Try.underlying30 rfl (by kernel_rfl)) rfl ?_
  have hBW := Below.setCell (Below.setCell (pw_below_drewN (below_alloc (below_alloc (Below.refl w.heap.size w) (Obj.cells #[Value.int IntKind.i64 0, Value.int IntKind.i64 0] 30)) (Obj.cells #[Value.func (Fn.func 26) #[Value.pointer (some { block := g, off := 3 })] #[], Value.func (Fn.func 27) #[Value.pointer (some { block := g, off := 0 })] #[]] 66)) (nd + nd2)) (p := ⟨w.heap.size, 0, none⟩) (Nat.le_refl _) (Value.int IntKind.i64 0)) (p := ⟨w.heap.size, 1, none⟩) (Nat.le_refl _) (Value.int IntKind.i64 0)
  exact ⟨rfl, Slab.below HI.out hBW, Below.mono hBW hbase, Stays.below hBW, hBW.size⟩
theorem take_pop (base : Nat) (g : Nat) (m n al : Int) (vp vf : Value) (ps : List S64) (fs : List Int) (w : World) (p : Int) (hI : Slab base w g m n vp vf ps fs al) (hfs : 0 < fs.length) (hl : fs.length ≤ 100000) (hp : rd fs ((fs.length : Int) - 1) = p) (hp0 : 0 ≤ p) (hp1 : p < ps.length) (hpl : ps.length ≤ 100000)
    (hg0 : 0 ≤ (rd_T64 ps p).f0) (hg1 : (rd_T64 ps p).f0 ≤ 100000) (ha0 : 0 ≤ al) (ha1 : al ≤ 100000) (hbase : base ≤ w.heap.size) :
    Calls Try.prog 13 #[.pointer (some ⟨g, 0, none⟩)] w fun e w' => e = .returned (.tuple #[.agg #[.int .i64 p, .int .i64 ((rd_T64 ps p).f0 + 1)], .int .i64 0]) ∧ (∃ vf', Slab base w' g m n vp vf' (ps.set p.toNat ⟨(rd_T64 ps p).f0 + 1, true⟩) (fs.take (fs.length - 1)) (al + 1)) ∧ Below base w w' ∧ Stays w w' ∧ w.heap.size ≤ w'.heap.size := by
  obtain ⟨gp, cap, rfl, hbp, hltp, cells, hcp⟩ := Kd.R_form hI.2.2.1 (by omega)
  have HI := Aside0.mk hI
  have hu30 := Try.underlying30
  have hu64 := Try.underlying64
  clear hI
  have hw1 : IntKind.i64.wrap ((rd_T64 ps p).f0 + 1) = (rd_T64 ps p).f0 + 1 := wrap_ok _ (by omega) (by omega)
  have hw2 : IntKind.i64.wrap (al + 1) = al + 1 := wrap_ok _ (by omega) (by omega)
  go_enter Try.func13, Try.ntmps13
  go_wp2
  refine wp_loop_rounds 3 ?_
  rw [rounds_succ]
  go_wp2_with (first | (go_at_call 26; refine (pop_some base g m n al _ vf ps fs _ (Slab.below HI.out (below_alloc (below_alloc (Below.refl _ _) _) _)) hfs hl).mono ?_; rw [hp]; rintro e w' ⟨rfl, ⟨vf', hs⟩, hb, hst, hsz⟩; have hq0 := (blk_cell hs.1 2).trans (show _ = some (Value.slice (some ⟨gp, 0, none⟩) ps.length cap) from rfl); have hq1 := blk_frozen hs.1 2; have hq2 := (blk_cell hs.1 4).trans (show _ = some (Value.int .i64 al) from rfl); have hq3 := blk_frozen hs.1 4; obtain ⟨c, hcl, hcm, hcc, hcf⟩ := Kd.R_elem hs.2.2.1 z64 p hp0 hp1; obtain rfl := k64_openM hcm; have hq4 : w'.cell? ⟨gp, p.toNat * 2, none⟩ = some (.int .i64 (rd_T64 ps p).f0) := hcc 0 _ rfl; have hq5 : w'.cell? ⟨gp, p.toNat * 2 + 1, none⟩ = some (.bool (rd_T64 ps p).f1) := hcc 1 _ rfl; have hq6 : w'.frozen? ⟨gp, p.toNat * 2, none⟩ = false := hcf 0; have hq7 : w'.frozen? ⟨gp, p.toNat * 2 + 1, none⟩ = false := hcf 1; have HS := Aside0.mk hs; have HB := Aside0.mk hb; have HT := Aside0.mk hst; have HZ := Aside0.mk hsz; have HC := Aside0.mk hcc; clear hs hb hst hsz hcm hcc hcf))
  go_region
  have HS2 : Slab base (((w'.setCell ⟨gp, p.toNat * 2, none⟩ (.int .i64 ((rd_T64 ps p).f0 + 1))).setCell ⟨gp, p.toNat * 2 + 1, none⟩ (.bool true)).drew) g m n (.slice (some ⟨gp, 0, none⟩) ps.length cap) vf' (ps.set p.toNat ⟨(rd_T64 ps p).f0 + 1, true⟩) (fs.take (fs.length - 1)) al := (Slab.put_place HS.out p hp0 hp1 ⟨(rd_T64 ps p).f0 + 1, true⟩).1
  have HG2 : w'.grownBy (((w'.setCell ⟨gp, p.toNat * 2, none⟩ (.int .i64 ((rd_T64 ps p).f0 + 1))).setCell ⟨gp, p.toNat * 2 + 1, none⟩ (.bool true)).drew) (some gp) := (Slab.put_place HS.out p hp0 hp1 ⟨(rd_T64 ps p).f0 + 1, true⟩).2
  generalize (((w'.setCell ⟨gp, p.toNat * 2, none⟩ (.int .i64 ((rd_T64 ps p).f0 + 1))).setCell ⟨gp, p.toNat * 2 + 1, none⟩ (.bool true)).drew) = W2 at HS2 HG2 ⊢
  clear hq0 hq1 hq2 hq3 hq4 hq5 hq6 hq7
  have k4 := (blk_cell HS2.1 4).trans (show _ = some (Value.int .i64 al) from rfl)
  have k5 := blk_frozen HS2.1 4
  have HS3 : Slab base (W2.setCell ⟨g, 4, none⟩ (.int .i64 (al + 1))) g m n (.slice (some ⟨gp, 0, none⟩) ps.length cap) vf' (ps.set p.toNat ⟨(rd_T64 ps p).f0 + 1, true⟩) (fs.take (fs.length - 1)) (al + 1) := Slab.set HS2.1 HS2.2.1 4 _ rfl HS2.2.2.1 HS2.2.2.2.1 HS2.2.2.2.2
  have HST := Aside0.mk (Stays.set (Stays.refl W2) HS2.1 (.inl rfl) HS2.2.2.2.2.1 4 (.int .i64 (al + 1)))
  have HB3 := Aside0.mk (Below.setCell (Below.refl base W2) HS2.2.1 (p := ⟨g, 4, none⟩) (.int .i64 (al + 1)))
  have HA2 := Aside0.mk HS2
  have HAG := Aside0.mk HG2
  clear HS2 HG2
  go_upto_region 8 with (fail)
  generalize W2.setCell ⟨g, 4, none⟩ (.int .i64 (al + 1)) = W3 at HS3 HST HB3 ⊢
  have hr1 := HT.out w.heap.size _ _ _ (blk_alloc (heap_alloc_new w _) _) (by decide) (by decide) (by decide)
  have HG1 := Aside0.mk (Stays.grown (v := .slice (some ⟨gp, 0, none⟩) ps.length cap) (Kd.R_typed HS.out.2.2.1) (.inr (.inl rfl)) HS.out.2.2.1.1 HAG.out)
  have hr3 := Aside0.mk (HST.out _ _ _ _ (HG1.out _ _ _ _ hr1 (by decide) (by decide) (by decide)) (by decide) (by decide) (by decide))
  clear hr1
  have HS3' : Slab base W3 g m n (.slice (some ⟨gp, 0, none⟩) (ps.set p.toNat ⟨(rd_T64 ps p).f0 + 1, true⟩).length cap) vf' (ps.set p.toNat ⟨(rd_T64 ps p).f0 + 1, true⟩) (fs.take (fs.length - 1)) (al + 1) := by rw [List.length_set]; exact HS3
  obtain ⟨_, _, c2, _, cf, e0, _, f0, _⟩ := Slab.cells HS3' p hp0 (by rw [List.length_set]; exact hp1)
  rw [List.length_set] at c2
  rw [rd_set_same ps p hp0 hp1] at e0
  have cf2 := cf 2
  have z0 := (blk_cell hr3.out 0).trans (show _ = some (Value.int .i64 0) from rfl)
  have z1 := (blk_cell hr3.out 1).trans (show _ = some (Value.int .i64 0) from rfl)
  have z2 := blk_frozen hr3.out 0
  have z3 := blk_frozen hr3.out 1
  have HA3 := Aside0.mk HS3
  clear HS3 HS3' cf
  go_wp2
  (try simp only [Exit.inBlock, Exit.then])
  refine bodyPost_ret (results_ct rfl _ _ w.heap.size 30 #[.int .i64 p, .int .i64 ((rd_T64 ps p).f0 + 1)] (0, 0) _ rfl (by refine blk_put (cs := #[.int .i64 p, .int .i64 0]) ?_ 1 _ rfl; refine blk_put (cs := #[.int .i64 0, .int .i64 0]) ?_ 0 _ rfl; exact hr3.out) Try.underlying30 rfl (by kernel_rfl)) rfl ?_
  have hf1 := Slab.far HA3.out hr3.out (by decide) (by decide) (by decide) 0 (.int .i64 p)
  have hf2 := Slab.far hf1 (blk_set hr3.out 0 (.int .i64 p)) (by decide) (by decide) (by decide) 1 (.int .i64 ((rd_T64 ps p).f0 + 1))
  have hal := below_alloc (below_alloc (Below.refl w.heap.size w) (Obj.cells #[Value.int IntKind.i64 0, Value.int IntKind.i64 0] 30)) (Obj.cells #[Value.func (Fn.func 26) #[Value.pointer (some { block := g, off := 3 })] #[], Value.func (Fn.func 27) #[Value.pointer (some { block := g, off := 0 })] #[]] 66)
  have hB1 : Below base w w' := (Below.mono hal hbase).trans HB.out
  have hB2 : Below base w W2 := Below.grown hB1 HAG.out (Nat.le_trans hbase hB1.size) (by intro k hk; injection hk with hk; omega)
  have hB3 : Below base w W3 := hB2.trans HB3.out
  refine ⟨rfl, ⟨_, hf2⟩, Below.setCell (Below.setCell hB3 hbase _) hbase _, Stays.setNew (Stays.setNew (((Stays.below hal).trans HT.out).trans HG1.out |>.trans HST.out) (Nat.le_refl _) _ _) (Nat.le_refl _) _ _, ?_⟩
  rw [World.size_setCell, World.size_setCell]
  exact hB3.size
theorem take_fresh (base : Nat) (g : Nat) (m n al : Int) (vp vf : Value) (ps : List S64) (w : World) (hI : Slab base w g m n vp vf ps [] al) (hless : (ps.length : Int) ≠ m) (hpl : ps.length < 100000)
    (ha0 : 0 ≤ al) (ha1 : al ≤ 100000) (hbase : base ≤ w.heap.size) :
    Calls Try.prog 13 #[.pointer (some ⟨g, 0, none⟩)] w fun e w' => e = .returned (.tuple #[.agg #[.int .i64 ps.length, .int .i64 1], .int .i64 0]) ∧ (∃ vp', Slab base w' g m n vp' vf (ps ++ [⟨1, true⟩]) [] (al + 1)) ∧ Below base w w' ∧ Stays w w' ∧ w.heap.size ≤ w'.heap.size := by
  have HI := Aside0.mk hI
  have hu30 := Try.underlying30
  have hu64 := Try.underlying64
  clear hI
  have hw2 : IntKind.i64.wrap (al + 1) = al + 1 := wrap_ok _ (by omega) (by omega)
  obtain ⟨p, hpp⟩ : ∃ p : Int, p = ps.length := ⟨_, rfl⟩
  obtain ⟨qs, hqs⟩ : ∃ qs : List S64, ps ++ [⟨0, false⟩] = qs := ⟨_, rfl⟩
  have hqn : qs.length = ps.length + 1 := by rw [← hqs]; simp
  have hrq : (rd_T64 qs p).f0 = 0 := by
    unfold rd_T64
    rw [hpp, Int.toNat_natCast, ← hqs, List.getD_eq_getElem?_getD, List.getElem?_append_right (Nat.le_refl _)]
    simp
  have hset : qs.set p.toNat ⟨(rd_T64 qs p).f0 + 1, true⟩ = ps ++ [⟨1, true⟩] := by
    rw [hrq, hpp, Int.toNat_natCast, ← hqs, List.set_append_right _ _ (Nat.le_refl _)]
    simp
  have hp0 : 0 ≤ p := by omega
  have hp1 : p < qs.length := by omega
  have hw1 : IntKind.i64.wrap ((rd_T64 qs p).f0 + 1) = (rd_T64 qs p).f0 + 1 := wrap_ok _ (by omega) (by omega)
  have hone : ((rd_T64 qs p).f0 + 1) = 1 := by omega
  rw [← hset, ← hpp]
  refine Calls.mono (R := fun e w' => e = .returned (.tuple #[.agg #[.int .i64 p, .int .i64 ((rd_T64 qs p).f0 + 1)], .int .i64 0]) ∧ (∃ vp', Slab base w' g m n vp' vf (qs.set p.toNat ⟨(rd_T64 qs p).f0 + 1, true⟩) [] (al + 1)) ∧ Below base w w' ∧ Stays w w' ∧ w.heap.size ≤ w'.heap.size) ?_ (by rintro e w' ⟨h1, h2⟩; exact ⟨by rw [h1, hone], h2⟩)
  have HPP := Aside0.mk hpp
  have HQN := Aside0.mk hqn
  have HQS := Aside0.mk hqs
  clear hset hone hrq hpp hqn hqs
  go_enter Try.func13, Try.ntmps13
  go_wp2
  refine wp_loop_rounds 3 ?_
  rw [rounds_succ]
  go_wp2_with (first | (go_at_call 26; refine (pop_none base g m n al vp vf ps _ (Slab.below HI.out (below_alloc (below_alloc (Below.refl _ _) _) _))).mono ?_; rintro e w' ⟨rfl, ⟨nd, rfl⟩⟩))
  rw [rounds_succ]
  go_wp2_with (first | (go_at_call 27; refine (fresh_more base g m n al vp vf ps [] _ (Slab.drewN (Slab.below HI.out (below_alloc (below_alloc (Below.refl _ _) _) _)) _) hless (by omega) (Nat.le_trans hbase (below_alloc (below_alloc (Below.refl _ _) _) _).size)).mono ?_; rw [← HPP.out, HQS.out]; rintro e w' ⟨rfl, ⟨vp', hs⟩, hb, hst, hsz⟩; (obtain ⟨gp, cap, rfl, hbp, hltp, cells, hcp⟩ := Kd.R_form hs.2.2.1 (by have := HQN.out; omega)); obtain ⟨_, _, hq0, hq2, hcf, hq4, hq5, hq6, hq7⟩ := Slab.cells hs p hp0 hp1; have hq1 := hcf 2; have hq3 := hcf 4; have HS := Aside0.mk hs; have HB := Aside0.mk hb; have HT := Aside0.mk hst; have HZ := Aside0.mk hsz; clear hs hb hst hsz hcf))
  go_region
  have HS2 : Slab base (((w'.setCell ⟨gp, p.toNat * 2, none⟩ (.int .i64 ((rd_T64 qs p).f0 + 1))).setCell ⟨gp, p.toNat * 2 + 1, none⟩ (.bool true)).drew) g m n (.slice (some ⟨gp, 0, none⟩) qs.length cap) vf (qs.set p.toNat ⟨(rd_T64 qs p).f0 + 1, true⟩) [] al := (Slab.put_place HS.out p hp0 hp1 ⟨(rd_T64 qs p).f0 + 1, true⟩).1
  have HG2 : w'.grownBy (((w'.setCell ⟨gp, p.toNat * 2, none⟩ (.int .i64 ((rd_T64 qs p).f0 + 1))).setCell ⟨gp, p.toNat * 2 + 1, none⟩ (.bool true)).drew) (some gp) := (Slab.put_place HS.out p hp0 hp1 ⟨(rd_T64 qs p).f0 + 1, true⟩).2
  generalize (((w'.setCell ⟨gp, p.toNat * 2, none⟩ (.int .i64 ((rd_T64 qs p).f0 + 1))).setCell ⟨gp, p.toNat * 2 + 1, none⟩ (.bool true)).drew) = W2 at HS2 HG2 ⊢
  clear hq0 hq1 hq2 hq3 hq4 hq5 hq6 hq7
  have k4 := (blk_cell HS2.1 4).trans (show _ = some (Value.int .i64 al) from rfl)
  have k5 := blk_frozen HS2.1 4
  have HS3 : Slab base (W2.setCell ⟨g, 4, none⟩ (.int .i64 (al + 1))) g m n (.slice (some ⟨gp, 0, none⟩) qs.length cap) vf (qs.set p.toNat ⟨(rd_T64 qs p).f0 + 1, true⟩) [] (al + 1) := Slab.set HS2.1 HS2.2.1 4 _ rfl HS2.2.2.1 HS2.2.2.2.1 HS2.2.2.2.2
  have HST := Aside0.mk (Stays.set (Stays.refl W2) HS2.1 (.inl rfl) HS2.2.2.2.2.1 4 (.int .i64 (al + 1)))
  have HB3 := Aside0.mk (Below.setCell (Below.refl base W2) HS2.2.1 (p := ⟨g, 4, none⟩) (.int .i64 (al + 1)))
  have HA2 := Aside0.mk HS2
  have HAG := Aside0.mk HG2
  clear HS2 HG2
  go_upto_region 8 with (fail)
  generalize W2.setCell ⟨g, 4, none⟩ (.int .i64 (al + 1)) = W3 at HS3 HST HB3 ⊢
  have hr1 := HT.out w.heap.size _ _ _ (blk_alloc (heap_alloc_new w _) _) (by decide) (by decide) (by decide)
  have HG1 := Aside0.mk (Stays.grown (v := .slice (some ⟨gp, 0, none⟩) qs.length cap) (Kd.R_typed HS.out.2.2.1) (.inr (.inl rfl)) HS.out.2.2.1.1 HAG.out)
  have hr3 := Aside0.mk (HST.out _ _ _ _ (HG1.out _ _ _ _ hr1 (by decide) (by decide) (by decide)) (by decide) (by decide) (by decide))
  clear hr1
  have HS3' : Slab base W3 g m n (.slice (some ⟨gp, 0, none⟩) (qs.set p.toNat ⟨(rd_T64 qs p).f0 + 1, true⟩).length cap) vf (qs.set p.toNat ⟨(rd_T64 qs p).f0 + 1, true⟩) [] (al + 1) := by rw [List.length_set]; exact HS3
  obtain ⟨_, _, c2, _, cf, e0, _, f0, _⟩ := Slab.cells HS3' p hp0 (by rw [List.length_set]; exact hp1)
  rw [List.length_set] at c2
  rw [rd_set_same qs p hp0 hp1] at e0
  have cf2 := cf 2
  have z0 := (blk_cell hr3.out 0).trans (show _ = some (Value.int .i64 0) from rfl)
  have z1 := (blk_cell hr3.out 1).trans (show _ = some (Value.int .i64 0) from rfl)
  have z2 := blk_frozen hr3.out 0
  have z3 := blk_frozen hr3.out 1
  have HA3 := Aside0.mk HS3
  clear HS3 HS3' cf
  go_wp2
  (try simp only [Exit.inBlock, Exit.then])
  refine bodyPost_ret (results_ct rfl _ _ w.heap.size 30 #[.int .i64 p, .int .i64 ((rd_T64 qs p).f0 + 1)] (0, 0) _ rfl (by refine blk_put (cs := #[.int .i64 p, .int .i64 0]) ?_ 1 _ rfl; refine blk_put (cs := #[.int .i64 0, .int .i64 0]) ?_ 0 _ rfl; exact hr3.out) Try.underlying30 rfl (by kernel_rfl)) rfl ?_
  have hf1 := Slab.far HA3.out hr3.out (by decide) (by decide) (by decide) 0 (.int .i64 p)
  have hf2 := Slab.far hf1 (blk_set hr3.out 0 (.int .i64 p)) (by decide) (by decide) (by decide) 1 (.int .i64 ((rd_T64 qs p).f0 + 1))
  have hal := pw_below_drewN (below_alloc (below_alloc (Below.refl w.heap.size w) (Obj.cells #[Value.int IntKind.i64 0, Value.int IntKind.i64 0] 30)) (Obj.cells #[Value.func (Fn.func 26) #[Value.pointer (some { block := g, off := 3 })] #[], Value.func (Fn.func 27) #[Value.pointer (some { block := g, off := 0 })] #[]] 66)) nd
  have hB1 : Below base w w' := (Below.mono hal hbase).trans HB.out
  have hB2 : Below base w W2 := Below.grown hB1 HAG.out (Nat.le_trans hbase hB1.size) (by intro k hk; injection hk with hk; omega)
  have hB3 : Below base w W3 := hB2.trans HB3.out
  refine ⟨rfl, ⟨_, hf2⟩, Below.setCell (Below.setCell hB3 hbase _) hbase _, Stays.setNew (Stays.setNew (((Stays.below hal).trans HT.out).trans HG1.out |>.trans HST.out) (Nat.le_refl _) _ _) (Nat.le_refl _) _ _, ?_⟩
  rw [World.size_setCell, World.size_setCell]
  exact hB3.size
theorem at_free (base : Nat) (g : Nat) (m n al : Int) (vp vf : Value) (ps : List S64) (fs : List Int) (w : World) (p : Int) (hI : Slab base w g m n vp vf ps fs al) :
    Calls Try.prog 24 #[.pointer (some ⟨g, 0, none⟩), .int .i64 p] w fun e w' => e = .returned (if 0 ≤ p ∧ p < ps.length ∧ (rd_T64 ps p).f1 = true then .tuple #[.agg #[.int .i64 p, .int .i64 (rd_T64 ps p).f0], .bool true] else .tuple #[.agg #[.int .i64 0, .int .i64 0], .bool false]) ∧ Below w.heap.size w w' := by
  have hu30 := Try.underlying30
  obtain ⟨A, c, rfl⟩ := hI.vp_form
  by_cases h : 0 ≤ p ∧ p < ps.length
  · obtain ⟨gp, cap, he, hbp, hltp, cells, hcp⟩ := Kd.R_form hI.2.2.1 (by omega)
    injection he with hA _ hc
    subst hA hc
    have hI1 := Slab.below hI (below_alloc (Below.refl w.heap.size w) (Obj.cells #[Value.int IntKind.i64 0, Value.int IntKind.i64 0] 30))
    obtain ⟨_, _, hq0, hq2, hcf, hq4, hq5, hq6, hq7⟩ := Slab.cells hI1 p h.1 h.2
    have hq1 := hcf 2
    have HI := Aside0.mk hI
    obtain ⟨h0, h1⟩ := h
    have d0 : decide (p < 0) = false := decide_eq_false (by omega)
    have d1 : decide ((ps.length : Int) ≤ p) = false := decide_eq_false (by omega)
    clear hI hI1 hcf
    cases hal : (rd_T64 ps p).f1
    · rw [hal] at hq5
      rw [if_neg (by simp)]
      go_enter Try.func24, Try.ntmps24
      go_wp2
      (try simp only [Exit.inBlock, Exit.then])
      exact bodyPost_ret (results_ct rfl _ _ w.heap.size 30 #[.int .i64 0, .int .i64 0] (0, 0) _ rfl (heap_alloc_new w _) Try.underlying30 rfl (by kernel_rfl)) rfl ⟨rfl, below_alloc (Below.refl _ _) _⟩
    · rw [hal] at hq5
      rw [if_pos ⟨h0, h1, rfl⟩]
      go_enter Try.func24, Try.ntmps24
      go_wp2
      (try simp only [Exit.inBlock, Exit.then])
      exact bodyPost_ret (results_ct rfl _ _ w.heap.size 30 #[.int .i64 p, .int .i64 (rd_T64 ps p).f0] (0, 0) _ rfl (heap_alloc_new w _) Try.underlying30 rfl (by kernel_rfl)) rfl ⟨rfl, below_alloc (Below.refl _ _) _⟩
  · rw [if_neg (fun x => h ⟨x.1, x.2.1⟩)]
    have hI1 := Slab.below hI (below_alloc (Below.refl w.heap.size w) (Obj.cells #[Value.int IntKind.i64 0, Value.int IntKind.i64 0] 30))
    have hq0 := (blk_cell hI1.1 2).trans (show _ = some (Value.slice A ps.length c) from rfl)
    have hq1 := blk_frozen hI1.1 2
    clear hI hI1
    by_cases h2 : p < 0
    · have d0 : decide (p < 0) = true := decide_eq_true h2
      clear h
      go_enter Try.func24, Try.ntmps24
      go_wp2
      (try simp only [Exit.inBlock, Exit.then])
      exact bodyPost_ret (results_ct rfl _ _ w.heap.size 30 #[.int .i64 0, .int .i64 0] (0, 0) _ rfl (heap_alloc_new w _) Try.underlying30 rfl (by kernel_rfl)) rfl ⟨rfl, below_alloc (Below.refl _ _) _⟩
    · have d0 : decide (p < 0) = false := decide_eq_false h2
      have d1 : decide ((ps.length : Int) ≤ p) = true := decide_eq_true (by omega)
      clear h
      go_enter Try.func24, Try.ntmps24
      go_wp2
      (try simp only [Exit.inBlock, Exit.then])
      exact bodyPost_ret (results_ct rfl _ _ w.heap.size 30 #[.int .i64 0, .int .i64 0] (0, 0) _ rfl (heap_alloc_new w _) Try.underlying30 rfl (by kernel_rfl)) rfl ⟨rfl, below_alloc (Below.refl _ _) _⟩
attribute [local go_sem high] eqA30
theorem alive_calls (base : Nat) (g : Nat) (m n al : Int) (vp vf : Value) (ps : List S64) (fs : List Int) (w : World) (p q : Int) (hI : Slab base w g m n vp vf ps fs al) :
    Calls Try.prog 14 #[.pointer (some ⟨g, 0, none⟩), .agg #[.int .i64 p, .int .i64 q]] w fun e w' => e = .returned (.bool (decide (0 ≤ p ∧ p < ps.length ∧ (rd_T64 ps p).f1 = true) && (rd_T64 ps p).f0 == q)) ∧ Below w.heap.size w w' := by
  have hu30 := Try.underlying30
  have HI := Aside0.mk hI
  clear hI
  by_cases hc : 0 ≤ p ∧ p < ps.length ∧ (rd_T64 ps p).f1 = true
  · have hd : decide (0 ≤ p ∧ p < ps.length ∧ (rd_T64 ps p).f1 = true) = true := decide_eq_true hc
    rw [hd, Bool.true_and]
    have HC := Aside0.mk hc
    clear hc hd
    go_enter Try.func14, Try.ntmps14
    go_wp2_with (first | (go_at_call 24; refine (at_free base g m n al vp vf ps fs _ p (Slab.below HI.out (below_alloc (Below.refl _ _) _))).mono ?_; rw [if_pos HC.out]; rintro e w' ⟨rfl, hb⟩; have hr := Aside0.mk (blk_alloc ((hb.block w.heap.size (blk_lt (heap_alloc_new w _))).trans (heap_alloc_new w _)) (Obj.cells #[Value.int IntKind.i64 p, Value.int IntKind.i64 (rd_T64 ps p).f0] 30)); have z0 := (blk_cell hr.out 0).trans (show _ = some (Value.int .i64 p) from rfl); have z1 := (blk_cell hr.out 1).trans (show _ = some (Value.int .i64 q) from rfl); have HB := Aside0.mk hb; clear hb))
    go_ret
    exact ⟨rfl, below_alloc (below_step (below_alloc (Below.refl _ _) _) HB.out) _⟩
  · have hd : decide (0 ≤ p ∧ p < ps.length ∧ (rd_T64 ps p).f1 = true) = false := decide_eq_false hc
    rw [hd, Bool.false_and]
    have HC := Aside0.mk hc
    clear hc hd
    go_enter Try.func14, Try.ntmps14
    go_wp2_with (first | (go_at_call 24; refine (at_free base g m n al vp vf ps fs _ p (Slab.below HI.out (below_alloc (Below.refl _ _) _))).mono ?_; rw [if_neg HC.out]; rintro e w' ⟨rfl, hb⟩; have HB := Aside0.mk hb; clear hb))
    go_ret
    exact ⟨rfl, below_alloc (below_step (below_alloc (Below.refl _ _) _) HB.out) _⟩
theorem free_none (base : Nat) (g : Nat) (m n al : Int) (vp vf : Value) (ps : List S64) (fs : List Int) (w : World) (p q : Int) (hI : Slab base w g m n vp vf ps fs al) (hno : (decide (0 ≤ p ∧ p < ps.length ∧ (rd_T64 ps p).f1 = true) && (rd_T64 ps p).f0 == q) = false) :
    Calls Try.prog 11 #[.pointer (some ⟨g, 0, none⟩), .agg #[.int .i64 p, .int .i64 q]] w fun e w' => e = .returned (.int .i64 5) ∧ Below w.heap.size w w' := by
  have hu30 := Try.underlying30
  have HI := Aside0.mk hI
  clear hI
  go_enter Try.func11, Try.ntmps11
  go_wp2_with (first | (go_at_call 14; refine (alive_calls base g m n al vp vf ps fs _ p q (Slab.below HI.out (below_alloc (Below.refl _ _) _))).mono ?_; rw [hno]; rintro e w' ⟨rfl, hb⟩; have HB := Aside0.mk hb; clear hb))
  go_ret
  exact ⟨rfl, below_step (below_alloc (Below.refl _ _) _) HB.out⟩
theorem free_worn (base : Nat) (g : Nat) (m n al : Int) (vp vf : Value) (ps : List S64) (fs : List Int) (w : World) (p q : Int) (hI : Slab base w g m n vp vf ps fs al) (h0 : 0 ≤ p) (h1 : p < ps.length) (h2 : (rd_T64 ps p).f1 = true) (h3 : (rd_T64 ps p).f0 = q) (hq : n ≤ q)
    (ha0 : -100000 ≤ al) (ha1 : al ≤ 100000) (hbase : base ≤ w.heap.size) :
    Calls Try.prog 11 #[.pointer (some ⟨g, 0, none⟩), .agg #[.int .i64 p, .int .i64 q]] w fun e w' => e = .returned (.int .i64 0) ∧ Slab base w' g m n vp vf (ps.set p.toNat ⟨q, false⟩) fs (al - 1) ∧ Below base w w' ∧ Stays w w' ∧ w.heap.size ≤ w'.heap.size := by
  obtain ⟨gp, cap, rfl, hbp, hltp, cells, hcp⟩ := Kd.R_form hI.2.2.1 (by omega)
  have hu30 := Try.underlying30
  have HI := Aside0.mk hI
  have hyes : (decide (0 ≤ p ∧ p < ps.length ∧ (rd_T64 ps p).f1 = true) && (rd_T64 ps p).f0 == q) = true := by simp [h0, h1, h2, h3]
  have hw : IntKind.i64.wrap (al - 1) = al - 1 := wrap_ok _ (by omega) (by omega)
  have hdq : decide (q < n) = false := decide_eq_false (by omega)
  have H3 := Aside0.mk h3
  clear hI h2 h3
  go_enter Try.func11, Try.ntmps11
  go_wp2_with (first | (go_at_call 14; refine (alive_calls base g m n al _ vf ps fs _ p q (Slab.below HI.out (below_alloc (Below.refl _ _) _))).mono ?_; rw [hyes]; rintro e w' ⟨rfl, hb⟩; have hb2 := below_step (below_alloc (Below.refl w.heap.size w) _) hb; have hs := Slab.below HI.out hb2; obtain ⟨_, _, hq0, hq2, hcf, hq4, hq5, hq6, hq7⟩ := Slab.cells hs p h0 h1; have hq1 := hcf 2; have hq3 := hcf 4; have hr := Aside0.mk ((hb.block w.heap.size (blk_lt (heap_alloc_new w _))).trans (heap_alloc_new w _)); have z0 := (blk_cell hr.out 0).trans (show _ = some (Value.int .i64 p) from rfl); have z1 := (blk_cell hr.out 1).trans (show _ = some (Value.int .i64 q) from rfl); have HS := Aside0.mk hs; have HB := Aside0.mk hb2; clear hb hb2 hs hcf))
  go_region
  have HS2 : Slab base ((w'.setCell ⟨gp, p.toNat * 2 + 1, none⟩ (.bool false)).drew) g m n (.slice (some ⟨gp, 0, none⟩) ps.length cap) vf (ps.set p.toNat ⟨(rd_T64 ps p).f0, false⟩) fs al := (Slab.put_alive HS.out p h0 h1 false).1
  have HG2 : w'.grownBy ((w'.setCell ⟨gp, p.toNat * 2 + 1, none⟩ (.bool false)).drew) (some gp) := (Slab.put_alive HS.out p h0 h1 false).2
  generalize ((w'.setCell ⟨gp, p.toNat * 2 + 1, none⟩ (.bool false)).drew) = W2 at HS2 HG2 ⊢
  clear hq0 hq1 hq2 hq3 hq4 hq5 hq6 hq7 z0 z1
  rw [H3.out] at HS2
  have k4 := (blk_cell HS2.1 4).trans (show _ = some (Value.int .i64 al) from rfl)
  have k5 := blk_frozen HS2.1 4
  have HS3 : Slab base (W2.setCell ⟨g, 4, none⟩ (.int .i64 (al - 1))) g m n (.slice (some ⟨gp, 0, none⟩) ps.length cap) vf (ps.set p.toNat ⟨q, false⟩) fs (al - 1) := Slab.set HS2.1 HS2.2.1 4 _ rfl HS2.2.2.1 HS2.2.2.2.1 HS2.2.2.2.2
  have HST := Aside0.mk (Stays.set (Stays.refl W2) HS2.1 (.inl rfl) HS2.2.2.2.2.1 4 (.int .i64 (al - 1)))
  have HB3 := Aside0.mk (Below.setCell (Below.refl base W2) HS2.2.1 (p := ⟨g, 4, none⟩) (.int .i64 (al - 1)))
  have HA2 := Aside0.mk HS2
  have HAG := Aside0.mk HG2
  clear HS2 HG2
  go_upto_region 5 with (fail)
  generalize W2.setCell ⟨g, 4, none⟩ (.int .i64 (al - 1)) = W3 at HS3 HST HB3 ⊢
  have HG1 := Aside0.mk (Stays.grown (v := .slice (some ⟨gp, 0, none⟩) ps.length cap) (Kd.R_typed HS.out.2.2.1) (.inr (.inl rfl)) HS.out.2.2.1.1 HAG.out)
  have hr3 := Aside0.mk (HST.out _ _ _ _ (HG1.out _ _ _ _ hr.out (by decide) (by decide) (by decide)) (by decide) (by decide) (by decide))
  have y0 := (blk_cell hr3.out 0).trans (show _ = some (Value.int .i64 p) from rfl)
  have y1 := (blk_cell hr3.out 1).trans (show _ = some (Value.int .i64 q) from rfl)
  have y2 := (blk_cell HS3.1 1).trans (show _ = some (Value.int .i64 n) from rfl)
  have HA3 := Aside0.mk HS3
  clear HS3 k4 k5
  go_wp2
  repeat (go_quiet (fail); try go_wp2)
  go_ret
  have hB2 : Below base w W2 := Below.grown (Below.mono HB.out hbase) HAG.out (Nat.le_trans hbase HB.out.size) (by intro k hk; injection hk with hk; omega)
  have hB3 := hB2.trans HB3.out
  exact ⟨rfl, Slab.drewN HA3.out _, pw_below_drewN hB3 _, (((Stays.below HB.out).trans HG1.out).trans (Stays.drewN HST.out _)), hB3.size⟩
theorem free_back (base : Nat) (g : Nat) (m n al : Int) (vp vf : Value) (ps : List S64) (fs : List Int) (w : World) (p q : Int) (hI : Slab base w g m n vp vf ps fs al) (h0 : 0 ≤ p) (h1 : p < ps.length) (h2 : (rd_T64 ps p).f1 = true) (h3 : (rd_T64 ps p).f0 = q) (hq : q < n) (hfl : fs.length ≤ 100000)
    (ha0 : -100000 ≤ al) (ha1 : al ≤ 100000) (hbase : base ≤ w.heap.size) :
    Calls Try.prog 11 #[.pointer (some ⟨g, 0, none⟩), .agg #[.int .i64 p, .int .i64 q]] w fun e w' => e = .returned (.int .i64 0) ∧ (∃ vf', Slab base w' g m n vp vf' (ps.set p.toNat ⟨q, false⟩) (fs ++ [p]) (al - 1)) ∧ Below base w w' ∧ Stays w w' ∧ w.heap.size ≤ w'.heap.size := by
  obtain ⟨gp, cap, rfl, hbp, hltp, cells, hcp⟩ := Kd.R_form hI.2.2.1 (by omega)
  have hu30 := Try.underlying30
  have HI := Aside0.mk hI
  have hyes : (decide (0 ≤ p ∧ p < ps.length ∧ (rd_T64 ps p).f1 = true) && (rd_T64 ps p).f0 == q) = true := by simp [h0, h1, h2, h3]
  have hw : IntKind.i64.wrap (al - 1) = al - 1 := wrap_ok _ (by omega) (by omega)
  have hdq : decide (q < n) = true := decide_eq_true (by omega)
  have H3 := Aside0.mk h3
  clear hI h2 h3
  go_enter Try.func11, Try.ntmps11
  go_wp2_with (first | (go_at_call 14; refine (alive_calls base g m n al _ vf ps fs _ p q (Slab.below HI.out (below_alloc (Below.refl _ _) _))).mono ?_; rw [hyes]; rintro e w' ⟨rfl, hb⟩; have hb2 := below_step (below_alloc (Below.refl w.heap.size w) _) hb; have hs := Slab.below HI.out hb2; obtain ⟨_, _, hq0, hq2, hcf, hq4, hq5, hq6, hq7⟩ := Slab.cells hs p h0 h1; have hq1 := hcf 2; have hq3 := hcf 4; have hr := Aside0.mk ((hb.block w.heap.size (blk_lt (heap_alloc_new w _))).trans (heap_alloc_new w _)); have z0 := (blk_cell hr.out 0).trans (show _ = some (Value.int .i64 p) from rfl); have z1 := (blk_cell hr.out 1).trans (show _ = some (Value.int .i64 q) from rfl); have HS := Aside0.mk hs; have HB := Aside0.mk hb2; clear hb hb2 hs hcf))
  go_region
  have HS2 : Slab base ((w'.setCell ⟨gp, p.toNat * 2 + 1, none⟩ (.bool false)).drew) g m n (.slice (some ⟨gp, 0, none⟩) ps.length cap) vf (ps.set p.toNat ⟨(rd_T64 ps p).f0, false⟩) fs al := (Slab.put_alive HS.out p h0 h1 false).1
  have HG2 : w'.grownBy ((w'.setCell ⟨gp, p.toNat * 2 + 1, none⟩ (.bool false)).drew) (some gp) := (Slab.put_alive HS.out p h0 h1 false).2
  generalize ((w'.setCell ⟨gp, p.toNat * 2 + 1, none⟩ (.bool false)).drew) = W2 at HS2 HG2 ⊢
  clear hq0 hq1 hq2 hq3 hq4 hq5 hq6 hq7 z0 z1
  rw [H3.out] at HS2
  have k4 := (blk_cell HS2.1 4).trans (show _ = some (Value.int .i64 al) from rfl)
  have k5 := blk_frozen HS2.1 4
  have HS3 : Slab base (W2.setCell ⟨g, 4, none⟩ (.int .i64 (al - 1))) g m n (.slice (some ⟨gp, 0, none⟩) ps.length cap) vf (ps.set p.toNat ⟨q, false⟩) fs (al - 1) := Slab.set HS2.1 HS2.2.1 4 _ rfl HS2.2.2.1 HS2.2.2.2.1 HS2.2.2.2.2
  have HST := Aside0.mk (Stays.set (Stays.refl W2) HS2.1 (.inl rfl) HS2.2.2.2.2.1 4 (.int .i64 (al - 1)))
  have HB3 := Aside0.mk (Below.setCell (Below.refl base W2) HS2.2.1 (p := ⟨g, 4, none⟩) (.int .i64 (al - 1)))
  have HA2 := Aside0.mk HS2
  have HAG := Aside0.mk HG2
  clear HS2 HG2
  go_upto_region 5 with (fail)
  generalize W2.setCell ⟨g, 4, none⟩ (.int .i64 (al - 1)) = W3 at HS3 HST HB3 ⊢
  have HG1 := Aside0.mk (Stays.grown (v := .slice (some ⟨gp, 0, none⟩) ps.length cap) (Kd.R_typed HS.out.2.2.1) (.inr (.inl rfl)) HS.out.2.2.1.1 HAG.out)
  have hr3 := Aside0.mk (HST.out _ _ _ _ (HG1.out _ _ _ _ hr.out (by decide) (by decide) (by decide)) (by decide) (by decide) (by decide))
  have y0 := (blk_cell hr3.out 0).trans (show _ = some (Value.int .i64 p) from rfl)
  have y1 := (blk_cell hr3.out 1).trans (show _ = some (Value.int .i64 q) from rfl)
  have y2 := (blk_cell HS3.1 1).trans (show _ = some (Value.int .i64 n) from rfl)
  have HA3 := Aside0.mk HS3
  clear HS3 k4 k5
  have y3 := (blk_cell HA3.out.1 3).trans (show _ = some vf from rfl)
  have hB2 : Below base w W2 := Below.grown (Below.mono HB.out hbase) HAG.out (Nat.le_trans hbase HB.out.size) (by intro k hk; injection hk with hk; omega)
  have HB4 := Aside0.mk (hB2.trans HB3.out)
  clear hB2
  go_wp2
  go_quiet (fail)
  go_wp2
  have HP := push_calls base g m n (al - 1) _ vf (ps.set p.toNat ⟨q, false⟩) fs p (W3.drewN (nq + 1)) (Slab.drewN HA3.out _) hfl (Nat.le_trans hbase HB4.out.size)
  go_region_with (go_at_call 25; refine HP.mono ?_; rintro e w'' ⟨rfl, ⟨vf', hs⟩, hb, hst, hsz⟩; have HS5 := Aside0.mk hs; have HB5 := Aside0.mk hb; have HT5 := Aside0.mk hst; have HZ5 := Aside0.mk hsz; clear hs hb hst hsz)
  go_wp2
  go_ret
  exact ⟨rfl, ⟨vf', HS5.out⟩, (pw_below_drewN HB4.out _).trans HB5.out, (((Stays.below HB.out).trans HG1.out).trans (Stays.drewN HST.out _)).trans HT5.out, Nat.le_trans HB4.out.size HZ5.out⟩
theorem len_calls (base : Nat) (g : Nat) (m n al : Int) (vp vf : Value) (ps : List S64) (fs : List Int) (w : World) (hI : Slab base w g m n vp vf ps fs al) :
    Calls Try.prog 15 #[.pointer (some ⟨g, 0, none⟩)] w fun e w' => e = .returned (.int .i64 al) ∧ Drawn0 w w' := by
  have h4 := (blk_cell hI.1 4).trans (show _ = some (Value.int .i64 al) from rfl)
  clear hI
  go_enter Try.func15, Try.ntmps15
  go_wp2
  repeat (go_quiet (fail); try go_wp2)
  go_ret
  exact ⟨rfl, by first | exact ⟨0, rfl⟩ | exact ⟨_, rfl⟩⟩
theorem left_calls (base : Nat) (g : Nat) (m n al : Int) (vp vf : Value) (ps : List S64) (fs : List Int) (w : World) (hI : Slab base w g m n vp vf ps fs al) :
    Calls Try.prog 16 #[.pointer (some ⟨g, 0, none⟩)] w fun e w' => e = .returned (.int .i64 (wrap64 (wrap64 (m - (ps.length : Int)) + (fs.length : Int)))) ∧ Drawn0 w w' := by
  obtain ⟨A2, c2, rfl⟩ := hI.vp_form
  obtain ⟨A3, c3, rfl⟩ := hI.vf_form
  have h0 := (blk_cell hI.1 0).trans (show _ = some (Value.int .i64 m) from rfl)
  have h2 := (blk_cell hI.1 2).trans (show _ = some (Value.slice A2 ps.length c2) from rfl)
  have h3 := (blk_cell hI.1 3).trans (show _ = some (Value.slice A3 fs.length c3) from rfl)
  clear hI
  go_enter Try.func16, Try.ntmps16
  go_wp2
  repeat (go_quiet (fail); try go_wp2)
  go_ret
  exact ⟨by first | rfl | (simp [errW_none, errW_some] <;> rfl), by first | exact ⟨0, rfl⟩ | exact ⟨_, rfl⟩⟩
theorem worn_calls (base : Nat) (g : Nat) (m n al : Int) (vp vf : Value) (ps : List S64) (fs : List Int) (w : World) (hI : Slab base w g m n vp vf ps fs al) :
    Calls Try.prog 17 #[.pointer (some ⟨g, 0, none⟩)] w fun e w' => e = .returned (.int .i64 (wrap64 (wrap64 ((ps.length : Int) - al) - (fs.length : Int)))) ∧ Drawn0 w w' := by
  obtain ⟨A2, c2, rfl⟩ := hI.vp_form
  obtain ⟨A3, c3, rfl⟩ := hI.vf_form
  have h0 := (blk_cell hI.1 4).trans (show _ = some (Value.int .i64 al) from rfl)
  have h2 := (blk_cell hI.1 2).trans (show _ = some (Value.slice A2 ps.length c2) from rfl)
  have h3 := (blk_cell hI.1 3).trans (show _ = some (Value.slice A3 fs.length c3) from rfl)
  clear hI
  go_enter Try.func17, Try.ntmps17
  go_wp2
  repeat (go_quiet (fail); try go_wp2)
  go_ret
  exact ⟨by first | rfl | (simp [errW_none, errW_some] <;> rfl), by first | exact ⟨0, rfl⟩ | exact ⟨_, rfl⟩⟩
theorem left_lit (base : Nat) (g : Nat) (m n al : Int) (vp vf : Value) (ps : List S64) (fs : List Int) (w : World) (r : Int) (hI : Slab base w g m n vp vf ps fs al) (hr : wrap64 (wrap64 (m - (ps.length : Int)) + (fs.length : Int)) = r) :
    Calls Try.prog 16 #[.pointer (some ⟨g, 0, none⟩)] w fun e w' => e = .returned (.int .i64 r) ∧ Drawn0 w w' := by
  subst hr
  exact left_calls base g m n al vp vf ps fs w hI
theorem worn_lit (base : Nat) (g : Nat) (m n al : Int) (vp vf : Value) (ps : List S64) (fs : List Int) (w : World) (r : Int) (hI : Slab base w g m n vp vf ps fs al) (hr : wrap64 (wrap64 ((ps.length : Int) - al) - (fs.length : Int)) = r) :
    Calls Try.prog 17 #[.pointer (some ⟨g, 0, none⟩)] w fun e w' => e = .returned (.int .i64 r) ∧ Drawn0 w w' := by
  subst hr
  exact worn_calls base g m n al vp vf ps fs w hI
end Go.Proofs.Ytppbdjoikdldiaa.PSlabOf
