-- Written by a program of this session (gprint.py) over the kit's print.
import Derived.Test.YtcmmmlenaahaeaaGreatDoorPShwx0
namespace Go.Proofs.YtcmmmlenaahaeaaGreatDoor.PShw
open Go.RowKit Go.Proofs.YtcmmmlenaahaeaaGreatDoorW.PrintWords Go.Proofs.YtcmmmlenaahaeaaGreatDoorW.PrintLast Go.Proofs.YtcmmmlenaahaeaaGreatDoorW.PrintMore
attribute [local go_sem] max2_int min2_int max_two min_two max_three min_three max_four min_four
set_option linter.unusedVariables false
set_option linter.unusedSimpArgs false
def lex_Limits.f (a0:Int):Option (Int × Int × Int):=if a0=0 then (some (0,59,0)) else (if a0=1 then (some (0,23,0)) else (if a0=2 then (some (1,31,0)) else (if a0=3 then (some (1,12,0)) else (if a0=4 then (some (0,7,0)) else (some (0,0,7))))))
set_option maxHeartbeats 8000000 in
set_option maxRecDepth 100000 in
theorem lex_Limits.calls (a0:Int)(r1:Int)(r2:Int)(r3:Int)(w:World)(h:lex_Limits.f a0=some (r1,r2,r3)) :
  Calls Tryz.prog 58 #[.int .i64 a0] w fun e w'=>e=.returned (.tuple #[.int .i64 r1,.int .i64 r2,.int .i64 r3])∧Drawn0 w w':=by
 have H:(if a0=0 then (some (0,59,0)) else (if a0=1 then (some (0,23,0)) else (if a0=2 then (some (1,31,0)) else (if a0=3 then (some (1,12,0)) else (if a0=4 then (some (0,7,0)) else (some (0,0,7)))))))=some (r1,r2,r3):=h
 clear h
 by_cases c2:a0=0
 ·rw [if_pos c2] at H
  have c2b0:(a0 == 0)=true:=beq_iff_eq.mpr c2
  have c2b1:(a0 != 0)=false:=bne_eq_false_iff_eq.mpr c2
  clear c2
  simp only [Option.some.injEq,Prod.mk.injEq] at H
  obtain ⟨rfl,rfl,rfl⟩ :=H
  go_enter Tryz.func58,Tryz.ntmps58
  go_wp2
  go_ret3
  exact ⟨by first | rfl | (simp; done) | (simp [*]; done),by repeat (first | exact Drawn0.refl _ | apply Drawn0.step)⟩
 ·rw [if_neg c2] at H
  have c2b0:(a0 == 0)=false:=beq_eq_false_iff_ne.mpr c2
  have c2b1:(a0 != 0)=true:=bne_iff_ne.mpr c2
  by_cases c3:a0=1
  ·rw [if_pos c3] at H
   have c3b0:(a0 == 1)=true:=beq_iff_eq.mpr c3
   have c3b1:(a0 != 1)=false:=bne_eq_false_iff_eq.mpr c3
   clear c3
   simp only [Option.some.injEq,Prod.mk.injEq] at H
   obtain ⟨rfl,rfl,rfl⟩ :=H
   go_enter Tryz.func58,Tryz.ntmps58
   go_wp2
   go_ret3
   exact ⟨by first | rfl | (simp; done) | (simp [*]; done),by repeat (first | exact Drawn0.refl _ | apply Drawn0.step)⟩
  ·rw [if_neg c3] at H
   have c3b0:(a0 == 1)=false:=beq_eq_false_iff_ne.mpr c3
   have c3b1:(a0 != 1)=true:=bne_iff_ne.mpr c3
   by_cases c4:a0=2
   ·rw [if_pos c4] at H
    have c4b0:(a0 == 2)=true:=beq_iff_eq.mpr c4
    have c4b1:(a0 != 2)=false:=bne_eq_false_iff_eq.mpr c4
    clear c4
    simp only [Option.some.injEq,Prod.mk.injEq] at H
    obtain ⟨rfl,rfl,rfl⟩ :=H
    go_enter Tryz.func58,Tryz.ntmps58
    go_wp2
    go_ret3
    exact ⟨by first | rfl | (simp; done) | (simp [*]; done),by repeat (first | exact Drawn0.refl _ | apply Drawn0.step)⟩
   ·rw [if_neg c4] at H
    have c4b0:(a0 == 2)=false:=beq_eq_false_iff_ne.mpr c4
    have c4b1:(a0 != 2)=true:=bne_iff_ne.mpr c4
    by_cases c5:a0=3
    ·rw [if_pos c5] at H
     have c5b0:(a0 == 3)=true:=beq_iff_eq.mpr c5
     have c5b1:(a0 != 3)=false:=bne_eq_false_iff_eq.mpr c5
     clear c5
     simp only [Option.some.injEq,Prod.mk.injEq] at H
     obtain ⟨rfl,rfl,rfl⟩ :=H
     go_enter Tryz.func58,Tryz.ntmps58
     go_wp2
     go_ret3
     exact ⟨by first | rfl | (simp; done) | (simp [*]; done),by repeat (first | exact Drawn0.refl _ | apply Drawn0.step)⟩
    ·rw [if_neg c5] at H
     have c5b0:(a0 == 3)=false:=beq_eq_false_iff_ne.mpr c5
     have c5b1:(a0 != 3)=true:=bne_iff_ne.mpr c5
     by_cases c6:a0=4
     ·rw [if_pos c6] at H
      have c6b0:(a0 == 4)=true:=beq_iff_eq.mpr c6
      have c6b1:(a0 != 4)=false:=bne_eq_false_iff_eq.mpr c6
      clear c6
      simp only [Option.some.injEq,Prod.mk.injEq] at H
      obtain ⟨rfl,rfl,rfl⟩ :=H
      go_enter Tryz.func58,Tryz.ntmps58
      go_wp2
      go_ret3
      exact ⟨by first | rfl | (simp; done) | (simp [*]; done),by repeat (first | exact Drawn0.refl _ | apply Drawn0.step)⟩
     ·rw [if_neg c6] at H
      have c6b0:(a0 == 4)=false:=beq_eq_false_iff_ne.mpr c6
      have c6b1:(a0 != 4)=true:=bne_iff_ne.mpr c6
      simp only [Option.some.injEq,Prod.mk.injEq] at H
      obtain ⟨rfl,rfl,rfl⟩ :=H
      go_enter Tryz.func58,Tryz.ntmps58
      go_wp2
      go_ret3
      exact ⟨by first | rfl | (simp; done) | (simp [*]; done),by repeat (first | exact Drawn0.refl _ | apply Drawn0.step)⟩
def field_limits.f (a0:Int):Option (Int × Int × Int):=(lex_Limits.f a0).bind fun bt101=>(if a0=4 then (some (bt101.1,6,bt101.2.2)) else (some (bt101.1,bt101.2.1,bt101.2.2)))
set_option maxHeartbeats 8000000 in
set_option maxRecDepth 100000 in
theorem field_limits.calls (a0:Int)(r1:Int)(r2:Int)(r3:Int)(w:World)(h:field_limits.f a0=some (r1,r2,r3)) :
  Calls Tryz.prog 34 #[.int .i64 a0] w fun e w'=>e=.returned (.tuple #[.int .i64 r1,.int .i64 r2,.int .i64 r3])∧Drawn0 w w':=by
 have H:((lex_Limits.f a0).bind fun bt101=>(if a0=4 then (some (bt101.1,6,bt101.2.2)) else (some (bt101.1,bt101.2.1,bt101.2.2))))=some (r1,r2,r3):=h
 clear h
 replace H:=Option.bind_eq_some_iff.mp H
 obtain ⟨⟨t101,t102,t103⟩,A20,H⟩ :=H
 replace H:(if a0=4 then (some (t101,6,t103)) else (some (t101,t102,t103)))=some (r1,r2,r3):=H
 have A2:=Aside0.mk A20
 clear A20
 by_cases c3:a0=4
 ·rw [if_pos c3] at H
  have c3b0:(a0 == 4)=true:=beq_iff_eq.mpr c3
  have c3b1:(a0 != 4)=false:=bne_eq_false_iff_eq.mpr c3
  clear c3
  simp only [Option.some.injEq,Prod.mk.injEq] at H
  obtain ⟨rfl,rfl,rfl⟩ :=H
  go_enter Tryz.func34,Tryz.ntmps34
  go_wp2_with (first | ((with_reducible refine gate_callee (f:=58) rfl ?_); refine goesL_ (some 10) rfl rfl Tryz.func58 (by kernel_rfl) rfl #[.int .i64 a0] rfl (by (try simp only [List.map_toArray,List.map_cons,List.map_nil]); first | done | rfl | (simp only [List.length_drop,List.length_take]; rfl)) ?_; (with_reducible refine (lex_Limits.calls a0 t101 t102 t103 _ A2.out).mono ?_); rintro e w' ⟨rfl,⟨nd,rfl⟩⟩; refine ⟨_,rfl,?_⟩))
  go_ret3
  exact ⟨by first | rfl | (simp; done) | (simp [*]; done),by repeat (first | exact Drawn0.refl _ | apply Drawn0.step)⟩
 ·rw [if_neg c3] at H
  have c3b0:(a0 == 4)=false:=beq_eq_false_iff_ne.mpr c3
  have c3b1:(a0 != 4)=true:=bne_iff_ne.mpr c3
  simp only [Option.some.injEq,Prod.mk.injEq] at H
  obtain ⟨rfl,rfl,rfl⟩ :=H
  go_enter Tryz.func34,Tryz.ntmps34
  go_wp2_with (first | ((with_reducible refine gate_callee (f:=58) rfl ?_); refine goesL_ (some 10) rfl rfl Tryz.func58 (by kernel_rfl) rfl #[.int .i64 a0] rfl (by (try simp only [List.map_toArray,List.map_cons,List.map_nil]); first | done | rfl | (simp only [List.length_drop,List.length_take]; rfl)) ?_; (with_reducible refine (lex_Limits.calls a0 t101 t102 t103 _ A2.out).mono ?_); rintro e w' ⟨rfl,⟨nd,rfl⟩⟩; refine ⟨_,rfl,?_⟩))
  go_ret3
  exact ⟨by first | rfl | (simp; done) | (simp [*]; done),by repeat (first | exact Drawn0.refl _ | apply Drawn0.step)⟩
def field_every.f (a0:Int)(a1:Int):Option (Int):=if 0≤(IntKind.u64.wrap (wrap64 (a1+1))) then (if 0≤(IntKind.u64.wrap (a0)) then (some (IntKind.u64.wrap ((shl .u64 1 (IntKind.u64.wrap (wrap64 (a1+1)))) - (shl .u64 1 (IntKind.u64.wrap (a0)))))) else (none)) else (none)
set_option maxHeartbeats 8000000 in
set_option maxRecDepth 100000 in
theorem field_every.calls (a0:Int)(a1:Int)(r:Int)(w:World)(h:field_every.f a0 a1=some r) :
  Calls Tryz.prog 35 #[.int .i64 a0,.int .i64 a1] w fun e w'=>e=.returned (.int .u64 r)∧Drawn0 w w':=by
 have H:(if 0≤(IntKind.u64.wrap (wrap64 (a1+1))) then (if 0≤(IntKind.u64.wrap (a0)) then (some (IntKind.u64.wrap ((shl .u64 1 (IntKind.u64.wrap (wrap64 (a1+1)))) - (shl .u64 1 (IntKind.u64.wrap (a0)))))) else (none)) else (none))=some r:=h
 clear h
 obtain ⟨ji3,hji3⟩:∃ j_:Int,(IntKind.u64.wrap (wrap64 (a1+1)))=j_:=⟨_,rfl⟩
 replace H:(if 0≤(ji3) then (if 0≤(IntKind.u64.wrap (a0)) then (some (IntKind.u64.wrap ((shl .u64 1 (ji3)) - (shl .u64 1 (IntKind.u64.wrap (a0)))))) else (none)) else (none))=some r:=by first | (rw [hji3] at H; exact H) | (simp only [hji3] at H ⊢; exact H)
 by_cases c4:0≤(ji3)
 ·rw [if_pos c4] at H
  have c4b0:=eq_true c4
  have c4b1:decide (0≤(ji3))=true:=decide_eq_true c4
  clear c4
  obtain ⟨ji5,hji5⟩:∃ j_:Int,(shl .u64 1 (ji3))=j_:=⟨_,rfl⟩
  replace H:(if 0≤(IntKind.u64.wrap (a0)) then (some (IntKind.u64.wrap ((ji5) - (shl .u64 1 (IntKind.u64.wrap (a0)))))) else (none))=some r:=by first | (rw [hji5] at H; exact H) | (simp only [hji5] at H ⊢; exact H)
  have hji5_:(IntKind.u64.wrap (1*2 ^ min (ji3).toNat 64))=ji5:=hji5
  have hji5z:(ji3)≤64→(IntKind.u64.wrap (1*2 ^ (ji3).toNat))=ji5:=shl_small hji5
  have hji5u:(IntKind.u64.wrap (2 ^ min (ji3).toNat 64))=ji5:=by have h_:=hji5_; rw [Int.one_mul] at h_; exact h_
  have hji5v:(ji3)≤64→(IntKind.u64.wrap (2 ^ (ji3).toNat))=ji5:=fun hle_=>by have h_:=hji5z hle_; rw [Int.one_mul] at h_; exact h_
  obtain ⟨ji6,hji6⟩:∃ j_:Int,(IntKind.u64.wrap (a0))=j_:=⟨_,rfl⟩
  replace H:(if 0≤(ji6) then (some (IntKind.u64.wrap ((ji5) - (shl .u64 1 (ji6))))) else (none))=some r:=by first | (rw [hji6] at H; exact H) | (simp only [hji6] at H ⊢; exact H)
  by_cases c7:0≤(ji6)
  ·rw [if_pos c7] at H
   have c7b0:=eq_true c7
   have c7b1:decide (0≤(ji6))=true:=decide_eq_true c7
   clear c7
   obtain ⟨ji8,hji8⟩:∃ j_:Int,(shl .u64 1 (ji6))=j_:=⟨_,rfl⟩
   replace H:(some (IntKind.u64.wrap ((ji5) - (ji8))))=some r:=by first | (rw [hji8] at H; exact H) | (simp only [hji8] at H ⊢; exact H)
   have hji8_:(IntKind.u64.wrap (1*2 ^ min (ji6).toNat 64))=ji8:=hji8
   have hji8z:(ji6)≤64→(IntKind.u64.wrap (1*2 ^ (ji6).toNat))=ji8:=shl_small hji8
   have hji8u:(IntKind.u64.wrap (2 ^ min (ji6).toNat 64))=ji8:=by have h_:=hji8_; rw [Int.one_mul] at h_; exact h_
   have hji8v:(ji6)≤64→(IntKind.u64.wrap (2 ^ (ji6).toNat))=ji8:=fun hle_=>by have h_:=hji8z hle_; rw [Int.one_mul] at h_; exact h_
   obtain rfl:=Option.some.inj H
   go_enter Tryz.func35,Tryz.ntmps35
   go_wp2
   go_ret
   exact ⟨by first | rfl | (simp; done) | (simp only [← hji3,← hji5,← hji6,← hji8] <;> (first | rfl | simp)) | (simp [*]; done),by repeat (first | exact Drawn0.refl _ | apply Drawn0.step)⟩
  ·rw [if_neg c7] at H
   exact absurd H (by simp)
 ·rw [if_neg c4] at H
  exact absurd H (by simp)
def field_Check.f (a0_0:Int)(a0_1:Bool)(a1:Int):Option (Int):=(field_limits.f a1).bind fun bt105=>(if bt105.2.2=0 then ((field_every.f bt105.1 bt105.2.1).bind fun t108=>(if a0_0=0 then (some 2) else (if (Go.bits .andNot .u64 a0_0 t108)=0 then (if a0_1=true then (if a0_0=t108 then (some 0) else (some 2)) else (some 0)) else (some 2)))) else (some bt105.2.2))
set_option maxHeartbeats 8000000 in
set_option maxRecDepth 100000 in
theorem field_Check.calls (a0_0:Int)(a0_1:Bool)(a1:Int)(r:Int)(w:World)(h:field_Check.f a0_0 a0_1 a1=some r) :
  Calls Tryz.prog 16 #[.agg #[.int .u64 a0_0,.bool a0_1],.int .i64 a1] w fun e w'=>e=.returned (.int .i64 r)∧Below w.heap.size w w':=by
 have hu24:=Tryz.underlying24
 have HB:=Aside0.mk (Below.refl w.heap.size w)
 have H:((field_limits.f a1).bind fun bt105=>(if bt105.2.2=0 then ((field_every.f bt105.1 bt105.2.1).bind fun t108=>(if a0_0=0 then (some 2) else (if (Go.bits .andNot .u64 a0_0 t108)=0 then (if a0_1=true then (if a0_0=t108 then (some 0) else (some 2)) else (some 0)) else (some 2)))) else (some bt105.2.2)))=some r:=h
 clear h
 replace H:=Option.bind_eq_some_iff.mp H
 obtain ⟨⟨t105,t106,t107⟩,A30,H⟩ :=H
 replace H:(if t107=0 then ((field_every.f t105 t106).bind fun t108=>(if a0_0=0 then (some 2) else (if (Go.bits .andNot .u64 a0_0 t108)=0 then (if a0_1=true then (if a0_0=t108 then (some 0) else (some 2)) else (some 0)) else (some 2)))) else (some t107))=some r:=H
 have A3:=Aside0.mk A30
 clear A30
 by_cases c4:t107=0
 ·rw [if_pos c4] at H
  have c4b0:(t107 == 0)=true:=beq_iff_eq.mpr c4
  have c4b1:(t107 != 0)=false:=bne_eq_false_iff_eq.mpr c4
  clear c4
  replace H:=Option.bind_eq_some_iff.mp H
  obtain ⟨t108,A50,H⟩ :=H
  replace H:(if a0_0=0 then (some 2) else (if (Go.bits .andNot .u64 a0_0 t108)=0 then (if a0_1=true then (if a0_0=t108 then (some 0) else (some 2)) else (some 0)) else (some 2)))=some r:=H
  have A5:=Aside0.mk A50
  clear A50
  by_cases c6:a0_0=0
  ·rw [if_pos c6] at H
   have c6b0:(a0_0 == 0)=true:=beq_iff_eq.mpr c6
   have c6b1:(a0_0 != 0)=false:=bne_eq_false_iff_eq.mpr c6
   clear c6
   obtain rfl:=Option.some.inj H
   go_enter Tryz.func16,Tryz.ntmps16
   go_wp2_with (first | ((with_reducible refine gate_dst (N:=2) rfl ?_); refine box_event ?hg (N:=2) ?hd (cs:=#[.int .u64 a0_0,.bool a0_1]) (t:=24) ?hr ?_; (case hd=>rfl); (case hg=>rfl); (case hr=>first | (go_simp; done) | (go_simp; rfl)); intro gb104 hg w7 hbox hb; have n0_:=Aside0.mk (below_step (by repeat (first | (with_reducible first | exact HB.out | apply below_alloc | apply pw_below_drewN | apply below_drew1) | exact HB.out)) hb); have n1_:=Aside0.mk (hbox); have n2_:=Aside0.mk ((by rw [hg]; exact (below_size (by repeat (first | (with_reducible first | exact HB.out | apply below_alloc | apply pw_below_drewN | apply below_drew1) | exact HB.out))):w.heap.size≤gb104)); have n3_:=Aside0.mk ((by rw [hg]; exact (below_size (by repeat (first | (with_reducible first | exact HB.out | apply below_alloc | apply pw_below_drewN | apply below_drew1) | exact HB.out))):w.heap.size≤gb104)); clear HB; have HB:=n0_; have BK104:=n1_; have GW104:=n2_; have GE104:=n3_; clear n0_ n1_ n2_ n3_; clear hb hbox hg) | ((with_reducible refine gate_callee (f:=34) rfl ?_); refine goesL_ (some 11) rfl rfl Tryz.func34 (by kernel_rfl) rfl #[.int .i64 a1] rfl (by (try simp only [List.map_toArray,List.map_cons,List.map_nil]); first | done | rfl | (simp only [List.length_drop,List.length_take]; rfl)) ?_; (with_reducible refine (field_limits.calls a1 t105 t106 t107 _ A3.out).mono ?_); rintro e w' ⟨rfl,⟨nd,rfl⟩⟩; refine ⟨_,rfl,?_⟩) | ((with_reducible refine gate_callee (f:=35) rfl ?_); refine goesL_ (some 20) rfl rfl Tryz.func35 (by kernel_rfl) rfl #[.int .i64 t105,.int .i64 t106] rfl (by (try simp only [List.map_toArray,List.map_cons,List.map_nil]); first | done | rfl | (simp only [List.length_drop,List.length_take]; rfl)) ?_; (with_reducible refine (field_every.calls t105 t106 t108 _ A5.out).mono ?_); rintro e w' ⟨rfl,⟨nd,rfl⟩⟩; refine ⟨_,rfl,?_⟩; have hcz8_0:w7.cell? ⟨gb104,0,none⟩=some (.int .u64 a0_0):=(blk_cell BK104.out 0).trans rfl; have hcz8_1:w7.cell? ⟨gb104,1,none⟩=some (.bool a0_1):=(blk_cell BK104.out 1).trans rfl; have hfz8_0:=blk_frozen BK104.out 0; have hfz8_1:=blk_frozen BK104.out 1))
   go_ret
   exact ⟨by first | rfl | (simp [errW_none,errW_some] <;> rfl) | (simp [*,errW_none,errW_some] <;> rfl),by repeat (first | (with_reducible first | exact HB.out | apply below_alloc | apply pw_below_drewN | apply below_drew1 | refine below_set ?_ GE104.out) | exact HB.out)⟩
  ·rw [if_neg c6] at H
   have c6b0:(a0_0 == 0)=false:=beq_eq_false_iff_ne.mpr c6
   have c6b1:(a0_0 != 0)=true:=bne_iff_ne.mpr c6
   by_cases c9:(Go.bits .andNot .u64 a0_0 t108)=0
   ·rw [if_pos c9] at H
    have c9b0:((Go.bits .andNot .u64 a0_0 t108) == 0)=true:=beq_iff_eq.mpr c9
    have c9b1:((Go.bits .andNot .u64 a0_0 t108) != 0)=false:=bne_eq_false_iff_eq.mpr c9
    clear c9
    by_cases c10:a0_1=true
    ·subst c10
     have H1:(if a0_0=t108 then (some 0) else (some 2))=some r:=by rw [if_pos rfl] at H; exact H
     clear H
     have H:=H1
     clear H1
     by_cases c11:a0_0=t108
     ·rw [if_pos c11] at H
      have c11b0:(a0_0 == t108)=true:=beq_iff_eq.mpr c11
      have c11b1:(a0_0 != t108)=false:=bne_eq_false_iff_eq.mpr c11
      clear c11
      obtain rfl:=Option.some.inj H
      go_enter Tryz.func16,Tryz.ntmps16
      go_wp2_with (first | ((with_reducible refine gate_dst (N:=2) rfl ?_); refine box_event ?hg (N:=2) ?hd (cs:=#[.int .u64 a0_0,.bool true]) (t:=24) ?hr ?_; (case hd=>rfl); (case hg=>rfl); (case hr=>first | (go_simp; done) | (go_simp; rfl)); intro gb104 hg w12 hbox hb; have n0_:=Aside0.mk (below_step (by repeat (first | (with_reducible first | exact HB.out | apply below_alloc | apply pw_below_drewN | apply below_drew1) | exact HB.out)) hb); have n1_:=Aside0.mk (hbox); have n2_:=Aside0.mk ((by rw [hg]; exact (below_size (by repeat (first | (with_reducible first | exact HB.out | apply below_alloc | apply pw_below_drewN | apply below_drew1) | exact HB.out))):w.heap.size≤gb104)); have n3_:=Aside0.mk ((by rw [hg]; exact (below_size (by repeat (first | (with_reducible first | exact HB.out | apply below_alloc | apply pw_below_drewN | apply below_drew1) | exact HB.out))):w.heap.size≤gb104)); clear HB; have HB:=n0_; have BK104:=n1_; have GW104:=n2_; have GE104:=n3_; clear n0_ n1_ n2_ n3_; clear hb hbox hg) | ((with_reducible refine gate_callee (f:=34) rfl ?_); refine goesL_ (some 11) rfl rfl Tryz.func34 (by kernel_rfl) rfl #[.int .i64 a1] rfl (by (try simp only [List.map_toArray,List.map_cons,List.map_nil]); first | done | rfl | (simp only [List.length_drop,List.length_take]; rfl)) ?_; (with_reducible refine (field_limits.calls a1 t105 t106 t107 _ A3.out).mono ?_); rintro e w' ⟨rfl,⟨nd,rfl⟩⟩; refine ⟨_,rfl,?_⟩) | ((with_reducible refine gate_callee (f:=35) rfl ?_); refine goesL_ (some 20) rfl rfl Tryz.func35 (by kernel_rfl) rfl #[.int .i64 t105,.int .i64 t106] rfl (by (try simp only [List.map_toArray,List.map_cons,List.map_nil]); first | done | rfl | (simp only [List.length_drop,List.length_take]; rfl)) ?_; (with_reducible refine (field_every.calls t105 t106 t108 _ A5.out).mono ?_); rintro e w' ⟨rfl,⟨nd,rfl⟩⟩; refine ⟨_,rfl,?_⟩; have hcz13_0:w12.cell? ⟨gb104,0,none⟩=some (.int .u64 a0_0):=(blk_cell BK104.out 0).trans rfl; have hcz13_1:w12.cell? ⟨gb104,1,none⟩=some (.bool true):=(blk_cell BK104.out 1).trans rfl; have hfz13_0:=blk_frozen BK104.out 0; have hfz13_1:=blk_frozen BK104.out 1))
      go_ret
      exact ⟨by first | rfl | (simp [errW_none,errW_some] <;> rfl) | (simp [*,errW_none,errW_some] <;> rfl),by repeat (first | (with_reducible first | exact HB.out | apply below_alloc | apply pw_below_drewN | apply below_drew1 | refine below_set ?_ GE104.out) | exact HB.out)⟩
     ·rw [if_neg c11] at H
      have c11b0:(a0_0 == t108)=false:=beq_eq_false_iff_ne.mpr c11
      have c11b1:(a0_0 != t108)=true:=bne_iff_ne.mpr c11
      obtain rfl:=Option.some.inj H
      go_enter Tryz.func16,Tryz.ntmps16
      go_wp2_with (first | ((with_reducible refine gate_dst (N:=2) rfl ?_); refine box_event ?hg (N:=2) ?hd (cs:=#[.int .u64 a0_0,.bool true]) (t:=24) ?hr ?_; (case hd=>rfl); (case hg=>rfl); (case hr=>first | (go_simp; done) | (go_simp; rfl)); intro gb104 hg w14 hbox hb; have n0_:=Aside0.mk (below_step (by repeat (first | (with_reducible first | exact HB.out | apply below_alloc | apply pw_below_drewN | apply below_drew1) | exact HB.out)) hb); have n1_:=Aside0.mk (hbox); have n2_:=Aside0.mk ((by rw [hg]; exact (below_size (by repeat (first | (with_reducible first | exact HB.out | apply below_alloc | apply pw_below_drewN | apply below_drew1) | exact HB.out))):w.heap.size≤gb104)); have n3_:=Aside0.mk ((by rw [hg]; exact (below_size (by repeat (first | (with_reducible first | exact HB.out | apply below_alloc | apply pw_below_drewN | apply below_drew1) | exact HB.out))):w.heap.size≤gb104)); clear HB; have HB:=n0_; have BK104:=n1_; have GW104:=n2_; have GE104:=n3_; clear n0_ n1_ n2_ n3_; clear hb hbox hg) | ((with_reducible refine gate_callee (f:=34) rfl ?_); refine goesL_ (some 11) rfl rfl Tryz.func34 (by kernel_rfl) rfl #[.int .i64 a1] rfl (by (try simp only [List.map_toArray,List.map_cons,List.map_nil]); first | done | rfl | (simp only [List.length_drop,List.length_take]; rfl)) ?_; (with_reducible refine (field_limits.calls a1 t105 t106 t107 _ A3.out).mono ?_); rintro e w' ⟨rfl,⟨nd,rfl⟩⟩; refine ⟨_,rfl,?_⟩) | ((with_reducible refine gate_callee (f:=35) rfl ?_); refine goesL_ (some 20) rfl rfl Tryz.func35 (by kernel_rfl) rfl #[.int .i64 t105,.int .i64 t106] rfl (by (try simp only [List.map_toArray,List.map_cons,List.map_nil]); first | done | rfl | (simp only [List.length_drop,List.length_take]; rfl)) ?_; (with_reducible refine (field_every.calls t105 t106 t108 _ A5.out).mono ?_); rintro e w' ⟨rfl,⟨nd,rfl⟩⟩; refine ⟨_,rfl,?_⟩; have hcz15_0:w14.cell? ⟨gb104,0,none⟩=some (.int .u64 a0_0):=(blk_cell BK104.out 0).trans rfl; have hcz15_1:w14.cell? ⟨gb104,1,none⟩=some (.bool true):=(blk_cell BK104.out 1).trans rfl; have hfz15_0:=blk_frozen BK104.out 0; have hfz15_1:=blk_frozen BK104.out 1))
      go_ret
      exact ⟨by first | rfl | (simp [errW_none,errW_some] <;> rfl) | (simp [*,errW_none,errW_some] <;> rfl),by repeat (first | (with_reducible first | exact HB.out | apply below_alloc | apply pw_below_drewN | apply below_drew1 | refine below_set ?_ GE104.out) | exact HB.out)⟩
    ·replace c10:=Bool.eq_false_iff.mpr c10
     subst c10
     have H1:(some 0)=some r:=by rw [if_neg (show ¬ (false=true) by decide)] at H; exact H
     clear H
     have H:=H1
     clear H1
     obtain rfl:=Option.some.inj H
     go_enter Tryz.func16,Tryz.ntmps16
     go_wp2_with (first | ((with_reducible refine gate_dst (N:=2) rfl ?_); refine box_event ?hg (N:=2) ?hd (cs:=#[.int .u64 a0_0,.bool false]) (t:=24) ?hr ?_; (case hd=>rfl); (case hg=>rfl); (case hr=>first | (go_simp; done) | (go_simp; rfl)); intro gb104 hg w16 hbox hb; have n0_:=Aside0.mk (below_step (by repeat (first | (with_reducible first | exact HB.out | apply below_alloc | apply pw_below_drewN | apply below_drew1) | exact HB.out)) hb); have n1_:=Aside0.mk (hbox); have n2_:=Aside0.mk ((by rw [hg]; exact (below_size (by repeat (first | (with_reducible first | exact HB.out | apply below_alloc | apply pw_below_drewN | apply below_drew1) | exact HB.out))):w.heap.size≤gb104)); have n3_:=Aside0.mk ((by rw [hg]; exact (below_size (by repeat (first | (with_reducible first | exact HB.out | apply below_alloc | apply pw_below_drewN | apply below_drew1) | exact HB.out))):w.heap.size≤gb104)); clear HB; have HB:=n0_; have BK104:=n1_; have GW104:=n2_; have GE104:=n3_; clear n0_ n1_ n2_ n3_; clear hb hbox hg) | ((with_reducible refine gate_callee (f:=34) rfl ?_); refine goesL_ (some 11) rfl rfl Tryz.func34 (by kernel_rfl) rfl #[.int .i64 a1] rfl (by (try simp only [List.map_toArray,List.map_cons,List.map_nil]); first | done | rfl | (simp only [List.length_drop,List.length_take]; rfl)) ?_; (with_reducible refine (field_limits.calls a1 t105 t106 t107 _ A3.out).mono ?_); rintro e w' ⟨rfl,⟨nd,rfl⟩⟩; refine ⟨_,rfl,?_⟩) | ((with_reducible refine gate_callee (f:=35) rfl ?_); refine goesL_ (some 20) rfl rfl Tryz.func35 (by kernel_rfl) rfl #[.int .i64 t105,.int .i64 t106] rfl (by (try simp only [List.map_toArray,List.map_cons,List.map_nil]); first | done | rfl | (simp only [List.length_drop,List.length_take]; rfl)) ?_; (with_reducible refine (field_every.calls t105 t106 t108 _ A5.out).mono ?_); rintro e w' ⟨rfl,⟨nd,rfl⟩⟩; refine ⟨_,rfl,?_⟩; have hcz17_0:w16.cell? ⟨gb104,0,none⟩=some (.int .u64 a0_0):=(blk_cell BK104.out 0).trans rfl; have hcz17_1:w16.cell? ⟨gb104,1,none⟩=some (.bool false):=(blk_cell BK104.out 1).trans rfl; have hfz17_0:=blk_frozen BK104.out 0; have hfz17_1:=blk_frozen BK104.out 1))
     go_ret
     exact ⟨by first | rfl | (simp [errW_none,errW_some] <;> rfl) | (simp [*,errW_none,errW_some] <;> rfl),by repeat (first | (with_reducible first | exact HB.out | apply below_alloc | apply pw_below_drewN | apply below_drew1 | refine below_set ?_ GE104.out) | exact HB.out)⟩
   ·rw [if_neg c9] at H
    have c9b0:((Go.bits .andNot .u64 a0_0 t108) == 0)=false:=beq_eq_false_iff_ne.mpr c9
    have c9b1:((Go.bits .andNot .u64 a0_0 t108) != 0)=true:=bne_iff_ne.mpr c9
    obtain rfl:=Option.some.inj H
    go_enter Tryz.func16,Tryz.ntmps16
    go_wp2_with (first | ((with_reducible refine gate_dst (N:=2) rfl ?_); refine box_event ?hg (N:=2) ?hd (cs:=#[.int .u64 a0_0,.bool a0_1]) (t:=24) ?hr ?_; (case hd=>rfl); (case hg=>rfl); (case hr=>first | (go_simp; done) | (go_simp; rfl)); intro gb104 hg w18 hbox hb; have n0_:=Aside0.mk (below_step (by repeat (first | (with_reducible first | exact HB.out | apply below_alloc | apply pw_below_drewN | apply below_drew1) | exact HB.out)) hb); have n1_:=Aside0.mk (hbox); have n2_:=Aside0.mk ((by rw [hg]; exact (below_size (by repeat (first | (with_reducible first | exact HB.out | apply below_alloc | apply pw_below_drewN | apply below_drew1) | exact HB.out))):w.heap.size≤gb104)); have n3_:=Aside0.mk ((by rw [hg]; exact (below_size (by repeat (first | (with_reducible first | exact HB.out | apply below_alloc | apply pw_below_drewN | apply below_drew1) | exact HB.out))):w.heap.size≤gb104)); clear HB; have HB:=n0_; have BK104:=n1_; have GW104:=n2_; have GE104:=n3_; clear n0_ n1_ n2_ n3_; clear hb hbox hg) | ((with_reducible refine gate_callee (f:=34) rfl ?_); refine goesL_ (some 11) rfl rfl Tryz.func34 (by kernel_rfl) rfl #[.int .i64 a1] rfl (by (try simp only [List.map_toArray,List.map_cons,List.map_nil]); first | done | rfl | (simp only [List.length_drop,List.length_take]; rfl)) ?_; (with_reducible refine (field_limits.calls a1 t105 t106 t107 _ A3.out).mono ?_); rintro e w' ⟨rfl,⟨nd,rfl⟩⟩; refine ⟨_,rfl,?_⟩) | ((with_reducible refine gate_callee (f:=35) rfl ?_); refine goesL_ (some 20) rfl rfl Tryz.func35 (by kernel_rfl) rfl #[.int .i64 t105,.int .i64 t106] rfl (by (try simp only [List.map_toArray,List.map_cons,List.map_nil]); first | done | rfl | (simp only [List.length_drop,List.length_take]; rfl)) ?_; (with_reducible refine (field_every.calls t105 t106 t108 _ A5.out).mono ?_); rintro e w' ⟨rfl,⟨nd,rfl⟩⟩; refine ⟨_,rfl,?_⟩; have hcz19_0:w18.cell? ⟨gb104,0,none⟩=some (.int .u64 a0_0):=(blk_cell BK104.out 0).trans rfl; have hcz19_1:w18.cell? ⟨gb104,1,none⟩=some (.bool a0_1):=(blk_cell BK104.out 1).trans rfl; have hfz19_0:=blk_frozen BK104.out 0; have hfz19_1:=blk_frozen BK104.out 1))
    go_ret
    exact ⟨by first | rfl | (simp [errW_none,errW_some] <;> rfl) | (simp [*,errW_none,errW_some] <;> rfl),by repeat (first | (with_reducible first | exact HB.out | apply below_alloc | apply pw_below_drewN | apply below_drew1 | refine below_set ?_ GE104.out) | exact HB.out)⟩
 ·rw [if_neg c4] at H
  have c4b0:(t107 == 0)=false:=beq_eq_false_iff_ne.mpr c4
  have c4b1:(t107 != 0)=true:=bne_iff_ne.mpr c4
  obtain rfl:=Option.some.inj H
  go_enter Tryz.func16,Tryz.ntmps16
  go_wp2_with (first | ((with_reducible refine gate_dst (N:=2) rfl ?_); refine box_event ?hg (N:=2) ?hd (cs:=#[.int .u64 a0_0,.bool a0_1]) (t:=24) ?hr ?_; (case hd=>rfl); (case hg=>rfl); (case hr=>first | (go_simp; done) | (go_simp; rfl)); intro gb104 hg w20 hbox hb; have n0_:=Aside0.mk (below_step (by repeat (first | (with_reducible first | exact HB.out | apply below_alloc | apply pw_below_drewN | apply below_drew1) | exact HB.out)) hb); have n1_:=Aside0.mk (hbox); have n2_:=Aside0.mk ((by rw [hg]; exact (below_size (by repeat (first | (with_reducible first | exact HB.out | apply below_alloc | apply pw_below_drewN | apply below_drew1) | exact HB.out))):w.heap.size≤gb104)); have n3_:=Aside0.mk ((by rw [hg]; exact (below_size (by repeat (first | (with_reducible first | exact HB.out | apply below_alloc | apply pw_below_drewN | apply below_drew1) | exact HB.out))):w.heap.size≤gb104)); clear HB; have HB:=n0_; have BK104:=n1_; have GW104:=n2_; have GE104:=n3_; clear n0_ n1_ n2_ n3_; clear hb hbox hg) | ((with_reducible refine gate_callee (f:=34) rfl ?_); refine goesL_ (some 11) rfl rfl Tryz.func34 (by kernel_rfl) rfl #[.int .i64 a1] rfl (by (try simp only [List.map_toArray,List.map_cons,List.map_nil]); first | done | rfl | (simp only [List.length_drop,List.length_take]; rfl)) ?_; (with_reducible refine (field_limits.calls a1 t105 t106 t107 _ A3.out).mono ?_); rintro e w' ⟨rfl,⟨nd,rfl⟩⟩; refine ⟨_,rfl,?_⟩))
  go_ret
  exact ⟨by first | rfl | (simp [errW_none,errW_some] <;> rfl) | (simp [*,errW_none,errW_some] <;> rfl),by repeat (first | (with_reducible first | exact HB.out | apply below_alloc | apply pw_below_drewN | apply below_drew1 | refine below_set ?_ GE104.out) | exact HB.out)⟩
/-! This session's own: what the walks want of the package variables. -/
/-- What start-up lays in the package variables that are read: the table of math/bits, the handle of the type 'error', some number in MaxLen. -/
def Tab (w:World):Prop:=
 ((∀ i:Nat,i < 64→w.cell? ⟨1,i,none⟩=some (.int .u8 ([0,1,56,2,57,49,28,3,61,58,42,50,38,29,17,4,62,47,59,36,45,43,51,22,53,39,33,30,24,18,12,5,63,55,48,27,60,41,37,16,46,35,44,21,52,32,23,11,54,26,40,15,34,20,31,10,25,14,19,9,13,8,7,6].getD i 0))))∧
 w.cell? ⟨0,0,none⟩=some (.iface 154 (.agg #[.pointer (some ⟨7,77,none⟩)]))∧
 ∃ m,w.cell? ⟨3,0,none⟩=some (.int .i64 m)
theorem Tab.keep {w W:World}(h:Tab w)(hb:Below w.heap.size w W):Tab W:=by
 obtain ⟨h1,h2,m,h3⟩ :=h
 have k:∀ (a:Addr) (v:Value),w.cell? a=some v→W.cell? a=some v:=fun a v ha=>(hb.cell (World.block_lt_of_cell? _ _ ha)).trans ha
 exact ⟨fun i hi=>k _ _ (h1 i hi),k _ _ h2,m,k _ _ h3⟩
/-! This session's own: bits.TrailingZeros64. -/
def Fld.ntzN:Nat→Nat→Nat
 | 0,_=>0
 | f+1,x=>if x % 2=1 then 0 else 1+Fld.ntzN f (x / 2)
def Fld.ntz (x:Int):Int:=(Fld.ntzN 64 x.toNat:Nat)
def Fld.dbTab:List Int:=[0,1,56,2,57,49,28,3,61,58,42,50,38,29,17,4,62,47,59,36,45,43,51,22,53,39,33,30,24,18,12,5,63,55,48,27,60,41,37,16,46,35,44,21,52,32,23,11,54,26,40,15,34,20,31,10,25,14,19,9,13,8,7,6]
theorem Fld.and_split (a b r s:Nat)(hr:r < 2)(hs:s < 2):(2*a+r) &&& (2*b+s)=2*(a &&& b)+(r &&& s):=by
 apply Nat.eq_of_testBit_eq
 intro i
 rw [Nat.testBit_and]
 cases i with
 | zero=>
  simp only [Nat.testBit_zero]
  have hr':r=0∨r=1:=by omega
  have hs':s=0∨s=1:=by omega
  rcases hr' with rfl | rfl <;> rcases hs' with rfl | rfl <;> simp <;> omega
 | succ i=>
  simp only [Nat.testBit_succ]
  rw [show (2*a+r) / 2=a by omega,show (2*b+s) / 2=b by omega,← Nat.testBit_and]
  congr 1
  have:r &&& s < 2:=by
   have hr':r=0∨r=1:=by omega
   have hs':s=0∨s=1:=by omega
   rcases hr' with rfl | rfl <;> rcases hs' with rfl | rfl <;> decide
  omega
theorem Fld.and_compl:∀ (n y:Nat),y < 2 ^ n→y &&& (2 ^ n - 1 - y)=0
 | 0,y,h=>by
  have:y=0:=by simpa using h
  subst this; rfl
 | n+1,y,h=>by
  have e:2 ^ (n+1)=2*2 ^ n:=by rw [Nat.pow_succ]; omega
  have hp:0 < 2 ^ n:=Nat.two_pow_pos n
  have e1:y=2*(y / 2)+y % 2:=by omega
  have e2:2 ^ (n+1) - 1 - y=2*(2 ^ n - 1 - y / 2)+(1 - y % 2):=by omega
  rw [e2]
  conv=>lhs; lhs; rw [e1]
  rw [Fld.and_split _ _ _ _ (by omega) (by omega),Fld.and_compl n (y / 2) (by omega)]
  have:y % 2=0∨y % 2=1:=by omega
  rcases this with h | h <;> rw [h] <;> rfl
theorem Fld.low_bit:∀ (n x:Nat),x≠0→x < 2 ^ n→x &&& (2 ^ n - x)=2 ^ Fld.ntzN n x∧Fld.ntzN n x < n
 | 0,x,h0,h=>by
  have:x=0:=by simpa using h
  exact absurd this h0
 | n+1,x,h0,h=>by
  have e:2 ^ (n+1)=2*2 ^ n:=by rw [Nat.pow_succ]; omega
  have e1:x=2*(x / 2)+x % 2:=by omega
  by_cases hx:x % 2=1
  ·have e2:2 ^ (n+1) - x=2*(2 ^ n - 1 - x / 2)+1:=by omega
   have e3:Fld.ntzN (n+1) x=0:=by simp [Fld.ntzN,hx]
   rw [e2,e3]
   conv=>lhs; lhs; lhs; rw [e1]
   rw [hx,Fld.and_split _ _ _ _ (by omega) (by omega),Fld.and_compl n (x / 2) (by omega)]
   exact ⟨rfl,by omega⟩
  ·have e2:2 ^ (n+1) - x=2*(2 ^ n - x / 2)+0:=by omega
   have e3:Fld.ntzN (n+1) x=1+Fld.ntzN n (x / 2):=by simp [Fld.ntzN,hx]
   obtain ⟨h1,h2⟩ :=Fld.low_bit n (x / 2) (by omega) (by omega)
   rw [e2,e3]
   conv=>lhs; lhs; lhs; rw [e1]
   rw [show x % 2=0 by omega,Fld.and_split _ _ _ _ (by omega) (by omega),h1]
   exact ⟨by rw [Nat.add_comm 1,Nat.pow_succ]; simp; omega,by omega⟩
theorem Fld.db_idx:∀ k:Fin 64,(2 ^ k.val*285870213051353865 % 18446744073709551616) / 288230376151711744 < 64∧Fld.dbTab.getD ((2 ^ k.val*285870213051353865 % 18446744073709551616) / 288230376151711744) 0=(k.val:Int):=by decide +kernel
theorem Fld.low_int (x:Int)(h0:0≤x)(h1:x < 18446744073709551616)(hx:x≠0):Go.bits .and .u64 x (IntKind.u64.wrap (-x))=((2 ^ Fld.ntzN 64 x.toNat:Nat):Int)∧Fld.ntzN 64 x.toNat < 64:=by
 obtain ⟨n,rfl⟩ :=Int.eq_ofNat_of_zero_le h0
 have hn:n < 2 ^ 64:=by omega
 have hn0:n≠0:=by omega
 have hw:IntKind.u64.wrap (-(n:Int))=((2 ^ 64 - n:Nat):Int):=by
  have e:IntKind.u64.wrap (-(n:Int))=(-(n:Int)) % 18446744073709551616:=by simp [IntKind.wrap,IntKind.bits,IntKind.signed]
  rw [e]; omega
 obtain ⟨q1,q2⟩ :=Fld.low_bit 64 n hn0 hn
 rw [hw,(bits_nat .u64 64 (by decide) (fun z h0 h1=>IntWalk.u64_in z ⟨h0,by omega⟩) n _ hn (by omega)).1,Int.toNat_natCast,q1]
 exact ⟨rfl,q2⟩
set_option maxHeartbeats 4000000 in
theorem Fld.ntz_calls (x:Int)(h0:0≤x)(h1:x < 18446744073709551616)(w:World)(hT:Tab w) :
  Calls Tryz.prog 76 #[.int .u64 x] w fun e w'=>e=.returned (.int .i64 (Fld.ntz x))∧Drawn0 w w':=by
 by_cases hx:x=0
 ·subst hx
  have hv:Hid (Fld.ntz 0=64):=Lib.hid (by decide)
  go_enter Tryz.func76,Tryz.ntmps76
  go_wp2
  go_ret
  exact ⟨congrArg (fun z=>Ending.returned (.int .i64 z)) hv.out.symm,Drawn0.refl _⟩
 ·obtain ⟨q1,q2⟩ :=Fld.low_int x h0 h1 hx
  have e5:(x == 0)=false:=by simpa using hx
  have hv:Hid (Fld.ntz x=(Fld.ntzN 64 x.toNat:Int)):=Lib.hid rfl
  obtain ⟨k,hk⟩:∃ k,Fld.ntzN 64 x.toNat=k:=⟨_,rfl⟩
  rw [hk] at q1 q2 hv
  obtain ⟨d1,d2⟩ :=Fld.db_idx ⟨k,q2⟩
  dsimp only at d1 d2
  have hc:=hT.1 _ d1
  rw [show ([0,1,56,2,57,49,28,3,61,58,42,50,38,29,17,4,62,47,59,36,45,43,51,22,53,39,33,30,24,18,12,5,63,55,48,27,60,41,37,16,46,35,44,21,52,32,23,11,54,26,40,15,34,20,31,10,25,14,19,9,13,8,7,6]:List Int)=Fld.dbTab from rfl,d2] at hc
  have hm:IntKind.u64.wrap (((2 ^ k:Nat):Int)*285870213051353865)=((2 ^ k*285870213051353865 % 18446744073709551616:Nat):Int):=by
   have e:∀ z:Int,IntKind.u64.wrap z=z % 18446744073709551616:=fun z=>by simp [IntKind.wrap,IntKind.bits,IntKind.signed]
   rw [e]; omega
  obtain ⟨P,hP⟩:∃ P:Nat,2 ^ k=P:=⟨_,rfl⟩
  rw [hP] at q1 hm d1 hc
  obtain ⟨M,hM⟩:∃ M:Nat,P*285870213051353865 % 18446744073709551616=M:=⟨_,rfl⟩
  have hMb:M < 18446744073709551616:=by omega
  rw [hM] at hm d1 hc
  obtain ⟨I,hI⟩:∃ I:Nat,M / 288230376151711744=I:=⟨_,rfl⟩
  have hdiv:(M:Int) / 288230376151711744=(I:Int):=by omega
  rw [hI] at d1 hc
  replace hx:=Lib.hid hx; replace hP:=Lib.hid hP; replace hM:=Lib.hid hM; replace hI:=Lib.hid hI; replace hk:=Lib.hid hk; replace d2:=Lib.hid d2
  clear hT
  go_enter Tryz.func76,Tryz.ntmps76
  go_wp2
  go_ret
  exact ⟨congrArg (fun z=>Ending.returned (.int .i64 z)) hv.out.symm,Drawn0.refl _⟩
def bits_TrailingZeros64.f (a0:Int):Option (Int):=if 0≤a0∧a0 < 18446744073709551616 then some (Fld.ntz a0) else none
set_option maxHeartbeats 8000000 in
set_option maxRecDepth 100000 in
theorem bits_TrailingZeros64.calls (a0:Int)(r:Int)(w:World)(hT:Tab w)(h:bits_TrailingZeros64.f a0=some r) :
  Calls Tryz.prog 76 #[.int .u64 a0] w fun e w'=>e=.returned (.int .i64 r)∧Drawn0 w w':=by
 have HB:=Aside0.mk (Below.refl w.heap.size w)
 unfold bits_TrailingZeros64.f at h
 split at h
 ·rename_i hb
  obtain rfl:=Option.some.inj h
  exact Fld.ntz_calls a0 hb.1 hb.2 w hT
 ·cases h
def field_First.f (a0_0:Int)(a0_1:Bool)(a1:Int):Option (Int × Bool):=if (mx a1 0) > 63 then (some (0,false)) else (if 0≤(IntKind.u64.wrap (mx a1 0)) then (if (shl .u64 (shr .u64 a0_0 (IntKind.u64.wrap (mx a1 0))) (IntKind.u64.wrap (mx a1 0)))=0 then (some (0,false)) else ((bits_TrailingZeros64.f (shl .u64 (shr .u64 a0_0 (IntKind.u64.wrap (mx a1 0))) (IntKind.u64.wrap (mx a1 0)))).bind fun t110=>(some (t110,true)))) else (none))
set_option maxHeartbeats 8000000 in
set_option maxRecDepth 100000 in
theorem field_First.calls (a0_0:Int)(a0_1:Bool)(a1:Int)(r1:Int)(r2:Bool)(w:World)(hT:Tab w)(h:field_First.f a0_0 a0_1 a1=some (r1,r2)) :
  Calls Tryz.prog 46 #[.agg #[.int .u64 a0_0,.bool a0_1],.int .i64 a1] w fun e w'=>e=.returned (.tuple #[.int .i64 r1,.bool r2])∧Below w.heap.size w w':=by
 have hu24:=Tryz.underlying24
 have HB:=Aside0.mk (Below.refl w.heap.size w)
 have H:(if (mx a1 0) > 63 then (some (0,false)) else (if 0≤(IntKind.u64.wrap (mx a1 0)) then (if (shl .u64 (shr .u64 a0_0 (IntKind.u64.wrap (mx a1 0))) (IntKind.u64.wrap (mx a1 0)))=0 then (some (0,false)) else ((bits_TrailingZeros64.f (shl .u64 (shr .u64 a0_0 (IntKind.u64.wrap (mx a1 0))) (IntKind.u64.wrap (mx a1 0)))).bind fun t110=>(some (t110,true)))) else (none)))=some (r1,r2):=h
 clear h
 obtain ⟨ji3,hji3⟩:∃ j_:Int,(mx a1 0)=j_:=⟨_,rfl⟩
 replace H:(if (ji3) > 63 then (some (0,false)) else (if 0≤(IntKind.u64.wrap (ji3)) then (if (shl .u64 (shr .u64 a0_0 (IntKind.u64.wrap (ji3))) (IntKind.u64.wrap (ji3)))=0 then (some (0,false)) else ((bits_TrailingZeros64.f (shl .u64 (shr .u64 a0_0 (IntKind.u64.wrap (ji3))) (IntKind.u64.wrap (ji3)))).bind fun t110=>(some (t110,true)))) else (none)))=some (r1,r2):=by first | (rw [hji3] at H; exact H) | (simp only [hji3] at H ⊢; exact H)
 (try (have hji3l:0≤ji3:=by (rw [← hji3]; unfold mx; (repeat' split) <;> omega)))
 (try (have hji3m:0≤ji3:=by omega))
 have hji3_:(if a1 < 0 then 0 else a1)=ji3:=hji3
 by_cases c4:(ji3) > 63
 ·rw [if_pos c4] at H
  have c4b0:decide (63 < (ji3))=true:=decide_eq_true c4
  clear c4
  simp only [Option.some.injEq,Prod.mk.injEq] at H
  obtain ⟨rfl,rfl⟩ :=H
  go_enter Tryz.func46,Tryz.ntmps46
  go_wp2_with (first | ((with_reducible refine gate_dst (N:=2) rfl ?_); refine box_event ?hg (N:=2) ?hd (cs:=#[.int .u64 a0_0,.bool a0_1]) (t:=24) ?hr ?_; (case hd=>rfl); (case hg=>rfl); (case hr=>first | (go_simp; done) | (go_simp; rfl)); intro gb109 hg w5 hbox hb; have n0_:=Aside0.mk (below_step (by repeat (first | (with_reducible first | exact HB.out | apply below_alloc | apply pw_below_drewN | apply below_drew1) | exact HB.out)) hb); have n1_:=Aside0.mk (hbox); have n2_:=Aside0.mk ((by rw [hg]; exact (below_size (by repeat (first | (with_reducible first | exact HB.out | apply below_alloc | apply pw_below_drewN | apply below_drew1) | exact HB.out))):w.heap.size≤gb109)); have n3_:=Aside0.mk ((by rw [hg]; exact (below_size (by repeat (first | (with_reducible first | exact HB.out | apply below_alloc | apply pw_below_drewN | apply below_drew1) | exact HB.out))):w.heap.size≤gb109)); clear HB; have HB:=n0_; have BK109:=n1_; have GW109:=n2_; have GE109:=n3_; clear n0_ n1_ n2_ n3_; clear hb hbox hg))
  go_ret2
  exact ⟨by first | rfl | (simp [errW_none,errW_some] <;> rfl) | (simp only [← hji3]; first | rfl | (simp [errW_none,errW_some] <;> rfl)) | (simp [*,errW_none,errW_some] <;> rfl),by repeat (first | (with_reducible first | exact HB.out | apply below_alloc | apply pw_below_drewN | apply below_drew1 | refine below_set ?_ GE109.out) | exact HB.out)⟩
 ·rw [if_neg c4] at H
  have c4b0:decide (63 < (ji3))=false:=decide_eq_false c4
  clear c4
  obtain ⟨ji6,hji6⟩:∃ j_:Int,(IntKind.u64.wrap (ji3))=j_:=⟨_,rfl⟩
  replace H:(if 0≤(ji6) then (if (shl .u64 (shr .u64 a0_0 (ji6)) (ji6))=0 then (some (0,false)) else ((bits_TrailingZeros64.f (shl .u64 (shr .u64 a0_0 (ji6)) (ji6))).bind fun t110=>(some (t110,true)))) else (none))=some (r1,r2):=by first | (rw [hji6] at H; exact H) | (simp only [hji6] at H ⊢; exact H)
  by_cases c7:0≤(ji6)
  ·rw [if_pos c7] at H
   have c7b0:=eq_true c7
   have c7b1:decide (0≤(ji6))=true:=decide_eq_true c7
   clear c7
   obtain ⟨ji8,hji8⟩:∃ j_:Int,(shr .u64 a0_0 (ji6))=j_:=⟨_,rfl⟩
   replace H:(if (shl .u64 (ji8) (ji6))=0 then (some (0,false)) else ((bits_TrailingZeros64.f (shl .u64 (ji8) (ji6))).bind fun t110=>(some (t110,true))))=some (r1,r2):=by first | (rw [hji8] at H; exact H) | (simp only [hji8] at H ⊢; exact H)
   have hji8_:(a0_0 / 2 ^ min (ji6).toNat 64)=ji8:=hji8
   have hji8z:(ji6)≤64→(a0_0 / 2 ^ (ji6).toNat)=ji8:=shr_small hji8
   have c9b0:=eq_true (of_decide_eq_true (by first | (with_reducible assumption) | assumption):0≤(ji6))
   obtain ⟨ji10,hji10⟩:∃ j_:Int,(shl .u64 (ji8) (ji6))=j_:=⟨_,rfl⟩
   replace H:(if (ji10)=0 then (some (0,false)) else ((bits_TrailingZeros64.f (ji10)).bind fun t110=>(some (t110,true))))=some (r1,r2):=by first | (rw [hji10] at H; exact H) | (simp only [hji10] at H ⊢; exact H)
   have hji10_:(IntKind.u64.wrap ((ji8)*2 ^ min (ji6).toNat 64))=ji10:=hji10
   have hji10z:(ji6)≤64→(IntKind.u64.wrap ((ji8)*2 ^ (ji6).toNat))=ji10:=shl_small hji10
   by_cases c11:(ji10)=0
   ·rw [if_pos c11] at H
    have c11b0:((ji10) == 0)=true:=beq_iff_eq.mpr c11
    have c11b1:((ji10) != 0)=false:=bne_eq_false_iff_eq.mpr c11
    clear c11
    simp only [Option.some.injEq,Prod.mk.injEq] at H
    obtain ⟨rfl,rfl⟩ :=H
    go_enter Tryz.func46,Tryz.ntmps46
    go_wp2_with (first | ((with_reducible refine gate_dst (N:=2) rfl ?_); refine box_event ?hg (N:=2) ?hd (cs:=#[.int .u64 a0_0,.bool a0_1]) (t:=24) ?hr ?_; (case hd=>rfl); (case hg=>rfl); (case hr=>first | (go_simp; done) | (go_simp; rfl)); intro gb109 hg w12 hbox hb; have n0_:=Aside0.mk (below_step (by repeat (first | (with_reducible first | exact HB.out | apply below_alloc | apply pw_below_drewN | apply below_drew1) | exact HB.out)) hb); have n1_:=Aside0.mk (hbox); have n2_:=Aside0.mk ((by rw [hg]; exact (below_size (by repeat (first | (with_reducible first | exact HB.out | apply below_alloc | apply pw_below_drewN | apply below_drew1) | exact HB.out))):w.heap.size≤gb109)); have n3_:=Aside0.mk ((by rw [hg]; exact (below_size (by repeat (first | (with_reducible first | exact HB.out | apply below_alloc | apply pw_below_drewN | apply below_drew1) | exact HB.out))):w.heap.size≤gb109)); clear HB; have HB:=n0_; have BK109:=n1_; have GW109:=n2_; have GE109:=n3_; clear n0_ n1_ n2_ n3_; clear hb hbox hg; have hcz13_0:w12.cell? ⟨gb109,0,none⟩=some (.int .u64 a0_0):=(blk_cell BK109.out 0).trans rfl; have hcz13_1:w12.cell? ⟨gb109,1,none⟩=some (.bool a0_1):=(blk_cell BK109.out 1).trans rfl; have hfz13_0:=blk_frozen BK109.out 0; have hfz13_1:=blk_frozen BK109.out 1))
    go_ret2
    exact ⟨by first | rfl | (simp [errW_none,errW_some] <;> rfl) | (simp only [← hji3,← hji6,← hji8,← hji10]; first | rfl | (simp [errW_none,errW_some] <;> rfl)) | (simp [*,errW_none,errW_some] <;> rfl),by repeat (first | (with_reducible first | exact HB.out | apply below_alloc | apply pw_below_drewN | apply below_drew1 | refine below_set ?_ GE109.out) | exact HB.out)⟩
   ·rw [if_neg c11] at H
    have c11b0:((ji10) == 0)=false:=beq_eq_false_iff_ne.mpr c11
    have c11b1:((ji10) != 0)=true:=bne_iff_ne.mpr c11
    replace H:=Option.bind_eq_some_iff.mp H
    obtain ⟨t110,A140,H⟩ :=H
    replace H:(some (t110,true))=some (r1,r2):=H
    have A14:=Aside0.mk A140
    clear A140
    simp only [Option.some.injEq,Prod.mk.injEq] at H
    obtain ⟨rfl,rfl⟩ :=H
    go_enter Tryz.func46,Tryz.ntmps46
    go_wp2_with (first | ((with_reducible refine gate_dst (N:=2) rfl ?_); refine box_event ?hg (N:=2) ?hd (cs:=#[.int .u64 a0_0,.bool a0_1]) (t:=24) ?hr ?_; (case hd=>rfl); (case hg=>rfl); (case hr=>first | (go_simp; done) | (go_simp; rfl)); intro gb109 hg w15 hbox hb; have n0_:=Aside0.mk (below_step (by repeat (first | (with_reducible first | exact HB.out | apply below_alloc | apply pw_below_drewN | apply below_drew1) | exact HB.out)) hb); have n1_:=Aside0.mk (hbox); have n2_:=Aside0.mk ((by rw [hg]; exact (below_size (by repeat (first | (with_reducible first | exact HB.out | apply below_alloc | apply pw_below_drewN | apply below_drew1) | exact HB.out))):w.heap.size≤gb109)); have n3_:=Aside0.mk ((by rw [hg]; exact (below_size (by repeat (first | (with_reducible first | exact HB.out | apply below_alloc | apply pw_below_drewN | apply below_drew1) | exact HB.out))):w.heap.size≤gb109)); clear HB; have HB:=n0_; have BK109:=n1_; have GW109:=n2_; have GE109:=n3_; clear n0_ n1_ n2_ n3_; clear hb hbox hg; have hcz16_0:w15.cell? ⟨gb109,0,none⟩=some (.int .u64 a0_0):=(blk_cell BK109.out 0).trans rfl; have hcz16_1:w15.cell? ⟨gb109,1,none⟩=some (.bool a0_1):=(blk_cell BK109.out 1).trans rfl; have hfz16_0:=blk_frozen BK109.out 0; have hfz16_1:=blk_frozen BK109.out 1) | ((with_reducible refine gate_callee (f:=76) rfl ?_); refine goesL_ (some 22) rfl rfl Tryz.func76 (by kernel_rfl) rfl #[.int .u64 ji10] rfl (by (try simp only [List.map_toArray,List.map_cons,List.map_nil]); first | done | (simp only [hji10]; rfl) | rfl | (simp only [List.length_drop,List.length_take]; rfl)) ?_; (with_reducible refine (bits_TrailingZeros64.calls ji10 t110 _ (hT.keep (by repeat (first | (with_reducible first | exact HB.out | apply below_alloc | apply pw_below_drewN | apply below_drew1 | refine below_set ?_ GE109.out) | exact HB.out))) A14.out).mono ?_); rintro e w' ⟨rfl,⟨nd,rfl⟩⟩; refine ⟨_,rfl,?_⟩))
    go_ret2
    exact ⟨by first | rfl | (simp [errW_none,errW_some] <;> rfl) | (simp only [← hji3,← hji6,← hji8,← hji10]; first | rfl | (simp [errW_none,errW_some] <;> rfl)) | (simp [*,errW_none,errW_some] <;> rfl),by repeat (first | (with_reducible first | exact HB.out | apply below_alloc | apply pw_below_drewN | apply below_drew1 | refine below_set ?_ GE109.out) | exact HB.out)⟩
  ·rw [if_neg c7] at H
   exact absurd H (by simp)
def field_Has.f (a0_0:Int)(a0_1:Bool)(a1:Int):Option (Bool):=if a1≥0 then (if a1 < 64 then (if 0≤(IntKind.u64.wrap (a1)) then (some ((Go.bits .and .u64 (shr .u64 a0_0 (IntKind.u64.wrap (a1))) 1) == 1)) else (none)) else (some false)) else (some false)
set_option maxHeartbeats 8000000 in
set_option maxRecDepth 100000 in
theorem field_Has.calls (a0_0:Int)(a0_1:Bool)(a1:Int)(r:Bool)(w:World)(h:field_Has.f a0_0 a0_1 a1=some r) :
  Calls Tryz.prog 47 #[.agg #[.int .u64 a0_0,.bool a0_1],.int .i64 a1] w fun e w'=>e=.returned (.bool r)∧Below w.heap.size w w':=by
 have hu24:=Tryz.underlying24
 have HB:=Aside0.mk (Below.refl w.heap.size w)
 have H:(if a1≥0 then (if a1 < 64 then (if 0≤(IntKind.u64.wrap (a1)) then (some ((Go.bits .and .u64 (shr .u64 a0_0 (IntKind.u64.wrap (a1))) 1) == 1)) else (none)) else (some false)) else (some false))=some r:=h
 clear h
 by_cases c3:a1≥0
 ·rw [if_pos c3] at H
  have c3b0:decide (0≤a1)=true:=decide_eq_true c3
  clear c3
  by_cases c4:a1 < 64
  ·rw [if_pos c4] at H
   have c4b0:decide (a1 < 64)=true:=decide_eq_true c4
   clear c4
   obtain ⟨ji5,hji5⟩:∃ j_:Int,(IntKind.u64.wrap (a1))=j_:=⟨_,rfl⟩
   replace H:(if 0≤(ji5) then (some ((Go.bits .and .u64 (shr .u64 a0_0 (ji5)) 1) == 1)) else (none))=some r:=by first | (rw [hji5] at H; exact H) | (simp only [hji5] at H ⊢; exact H)
   by_cases c6:0≤(ji5)
   ·rw [if_pos c6] at H
    have c6b0:=eq_true c6
    have c6b1:decide (0≤(ji5))=true:=decide_eq_true c6
    clear c6
    obtain ⟨ji7,hji7⟩:∃ j_:Int,(shr .u64 a0_0 (ji5))=j_:=⟨_,rfl⟩
    replace H:(some ((Go.bits .and .u64 (ji7) 1) == 1))=some r:=by first | (rw [hji7] at H; exact H) | (simp only [hji7] at H ⊢; exact H)
    have hji7_:(a0_0 / 2 ^ min (ji5).toNat 64)=ji7:=hji7
    have hji7z:(ji5)≤64→(a0_0 / 2 ^ (ji5).toNat)=ji7:=shr_small hji7
    obtain rfl:=Option.some.inj H
    go_enter Tryz.func47,Tryz.ntmps47
    go_wp2_with (first | ((with_reducible refine gate_dst (N:=2) rfl ?_); refine box_event ?hg (N:=2) ?hd (cs:=#[.int .u64 a0_0,.bool a0_1]) (t:=24) ?hr ?_; (case hd=>rfl); (case hg=>rfl); (case hr=>first | (go_simp; done) | (go_simp; rfl)); intro gb111 hg w8 hbox hb; have n0_:=Aside0.mk (below_step (by repeat (first | (with_reducible first | exact HB.out | apply below_alloc | apply pw_below_drewN | apply below_drew1) | exact HB.out)) hb); have n1_:=Aside0.mk (hbox); have n2_:=Aside0.mk ((by rw [hg]; exact (below_size (by repeat (first | (with_reducible first | exact HB.out | apply below_alloc | apply pw_below_drewN | apply below_drew1) | exact HB.out))):w.heap.size≤gb111)); have n3_:=Aside0.mk ((by rw [hg]; exact (below_size (by repeat (first | (with_reducible first | exact HB.out | apply below_alloc | apply pw_below_drewN | apply below_drew1) | exact HB.out))):w.heap.size≤gb111)); clear HB; have HB:=n0_; have BK111:=n1_; have GW111:=n2_; have GE111:=n3_; clear n0_ n1_ n2_ n3_; clear hb hbox hg; have hcz9_0:w8.cell? ⟨gb111,0,none⟩=some (.int .u64 a0_0):=(blk_cell BK111.out 0).trans rfl; have hcz9_1:w8.cell? ⟨gb111,1,none⟩=some (.bool a0_1):=(blk_cell BK111.out 1).trans rfl; have hfz9_0:=blk_frozen BK111.out 0; have hfz9_1:=blk_frozen BK111.out 1))
    go_ret
    exact ⟨by first | rfl | (simp [errW_none,errW_some] <;> rfl) | (simp only [← hji5,← hji7]; first | rfl | (simp [errW_none,errW_some] <;> rfl)) | (simp [*,errW_none,errW_some] <;> rfl),by repeat (first | (with_reducible first | exact HB.out | apply below_alloc | apply pw_below_drewN | apply below_drew1 | refine below_set ?_ GE111.out) | exact HB.out)⟩
   ·rw [if_neg c6] at H
    exact absurd H (by simp)
  ·rw [if_neg c4] at H
   have c4b0:decide (a1 < 64)=false:=decide_eq_false c4
   clear c4
   obtain rfl:=Option.some.inj H
   go_enter Tryz.func47,Tryz.ntmps47
   go_wp2_with (first | ((with_reducible refine gate_dst (N:=2) rfl ?_); refine box_event ?hg (N:=2) ?hd (cs:=#[.int .u64 a0_0,.bool a0_1]) (t:=24) ?hr ?_; (case hd=>rfl); (case hg=>rfl); (case hr=>first | (go_simp; done) | (go_simp; rfl)); intro gb111 hg w10 hbox hb; have n0_:=Aside0.mk (below_step (by repeat (first | (with_reducible first | exact HB.out | apply below_alloc | apply pw_below_drewN | apply below_drew1) | exact HB.out)) hb); have n1_:=Aside0.mk (hbox); have n2_:=Aside0.mk ((by rw [hg]; exact (below_size (by repeat (first | (with_reducible first | exact HB.out | apply below_alloc | apply pw_below_drewN | apply below_drew1) | exact HB.out))):w.heap.size≤gb111)); have n3_:=Aside0.mk ((by rw [hg]; exact (below_size (by repeat (first | (with_reducible first | exact HB.out | apply below_alloc | apply pw_below_drewN | apply below_drew1) | exact HB.out))):w.heap.size≤gb111)); clear HB; have HB:=n0_; have BK111:=n1_; have GW111:=n2_; have GE111:=n3_; clear n0_ n1_ n2_ n3_; clear hb hbox hg))
   go_ret
   exact ⟨by first | rfl | (simp [errW_none,errW_some] <;> rfl) | (simp [*,errW_none,errW_some] <;> rfl),by repeat (first | (with_reducible first | exact HB.out | apply below_alloc | apply pw_below_drewN | apply below_drew1 | refine below_set ?_ GE111.out) | exact HB.out)⟩
 ·rw [if_neg c3] at H
  have c3b0:decide (0≤a1)=false:=decide_eq_false c3
  clear c3
  obtain rfl:=Option.some.inj H
  go_enter Tryz.func47,Tryz.ntmps47
  go_wp2_with (first | ((with_reducible refine gate_dst (N:=2) rfl ?_); refine box_event ?hg (N:=2) ?hd (cs:=#[.int .u64 a0_0,.bool a0_1]) (t:=24) ?hr ?_; (case hd=>rfl); (case hg=>rfl); (case hr=>first | (go_simp; done) | (go_simp; rfl)); intro gb111 hg w11 hbox hb; have n0_:=Aside0.mk (below_step (by repeat (first | (with_reducible first | exact HB.out | apply below_alloc | apply pw_below_drewN | apply below_drew1) | exact HB.out)) hb); have n1_:=Aside0.mk (hbox); have n2_:=Aside0.mk ((by rw [hg]; exact (below_size (by repeat (first | (with_reducible first | exact HB.out | apply below_alloc | apply pw_below_drewN | apply below_drew1) | exact HB.out))):w.heap.size≤gb111)); have n3_:=Aside0.mk ((by rw [hg]; exact (below_size (by repeat (first | (with_reducible first | exact HB.out | apply below_alloc | apply pw_below_drewN | apply below_drew1) | exact HB.out))):w.heap.size≤gb111)); clear HB; have HB:=n0_; have BK111:=n1_; have GW111:=n2_; have GE111:=n3_; clear n0_ n1_ n2_ n3_; clear hb hbox hg))
  go_ret
  exact ⟨by first | rfl | (simp [errW_none,errW_some] <;> rfl) | (simp [*,errW_none,errW_some] <;> rfl),by repeat (first | (with_reducible first | exact HB.out | apply below_alloc | apply pw_below_drewN | apply below_drew1 | refine below_set ?_ GE111.out) | exact HB.out)⟩
end Go.Proofs.YtcmmmlenaahaeaaGreatDoor.PShw
