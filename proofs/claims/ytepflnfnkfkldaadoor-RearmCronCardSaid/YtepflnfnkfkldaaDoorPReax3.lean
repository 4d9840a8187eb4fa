-- Written by a program of this session (gprint.py) over the kit's print.
import Derived.Test.YtepflnfnkfkldaaDoorPReax0
namespace Go.Proofs.YtepflnfnkfkldaaDoor.PRea
open Go.RowKit Go.Proofs.YtepflnfnkfkldaaDoorW.PrintWords Go.Proofs.YtepflnfnkfkldaaDoorW.PrintLast Go.Proofs.YtepflnfnkfkldaaDoorW.PrintMore
attribute [local go_sem] max2_int min2_int max_two min_two max_three min_three max_four min_four
set_option linter.unusedVariables false
set_option linter.unusedSimpArgs false
-- NOT PRINTED: function 44 (spec_fields)
def lex_Limits.f (a0:Int):Option (Int × Int × Int):=if a0=0 then (some (0,59,0)) else (if a0=1 then (some (0,23,0)) else (if a0=2 then (some (1,31,0)) else (if a0=3 then (some (1,12,0)) else (if a0=4 then (some (0,7,0)) else (some (0,0,7))))))
set_option maxHeartbeats 8000000 in
set_option maxRecDepth 100000 in
theorem lex_Limits.calls (a0:Int)(r1:Int)(r2:Int)(r3:Int)(w:World)(h:lex_Limits.f a0=some (r1,r2,r3)) :
  Calls Tryd.prog 94 #[.int .i64 a0] w fun e w'=>e=.returned (.tuple #[.int .i64 r1,.int .i64 r2,.int .i64 r3])∧Drawn0 w w':=by
 have H:(if a0=0 then (some (0,59,0)) else (if a0=1 then (some (0,23,0)) else (if a0=2 then (some (1,31,0)) else (if a0=3 then (some (1,12,0)) else (if a0=4 then (some (0,7,0)) else (some (0,0,7)))))))=some (r1,r2,r3):=h
 clear h
 by_cases c2:a0=0
 ·rw [if_pos c2] at H
  have c2b0:(a0 == 0)=true:=beq_iff_eq.mpr c2
  have c2b1:(a0 != 0)=false:=bne_eq_false_iff_eq.mpr c2
  clear c2
  simp only [Option.some.injEq,Prod.mk.injEq] at H
  obtain ⟨rfl,rfl,rfl⟩ :=H
  go_enter Tryd.func94,Tryd.ntmps94
  go_wp2
  go_ret3
  exact ⟨by first | rfl | (simp; done) | (simp [*]; done),by repeat (first | exact Drawn0.refl _ | apply Drawn0.step)⟩
 ·rw [if_neg c2] at H
  have c2b0:(a0 == 0)=false:=beq_eq_false_iff_ne.mpr c2
  have c2b1:(a0 != 0)=true:=bne_iff_ne.mpr c2
  by_cases c3:a0=1
  ·rw [if_pos c3] at H
   have c3b0:(a0 == 1)=true:=beq_iff_eq.mpr c3
   have c3b1:(a0 != 1)=false:=bne_eq_false_iff_eq.mpr c3
   clear c3
   simp only [Option.some.injEq,Prod.mk.injEq] at H
   obtain ⟨rfl,rfl,rfl⟩ :=H
   go_enter Tryd.func94,Tryd.ntmps94
   go_wp2
   go_ret3
   exact ⟨by first | rfl | (simp; done) | (simp [*]; done),by repeat (first | exact Drawn0.refl _ | apply Drawn0.step)⟩
  ·rw [if_neg c3] at H
   have c3b0:(a0 == 1)=false:=beq_eq_false_iff_ne.mpr c3
   have c3b1:(a0 != 1)=true:=bne_iff_ne.mpr c3
   by_cases c4:a0=2
   ·rw [if_pos c4] at H
    have c4b0:(a0 == 2)=true:=beq_iff_eq.mpr c4
    have c4b1:(a0 != 2)=false:=bne_eq_false_iff_eq.mpr c4
    clear c4
    simp only [Option.some.injEq,Prod.mk.injEq] at H
    obtain ⟨rfl,rfl,rfl⟩ :=H
    go_enter Tryd.func94,Tryd.ntmps94
    go_wp2
    go_ret3
    exact ⟨by first | rfl | (simp; done) | (simp [*]; done),by repeat (first | exact Drawn0.refl _ | apply Drawn0.step)⟩
   ·rw [if_neg c4] at H
    have c4b0:(a0 == 2)=false:=beq_eq_false_iff_ne.mpr c4
    have c4b1:(a0 != 2)=true:=bne_iff_ne.mpr c4
    by_cases c5:a0=3
    ·rw [if_pos c5] at H
     have c5b0:(a0 == 3)=true:=beq_iff_eq.mpr c5
     have c5b1:(a0 != 3)=false:=bne_eq_false_iff_eq.mpr c5
     clear c5
     simp only [Option.some.injEq,Prod.mk.injEq] at H
     obtain ⟨rfl,rfl,rfl⟩ :=H
     go_enter Tryd.func94,Tryd.ntmps94
     go_wp2
     go_ret3
     exact ⟨by first | rfl | (simp; done) | (simp [*]; done),by repeat (first | exact Drawn0.refl _ | apply Drawn0.step)⟩
    ·rw [if_neg c5] at H
     have c5b0:(a0 == 3)=false:=beq_eq_false_iff_ne.mpr c5
     have c5b1:(a0 != 3)=true:=bne_iff_ne.mpr c5
     by_cases c6:a0=4
     ·rw [if_pos c6] at H
      have c6b0:(a0 == 4)=true:=beq_iff_eq.mpr c6
      have c6b1:(a0 != 4)=false:=bne_eq_false_iff_eq.mpr c6
      clear c6
      simp only [Option.some.injEq,Prod.mk.injEq] at H
      obtain ⟨rfl,rfl,rfl⟩ :=H
      go_enter Tryd.func94,Tryd.ntmps94
      go_wp2
      go_ret3
      exact ⟨by first | rfl | (simp; done) | (simp [*]; done),by repeat (first | exact Drawn0.refl _ | apply Drawn0.step)⟩
     ·rw [if_neg c6] at H
      have c6b0:(a0 == 4)=false:=beq_eq_false_iff_ne.mpr c6
      have c6b1:(a0 != 4)=true:=bne_iff_ne.mpr c6
      simp only [Option.some.injEq,Prod.mk.injEq] at H
      obtain ⟨rfl,rfl,rfl⟩ :=H
      go_enter Tryd.func94,Tryd.ntmps94
      go_wp2
      go_ret3
      exact ⟨by first | rfl | (simp; done) | (simp [*]; done),by repeat (first | exact Drawn0.refl _ | apply Drawn0.step)⟩
def field_limits.f (a0:Int):Option (Int × Int × Int):=(lex_Limits.f a0).bind fun bt101=>(if a0=4 then (some (bt101.1,6,bt101.2.2)) else (some (bt101.1,bt101.2.1,bt101.2.2)))
set_option maxHeartbeats 8000000 in
set_option maxRecDepth 100000 in
theorem field_limits.calls (a0:Int)(r1:Int)(r2:Int)(r3:Int)(w:World)(h:field_limits.f a0=some (r1,r2,r3)) :
  Calls Tryd.prog 77 #[.int .i64 a0] w fun e w'=>e=.returned (.tuple #[.int .i64 r1,.int .i64 r2,.int .i64 r3])∧Drawn0 w w':=by
 have H:((lex_Limits.f a0).bind fun bt101=>(if a0=4 then (some (bt101.1,6,bt101.2.2)) else (some (bt101.1,bt101.2.1,bt101.2.2))))=some (r1,r2,r3):=h
 clear h
 replace H:=Option.bind_eq_some_iff.mp H
 obtain ⟨⟨t101,t102,t103⟩,A20,H⟩ :=H
 replace H:(if a0=4 then (some (t101,6,t103)) else (some (t101,t102,t103)))=some (r1,r2,r3):=H
 have A2:=Aside0.mk A20
 clear A20
 by_cases c3:a0=4
 ·rw [if_pos c3] at H
  have c3b0:(a0 == 4)=true:=beq_iff_eq.mpr c3
  have c3b1:(a0 != 4)=false:=bne_eq_false_iff_eq.mpr c3
  clear c3
  simp only [Option.some.injEq,Prod.mk.injEq] at H
  obtain ⟨rfl,rfl,rfl⟩ :=H
  go_enter Tryd.func77,Tryd.ntmps77
  go_wp2_with (first | ((with_reducible refine gate_callee (f:=94) rfl ?_); refine goesL_ (some 10) rfl rfl Tryd.func94 (by kernel_rfl) rfl #[.int .i64 a0] rfl (by (try simp only [List.map_toArray,List.map_cons,List.map_nil]); first | done | rfl | (simp only [List.length_drop,List.length_take]; rfl)) ?_; (with_reducible refine (lex_Limits.calls a0 t101 t102 t103 _ A2.out).mono ?_); rintro e w' ⟨rfl,⟨nd,rfl⟩⟩; refine ⟨_,rfl,?_⟩))
  go_ret3
  exact ⟨by first | rfl | (simp; done) | (simp [*]; done),by repeat (first | exact Drawn0.refl _ | apply Drawn0.step)⟩
 ·rw [if_neg c3] at H
  have c3b0:(a0 == 4)=false:=beq_eq_false_iff_ne.mpr c3
  have c3b1:(a0 != 4)=true:=bne_iff_ne.mpr c3
  simp only [Option.some.injEq,Prod.mk.injEq] at H
  obtain ⟨rfl,rfl,rfl⟩ :=H
  go_enter Tryd.func77,Tryd.ntmps77
  go_wp2_with (first | ((with_reducible refine gate_callee (f:=94) rfl ?_); refine goesL_ (some 10) rfl rfl Tryd.func94 (by kernel_rfl) rfl #[.int .i64 a0] rfl (by (try simp only [List.map_toArray,List.map_cons,List.map_nil]); first | done | rfl | (simp only [List.length_drop,List.length_take]; rfl)) ?_; (with_reducible refine (lex_Limits.calls a0 t101 t102 t103 _ A2.out).mono ?_); rintro e w' ⟨rfl,⟨nd,rfl⟩⟩; refine ⟨_,rfl,?_⟩))
  go_ret3
  exact ⟨by first | rfl | (simp; done) | (simp [*]; done),by repeat (first | exact Drawn0.refl _ | apply Drawn0.step)⟩
def field_every.f (a0:Int)(a1:Int):Option (Int):=if 0≤(IntKind.u64.wrap (wrap64 (a1+1))) then (if 0≤(IntKind.u64.wrap (a0)) then (some (IntKind.u64.wrap ((shl .u64 1 (IntKind.u64.wrap (wrap64 (a1+1)))) - (shl .u64 1 (IntKind.u64.wrap (a0)))))) else (none)) else (none)
set_option maxHeartbeats 8000000 in
set_option maxRecDepth 100000 in
theorem field_every.calls (a0:Int)(a1:Int)(r:Int)(w:World)(h:field_every.f a0 a1=some r) :
  Calls Tryd.prog 78 #[.int .i64 a0,.int .i64 a1] w fun e w'=>e=.returned (.int .u64 r)∧Drawn0 w w':=by
 have H:(if 0≤(IntKind.u64.wrap (wrap64 (a1+1))) then (if 0≤(IntKind.u64.wrap (a0)) then (some (IntKind.u64.wrap ((shl .u64 1 (IntKind.u64.wrap (wrap64 (a1+1)))) - (shl .u64 1 (IntKind.u64.wrap (a0)))))) else (none)) else (none))=some r:=h
 clear h
 obtain ⟨ji3,hji3⟩:∃ j_:Int,(IntKind.u64.wrap (wrap64 (a1+1)))=j_:=⟨_,rfl⟩
 replace H:(if 0≤(ji3) then (if 0≤(IntKind.u64.wrap (a0)) then (some (IntKind.u64.wrap ((shl .u64 1 (ji3)) - (shl .u64 1 (IntKind.u64.wrap (a0)))))) else (none)) else (none))=some r:=by first | (rw [hji3] at H; exact H) | (simp only [hji3] at H ⊢; exact H)
 by_cases c4:0≤(ji3)
 ·rw [if_pos c4] at H
  have c4b0:=eq_true c4
  have c4b1:decide (0≤(ji3))=true:=decide_eq_true c4
  clear c4
  obtain ⟨ji5,hji5⟩:∃ j_:Int,(shl .u64 1 (ji3))=j_:=⟨_,rfl⟩
  replace H:(if 0≤(IntKind.u64.wrap (a0)) then (some (IntKind.u64.wrap ((ji5) - (shl .u64 1 (IntKind.u64.wrap (a0)))))) else (none))=some r:=by first | (rw [hji5] at H; exact H) | (simp only [hji5] at H ⊢; exact H)
  have hji5_:(IntKind.u64.wrap (1*2 ^ min (ji3).toNat 64))=ji5:=hji5
  have hji5z:(ji3)≤64→(IntKind.u64.wrap (1*2 ^ (ji3).toNat))=ji5:=shl_small hji5
  have hji5u:(IntKind.u64.wrap (2 ^ min (ji3).toNat 64))=ji5:=by have h_:=hji5_; rw [Int.one_mul] at h_; exact h_
  have hji5v:(ji3)≤64→(IntKind.u64.wrap (2 ^ (ji3).toNat))=ji5:=fun hle_=>by have h_:=hji5z hle_; rw [Int.one_mul] at h_; exact h_
  obtain ⟨ji6,hji6⟩:∃ j_:Int,(IntKind.u64.wrap (a0))=j_:=⟨_,rfl⟩
  replace H:(if 0≤(ji6) then (some (IntKind.u64.wrap ((ji5) - (shl .u64 1 (ji6))))) else (none))=some r:=by first | (rw [hji6] at H; exact H) | (simp only [hji6] at H ⊢; exact H)
  by_cases c7:0≤(ji6)
  ·rw [if_pos c7] at H
   have c7b0:=eq_true c7
   have c7b1:decide (0≤(ji6))=true:=decide_eq_true c7
   clear c7
   obtain ⟨ji8,hji8⟩:∃ j_:Int,(shl .u64 1 (ji6))=j_:=⟨_,rfl⟩
   replace H:(some (IntKind.u64.wrap ((ji5) - (ji8))))=some r:=by first | (rw [hji8] at H; exact H) | (simp only [hji8] at H ⊢; exact H)
   have hji8_:(IntKind.u64.wrap (1*2 ^ min (ji6).toNat 64))=ji8:=hji8
   have hji8z:(ji6)≤64→(IntKind.u64.wrap (1*2 ^ (ji6).toNat))=ji8:=shl_small hji8
   have hji8u:(IntKind.u64.wrap (2 ^ min (ji6).toNat 64))=ji8:=by have h_:=hji8_; rw [Int.one_mul] at h_; exact h_
   have hji8v:(ji6)≤64→(IntKind.u64.wrap (2 ^ (ji6).toNat))=ji8:=fun hle_=>by have h_:=hji8z hle_; rw [Int.one_mul] at h_; exact h_
   obtain rfl:=Option.some.inj H
   go_enter Tryd.func78,Tryd.ntmps78
   go_wp2
   go_ret
   exact ⟨by first | rfl | (simp; done) | (simp only [← hji3,← hji5,← hji6,← hji8] <;> (first | rfl | simp)) | (simp [*]; done),by repeat (first | exact Drawn0.refl _ | apply Drawn0.step)⟩
  ·rw [if_neg c7] at H
   exact absurd H (by simp)
 ·rw [if_neg c4] at H
  exact absurd H (by simp)
def field_Check.f (a0_0:Int)(a0_1:Bool)(a1:Int):Option (Int):=(field_limits.f a1).bind fun bt105=>(if bt105.2.2=0 then ((field_every.f bt105.1 bt105.2.1).bind fun t108=>(if a0_0=0 then (some 2) else (if (Go.bits .andNot .u64 a0_0 t108)=0 then (if a0_1=true then (if a0_0=t108 then (some 0) else (some 2)) else (some 0)) else (some 2)))) else (some bt105.2.2))
set_option maxHeartbeats 8000000 in
set_option maxRecDepth 100000 in
theorem field_Check.calls (a0_0:Int)(a0_1:Bool)(a1:Int)(r:Int)(w:World)(h:field_Check.f a0_0 a0_1 a1=some r) :
  Calls Tryd.prog 53 #[.agg #[.int .u64 a0_0,.bool a0_1],.int .i64 a1] w fun e w'=>e=.returned (.int .i64 r)∧Below w.heap.size w w':=by
 have hu24:=Tryd.underlying24
 have HB:=Aside0.mk (Below.refl w.heap.size w)
 have H:((field_limits.f a1).bind fun bt105=>(if bt105.2.2=0 then ((field_every.f bt105.1 bt105.2.1).bind fun t108=>(if a0_0=0 then (some 2) else (if (Go.bits .andNot .u64 a0_0 t108)=0 then (if a0_1=true then (if a0_0=t108 then (some 0) else (some 2)) else (some 0)) else (some 2)))) else (some bt105.2.2)))=some r:=h
 clear h
 replace H:=Option.bind_eq_some_iff.mp H
 obtain ⟨⟨t105,t106,t107⟩,A30,H⟩ :=H
 replace H:(if t107=0 then ((field_every.f t105 t106).bind fun t108=>(if a0_0=0 then (some 2) else (if (Go.bits .andNot .u64 a0_0 t108)=0 then (if a0_1=true then (if a0_0=t108 then (some 0) else (some 2)) else (some 0)) else (some 2)))) else (some t107))=some r:=H
 have A3:=Aside0.mk A30
 clear A30
 by_cases c4:t107=0
 ·rw [if_pos c4] at H
  have c4b0:(t107 == 0)=true:=beq_iff_eq.mpr c4
  have c4b1:(t107 != 0)=false:=bne_eq_false_iff_eq.mpr c4
  clear c4
  replace H:=Option.bind_eq_some_iff.mp H
  obtain ⟨t108,A50,H⟩ :=H
  replace H:(if a0_0=0 then (some 2) else (if (Go.bits .andNot .u64 a0_0 t108)=0 then (if a0_1=true then (if a0_0=t108 then (some 0) else (some 2)) else (some 0)) else (some 2)))=some r:=H
  have A5:=Aside0.mk A50
  clear A50
  by_cases c6:a0_0=0
  ·rw [if_pos c6] at H
   have c6b0:(a0_0 == 0)=true:=beq_iff_eq.mpr c6
   have c6b1:(a0_0 != 0)=false:=bne_eq_false_iff_eq.mpr c6
   clear c6
   obtain rfl:=Option.some.inj H
   go_enter Tryd.func53,Tryd.ntmps53
   go_wp2_with (first | ((with_reducible refine gate_dst (N:=2) rfl ?_); refine box_event ?hg (N:=2) ?hd (cs:=#[.int .u64 a0_0,.bool a0_1]) (t:=24) ?hr ?_; (case hd=>rfl); (case hg=>rfl); (case hr=>first | (go_simp; done) | (go_simp; rfl)); intro gb104 hg w7 hbox hb; have n0_:=Aside0.mk (below_step (by repeat (first | (with_reducible first | exact HB.out | apply below_alloc | apply pw_below_drewN | apply below_drew1) | exact HB.out)) hb); have n1_:=Aside0.mk (hbox); have n2_:=Aside0.mk ((by rw [hg]; exact (below_size (by repeat (first | (with_reducible first | exact HB.out | apply below_alloc | apply pw_below_drewN | apply below_drew1) | exact HB.out))):w.heap.size≤gb104)); have n3_:=Aside0.mk ((by rw [hg]; exact (below_size (by repeat (first | (with_reducible first | exact HB.out | apply below_alloc | apply pw_below_drewN | apply below_drew1) | exact HB.out))):w.heap.size≤gb104)); clear HB; have HB:=n0_; have BK104:=n1_; have GW104:=n2_; have GE104:=n3_; clear n0_ n1_ n2_ n3_; clear hb hbox hg) | ((with_reducible refine gate_callee (f:=77) rfl ?_); refine goesL_ (some 11) rfl rfl Tryd.func77 (by kernel_rfl) rfl #[.int .i64 a1] rfl (by (try simp only [List.map_toArray,List.map_cons,List.map_nil]); first | done | rfl | (simp only [List.length_drop,List.length_take]; rfl)) ?_; (with_reducible refine (field_limits.calls a1 t105 t106 t107 _ A3.out).mono ?_); rintro e w' ⟨rfl,⟨nd,rfl⟩⟩; refine ⟨_,rfl,?_⟩) | ((with_reducible refine gate_callee (f:=78) rfl ?_); refine goesL_ (some 20) rfl rfl Tryd.func78 (by kernel_rfl) rfl #[.int .i64 t105,.int .i64 t106] rfl (by (try simp only [List.map_toArray,List.map_cons,List.map_nil]); first | done | rfl | (simp only [List.length_drop,List.length_take]; rfl)) ?_; (with_reducible refine (field_every.calls t105 t106 t108 _ A5.out).mono ?_); rintro e w' ⟨rfl,⟨nd,rfl⟩⟩; refine ⟨_,rfl,?_⟩; have hcz8_0:w7.cell? ⟨gb104,0,none⟩=some (.int .u64 a0_0):=(blk_cell BK104.out 0).trans rfl; have hcz8_1:w7.cell? ⟨gb104,1,none⟩=some (.bool a0_1):=(blk_cell BK104.out 1).trans rfl; have hfz8_0:=blk_frozen BK104.out 0; have hfz8_1:=blk_frozen BK104.out 1))
   go_ret
   exact ⟨by first | rfl | (simp [errW_none,errW_some] <;> rfl) | (simp [*,errW_none,errW_some] <;> rfl),by repeat (first | (with_reducible first | exact HB.out | apply below_alloc | apply pw_below_drewN | apply below_drew1 | refine below_set ?_ GE104.out) | exact HB.out)⟩
  ·rw [if_neg c6] at H
   have c6b0:(a0_0 == 0)=false:=beq_eq_false_iff_ne.mpr c6
   have c6b1:(a0_0 != 0)=true:=bne_iff_ne.mpr c6
   by_cases c9:(Go.bits .andNot .u64 a0_0 t108)=0
   ·rw [if_pos c9] at H
    have c9b0:((Go.bits .andNot .u64 a0_0 t108) == 0)=true:=beq_iff_eq.mpr c9
    have c9b1:((Go.bits .andNot .u64 a0_0 t108) != 0)=false:=bne_eq_false_iff_eq.mpr c9
    clear c9
    by_cases c10:a0_1=true
    ·subst c10
     have H1:(if a0_0=t108 then (some 0) else (some 2))=some r:=by rw [if_pos rfl] at H; exact H
     clear H
     have H:=H1
     clear H1
     by_cases c11:a0_0=t108
     ·rw [if_pos c11] at H
      have c11b0:(a0_0 == t108)=true:=beq_iff_eq.mpr c11
      have c11b1:(a0_0 != t108)=false:=bne_eq_false_iff_eq.mpr c11
      clear c11
      obtain rfl:=Option.some.inj H
      go_enter Tryd.func53,Tryd.ntmps53
      go_wp2_with (first | ((with_reducible refine gate_dst (N:=2) rfl ?_); refine box_event ?hg (N:=2) ?hd (cs:=#[.int .u64 a0_0,.bool true]) (t:=24) ?hr ?_; (case hd=>rfl); (case hg=>rfl); (case hr=>first | (go_simp; done) | (go_simp; rfl)); intro gb104 hg w12 hbox hb; have n0_:=Aside0.mk (below_step (by repeat (first | (with_reducible first | exact HB.out | apply below_alloc | apply pw_below_drewN | apply below_drew1) | exact HB.out)) hb); have n1_:=Aside0.mk (hbox); have n2_:=Aside0.mk ((by rw [hg]; exact (below_size (by repeat (first | (with_reducible first | exact HB.out | apply below_alloc | apply pw_below_drewN | apply below_drew1) | exact HB.out))):w.heap.size≤gb104)); have n3_:=Aside0.mk ((by rw [hg]; exact (below_size (by repeat (first | (with_reducible first | exact HB.out | apply below_alloc | apply pw_below_drewN | apply below_drew1) | exact HB.out))):w.heap.size≤gb104)); clear HB; have HB:=n0_; have BK104:=n1_; have GW104:=n2_; have GE104:=n3_; clear n0_ n1_ n2_ n3_; clear hb hbox hg) | ((with_reducible refine gate_callee (f:=77) rfl ?_); refine goesL_ (some 11) rfl rfl Tryd.func77 (by kernel_rfl) rfl #[.int .i64 a1] rfl (by (try simp only [List.map_toArray,List.map_cons,List.map_nil]); first | done | rfl | (simp only [List.length_drop,List.length_take]; rfl)) ?_; (with_reducible refine (field_limits.calls a1 t105 t106 t107 _ A3.out).mono ?_); rintro e w' ⟨rfl,⟨nd,rfl⟩⟩; refine ⟨_,rfl,?_⟩) | ((with_reducible refine gate_callee (f:=78) rfl ?_); refine goesL_ (some 20) rfl rfl Tryd.func78 (by kernel_rfl) rfl #[.int .i64 t105,.int .i64 t106] rfl (by (try simp only [List.map_toArray,List.map_cons,List.map_nil]); first | done | rfl | (simp only [List.length_drop,List.length_take]; rfl)) ?_; (with_reducible refine (field_every.calls t105 t106 t108 _ A5.out).mono ?_); rintro e w' ⟨rfl,⟨nd,rfl⟩⟩; refine ⟨_,rfl,?_⟩; have hcz13_0:w12.cell? ⟨gb104,0,none⟩=some (.int .u64 a0_0):=(blk_cell BK104.out 0).trans rfl; have hcz13_1:w12.cell? ⟨gb104,1,none⟩=some (.bool true):=(blk_cell BK104.out 1).trans rfl; have hfz13_0:=blk_frozen BK104.out 0; have hfz13_1:=blk_frozen BK104.out 1))
      go_ret
      exact ⟨by first | rfl | (simp [errW_none,errW_some] <;> rfl) | (simp [*,errW_none,errW_some] <;> rfl),by repeat (first | (with_reducible first | exact HB.out | apply below_alloc | apply pw_below_drewN | apply below_drew1 | refine below_set ?_ GE104.out) | exact HB.out)⟩
     ·rw [if_neg c11] at H
      have c11b0:(a0_0 == t108)=false:=beq_eq_false_iff_ne.mpr c11
      have c11b1:(a0_0 != t108)=true:=bne_iff_ne.mpr c11
      obtain rfl:=Option.some.inj H
      go_enter Tryd.func53,Tryd.ntmps53
      go_wp2_with (first | ((with_reducible refine gate_dst (N:=2) rfl ?_); refine box_event ?hg (N:=2) ?hd (cs:=#[.int .u64 a0_0,.bool true]) (t:=24) ?hr ?_; (case hd=>rfl); (case hg=>rfl); (case hr=>first | (go_simp; done) | (go_simp; rfl)); intro gb104 hg w14 hbox hb; have n0_:=Aside0.mk (below_step (by repeat (first | (with_reducible first | exact HB.out | apply below_alloc | apply pw_below_drewN | apply below_drew1) | exact HB.out)) hb); have n1_:=Aside0.mk (hbox); have n2_:=Aside0.mk ((by rw [hg]; exact (below_size (by repeat (first | (with_reducible first | exact HB.out | apply below_alloc | apply pw_below_drewN | apply below_drew1) | exact HB.out))):w.heap.size≤gb104)); have n3_:=Aside0.mk ((by rw [hg]; exact (below_size (by repeat (first | (with_reducible first | exact HB.out | apply below_alloc | apply pw_below_drewN | apply below_drew1) | exact HB.out))):w.heap.size≤gb104)); clear HB; have HB:=n0_; have BK104:=n1_; have GW104:=n2_; have GE104:=n3_; clear n0_ n1_ n2_ n3_; clear hb hbox hg) | ((with_reducible refine gate_callee (f:=77) rfl ?_); refine goesL_ (some 11) rfl rfl Tryd.func77 (by kernel_rfl) rfl #[.int .i64 a1] rfl (by (try simp only [List.map_toArray,List.map_cons,List.map_nil]); first | done | rfl | (simp only [List.length_drop,List.length_take]; rfl)) ?_; (with_reducible refine (field_limits.calls a1 t105 t106 t107 _ A3.out).mono ?_); rintro e w' ⟨rfl,⟨nd,rfl⟩⟩; refine ⟨_,rfl,?_⟩) | ((with_reducible refine gate_callee (f:=78) rfl ?_); refine goesL_ (some 20) rfl rfl Tryd.func78 (by kernel_rfl) rfl #[.int .i64 t105,.int .i64 t106] rfl (by (try simp only [List.map_toArray,List.map_cons,List.map_nil]); first | done | rfl | (simp only [List.length_drop,List.length_take]; rfl)) ?_; (with_reducible refine (field_every.calls t105 t106 t108 _ A5.out).mono ?_); rintro e w' ⟨rfl,⟨nd,rfl⟩⟩; refine ⟨_,rfl,?_⟩; have hcz15_0:w14.cell? ⟨gb104,0,none⟩=some (.int .u64 a0_0):=(blk_cell BK104.out 0).trans rfl; have hcz15_1:w14.cell? ⟨gb104,1,none⟩=some (.bool true):=(blk_cell BK104.out 1).trans rfl; have hfz15_0:=blk_frozen BK104.out 0; have hfz15_1:=blk_frozen BK104.out 1))
      go_ret
      exact ⟨by first | rfl | (simp [errW_none,errW_some] <;> rfl) | (simp [*,errW_none,errW_some] <;> rfl),by repeat (first | (with_reducible first | exact HB.out | apply below_alloc | apply pw_below_drewN | apply below_drew1 | refine below_set ?_ GE104.out) | exact HB.out)⟩
    ·replace c10:=Bool.eq_false_iff.mpr c10
     subst c10
     have H1:(some 0)=some r:=by rw [if_neg (show ¬ (false=true) by decide)] at H; exact H
     clear H
     have H:=H1
     clear H1
     obtain rfl:=Option.some.inj H
     go_enter Tryd.func53,Tryd.ntmps53
     go_wp2_with (first | ((with_reducible refine gate_dst (N:=2) rfl ?_); refine box_event ?hg (N:=2) ?hd (cs:=#[.int .u64 a0_0,.bool false]) (t:=24) ?hr ?_; (case hd=>rfl); (case hg=>rfl); (case hr=>first | (go_simp; done) | (go_simp; rfl)); intro gb104 hg w16 hbox hb; have n0_:=Aside0.mk (below_step (by repeat (first | (with_reducible first | exact HB.out | apply below_alloc | apply pw_below_drewN | apply below_drew1) | exact HB.out)) hb); have n1_:=Aside0.mk (hbox); have n2_:=Aside0.mk ((by rw [hg]; exact (below_size (by repeat (first | (with_reducible first | exact HB.out | apply below_alloc | apply pw_below_drewN | apply below_drew1) | exact HB.out))):w.heap.size≤gb104)); have n3_:=Aside0.mk ((by rw [hg]; exact (below_size (by repeat (first | (with_reducible first | exact HB.out | apply below_alloc | apply pw_below_drewN | apply below_drew1) | exact HB.out))):w.heap.size≤gb104)); clear HB; have HB:=n0_; have BK104:=n1_; have GW104:=n2_; have GE104:=n3_; clear n0_ n1_ n2_ n3_; clear hb hbox hg) | ((with_reducible refine gate_callee (f:=77) rfl ?_); refine goesL_ (some 11) rfl rfl Tryd.func77 (by kernel_rfl) rfl #[.int .i64 a1] rfl (by (try simp only [List.map_toArray,List.map_cons,List.map_nil]); first | done | rfl | (simp only [List.length_drop,List.length_take]; rfl)) ?_; (with_reducible refine (field_limits.calls a1 t105 t106 t107 _ A3.out).mono ?_); rintro e w' ⟨rfl,⟨nd,rfl⟩⟩; refine ⟨_,rfl,?_⟩) | ((with_reducible refine gate_callee (f:=78) rfl ?_); refine goesL_ (some 20) rfl rfl Tryd.func78 (by kernel_rfl) rfl #[.int .i64 t105,.int .i64 t106] rfl (by (try simp only [List.map_toArray,List.map_cons,List.map_nil]); first | done | rfl | (simp only [List.length_drop,List.length_take]; rfl)) ?_; (with_reducible refine (field_every.calls t105 t106 t108 _ A5.out).mono ?_); rintro e w' ⟨rfl,⟨nd,rfl⟩⟩; refine ⟨_,rfl,?_⟩; have hcz17_0:w16.cell? ⟨gb104,0,none⟩=some (.int .u64 a0_0):=(blk_cell BK104.out 0).trans rfl; have hcz17_1:w16.cell? ⟨gb104,1,none⟩=some (.bool false):=(blk_cell BK104.out 1).trans rfl; have hfz17_0:=blk_frozen BK104.out 0; have hfz17_1:=blk_frozen BK104.out 1))
     go_ret
     exact ⟨by first | rfl | (simp [errW_none,errW_some] <;> rfl) | (simp [*,errW_none,errW_some] <;> rfl),by repeat (first | (with_reducible first | exact HB.out | apply below_alloc | apply pw_below_drewN | apply below_drew1 | refine below_set ?_ GE104.out) | exact HB.out)⟩
   ·rw [if_neg c9] at H
    have c9b0:((Go.bits .andNot .u64 a0_0 t108) == 0)=false:=beq_eq_false_iff_ne.mpr c9
    have c9b1:((Go.bits .andNot .u64 a0_0 t108) != 0)=true:=bne_iff_ne.mpr c9
    obtain rfl:=Option.some.inj H
    go_enter Tryd.func53,Tryd.ntmps53
    go_wp2_with (first | ((with_reducible refine gate_dst (N:=2) rfl ?_); refine box_event ?hg (N:=2) ?hd (cs:=#[.int .u64 a0_0,.bool a0_1]) (t:=24) ?hr ?_; (case hd=>rfl); (case hg=>rfl); (case hr=>first | (go_simp; done) | (go_simp; rfl)); intro gb104 hg w18 hbox hb; have n0_:=Aside0.mk (below_step (by repeat (first | (with_reducible first | exact HB.out | apply below_alloc | apply pw_below_drewN | apply below_drew1) | exact HB.out)) hb); have n1_:=Aside0.mk (hbox); have n2_:=Aside0.mk ((by rw [hg]; exact (below_size (by repeat (first | (with_reducible first | exact HB.out | apply below_alloc | apply pw_below_drewN | apply below_drew1) | exact HB.out))):w.heap.size≤gb104)); have n3_:=Aside0.mk ((by rw [hg]; exact (below_size (by repeat (first | (with_reducible first | exact HB.out | apply below_alloc | apply pw_below_drewN | apply below_drew1) | exact HB.out))):w.heap.size≤gb104)); clear HB; have HB:=n0_; have BK104:=n1_; have GW104:=n2_; have GE104:=n3_; clear n0_ n1_ n2_ n3_; clear hb hbox hg) | ((with_reducible refine gate_callee (f:=77) rfl ?_); refine goesL_ (some 11) rfl rfl Tryd.func77 (by kernel_rfl) rfl #[.int .i64 a1] rfl (by (try simp only [List.map_toArray,List.map_cons,List.map_nil]); first | done | rfl | (simp only [List.length_drop,List.length_take]; rfl)) ?_; (with_reducible refine (field_limits.calls a1 t105 t106 t107 _ A3.out).mono ?_); rintro e w' ⟨rfl,⟨nd,rfl⟩⟩; refine ⟨_,rfl,?_⟩) | ((with_reducible refine gate_callee (f:=78) rfl ?_); refine goesL_ (some 20) rfl rfl Tryd.func78 (by kernel_rfl) rfl #[.int .i64 t105,.int .i64 t106] rfl (by (try simp only [List.map_toArray,List.map_cons,List.map_nil]); first | done | rfl | (simp only [List.length_drop,List.length_take]; rfl)) ?_; (with_reducible refine (field_every.calls t105 t106 t108 _ A5.out).mono ?_); rintro e w' ⟨rfl,⟨nd,rfl⟩⟩; refine ⟨_,rfl,?_⟩; have hcz19_0:w18.cell? ⟨gb104,0,none⟩=some (.int .u64 a0_0):=(blk_cell BK104.out 0).trans rfl; have hcz19_1:w18.cell? ⟨gb104,1,none⟩=some (.bool a0_1):=(blk_cell BK104.out 1).trans rfl; have hfz19_0:=blk_frozen BK104.out 0; have hfz19_1:=blk_frozen BK104.out 1))
    go_ret
    exact ⟨by first | rfl | (simp [errW_none,errW_some] <;> rfl) | (simp [*,errW_none,errW_some] <;> rfl),by repeat (first | (with_reducible first | exact HB.out | apply below_alloc | apply pw_below_drewN | apply below_drew1 | refine below_set ?_ GE104.out) | exact HB.out)⟩
 ·rw [if_neg c4] at H
  have c4b0:(t107 == 0)=false:=beq_eq_false_iff_ne.mpr c4
  have c4b1:(t107 != 0)=true:=bne_iff_ne.mpr c4
  obtain rfl:=Option.some.inj H
  go_enter Tryd.func53,Tryd.ntmps53
  go_wp2_with (first | ((with_reducible refine gate_dst (N:=2) rfl ?_); refine box_event ?hg (N:=2) ?hd (cs:=#[.int .u64 a0_0,.bool a0_1]) (t:=24) ?hr ?_; (case hd=>rfl); (case hg=>rfl); (case hr=>first | (go_simp; done) | (go_simp; rfl)); intro gb104 hg w20 hbox hb; have n0_:=Aside0.mk (below_step (by repeat (first | (with_reducible first | exact HB.out | apply below_alloc | apply pw_below_drewN | apply below_drew1) | exact HB.out)) hb); have n1_:=Aside0.mk (hbox); have n2_:=Aside0.mk ((by rw [hg]; exact (below_size (by repeat (first | (with_reducible first | exact HB.out | apply below_alloc | apply pw_below_drewN | apply below_drew1) | exact HB.out))):w.heap.size≤gb104)); have n3_:=Aside0.mk ((by rw [hg]; exact (below_size (by repeat (first | (with_reducible first | exact HB.out | apply below_alloc | apply pw_below_drewN | apply below_drew1) | exact HB.out))):w.heap.size≤gb104)); clear HB; have HB:=n0_; have BK104:=n1_; have GW104:=n2_; have GE104:=n3_; clear n0_ n1_ n2_ n3_; clear hb hbox hg) | ((with_reducible refine gate_callee (f:=77) rfl ?_); refine goesL_ (some 11) rfl rfl Tryd.func77 (by kernel_rfl) rfl #[.int .i64 a1] rfl (by (try simp only [List.map_toArray,List.map_cons,List.map_nil]); first | done | rfl | (simp only [List.length_drop,List.length_take]; rfl)) ?_; (with_reducible refine (field_limits.calls a1 t105 t106 t107 _ A3.out).mono ?_); rintro e w' ⟨rfl,⟨nd,rfl⟩⟩; refine ⟨_,rfl,?_⟩))
  go_ret
  exact ⟨by first | rfl | (simp [errW_none,errW_some] <;> rfl) | (simp [*,errW_none,errW_some] <;> rfl),by repeat (first | (with_reducible first | exact HB.out | apply below_alloc | apply pw_below_drewN | apply below_drew1 | refine below_set ?_ GE104.out) | exact HB.out)⟩
/-! This session's own: spec's five fields, as pointers. -/
def Spc.Row (w:World)(g:Nat)(b0:Int)(s0:Bool)(b1:Int)(s1:Bool)(b2:Int)(s2:Bool)(b3:Int)(s3:Bool)(b4:Int)(s4:Bool):Prop:=w.heap[g]?=some (.cells #[.int .u64 b0,.bool s0,.int .u64 b1,.bool s1,.int .u64 b2,.bool s2,.int .u64 b3,.bool s3,.int .u64 b4,.bool s4] 26 (0,0))
def Spc.Bx (w:World)(bx g:Nat):Prop:=w.heap[bx]?=some (.cells #[.pointer (some ⟨g,0,none⟩)] 87 (0,0))
theorem Spc.Row.cells {w:World}{g:Nat}{b0 b1 b2 b3 b4:Int}{s0 s1 s2 s3 s4:Bool}(h:Spc.Row w g b0 s0 b1 s1 b2 s2 b3 s3 b4 s4) :
  w.cell? ⟨g,0,none⟩=some (.int .u64 b0)∧w.cell? ⟨g,1,none⟩=some (.bool s0)∧w.cell? ⟨g,2,none⟩=some (.int .u64 b1)∧w.cell? ⟨g,3,none⟩=some (.bool s1)∧w.cell? ⟨g,4,none⟩=some (.int .u64 b2)∧w.cell? ⟨g,5,none⟩=some (.bool s2)∧w.cell? ⟨g,6,none⟩=some (.int .u64 b3)∧w.cell? ⟨g,7,none⟩=some (.bool s3)∧w.cell? ⟨g,8,none⟩=some (.int .u64 b4)∧w.cell? ⟨g,9,none⟩=some (.bool s4):=
 ⟨(blk_cell h 0).trans rfl,(blk_cell h 1).trans rfl,(blk_cell h 2).trans rfl,(blk_cell h 3).trans rfl,(blk_cell h 4).trans rfl,(blk_cell h 5).trans rfl,(blk_cell h 6).trans rfl,(blk_cell h 7).trans rfl,(blk_cell h 8).trans rfl,(blk_cell h 9).trans rfl⟩
set_option maxHeartbeats 4000000 in
theorem Spc.fields_calls (g:Nat)(w:World):Calls Tryd.prog 44 #[.pointer (some ⟨g,0,none⟩)] w fun e w'=>e=.returned (.agg #[.func (.func 72) #[] #[.pointer (some ⟨w.heap.size,0,none⟩)],.func (.func 73) #[] #[.pointer (some ⟨w.heap.size,0,none⟩)],.func (.func 74) #[] #[.pointer (some ⟨w.heap.size,0,none⟩)],.func (.func 75) #[] #[.pointer (some ⟨w.heap.size,0,none⟩)],.func (.func 76) #[] #[.pointer (some ⟨w.heap.size,0,none⟩)]])∧Spc.Bx w' w.heap.size g∧Below w.heap.size w w':=by
 go_enter Tryd.func44,Tryd.ntmps44
 go_wp2
 refine bodyPost_ret (v:=.agg #[.func (.func 72) #[] #[.pointer (some ⟨w.heap.size,0,none⟩)],.func (.func 73) #[] #[.pointer (some ⟨w.heap.size,0,none⟩)],.func (.func 74) #[] #[.pointer (some ⟨w.heap.size,0,none⟩)],.func (.func 75) #[] #[.pointer (some ⟨w.heap.size,0,none⟩)],.func (.func 76) #[] #[.pointer (some ⟨w.heap.size,0,none⟩)]]) (by simp [results,Tryd.results44,go_sem]) rfl ⟨rfl,?_,?_⟩
 ·exact blk_alloc (blk_new w _) _
 ·exact below_alloc (below_alloc (Below.refl _ _) _) _
theorem Spc.at0 (bx g:Nat)(w:World)(h:Spc.Bx w bx g):Calls Tryd.prog 72 #[.pointer (some ⟨bx,0,none⟩)] w fun e w'=>e=.returned (.pointer (some ⟨g,0,none⟩))∧w'=w:=by
 have hc:w.cell? ⟨bx,0,none⟩=some (.pointer (some ⟨g,0,none⟩)):=(blk_cell h 0).trans rfl
 clear h
 go_enter Tryd.func72,Tryd.ntmps72
 go_wp2
 go_ret
 exact ⟨rfl,rfl⟩
theorem Spc.at1 (bx g:Nat)(w:World)(h:Spc.Bx w bx g):Calls Tryd.prog 73 #[.pointer (some ⟨bx,0,none⟩)] w fun e w'=>e=.returned (.pointer (some ⟨g,2,none⟩))∧w'=w:=by
 have hc:w.cell? ⟨bx,0,none⟩=some (.pointer (some ⟨g,0,none⟩)):=(blk_cell h 0).trans rfl
 clear h
 go_enter Tryd.func73,Tryd.ntmps73
 go_wp2
 go_ret
 exact ⟨rfl,rfl⟩
theorem Spc.at2 (bx g:Nat)(w:World)(h:Spc.Bx w bx g):Calls Tryd.prog 74 #[.pointer (some ⟨bx,0,none⟩)] w fun e w'=>e=.returned (.pointer (some ⟨g,4,none⟩))∧w'=w:=by
 have hc:w.cell? ⟨bx,0,none⟩=some (.pointer (some ⟨g,0,none⟩)):=(blk_cell h 0).trans rfl
 clear h
 go_enter Tryd.func74,Tryd.ntmps74
 go_wp2
 go_ret
 exact ⟨rfl,rfl⟩
theorem Spc.at3 (bx g:Nat)(w:World)(h:Spc.Bx w bx g):Calls Tryd.prog 75 #[.pointer (some ⟨bx,0,none⟩)] w fun e w'=>e=.returned (.pointer (some ⟨g,6,none⟩))∧w'=w:=by
 have hc:w.cell? ⟨bx,0,none⟩=some (.pointer (some ⟨g,0,none⟩)):=(blk_cell h 0).trans rfl
 clear h
 go_enter Tryd.func75,Tryd.ntmps75
 go_wp2
 go_ret
 exact ⟨rfl,rfl⟩
theorem Spc.at4 (bx g:Nat)(w:World)(h:Spc.Bx w bx g):Calls Tryd.prog 76 #[.pointer (some ⟨bx,0,none⟩)] w fun e w'=>e=.returned (.pointer (some ⟨g,8,none⟩))∧w'=w:=by
 have hc:w.cell? ⟨bx,0,none⟩=some (.pointer (some ⟨g,0,none⟩)):=(blk_cell h 0).trans rfl
 clear h
 go_enter Tryd.func76,Tryd.ntmps76
 go_wp2
 go_ret
 exact ⟨rfl,rfl⟩
theorem Spc.ix0 (X:Nat)(W:World):(Instr.index 85 (.agg #[.func (.func 72) #[] #[.pointer (some ⟨X,0,none⟩)],.func (.func 73) #[] #[.pointer (some ⟨X,0,none⟩)],.func (.func 74) #[] #[.pointer (some ⟨X,0,none⟩)],.func (.func 75) #[] #[.pointer (some ⟨X,0,none⟩)],.func (.func 76) #[] #[.pointer (some ⟨X,0,none⟩)]]) (.int .i64 0)).run Tryd.prog W=.ok (.func (.func 72) #[] #[.pointer (some ⟨X,0,none⟩)]) W:=by
 have hu:=run_underlying Tryd.underlying85
 simp [Instr.index,hu,go_sem]
theorem Spc.ix1 (X:Nat)(W:World):(Instr.index 85 (.agg #[.func (.func 72) #[] #[.pointer (some ⟨X,0,none⟩)],.func (.func 73) #[] #[.pointer (some ⟨X,0,none⟩)],.func (.func 74) #[] #[.pointer (some ⟨X,0,none⟩)],.func (.func 75) #[] #[.pointer (some ⟨X,0,none⟩)],.func (.func 76) #[] #[.pointer (some ⟨X,0,none⟩)]]) (.int .i64 1)).run Tryd.prog W=.ok (.func (.func 73) #[] #[.pointer (some ⟨X,0,none⟩)]) W:=by
 have hu:=run_underlying Tryd.underlying85
 simp [Instr.index,hu,go_sem]
theorem Spc.ix2 (X:Nat)(W:World):(Instr.index 85 (.agg #[.func (.func 72) #[] #[.pointer (some ⟨X,0,none⟩)],.func (.func 73) #[] #[.pointer (some ⟨X,0,none⟩)],.func (.func 74) #[] #[.pointer (some ⟨X,0,none⟩)],.func (.func 75) #[] #[.pointer (some ⟨X,0,none⟩)],.func (.func 76) #[] #[.pointer (some ⟨X,0,none⟩)]]) (.int .i64 2)).run Tryd.prog W=.ok (.func (.func 74) #[] #[.pointer (some ⟨X,0,none⟩)]) W:=by
 have hu:=run_underlying Tryd.underlying85
 simp [Instr.index,hu,go_sem]
theorem Spc.ix3 (X:Nat)(W:World):(Instr.index 85 (.agg #[.func (.func 72) #[] #[.pointer (some ⟨X,0,none⟩)],.func (.func 73) #[] #[.pointer (some ⟨X,0,none⟩)],.func (.func 74) #[] #[.pointer (some ⟨X,0,none⟩)],.func (.func 75) #[] #[.pointer (some ⟨X,0,none⟩)],.func (.func 76) #[] #[.pointer (some ⟨X,0,none⟩)]]) (.int .i64 3)).run Tryd.prog W=.ok (.func (.func 75) #[] #[.pointer (some ⟨X,0,none⟩)]) W:=by
 have hu:=run_underlying Tryd.underlying85
 simp [Instr.index,hu,go_sem]
theorem Spc.ix4 (X:Nat)(W:World):(Instr.index 85 (.agg #[.func (.func 72) #[] #[.pointer (some ⟨X,0,none⟩)],.func (.func 73) #[] #[.pointer (some ⟨X,0,none⟩)],.func (.func 74) #[] #[.pointer (some ⟨X,0,none⟩)],.func (.func 75) #[] #[.pointer (some ⟨X,0,none⟩)],.func (.func 76) #[] #[.pointer (some ⟨X,0,none⟩)]]) (.int .i64 4)).run Tryd.prog W=.ok (.func (.func 76) #[] #[.pointer (some ⟨X,0,none⟩)]) W:=by
 have hu:=run_underlying Tryd.underlying85
 simp [Instr.index,hu,go_sem]
/-! This session's own: spec.Check. -/
set_option maxHeartbeats 8000000 in
set_option maxRecDepth 100000 in
theorem Spc.check0 (b0:Int)(s0:Bool)(b1:Int)(s1:Bool)(b2:Int)(s2:Bool)(b3:Int)(s3:Bool)(b4:Int)(s4:Bool)  (E0:Int) (he:E0≠0) (A0:field_Check.f b0 s0 0=some E0) (w:World):Calls Tryd.prog 25 #[.agg #[.int .u64 b0,.bool s0,.int .u64 b1,.bool s1,.int .u64 b2,.bool s2,.int .u64 b3,.bool s3,.int .u64 b4,.bool s4]] w fun e w'=>e=.returned (.tuple #[.int .i64 1,.int .i64 E0])∧Below w.heap.size w w':=by
 have q1:(E0 == 0)=false:=by simpa using he
 have q2:(E0 != 0)=true:=by simpa using he
 replace he:=Lib.hid he
 replace A0:=Lib.hid A0
 have HR:=blk_new w (.cells #[.int .u64 b0,.bool s0,.int .u64 b1,.bool s1,.int .u64 b2,.bool s2,.int .u64 b3,.bool s3,.int .u64 b4,.bool s4] 26)
 have HB:=below_alloc (Below.refl _ _) (.cells #[.int .u64 b0,.bool s0,.int .u64 b1,.bool s1,.int .u64 b2,.bool s2,.int .u64 b3,.bool s3,.int .u64 b4,.bool s4] 26) (w:=w)
 replace HR:=Aside0.mk HR
 replace HB:=Aside0.mk HB
 go_enter Tryd.func25,Tryd.ntmps25
 go_wp2_with fail
 refine (Spc.fields_calls _ _).mono ?_
 rintro e V ⟨rfl,hX,hb⟩
 have HR2:Spc.Row V w.heap.size b0 s0 b1 s1 b2 s2 b3 s3 b4 s4:=blk_below HR.out hb
 have HB2:=below_step HB.out hb
 clear HR HB hb
 obtain ⟨X,hX0⟩:∃ X,(w.alloc (.cells #[.int .u64 b0,.bool s0,.int .u64 b1,.bool s1,.int .u64 b2,.bool s2,.int .u64 b3,.bool s3,.int .u64 b4,.bool s4] 26)).heap.size=X:=⟨_,rfl⟩
 rw [hX0] at hX ⊢
 replace hX0:=Lib.hid hX0
 replace HR2:=Aside0.mk HR2
 replace HB2:=Aside0.mk HB2
 replace hX:=Aside0.mk hX
 go_wp2_with fail
 refine wp_loop_rounds 1 ?_
 rw [rounds_succ]
 have ix:=Spc.ix0 X
 obtain ⟨c0,c1,c2,c3,c4,c5,c6,c7,c8,c9⟩ :=HR2.out.cells
 go_wp2_with (go_at_call 72; refine (Spc.at0 _ _ _ hX.out).mono ?_; rintro e w' ⟨rfl,rfl⟩)
 clear ix c0 c1 c2 c3 c4 c5 c6 c7 c8 c9
 refine (field_Check.calls b0 s0 0 E0 _ A0.out).mono ?_
 rintro e0 V0 ⟨rfl,hb⟩
 have HR3:Spc.Row V0 w.heap.size b0 s0 b1 s1 b2 s2 b3 s3 b4 s4:=blk_below HR2.out hb
 have HB3:=below_step HB2.out hb
 have hX3:Spc.Bx V0 X w.heap.size:=blk_below hX.out hb
 clear HR2 HB2 hX hb
 have HR2:=Aside0.mk HR3
 have HB2:=Aside0.mk HB3
 have hX:=Aside0.mk hX3
 clear HR3 HB3 hX3
 go_wp2_with fail
 go_ret2
 exact ⟨rfl,HB2.out⟩
set_option maxHeartbeats 8000000 in
set_option maxRecDepth 100000 in
theorem Spc.check1 (b0:Int)(s0:Bool)(b1:Int)(s1:Bool)(b2:Int)(s2:Bool)(b3:Int)(s3:Bool)(b4:Int)(s4:Bool)(A0:field_Check.f b0 s0 0=some 0)(E0:Int)(he:E0≠0)(A1:field_Check.f b1 s1 1=some E0)(w:World):Calls Tryd.prog 25 #[.agg #[.int .u64 b0,.bool s0,.int .u64 b1,.bool s1,.int .u64 b2,.bool s2,.int .u64 b3,.bool s3,.int .u64 b4,.bool s4]] w fun e w'=>e=.returned (.tuple #[.int .i64 2,.int .i64 E0])∧Below w.heap.size w w':=by
 have q1:(E0 == 0)=false:=by simpa using he
 have q2:(E0 != 0)=true:=by simpa using he
 replace he:=Lib.hid he
 replace A0:=Lib.hid A0
 replace A1:=Lib.hid A1
 have HR:=blk_new w (.cells #[.int .u64 b0,.bool s0,.int .u64 b1,.bool s1,.int .u64 b2,.bool s2,.int .u64 b3,.bool s3,.int .u64 b4,.bool s4] 26)
 have HB:=below_alloc (Below.refl _ _) (.cells #[.int .u64 b0,.bool s0,.int .u64 b1,.bool s1,.int .u64 b2,.bool s2,.int .u64 b3,.bool s3,.int .u64 b4,.bool s4] 26) (w:=w)
 replace HR:=Aside0.mk HR
 replace HB:=Aside0.mk HB
 go_enter Tryd.func25,Tryd.ntmps25
 go_wp2_with fail
 refine (Spc.fields_calls _ _).mono ?_
 rintro e V ⟨rfl,hX,hb⟩
 have HR2:Spc.Row V w.heap.size b0 s0 b1 s1 b2 s2 b3 s3 b4 s4:=blk_below HR.out hb
 have HB2:=below_step HB.out hb
 clear HR HB hb
 obtain ⟨X,hX0⟩:∃ X,(w.alloc (.cells #[.int .u64 b0,.bool s0,.int .u64 b1,.bool s1,.int .u64 b2,.bool s2,.int .u64 b3,.bool s3,.int .u64 b4,.bool s4] 26)).heap.size=X:=⟨_,rfl⟩
 rw [hX0] at hX ⊢
 replace hX0:=Lib.hid hX0
 replace HR2:=Aside0.mk HR2
 replace HB2:=Aside0.mk HB2
 replace hX:=Aside0.mk hX
 go_wp2_with fail
 refine wp_loop_rounds 2 ?_
 rw [rounds_succ]
 have ix:=Spc.ix0 X
 obtain ⟨c0,c1,c2,c3,c4,c5,c6,c7,c8,c9⟩ :=HR2.out.cells
 go_wp2_with (go_at_call 72; refine (Spc.at0 _ _ _ hX.out).mono ?_; rintro e w' ⟨rfl,rfl⟩)
 clear ix c0 c1 c2 c3 c4 c5 c6 c7 c8 c9
 refine (field_Check.calls b0 s0 0 0 _ A0.out).mono ?_
 rintro e0 V0 ⟨rfl,hb⟩
 have HR3:Spc.Row V0 w.heap.size b0 s0 b1 s1 b2 s2 b3 s3 b4 s4:=blk_below HR2.out hb
 have HB3:=below_step HB2.out hb
 have hX3:Spc.Bx V0 X w.heap.size:=blk_below hX.out hb
 clear HR2 HB2 hX hb
 have HR2:=Aside0.mk HR3
 have HB2:=Aside0.mk HB3
 have hX:=Aside0.mk hX3
 clear HR3 HB3 hX3
 go_wp2_with fail
 rw [rounds_succ]
 have ix:=Spc.ix1 X
 obtain ⟨c0,c1,c2,c3,c4,c5,c6,c7,c8,c9⟩ :=HR2.out.cells
 go_wp2_with (go_at_call 73; refine (Spc.at1 _ _ _ hX.out).mono ?_; rintro e w' ⟨rfl,rfl⟩)
 clear ix c0 c1 c2 c3 c4 c5 c6 c7 c8 c9
 refine (field_Check.calls b1 s1 1 E0 _ A1.out).mono ?_
 rintro e1 V1 ⟨rfl,hb⟩
 have HR3:Spc.Row V1 w.heap.size b0 s0 b1 s1 b2 s2 b3 s3 b4 s4:=blk_below HR2.out hb
 have HB3:=below_step HB2.out hb
 have hX3:Spc.Bx V1 X w.heap.size:=blk_below hX.out hb
 clear HR2 HB2 hX hb
 have HR2:=Aside0.mk HR3
 have HB2:=Aside0.mk HB3
 have hX:=Aside0.mk hX3
 clear HR3 HB3 hX3
 go_wp2_with fail
 go_ret2
 exact ⟨rfl,HB2.out⟩
set_option maxHeartbeats 8000000 in
set_option maxRecDepth 100000 in
theorem Spc.check2 (b0:Int)(s0:Bool)(b1:Int)(s1:Bool)(b2:Int)(s2:Bool)(b3:Int)(s3:Bool)(b4:Int)(s4:Bool)(A0:field_Check.f b0 s0 0=some 0)(A1:field_Check.f b1 s1 1=some 0)(E0:Int)(he:E0≠0)(A2:field_Check.f b2 s2 2=some E0)(w:World):Calls Tryd.prog 25 #[.agg #[.int .u64 b0,.bool s0,.int .u64 b1,.bool s1,.int .u64 b2,.bool s2,.int .u64 b3,.bool s3,.int .u64 b4,.bool s4]] w fun e w'=>e=.returned (.tuple #[.int .i64 3,.int .i64 E0])∧Below w.heap.size w w':=by
 have q1:(E0 == 0)=false:=by simpa using he
 have q2:(E0 != 0)=true:=by simpa using he
 replace he:=Lib.hid he
 replace A0:=Lib.hid A0
 replace A1:=Lib.hid A1
 replace A2:=Lib.hid A2
 have HR:=blk_new w (.cells #[.int .u64 b0,.bool s0,.int .u64 b1,.bool s1,.int .u64 b2,.bool s2,.int .u64 b3,.bool s3,.int .u64 b4,.bool s4] 26)
 have HB:=below_alloc (Below.refl _ _) (.cells #[.int .u64 b0,.bool s0,.int .u64 b1,.bool s1,.int .u64 b2,.bool s2,.int .u64 b3,.bool s3,.int .u64 b4,.bool s4] 26) (w:=w)
 replace HR:=Aside0.mk HR
 replace HB:=Aside0.mk HB
 go_enter Tryd.func25,Tryd.ntmps25
 go_wp2_with fail
 refine (Spc.fields_calls _ _).mono ?_
 rintro e V ⟨rfl,hX,hb⟩
 have HR2:Spc.Row V w.heap.size b0 s0 b1 s1 b2 s2 b3 s3 b4 s4:=blk_below HR.out hb
 have HB2:=below_step HB.out hb
 clear HR HB hb
 obtain ⟨X,hX0⟩:∃ X,(w.alloc (.cells #[.int .u64 b0,.bool s0,.int .u64 b1,.bool s1,.int .u64 b2,.bool s2,.int .u64 b3,.bool s3,.int .u64 b4,.bool s4] 26)).heap.size=X:=⟨_,rfl⟩
 rw [hX0] at hX ⊢
 replace hX0:=Lib.hid hX0
 replace HR2:=Aside0.mk HR2
 replace HB2:=Aside0.mk HB2
 replace hX:=Aside0.mk hX
 go_wp2_with fail
 refine wp_loop_rounds 3 ?_
 rw [rounds_succ]
 have ix:=Spc.ix0 X
 obtain ⟨c0,c1,c2,c3,c4,c5,c6,c7,c8,c9⟩ :=HR2.out.cells
 go_wp2_with (go_at_call 72; refine (Spc.at0 _ _ _ hX.out).mono ?_; rintro e w' ⟨rfl,rfl⟩)
 clear ix c0 c1 c2 c3 c4 c5 c6 c7 c8 c9
 refine (field_Check.calls b0 s0 0 0 _ A0.out).mono ?_
 rintro e0 V0 ⟨rfl,hb⟩
 have HR3:Spc.Row V0 w.heap.size b0 s0 b1 s1 b2 s2 b3 s3 b4 s4:=blk_below HR2.out hb
 have HB3:=below_step HB2.out hb
 have hX3:Spc.Bx V0 X w.heap.size:=blk_below hX.out hb
 clear HR2 HB2 hX hb
 have HR2:=Aside0.mk HR3
 have HB2:=Aside0.mk HB3
 have hX:=Aside0.mk hX3
 clear HR3 HB3 hX3
 go_wp2_with fail
 rw [rounds_succ]
 have ix:=Spc.ix1 X
 obtain ⟨c0,c1,c2,c3,c4,c5,c6,c7,c8,c9⟩ :=HR2.out.cells
 go_wp2_with (go_at_call 73; refine (Spc.at1 _ _ _ hX.out).mono ?_; rintro e w' ⟨rfl,rfl⟩)
 clear ix c0 c1 c2 c3 c4 c5 c6 c7 c8 c9
 refine (field_Check.calls b1 s1 1 0 _ A1.out).mono ?_
 rintro e1 V1 ⟨rfl,hb⟩
 have HR3:Spc.Row V1 w.heap.size b0 s0 b1 s1 b2 s2 b3 s3 b4 s4:=blk_below HR2.out hb
 have HB3:=below_step HB2.out hb
 have hX3:Spc.Bx V1 X w.heap.size:=blk_below hX.out hb
 clear HR2 HB2 hX hb
 have HR2:=Aside0.mk HR3
 have HB2:=Aside0.mk HB3
 have hX:=Aside0.mk hX3
 clear HR3 HB3 hX3
 go_wp2_with fail
 rw [rounds_succ]
 have ix:=Spc.ix2 X
 obtain ⟨c0,c1,c2,c3,c4,c5,c6,c7,c8,c9⟩ :=HR2.out.cells
 go_wp2_with (go_at_call 74; refine (Spc.at2 _ _ _ hX.out).mono ?_; rintro e w' ⟨rfl,rfl⟩)
 clear ix c0 c1 c2 c3 c4 c5 c6 c7 c8 c9
 refine (field_Check.calls b2 s2 2 E0 _ A2.out).mono ?_
 rintro e2 V2 ⟨rfl,hb⟩
 have HR3:Spc.Row V2 w.heap.size b0 s0 b1 s1 b2 s2 b3 s3 b4 s4:=blk_below HR2.out hb
 have HB3:=below_step HB2.out hb
 have hX3:Spc.Bx V2 X w.heap.size:=blk_below hX.out hb
 clear HR2 HB2 hX hb
 have HR2:=Aside0.mk HR3
 have HB2:=Aside0.mk HB3
 have hX:=Aside0.mk hX3
 clear HR3 HB3 hX3
 go_wp2_with fail
 go_ret2
 exact ⟨rfl,HB2.out⟩
set_option maxHeartbeats 8000000 in
set_option maxRecDepth 100000 in
theorem Spc.check3 (b0:Int)(s0:Bool)(b1:Int)(s1:Bool)(b2:Int)(s2:Bool)(b3:Int)(s3:Bool)(b4:Int)(s4:Bool)(A0:field_Check.f b0 s0 0=some 0)(A1:field_Check.f b1 s1 1=some 0)(A2:field_Check.f b2 s2 2=some 0)(E0:Int)(he:E0≠0)(A3:field_Check.f b3 s3 3=some E0)(w:World):Calls Tryd.prog 25 #[.agg #[.int .u64 b0,.bool s0,.int .u64 b1,.bool s1,.int .u64 b2,.bool s2,.int .u64 b3,.bool s3,.int .u64 b4,.bool s4]] w fun e w'=>e=.returned (.tuple #[.int .i64 4,.int .i64 E0])∧Below w.heap.size w w':=by
 have q1:(E0 == 0)=false:=by simpa using he
 have q2:(E0 != 0)=true:=by simpa using he
 replace he:=Lib.hid he
 replace A0:=Lib.hid A0
 replace A1:=Lib.hid A1
 replace A2:=Lib.hid A2
 replace A3:=Lib.hid A3
 have HR:=blk_new w (.cells #[.int .u64 b0,.bool s0,.int .u64 b1,.bool s1,.int .u64 b2,.bool s2,.int .u64 b3,.bool s3,.int .u64 b4,.bool s4] 26)
 have HB:=below_alloc (Below.refl _ _) (.cells #[.int .u64 b0,.bool s0,.int .u64 b1,.bool s1,.int .u64 b2,.bool s2,.int .u64 b3,.bool s3,.int .u64 b4,.bool s4] 26) (w:=w)
 replace HR:=Aside0.mk HR
 replace HB:=Aside0.mk HB
 go_enter Tryd.func25,Tryd.ntmps25
 go_wp2_with fail
 refine (Spc.fields_calls _ _).mono ?_
 rintro e V ⟨rfl,hX,hb⟩
 have HR2:Spc.Row V w.heap.size b0 s0 b1 s1 b2 s2 b3 s3 b4 s4:=blk_below HR.out hb
 have HB2:=below_step HB.out hb
 clear HR HB hb
 obtain ⟨X,hX0⟩:∃ X,(w.alloc (.cells #[.int .u64 b0,.bool s0,.int .u64 b1,.bool s1,.int .u64 b2,.bool s2,.int .u64 b3,.bool s3,.int .u64 b4,.bool s4] 26)).heap.size=X:=⟨_,rfl⟩
 rw [hX0] at hX ⊢
 replace hX0:=Lib.hid hX0
 replace HR2:=Aside0.mk HR2
 replace HB2:=Aside0.mk HB2
 replace hX:=Aside0.mk hX
 go_wp2_with fail
 refine wp_loop_rounds 4 ?_
 rw [rounds_succ]
 have ix:=Spc.ix0 X
 obtain ⟨c0,c1,c2,c3,c4,c5,c6,c7,c8,c9⟩ :=HR2.out.cells
 go_wp2_with (go_at_call 72; refine (Spc.at0 _ _ _ hX.out).mono ?_; rintro e w' ⟨rfl,rfl⟩)
 clear ix c0 c1 c2 c3 c4 c5 c6 c7 c8 c9
 refine (field_Check.calls b0 s0 0 0 _ A0.out).mono ?_
 rintro e0 V0 ⟨rfl,hb⟩
 have HR3:Spc.Row V0 w.heap.size b0 s0 b1 s1 b2 s2 b3 s3 b4 s4:=blk_below HR2.out hb
 have HB3:=below_step HB2.out hb
 have hX3:Spc.Bx V0 X w.heap.size:=blk_below hX.out hb
 clear HR2 HB2 hX hb
 have HR2:=Aside0.mk HR3
 have HB2:=Aside0.mk HB3
 have hX:=Aside0.mk hX3
 clear HR3 HB3 hX3
 go_wp2_with fail
 rw [rounds_succ]
 have ix:=Spc.ix1 X
 obtain ⟨c0,c1,c2,c3,c4,c5,c6,c7,c8,c9⟩ :=HR2.out.cells
 go_wp2_with (go_at_call 73; refine (Spc.at1 _ _ _ hX.out).mono ?_; rintro e w' ⟨rfl,rfl⟩)
 clear ix c0 c1 c2 c3 c4 c5 c6 c7 c8 c9
 refine (field_Check.calls b1 s1 1 0 _ A1.out).mono ?_
 rintro e1 V1 ⟨rfl,hb⟩
 have HR3:Spc.Row V1 w.heap.size b0 s0 b1 s1 b2 s2 b3 s3 b4 s4:=blk_below HR2.out hb
 have HB3:=below_step HB2.out hb
 have hX3:Spc.Bx V1 X w.heap.size:=blk_below hX.out hb
 clear HR2 HB2 hX hb
 have HR2:=Aside0.mk HR3
 have HB2:=Aside0.mk HB3
 have hX:=Aside0.mk hX3
 clear HR3 HB3 hX3
 go_wp2_with fail
 rw [rounds_succ]
 have ix:=Spc.ix2 X
 obtain ⟨c0,c1,c2,c3,c4,c5,c6,c7,c8,c9⟩ :=HR2.out.cells
 go_wp2_with (go_at_call 74; refine (Spc.at2 _ _ _ hX.out).mono ?_; rintro e w' ⟨rfl,rfl⟩)
 clear ix c0 c1 c2 c3 c4 c5 c6 c7 c8 c9
 refine (field_Check.calls b2 s2 2 0 _ A2.out).mono ?_
 rintro e2 V2 ⟨rfl,hb⟩
 have HR3:Spc.Row V2 w.heap.size b0 s0 b1 s1 b2 s2 b3 s3 b4 s4:=blk_below HR2.out hb
 have HB3:=below_step HB2.out hb
 have hX3:Spc.Bx V2 X w.heap.size:=blk_below hX.out hb
 clear HR2 HB2 hX hb
 have HR2:=Aside0.mk HR3
 have HB2:=Aside0.mk HB3
 have hX:=Aside0.mk hX3
 clear HR3 HB3 hX3
 go_wp2_with fail
 rw [rounds_succ]
 have ix:=Spc.ix3 X
 obtain ⟨c0,c1,c2,c3,c4,c5,c6,c7,c8,c9⟩ :=HR2.out.cells
 go_wp2_with (go_at_call 75; refine (Spc.at3 _ _ _ hX.out).mono ?_; rintro e w' ⟨rfl,rfl⟩)
 clear ix c0 c1 c2 c3 c4 c5 c6 c7 c8 c9
 refine (field_Check.calls b3 s3 3 E0 _ A3.out).mono ?_
 rintro e3 V3 ⟨rfl,hb⟩
 have HR3:Spc.Row V3 w.heap.size b0 s0 b1 s1 b2 s2 b3 s3 b4 s4:=blk_below HR2.out hb
 have HB3:=below_step HB2.out hb
 have hX3:Spc.Bx V3 X w.heap.size:=blk_below hX.out hb
 clear HR2 HB2 hX hb
 have HR2:=Aside0.mk HR3
 have HB2:=Aside0.mk HB3
 have hX:=Aside0.mk hX3
 clear HR3 HB3 hX3
 go_wp2_with fail
 go_ret2
 exact ⟨rfl,HB2.out⟩
set_option maxHeartbeats 8000000 in
set_option maxRecDepth 100000 in
theorem Spc.check4 (b0:Int)(s0:Bool)(b1:Int)(s1:Bool)(b2:Int)(s2:Bool)(b3:Int)(s3:Bool)(b4:Int)(s4:Bool)(A0:field_Check.f b0 s0 0=some 0)(A1:field_Check.f b1 s1 1=some 0)(A2:field_Check.f b2 s2 2=some 0)(A3:field_Check.f b3 s3 3=some 0)(E0:Int)(he:E0≠0)(A4:field_Check.f b4 s4 4=some E0)(w:World):Calls Tryd.prog 25 #[.agg #[.int .u64 b0,.bool s0,.int .u64 b1,.bool s1,.int .u64 b2,.bool s2,.int .u64 b3,.bool s3,.int .u64 b4,.bool s4]] w fun e w'=>e=.returned (.tuple #[.int .i64 5,.int .i64 E0])∧Below w.heap.size w w':=by
 have q1:(E0 == 0)=false:=by simpa using he
 have q2:(E0 != 0)=true:=by simpa using he
 replace he:=Lib.hid he
 replace A0:=Lib.hid A0
 replace A1:=Lib.hid A1
 replace A2:=Lib.hid A2
 replace A3:=Lib.hid A3
 replace A4:=Lib.hid A4
 have HR:=blk_new w (.cells #[.int .u64 b0,.bool s0,.int .u64 b1,.bool s1,.int .u64 b2,.bool s2,.int .u64 b3,.bool s3,.int .u64 b4,.bool s4] 26)
 have HB:=below_alloc (Below.refl _ _) (.cells #[.int .u64 b0,.bool s0,.int .u64 b1,.bool s1,.int .u64 b2,.bool s2,.int .u64 b3,.bool s3,.int .u64 b4,.bool s4] 26) (w:=w)
 replace HR:=Aside0.mk HR
 replace HB:=Aside0.mk HB
 go_enter Tryd.func25,Tryd.ntmps25
 go_wp2_with fail
 refine (Spc.fields_calls _ _).mono ?_
 rintro e V ⟨rfl,hX,hb⟩
 have HR2:Spc.Row V w.heap.size b0 s0 b1 s1 b2 s2 b3 s3 b4 s4:=blk_below HR.out hb
 have HB2:=below_step HB.out hb
 clear HR HB hb
 obtain ⟨X,hX0⟩:∃ X,(w.alloc (.cells #[.int .u64 b0,.bool s0,.int .u64 b1,.bool s1,.int .u64 b2,.bool s2,.int .u64 b3,.bool s3,.int .u64 b4,.bool s4] 26)).heap.size=X:=⟨_,rfl⟩
 rw [hX0] at hX ⊢
 replace hX0:=Lib.hid hX0
 replace HR2:=Aside0.mk HR2
 replace HB2:=Aside0.mk HB2
 replace hX:=Aside0.mk hX
 go_wp2_with fail
 refine wp_loop_rounds 5 ?_
 rw [rounds_succ]
 have ix:=Spc.ix0 X
 obtain ⟨c0,c1,c2,c3,c4,c5,c6,c7,c8,c9⟩ :=HR2.out.cells
 go_wp2_with (go_at_call 72; refine (Spc.at0 _ _ _ hX.out).mono ?_; rintro e w' ⟨rfl,rfl⟩)
 clear ix c0 c1 c2 c3 c4 c5 c6 c7 c8 c9
 refine (field_Check.calls b0 s0 0 0 _ A0.out).mono ?_
 rintro e0 V0 ⟨rfl,hb⟩
 have HR3:Spc.Row V0 w.heap.size b0 s0 b1 s1 b2 s2 b3 s3 b4 s4:=blk_below HR2.out hb
 have HB3:=below_step HB2.out hb
 have hX3:Spc.Bx V0 X w.heap.size:=blk_below hX.out hb
 clear HR2 HB2 hX hb
 have HR2:=Aside0.mk HR3
 have HB2:=Aside0.mk HB3
 have hX:=Aside0.mk hX3
 clear HR3 HB3 hX3
 go_wp2_with fail
 rw [rounds_succ]
 have ix:=Spc.ix1 X
 obtain ⟨c0,c1,c2,c3,c4,c5,c6,c7,c8,c9⟩ :=HR2.out.cells
 go_wp2_with (go_at_call 73; refine (Spc.at1 _ _ _ hX.out).mono ?_; rintro e w' ⟨rfl,rfl⟩)
 clear ix c0 c1 c2 c3 c4 c5 c6 c7 c8 c9
 refine (field_Check.calls b1 s1 1 0 _ A1.out).mono ?_
 rintro e1 V1 ⟨rfl,hb⟩
 have HR3:Spc.Row V1 w.heap.size b0 s0 b1 s1 b2 s2 b3 s3 b4 s4:=blk_below HR2.out hb
 have HB3:=below_step HB2.out hb
 have hX3:Spc.Bx V1 X w.heap.size:=blk_below hX.out hb
 clear HR2 HB2 hX hb
 have HR2:=Aside0.mk HR3
 have HB2:=Aside0.mk HB3
 have hX:=Aside0.mk hX3
 clear HR3 HB3 hX3
 go_wp2_with fail
 rw [rounds_succ]
 have ix:=Spc.ix2 X
 obtain ⟨c0,c1,c2,c3,c4,c5,c6,c7,c8,c9⟩ :=HR2.out.cells
 go_wp2_with (go_at_call 74; refine (Spc.at2 _ _ _ hX.out).mono ?_; rintro e w' ⟨rfl,rfl⟩)
 clear ix c0 c1 c2 c3 c4 c5 c6 c7 c8 c9
 refine (field_Check.calls b2 s2 2 0 _ A2.out).mono ?_
 rintro e2 V2 ⟨rfl,hb⟩
 have HR3:Spc.Row V2 w.heap.size b0 s0 b1 s1 b2 s2 b3 s3 b4 s4:=blk_below HR2.out hb
 have HB3:=below_step HB2.out hb
 have hX3:Spc.Bx V2 X w.heap.size:=blk_below hX.out hb
 clear HR2 HB2 hX hb
 have HR2:=Aside0.mk HR3
 have HB2:=Aside0.mk HB3
 have hX:=Aside0.mk hX3
 clear HR3 HB3 hX3
 go_wp2_with fail
 rw [rounds_succ]
 have ix:=Spc.ix3 X
 obtain ⟨c0,c1,c2,c3,c4,c5,c6,c7,c8,c9⟩ :=HR2.out.cells
 go_wp2_with (go_at_call 75; refine (Spc.at3 _ _ _ hX.out).mono ?_; rintro e w' ⟨rfl,rfl⟩)
 clear ix c0 c1 c2 c3 c4 c5 c6 c7 c8 c9
 refine (field_Check.calls b3 s3 3 0 _ A3.out).mono ?_
 rintro e3 V3 ⟨rfl,hb⟩
 have HR3:Spc.Row V3 w.heap.size b0 s0 b1 s1 b2 s2 b3 s3 b4 s4:=blk_below HR2.out hb
 have HB3:=below_step HB2.out hb
 have hX3:Spc.Bx V3 X w.heap.size:=blk_below hX.out hb
 clear HR2 HB2 hX hb
 have HR2:=Aside0.mk HR3
 have HB2:=Aside0.mk HB3
 have hX:=Aside0.mk hX3
 clear HR3 HB3 hX3
 go_wp2_with fail
 rw [rounds_succ]
 have ix:=Spc.ix4 X
 obtain ⟨c0,c1,c2,c3,c4,c5,c6,c7,c8,c9⟩ :=HR2.out.cells
 go_wp2_with (go_at_call 76; refine (Spc.at4 _ _ _ hX.out).mono ?_; rintro e w' ⟨rfl,rfl⟩)
 clear ix c0 c1 c2 c3 c4 c5 c6 c7 c8 c9
 refine (field_Check.calls b4 s4 4 E0 _ A4.out).mono ?_
 rintro e4 V4 ⟨rfl,hb⟩
 have HR3:Spc.Row V4 w.heap.size b0 s0 b1 s1 b2 s2 b3 s3 b4 s4:=blk_below HR2.out hb
 have HB3:=below_step HB2.out hb
 have hX3:Spc.Bx V4 X w.heap.size:=blk_below hX.out hb
 clear HR2 HB2 hX hb
 have HR2:=Aside0.mk HR3
 have HB2:=Aside0.mk HB3
 have hX:=Aside0.mk hX3
 clear HR3 HB3 hX3
 go_wp2_with fail
 go_ret2
 exact ⟨rfl,HB2.out⟩
set_option maxHeartbeats 8000000 in
set_option maxRecDepth 100000 in
theorem Spc.check5 (b0:Int)(s0:Bool)(b1:Int)(s1:Bool)(b2:Int)(s2:Bool)(b3:Int)(s3:Bool)(b4:Int)(s4:Bool)(A0:field_Check.f b0 s0 0=some 0)(A1:field_Check.f b1 s1 1=some 0)(A2:field_Check.f b2 s2 2=some 0)(A3:field_Check.f b3 s3 3=some 0)(A4:field_Check.f b4 s4 4=some 0)(w:World):Calls Tryd.prog 25 #[.agg #[.int .u64 b0,.bool s0,.int .u64 b1,.bool s1,.int .u64 b2,.bool s2,.int .u64 b3,.bool s3,.int .u64 b4,.bool s4]] w fun e w'=>e=.returned (.tuple #[.int .i64 0,.int .i64 0])∧Below w.heap.size w w':=by
 replace A0:=Lib.hid A0
 replace A1:=Lib.hid A1
 replace A2:=Lib.hid A2
 replace A3:=Lib.hid A3
 replace A4:=Lib.hid A4
 have HR:=blk_new w (.cells #[.int .u64 b0,.bool s0,.int .u64 b1,.bool s1,.int .u64 b2,.bool s2,.int .u64 b3,.bool s3,.int .u64 b4,.bool s4] 26)
 have HB:=below_alloc (Below.refl _ _) (.cells #[.int .u64 b0,.bool s0,.int .u64 b1,.bool s1,.int .u64 b2,.bool s2,.int .u64 b3,.bool s3,.int .u64 b4,.bool s4] 26) (w:=w)
 replace HR:=Aside0.mk HR
 replace HB:=Aside0.mk HB
 go_enter Tryd.func25,Tryd.ntmps25
 go_wp2_with fail
 refine (Spc.fields_calls _ _).mono ?_
 rintro e V ⟨rfl,hX,hb⟩
 have HR2:Spc.Row V w.heap.size b0 s0 b1 s1 b2 s2 b3 s3 b4 s4:=blk_below HR.out hb
 have HB2:=below_step HB.out hb
 clear HR HB hb
 obtain ⟨X,hX0⟩:∃ X,(w.alloc (.cells #[.int .u64 b0,.bool s0,.int .u64 b1,.bool s1,.int .u64 b2,.bool s2,.int .u64 b3,.bool s3,.int .u64 b4,.bool s4] 26)).heap.size=X:=⟨_,rfl⟩
 rw [hX0] at hX ⊢
 replace hX0:=Lib.hid hX0
 replace HR2:=Aside0.mk HR2
 replace HB2:=Aside0.mk HB2
 replace hX:=Aside0.mk hX
 go_wp2_with fail
 refine wp_loop_rounds 6 ?_
 rw [rounds_succ]
 have ix:=Spc.ix0 X
 obtain ⟨c0,c1,c2,c3,c4,c5,c6,c7,c8,c9⟩ :=HR2.out.cells
 go_wp2_with (go_at_call 72; refine (Spc.at0 _ _ _ hX.out).mono ?_; rintro e w' ⟨rfl,rfl⟩)
 clear ix c0 c1 c2 c3 c4 c5 c6 c7 c8 c9
 refine (field_Check.calls b0 s0 0 0 _ A0.out).mono ?_
 rintro e0 V0 ⟨rfl,hb⟩
 have HR3:Spc.Row V0 w.heap.size b0 s0 b1 s1 b2 s2 b3 s3 b4 s4:=blk_below HR2.out hb
 have HB3:=below_step HB2.out hb
 have hX3:Spc.Bx V0 X w.heap.size:=blk_below hX.out hb
 clear HR2 HB2 hX hb
 have HR2:=Aside0.mk HR3
 have HB2:=Aside0.mk HB3
 have hX:=Aside0.mk hX3
 clear HR3 HB3 hX3
 go_wp2_with fail
 rw [rounds_succ]
 have ix:=Spc.ix1 X
 obtain ⟨c0,c1,c2,c3,c4,c5,c6,c7,c8,c9⟩ :=HR2.out.cells
 go_wp2_with (go_at_call 73; refine (Spc.at1 _ _ _ hX.out).mono ?_; rintro e w' ⟨rfl,rfl⟩)
 clear ix c0 c1 c2 c3 c4 c5 c6 c7 c8 c9
 refine (field_Check.calls b1 s1 1 0 _ A1.out).mono ?_
 rintro e1 V1 ⟨rfl,hb⟩
 have HR3:Spc.Row V1 w.heap.size b0 s0 b1 s1 b2 s2 b3 s3 b4 s4:=blk_below HR2.out hb
 have HB3:=below_step HB2.out hb
 have hX3:Spc.Bx V1 X w.heap.size:=blk_below hX.out hb
 clear HR2 HB2 hX hb
 have HR2:=Aside0.mk HR3
 have HB2:=Aside0.mk HB3
 have hX:=Aside0.mk hX3
 clear HR3 HB3 hX3
 go_wp2_with fail
 rw [rounds_succ]
 have ix:=Spc.ix2 X
 obtain ⟨c0,c1,c2,c3,c4,c5,c6,c7,c8,c9⟩ :=HR2.out.cells
 go_wp2_with (go_at_call 74; refine (Spc.at2 _ _ _ hX.out).mono ?_; rintro e w' ⟨rfl,rfl⟩)
 clear ix c0 c1 c2 c3 c4 c5 c6 c7 c8 c9
 refine (field_Check.calls b2 s2 2 0 _ A2.out).mono ?_
 rintro e2 V2 ⟨rfl,hb⟩
 have HR3:Spc.Row V2 w.heap.size b0 s0 b1 s1 b2 s2 b3 s3 b4 s4:=blk_below HR2.out hb
 have HB3:=below_step HB2.out hb
 have hX3:Spc.Bx V2 X w.heap.size:=blk_below hX.out hb
 clear HR2 HB2 hX hb
 have HR2:=Aside0.mk HR3
 have HB2:=Aside0.mk HB3
 have hX:=Aside0.mk hX3
 clear HR3 HB3 hX3
 go_wp2_with fail
 rw [rounds_succ]
 have ix:=Spc.ix3 X
 obtain ⟨c0,c1,c2,c3,c4,c5,c6,c7,c8,c9⟩ :=HR2.out.cells
 go_wp2_with (go_at_call 75; refine (Spc.at3 _ _ _ hX.out).mono ?_; rintro e w' ⟨rfl,rfl⟩)
 clear ix c0 c1 c2 c3 c4 c5 c6 c7 c8 c9
 refine (field_Check.calls b3 s3 3 0 _ A3.out).mono ?_
 rintro e3 V3 ⟨rfl,hb⟩
 have HR3:Spc.Row V3 w.heap.size b0 s0 b1 s1 b2 s2 b3 s3 b4 s4:=blk_below HR2.out hb
 have HB3:=below_step HB2.out hb
 have hX3:Spc.Bx V3 X w.heap.size:=blk_below hX.out hb
 clear HR2 HB2 hX hb
 have HR2:=Aside0.mk HR3
 have HB2:=Aside0.mk HB3
 have hX:=Aside0.mk hX3
 clear HR3 HB3 hX3
 go_wp2_with fail
 rw [rounds_succ]
 have ix:=Spc.ix4 X
 obtain ⟨c0,c1,c2,c3,c4,c5,c6,c7,c8,c9⟩ :=HR2.out.cells
 go_wp2_with (go_at_call 76; refine (Spc.at4 _ _ _ hX.out).mono ?_; rintro e w' ⟨rfl,rfl⟩)
 clear ix c0 c1 c2 c3 c4 c5 c6 c7 c8 c9
 refine (field_Check.calls b4 s4 4 0 _ A4.out).mono ?_
 rintro e4 V4 ⟨rfl,hb⟩
 have HR3:Spc.Row V4 w.heap.size b0 s0 b1 s1 b2 s2 b3 s3 b4 s4:=blk_below HR2.out hb
 have HB3:=below_step HB2.out hb
 have hX3:Spc.Bx V4 X w.heap.size:=blk_below hX.out hb
 clear HR2 HB2 hX hb
 have HR2:=Aside0.mk HR3
 have HB2:=Aside0.mk HB3
 have hX:=Aside0.mk hX3
 clear HR3 HB3 hX3
 go_wp2_with fail
 rw [rounds_succ]
 go_wp2_with fail
 go_ret2
 exact ⟨rfl,HB2.out⟩
def spec_Check.f (a0_0:Int)(a0_1:Bool)(a0_2:Int)(a0_3:Bool)(a0_4:Int)(a0_5:Bool)(a0_6:Int)(a0_7:Bool)(a0_8:Int)(a0_9:Bool):Option (Int × Int):=(field_Check.f a0_0 a0_1 0).bind fun e0=>if e0≠0 then some (1,e0) else (field_Check.f a0_2 a0_3 1).bind fun e1=>if e1≠0 then some (2,e1) else (field_Check.f a0_4 a0_5 2).bind fun e2=>if e2≠0 then some (3,e2) else (field_Check.f a0_6 a0_7 3).bind fun e3=>if e3≠0 then some (4,e3) else (field_Check.f a0_8 a0_9 4).bind fun e4=>if e4≠0 then some (5,e4) else some (0,0)
set_option maxHeartbeats 8000000 in
set_option maxRecDepth 100000 in
theorem spec_Check.calls (a0_0:Int)(a0_1:Bool)(a0_2:Int)(a0_3:Bool)(a0_4:Int)(a0_5:Bool)(a0_6:Int)(a0_7:Bool)(a0_8:Int)(a0_9:Bool)(r1:Int)(r2:Int)(w:World)(h:spec_Check.f a0_0 a0_1 a0_2 a0_3 a0_4 a0_5 a0_6 a0_7 a0_8 a0_9=some (r1,r2)) :
  Calls Tryd.prog 25 #[.agg #[.int .u64 a0_0,.bool a0_1,.int .u64 a0_2,.bool a0_3,.int .u64 a0_4,.bool a0_5,.int .u64 a0_6,.bool a0_7,.int .u64 a0_8,.bool a0_9]] w fun e w'=>e=.returned (.tuple #[.int .i64 r1,.int .i64 r2])∧Below w.heap.size w w':=by
 have H:_=some (r1,r2):=h
 clear h
 obtain ⟨e0,A0,H⟩ :=Option.bind_eq_some_iff.1 H
 by_cases c0:e0≠0
 ·rw [if_pos c0] at H
  obtain ⟨rfl,rfl⟩ :=Prod.mk.inj (Option.some.inj H)
  exact Spc.check0 a0_0 a0_1 a0_2 a0_3 a0_4 a0_5 a0_6 a0_7 a0_8 a0_9  _ c0 A0 w
 rw [if_neg c0] at H
 obtain rfl:e0=0:=by simpa using c0
 obtain ⟨e1,A1,H⟩ :=Option.bind_eq_some_iff.1 H
 by_cases c1:e1≠0
 ·rw [if_pos c1] at H
  obtain ⟨rfl,rfl⟩ :=Prod.mk.inj (Option.some.inj H)
  exact Spc.check1 a0_0 a0_1 a0_2 a0_3 a0_4 a0_5 a0_6 a0_7 a0_8 a0_9 A0 _ c1 A1 w
 rw [if_neg c1] at H
 obtain rfl:e1=0:=by simpa using c1
 obtain ⟨e2,A2,H⟩ :=Option.bind_eq_some_iff.1 H
 by_cases c2:e2≠0
 ·rw [if_pos c2] at H
  obtain ⟨rfl,rfl⟩ :=Prod.mk.inj (Option.some.inj H)
  exact Spc.check2 a0_0 a0_1 a0_2 a0_3 a0_4 a0_5 a0_6 a0_7 a0_8 a0_9 A0 A1 _ c2 A2 w
 rw [if_neg c2] at H
 obtain rfl:e2=0:=by simpa using c2
 obtain ⟨e3,A3,H⟩ :=Option.bind_eq_some_iff.1 H
 by_cases c3:e3≠0
 ·rw [if_pos c3] at H
  obtain ⟨rfl,rfl⟩ :=Prod.mk.inj (Option.some.inj H)
  exact Spc.check3 a0_0 a0_1 a0_2 a0_3 a0_4 a0_5 a0_6 a0_7 a0_8 a0_9 A0 A1 A2 _ c3 A3 w
 rw [if_neg c3] at H
 obtain rfl:e3=0:=by simpa using c3
 obtain ⟨e4,A4,H⟩ :=Option.bind_eq_some_iff.1 H
 by_cases c4:e4≠0
 ·rw [if_pos c4] at H
  obtain ⟨rfl,rfl⟩ :=Prod.mk.inj (Option.some.inj H)
  exact Spc.check4 a0_0 a0_1 a0_2 a0_3 a0_4 a0_5 a0_6 a0_7 a0_8 a0_9 A0 A1 A2 A3 _ c4 A4 w
 rw [if_neg c4] at H
 obtain rfl:e4=0:=by simpa using c4
 obtain ⟨rfl,rfl⟩ :=Prod.mk.inj (Option.some.inj H)
 exact Spc.check5 a0_0 a0_1 a0_2 a0_3 a0_4 a0_5 a0_6 a0_7 a0_8 a0_9 A0 A1 A2 A3 A4 w
end Go.Proofs.YtepflnfnkfkldaaDoor.PRea
