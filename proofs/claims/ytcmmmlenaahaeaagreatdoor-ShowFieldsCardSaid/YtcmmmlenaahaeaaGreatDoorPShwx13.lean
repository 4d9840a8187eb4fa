-- Written by a program of this session (gprint.py) over the kit's print.
import Derived.Test.YtcmmmlenaahaeaaGreatDoorPShwx0
import Derived.Test.YtcmmmlenaahaeaaGreatDoorPShwx4
import Derived.Test.YtcmmmlenaahaeaaGreatDoorPShwx11
import Derived.Test.YtcmmmlenaahaeaaGreatDoorPShwx12
namespace Go.Proofs.YtcmmmlenaahaeaaGreatDoor.PShw
open Go.RowKit Go.Proofs.YtcmmmlenaahaeaaGreatDoorW.PrintWords Go.Proofs.YtcmmmlenaahaeaaGreatDoorW.PrintLast Go.Proofs.YtcmmmlenaahaeaaGreatDoorW.PrintMore
attribute [local go_sem] max2_int min2_int max_two min_two max_three min_three max_four min_four
set_option linter.unusedVariables false
set_option linter.unusedSimpArgs false
def complineref20_run.f (k:Nat)(a0:Int)(a1:Int):Option (ByteArray):=if a1=a0 then ((complineref20_Digits.f k a0).bind fun t155=>(some t155)) else (if a1=(wrap64 (a0+1)) then ((complineref20_Digits.f k a0).bind fun t156=>(if t156.size+1≤9223372036854775807 then ((complineref20_Digits.f k a1).bind fun t157=>(if (t156 ++ (⟨#[44]⟩:ByteArray)).size+t157.size≤9223372036854775807 then (some ((t156 ++ (⟨#[44]⟩:ByteArray)) ++ t157)) else (none))) else (none))) else ((complineref20_Digits.f k a0).bind fun t158=>(if t158.size+1≤9223372036854775807 then ((complineref20_Digits.f k a1).bind fun t159=>(if (t158 ++ (⟨#[45]⟩:ByteArray)).size+t159.size≤9223372036854775807 then (some ((t158 ++ (⟨#[45]⟩:ByteArray)) ++ t159)) else (none))) else (none))))
set_option maxHeartbeats 8000000 in
set_option maxRecDepth 100000 in
theorem complineref20_run.calls (k:Nat)(a0:Int)(a1:Int)(r:ByteArray)(w:World)(h:complineref20_run.f k a0 a1=some r) :
  Calls Tryz.prog 28 #[.int .i64 a0,.int .i64 a1] w fun e w'=>e=.returned (.string r)∧Below w.heap.size w w':=by
 have HB:=Aside0.mk (Below.refl w.heap.size w)
 have H:(if a1=a0 then ((complineref20_Digits.f k a0).bind fun t155=>(some t155)) else (if a1=(wrap64 (a0+1)) then ((complineref20_Digits.f k a0).bind fun t156=>(if t156.size+1≤9223372036854775807 then ((complineref20_Digits.f k a1).bind fun t157=>(if (t156 ++ (⟨#[44]⟩:ByteArray)).size+t157.size≤9223372036854775807 then (some ((t156 ++ (⟨#[44]⟩:ByteArray)) ++ t157)) else (none))) else (none))) else ((complineref20_Digits.f k a0).bind fun t158=>(if t158.size+1≤9223372036854775807 then ((complineref20_Digits.f k a1).bind fun t159=>(if (t158 ++ (⟨#[45]⟩:ByteArray)).size+t159.size≤9223372036854775807 then (some ((t158 ++ (⟨#[45]⟩:ByteArray)) ++ t159)) else (none))) else (none)))))=some r:=h
 clear h
 by_cases c3:a1=a0
 ·rw [if_pos c3] at H
  have c3b0:(a1 == a0)=true:=beq_iff_eq.mpr c3
  have c3b1:(a1 != a0)=false:=bne_eq_false_iff_eq.mpr c3
  clear c3
  replace H:=Option.bind_eq_some_iff.mp H
  obtain ⟨t155,A40,H⟩ :=H
  replace H:(some t155)=some r:=H
  have A4:=Aside0.mk A40
  clear A40
  obtain rfl:=Option.some.inj H
  go_enter Tryz.func28,Tryz.ntmps28
  go_wp2_with (first | ((with_reducible refine gate_callee (f:=53) rfl ?_); refine goesL_ (some 9) rfl rfl Tryz.func53 (by kernel_rfl) rfl #[.int .i64 a0] rfl (by (try simp only [List.map_toArray,List.map_cons,List.map_nil]); first | done | rfl | (simp only [List.length_drop,List.length_take]; rfl)) ?_; (with_reducible refine (complineref20_Digits.calls k a0 t155 _ A4.out).mono ?_); rintro e w5 ⟨rfl,hb⟩; refine ⟨_,rfl,?_⟩; have n0_:=Aside0.mk (below_step (by repeat (first | (with_reducible first | exact HB.out | apply below_alloc | apply pw_below_drewN | apply below_drew1) | exact HB.out)) hb); clear HB; have HB:=n0_; clear n0_; (try clear hb); (try clear hb2); (try clear hk); (try clear hi)))
  go_ret
  exact ⟨by first | rfl | (simp [errW_none,errW_some] <;> rfl) | (simp [*,errW_none,errW_some] <;> rfl),by repeat (first | (with_reducible first | exact HB.out | apply below_alloc | apply pw_below_drewN | apply below_drew1) | exact HB.out)⟩
 ·rw [if_neg c3] at H
  have c3b0:(a1 == a0)=false:=beq_eq_false_iff_ne.mpr c3
  have c3b1:(a1 != a0)=true:=bne_iff_ne.mpr c3
  by_cases c6:a1=(wrap64 (a0+1))
  ·rw [if_pos c6] at H
   have c6b0:(a1 == (wrap64 (a0+1)))=true:=beq_iff_eq.mpr c6
   have c6b1:(a1 != (wrap64 (a0+1)))=false:=bne_eq_false_iff_eq.mpr c6
   clear c6
   replace H:=Option.bind_eq_some_iff.mp H
   obtain ⟨t156,A70,H⟩ :=H
   replace H:(if t156.size+1≤9223372036854775807 then ((complineref20_Digits.f k a1).bind fun t157=>(if (t156 ++ (⟨#[44]⟩:ByteArray)).size+t157.size≤9223372036854775807 then (some ((t156 ++ (⟨#[44]⟩:ByteArray)) ++ t157)) else (none))) else (none))=some r:=H
   have A7:=Aside0.mk A70
   clear A70
   by_cases c8:t156.size+1≤9223372036854775807
   ·rw [if_pos c8] at H
    have c8b0:=eq_true c8
    have c8b1:decide (t156.size+1≤9223372036854775807)=true:=decide_eq_true c8
    try have c8b2:(9223372036854775807 < t156.size+1)=False:=eq_false (Nat.not_lt.2 c8)
    replace H:=Option.bind_eq_some_iff.mp H
    obtain ⟨t157,A90,H⟩ :=H
    replace H:(if (t156 ++ (⟨#[44]⟩:ByteArray)).size+t157.size≤9223372036854775807 then (some ((t156 ++ (⟨#[44]⟩:ByteArray)) ++ t157)) else (none))=some r:=H
    have A9:=Aside0.mk A90
    clear A90
    by_cases c10:(t156 ++ (⟨#[44]⟩:ByteArray)).size+t157.size≤9223372036854775807
    ·rw [if_pos c10] at H
     have c10b0:=eq_true c10
     have c10b1:decide ((t156 ++ (⟨#[44]⟩:ByteArray)).size+t157.size≤9223372036854775807)=true:=decide_eq_true c10
     try have c10b2:(9223372036854775807 < (t156 ++ (⟨#[44]⟩:ByteArray)).size+t157.size)=False:=eq_false (Nat.not_lt.2 c10)
     have c10b3:(9223372036854775807 < t156.size+1+t157.size)=False:=eq_false (by have h_:=c10; have l0_:(⟨#[44]⟩:ByteArray).size=1:=rfl; try simp only [ByteArray.size_append,ByteArray.size_extract] at h_; omega)
     obtain rfl:=Option.some.inj H
     go_enter Tryz.func28,Tryz.ntmps28
     go_wp2_with (first | ((with_reducible refine gate_callee (f:=53) rfl ?_); refine goesL_ (some 15) rfl rfl Tryz.func53 (by kernel_rfl) rfl #[.int .i64 a0] rfl (by (try simp only [List.map_toArray,List.map_cons,List.map_nil]); first | done | rfl | (simp only [List.length_drop,List.length_take]; rfl)) ?_; (with_reducible refine (complineref20_Digits.calls k a0 t156 _ A7.out).mono ?_); rintro e w11 ⟨rfl,hb⟩; refine ⟨_,rfl,?_⟩; have n0_:=Aside0.mk (below_step (by repeat (first | (with_reducible first | exact HB.out | apply below_alloc | apply pw_below_drewN | apply below_drew1) | exact HB.out)) hb); clear HB; have HB:=n0_; clear n0_; (try clear hb); (try clear hb2); (try clear hk); (try clear hi)) | ((with_reducible refine gate_callee (f:=53) rfl ?_); refine goesL_ (some 18) rfl rfl Tryz.func53 (by kernel_rfl) rfl #[.int .i64 a1] rfl (by (try simp only [List.map_toArray,List.map_cons,List.map_nil]); first | done | rfl | (simp only [List.length_drop,List.length_take]; rfl)) ?_; (with_reducible refine (complineref20_Digits.calls k a1 t157 _ A9.out).mono ?_); rintro e w12 ⟨rfl,hb⟩; refine ⟨_,rfl,?_⟩; have n0_:=Aside0.mk (below_step (by repeat (first | (with_reducible first | exact HB.out | apply below_alloc | apply pw_below_drewN | apply below_drew1) | exact HB.out)) hb); clear HB; have HB:=n0_; clear n0_; (try clear hb); (try clear hb2); (try clear hk); (try clear hi)))
     go_ret
     exact ⟨by first | rfl | (simp [errW_none,errW_some] <;> rfl) | (simp [*,errW_none,errW_some] <;> rfl),by repeat (first | (with_reducible first | exact HB.out | apply below_alloc | apply pw_below_drewN | apply below_drew1) | exact HB.out)⟩
    ·rw [if_neg c10] at H
     exact absurd H (by simp)
   ·rw [if_neg c8] at H
    exact absurd H (by simp)
  ·rw [if_neg c6] at H
   have c6b0:(a1 == (wrap64 (a0+1)))=false:=beq_eq_false_iff_ne.mpr c6
   have c6b1:(a1 != (wrap64 (a0+1)))=true:=bne_iff_ne.mpr c6
   replace H:=Option.bind_eq_some_iff.mp H
   obtain ⟨t158,A130,H⟩ :=H
   replace H:(if t158.size+1≤9223372036854775807 then ((complineref20_Digits.f k a1).bind fun t159=>(if (t158 ++ (⟨#[45]⟩:ByteArray)).size+t159.size≤9223372036854775807 then (some ((t158 ++ (⟨#[45]⟩:ByteArray)) ++ t159)) else (none))) else (none))=some r:=H
   have A13:=Aside0.mk A130
   clear A130
   by_cases c14:t158.size+1≤9223372036854775807
   ·rw [if_pos c14] at H
    have c14b0:=eq_true c14
    have c14b1:decide (t158.size+1≤9223372036854775807)=true:=decide_eq_true c14
    try have c14b2:(9223372036854775807 < t158.size+1)=False:=eq_false (Nat.not_lt.2 c14)
    replace H:=Option.bind_eq_some_iff.mp H
    obtain ⟨t159,A150,H⟩ :=H
    replace H:(if (t158 ++ (⟨#[45]⟩:ByteArray)).size+t159.size≤9223372036854775807 then (some ((t158 ++ (⟨#[45]⟩:ByteArray)) ++ t159)) else (none))=some r:=H
    have A15:=Aside0.mk A150
    clear A150
    by_cases c16:(t158 ++ (⟨#[45]⟩:ByteArray)).size+t159.size≤9223372036854775807
    ·rw [if_pos c16] at H
     have c16b0:=eq_true c16
     have c16b1:decide ((t158 ++ (⟨#[45]⟩:ByteArray)).size+t159.size≤9223372036854775807)=true:=decide_eq_true c16
     try have c16b2:(9223372036854775807 < (t158 ++ (⟨#[45]⟩:ByteArray)).size+t159.size)=False:=eq_false (Nat.not_lt.2 c16)
     have c16b3:(9223372036854775807 < t158.size+1+t159.size)=False:=eq_false (by have h_:=c16; have l0_:(⟨#[45]⟩:ByteArray).size=1:=rfl; try simp only [ByteArray.size_append,ByteArray.size_extract] at h_; omega)
     obtain rfl:=Option.some.inj H
     go_enter Tryz.func28,Tryz.ntmps28
     go_wp2_with (first | ((with_reducible refine gate_callee (f:=53) rfl ?_); refine goesL_ (some 21) rfl rfl Tryz.func53 (by kernel_rfl) rfl #[.int .i64 a0] rfl (by (try simp only [List.map_toArray,List.map_cons,List.map_nil]); first | done | rfl | (simp only [List.length_drop,List.length_take]; rfl)) ?_; (with_reducible refine (complineref20_Digits.calls k a0 t158 _ A13.out).mono ?_); rintro e w17 ⟨rfl,hb⟩; refine ⟨_,rfl,?_⟩; have n0_:=Aside0.mk (below_step (by repeat (first | (with_reducible first | exact HB.out | apply below_alloc | apply pw_below_drewN | apply below_drew1) | exact HB.out)) hb); clear HB; have HB:=n0_; clear n0_; (try clear hb); (try clear hb2); (try clear hk); (try clear hi)) | ((with_reducible refine gate_callee (f:=53) rfl ?_); refine goesL_ (some 24) rfl rfl Tryz.func53 (by kernel_rfl) rfl #[.int .i64 a1] rfl (by (try simp only [List.map_toArray,List.map_cons,List.map_nil]); first | done | rfl | (simp only [List.length_drop,List.length_take]; rfl)) ?_; (with_reducible refine (complineref20_Digits.calls k a1 t159 _ A15.out).mono ?_); rintro e w18 ⟨rfl,hb⟩; refine ⟨_,rfl,?_⟩; have n0_:=Aside0.mk (below_step (by repeat (first | (with_reducible first | exact HB.out | apply below_alloc | apply pw_below_drewN | apply below_drew1) | exact HB.out)) hb); clear HB; have HB:=n0_; clear n0_; (try clear hb); (try clear hb2); (try clear hk); (try clear hi)))
     go_ret
     exact ⟨by first | rfl | (simp [errW_none,errW_some] <;> rfl) | (simp [*,errW_none,errW_some] <;> rfl),by repeat (first | (with_reducible first | exact HB.out | apply below_alloc | apply pw_below_drewN | apply below_drew1) | exact HB.out)⟩
    ·rw [if_neg c16] at H
     exact absurd H (by simp)
   ·rw [if_neg c14] at H
    exact absurd H (by simp)
def complineref20_Field.l0:Nat→ByteArray→Int→Bool→Int→Bool→Option (ByteArray × Int)
 | 0,_,_,_,_,_=>none
 | k+1,x7,x8,x9,x161000,x161001=>if x9=true then (if x7.toList=([]:List UInt8) then ((complineref20_end.f k x161000 x161001 x8).bind fun t164=>((complineref20_run.f k x8 t164).bind fun t165=>(if x7.size+t165.size≤9223372036854775807 then ((complineref18_First.f k x161000 x161001 (wrap64 (t164+1))).bind fun bt166=>(complineref20_Field.l0 k (x7 ++ t165) bt166.1 bt166.2 x161000 x161001)) else (none)))) else (if x7.size+1≤9223372036854775807 then ((complineref20_end.f k x161000 x161001 x8).bind fun t168=>((complineref20_run.f k x8 t168).bind fun t169=>(if (x7 ++ (⟨#[44]⟩:ByteArray)).size+t169.size≤9223372036854775807 then ((complineref18_First.f k x161000 x161001 (wrap64 (t168+1))).bind fun bt170=>(complineref20_Field.l0 k ((x7 ++ (⟨#[44]⟩:ByteArray)) ++ t169) bt170.1 bt170.2 x161000 x161001)) else (none)))) else (none))) else (some (x7,0))
def complineref20_Field.f (k:Nat)(a0_0:Int)(a0_1:Bool)(a1:Int):Option (ByteArray × Int):=(complineref18_Check.f k a0_0 a0_1 a1).bind fun t161=>(if t161=0 then (if a0_1=true then (some ((⟨#[42]⟩:ByteArray),0)) else ((complineref18_First.f k a0_0 a0_1 0).bind fun bt162=>(complineref20_Field.l0 k (⟨#[]⟩:ByteArray) bt162.1 bt162.2 a0_0 a0_1))) else (some ((⟨#[]⟩:ByteArray),t161)))
set_option maxHeartbeats 8000000 in
set_option maxRecDepth 100000 in
theorem complineref20_Field.calls (k:Nat)(a0_0:Int)(a0_1:Bool)(a1:Int)(r1:ByteArray)(r2:Int)(w:World)(h:complineref20_Field.f k a0_0 a0_1 a1=some (r1,r2)) :
  Calls Tryz.prog 11 #[.agg #[.int .u64 a0_0,.bool a0_1],.int .i64 a1] w fun e w'=>e=.returned (.tuple #[.string r1,.int .i64 r2])∧Below w.heap.size w w':=by
 have hu24:=Tryz.underlying24
 have HB:=Aside0.mk (Below.refl w.heap.size w)
 have H:((complineref18_Check.f k a0_0 a0_1 a1).bind fun t161=>(if t161=0 then (if a0_1=true then (some ((⟨#[42]⟩:ByteArray),0)) else ((complineref18_First.f k a0_0 a0_1 0).bind fun bt162=>(complineref20_Field.l0 k (⟨#[]⟩:ByteArray) bt162.1 bt162.2 a0_0 a0_1))) else (some ((⟨#[]⟩:ByteArray),t161))))=some (r1,r2):=h
 clear h
 replace H:=Option.bind_eq_some_iff.mp H
 obtain ⟨t161,A30,H⟩ :=H
 replace H:(if t161=0 then (if a0_1=true then (some ((⟨#[42]⟩:ByteArray),0)) else ((complineref18_First.f k a0_0 a0_1 0).bind fun bt162=>(complineref20_Field.l0 k (⟨#[]⟩:ByteArray) bt162.1 bt162.2 a0_0 a0_1))) else (some ((⟨#[]⟩:ByteArray),t161)))=some (r1,r2):=H
 have A3:=Aside0.mk A30
 clear A30
 by_cases c4:t161=0
 ·rw [if_pos c4] at H
  have c4b0:(t161 == 0)=true:=beq_iff_eq.mpr c4
  have c4b1:(t161 != 0)=false:=bne_eq_false_iff_eq.mpr c4
  clear c4
  by_cases c5:a0_1=true
  ·subst c5
   have H1:(some ((⟨#[42]⟩:ByteArray),0))=some (r1,r2):=by rw [if_pos rfl] at H; exact H
   clear H
   have H:=H1
   clear H1
   simp only [Option.some.injEq,Prod.mk.injEq] at H
   obtain ⟨rfl,rfl⟩ :=H
   go_enter Tryz.func11,Tryz.ntmps11
   go_wp2_with (first | ((with_reducible refine gate_dst (N:=2) rfl ?_); refine box_event ?hg (N:=2) ?hd (cs:=#[.int .u64 a0_0,.bool true]) (t:=24) ?hr ?_; (case hd=>rfl); (case hg=>rfl); (case hr=>first | (go_simp; done) | (go_simp; rfl)); intro gb160 hg w6 hbox hb; have n0_:=Aside0.mk (below_step (by repeat (first | (with_reducible first | exact HB.out | apply below_alloc | apply pw_below_drewN | apply below_drew1) | exact HB.out)) hb); have n1_:=Aside0.mk (hbox); have n2_:=Aside0.mk ((by rw [hg]; exact (below_size (by repeat (first | (with_reducible first | exact HB.out | apply below_alloc | apply pw_below_drewN | apply below_drew1) | exact HB.out))):w.heap.size≤gb160)); have n3_:=Aside0.mk ((by rw [hg]; exact (below_size (by repeat (first | (with_reducible first | exact HB.out | apply below_alloc | apply pw_below_drewN | apply below_drew1) | exact HB.out))):w.heap.size≤gb160)); clear HB; have HB:=n0_; have BK160:=n1_; have GW160:=n2_; have GE160:=n3_; clear n0_ n1_ n2_ n3_; clear hb hbox hg; have hcz7_0:w6.cell? ⟨gb160,0,none⟩=some (.int .u64 a0_0):=(blk_cell BK160.out 0).trans rfl; have hcz7_1:w6.cell? ⟨gb160,1,none⟩=some (.bool true):=(blk_cell BK160.out 1).trans rfl; have hfz7_0:=blk_frozen BK160.out 0; have hfz7_1:=blk_frozen BK160.out 1) | ((with_reducible refine gate_callee (f:=25) rfl ?_); refine goesL_ (some 13) rfl rfl Tryz.func25 (by kernel_rfl) rfl #[.agg #[.int .u64 a0_0,.bool true],.int .i64 a1] rfl (by (try simp only [List.map_toArray,List.map_cons,List.map_nil]); first | done | rfl | (simp only [List.length_drop,List.length_take]; rfl)) ?_; (with_reducible refine (complineref18_Check.calls k a0_0 true a1 t161 _ A3.out).mono ?_); rintro e w8 ⟨rfl,hb⟩; refine ⟨_,rfl,?_⟩; have n0_:=Aside0.mk (blk_below (g:=gb160) (o:=.cells #[.int .u64 a0_0,.bool true] 24 (0,0)) (by (with_reducible repeat (first | refine blk_drewN ?_ _ | refine blk_drew ?_ | refine blk_alloc ?_ _)); exact BK160.out) hb); have n1_:=Aside0.mk (below_step (by repeat (first | (with_reducible first | exact HB.out | apply below_alloc | apply pw_below_drewN | apply below_drew1 | refine below_set ?_ GE160.out) | exact HB.out)) hb); clear BK160; clear HB; have BK160:=n0_; have HB:=n1_; clear n0_ n1_; (try clear hb); (try clear hb2); (try clear hk); (try clear hi); have hcz9_0:w8.cell? ⟨gb160,0,none⟩=some (.int .u64 a0_0):=(blk_cell BK160.out 0).trans rfl; have hcz9_1:w8.cell? ⟨gb160,1,none⟩=some (.bool true):=(blk_cell BK160.out 1).trans rfl; have hfz9_0:=blk_frozen BK160.out 0; have hfz9_1:=blk_frozen BK160.out 1))
   go_ret2
   exact ⟨by first | rfl | (simp [errW_none,errW_some] <;> rfl) | (simp [*,errW_none,errW_some] <;> rfl),by repeat (first | (with_reducible first | exact HB.out | apply below_alloc | apply pw_below_drewN | apply below_drew1 | refine below_set ?_ GE160.out) | exact HB.out)⟩
  ·replace c5:=Bool.eq_false_iff.mpr c5
   subst c5
   have H1:((complineref18_First.f k a0_0 false 0).bind fun bt162=>(complineref20_Field.l0 k (⟨#[]⟩:ByteArray) bt162.1 bt162.2 a0_0 false))=some (r1,r2):=by rw [if_neg (show ¬ (false=true) by decide)] at H; exact H
   clear H
   have H:=H1
   clear H1
   replace H:=Option.bind_eq_some_iff.mp H
   obtain ⟨⟨t162,t163⟩,A100,H⟩ :=H
   replace H:(complineref20_Field.l0 k (⟨#[]⟩:ByteArray) t162 t163 a0_0 false)=some (r1,r2):=H
   have A10:=Aside0.mk A100
   clear A100
   have H':=Aside0.mk H
   clear H
   go_enter Tryz.func11,Tryz.ntmps11
   go_wp2_with (first | ((with_reducible refine gate_dst (N:=2) rfl ?_); refine box_event ?hg (N:=2) ?hd (cs:=#[.int .u64 a0_0,.bool false]) (t:=24) ?hr ?_; (case hd=>rfl); (case hg=>rfl); (case hr=>first | (go_simp; done) | (go_simp; rfl)); intro gb160 hg w11 hbox hb; have n0_:=Aside0.mk (below_step (by repeat (first | (with_reducible first | exact HB.out | apply below_alloc | apply pw_below_drewN | apply below_drew1) | exact HB.out)) hb); have n1_:=Aside0.mk (hbox); have n2_:=Aside0.mk ((by rw [hg]; exact (below_size (by repeat (first | (with_reducible first | exact HB.out | apply below_alloc | apply pw_below_drewN | apply below_drew1) | exact HB.out))):w.heap.size≤gb160)); have n3_:=Aside0.mk ((by rw [hg]; exact (below_size (by repeat (first | (with_reducible first | exact HB.out | apply below_alloc | apply pw_below_drewN | apply below_drew1) | exact HB.out))):w.heap.size≤gb160)); clear HB; have HB:=n0_; have BK160:=n1_; have GW160:=n2_; have GE160:=n3_; clear n0_ n1_ n2_ n3_; clear hb hbox hg; have hcz12_0:w11.cell? ⟨gb160,0,none⟩=some (.int .u64 a0_0):=(blk_cell BK160.out 0).trans rfl; have hcz12_1:w11.cell? ⟨gb160,1,none⟩=some (.bool false):=(blk_cell BK160.out 1).trans rfl; have hfz12_0:=blk_frozen BK160.out 0; have hfz12_1:=blk_frozen BK160.out 1) | ((with_reducible refine gate_callee (f:=25) rfl ?_); refine goesL_ (some 13) rfl rfl Tryz.func25 (by kernel_rfl) rfl #[.agg #[.int .u64 a0_0,.bool false],.int .i64 a1] rfl (by (try simp only [List.map_toArray,List.map_cons,List.map_nil]); first | done | rfl | (simp only [List.length_drop,List.length_take]; rfl)) ?_; (with_reducible refine (complineref18_Check.calls k a0_0 false a1 t161 _ A3.out).mono ?_); rintro e w13 ⟨rfl,hb⟩; refine ⟨_,rfl,?_⟩; have n0_:=Aside0.mk (blk_below (g:=gb160) (o:=.cells #[.int .u64 a0_0,.bool false] 24 (0,0)) (by (with_reducible repeat (first | refine blk_drewN ?_ _ | refine blk_drew ?_ | refine blk_alloc ?_ _)); exact BK160.out) hb); have n1_:=Aside0.mk (below_step (by repeat (first | (with_reducible first | exact HB.out | apply below_alloc | apply pw_below_drewN | apply below_drew1 | refine below_set ?_ GE160.out) | exact HB.out)) hb); clear BK160; clear HB; have BK160:=n0_; have HB:=n1_; clear n0_ n1_; (try clear hb); (try clear hb2); (try clear hk); (try clear hi); have hcz14_0:w13.cell? ⟨gb160,0,none⟩=some (.int .u64 a0_0):=(blk_cell BK160.out 0).trans rfl; have hcz14_1:w13.cell? ⟨gb160,1,none⟩=some (.bool false):=(blk_cell BK160.out 1).trans rfl; have hfz14_0:=blk_frozen BK160.out 0; have hfz14_1:=blk_frozen BK160.out 1) | ((with_reducible refine gate_callee (f:=26) rfl ?_); refine goesL_ (some 21) rfl rfl Tryz.func26 (by kernel_rfl) rfl #[.agg #[.int .u64 a0_0,.bool false],.int .i64 0] rfl (by (try simp only [List.map_toArray,List.map_cons,List.map_nil]); first | done | rfl | (simp only [List.length_drop,List.length_take]; rfl)) ?_; (with_reducible refine (complineref18_First.calls k a0_0 false 0 t162 t163 _ A10.out).mono ?_); rintro e w15 ⟨rfl,hb⟩; refine ⟨_,rfl,?_⟩; have n0_:=Aside0.mk (blk_below (g:=gb160) (o:=.cells #[.int .u64 a0_0,.bool false] 24 (0,0)) (by (with_reducible repeat (first | refine blk_drewN ?_ _ | refine blk_drew ?_ | refine blk_alloc ?_ _)); exact BK160.out) hb); have n1_:=Aside0.mk (below_step (by repeat (first | (with_reducible first | exact HB.out | apply below_alloc | apply pw_below_drewN | apply below_drew1 | refine below_set ?_ GE160.out) | exact HB.out)) hb); clear BK160; clear HB; have BK160:=n0_; have HB:=n1_; clear n0_ n1_; (try clear hb); (try clear hb2); (try clear hk); (try clear hi)))
   go_loopg [7,8,9] k (fun kq v7 v8 v9 w'=>∃ (x7_1:ByteArray) (x8_1:Int) (x9_1:Bool),v7=.string x7_1∧v8=.int .i64 x8_1∧v9=.bool x9_1∧Aside0 (complineref20_Field.l0 kq x7_1 x8_1 x9_1 a0_0 false=some (r1,r2))∧Aside0 (kq≤k)∧Aside0 (w'.heap[gb160]?=some (.cells #[.int .u64 a0_0,.bool false] 24 (0,0)))∧Aside0 (Below w.heap.size w w'))
   case atStart=>exact ⟨((⟨#[]⟩:ByteArray)),(t162),(t163),(by first | rfl | (simp; done) | (simp [*]; done)),(by first | rfl | (simp; done) | (simp [*]; done)),(by first | rfl | (simp; done) | (simp [*]; done)),H',⟨Nat.le_refl _⟩,⟨by (with_reducible repeat (first | refine blk_drewN ?_ _ | refine blk_drew ?_ | refine blk_alloc ?_ _)); exact BK160.out⟩,⟨by repeat (first | (with_reducible first | exact HB.out | apply below_alloc | apply pw_below_drewN | apply below_drew1 | refine below_set ?_ GE160.out) | exact HB.out)⟩⟩
   case round=>
    clear H'
    try clear c1
    try clear c2
    try clear p2
    try clear c4
    try clear c4b0
    try clear c4b1
    try clear c5
    try clear c11
    try clear hcz12_0
    try clear hcz12_1
    try clear hcz14_0
    try clear hcz14_1
    try clear hcz7_0
    try clear hcz7_1
    try clear hcz9_0
    try clear hcz9_1
    try clear hfz12_0
    try clear hfz12_1
    try clear hfz14_0
    try clear hfz14_1
    try clear hfz7_0
    try clear hfz7_1
    try clear hfz9_0
    try clear hfz9_1
    obtain ⟨x7_1,x8_1,x9_1,rfl,rfl,rfl,HA,HK1,BK160,HB⟩ :=hrel
    cases gk with
    | zero=>exact absurd HA.out (by simp [complineref20_Field.l0])
    | succ k1=>
     have H:=HA.out
     clear HA
     simp only [complineref20_Field.l0] at H
     by_cases c16:x9_1=true
     ·subst c16
      have H1:(if x7_1.toList=([]:List UInt8) then ((complineref20_end.f k1 a0_0 false x8_1).bind fun t164=>((complineref20_run.f k1 x8_1 t164).bind fun t165=>(if x7_1.size+t165.size≤9223372036854775807 then ((complineref18_First.f k1 a0_0 false (wrap64 (t164+1))).bind fun bt166=>(complineref20_Field.l0 k1 (x7_1 ++ t165) bt166.1 bt166.2 a0_0 false)) else (none)))) else (if x7_1.size+1≤9223372036854775807 then ((complineref20_end.f k1 a0_0 false x8_1).bind fun t168=>((complineref20_run.f k1 x8_1 t168).bind fun t169=>(if (x7_1 ++ (⟨#[44]⟩:ByteArray)).size+t169.size≤9223372036854775807 then ((complineref18_First.f k1 a0_0 false (wrap64 (t168+1))).bind fun bt170=>(complineref20_Field.l0 k1 ((x7_1 ++ (⟨#[44]⟩:ByteArray)) ++ t169) bt170.1 bt170.2 a0_0 false)) else (none)))) else (none)))=some (r1,r2):=by rw [if_pos rfl] at H; exact H
      clear H
      have H:=H1
      clear H1
      by_cases c17:x7_1.toList=([]:List UInt8)
      ·rw [if_pos c17] at H
       have c17b0:(x7_1.toList == ([]:List UInt8))=true:=beq_iff_eq.mpr c17
       have c17b1:(x7_1.toList != ([]:List UInt8))=false:=bne_eq_false_iff_eq.mpr c17
       clear c17
       replace H:=Option.bind_eq_some_iff.mp H
       obtain ⟨t164,A180,H⟩ :=H
       replace H:((complineref20_run.f k1 x8_1 t164).bind fun t165=>(if x7_1.size+t165.size≤9223372036854775807 then ((complineref18_First.f k1 a0_0 false (wrap64 (t164+1))).bind fun bt166=>(complineref20_Field.l0 k1 (x7_1 ++ t165) bt166.1 bt166.2 a0_0 false)) else (none)))=some (r1,r2):=H
       have A18:=Aside0.mk A180
       clear A180
       replace H:=Option.bind_eq_some_iff.mp H
       obtain ⟨t165,A190,H⟩ :=H
       replace H:(if x7_1.size+t165.size≤9223372036854775807 then ((complineref18_First.f k1 a0_0 false (wrap64 (t164+1))).bind fun bt166=>(complineref20_Field.l0 k1 (x7_1 ++ t165) bt166.1 bt166.2 a0_0 false)) else (none))=some (r1,r2):=H
       have A19:=Aside0.mk A190
       clear A190
       by_cases c20:x7_1.size+t165.size≤9223372036854775807
       ·rw [if_pos c20] at H
        have c20b0:=eq_true c20
        have c20b1:decide (x7_1.size+t165.size≤9223372036854775807)=true:=decide_eq_true c20
        try have c20b2:(9223372036854775807 < x7_1.size+t165.size)=False:=eq_false (Nat.not_lt.2 c20)
        replace H:=Option.bind_eq_some_iff.mp H
        obtain ⟨⟨t166,t167⟩,A210,H⟩ :=H
        replace H:(complineref20_Field.l0 k1 (x7_1 ++ t165) t166 t167 a0_0 false)=some (r1,r2):=H
        have A21:=Aside0.mk A210
        clear A210
        have H':=Aside0.mk H
        clear H
        have hcz22_0:wr.cell? ⟨gb160,0,none⟩=some (.int .u64 a0_0):=(blk_cell BK160.out 0).trans rfl
        have hcz22_1:wr.cell? ⟨gb160,1,none⟩=some (.bool false):=(blk_cell BK160.out 1).trans rfl
        have hfz22_0:=blk_frozen BK160.out 0
        have hfz22_1:=blk_frozen BK160.out 1
        go_wp2_with (first | ((with_reducible refine gate_callee (f:=27) rfl ?_); refine goesL_ (some 31) rfl rfl Tryz.func27 (by kernel_rfl) rfl #[.agg #[.int .u64 a0_0,.bool false],.int .i64 x8_1] rfl (by (try simp only [List.map_toArray,List.map_cons,List.map_nil]); first | done | rfl | (simp only [List.length_drop,List.length_take]; rfl)) ?_; (with_reducible refine (complineref20_end.calls k1 a0_0 false x8_1 t164 _ A18.out).mono ?_); rintro e w23 ⟨rfl,hb⟩; refine ⟨_,rfl,?_⟩; have n0_:=Aside0.mk (blk_below (g:=gb160) (o:=.cells #[.int .u64 a0_0,.bool false] 24 (0,0)) (by (with_reducible repeat (first | refine blk_drewN ?_ _ | refine blk_drew ?_ | refine blk_alloc ?_ _)); exact BK160.out) hb); have n1_:=Aside0.mk (below_step (by repeat (first | (with_reducible first | exact HB.out | apply below_alloc | apply pw_below_drewN | apply below_drew1 | refine below_set ?_ GE160.out) | exact HB.out)) hb); clear BK160; clear HB; have BK160:=n0_; have HB:=n1_; clear n0_ n1_; (try clear hb); (try clear hb2); (try clear hk); (try clear hi)) | ((with_reducible refine gate_callee (f:=28) rfl ?_); refine goesL_ (some 35) rfl rfl Tryz.func28 (by kernel_rfl) rfl #[.int .i64 x8_1,.int .i64 t164] rfl (by (try simp only [List.map_toArray,List.map_cons,List.map_nil]); first | done | rfl | (simp only [List.length_drop,List.length_take]; rfl)) ?_; (with_reducible refine (complineref20_run.calls k1 x8_1 t164 t165 _ A19.out).mono ?_); rintro e w24 ⟨rfl,hb⟩; refine ⟨_,rfl,?_⟩; have n0_:=Aside0.mk (blk_below (g:=gb160) (o:=.cells #[.int .u64 a0_0,.bool false] 24 (0,0)) (by (with_reducible repeat (first | refine blk_drewN ?_ _ | refine blk_drew ?_ | refine blk_alloc ?_ _)); exact BK160.out) hb); have n1_:=Aside0.mk (below_step (by repeat (first | (with_reducible first | exact HB.out | apply below_alloc | apply pw_below_drewN | apply below_drew1 | refine below_set ?_ GE160.out) | exact HB.out)) hb); clear BK160; clear HB; have BK160:=n0_; have HB:=n1_; clear n0_ n1_; (try clear hb); (try clear hb2); (try clear hk); (try clear hi); have hcz25_0:w24.cell? ⟨gb160,0,none⟩=some (.int .u64 a0_0):=(blk_cell BK160.out 0).trans rfl; have hcz25_1:w24.cell? ⟨gb160,1,none⟩=some (.bool false):=(blk_cell BK160.out 1).trans rfl; have hfz25_0:=blk_frozen BK160.out 0; have hfz25_1:=blk_frozen BK160.out 1) | ((with_reducible refine gate_callee (f:=26) rfl ?_); refine goesL_ (some 41) rfl rfl Tryz.func26 (by kernel_rfl) rfl #[.agg #[.int .u64 a0_0,.bool false],.int .i64 (wrap64 (t164+1))] rfl (by (try simp only [List.map_toArray,List.map_cons,List.map_nil]); first | done | rfl | (simp only [List.length_drop,List.length_take]; rfl)) ?_; (with_reducible refine (complineref18_First.calls k1 a0_0 false (wrap64 (t164+1)) t166 t167 _ A21.out).mono ?_); rintro e w26 ⟨rfl,hb⟩; refine ⟨_,rfl,?_⟩; have n0_:=Aside0.mk (blk_below (g:=gb160) (o:=.cells #[.int .u64 a0_0,.bool false] 24 (0,0)) (by (with_reducible repeat (first | refine blk_drewN ?_ _ | refine blk_drew ?_ | refine blk_alloc ?_ _)); exact BK160.out) hb); have n1_:=Aside0.mk (below_step (by repeat (first | (with_reducible first | exact HB.out | apply below_alloc | apply pw_below_drewN | apply below_drew1 | refine below_set ?_ GE160.out) | exact HB.out)) hb); clear BK160; clear HB; have BK160:=n0_; have HB:=n1_; clear n0_ n1_; (try clear hb); (try clear hb2); (try clear hk); (try clear hi)))
        go_roundg k1
        case measure=>have:=HK1.out; omega
        case rel=>exact ⟨(x7_1 ++ t165),(t166),(t167),(by first | rfl | (simp; done) | (simp [*]; done)),(by first | rfl | (simp; done) | (simp [*]; done)),(by first | rfl | (simp; done) | (simp [*]; done)),H',⟨by have:=HK1.out; omega⟩,⟨by (with_reducible repeat (first | refine blk_drewN ?_ _ | refine blk_drew ?_ | refine blk_alloc ?_ _)); exact BK160.out⟩,⟨by repeat (first | (with_reducible first | exact HB.out | apply below_alloc | apply pw_below_drewN | apply below_drew1 | refine below_set ?_ GE160.out) | exact HB.out)⟩⟩
       ·rw [if_neg c20] at H
        exact absurd H (by simp)
      ·rw [if_neg c17] at H
       have c17b0:(x7_1.toList == ([]:List UInt8))=false:=beq_eq_false_iff_ne.mpr c17
       have c17b1:(x7_1.toList != ([]:List UInt8))=true:=bne_iff_ne.mpr c17
       by_cases c27:x7_1.size+1≤9223372036854775807
       ·rw [if_pos c27] at H
        have c27b0:=eq_true c27
        have c27b1:decide (x7_1.size+1≤9223372036854775807)=true:=decide_eq_true c27
        try have c27b2:(9223372036854775807 < x7_1.size+1)=False:=eq_false (Nat.not_lt.2 c27)
        replace H:=Option.bind_eq_some_iff.mp H
        obtain ⟨t168,A280,H⟩ :=H
        replace H:((complineref20_run.f k1 x8_1 t168).bind fun t169=>(if (x7_1 ++ (⟨#[44]⟩:ByteArray)).size+t169.size≤9223372036854775807 then ((complineref18_First.f k1 a0_0 false (wrap64 (t168+1))).bind fun bt170=>(complineref20_Field.l0 k1 ((x7_1 ++ (⟨#[44]⟩:ByteArray)) ++ t169) bt170.1 bt170.2 a0_0 false)) else (none)))=some (r1,r2):=H
        have A28:=Aside0.mk A280
        clear A280
        replace H:=Option.bind_eq_some_iff.mp H
        obtain ⟨t169,A290,H⟩ :=H
        replace H:(if (x7_1 ++ (⟨#[44]⟩:ByteArray)).size+t169.size≤9223372036854775807 then ((complineref18_First.f k1 a0_0 false (wrap64 (t168+1))).bind fun bt170=>(complineref20_Field.l0 k1 ((x7_1 ++ (⟨#[44]⟩:ByteArray)) ++ t169) bt170.1 bt170.2 a0_0 false)) else (none))=some (r1,r2):=H
        have A29:=Aside0.mk A290
        clear A290
        by_cases c30:(x7_1 ++ (⟨#[44]⟩:ByteArray)).size+t169.size≤9223372036854775807
        ·rw [if_pos c30] at H
         have c30b0:=eq_true c30
         have c30b1:decide ((x7_1 ++ (⟨#[44]⟩:ByteArray)).size+t169.size≤9223372036854775807)=true:=decide_eq_true c30
         try have c30b2:(9223372036854775807 < (x7_1 ++ (⟨#[44]⟩:ByteArray)).size+t169.size)=False:=eq_false (Nat.not_lt.2 c30)
         have c30b3:(9223372036854775807 < x7_1.size+1+t169.size)=False:=eq_false (by have h_:=c30; have l0_:(⟨#[44]⟩:ByteArray).size=1:=rfl; try simp only [ByteArray.size_append,ByteArray.size_extract] at h_; omega)
         replace H:=Option.bind_eq_some_iff.mp H
         obtain ⟨⟨t170,t171⟩,A310,H⟩ :=H
         replace H:(complineref20_Field.l0 k1 ((x7_1 ++ (⟨#[44]⟩:ByteArray)) ++ t169) t170 t171 a0_0 false)=some (r1,r2):=H
         have A31:=Aside0.mk A310
         clear A310
         have H':=Aside0.mk H
         clear H
         have hcz32_0:wr.cell? ⟨gb160,0,none⟩=some (.int .u64 a0_0):=(blk_cell BK160.out 0).trans rfl
         have hcz32_1:wr.cell? ⟨gb160,1,none⟩=some (.bool false):=(blk_cell BK160.out 1).trans rfl
         have hfz32_0:=blk_frozen BK160.out 0
         have hfz32_1:=blk_frozen BK160.out 1
         go_wp2_with (first | ((with_reducible refine gate_callee (f:=27) rfl ?_); refine goesL_ (some 31) rfl rfl Tryz.func27 (by kernel_rfl) rfl #[.agg #[.int .u64 a0_0,.bool false],.int .i64 x8_1] rfl (by (try simp only [List.map_toArray,List.map_cons,List.map_nil]); first | done | rfl | (simp only [List.length_drop,List.length_take]; rfl)) ?_; (with_reducible refine (complineref20_end.calls k1 a0_0 false x8_1 t168 _ A28.out).mono ?_); rintro e w33 ⟨rfl,hb⟩; refine ⟨_,rfl,?_⟩; have n0_:=Aside0.mk (blk_below (g:=gb160) (o:=.cells #[.int .u64 a0_0,.bool false] 24 (0,0)) (by (with_reducible repeat (first | refine blk_drewN ?_ _ | refine blk_drew ?_ | refine blk_alloc ?_ _)); exact BK160.out) hb); have n1_:=Aside0.mk (below_step (by repeat (first | (with_reducible first | exact HB.out | apply below_alloc | apply pw_below_drewN | apply below_drew1 | refine below_set ?_ GE160.out) | exact HB.out)) hb); clear BK160; clear HB; have BK160:=n0_; have HB:=n1_; clear n0_ n1_; (try clear hb); (try clear hb2); (try clear hk); (try clear hi)) | ((with_reducible refine gate_callee (f:=28) rfl ?_); refine goesL_ (some 35) rfl rfl Tryz.func28 (by kernel_rfl) rfl #[.int .i64 x8_1,.int .i64 t168] rfl (by (try simp only [List.map_toArray,List.map_cons,List.map_nil]); first | done | rfl | (simp only [List.length_drop,List.length_take]; rfl)) ?_; (with_reducible refine (complineref20_run.calls k1 x8_1 t168 t169 _ A29.out).mono ?_); rintro e w34 ⟨rfl,hb⟩; refine ⟨_,rfl,?_⟩; have n0_:=Aside0.mk (blk_below (g:=gb160) (o:=.cells #[.int .u64 a0_0,.bool false] 24 (0,0)) (by (with_reducible repeat (first | refine blk_drewN ?_ _ | refine blk_drew ?_ | refine blk_alloc ?_ _)); exact BK160.out) hb); have n1_:=Aside0.mk (below_step (by repeat (first | (with_reducible first | exact HB.out | apply below_alloc | apply pw_below_drewN | apply below_drew1 | refine below_set ?_ GE160.out) | exact HB.out)) hb); clear BK160; clear HB; have BK160:=n0_; have HB:=n1_; clear n0_ n1_; (try clear hb); (try clear hb2); (try clear hk); (try clear hi); have hcz35_0:w34.cell? ⟨gb160,0,none⟩=some (.int .u64 a0_0):=(blk_cell BK160.out 0).trans rfl; have hcz35_1:w34.cell? ⟨gb160,1,none⟩=some (.bool false):=(blk_cell BK160.out 1).trans rfl; have hfz35_0:=blk_frozen BK160.out 0; have hfz35_1:=blk_frozen BK160.out 1) | ((with_reducible refine gate_callee (f:=26) rfl ?_); refine goesL_ (some 41) rfl rfl Tryz.func26 (by kernel_rfl) rfl #[.agg #[.int .u64 a0_0,.bool false],.int .i64 (wrap64 (t168+1))] rfl (by (try simp only [List.map_toArray,List.map_cons,List.map_nil]); first | done | rfl | (simp only [List.length_drop,List.length_take]; rfl)) ?_; (with_reducible refine (complineref18_First.calls k1 a0_0 false (wrap64 (t168+1)) t170 t171 _ A31.out).mono ?_); rintro e w36 ⟨rfl,hb⟩; refine ⟨_,rfl,?_⟩; have n0_:=Aside0.mk (blk_below (g:=gb160) (o:=.cells #[.int .u64 a0_0,.bool false] 24 (0,0)) (by (with_reducible repeat (first | refine blk_drewN ?_ _ | refine blk_drew ?_ | refine blk_alloc ?_ _)); exact BK160.out) hb); have n1_:=Aside0.mk (below_step (by repeat (first | (with_reducible first | exact HB.out | apply below_alloc | apply pw_below_drewN | apply below_drew1 | refine below_set ?_ GE160.out) | exact HB.out)) hb); clear BK160; clear HB; have BK160:=n0_; have HB:=n1_; clear n0_ n1_; (try clear hb); (try clear hb2); (try clear hk); (try clear hi)))
         go_roundg k1
         case measure=>have:=HK1.out; omega
         case rel=>exact ⟨((x7_1 ++ (⟨#[44]⟩:ByteArray)) ++ t169),(t170),(t171),(by first | rfl | (simp; done) | (simp [*]; done)),(by first | rfl | (simp; done) | (simp [*]; done)),(by first | rfl | (simp; done) | (simp [*]; done)),H',⟨by have:=HK1.out; omega⟩,⟨by (with_reducible repeat (first | refine blk_drewN ?_ _ | refine blk_drew ?_ | refine blk_alloc ?_ _)); exact BK160.out⟩,⟨by repeat (first | (with_reducible first | exact HB.out | apply below_alloc | apply pw_below_drewN | apply below_drew1 | refine below_set ?_ GE160.out) | exact HB.out)⟩⟩
        ·rw [if_neg c30] at H
         exact absurd H (by simp)
       ·rw [if_neg c27] at H
        exact absurd H (by simp)
     ·replace c16:=Bool.eq_false_iff.mpr c16
      subst c16
      have H1:(some (x7_1,0))=some (r1,r2):=by rw [if_neg (show ¬ (false=true) by decide)] at H; exact H
      clear H
      have H:=H1
      clear H1
      simp only [Option.some.injEq,Prod.mk.injEq] at H
      obtain ⟨rfl,rfl⟩ :=H
      go_wp2
      go_ret2
      exact ⟨by first | rfl | (simp [errW_none,errW_some] <;> rfl) | (simp [*,errW_none,errW_some] <;> rfl),by repeat (first | (with_reducible first | exact HB.out | apply below_alloc | apply pw_below_drewN | apply below_drew1 | refine below_set ?_ GE160.out) | exact HB.out)⟩
 ·rw [if_neg c4] at H
  have c4b0:(t161 == 0)=false:=beq_eq_false_iff_ne.mpr c4
  have c4b1:(t161 != 0)=true:=bne_iff_ne.mpr c4
  simp only [Option.some.injEq,Prod.mk.injEq] at H
  obtain ⟨rfl,rfl⟩ :=H
  go_enter Tryz.func11,Tryz.ntmps11
  go_wp2_with (first | ((with_reducible refine gate_dst (N:=2) rfl ?_); refine box_event ?hg (N:=2) ?hd (cs:=#[.int .u64 a0_0,.bool a0_1]) (t:=24) ?hr ?_; (case hd=>rfl); (case hg=>rfl); (case hr=>first | (go_simp; done) | (go_simp; rfl)); intro gb160 hg w37 hbox hb; have n0_:=Aside0.mk (below_step (by repeat (first | (with_reducible first | exact HB.out | apply below_alloc | apply pw_below_drewN | apply below_drew1) | exact HB.out)) hb); have n1_:=Aside0.mk (hbox); have n2_:=Aside0.mk ((by rw [hg]; exact (below_size (by repeat (first | (with_reducible first | exact HB.out | apply below_alloc | apply pw_below_drewN | apply below_drew1) | exact HB.out))):w.heap.size≤gb160)); have n3_:=Aside0.mk ((by rw [hg]; exact (below_size (by repeat (first | (with_reducible first | exact HB.out | apply below_alloc | apply pw_below_drewN | apply below_drew1) | exact HB.out))):w.heap.size≤gb160)); clear HB; have HB:=n0_; have BK160:=n1_; have GW160:=n2_; have GE160:=n3_; clear n0_ n1_ n2_ n3_; clear hb hbox hg; have hcz38_0:w37.cell? ⟨gb160,0,none⟩=some (.int .u64 a0_0):=(blk_cell BK160.out 0).trans rfl; have hcz38_1:w37.cell? ⟨gb160,1,none⟩=some (.bool a0_1):=(blk_cell BK160.out 1).trans rfl; have hfz38_0:=blk_frozen BK160.out 0; have hfz38_1:=blk_frozen BK160.out 1) | ((with_reducible refine gate_callee (f:=25) rfl ?_); refine goesL_ (some 13) rfl rfl Tryz.func25 (by kernel_rfl) rfl #[.agg #[.int .u64 a0_0,.bool a0_1],.int .i64 a1] rfl (by (try simp only [List.map_toArray,List.map_cons,List.map_nil]); first | done | rfl | (simp only [List.length_drop,List.length_take]; rfl)) ?_; (with_reducible refine (complineref18_Check.calls k a0_0 a0_1 a1 t161 _ A3.out).mono ?_); rintro e w39 ⟨rfl,hb⟩; refine ⟨_,rfl,?_⟩; have n0_:=Aside0.mk (blk_below (g:=gb160) (o:=.cells #[.int .u64 a0_0,.bool a0_1] 24 (0,0)) (by (with_reducible repeat (first | refine blk_drewN ?_ _ | refine blk_drew ?_ | refine blk_alloc ?_ _)); exact BK160.out) hb); have n1_:=Aside0.mk (below_step (by repeat (first | (with_reducible first | exact HB.out | apply below_alloc | apply pw_below_drewN | apply below_drew1 | refine below_set ?_ GE160.out) | exact HB.out)) hb); clear BK160; clear HB; have BK160:=n0_; have HB:=n1_; clear n0_ n1_; (try clear hb); (try clear hb2); (try clear hk); (try clear hi)))
  go_ret2
  exact ⟨by first | rfl | (simp [errW_none,errW_some] <;> rfl) | (simp [*,errW_none,errW_some] <;> rfl),by repeat (first | (with_reducible first | exact HB.out | apply below_alloc | apply pw_below_drewN | apply below_drew1 | refine below_set ?_ GE160.out) | exact HB.out)⟩
def complinelaw20_ShowFields.f (k:Nat)(a0_0:Int)(a0_1:Bool)(a1:Int):Option (Bool):=(complinelaw20_works.f).bind fun t173=>(if t173=true then ((show_Field.f a0_0 a0_1 a1).bind fun bt174=>((complineref20_Field.f k a0_0 a0_1 a1).bind fun bt176=>(if bt174.1.toList=bt176.1.toList then (some (bt174.2 == bt176.2)) else (some false)))) else (some false))
set_option maxHeartbeats 8000000 in
set_option maxRecDepth 100000 in
theorem complinelaw20_ShowFields.calls (k:Nat)(a0_0:Int)(a0_1:Bool)(a1:Int)(r:Bool)(w:World)(hT:Tab w)(h:complinelaw20_ShowFields.f k a0_0 a0_1 a1=some r) :
  Calls Tryz.prog 3 #[.agg #[.int .u64 a0_0,.bool a0_1],.int .i64 a1] w fun e w'=>e=.returned (.bool r)∧Below w.heap.size w w':=by
 have hu24:=Tryz.underlying24
 have HB:=Aside0.mk (Below.refl w.heap.size w)
 have H:((complinelaw20_works.f).bind fun t173=>(if t173=true then ((show_Field.f a0_0 a0_1 a1).bind fun bt174=>((complineref20_Field.f k a0_0 a0_1 a1).bind fun bt176=>(if bt174.1.toList=bt176.1.toList then (some (bt174.2 == bt176.2)) else (some false)))) else (some false)))=some r:=h
 clear h
 replace H:=Option.bind_eq_some_iff.mp H
 obtain ⟨t173,A30,H⟩ :=H
 replace H:(if t173=true then ((show_Field.f a0_0 a0_1 a1).bind fun bt174=>((complineref20_Field.f k a0_0 a0_1 a1).bind fun bt176=>(if bt174.1.toList=bt176.1.toList then (some (bt174.2 == bt176.2)) else (some false)))) else (some false))=some r:=H
 have A3:=Aside0.mk A30
 clear A30
 by_cases c4:t173=true
 ·subst c4
  have H1:((show_Field.f a0_0 a0_1 a1).bind fun bt174=>((complineref20_Field.f k a0_0 a0_1 a1).bind fun bt176=>(if bt174.1.toList=bt176.1.toList then (some (bt174.2 == bt176.2)) else (some false))))=some r:=by rw [if_pos rfl] at H; exact H
  clear H
  have H:=H1
  clear H1
  replace H:=Option.bind_eq_some_iff.mp H
  obtain ⟨⟨t174,t175⟩,A50,H⟩ :=H
  replace H:((complineref20_Field.f k a0_0 a0_1 a1).bind fun bt176=>(if t174.toList=bt176.1.toList then (some (t175 == bt176.2)) else (some false)))=some r:=H
  have A5:=Aside0.mk A50
  clear A50
  replace H:=Option.bind_eq_some_iff.mp H
  obtain ⟨⟨t176,t177⟩,A60,H⟩ :=H
  replace H:(if t174.toList=t176.toList then (some (t175 == t177)) else (some false))=some r:=H
  have A6:=Aside0.mk A60
  clear A60
  by_cases c7:t174.toList=t176.toList
  ·rw [if_pos c7] at H
   have c7b0:(t174.toList == t176.toList)=true:=beq_iff_eq.mpr c7
   have c7b1:(t174.toList != t176.toList)=false:=bne_eq_false_iff_eq.mpr c7
   clear c7
   obtain rfl:=Option.some.inj H
   go_enter Tryz.func3,Tryz.ntmps3
   go_wp2_with (first | ((with_reducible refine gate_dst (N:=2) rfl ?_); refine box_event ?hg (N:=2) ?hd (cs:=#[.int .u64 a0_0,.bool a0_1]) (t:=24) ?hr ?_; (case hd=>rfl); (case hg=>rfl); (case hr=>first | (go_simp; done) | (go_simp; rfl)); intro gb172 hg w8 hbox hb; have n0_:=Aside0.mk (below_step (by repeat (first | (with_reducible first | exact HB.out | apply below_alloc | apply pw_below_drewN | apply below_drew1) | exact HB.out)) hb); have n1_:=Aside0.mk (hbox); have n2_:=Aside0.mk ((by rw [hg]; exact (below_size (by repeat (first | (with_reducible first | exact HB.out | apply below_alloc | apply pw_below_drewN | apply below_drew1) | exact HB.out))):w.heap.size≤gb172)); have n3_:=Aside0.mk ((by rw [hg]; exact (below_size (by repeat (first | (with_reducible first | exact HB.out | apply below_alloc | apply pw_below_drewN | apply below_drew1) | exact HB.out))):w.heap.size≤gb172)); clear HB; have HB:=n0_; have BK172:=n1_; have GW172:=n2_; have GE172:=n3_; clear n0_ n1_ n2_ n3_; clear hb hbox hg) | ((with_reducible refine gate_callee (f:=9) rfl ?_); refine goesL_ (some 10) rfl rfl Tryz.func9 (by kernel_rfl) rfl #[] rfl (by (try simp only [List.map_toArray,List.map_cons,List.map_nil]); first | done | rfl | (simp only [List.length_drop,List.length_take]; rfl)) ?_; (with_reducible refine (complinelaw20_works.calls  true _ (hT.keep (by repeat (first | (with_reducible first | exact HB.out | apply below_alloc | apply pw_below_drewN | apply below_drew1 | refine below_set ?_ GE172.out) | exact HB.out))) A3.out).mono ?_); rintro e w9 ⟨rfl,hb⟩; refine ⟨_,rfl,?_⟩; have n0_:=Aside0.mk (blk_below (g:=gb172) (o:=.cells #[.int .u64 a0_0,.bool a0_1] 24 (0,0)) (by (with_reducible repeat (first | refine blk_drewN ?_ _ | refine blk_drew ?_ | refine blk_alloc ?_ _)); exact BK172.out) hb); have n1_:=Aside0.mk (below_step (by repeat (first | (with_reducible first | exact HB.out | apply below_alloc | apply pw_below_drewN | apply below_drew1 | refine below_set ?_ GE172.out) | exact HB.out)) hb); clear BK172; clear HB; have BK172:=n0_; have HB:=n1_; clear n0_ n1_; (try clear hb); (try clear hb2); (try clear hk); (try clear hi); have hcz10_0:w9.cell? ⟨gb172,0,none⟩=some (.int .u64 a0_0):=(blk_cell BK172.out 0).trans rfl; have hcz10_1:w9.cell? ⟨gb172,1,none⟩=some (.bool a0_1):=(blk_cell BK172.out 1).trans rfl; have hfz10_0:=blk_frozen BK172.out 0; have hfz10_1:=blk_frozen BK172.out 1) | ((with_reducible refine gate_callee (f:=10) rfl ?_); refine goesL_ (some 16) rfl rfl Tryz.func10 (by kernel_rfl) rfl #[.agg #[.int .u64 a0_0,.bool a0_1],.int .i64 a1] rfl (by (try simp only [List.map_toArray,List.map_cons,List.map_nil]); first | done | rfl | (simp only [List.length_drop,List.length_take]; rfl)) ?_; (with_reducible refine (show_Field.calls a0_0 a0_1 a1 t174 t175 _ (hT.keep (by repeat (first | (with_reducible first | exact HB.out | apply below_alloc | apply pw_below_drewN | apply below_drew1 | refine below_set ?_ GE172.out) | exact HB.out))) A5.out).mono ?_); rintro e w11 ⟨rfl,hb⟩; refine ⟨_,rfl,?_⟩; have n0_:=Aside0.mk (blk_below (g:=gb172) (o:=.cells #[.int .u64 a0_0,.bool a0_1] 24 (0,0)) (by (with_reducible repeat (first | refine blk_drewN ?_ _ | refine blk_drew ?_ | refine blk_alloc ?_ _)); exact BK172.out) hb); have n1_:=Aside0.mk (below_step (by repeat (first | (with_reducible first | exact HB.out | apply below_alloc | apply pw_below_drewN | apply below_drew1 | refine below_set ?_ GE172.out) | exact HB.out)) hb); clear BK172; clear HB; have BK172:=n0_; have HB:=n1_; clear n0_ n1_; (try clear hb); (try clear hb2); (try clear hk); (try clear hi); have hcz12_0:w11.cell? ⟨gb172,0,none⟩=some (.int .u64 a0_0):=(blk_cell BK172.out 0).trans rfl; have hcz12_1:w11.cell? ⟨gb172,1,none⟩=some (.bool a0_1):=(blk_cell BK172.out 1).trans rfl; have hfz12_0:=blk_frozen BK172.out 0; have hfz12_1:=blk_frozen BK172.out 1) | ((with_reducible refine gate_callee (f:=11) rfl ?_); refine goesL_ (some 22) rfl rfl Tryz.func11 (by kernel_rfl) rfl #[.agg #[.int .u64 a0_0,.bool a0_1],.int .i64 a1] rfl (by (try simp only [List.map_toArray,List.map_cons,List.map_nil]); first | done | rfl | (simp only [List.length_drop,List.length_take]; rfl)) ?_; (with_reducible refine (complineref20_Field.calls k a0_0 a0_1 a1 t176 t177 _ A6.out).mono ?_); rintro e w13 ⟨rfl,hb⟩; refine ⟨_,rfl,?_⟩; have n0_:=Aside0.mk (blk_below (g:=gb172) (o:=.cells #[.int .u64 a0_0,.bool a0_1] 24 (0,0)) (by (with_reducible repeat (first | refine blk_drewN ?_ _ | refine blk_drew ?_ | refine blk_alloc ?_ _)); exact BK172.out) hb); have n1_:=Aside0.mk (below_step (by repeat (first | (with_reducible first | exact HB.out | apply below_alloc | apply pw_below_drewN | apply below_drew1 | refine below_set ?_ GE172.out) | exact HB.out)) hb); clear BK172; clear HB; have BK172:=n0_; have HB:=n1_; clear n0_ n1_; (try clear hb); (try clear hb2); (try clear hk); (try clear hi)))
   go_ret
   exact ⟨by first | rfl | (simp [errW_none,errW_some] <;> rfl) | (simp [*,errW_none,errW_some] <;> rfl),by repeat (first | (with_reducible first | exact HB.out | apply below_alloc | apply pw_below_drewN | apply below_drew1 | refine below_set ?_ GE172.out) | exact HB.out)⟩
  ·rw [if_neg c7] at H
   have c7b0:(t174.toList == t176.toList)=false:=beq_eq_false_iff_ne.mpr c7
   have c7b1:(t174.toList != t176.toList)=true:=bne_iff_ne.mpr c7
   obtain rfl:=Option.some.inj H
   go_enter Tryz.func3,Tryz.ntmps3
   go_wp2_with (first | ((with_reducible refine gate_dst (N:=2) rfl ?_); refine box_event ?hg (N:=2) ?hd (cs:=#[.int .u64 a0_0,.bool a0_1]) (t:=24) ?hr ?_; (case hd=>rfl); (case hg=>rfl); (case hr=>first | (go_simp; done) | (go_simp; rfl)); intro gb172 hg w14 hbox hb; have n0_:=Aside0.mk (below_step (by repeat (first | (with_reducible first | exact HB.out | apply below_alloc | apply pw_below_drewN | apply below_drew1) | exact HB.out)) hb); have n1_:=Aside0.mk (hbox); have n2_:=Aside0.mk ((by rw [hg]; exact (below_size (by repeat (first | (with_reducible first | exact HB.out | apply below_alloc | apply pw_below_drewN | apply below_drew1) | exact HB.out))):w.heap.size≤gb172)); have n3_:=Aside0.mk ((by rw [hg]; exact (below_size (by repeat (first | (with_reducible first | exact HB.out | apply below_alloc | apply pw_below_drewN | apply below_drew1) | exact HB.out))):w.heap.size≤gb172)); clear HB; have HB:=n0_; have BK172:=n1_; have GW172:=n2_; have GE172:=n3_; clear n0_ n1_ n2_ n3_; clear hb hbox hg) | ((with_reducible refine gate_callee (f:=9) rfl ?_); refine goesL_ (some 10) rfl rfl Tryz.func9 (by kernel_rfl) rfl #[] rfl (by (try simp only [List.map_toArray,List.map_cons,List.map_nil]); first | done | rfl | (simp only [List.length_drop,List.length_take]; rfl)) ?_; (with_reducible refine (complinelaw20_works.calls  true _ (hT.keep (by repeat (first | (with_reducible first | exact HB.out | apply below_alloc | apply pw_below_drewN | apply below_drew1 | refine below_set ?_ GE172.out) | exact HB.out))) A3.out).mono ?_); rintro e w15 ⟨rfl,hb⟩; refine ⟨_,rfl,?_⟩; have n0_:=Aside0.mk (blk_below (g:=gb172) (o:=.cells #[.int .u64 a0_0,.bool a0_1] 24 (0,0)) (by (with_reducible repeat (first | refine blk_drewN ?_ _ | refine blk_drew ?_ | refine blk_alloc ?_ _)); exact BK172.out) hb); have n1_:=Aside0.mk (below_step (by repeat (first | (with_reducible first | exact HB.out | apply below_alloc | apply pw_below_drewN | apply below_drew1 | refine below_set ?_ GE172.out) | exact HB.out)) hb); clear BK172; clear HB; have BK172:=n0_; have HB:=n1_; clear n0_ n1_; (try clear hb); (try clear hb2); (try clear hk); (try clear hi); have hcz16_0:w15.cell? ⟨gb172,0,none⟩=some (.int .u64 a0_0):=(blk_cell BK172.out 0).trans rfl; have hcz16_1:w15.cell? ⟨gb172,1,none⟩=some (.bool a0_1):=(blk_cell BK172.out 1).trans rfl; have hfz16_0:=blk_frozen BK172.out 0; have hfz16_1:=blk_frozen BK172.out 1) | ((with_reducible refine gate_callee (f:=10) rfl ?_); refine goesL_ (some 16) rfl rfl Tryz.func10 (by kernel_rfl) rfl #[.agg #[.int .u64 a0_0,.bool a0_1],.int .i64 a1] rfl (by (try simp only [List.map_toArray,List.map_cons,List.map_nil]); first | done | rfl | (simp only [List.length_drop,List.length_take]; rfl)) ?_; (with_reducible refine (show_Field.calls a0_0 a0_1 a1 t174 t175 _ (hT.keep (by repeat (first | (with_reducible first | exact HB.out | apply below_alloc | apply pw_below_drewN | apply below_drew1 | refine below_set ?_ GE172.out) | exact HB.out))) A5.out).mono ?_); rintro e w17 ⟨rfl,hb⟩; refine ⟨_,rfl,?_⟩; have n0_:=Aside0.mk (blk_below (g:=gb172) (o:=.cells #[.int .u64 a0_0,.bool a0_1] 24 (0,0)) (by (with_reducible repeat (first | refine blk_drewN ?_ _ | refine blk_drew ?_ | refine blk_alloc ?_ _)); exact BK172.out) hb); have n1_:=Aside0.mk (below_step (by repeat (first | (with_reducible first | exact HB.out | apply below_alloc | apply pw_below_drewN | apply below_drew1 | refine below_set ?_ GE172.out) | exact HB.out)) hb); clear BK172; clear HB; have BK172:=n0_; have HB:=n1_; clear n0_ n1_; (try clear hb); (try clear hb2); (try clear hk); (try clear hi); have hcz18_0:w17.cell? ⟨gb172,0,none⟩=some (.int .u64 a0_0):=(blk_cell BK172.out 0).trans rfl; have hcz18_1:w17.cell? ⟨gb172,1,none⟩=some (.bool a0_1):=(blk_cell BK172.out 1).trans rfl; have hfz18_0:=blk_frozen BK172.out 0; have hfz18_1:=blk_frozen BK172.out 1) | ((with_reducible refine gate_callee (f:=11) rfl ?_); refine goesL_ (some 22) rfl rfl Tryz.func11 (by kernel_rfl) rfl #[.agg #[.int .u64 a0_0,.bool a0_1],.int .i64 a1] rfl (by (try simp only [List.map_toArray,List.map_cons,List.map_nil]); first | done | rfl | (simp only [List.length_drop,List.length_take]; rfl)) ?_; (with_reducible refine (complineref20_Field.calls k a0_0 a0_1 a1 t176 t177 _ A6.out).mono ?_); rintro e w19 ⟨rfl,hb⟩; refine ⟨_,rfl,?_⟩; have n0_:=Aside0.mk (blk_below (g:=gb172) (o:=.cells #[.int .u64 a0_0,.bool a0_1] 24 (0,0)) (by (with_reducible repeat (first | refine blk_drewN ?_ _ | refine blk_drew ?_ | refine blk_alloc ?_ _)); exact BK172.out) hb); have n1_:=Aside0.mk (below_step (by repeat (first | (with_reducible first | exact HB.out | apply below_alloc | apply pw_below_drewN | apply below_drew1 | refine below_set ?_ GE172.out) | exact HB.out)) hb); clear BK172; clear HB; have BK172:=n0_; have HB:=n1_; clear n0_ n1_; (try clear hb); (try clear hb2); (try clear hk); (try clear hi)))
   go_ret
   exact ⟨by first | rfl | (simp [errW_none,errW_some] <;> rfl) | (simp [*,errW_none,errW_some] <;> rfl),by repeat (first | (with_reducible first | exact HB.out | apply below_alloc | apply pw_below_drewN | apply below_drew1 | refine below_set ?_ GE172.out) | exact HB.out)⟩
 ·replace c4:=Bool.eq_false_iff.mpr c4
  subst c4
  have H1:(some false)=some r:=by rw [if_neg (show ¬ (false=true) by decide)] at H; exact H
  clear H
  have H:=H1
  clear H1
  obtain rfl:=Option.some.inj H
  go_enter Tryz.func3,Tryz.ntmps3
  go_wp2_with (first | ((with_reducible refine gate_dst (N:=2) rfl ?_); refine box_event ?hg (N:=2) ?hd (cs:=#[.int .u64 a0_0,.bool a0_1]) (t:=24) ?hr ?_; (case hd=>rfl); (case hg=>rfl); (case hr=>first | (go_simp; done) | (go_simp; rfl)); intro gb172 hg w20 hbox hb; have n0_:=Aside0.mk (below_step (by repeat (first | (with_reducible first | exact HB.out | apply below_alloc | apply pw_below_drewN | apply below_drew1) | exact HB.out)) hb); have n1_:=Aside0.mk (hbox); have n2_:=Aside0.mk ((by rw [hg]; exact (below_size (by repeat (first | (with_reducible first | exact HB.out | apply below_alloc | apply pw_below_drewN | apply below_drew1) | exact HB.out))):w.heap.size≤gb172)); have n3_:=Aside0.mk ((by rw [hg]; exact (below_size (by repeat (first | (with_reducible first | exact HB.out | apply below_alloc | apply pw_below_drewN | apply below_drew1) | exact HB.out))):w.heap.size≤gb172)); clear HB; have HB:=n0_; have BK172:=n1_; have GW172:=n2_; have GE172:=n3_; clear n0_ n1_ n2_ n3_; clear hb hbox hg) | ((with_reducible refine gate_callee (f:=9) rfl ?_); refine goesL_ (some 10) rfl rfl Tryz.func9 (by kernel_rfl) rfl #[] rfl (by (try simp only [List.map_toArray,List.map_cons,List.map_nil]); first | done | rfl | (simp only [List.length_drop,List.length_take]; rfl)) ?_; (with_reducible refine (complinelaw20_works.calls  false _ (hT.keep (by repeat (first | (with_reducible first | exact HB.out | apply below_alloc | apply pw_below_drewN | apply below_drew1 | refine below_set ?_ GE172.out) | exact HB.out))) A3.out).mono ?_); rintro e w21 ⟨rfl,hb⟩; refine ⟨_,rfl,?_⟩; have n0_:=Aside0.mk (blk_below (g:=gb172) (o:=.cells #[.int .u64 a0_0,.bool a0_1] 24 (0,0)) (by (with_reducible repeat (first | refine blk_drewN ?_ _ | refine blk_drew ?_ | refine blk_alloc ?_ _)); exact BK172.out) hb); have n1_:=Aside0.mk (below_step (by repeat (first | (with_reducible first | exact HB.out | apply below_alloc | apply pw_below_drewN | apply below_drew1 | refine below_set ?_ GE172.out) | exact HB.out)) hb); clear BK172; clear HB; have BK172:=n0_; have HB:=n1_; clear n0_ n1_; (try clear hb); (try clear hb2); (try clear hk); (try clear hi)))
  go_ret
  exact ⟨by first | rfl | (simp [errW_none,errW_some] <;> rfl) | (simp [*,errW_none,errW_some] <;> rfl),by repeat (first | (with_reducible first | exact HB.out | apply below_alloc | apply pw_below_drewN | apply below_drew1 | refine below_set ?_ GE172.out) | exact HB.out)⟩
end Go.Proofs.YtcmmmlenaahaeaaGreatDoor.PShw
