-- Written by a program of this session (gprint.py) over the kit's print.
import Derived.Test.YtcmmmlenaahaeaaGreatDoorPShwx0
import Derived.Test.YtcmmmlenaahaeaaGreatDoorPShwx4
import Derived.Test.YtcmmmlenaahaeaaGreatDoorPShwx11
import Derived.Test.YtcmmmlenaahaeaaGreatDoorPShwx12
namespace Go.Proofs.YtcmmmlenaahaeaaGreatDoor.PShw
open Go.RowKit Go.Proofs.YtcmmmlenaahaeaaGreatDoorW.PrintWords Go.Proofs.YtcmmmlenaahaeaaGreatDoorW.PrintLast Go.Proofs.YtcmmmlenaahaeaaGreatDoorW.PrintMore
attribute [local go_sem] max2_int min2_int max_two min_two max_three min_three max_four min_four
set_option linter.unusedVariables false
set_option linter.unusedSimpArgs false
def complineref20_run.f (k:Nat)(a0:Int)(a1:Int):Option (ByteArray):=if a1=a0 then ((complineref20_Digits.f k a0).bind fun t155=>(some t155)) else (if a1=(wrap64 (a0+1)) then ((complineref20_Digits.f k a0).bind fun t156=>(if t156.size+1≤9223372036854775807 then ((complineref20_Digits.f k a1).bind fun t157=>(if (t156 ++ (⟨#[44]⟩:ByteArray)).size+t157.size≤9223372036854775807 then (some ((t156 ++ (⟨#[44]⟩:ByteArray)) ++ t157)) else (none))) else (none))) else ((complineref20_Digits.f k a0).bind fun t158=>(if t158.size+1≤9223372036854775807 then ((complineref20_Digits.f k a1).bind fun t159=>(if (t158 ++ (⟨#[45]⟩:ByteArray)).size+t159.size≤9223372036854775807 then (some ((t158 ++ (⟨#[45]⟩:ByteArray)) ++ t159)) else (none))) else (none))))
set_option maxHeartbeats 8000000 in
set_option maxRecDepth 100000 in
theorem complineref20_run.calls (k:Nat)(a0:Int)(a1:Int)(r:ByteArray)(w:World)(h:complineref20_run.f k a0 a1=some r) :
  Calls Tryz.prog 28 #[.int .i64 a0,.int .i64 a1] w fun e w'=>e=.returned (.string r)∧Below w.heap.size w w':=by
 have HB:=Aside0.mk (Below.refl w.heap.size w)
 have H:(if a1=a0 then ((complineref20_Digits.f k a0).bind fun t155=>(some t155)) else (if a1=(wrap64 (a0+1)) then ((complineref20_Digits.f k a0).bind fun t156=>(if t156.size+1≤9223372036854775807 then ((complineref20_Digits.f k a1).bind fun t157=>(if (t156 ++ (⟨#[44]⟩:ByteArray)).size+t157.size≤9223372036854775807 then (some ((t156 ++ (⟨#[44]⟩:ByteArray)) ++ t157)) else (none))) else (none))) else ((complineref20_Digits.f k a0).bind fun t158=>(if t158.size+1≤9223372036854775807 then ((complineref20_Digits.f k a1).bind fun t159=>(if (t158 ++ (⟨#[45]⟩:ByteArray)).size+t159.size≤9223372036854775807 then (some ((t158 ++ (⟨#[45]⟩:ByteArray)) ++ t159)) else (none))) else (none)))))=some r:=h
 clear h
 by_cases c3:a1=a0
 ·rw [if_pos c3] at H
  have c3b0:(a1 == a0)=true:=beq_iff_eq.mpr c3
  have c3b1:(a1 != a0)=false:=bne_eq_false_iff_eq.mpr c3
  clear c3
  replace H:=Option.bind_eq_some_iff.mp H
  obtain ⟨t155,A40,H⟩ :=H
  replace H:(some t155)=some r:=H
  have A4:=Aside0.mk A40
  clear A40
  obtain rfl:=Option.some.inj H
  go_enter Tryz.func28,Tryz.ntmps28
  go_wp2_with (first | ((with_reducible refine gate_callee (f:=53) rfl ?_); refine goesL_ (some 9) rfl rfl Tryz.func53 (by kernel_rfl) rfl #[.int .i64 a0] rfl (by (try simp only [List.map_toArray,List.map_cons,List.map_nil]); first | done | rfl | (simp only [List.length_drop,List.length_take]; rfl)) ?_; (with_reducible refine (complineref20_Digits.calls k a0 t155 _ A4.out).mono ?_); rintro e w5 ⟨rfl,hb⟩; refine ⟨_,rfl,?_⟩; have n0_:=Aside0.mk (below_step (by repeat (first | (with_reducible first | exact HB.out | apply below_alloc | apply pw_below_drewN | apply below_drew1) | exact HB.out)) hb); clear HB; have HB:=n0_; clear n0_; (try clear hb); (try clear hb2); (try clear hk); (try clear hi)))
  go_ret
  exact ⟨by first | rfl | (simp [errW_none,errW_some] <;> rfl) | (simp [*,errW_none,errW_some] <;> rfl),by repeat (first | (with_reducible first | exact HB.out | apply below_alloc | apply pw_below_drewN | apply below_drew1) | exact HB.out)⟩
 ·rw [if_neg c3] at H
  have c3b0:(a1 == a0)=false:=beq_eq_false_iff_ne.mpr c3
  have c3b1:(a1 != a0)=true:=bne_iff_ne.mpr c3
  by_cases c6:a1=(wrap64 (a0+1))
  ·rw [if_pos c6] at H
   have c6b0:(a1 == (wrap64 (a0+1)))=true:=beq_iff_eq.mpr c6
   have c6b1:(a1 != (wrap64 (a0+1)))=false:=bne_eq_false_iff_eq.mpr c6
   clear c6
   replace H:=Option.bind_eq_some_iff.mp H
   obtain ⟨t156,A70,H⟩ :=H
   replace H:(if t156.size+1≤9223372036854775807 then ((complineref20_Digits.f k a1).bind fun t157=>(if (t156 ++ (⟨#[44]⟩:ByteArray)).size+t157.size≤9223372036854775807 then (some ((t156 ++ (⟨#[44]⟩:ByteArray)) ++ t157)) else (none))) else (none))=some r:=H
   have A7:=Aside0.mk A70
   clear A70
   by_cases c8:t156.size+1≤9223372036854775807
   ·rw [if_pos c8] at H
    have c8b0:=eq_true c8
    have c8b1:decide (t156.size+1≤9223372036854775807)=true:=decide_eq_true c8
    try have c8b2:(9223372036854775807 < t156.size+1)=False:=eq_false (Nat.not_lt.2 c8)
    replace H:=Option.bind_eq_some_iff.mp H
    obtain ⟨t157,A90,H⟩ :=H
    replace H:(if (t156 ++ (⟨#[44]⟩:ByteArray)).size+t157.size≤9223372036854775807 then (some ((t156 ++ (⟨#[44]⟩:ByteArray)) ++ t157)) else (none))=some r:=H
    have A9:=Aside0.mk A90
    clear A90
    by_cases c10:(t156 ++ (⟨#[44]⟩:ByteArray)).size+t157.size≤9223372036854775807
    ·rw [if_pos c10] at H
     have c10b0:=eq_true c10
     have c10b1:decide ((t156 ++ (⟨#[44]⟩:ByteArray)).size+t157.size≤9223372036854775807)=true:=decide_eq_true c10
     try have c10b2:(9223372036854775807 < (t156 ++ (⟨#[44]⟩:ByteArray)).size+t157.size)=False:=eq_false (Nat.not_lt.2 c10)
     have c10b3:(9223372036854775807 < t156.size+1+t157.size)=False:=eq_false (by have h_:=c10; have l0_:(⟨#[44]⟩:ByteArray).size=1:=rfl; try simp only [ByteArray.size_append,ByteArray.size_extract] at h_; omega)
     obtain rfl:=Option.some.inj H
     go_enter Tryz.func28,Tryz.ntmps28
     go_wp2_with (first | ((with_reducible refine gate_callee (f:=53) rfl ?_); refine goesL_ (some 15) rfl rfl Tryz.func53 (by kernel_rfl) rfl #[.int .i64 a0] rfl (by (try simp only [List.map_toArray,List.map_cons,List.map_nil]); first | done | rfl | (simp only [List.length_drop,List.length_take]; rfl)) ?_; (with_reducible refine (complineref20_Digits.calls k a0 t156 _ A7.out).mono ?_); rintro e w11 ⟨rfl,hb⟩; refine ⟨_,rfl,?_⟩; have n0_:=Aside0.mk (below_step (by repeat (first | (with_reducible first | exact HB.out | apply below_alloc | apply pw_below_drewN | apply below_drew1) | exact HB.out)) hb); clear HB; have HB:=n0_; clear n0_; (try clear hb); (try clear hb2); (try clear hk); (try clear hi)) | ((with_reducible refine gate_callee (f:=53) rfl ?_); refine goesL_ (some 18) rfl rfl Tryz.func53 (by kernel_rfl) rfl #[.int .i64 a1] rfl (by (try simp only [List.map_toArray,List.map_cons,List.map_nil]); first | done | rfl | (simp only [List.length_drop,List.length_take]; rfl)) ?_; (with_reducible refine (complineref20_Digits.calls k a1 t157 _ A9.out).mono ?_); rintro e w12 ⟨rfl,hb⟩; refine ⟨_,rfl,?_⟩; have n0_:=Aside0.mk (below_step (by repeat (first | (with_reducible first | exact HB.out | apply below_alloc | apply pw_below_drewN | apply below_drew1) | exact HB.out)) hb); clear HB; have HB:=n0_; clear n0_; (try clear hb); (try clear hb2); (try clear hk); (try clear hi)))
     go_ret
     exact ⟨by first | rfl | (simp [errW_none,errW_some] <;> rfl) | (simp [*,errW_none,errW_some] <;> rfl),by repeat (first | (with_reducible first | exact HB.out | apply below_alloc | apply pw_below_drewN | apply below_drew1) | exact HB.out)⟩
    ·rw [if_neg c10] at H
     exact absurd H (by simp)
   ·rw [if_neg c8] at H
    exact absurd H (by simp)
  ·rw [if_neg c6] at H
   have c6b0:(a1 == (wrap64 (a0+1)))=false:=beq_eq_false_iff_ne.mpr c6
   have c6b1:(a1 != (wrap64 (a0+1)))=true:=bne_iff_ne.mpr c6
   replace H:=Option.bind_eq_some_iff.mp H
   obtain ⟨t158,A130,H⟩ :=H
   replace H:(if t158.size+1≤9223372036854775807 then ((complineref20_Digits.f k a1).bind fun t159=>(if (t158 ++ (⟨#[45]⟩:ByteArray)).size+t159.size≤9223372036854775807 then (some ((t158 ++ (⟨#[45]⟩:ByteArray)) ++ t159)) else (none))) else (none))=some r:=H
   have A13:=Aside0.mk A130
   clear A130
   by_cases c14:t158.size+1≤9223372036854775807
   ·rw [if_pos c14] at H
    have c14b0:=eq_true c14
    have c14b1:decide (t158.size+1≤9223372036854775807)=true:=decide_eq_true c14
    try have c14b2:(9223372036854775807 < t158.size+1)=False:=eq_false (Nat.not_lt.2 c14)
    replace H:=Option.bind_eq_some_iff.mp H
    obtain ⟨t159,A150,H⟩ :=H
    replace H:(if (t158 ++ (⟨#[45]⟩:ByteArray)).size+t159.size≤9223372036854775807 then (some ((t158 ++ (⟨#[45]⟩:ByteArray)) ++ t159)) else (none))=some r:=H
    have A15:=Aside0.mk A150
    clear A150
    by_cases c16:(t158 ++ (⟨#[45]⟩:ByteArray)).size+t159.size≤9223372036854775807
    ·rw [if_pos c16] at H
     have c16b0:=eq_true c16
     have c16b1:decide ((t158 ++ (⟨#[45]⟩:ByteArray)).size+t159.size≤9223372036854775807)=true:=decide_eq_true c16
     try have c16b2:(9223372036854775807 < (t158 ++ (⟨#[45]⟩:ByteArray)).size+t159.size)=False:=eq_false (Nat.not_lt.2 c16)
     have c16b3:(9223372036854775807 < t158.size+1+t159.size)=False:=eq_false (by have h_:=c16; have l0_:(⟨#[45]⟩:ByteArray).size=1:=rfl; try simp only [ByteArray.size_append,ByteArray.size_extract] at h_; omega)
     obtain rfl:=Option.some.inj H
     go_enter Tryz.func28,Tryz.ntmps28
     go_wp2_with (first | ((with_reducible refine gate_callee (f:=53) rfl ?_); refine goesL_ (some 21) rfl rfl Tryz.func53 (by kernel_rfl) rfl #[.int .i64 a0] rfl (by (try simp only [List.map_toArray,List.map_cons,List.map_nil]); first | done | rfl | (simp only [List.length_drop,List.length_take]; rfl)) ?_; (with_reducible refine (complineref20_Digits.calls k a0 t158 _ A13.out).mono ?_); rintro e w17 ⟨rfl,hb⟩; refine ⟨_,rfl,?_⟩; have n0_:=Aside0.mk (below_step (by repeat (first | (with_reducible first | exact HB.out | apply below_alloc | apply pw_below_drewN | apply below_drew1) | exact HB.out)) hb); clear HB; have HB:=n0_; clear n0_; (try clear hb); (try clear hb2); (try clear hk); (try clear hi)) | ((with_reducible refine gate_callee (f:=53) rfl ?_); refine goesL_ (some 24) rfl rfl Tryz.func53 (by kernel_rfl) rfl #[.int .i64 a1] rfl (by (try simp only [List.map_toArray,List.map_cons,List.map_nil]); first | done | rfl | (simp only [List.length_drop,List.length_take]; rfl)) ?_; (with_reducible refine (complineref20_Digits.calls k a1 t159 _ A15.out).mono ?_); rintro e w18 ⟨rfl,hb⟩; refine ⟨_,rfl,?_⟩; have n0_:=Aside0.mk (below_step (by repeat (first | (with_reducible first | exact HB.out | apply below_alloc | apply pw_below_drewN | apply below_drew1) | exact HB.out)) hb); clear HB; have HB:=n0_; clear n0_; (try clear hb); (try clear hb2); (try clear hk); (try clear hi)))
     go_ret
     exact ⟨by first | rfl | (simp [errW_none,errW_some] <;> rfl) | (simp [*,errW_none,errW_some] <;> rfl),by repeat (first | (with_reducible first | exact HB.out | apply below_alloc | apply pw_below_drewN | apply below_drew1) | exact HB.out)⟩
    ·rw [if_neg c16] at H
     exact absurd H (by simp)
   ·rw [if_neg c14] at H
    exact absurd H (by simp)
def complineref20_Field.l0:Nat→ByteArray→Int→Bool→Int→Bool→Option (ByteArray × Int)
 | 0,_,_,_,_,_=>none
 | k+1,x7,x8,x9,x161000,x161001=>if x9=true then (if x7.toList=([]:List UInt8) then ((complineref20_end.f k x161000 x161001 x8).bind fun t164=>((complineref20_run.f k x8 t164).bind fun t165=>(if x7.size+t165.size≤9223372036854775807 then ((complineref18_First.f k x161000 x161001 (wrap64 (t164+1))).bind fun bt166=>(complineref20_Field.l0 k (x7 ++ t165) bt166.1 bt166.2 x161000 x161001)) else (none)))) else (if x7.size+1≤9223372036854775807 then ((complineref20_end.f k x161000 x161001 x8).bind fun t168=>((complineref20_run.f k x8 t168).bind fun t169=>(if (x7 ++ (⟨#[44]⟩:ByteArray)).size+t169.size≤9223372036854775807 then ((complineref18_First.f k x161000 x161001 (wrap64 (t168+1))).bind fun bt170=>(complineref20_Field.l0 k ((x7 ++ (⟨#[44]⟩:ByteArray)) ++ t169) bt170.1 bt170.2 x161000 x161001)) else (none)))) else (none))) else (some (x7,0))
def complineref20_Field.f (k:Nat)(a0_0:Int)(a0_1:Bool)(a1:Int):Option (ByteArray × Int):=(complineref18_Check.f k a0_0 a0_1 a1).bind fun t161=>(if t161=0 then (if a0_1=true then (some ((⟨#[42]⟩:ByteArray),0)) else ((complineref18_First.f k a0_0 a0_1 0).bind fun bt162=>(complineref20_Field.l0 k (⟨#[]⟩:ByteArray) bt162.1 bt162.2 a0_0 a0_1))) else (some ((⟨#[]⟩:ByteArray),t161)))
set_option maxHeartbeats 8000000 in
set_option maxRecDepth 100000 in
theorem complineref20_Field.calls (k:Nat)(a0_0:Int)(a0_1:Bool)(a1:Int)(r1:ByteArray)(r2:Int)(w:World)(h:complineref20_Field.f k a0_0 a0_1 a1=some (r1,r2)) :
  Calls Tryz.prog 11 #[.agg #[.int .u64 a0_0,.bool a0_1],.int .i64 a1] w fun e w'=>e=.returned (.tuple #[.string r1,.int .i64 r2])∧Below w.heap.size w w':=by
 have hu24:=Tryz.underlying24
 have HB:=Aside0.mk (Below.refl w.heap.size w)
 have H:((complineref18_Check.f k a0_0 a0_1 a1).bind fun t161=>(if t161=0 then (if a0_1=true then (some ((⟨#[42]⟩:ByteArray),0)) else ((complineref18_First.f k a0_0 a0_1 0).bind fun bt162=>(complineref20_Field.l0 k (⟨#[]⟩:ByteArray) bt162.1 bt162.2 a0_0 a0_1))) else (some ((⟨#[]⟩:ByteArray),t161))))=some (r1,r2):=h
 clear h
 replace H:=Option.bind_eq_some_iff.mp H
 obtain ⟨t161,A30,H⟩ :=H
 replace H:(if t161=0 then (if a0_1=true then (some ((⟨#[42]⟩:ByteArray),0)) else ((complineref18_First.f k a0_0 a0_1 0).bind fun bt162=>(complineref20_Field.l0 k (⟨#[]⟩:ByteArray) bt162.1 bt162.2 a0_0 a0_1))) else (some ((⟨#[]⟩:ByteArray),t161)))=some (r1,r2):=H
 have A3:=Aside0.mk A30
 clear A30
 by_cases c4:t161=0
 ·rw [if_pos c4] at H
  have c4b0:(t161 == 0)=true:=beq_iff_eq.mpr c4
  have c4b1:(t161 != 0)=false:=bne_eq_false_iff_eq.mpr c4
  clear c4
  by_cases c5:a0_1=true
  ·subst c5
   have H1:(some ((⟨#[42]⟩:ByteArray),0))=some (r1,r2):=by rw [if_pos rfl] at H; exact H
   clear H
   have H:=H1
   clear H1
   simp only [Option.some.injEq,Prod.mk.injEq] at H
   obtain ⟨rfl,rfl⟩ :=H
   go_enter Tryz.func11,Tryz.ntmps11
   go_wp2_with (first | ((with_reducible refine gate_dst (N:=2) rfl ?_); refine box_event ?hg (N:=2) ?hd (cs:=#[.int .u64 a0_0,.bool true]) (t:=24) ?hr ?_; (case hd=>rfl); (case hg=>rfl); (case hr=>first | (go_simp; done) | (go_simp; rfl)); intro gb160 hg w6 hbox hb; have n0_:=Aside0.mk (below_step (by repeat (first | (with_reducible first | exact HB.out | apply below_alloc | apply pw_below_drewN | apply below_drew1) | exact HB.out)) hb); have n1_:=Aside0.mk (hbox); have n2_:=Aside0.mk ((by rw [hg]; exact (below_size (by repeat (first | (with_reducible first | exact HB.out | apply below_alloc | apply pw_below_drewN | apply below_drew1) | exact HB.out))):w.heap.size≤gb160)); have n3_:=Aside0.mk ((by rw [hg]; exact (below_size (by repeat (first | (with_reducible first | exact HB.out | apply below_alloc | apply pw_below_drewN | apply below_drew1) | exact HB.out))):w.heap.size≤gb160)); clear HB; have HB:=n0_; have BK160:=n1_; have GW160:=n2_; have GE160:=n3_; clear n0_ n1_ n2_ n3_; clear hb hbox hg; have hcz7_0:w6.cell? ⟨gb160,0,none⟩=some (.int .u64 a0_0):=(blk_cell BK160.out 0).trans rfl; have hcz7_1:w6.cell? ⟨gb160,1,none⟩=some (.bool true):=(blk_cell BK160.out 1).trans rfl; have hfz7_0:=blk_frozen BK160.out 0; have hfz7_1:=blk_frozen BK160.out 1) | ((with_reducible refine gate_callee (f:=25) rfl ?_); refine goesL_ (some 13) rfl rfl Tryz.func25 (by kernel_rfl) rfl #[.agg #[.int .u64 a0_0,.bool true],.int .i64 a1] rfl (by (try simp only [List.map_toArray,List.map_cons,List.map_nil]); first | done | rfl | (simp only [List.length_drop,List.length_take]; rfl)) ?_; (with_reducible refine (complineref18_Check.calls k a0_0 true a1 t161 _ A3.out).mono ?_); rintro e w8 ⟨rfl,hb⟩; refine ⟨_,rfl,?_⟩; have n0_:=Aside0.mk (blk_below (g:=gb160) (o:=.cells #[.int .u64 a0_0,.bool true] 24 (0,0)) (by (with_reducible repeat (first | refine blk_drewN ?_ _ | refine blk_drew ?_ | refine blk_alloc ?_ _)); exact BK160.out) hb); have n1_:=Aside0.mk (below_step (by repeat (first | (with_reducible first | exact HB.out | apply below_alloc | apply pw_below_drewN | apply below_drew1 | refine below_set ?_ GE160.out) | exact HB.out)) hb); clear BK160; clear HB; have BK160:=n0_; have HB:=n1_; clear n0_ n1_; (try clear hb); (try clear hb2); (try clear hk); (try clear hi); have hcz9_0:w8.cell? ⟨gb160,0,none⟩=some (.int .u64 a0_0):=(blk_cell BK160.out 0).trans rfl; have hcz9_1:w8.cell? ⟨gb160,1,none⟩=some (.bool true):=(blk_cell BK160.out 1).trans rfl; have hfz9_0:=blk_frozen BK160.out 0; have hfz9_1:=blk_frozen BK160.out 1))
   go_ret2
   exact ⟨by first | rfl | (simp [errW_none,errW_some] <;> rfl) | (simp [*,errW_none,errW_some] <;> rfl),by repeat (first | (with_reducible first | exact HB.out | apply below_alloc | apply pw_below_drewN | apply below_drew1 | refine below_set ?_ GE160.out) | exact HB.out)⟩
  ·replace c5:=Bool.eq_false_iff.mpr c5
   subst c5
   have H1:((complineref18_First.f k a0_0 false 0).bind fun bt162=>(complineref20_Field.l0 k (⟨#[]⟩:ByteArray) bt162.1 bt162.2 a0_0 false))=some (r1,r2):=by rw [if_neg (show ¬ (false=true) by decide)] at H; exact H
   clear H
   have H:=H1
   clear H1
   replace H:=Option.bind_eq_some_iff.mp H
   obtain ⟨⟨t162,t163⟩,A100,H⟩ :=H
   replace H:(complineref20_Field.l0 k (⟨#[]⟩:ByteArray) t162 t163 a0_0 false)=some (r1,r2):=H
   have A10:=Aside0.mk A100
   clear A100
   have H':=Aside0.mk H
   clear H
   go_enter Tryz.func11,Tryz.ntmps11
   go_wp2_with (first | ((with_reducible refine gate_dst (N:=2) rfl ?_); refine box_event ?hg (N:=2) ?hd (cs:=#[.int .u64 a0_0,.bool false]) (t:=24) ?hr ?_; (case hd=>rfl); (case hg=>rfl); (case hr=>first | (go_simp; done) | (go_simp; rfl)); intro gb160 hg w11 hbox hb; have n0_:=Aside0.mk (below_step (by repeat (first | (with_reducible first | exact HB.out | apply below_alloc | apply pw_below_drewN | apply below_drew1) | exact HB.out)) hb); have n1_:=Aside0.mk (hbox); have n2_:=Aside0.mk ((by rw [hg]; exact (below_size (by repeat (first | (with_reducible first | exact HB.out | apply below_alloc | apply pw_below_drewN | apply below_drew1) | exact HB.out))):w.heap.size≤gb160)); have n3_:=Aside0.mk ((by rw [hg]; exact (below_size (by repeat (first | (with_reducible first | exact HB.out | apply below_alloc | apply pw_below_drewN | apply below_drew1) | exact HB.out))):w.heap.size≤gb160)); clear HB; have HB:=n0_; have BK160:=n1_; have GW160:=n2_; have GE160:=n3_; clear n0_ n1_ n2_ n3_; clear hb hbox hg; have hcz12_0:w11.cell? ⟨gb160,0,none⟩=some (.int .u64 a0_0):=(blk_cell BK160.out 0).trans rfl; have hcz12_1:w11.cell? ⟨gb160,1,none⟩=some (.bool false):=(blk_cell BK160.out 1).trans rfl; have hfz12_0:=blk_frozen BK160.out 0; have hfz12_1:=blk_frozen BK160.out 1) | ((with_reducible refine gate_callee (f:=25) rfl ?_); refine goesL_ (some 13) rfl rfl Tryz.func25 (by kernel_rfl) rfl #[.agg #[.int .u64 a0_0,.bool false],.int .i64 a1] rfl (by (try simp only [List.map_toArray,List.map_cons,List.map_nil]); first | done | rfl | (simp only [List.length_drop,List.length_take]; rfl)) ?_; (with_reducible refine (complineref18_Check.calls k a0_0 false a1 t161 _ A3.out).mono ?_); rintro e w13 ⟨rfl,hb⟩; refine ⟨_,rfl,?_⟩; have n0_:=Aside0.mk (blk_below (g:=gb160) (o:=.cells #[.int .u64 a0_0,.bool false] 24 (0,0)) (by (with_reducible repeat (first | refine blk_drewN ?_ _ | refine blk_drew ?_ | refine blk_alloc ?_ _)); exact BK160.out) hb); have n1_:=Aside0.mk (below_step (by repeat (first | (with_reducible first | exact HB.out | apply below_alloc | apply pw_below_drewN | apply below_drew1 | refine below_set ?_ GE160.out) | exact HB.out)) hb); clear BK160; clear HB; have BK160:=n0_; have HB:=n1_; clear n0_ n1_; (try clear hb); (try clear hb2); (try clear hk); (try clear hi); have hcz14_0:w13.cell? ⟨gb160,0,none⟩=some (.int .u64 a0_0):=(blk_cell BK160.out 0).trans rfl; have hcz14_1:w13.cell? ⟨gb160,1,none⟩=some (.bool false):=(blk_cell BK160.out 1).trans rfl; have hfz14_0:=blk_frozen BK160.out 0; have hfz14_1:=blk_frozen BK160.out 1) | ((with_reducible refine gate_callee (f:=26) rfl ?_); refine goesL_ (some 21) rfl rfl Tryz.func26 (by kernel_rfl) rfl #[.agg #[.int .u64 a0_0,.bool false],.int .i64 0] rfl (by (try simp only [List.map_toArray,List.map_cons,List.map_nil]); first | done | rfl | (simp only [List.length_drop,List.length_take]; rfl)) ?_; (with_reducible refine (complineref18_First.calls k a0_0 false 0 t162 t163 _ A10.out).mono ?_); rintro e w15 ⟨rfl,hb⟩; refine ⟨_,rfl,?_⟩; have n0_:=Aside0.mk (blk_below (g:=gb160) (o:=.cells #[.int .u64 a0_0,.bool false] 24 (0,0)) (by (with_reducible repeat (first | refine blk_drewN ?_ _ | refine blk_drew ?_ | refine blk_alloc ?_ _)); exact BK160.out) hb); have n1_:=Aside0.mk (below_step (by repeat (first | (with_reducible first | exact HB.out | apply below_alloc | apply pw_below_drewN | apply below_drew1 | refine below_set ?_ GE160.out) | exact HB.out)) hb); clear BK160; clear HB; have BK160:=n0_; have HB:=n1_; clear n0_ n1_; (try clear hb); (try clear hb2); (try clear hk); (try clear hi)))
   go_loopg [7,8,9] k (fun kq v7 v8 v9 w'=>∃ (x7_1:ByteArray) (x8_1:Int) (x9_1:Bool),v7=.string x7_1∧v8=.int .i64 x8_1∧v9=.bool x9_1∧Aside0 (complineref20_Field.l0 kq x7_1 x8_1 x9_1 a0_0 false=some (r1,r2))∧Aside0 (kq≤k)∧Aside0 (w'.heap[gb160]?=some (.cells #[.int .u64 a0_0,.bool false] 24 (0,0)))∧Aside0 (Below w.heap.size w w'))
   case atStart=>exact ⟨((⟨#[]⟩:ByteArray)),(t162),(t163),(by first | rfl | (simp; done) | (simp [*]; done)),(by first | rfl | (simp; done) | (simp [*]; done)),(by first | rfl | (simp; done) | (simp [*]; done)),H',⟨Nat.le_refl _⟩,⟨by (with_reducible repeat (first | refine blk_drewN ?_ _ | refine blk_drew ?_ | refine blk_alloc ?_ _)); exact BK160.out⟩,⟨by repeat (first | (with_reducible first | exact HB.out | apply below_alloc | apply pw_below_drewN | apply below_drew1 | refine below_set ?_ GE160.out) | exact HB.out)⟩⟩
   case round=>
    clear H'
    try clear c1
    try clear c2
    try clear p2
    try clear c4
    try clear c4b0
    try clear c4b1
    try clear c5
    try clear c11
    try clear hcz12_0
    try clear hcz12_1
    try clear hcz14_0
    try clear hcz14_1
    try clear hcz7_0
    try clear hcz7_1
    try clear hcz9_0
    try clear hcz9_1
    try clear hfz12_0
    try clear hfz12_1
    try clear hfz14_0
    try clear hfz14_1
    try clear hfz7_0
    try clear hfz7_1
    try clear hfz9_0
    try clear hfz9_1
    obtain ⟨x7_1,x8_1,x9_1,rfl,rfl,rfl,HA,HK1,BK160,HB⟩ :=hrel
    cases gk with
    | zero=>exact absurd HA.out (by simp [complineref20_Field.l0])
    | succ k1=>
     have H:=HA.out
     clear HA
     simp only [complineref20_Field.l0] at H
     by_cases c16:x9_1=true
     ·subst c16
      have H1:(if x7_1.toList=([]:List UInt8) then ((complineref20_end.f k1 a0_0 false x8_1).bind fun t164=>((complineref20_run.f k1 x8_1 t164).bind fun t165=>(if x7_1.size+t165.size≤9223372036854775807 then ((complineref18_First.f k1 a0_0 false (wrap64 (t164+1))).bind fun bt166=>(complineref20_Field.l0 k1 (x7_1 ++ t165) bt166.1 bt166.2 a0_0 false)) else (none)))) else (if x7_1.size+1≤9223372036854775807 then ((complineref20_end.f k1 a0_0 false x8_1).bind fun t168=>((complineref20_run.f k1 x8_1 t168).bind fun t169=>(if (x7_1 ++ (⟨#[44]⟩:ByteArray)).size+t169.size≤9223372036854775807 then ((complineref18_First.f k1 a0_0 false (wrap64 (t168+1))).bind fun bt170=>(complineref20_Field.l0 k1 ((x7_1 ++ (⟨#[44]⟩:ByteArray)) ++ t169) bt170.1 bt170.2 a0_0 false)) else (none)))) else (none)))=some (r1,r2):=by rw [if_pos rfl] at H; exact H
      clear H
      have H:=H1
      clear H1
      by_cases c17:x7_1.toList=([]:List UInt8)
      ·rw [if_pos c17] at H
       have c17b0:(x7_1.toList == ([]:List UInt8))=true:=beq_iff_eq.mpr c17
       have c17b1:(x7_1.toList != ([]:List UInt8))=false:=bne_eq_false_iff_eq.mpr c17
       clear c17
       replace H:=Option.bind_eq_some_iff.mp H
       obtain ⟨t164,A180,H⟩ :=H
       replace H:((complineref20_run.f k1 x8_1 t164).bind fun t165=>(if x7_1.size+t165.size≤9223372036854775807 then ((complineref18_First.f k1 a0_0 false (wrap64 (t164+1))).bind fun bt166=>(complineref20_Field.l0 k1 (x7_1 ++ t165) bt166.1 bt166.2 a0_0 false)) else (none)))=some (r1,r2):=H
       have A18:=Aside0.mk A180
       clear A180
       replace H:=Option.bind_eq_some_iff.mp H
       obtain ⟨t165,A190,H⟩ :=H
       replace H:(if x7_1.size+t165.size≤9223372036854775807 then ((complineref18_First.f k1 a0_0 false (wrap64 (t164+1))).bind fun bt166=>(complineref20_Field.l0 k1 (x7_1 ++ t165) bt166.1 bt166.2 a0_0 false)) else (none))=some (r1,r2):=H
       have A19:=Aside0.mk A190
       clear A190
       by_cases c20:x7_1.size+t165.size≤9223372036854775807
       ·rw [if_pos c20] at H
        have c20b0:=eq_true c20
        have c20b1:decide (x7_1.size+t165.size≤9223372036854775807)=true:=decide_eq_true c20
        try have c20b2:(9223372036854775807 < x7_1.size+t165.size)=False:=eq_false (Nat.not_lt.2 c20)
        replace H:=Option.bind_eq_some_iff.mp H
        obtain ⟨⟨t166,t167⟩,A210,H⟩ :=H
        replace H:(complineref20_Field.l0 k1 (x7_1 ++ t165) t166 t167 a0_0 false)=some (r1,r2):=H
        have A21:=Aside0.mk A210
        clear A210
        have H':=Aside0.mk H
        clear H
        have hcz22_0:wr.cell? ⟨gb160,0,none⟩=some (.int .u64 a0_0):=(blk_cell BK160.out 0).trans rfl
        have hcz22_1:wr.cell? ⟨gb160,1,none⟩=some (.bool false):=(blk_cell BK160.out 1).trans rfl
        have hfz22_0:=blk_frozen BK160.out 0
        have hfz22_1:=blk_frozen BK160.out 1
        go_wp2_with (first | ((with_reducible refine gate_callee (f:=27) rfl ?_); refine goesL_ (some 31) rfl rfl Tryz.func27 (by kernel_rfl) rfl #[.agg #[.int .u64 a0_0,.bool false],.int .i64 x8_1] rfl (by (try simp only [List.map_toArray,List.map_cons,List.map_nil]); first | done | rfl | (simp only [List.length_drop,List.length_take]; rfl)) ?_; (with_reducible refine (complineref20_end.calls k1 a0_0 false x8_1 t164 _ A18.out).mono ?_); rintro e w23 ⟨rfl,hb⟩; refine ⟨_,rfl,?_⟩; have n0_:=Aside0.mk (blk_below (g:=gb160) (o:=.cells #[.int .u64 a0_0,.bool false] 24 (0,0)) (by (with_reducible repeat (first | refine blk_drewN ?_ _ | refine blk_drew ?_ | refine blk_alloc ?_ _)); exact BK160.out) hb); have n1_:=Aside0.mk (below_step (by repeat (first | (with_reducible first | exact HB.out | apply below_alloc | apply pw_below_drewN | apply below_drew1 | refine below_set ?_ GE160.out) | exact HB.out)) hb); clear BK160; clear HB; have BK160:=n0_; have HB:=n1_; clear n0_ n1_; (try clear hb); (try clear hb2); (try clear hk); (try clear hi)) | ((with_reducible refine gate_callee (f:=28) rfl ?_); refine goesL_ (some 35) rfl rfl Tryz.func28 (by kernel_rfl) rfl #[.int .i64 x8_1,.int .i64 t164] rfl (by (try simp only [List.map_toArray,List.map_cons,List.map_nil]); first | done | rfl | (simp only [List.length_drop,List.length_take]; rfl)) ?_; (with_reducible refine (complineref20_run.calls k1 x8_1 t164 t165 _ A19.out).mono ?_); rintro e w24 ⟨rfl,hb⟩; refine ⟨_,rfl,?_⟩; have n0_:=Aside0.mk (blk_below (g:=gb160) (o:=.cells #[.int .u64 a0_0,.bool false] 24 (0,0)) (by (with_reducible repeat (first | refine blk_drewN ?_ _ | refine blk_drew ?_ | refine blk_alloc ?_ _)); exact BK160.out) hb); have n1_:=Aside0.mk (below_step (by repeat (first | (with_reducible first | exact HB.out | apply below_alloc | apply pw_below_drewN | apply below_drew1 | refine below_set ?_ GE160.out) | exact HB.out)) hb); clear BK160; clear HB; have BK160:=n0_; have HB:=n1_; clear n0_ n1_; (try clear hb); (try clear hb2); (try clear hk); (try clear hi); have hcz25_0:w24.cell? ⟨gb160,0,none⟩=some (.int .u64 a0_0):=(blk_cell BK160.out 0).trans rfl; have hcz25_1:w24.cell? ⟨gb160,1,none⟩=some (.bool false):=(blk_cell BK160.out 1).trans rfl; have hfz25_0:=blk_frozen BK160.out 0; have hfz25_1:=blk_frozen BK160.out 1) | ((with_reducible refine gate_callee (f:=26) rfl ?_); refine goesL_ (some 41) rfl rfl Tryz.func26 (by kernel_rfl) rfl #[.agg #[.int .u64 a0_0,.bool false],.int .i64 (wrap64 (t164+1))] rfl (by (try simp only [List.map_toArray,List.map_cons,List.map_nil]); first | done | rfl | (simp only [List.length_drop,List.length_take]; rfl)) ?_; (with_reducible refine (complineref18_First.calls k1 a0_0 false (wrap64 (t164+1)) t166 t167 _ A21.out).mono ?_); rintro e w26 ⟨rfl,hb⟩; refine ⟨_,rfl,?_⟩; have n0_:=Aside0.mk (blk_below (g:=gb160) (o:=.cells #[.int .u64 a0_0,.bool false] 24 (0,0)) (by (with_reducible repeat (first | refine blk_drewN ?_ _ | refine blk_drew ?_ | refine blk_alloc ?_ _)); exact BK160.out) hb); have n1_:=Aside0.mk (below_step (by repeat (first | (with_reducible first | exact HB.out | apply below_alloc | apply pw_below_drewN | apply below_drew1 | refine below_set ?_ GE160.out) | exact HB.out)) hb); clear BK160; clear HB; have BK160:=n0_; have HB:=n1_; clear n0_ n1_; (try clear hb); (try clear hb2); (try clear hk); (try clear hi)))
        go_roundg k1
        case measure=>have:=HK1.out; omega
        case rel=>exact ⟨(x7_1 ++ t165),(t166),(t167),(by first | rfl | (simp; done) | (simp [*]; done)),(by first | rfl | (simp; done) | (simp [*]; done)),(by first | rfl | (simp; done) | (simp [*]; done)),H',⟨by have:=HK1.out; omega⟩,⟨by (with_reducible repeat (first | refine blk_drewN ?_ _ | refine blk_drew ?_ | refine blk_alloc ?_ _)); exact BK160.out⟩,⟨by repeat (first | (with_reducible first | exact HB.out | apply below_alloc | apply pw_below_drewN | apply below_drew1 | refine below_set ?_ GE160.out) | exact HB.out)⟩⟩
       ·rw [if_neg c20] at H
        exact absurd H (by simp)
      ·rw [if_neg c17] at H
       have c17b0:(x7_1.toList == ([]:List UInt8))=false:=beq_eq_false_iff_ne.mpr c17
       have c17b1:(x7_1.toList != ([]:List UInt8))=true:=bne_iff_ne.mpr c17
       by_cases c27:x7_1.size+1≤9223372036854775807
       ·rw [if_pos c27] at H
        have c27b0:=eq_true c27
        have c27b1:decide (x7_1.size+1≤9223372036854775807)=true:=decide_eq_true c27
        try have c27b2:(9223372036854775807 < x7_1.size+1)=False:=eq_false (Nat.not_lt.2 c27)
        replace H:=Option.bind_eq_some_iff.mp H
        obtain ⟨t168,A280,H⟩ :=H
        replace H:((complineref20_run.f k1 x8_1 t168).bind fun t169=>(if (x7_1 ++ (⟨#[44]⟩:ByteArray)).size+t169.size≤9223372036854775807 then ((complineref18_First.f k1 a0_0 false (wrap64 (t168+1))).bind fun bt170=>(complineref20_Field.l0 k1 ((x7_1 ++ (⟨#[44]⟩:ByteArray)) ++ t169) bt170.1 bt170.2 a0_0 false)) else (none)))=some (r1,r2):=H
        have A28:=Aside0.mk A280
        clear A280
        replace H:=Option.bind_eq_some_iff.mp H
        obtain ⟨t169,A290,H⟩ :=H
        replace H:(if (x7_1 ++ (⟨#[44]⟩:ByteArray)).size+t169.size≤9223372036854775807 then ((complineref18_First.f k1 a0_0 false (wrap64 (t168+1))).bind fun bt170=>(complineref20_Field.l0 k1 ((x7_1 ++ (⟨#[44]⟩:ByteArray)) ++ t169) bt170.1 bt170.2 a0_0 false)) else (none))=some (r1,r2):=H
        have A29:=Aside0.mk A290
        clear A290
        by_cases c30:(x7_1 ++ (⟨#[44]⟩:ByteArray)).size+t169.size≤9223372036854775807
        ·rw [if_pos c30] at H
         have c30b0:=eq_true c30
         have c30b1:decide ((x7_1 ++ (⟨#[44]⟩:ByteArray)).size+t169.size≤9223372036854775807)=true:=decide_eq_true c30
         try have c30b2:(9223372036854775807 < (x7_1 ++ (⟨#[44]⟩:ByteArray)).size+t169.size)=False:=eq_false (Nat.not_lt.2 c30)
         have c30b3:(9223372036854775807 < x7_1.size+1+t169.size)=False:=eq_false (by have h_:=c30; have l0_:(⟨#[44]⟩:ByteArray).size=1:=rfl; try simp only [ByteArray.size_append,ByteArray.size_extract] at h_; omega)
         replace H:=Option.bind_eq_some_iff.mp H
         obtain ⟨⟨t170,t171⟩,A310,H⟩ :=H
         replace H:(complineref20_Field.l0 k1 ((x7_1 ++ (⟨#[44]⟩:ByteArray)) ++ t169) t170 t171 a0_0 false)=some (r1,r2):=H
         have A31:=Aside0.mk A310
         clear A310
         have H':=Aside0.mk H
         clear H
         have hcz32_0:wr.cell? ⟨gb160,0,none⟩=some (.int .u64 a0_0):=(blk_cell BK160.out 0).trans rfl
         have hcz32_1:wr.cell? ⟨gb160,1,none⟩=some (.bool false):=(blk_cell BK160.out 1).trans rfl
         have hfz32_0:=blk_frozen BK160.out 0
         have hfz32_1:=blk_frozen BK160.out 1
         go_wp2_with (first | ((with_reducible refine gate_callee (f:=27) rfl ?_); refine goesL_ (some 31) rfl rfl Tryz.func27 (by kernel_rfl) rfl #[.agg #[.int .u64 a0_0,.bool false],.int .i64 x8_1] rfl (by (try simp only [List.map_toArray,List.map_cons,List.map_nil]); first | done | rfl | (simp only [List.length_drop,List.length_take]; rfl)) ?_; (with_reducible refine (complineref20_end.calls k1 a0_0 false x8_1 t168 _ A28.out).mono ?_); rintro e w33 ⟨rfl,hb⟩; refine ⟨_,rfl,?_⟩; have n0_:=Aside0.mk (blk_below (g:=gb160) (o:=.cells #[.int .u64 a0_0,.bool false] 24 (0,0)) (by (with_reducible repeat (first | refine blk_drewN ?_ _ | refine blk_drew ?_ | refine blk_alloc ?_ _)); exact BK160.out) hb); have n1_:=Aside0.mk (below_step (by repeat (first | (with_reducible first | exact HB.out | apply below_alloc | apply pw_below_drewN | apply below_drew1 | refine below_set ?_ GE160.out) | exact HB.out)) hb); clear BK160; clear HB; have BK160:=n0_; have HB:=n1_; clear n0_ n1_; (try clear hb); (try clear hb2); (try clear hk); (try clear hi)) | ((with_reducible refine gate_callee (f:=28) rfl ?_); refine goesL_ (some 35) rfl rfl Tryz.func28 (by kernel_rfl) rfl #[.int .i64 x8_1,.int .i64 t168] rfl (by (try simp only [List.map_toArray,List.map_cons,List.map_nil]); first | done | rfl | (simp only [List.length_drop,List.length_take]; rfl)) ?_; (with_reducible refine (complineref20_run.calls k1 x8_1 t168 t169 _ A29.out).mono ?_); rintro e w34 ⟨rfl,hb⟩; refine ⟨_,rfl,?_⟩; have n0_:=Aside0.mk (blk_below (g:=gb160) (o:=.cells #[.int .u64 a0_0,.bool false] 24 (0,0)) (by (with_reducible repeat (first | refine blk_drewN ?_ _ | refine blk_drew ?_ | refine blk_alloc ?_ _)); exact BK160.out) hb); have n1_:=Aside0.mk (below_step (by repeat (first | (with_reducible first | exact HB.out | apply below_alloc | apply pw_below_drewN | apply below_drew1 | refine below_set ?_ GE160.out) | exact HB.out)) hb); clear BK160; clear HB; have BK160:=n0_; have HB:=n1_; clear n0_ n1_; (try clear hb); (try clear hb2); (try clear hk); (try clear hi); have hcz35_0:w34.cell? ⟨gb160,0,none⟩=some (.int .u64 a0_0):=(blk_cell BK160.out 0).trans rfl; have hcz35_1:w34.cell? ⟨gb160,1,none⟩=some (.bool false):=(blk_cell BK160.out 1).trans rfl; have hfz35_0:=blk_frozen BK160.out 0; have hfz35_1:=blk_frozen BK160.out 1) | ((with_reducible refine gate_callee (f:=26) rfl ?_); refine goesL_ (some 41) rfl rfl Tryz.func26 (by kernel_rfl) rfl #[.agg #[.int .u64 a0_0,.bool false],.int .i64 (wrap64 (t168+1))] rfl (by (try simp only [List.map_toArray,List.map_cons,List.map_nil]); first | done | rfl | (simp only [List.length_drop,List.length_take]; rfl)) ?_; (with_reducible refine (complineref18_First.calls k1 a0_0 false (wrap64 (t168+1)) t170 t171 _ A31.out).mono ?_); rintro e w36 ⟨rfl,hb⟩; refine ⟨_,rfl,?_⟩; have n0_:=Aside0.mk (blk_below (g:=gb160) (o:=.cells #[.int .u64 a0_0,.bool false] 24 (0,0)) (by (with_reducible repeat (first | refine blk_drewN ?_ _ | refine blk_drew ?_ | refine blk_alloc ?_ _)); exact BK160.out) hb); have n1_:=Aside0.mk (below_step (by repeat (first | (with_reducible first | exact HB.out | apply below_alloc | apply pw_below_drewN | apply below_drew1 | refine below_set ?_ GE160.out) | exact HB.out)) hb); clear BK160; clear HB; have BK160:=n0_; have HB:=n1_; clear n0_ n1_; (try clear hb); (try clear hb2); (try clear hk); (try clear hi)))
         go_roundg k1
         case measure=>have:=HK1.out; omega
         case rel=>exact ⟨((x7_1 ++ (⟨#[44]⟩:ByteArray)) ++ t169),(t170),(t171),(by first | rfl | (simp; done) | (simp [*]; done)),(by first | rfl | (simp; done) | (simp [*]; done)),(by first | rfl | (simp; done) | (simp [*]; done)),H',⟨by have:=HK1.out; omega⟩,⟨by (with_reducible repeat (first | refine blk_drewN ?_ _ | refine blk_drew ?_ | refine blk_alloc ?_ _)); exact BK160.out⟩,⟨by repeat (first | (with_reducible first | exact HB.out | apply below_alloc | apply pw_below_drewN | apply below_drew1 | refine below_set ?_ GE160.out) | exact HB.out)⟩⟩
        ·rw [if_neg c30] at H
         exact absurd H (by simp)
       ·rw [if_neg c27] at H
        exact absurd H (by simp)
     ·replace c16:=Bool.eq_false_iff.mpr c16
      subst c16
      have H1:(some (x7_1,0))=some (r1,r2):=by rw [if_neg (show ¬ (false=true) by decide)] at H; exact H
      clear H
      have H:=H1
      clear H1
      simp only [Option.some.injEq,Prod.mk.injEq] at H
      obtain ⟨rfl,rfl⟩ :=H
      go_wp2
      go_ret2
      exact ⟨by first | rfl | (simp [errW_none,errW_some] <;> rfl) | (simp [*,errW_none,errW_some] <;> rfl),by repeat (first | (with_reducible first | exact HB.out | apply below_alloc | apply pw_below_drewN | apply below_drew1 | refine below_set ?_ GE160.out) | exact HB.out)⟩
 ·rw [if_neg c4] at H
  have c4b0:(t161 == 0)=false:=beq_eq_false_iff_ne.mpr c4
  have c4b1:(t161 != 0)=true:=bne_iff_ne.mpr c4
  simp only [Option.some.injEq,Prod.mk.injEq] at H
  obtain ⟨rfl,rfl⟩ :=H
  go_enter Tryz.func11,Tryz.ntmps11
  go_wp2_with (first | ((with_reducible refine gate_dst (N:=2) rfl ?_); refine box_event ?hg (N:=2) ?hd (cs:=#[.int .u64 a0_0,.bool a0_1]) (t:=24) ?hr ?_; (case hd=>rfl); (case hg=>rfl); (case hr=>first | (go_simp; done) | (go_simp; rfl)); intro gb160 hg w37 hbox hb; have n0_:=Aside0.mk (below_step (by repeat (first | (with_reducible first | exact HB.out | apply below_alloc | apply pw_below_drewN | apply below_drew1) | exact HB.out)) hb); have n1_:=Aside0.mk (hbox); have n2_:=Aside0.mk ((by rw [hg]; exact (below_size (by repeat (first | (with_reducible first | exact HB.out | apply below_alloc | apply pw_below_drewN | apply below_drew1) | exact HB.out))):w.heap.size≤gb160)); have n3_:=Aside0.mk ((by rw [hg]; exact (below_size (by repeat (first | (with_reducible first | exact HB.out | apply below_alloc | apply pw_below_drewN | apply below_drew1) | exact HB.out))):w.heap.size≤gb160)); clear HB; have HB:=n0_; have BK160:=n1_; have GW160:=n2_; have GE160:=n3_; clear n0_ n1_ n2_ n3_; clear hb hbox hg; have hcz38_0:w37.cell? ⟨gb160,0,none⟩=some (.int .u64 a0_0):=(blk_cell BK160.out 0).trans rfl; have hcz38_1:w37.cell? ⟨gb160,1,none⟩=some (.bool a0_1):=(blk_cell BK160.out 1).trans rfl; have hfz38_0:=blk_frozen BK160.out 0; have hfz38_1:=blk_frozen BK160.out 1) | ((with_reducible refine gate_callee (f:=25) rfl ?_); refine goesL_ (some 13) rfl rfl Tryz.func25 (by kernel_rfl) rfl #[.agg #[.int .u64 a0_0,.bool a0_1],.int .i64 a1] rfl (by (try simp only [List.map_toArray,List.map_cons,List.map_nil]); first | done | rfl | (simp only [List.length_drop,List.length_take]; rfl)) ?_; (with_reducible refine (complineref18_Check.calls k a0_0 a0_1 a1 t161 _ A3.out).mono ?_); rintro e w39 ⟨rfl,hb⟩; refine ⟨_,rfl,?_⟩; have n0_:=Aside0.mk (blk_below (g:=gb160) (o:=.cells #[.int .u64 a0_0,.bool a0_1] 24 (0,0)) (by (with_reducible repeat (first | refine blk_drewN ?_ _ | refine blk_drew ?_ | refine blk_alloc ?_ _)); exact BK160.out) hb); have n1_:=Aside0.mk (below_step (by repeat (first | (with_reducible first | exact HB.out | apply below_alloc | apply pw_below_drewN | apply below_drew1 | refine below_set ?_ GE160.out) | exact HB.out)) hb); clear BK160; clear HB; have BK160:=n0_; have HB:=n1_; clear n0_ n1_; (try clear hb); (try clear hb2); (try clear hk); (try clear hi)))
  go_ret2
  exact ⟨by first | rfl | (simp [errW_none,errW_some] <;> rfl) | (simp [*,errW_none,errW_some] <;> rfl),by repeat (first | (with_reducible first | exact HB.out | apply below_alloc | apply pw_below_drewN | apply below_drew1 | refine below_set ?_ GE160.out) | exact HB.out)⟩
def complineref19_Fields.f (a0_0:Int)(a0_1:Bool)(a0_2:Int)(a0_3:Bool)(a0_4:Int)(a0_5:Bool)(a0_6:Int)(a0_7:Bool)(a0_8:Int)(a0_9:Bool):Option ((List (S24))):=some (([(⟨a0_0,a0_1⟩:S24),(⟨a0_2,a0_3⟩:S24),(⟨a0_4,a0_5⟩:S24),(⟨a0_6,a0_7⟩:S24),(⟨a0_8,a0_9⟩:S24)]:List (S24)))
set_option maxHeartbeats 8000000 in
set_option maxRecDepth 100000 in
theorem complineref19_Fields.calls (a0_0:Int)(a0_1:Bool)(a0_2:Int)(a0_3:Bool)(a0_4:Int)(a0_5:Bool)(a0_6:Int)(a0_7:Bool)(a0_8:Int)(a0_9:Bool)(r:List (S24))(w:World)(h:complineref19_Fields.f a0_0 a0_1 a0_2 a0_3 a0_4 a0_5 a0_6 a0_7 a0_8 a0_9=some r) :
  Calls Tryz.prog 32 #[.agg #[.int .u64 a0_0,.bool a0_1,.int .u64 a0_2,.bool a0_3,.int .u64 a0_4,.bool a0_5,.int .u64 a0_6,.bool a0_7,.int .u64 a0_8,.bool a0_9]] w fun e w'=>∃ v0_:Value,e=.returned (v0_)∧Kd.R k24 24 w' w.heap.size (fun _=>True) v0_ r∧Below w.heap.size w w':=by
 have hu31:=Tryz.underlying31
 have hu24:=Tryz.underlying24
 have HB:=Aside0.mk (Below.refl w.heap.size w)
 have H:(some (([(⟨a0_0,a0_1⟩:S24),(⟨a0_2,a0_3⟩:S24),(⟨a0_4,a0_5⟩:S24),(⟨a0_6,a0_7⟩:S24),(⟨a0_8,a0_9⟩:S24)]:List (S24))))=some r:=h
 clear h
 obtain ⟨y179,hy179⟩:∃ y_:List (S24),y_=(([(⟨a0_0,a0_1⟩:S24),(⟨a0_2,a0_3⟩:S24),(⟨a0_4,a0_5⟩:S24),(⟨a0_6,a0_7⟩:S24),(⟨a0_8,a0_9⟩:S24)]:List (S24))):=⟨_,rfl⟩
 replace H:(some y179)=some r:=by first | (rw [hy179]; with_reducible exact H) | (have H2_:=(Option.bind_some _ _).symm.trans H; rw [hy179]; with_reducible exact H2_) | (have H2_:=(Option.bind_some _ _).symm.trans H; with_reducible exact H2_) | with_reducible exact H | (rw [hy179]; exact H) | exact H
 have Ny179:=Aside0.mk hy179
 clear hy179
 obtain rfl:=Option.some.inj H
 go_enter Tryz.func32,Tryz.ntmps32
 go_wp2_with (first | ((with_reducible refine gate_dst (N:=1) rfl ?_); refine box_event ?hg (N:=1) ?hd (cs:=#[.int .u64 a0_0,.bool a0_1,.int .u64 a0_2,.bool a0_3,.int .u64 a0_4,.bool a0_5,.int .u64 a0_6,.bool a0_7,.int .u64 a0_8,.bool a0_9]) (t:=31) ?hr ?_; (case hd=>rfl); (case hg=>rfl); (case hr=>first | (go_simp; done) | (go_simp; rfl)); intro gb178 hg w2 hbox hb; have n0_:=Aside0.mk (below_step (by repeat (first | (with_reducible first | exact HB.out | apply below_alloc | apply pw_below_drewN | apply below_drew1) | exact HB.out)) hb); have n1_:=Aside0.mk (hbox); have n2_:=Aside0.mk ((by rw [hg]; exact (below_size (by repeat (first | (with_reducible first | exact HB.out | apply below_alloc | apply pw_below_drewN | apply below_drew1) | exact HB.out))):w.heap.size≤gb178)); have n3_:=Aside0.mk ((by rw [hg]; exact (below_size (by repeat (first | (with_reducible first | exact HB.out | apply below_alloc | apply pw_below_drewN | apply below_drew1) | exact HB.out))):w.heap.size≤gb178)); clear HB; have HB:=n0_; have BK178:=n1_; have GW178:=n2_; have GE178:=n3_; clear n0_ n1_ n2_ n3_; clear hb hbox hg; have hcz3_0:w2.cell? ⟨gb178,0,none⟩=some (.int .u64 a0_0):=(blk_cell BK178.out 0).trans rfl; have hcz3_1:w2.cell? ⟨gb178,1,none⟩=some (.bool a0_1):=(blk_cell BK178.out 1).trans rfl; have hcz3_2:w2.cell? ⟨gb178,2,none⟩=some (.int .u64 a0_2):=(blk_cell BK178.out 2).trans rfl; have hcz3_3:w2.cell? ⟨gb178,3,none⟩=some (.bool a0_3):=(blk_cell BK178.out 3).trans rfl; have hcz3_4:w2.cell? ⟨gb178,4,none⟩=some (.int .u64 a0_4):=(blk_cell BK178.out 4).trans rfl; have hcz3_5:w2.cell? ⟨gb178,5,none⟩=some (.bool a0_5):=(blk_cell BK178.out 5).trans rfl; have hcz3_6:w2.cell? ⟨gb178,6,none⟩=some (.int .u64 a0_6):=(blk_cell BK178.out 6).trans rfl; have hcz3_7:w2.cell? ⟨gb178,7,none⟩=some (.bool a0_7):=(blk_cell BK178.out 7).trans rfl; have hcz3_8:w2.cell? ⟨gb178,8,none⟩=some (.int .u64 a0_8):=(blk_cell BK178.out 8).trans rfl; have hcz3_9:w2.cell? ⟨gb178,9,none⟩=some (.bool a0_9):=(blk_cell BK178.out 9).trans rfl; have hfz3_0:=blk_frozen BK178.out 0; have hfz3_1:=blk_frozen BK178.out 1; have hfz3_2:=blk_frozen BK178.out 2; have hfz3_3:=blk_frozen BK178.out 3; have hfz3_4:=blk_frozen BK178.out 4; have hfz3_5:=blk_frozen BK178.out 5; have hfz3_6:=blk_frozen BK178.out 6; have hfz3_7:=blk_frozen BK178.out 7; have hfz3_8:=blk_frozen BK178.out 8; have hfz3_9:=blk_frozen BK178.out 9) | ((with_reducible refine gate_dst (N:=13) rfl ?_); refine Kd.R_lit k24 _ 24 ?hg (N:=13) ?hd (xs:=([(⟨a0_0,a0_1⟩:S24),(⟨a0_2,a0_3⟩:S24),(⟨a0_4,a0_5⟩:S24),(⟨a0_6,a0_7⟩:S24),(⟨a0_8,a0_9⟩:S24)]:List (S24))) (inner:=[.int .u64 a0_0,.bool a0_1,.int .u64 a0_2,.bool a0_3,.int .u64 a0_4,.bool a0_5,.int .u64 a0_6,.bool a0_7,.int .u64 a0_8,.bool a0_9]) (ok:=fun _=>True) (okp:=fun _=>True) ?hr ?hp (fun _ hk=>hk) trivial (Below.refl _ _) (Nat.le_refl _) (by simp) ?_; (case hd=>rfl); (case hg=>rfl); (case hr=>first | (go_simp; done) | (go_simp; rfl)); (case hp=>exact (Reps.c2 (show Kd.M k24 _ _ _ (⟨a0_0,a0_1⟩:S24) [.int .u64 a0_0,.bool a0_1] from (k24_mkM _ _ _ (⟨a0_0,a0_1⟩:S24) )) (Reps.c2 (show Kd.M k24 _ _ _ (⟨a0_2,a0_3⟩:S24) [.int .u64 a0_2,.bool a0_3] from (k24_mkM _ _ _ (⟨a0_2,a0_3⟩:S24) )) (Reps.c2 (show Kd.M k24 _ _ _ (⟨a0_4,a0_5⟩:S24) [.int .u64 a0_4,.bool a0_5] from (k24_mkM _ _ _ (⟨a0_4,a0_5⟩:S24) )) (Reps.c2 (show Kd.M k24 _ _ _ (⟨a0_6,a0_7⟩:S24) [.int .u64 a0_6,.bool a0_7] from (k24_mkM _ _ _ (⟨a0_6,a0_7⟩:S24) )) (Reps.c2 (show Kd.M k24 _ _ _ (⟨a0_8,a0_9⟩:S24) [.int .u64 a0_8,.bool a0_9] from (k24_mkM _ _ _ (⟨a0_8,a0_9⟩:S24) )) (Reps.none _ _))))))); intro v180 w4 ho5 hb hg_ hnew_; clear hg_ hnew_; (first | rw [← Ny179.out] at ho5 | (simp only [Int.reduceToNat] at ho5; rw [← Ny179.out] at ho5)); have n0_:=Aside0.mk (Kd.R_lower ho5 (below_size (by repeat (first | (with_reducible first | exact HB.out | apply below_alloc | apply pw_below_drewN | apply below_drew1 | refine below_set ?_ GE178.out) | exact HB.out)))); have n1_:=Aside0.mk (blk_below (g:=gb178) (o:=.cells #[.int .u64 a0_0,.bool a0_1,.int .u64 a0_2,.bool a0_3,.int .u64 a0_4,.bool a0_5,.int .u64 a0_6,.bool a0_7,.int .u64 a0_8,.bool a0_9] 31 (0,0)) (by (with_reducible repeat (first | refine blk_drewN ?_ _ | refine blk_drew ?_ | refine blk_alloc ?_ _)); exact BK178.out) hb); have n2_:=Aside0.mk (below_step (by repeat (first | (with_reducible first | exact HB.out | apply below_alloc | apply pw_below_drewN | apply below_drew1 | refine below_set ?_ GE178.out) | exact HB.out)) hb); clear BK178; clear HB; have HO181:=n0_; have BK178:=n1_; have HB:=n2_; clear n0_ n1_ n2_; clear hb ho5))
 go_ret
 exact ⟨_,by first | rfl | (simp [errW_none,errW_some] <;> rfl) | (simp [*,errW_none,errW_some] <;> rfl),by (with_reducible repeat (first | apply Kd.R_alloc | apply Kd.R_drewN | apply Kd.R_drew)); exact HO181.out,by repeat (first | (with_reducible first | exact HB.out | apply below_alloc | apply pw_below_drewN | apply below_drew1 | refine below_set ?_ GE178.out) | exact HB.out)⟩
def complineref19_Check.l0:Nat→List (S24)→Int→Option (Int × Int)
 | 0,_,_=>none
 | k+1,x4,x5=>if x5 < 5 then (if 0≤x5 then (if x5 < (x4.length:Int) then ((complineref18_Check.f k ((rd_T24 x4 x5).f0) ((rd_T24 x4 x5).f1) x5).bind fun t187=>(if t187=0 then (complineref19_Check.l0 k x4 (wrap64 (x5+1))) else (some (wrap64 (x5+1),t187)))) else (none)) else (none)) else (some (0,0))
def complineref19_Check.f (k:Nat)(a0_0:Int)(a0_1:Bool)(a0_2:Int)(a0_3:Bool)(a0_4:Int)(a0_5:Bool)(a0_6:Int)(a0_7:Bool)(a0_8:Int)(a0_9:Bool):Option (Int × Int):=(complineref19_Fields.f a0_0 a0_1 a0_2 a0_3 a0_4 a0_5 a0_6 a0_7 a0_8 a0_9).bind fun t183=>(complineref19_Check.l0 k t183 0)
set_option maxHeartbeats 8000000 in
set_option maxRecDepth 100000 in
theorem complineref19_Check.calls (k:Nat)(a0_0:Int)(a0_1:Bool)(a0_2:Int)(a0_3:Bool)(a0_4:Int)(a0_5:Bool)(a0_6:Int)(a0_7:Bool)(a0_8:Int)(a0_9:Bool)(r1:Int)(r2:Int)(w:World)(h:complineref19_Check.f k a0_0 a0_1 a0_2 a0_3 a0_4 a0_5 a0_6 a0_7 a0_8 a0_9=some (r1,r2)) :
  Calls Tryz.prog 31 #[.agg #[.int .u64 a0_0,.bool a0_1,.int .u64 a0_2,.bool a0_3,.int .u64 a0_4,.bool a0_5,.int .u64 a0_6,.bool a0_7,.int .u64 a0_8,.bool a0_9]] w fun e w'=>e=.returned (.tuple #[.int .i64 r1,.int .i64 r2])∧Below w.heap.size w w':=by
 have hu31:=Tryz.underlying31
 have hu24:=Tryz.underlying24
 have HB:=Aside0.mk (Below.refl w.heap.size w)
 have H:((complineref19_Fields.f a0_0 a0_1 a0_2 a0_3 a0_4 a0_5 a0_6 a0_7 a0_8 a0_9).bind fun t183=>(complineref19_Check.l0 k t183 0))=some (r1,r2):=h
 clear h
 replace H:=Option.bind_eq_some_iff.mp H
 obtain ⟨t183,A20,H⟩ :=H
 replace H:(complineref19_Check.l0 k t183 0)=some (r1,r2):=H
 have A2:=Aside0.mk A20
 clear A20
 have H':=Aside0.mk H
 clear H
 go_enter Tryz.func31,Tryz.ntmps31
 go_wp2_with (first | ((with_reducible refine gate_dst (N:=1) rfl ?_); refine box_event ?hg (N:=1) ?hd (cs:=#[.int .u64 a0_0,.bool a0_1,.int .u64 a0_2,.bool a0_3,.int .u64 a0_4,.bool a0_5,.int .u64 a0_6,.bool a0_7,.int .u64 a0_8,.bool a0_9]) (t:=31) ?hr ?_; (case hd=>rfl); (case hg=>rfl); (case hr=>first | (go_simp; done) | (go_simp; rfl)); intro gb182 hg w3 hbox hb; have n0_:=Aside0.mk (below_step (by repeat (first | (with_reducible first | exact HB.out | apply below_alloc | apply pw_below_drewN | apply below_drew1) | exact HB.out)) hb); have n1_:=Aside0.mk (hbox); have n2_:=Aside0.mk ((by rw [hg]; exact (below_size (by repeat (first | (with_reducible first | exact HB.out | apply below_alloc | apply pw_below_drewN | apply below_drew1) | exact HB.out))):w.heap.size≤gb182)); have n3_:=Aside0.mk ((by rw [hg]; exact (below_size (by repeat (first | (with_reducible first | exact HB.out | apply below_alloc | apply pw_below_drewN | apply below_drew1) | exact HB.out))):w.heap.size≤gb182)); clear HB; have HB:=n0_; have BK182:=n1_; have GW182:=n2_; have GE182:=n3_; clear n0_ n1_ n2_ n3_; clear hb hbox hg; have hcz4_0:w3.cell? ⟨gb182,0,none⟩=some (.int .u64 a0_0):=(blk_cell BK182.out 0).trans rfl; have hcz4_1:w3.cell? ⟨gb182,1,none⟩=some (.bool a0_1):=(blk_cell BK182.out 1).trans rfl; have hcz4_2:w3.cell? ⟨gb182,2,none⟩=some (.int .u64 a0_2):=(blk_cell BK182.out 2).trans rfl; have hcz4_3:w3.cell? ⟨gb182,3,none⟩=some (.bool a0_3):=(blk_cell BK182.out 3).trans rfl; have hcz4_4:w3.cell? ⟨gb182,4,none⟩=some (.int .u64 a0_4):=(blk_cell BK182.out 4).trans rfl; have hcz4_5:w3.cell? ⟨gb182,5,none⟩=some (.bool a0_5):=(blk_cell BK182.out 5).trans rfl; have hcz4_6:w3.cell? ⟨gb182,6,none⟩=some (.int .u64 a0_6):=(blk_cell BK182.out 6).trans rfl; have hcz4_7:w3.cell? ⟨gb182,7,none⟩=some (.bool a0_7):=(blk_cell BK182.out 7).trans rfl; have hcz4_8:w3.cell? ⟨gb182,8,none⟩=some (.int .u64 a0_8):=(blk_cell BK182.out 8).trans rfl; have hcz4_9:w3.cell? ⟨gb182,9,none⟩=some (.bool a0_9):=(blk_cell BK182.out 9).trans rfl; have hfz4_0:=blk_frozen BK182.out 0; have hfz4_1:=blk_frozen BK182.out 1; have hfz4_2:=blk_frozen BK182.out 2; have hfz4_3:=blk_frozen BK182.out 3; have hfz4_4:=blk_frozen BK182.out 4; have hfz4_5:=blk_frozen BK182.out 5; have hfz4_6:=blk_frozen BK182.out 6; have hfz4_7:=blk_frozen BK182.out 7; have hfz4_8:=blk_frozen BK182.out 8; have hfz4_9:=blk_frozen BK182.out 9) | ((with_reducible refine gate_callee (f:=32) rfl ?_); refine goesL_ (some 8) rfl rfl Tryz.func32 (by kernel_rfl) rfl #[.agg #[.int .u64 a0_0,.bool a0_1,.int .u64 a0_2,.bool a0_3,.int .u64 a0_4,.bool a0_5,.int .u64 a0_6,.bool a0_7,.int .u64 a0_8,.bool a0_9]] rfl (by (try simp only [List.map_toArray,List.map_cons,List.map_nil]); first | done | rfl | (simp only [List.length_drop,List.length_take]; rfl)) ?_; (with_reducible refine (complineref19_Fields.calls a0_0 a0_1 a0_2 a0_3 a0_4 a0_5 a0_6 a0_7 a0_8 a0_9 t183 _ A2.out).mono ?_); rintro e w5 ⟨v184,rfl,ho0,hb⟩; refine ⟨_,rfl,?_⟩; have n0_:=Aside0.mk (Kd.R_lower ho0 (below_size (by repeat (first | (with_reducible first | exact HB.out | apply below_alloc | apply pw_below_drewN | apply below_drew1 | refine below_set ?_ GE182.out) | exact HB.out)))); have n1_:=Aside0.mk (blk_below (g:=gb182) (o:=.cells #[.int .u64 a0_0,.bool a0_1,.int .u64 a0_2,.bool a0_3,.int .u64 a0_4,.bool a0_5,.int .u64 a0_6,.bool a0_7,.int .u64 a0_8,.bool a0_9] 31 (0,0)) (by (with_reducible repeat (first | refine blk_drewN ?_ _ | refine blk_drew ?_ | refine blk_alloc ?_ _)); exact BK182.out) hb); have n2_:=Aside0.mk (below_step (by repeat (first | (with_reducible first | exact HB.out | apply below_alloc | apply pw_below_drewN | apply below_drew1 | refine below_set ?_ GE182.out) | exact HB.out)) hb); clear BK182; clear HB; have HO185:=n0_; have BK182:=n1_; have HB:=n2_; clear n0_ n1_ n2_; (try clear hb); (try clear hb2); (try clear hk); (try clear hi); (try clear ho0)))
 go_loopg [5] k (fun kq v5 w'=>∃ (x5_1:Int),v5=.int .i64 x5_1∧Aside0 (complineref19_Check.l0 kq t183 x5_1=some (r1,r2))∧Aside0 (kq≤k)∧Aside0 (Kd.R k24 24 w' w.heap.size (fun _=>True) v184 t183)∧Aside0 (w'.heap[gb182]?=some (.cells #[.int .u64 a0_0,.bool a0_1,.int .u64 a0_2,.bool a0_3,.int .u64 a0_4,.bool a0_5,.int .u64 a0_6,.bool a0_7,.int .u64 a0_8,.bool a0_9] 31 (0,0)))∧Aside0 (Below w.heap.size w w'))
 case atStart=>exact ⟨(0),(by first | rfl | (simp; done) | (simp [*]; done)),H',⟨Nat.le_refl _⟩,⟨by (with_reducible repeat (first | apply Kd.R_alloc | apply Kd.R_drewN | apply Kd.R_drew)); exact HO185.out⟩,⟨by (with_reducible repeat (first | refine blk_drewN ?_ _ | refine blk_drew ?_ | refine blk_alloc ?_ _)); exact BK182.out⟩,⟨by repeat (first | (with_reducible first | exact HB.out | apply below_alloc | apply pw_below_drewN | apply below_drew1 | refine below_set ?_ GE182.out) | exact HB.out)⟩⟩
 case round=>
  clear H'
  try clear p2
  try clear c3
  try clear hcz4_0
  try clear hcz4_1
  try clear hcz4_2
  try clear hcz4_3
  try clear hcz4_4
  try clear hcz4_5
  try clear hcz4_6
  try clear hcz4_7
  try clear hcz4_8
  try clear hcz4_9
  try clear hfz4_0
  try clear hfz4_1
  try clear hfz4_2
  try clear hfz4_3
  try clear hfz4_4
  try clear hfz4_5
  try clear hfz4_6
  try clear hfz4_7
  try clear hfz4_8
  try clear hfz4_9
  obtain ⟨x5_1,rfl,HA,HK1,HO_4,BK182,HB⟩ :=hrel
  cases gk with
  | zero=>exact absurd HA.out (by simp [complineref19_Check.l0])
  | succ k1=>
   have H:=HA.out
   clear HA
   simp only [complineref19_Check.l0] at H
   by_cases c6:x5_1 < 5
   ·rw [if_pos c6] at H
    have c6b0:decide (x5_1 < 5)=true:=decide_eq_true c6
    clear c6
    by_cases c7:0≤x5_1
    ·rw [if_pos c7] at H
     have c7b0:decide (0≤x5_1)=true:=decide_eq_true c7
     clear c7
     by_cases c8:x5_1 < (t183.length:Int)
     ·rw [if_pos c8] at H
      have c8b0:decide (x5_1 < (t183.length:Int))=true:=decide_eq_true c8
      clear c8
      replace H:=Option.bind_eq_some_iff.mp H
      obtain ⟨t187,A90,H⟩ :=H
      replace H:(if t187=0 then (complineref19_Check.l0 k1 t183 (wrap64 (x5_1+1))) else (some (wrap64 (x5_1+1),t187)))=some (r1,r2):=H
      have A9:=Aside0.mk A90
      clear A90
      by_cases c10:t187=0
      ·rw [if_pos c10] at H
       have c10b0:(t187 == 0)=true:=beq_iff_eq.mpr c10
       have c10b1:(t187 != 0)=false:=bne_eq_false_iff_eq.mpr c10
       clear c10
       have H':=Aside0.mk H
       clear H
       obtain ⟨Ao11,co11,eo11⟩ :=Kd.R_slice HO_4.out
       subst eo11
       have p186:0≤(x5_1:Int):=of_decide_eq_true (by first | (with_reducible assumption) | assumption)
       have q186:x5_1 < (t183.length:Int):=of_decide_eq_true (by first | (with_reducible assumption) | assumption)
       obtain ⟨ad186,e186,hx186_0,hx186_1⟩ :=at_T24 (Kd.R_reads' HO_4.out).2.2 x5_1 p186 q186
       cases e186
       replace p186:=eq_true p186
       replace q186:=eq_true q186
       go_wp2_with (first | ((with_reducible refine gate_callee (f:=25) rfl ?_); refine goesL_ (some 18) rfl rfl Tryz.func25 (by kernel_rfl) rfl #[.agg #[.int .u64 ((rd_T24 t183 x5_1).f0),.bool ((rd_T24 t183 x5_1).f1)],.int .i64 x5_1] rfl (by (try simp only [List.map_toArray,List.map_cons,List.map_nil]); first | done | rfl | (simp only [List.length_drop,List.length_take]; rfl)) ?_; (with_reducible refine (complineref18_Check.calls k1 ((rd_T24 t183 x5_1).f0) ((rd_T24 t183 x5_1).f1) x5_1 t187 _ A9.out).mono ?_); rintro e w12 ⟨rfl,hb⟩; refine ⟨_,rfl,?_⟩; have n0_:=Aside0.mk (Kd.R_below (by (with_reducible repeat (first | apply Kd.R_alloc | apply Kd.R_drewN | apply Kd.R_drew)); exact HO_4.out) hb); have n1_:=Aside0.mk (blk_below (g:=gb182) (o:=.cells #[.int .u64 a0_0,.bool a0_1,.int .u64 a0_2,.bool a0_3,.int .u64 a0_4,.bool a0_5,.int .u64 a0_6,.bool a0_7,.int .u64 a0_8,.bool a0_9] 31 (0,0)) (by (with_reducible repeat (first | refine blk_drewN ?_ _ | refine blk_drew ?_ | refine blk_alloc ?_ _)); exact BK182.out) hb); have n2_:=Aside0.mk (below_step (by repeat (first | (with_reducible first | exact HB.out | apply below_alloc | apply pw_below_drewN | apply below_drew1 | refine below_set ?_ GE182.out) | exact HB.out)) hb); clear HO_4; clear BK182; clear HB; have HO_4:=n0_; have BK182:=n1_; have HB:=n2_; clear n0_ n1_ n2_; (try clear hb); (try clear hb2); (try clear hk); (try clear hi)))
       go_roundg k1
       case measure=>have:=HK1.out; omega
       case rel=>exact ⟨(wrap64 (x5_1+1)),(by first | rfl | (simp; done) | (simp [*]; done)),H',⟨by have:=HK1.out; omega⟩,⟨by (with_reducible repeat (first | apply Kd.R_alloc | apply Kd.R_drewN | apply Kd.R_drew)); exact HO_4.out⟩,⟨by (with_reducible repeat (first | refine blk_drewN ?_ _ | refine blk_drew ?_ | refine blk_alloc ?_ _)); exact BK182.out⟩,⟨by repeat (first | (with_reducible first | exact HB.out | apply below_alloc | apply pw_below_drewN | apply below_drew1 | refine below_set ?_ GE182.out) | exact HB.out)⟩⟩
      ·rw [if_neg c10] at H
       have c10b0:(t187 == 0)=false:=beq_eq_false_iff_ne.mpr c10
       have c10b1:(t187 != 0)=true:=bne_iff_ne.mpr c10
       simp only [Option.some.injEq,Prod.mk.injEq] at H
       obtain ⟨rfl,rfl⟩ :=H
       obtain ⟨Ao13,co13,eo13⟩ :=Kd.R_slice HO_4.out
       subst eo13
       have p186:0≤(x5_1:Int):=of_decide_eq_true (by first | (with_reducible assumption) | assumption)
       have q186:x5_1 < (t183.length:Int):=of_decide_eq_true (by first | (with_reducible assumption) | assumption)
       obtain ⟨ad186,e186,hx186_0,hx186_1⟩ :=at_T24 (Kd.R_reads' HO_4.out).2.2 x5_1 p186 q186
       cases e186
       replace p186:=eq_true p186
       replace q186:=eq_true q186
       go_wp2_with (first | ((with_reducible refine gate_callee (f:=25) rfl ?_); refine goesL_ (some 18) rfl rfl Tryz.func25 (by kernel_rfl) rfl #[.agg #[.int .u64 ((rd_T24 t183 x5_1).f0),.bool ((rd_T24 t183 x5_1).f1)],.int .i64 x5_1] rfl (by (try simp only [List.map_toArray,List.map_cons,List.map_nil]); first | done | rfl | (simp only [List.length_drop,List.length_take]; rfl)) ?_; (with_reducible refine (complineref18_Check.calls k1 ((rd_T24 t183 x5_1).f0) ((rd_T24 t183 x5_1).f1) x5_1 t187 _ A9.out).mono ?_); rintro e w14 ⟨rfl,hb⟩; refine ⟨_,rfl,?_⟩; have n0_:=Aside0.mk (Kd.R_below (by (with_reducible repeat (first | apply Kd.R_alloc | apply Kd.R_drewN | apply Kd.R_drew)); exact HO_4.out) hb); have n1_:=Aside0.mk (blk_below (g:=gb182) (o:=.cells #[.int .u64 a0_0,.bool a0_1,.int .u64 a0_2,.bool a0_3,.int .u64 a0_4,.bool a0_5,.int .u64 a0_6,.bool a0_7,.int .u64 a0_8,.bool a0_9] 31 (0,0)) (by (with_reducible repeat (first | refine blk_drewN ?_ _ | refine blk_drew ?_ | refine blk_alloc ?_ _)); exact BK182.out) hb); have n2_:=Aside0.mk (below_step (by repeat (first | (with_reducible first | exact HB.out | apply below_alloc | apply pw_below_drewN | apply below_drew1 | refine below_set ?_ GE182.out) | exact HB.out)) hb); clear HO_4; clear BK182; clear HB; have HO_4:=n0_; have BK182:=n1_; have HB:=n2_; clear n0_ n1_ n2_; (try clear hb); (try clear hb2); (try clear hk); (try clear hi)))
       go_ret2
       exact ⟨by first | rfl | (simp [errW_none,errW_some] <;> rfl) | (simp [*,errW_none,errW_some] <;> rfl),by repeat (first | (with_reducible first | exact HB.out | apply below_alloc | apply pw_below_drewN | apply below_drew1 | refine below_set ?_ GE182.out) | exact HB.out)⟩
     ·rw [if_neg c8] at H
      exact absurd H (by simp)
    ·rw [if_neg c7] at H
     exact absurd H (by simp)
   ·rw [if_neg c6] at H
    have c6b0:decide (x5_1 < 5)=false:=decide_eq_false c6
    clear c6
    simp only [Option.some.injEq,Prod.mk.injEq] at H
    obtain ⟨rfl,rfl⟩ :=H
    go_wp2
    go_ret2
    exact ⟨by first | rfl | (simp [errW_none,errW_some] <;> rfl) | (simp [*,errW_none,errW_some] <;> rfl),by repeat (first | (with_reducible first | exact HB.out | apply below_alloc | apply pw_below_drewN | apply below_drew1 | refine below_set ?_ GE182.out) | exact HB.out)⟩
def complineref20_Spec.l0:Nat→ByteArray→List (S24)→Int→Option (ByteArray × Int × Int)
 | 0,_,_,_=>none
 | k+1,x7,x8,x9=>if x9 < 5 then (if 0≤x9 then (if x9 < (x8.length:Int) then ((complineref20_Field.f k ((rd_T24 x8 x9).f0) ((rd_T24 x8 x9).f1) x9).bind fun bt195=>(if x9 > 0 then (if x7.size+1≤9223372036854775807 then (if (x7 ++ (⟨#[32]⟩:ByteArray)).size+bt195.1.size≤9223372036854775807 then (complineref20_Spec.l0 k ((x7 ++ (⟨#[32]⟩:ByteArray)) ++ bt195.1) x8 (wrap64 (x9+1))) else (none)) else (none)) else (if x7.size+bt195.1.size≤9223372036854775807 then (complineref20_Spec.l0 k (x7 ++ bt195.1) x8 (wrap64 (x9+1))) else (none)))) else (none)) else (none)) else (some (x7,0,0))
def complineref20_Spec.f (k:Nat)(a0_0:Int)(a0_1:Bool)(a0_2:Int)(a0_3:Bool)(a0_4:Int)(a0_5:Bool)(a0_6:Int)(a0_7:Bool)(a0_8:Int)(a0_9:Bool):Option (ByteArray × Int × Int):=(complineref19_Check.f k a0_0 a0_1 a0_2 a0_3 a0_4 a0_5 a0_6 a0_7 a0_8 a0_9).bind fun bt189=>(if bt189.2=0 then ((complineref19_Fields.f a0_0 a0_1 a0_2 a0_3 a0_4 a0_5 a0_6 a0_7 a0_8 a0_9).bind fun t191=>(complineref20_Spec.l0 k (⟨#[]⟩:ByteArray) t191 0)) else (some ((⟨#[]⟩:ByteArray),bt189.1,bt189.2)))
set_option maxHeartbeats 8000000 in
set_option maxRecDepth 100000 in
theorem complineref20_Spec.calls (k:Nat)(a0_0:Int)(a0_1:Bool)(a0_2:Int)(a0_3:Bool)(a0_4:Int)(a0_5:Bool)(a0_6:Int)(a0_7:Bool)(a0_8:Int)(a0_9:Bool)(r1:ByteArray)(r2:Int)(r3:Int)(w:World)(h:complineref20_Spec.f k a0_0 a0_1 a0_2 a0_3 a0_4 a0_5 a0_6 a0_7 a0_8 a0_9=some (r1,r2,r3)) :
  Calls Tryz.prog 13 #[.agg #[.int .u64 a0_0,.bool a0_1,.int .u64 a0_2,.bool a0_3,.int .u64 a0_4,.bool a0_5,.int .u64 a0_6,.bool a0_7,.int .u64 a0_8,.bool a0_9]] w fun e w'=>e=.returned (.tuple #[.string r1,.int .i64 r2,.int .i64 r3])∧Below w.heap.size w w':=by
 have hu31:=Tryz.underlying31
 have hu24:=Tryz.underlying24
 have HB:=Aside0.mk (Below.refl w.heap.size w)
 have H:((complineref19_Check.f k a0_0 a0_1 a0_2 a0_3 a0_4 a0_5 a0_6 a0_7 a0_8 a0_9).bind fun bt189=>(if bt189.2=0 then ((complineref19_Fields.f a0_0 a0_1 a0_2 a0_3 a0_4 a0_5 a0_6 a0_7 a0_8 a0_9).bind fun t191=>(complineref20_Spec.l0 k (⟨#[]⟩:ByteArray) t191 0)) else (some ((⟨#[]⟩:ByteArray),bt189.1,bt189.2))))=some (r1,r2,r3):=h
 clear h
 replace H:=Option.bind_eq_some_iff.mp H
 obtain ⟨⟨t189,t190⟩,A20,H⟩ :=H
 replace H:(if t190=0 then ((complineref19_Fields.f a0_0 a0_1 a0_2 a0_3 a0_4 a0_5 a0_6 a0_7 a0_8 a0_9).bind fun t191=>(complineref20_Spec.l0 k (⟨#[]⟩:ByteArray) t191 0)) else (some ((⟨#[]⟩:ByteArray),t189,t190)))=some (r1,r2,r3):=H
 have A2:=Aside0.mk A20
 clear A20
 by_cases c3:t190=0
 ·rw [if_pos c3] at H
  have c3b0:(t190 == 0)=true:=beq_iff_eq.mpr c3
  have c3b1:(t190 != 0)=false:=bne_eq_false_iff_eq.mpr c3
  clear c3
  replace H:=Option.bind_eq_some_iff.mp H
  obtain ⟨t191,A40,H⟩ :=H
  replace H:(complineref20_Spec.l0 k (⟨#[]⟩:ByteArray) t191 0)=some (r1,r2,r3):=H
  have A4:=Aside0.mk A40
  clear A40
  have H':=Aside0.mk H
  clear H
  go_enter Tryz.func13,Tryz.ntmps13
  go_wp2_with (first | ((with_reducible refine gate_dst (N:=1) rfl ?_); refine box_event ?hg (N:=1) ?hd (cs:=#[.int .u64 a0_0,.bool a0_1,.int .u64 a0_2,.bool a0_3,.int .u64 a0_4,.bool a0_5,.int .u64 a0_6,.bool a0_7,.int .u64 a0_8,.bool a0_9]) (t:=31) ?hr ?_; (case hd=>rfl); (case hg=>rfl); (case hr=>first | (go_simp; done) | (go_simp; rfl)); intro gb188 hg w5 hbox hb; have n0_:=Aside0.mk (below_step (by repeat (first | (with_reducible first | exact HB.out | apply below_alloc | apply pw_below_drewN | apply below_drew1) | exact HB.out)) hb); have n1_:=Aside0.mk (hbox); have n2_:=Aside0.mk ((by rw [hg]; exact (below_size (by repeat (first | (with_reducible first | exact HB.out | apply below_alloc | apply pw_below_drewN | apply below_drew1) | exact HB.out))):w.heap.size≤gb188)); have n3_:=Aside0.mk ((by rw [hg]; exact (below_size (by repeat (first | (with_reducible first | exact HB.out | apply below_alloc | apply pw_below_drewN | apply below_drew1) | exact HB.out))):w.heap.size≤gb188)); clear HB; have HB:=n0_; have BK188:=n1_; have GW188:=n2_; have GE188:=n3_; clear n0_ n1_ n2_ n3_; clear hb hbox hg; have hcz6_0:w5.cell? ⟨gb188,0,none⟩=some (.int .u64 a0_0):=(blk_cell BK188.out 0).trans rfl; have hcz6_1:w5.cell? ⟨gb188,1,none⟩=some (.bool a0_1):=(blk_cell BK188.out 1).trans rfl; have hcz6_2:w5.cell? ⟨gb188,2,none⟩=some (.int .u64 a0_2):=(blk_cell BK188.out 2).trans rfl; have hcz6_3:w5.cell? ⟨gb188,3,none⟩=some (.bool a0_3):=(blk_cell BK188.out 3).trans rfl; have hcz6_4:w5.cell? ⟨gb188,4,none⟩=some (.int .u64 a0_4):=(blk_cell BK188.out 4).trans rfl; have hcz6_5:w5.cell? ⟨gb188,5,none⟩=some (.bool a0_5):=(blk_cell BK188.out 5).trans rfl; have hcz6_6:w5.cell? ⟨gb188,6,none⟩=some (.int .u64 a0_6):=(blk_cell BK188.out 6).trans rfl; have hcz6_7:w5.cell? ⟨gb188,7,none⟩=some (.bool a0_7):=(blk_cell BK188.out 7).trans rfl; have hcz6_8:w5.cell? ⟨gb188,8,none⟩=some (.int .u64 a0_8):=(blk_cell BK188.out 8).trans rfl; have hcz6_9:w5.cell? ⟨gb188,9,none⟩=some (.bool a0_9):=(blk_cell BK188.out 9).trans rfl; have hfz6_0:=blk_frozen BK188.out 0; have hfz6_1:=blk_frozen BK188.out 1; have hfz6_2:=blk_frozen BK188.out 2; have hfz6_3:=blk_frozen BK188.out 3; have hfz6_4:=blk_frozen BK188.out 4; have hfz6_5:=blk_frozen BK188.out 5; have hfz6_6:=blk_frozen BK188.out 6; have hfz6_7:=blk_frozen BK188.out 7; have hfz6_8:=blk_frozen BK188.out 8; have hfz6_9:=blk_frozen BK188.out 9) | ((with_reducible refine gate_callee (f:=31) rfl ?_); refine goesL_ (some 14) rfl rfl Tryz.func31 (by kernel_rfl) rfl #[.agg #[.int .u64 a0_0,.bool a0_1,.int .u64 a0_2,.bool a0_3,.int .u64 a0_4,.bool a0_5,.int .u64 a0_6,.bool a0_7,.int .u64 a0_8,.bool a0_9]] rfl (by (try simp only [List.map_toArray,List.map_cons,List.map_nil]); first | done | rfl | (simp only [List.length_drop,List.length_take]; rfl)) ?_; (with_reducible refine (complineref19_Check.calls k a0_0 a0_1 a0_2 a0_3 a0_4 a0_5 a0_6 a0_7 a0_8 a0_9 t189 t190 _ A2.out).mono ?_); rintro e w7 ⟨rfl,hb⟩; refine ⟨_,rfl,?_⟩; have n0_:=Aside0.mk (blk_below (g:=gb188) (o:=.cells #[.int .u64 a0_0,.bool a0_1,.int .u64 a0_2,.bool a0_3,.int .u64 a0_4,.bool a0_5,.int .u64 a0_6,.bool a0_7,.int .u64 a0_8,.bool a0_9] 31 (0,0)) (by (with_reducible repeat (first | refine blk_drewN ?_ _ | refine blk_drew ?_ | refine blk_alloc ?_ _)); exact BK188.out) hb); have n1_:=Aside0.mk (below_step (by repeat (first | (with_reducible first | exact HB.out | apply below_alloc | apply pw_below_drewN | apply below_drew1 | refine below_set ?_ GE188.out) | exact HB.out)) hb); clear BK188; clear HB; have BK188:=n0_; have HB:=n1_; clear n0_ n1_; (try clear hb); (try clear hb2); (try clear hk); (try clear hi); have hcz8_0:w7.cell? ⟨gb188,0,none⟩=some (.int .u64 a0_0):=(blk_cell BK188.out 0).trans rfl; have hcz8_1:w7.cell? ⟨gb188,1,none⟩=some (.bool a0_1):=(blk_cell BK188.out 1).trans rfl; have hcz8_2:w7.cell? ⟨gb188,2,none⟩=some (.int .u64 a0_2):=(blk_cell BK188.out 2).trans rfl; have hcz8_3:w7.cell? ⟨gb188,3,none⟩=some (.bool a0_3):=(blk_cell BK188.out 3).trans rfl; have hcz8_4:w7.cell? ⟨gb188,4,none⟩=some (.int .u64 a0_4):=(blk_cell BK188.out 4).trans rfl; have hcz8_5:w7.cell? ⟨gb188,5,none⟩=some (.bool a0_5):=(blk_cell BK188.out 5).trans rfl; have hcz8_6:w7.cell? ⟨gb188,6,none⟩=some (.int .u64 a0_6):=(blk_cell BK188.out 6).trans rfl; have hcz8_7:w7.cell? ⟨gb188,7,none⟩=some (.bool a0_7):=(blk_cell BK188.out 7).trans rfl; have hcz8_8:w7.cell? ⟨gb188,8,none⟩=some (.int .u64 a0_8):=(blk_cell BK188.out 8).trans rfl; have hcz8_9:w7.cell? ⟨gb188,9,none⟩=some (.bool a0_9):=(blk_cell BK188.out 9).trans rfl; have hfz8_0:=blk_frozen BK188.out 0; have hfz8_1:=blk_frozen BK188.out 1; have hfz8_2:=blk_frozen BK188.out 2; have hfz8_3:=blk_frozen BK188.out 3; have hfz8_4:=blk_frozen BK188.out 4; have hfz8_5:=blk_frozen BK188.out 5; have hfz8_6:=blk_frozen BK188.out 6; have hfz8_7:=blk_frozen BK188.out 7; have hfz8_8:=blk_frozen BK188.out 8; have hfz8_9:=blk_frozen BK188.out 9) | ((with_reducible refine gate_callee (f:=32) rfl ?_); refine goesL_ (some 22) rfl rfl Tryz.func32 (by kernel_rfl) rfl #[.agg #[.int .u64 a0_0,.bool a0_1,.int .u64 a0_2,.bool a0_3,.int .u64 a0_4,.bool a0_5,.int .u64 a0_6,.bool a0_7,.int .u64 a0_8,.bool a0_9]] rfl (by (try simp only [List.map_toArray,List.map_cons,List.map_nil]); first | done | rfl | (simp only [List.length_drop,List.length_take]; rfl)) ?_; (with_reducible refine (complineref19_Fields.calls a0_0 a0_1 a0_2 a0_3 a0_4 a0_5 a0_6 a0_7 a0_8 a0_9 t191 _ A4.out).mono ?_); rintro e w9 ⟨v192,rfl,ho0,hb⟩; refine ⟨_,rfl,?_⟩; have n0_:=Aside0.mk (Kd.R_lower ho0 (below_size (by repeat (first | (with_reducible first | exact HB.out | apply below_alloc | apply pw_below_drewN | apply below_drew1 | refine below_set ?_ GE188.out) | exact HB.out)))); have n1_:=Aside0.mk (blk_below (g:=gb188) (o:=.cells #[.int .u64 a0_0,.bool a0_1,.int .u64 a0_2,.bool a0_3,.int .u64 a0_4,.bool a0_5,.int .u64 a0_6,.bool a0_7,.int .u64 a0_8,.bool a0_9] 31 (0,0)) (by (with_reducible repeat (first | refine blk_drewN ?_ _ | refine blk_drew ?_ | refine blk_alloc ?_ _)); exact BK188.out) hb); have n2_:=Aside0.mk (below_step (by repeat (first | (with_reducible first | exact HB.out | apply below_alloc | apply pw_below_drewN | apply below_drew1 | refine below_set ?_ GE188.out) | exact HB.out)) hb); clear BK188; clear HB; have HO193:=n0_; have BK188:=n1_; have HB:=n2_; clear n0_ n1_ n2_; (try clear hb); (try clear hb2); (try clear hk); (try clear hi); (try clear ho0)))
  go_loopg [7,9] k (fun kq v7 v9 w'=>∃ (x7_1:ByteArray) (x9_1:Int),v7=.string x7_1∧v9=.int .i64 x9_1∧Aside0 (complineref20_Spec.l0 kq x7_1 t191 x9_1=some (r1,r2,r3))∧Aside0 (kq≤k)∧Aside0 (Kd.R k24 24 w' w.heap.size (fun _=>True) v192 t191)∧Aside0 (w'.heap[gb188]?=some (.cells #[.int .u64 a0_0,.bool a0_1,.int .u64 a0_2,.bool a0_3,.int .u64 a0_4,.bool a0_5,.int .u64 a0_6,.bool a0_7,.int .u64 a0_8,.bool a0_9] 31 (0,0)))∧Aside0 (Below w.heap.size w w'))
  case atStart=>exact ⟨((⟨#[]⟩:ByteArray)),(0),(by first | rfl | (simp; done) | (simp [*]; done)),(by first | rfl | (simp; done) | (simp [*]; done)),H',⟨Nat.le_refl _⟩,⟨by (with_reducible repeat (first | apply Kd.R_alloc | apply Kd.R_drewN | apply Kd.R_drew)); exact HO193.out⟩,⟨by (with_reducible repeat (first | refine blk_drewN ?_ _ | refine blk_drew ?_ | refine blk_alloc ?_ _)); exact BK188.out⟩,⟨by repeat (first | (with_reducible first | exact HB.out | apply below_alloc | apply pw_below_drewN | apply below_drew1 | refine below_set ?_ GE188.out) | exact HB.out)⟩⟩
  case round=>
   clear H'
   try clear c1
   try clear p2
   try clear c3
   try clear c3b0
   try clear c3b1
   try clear hcz6_0
   try clear hcz6_1
   try clear hcz6_2
   try clear hcz6_3
   try clear hcz6_4
   try clear hcz6_5
   try clear hcz6_6
   try clear hcz6_7
   try clear hcz6_8
   try clear hcz6_9
   try clear hcz8_0
   try clear hcz8_1
   try clear hcz8_2
   try clear hcz8_3
   try clear hcz8_4
   try clear hcz8_5
   try clear hcz8_6
   try clear hcz8_7
   try clear hcz8_8
   try clear hcz8_9
   try clear hfz6_0
   try clear hfz6_1
   try clear hfz6_2
   try clear hfz6_3
   try clear hfz6_4
   try clear hfz6_5
   try clear hfz6_6
   try clear hfz6_7
   try clear hfz6_8
   try clear hfz6_9
   try clear hfz8_0
   try clear hfz8_1
   try clear hfz8_2
   try clear hfz8_3
   try clear hfz8_4
   try clear hfz8_5
   try clear hfz8_6
   try clear hfz8_7
   try clear hfz8_8
   try clear hfz8_9
   obtain ⟨x7_1,x9_1,rfl,rfl,HA,HK1,HO_8,BK188,HB⟩ :=hrel
   cases gk with
   | zero=>exact absurd HA.out (by simp [complineref20_Spec.l0])
   | succ k1=>
    have H:=HA.out
    clear HA
    simp only [complineref20_Spec.l0] at H
    by_cases c10:x9_1 < 5
    ·rw [if_pos c10] at H
     have c10b0:decide (x9_1 < 5)=true:=decide_eq_true c10
     clear c10
     by_cases c11:0≤x9_1
     ·rw [if_pos c11] at H
      have c11b0:decide (0≤x9_1)=true:=decide_eq_true c11
      clear c11
      by_cases c12:x9_1 < (t191.length:Int)
      ·rw [if_pos c12] at H
       have c12b0:decide (x9_1 < (t191.length:Int))=true:=decide_eq_true c12
       clear c12
       replace H:=Option.bind_eq_some_iff.mp H
       obtain ⟨⟨t195,t196⟩,A130,H⟩ :=H
       replace H:(if x9_1 > 0 then (if x7_1.size+1≤9223372036854775807 then (if (x7_1 ++ (⟨#[32]⟩:ByteArray)).size+t195.size≤9223372036854775807 then (complineref20_Spec.l0 k1 ((x7_1 ++ (⟨#[32]⟩:ByteArray)) ++ t195) t191 (wrap64 (x9_1+1))) else (none)) else (none)) else (if x7_1.size+t195.size≤9223372036854775807 then (complineref20_Spec.l0 k1 (x7_1 ++ t195) t191 (wrap64 (x9_1+1))) else (none)))=some (r1,r2,r3):=H
       have A13:=Aside0.mk A130
       clear A130
       by_cases c14:x9_1 > 0
       ·rw [if_pos c14] at H
        have c14b0:decide (0 < x9_1)=true:=decide_eq_true c14
        clear c14
        by_cases c15:x7_1.size+1≤9223372036854775807
        ·rw [if_pos c15] at H
         have c15b0:=eq_true c15
         have c15b1:decide (x7_1.size+1≤9223372036854775807)=true:=decide_eq_true c15
         try have c15b2:(9223372036854775807 < x7_1.size+1)=False:=eq_false (Nat.not_lt.2 c15)
         by_cases c16:(x7_1 ++ (⟨#[32]⟩:ByteArray)).size+t195.size≤9223372036854775807
         ·rw [if_pos c16] at H
          have c16b0:=eq_true c16
          have c16b1:decide ((x7_1 ++ (⟨#[32]⟩:ByteArray)).size+t195.size≤9223372036854775807)=true:=decide_eq_true c16
          try have c16b2:(9223372036854775807 < (x7_1 ++ (⟨#[32]⟩:ByteArray)).size+t195.size)=False:=eq_false (Nat.not_lt.2 c16)
          have c16b3:(9223372036854775807 < x7_1.size+1+t195.size)=False:=eq_false (by have h_:=c16; have l0_:(⟨#[32]⟩:ByteArray).size=1:=rfl; try simp only [ByteArray.size_append,ByteArray.size_extract] at h_; omega)
          have H':=Aside0.mk H
          clear H
          obtain ⟨Ao17,co17,eo17⟩ :=Kd.R_slice HO_8.out
          subst eo17
          have p194:0≤(x9_1:Int):=of_decide_eq_true (by first | (with_reducible assumption) | assumption)
          have q194:x9_1 < (t191.length:Int):=of_decide_eq_true (by first | (with_reducible assumption) | assumption)
          obtain ⟨ad194,e194,hx194_0,hx194_1⟩ :=at_T24 (Kd.R_reads' HO_8.out).2.2 x9_1 p194 q194
          cases e194
          replace p194:=eq_true p194
          replace q194:=eq_true q194
          go_wp2_with (first | ((with_reducible refine gate_callee (f:=11) rfl ?_); refine goesL_ (some 33) rfl rfl Tryz.func11 (by kernel_rfl) rfl #[.agg #[.int .u64 ((rd_T24 t191 x9_1).f0),.bool ((rd_T24 t191 x9_1).f1)],.int .i64 x9_1] rfl (by (try simp only [List.map_toArray,List.map_cons,List.map_nil]); first | done | rfl | (simp only [List.length_drop,List.length_take]; rfl)) ?_; (with_reducible refine (complineref20_Field.calls k1 ((rd_T24 t191 x9_1).f0) ((rd_T24 t191 x9_1).f1) x9_1 t195 t196 _ A13.out).mono ?_); rintro e w18 ⟨rfl,hb⟩; refine ⟨_,rfl,?_⟩; have n0_:=Aside0.mk (Kd.R_below (by (with_reducible repeat (first | apply Kd.R_alloc | apply Kd.R_drewN | apply Kd.R_drew)); exact HO_8.out) hb); have n1_:=Aside0.mk (blk_below (g:=gb188) (o:=.cells #[.int .u64 a0_0,.bool a0_1,.int .u64 a0_2,.bool a0_3,.int .u64 a0_4,.bool a0_5,.int .u64 a0_6,.bool a0_7,.int .u64 a0_8,.bool a0_9] 31 (0,0)) (by (with_reducible repeat (first | refine blk_drewN ?_ _ | refine blk_drew ?_ | refine blk_alloc ?_ _)); exact BK188.out) hb); have n2_:=Aside0.mk (below_step (by repeat (first | (with_reducible first | exact HB.out | apply below_alloc | apply pw_below_drewN | apply below_drew1 | refine below_set ?_ GE188.out) | exact HB.out)) hb); clear HO_8; clear BK188; clear HB; have HO_8:=n0_; have BK188:=n1_; have HB:=n2_; clear n0_ n1_ n2_; (try clear hb); (try clear hb2); (try clear hk); (try clear hi)))
          go_roundg k1
          case measure=>have:=HK1.out; omega
          case rel=>exact ⟨((x7_1 ++ (⟨#[32]⟩:ByteArray)) ++ t195),(wrap64 (x9_1+1)),(by first | rfl | (simp; done) | (simp [*]; done)),(by first | rfl | (simp; done) | (simp [*]; done)),H',⟨by have:=HK1.out; omega⟩,⟨by (with_reducible repeat (first | apply Kd.R_alloc | apply Kd.R_drewN | apply Kd.R_drew)); exact HO_8.out⟩,⟨by (with_reducible repeat (first | refine blk_drewN ?_ _ | refine blk_drew ?_ | refine blk_alloc ?_ _)); exact BK188.out⟩,⟨by repeat (first | (with_reducible first | exact HB.out | apply below_alloc | apply pw_below_drewN | apply below_drew1 | refine below_set ?_ GE188.out) | exact HB.out)⟩⟩
         ·rw [if_neg c16] at H
          exact absurd H (by simp)
        ·rw [if_neg c15] at H
         exact absurd H (by simp)
       ·rw [if_neg c14] at H
        have c14b0:decide (0 < x9_1)=false:=decide_eq_false c14
        clear c14
        by_cases c19:x7_1.size+t195.size≤9223372036854775807
        ·rw [if_pos c19] at H
         have c19b0:=eq_true c19
         have c19b1:decide (x7_1.size+t195.size≤9223372036854775807)=true:=decide_eq_true c19
         try have c19b2:(9223372036854775807 < x7_1.size+t195.size)=False:=eq_false (Nat.not_lt.2 c19)
         have H':=Aside0.mk H
         clear H
         obtain ⟨Ao20,co20,eo20⟩ :=Kd.R_slice HO_8.out
         subst eo20
         have p194:0≤(x9_1:Int):=of_decide_eq_true (by first | (with_reducible assumption) | assumption)
         have q194:x9_1 < (t191.length:Int):=of_decide_eq_true (by first | (with_reducible assumption) | assumption)
         obtain ⟨ad194,e194,hx194_0,hx194_1⟩ :=at_T24 (Kd.R_reads' HO_8.out).2.2 x9_1 p194 q194
         cases e194
         replace p194:=eq_true p194
         replace q194:=eq_true q194
         go_wp2_with (first | ((with_reducible refine gate_callee (f:=11) rfl ?_); refine goesL_ (some 33) rfl rfl Tryz.func11 (by kernel_rfl) rfl #[.agg #[.int .u64 ((rd_T24 t191 x9_1).f0),.bool ((rd_T24 t191 x9_1).f1)],.int .i64 x9_1] rfl (by (try simp only [List.map_toArray,List.map_cons,List.map_nil]); first | done | rfl | (simp only [List.length_drop,List.length_take]; rfl)) ?_; (with_reducible refine (complineref20_Field.calls k1 ((rd_T24 t191 x9_1).f0) ((rd_T24 t191 x9_1).f1) x9_1 t195 t196 _ A13.out).mono ?_); rintro e w21 ⟨rfl,hb⟩; refine ⟨_,rfl,?_⟩; have n0_:=Aside0.mk (Kd.R_below (by (with_reducible repeat (first | apply Kd.R_alloc | apply Kd.R_drewN | apply Kd.R_drew)); exact HO_8.out) hb); have n1_:=Aside0.mk (blk_below (g:=gb188) (o:=.cells #[.int .u64 a0_0,.bool a0_1,.int .u64 a0_2,.bool a0_3,.int .u64 a0_4,.bool a0_5,.int .u64 a0_6,.bool a0_7,.int .u64 a0_8,.bool a0_9] 31 (0,0)) (by (with_reducible repeat (first | refine blk_drewN ?_ _ | refine blk_drew ?_ | refine blk_alloc ?_ _)); exact BK188.out) hb); have n2_:=Aside0.mk (below_step (by repeat (first | (with_reducible first | exact HB.out | apply below_alloc | apply pw_below_drewN | apply below_drew1 | refine below_set ?_ GE188.out) | exact HB.out)) hb); clear HO_8; clear BK188; clear HB; have HO_8:=n0_; have BK188:=n1_; have HB:=n2_; clear n0_ n1_ n2_; (try clear hb); (try clear hb2); (try clear hk); (try clear hi)))
         go_roundg k1
         case measure=>have:=HK1.out; omega
         case rel=>exact ⟨(x7_1 ++ t195),(wrap64 (x9_1+1)),(by first | rfl | (simp; done) | (simp [*]; done)),(by first | rfl | (simp; done) | (simp [*]; done)),H',⟨by have:=HK1.out; omega⟩,⟨by (with_reducible repeat (first | apply Kd.R_alloc | apply Kd.R_drewN | apply Kd.R_drew)); exact HO_8.out⟩,⟨by (with_reducible repeat (first | refine blk_drewN ?_ _ | refine blk_drew ?_ | refine blk_alloc ?_ _)); exact BK188.out⟩,⟨by repeat (first | (with_reducible first | exact HB.out | apply below_alloc | apply pw_below_drewN | apply below_drew1 | refine below_set ?_ GE188.out) | exact HB.out)⟩⟩
        ·rw [if_neg c19] at H
         exact absurd H (by simp)
      ·rw [if_neg c12] at H
       exact absurd H (by simp)
     ·rw [if_neg c11] at H
      exact absurd H (by simp)
    ·rw [if_neg c10] at H
     have c10b0:decide (x9_1 < 5)=false:=decide_eq_false c10
     clear c10
     simp only [Option.some.injEq,Prod.mk.injEq] at H
     obtain ⟨rfl,rfl,rfl⟩ :=H
     go_wp2
     go_ret3
     exact ⟨by first | rfl | (simp [errW_none,errW_some] <;> rfl) | (simp [*,errW_none,errW_some] <;> rfl),by repeat (first | (with_reducible first | exact HB.out | apply below_alloc | apply pw_below_drewN | apply below_drew1 | refine below_set ?_ GE188.out) | exact HB.out)⟩
 ·rw [if_neg c3] at H
  have c3b0:(t190 == 0)=false:=beq_eq_false_iff_ne.mpr c3
  have c3b1:(t190 != 0)=true:=bne_iff_ne.mpr c3
  simp only [Option.some.injEq,Prod.mk.injEq] at H
  obtain ⟨rfl,rfl,rfl⟩ :=H
  go_enter Tryz.func13,Tryz.ntmps13
  go_wp2_with (first | ((with_reducible refine gate_dst (N:=1) rfl ?_); refine box_event ?hg (N:=1) ?hd (cs:=#[.int .u64 a0_0,.bool a0_1,.int .u64 a0_2,.bool a0_3,.int .u64 a0_4,.bool a0_5,.int .u64 a0_6,.bool a0_7,.int .u64 a0_8,.bool a0_9]) (t:=31) ?hr ?_; (case hd=>rfl); (case hg=>rfl); (case hr=>first | (go_simp; done) | (go_simp; rfl)); intro gb188 hg w22 hbox hb; have n0_:=Aside0.mk (below_step (by repeat (first | (with_reducible first | exact HB.out | apply below_alloc | apply pw_below_drewN | apply below_drew1) | exact HB.out)) hb); have n1_:=Aside0.mk (hbox); have n2_:=Aside0.mk ((by rw [hg]; exact (below_size (by repeat (first | (with_reducible first | exact HB.out | apply below_alloc | apply pw_below_drewN | apply below_drew1) | exact HB.out))):w.heap.size≤gb188)); have n3_:=Aside0.mk ((by rw [hg]; exact (below_size (by repeat (first | (with_reducible first | exact HB.out | apply below_alloc | apply pw_below_drewN | apply below_drew1) | exact HB.out))):w.heap.size≤gb188)); clear HB; have HB:=n0_; have BK188:=n1_; have GW188:=n2_; have GE188:=n3_; clear n0_ n1_ n2_ n3_; clear hb hbox hg; have hcz23_0:w22.cell? ⟨gb188,0,none⟩=some (.int .u64 a0_0):=(blk_cell BK188.out 0).trans rfl; have hcz23_1:w22.cell? ⟨gb188,1,none⟩=some (.bool a0_1):=(blk_cell BK188.out 1).trans rfl; have hcz23_2:w22.cell? ⟨gb188,2,none⟩=some (.int .u64 a0_2):=(blk_cell BK188.out 2).trans rfl; have hcz23_3:w22.cell? ⟨gb188,3,none⟩=some (.bool a0_3):=(blk_cell BK188.out 3).trans rfl; have hcz23_4:w22.cell? ⟨gb188,4,none⟩=some (.int .u64 a0_4):=(blk_cell BK188.out 4).trans rfl; have hcz23_5:w22.cell? ⟨gb188,5,none⟩=some (.bool a0_5):=(blk_cell BK188.out 5).trans rfl; have hcz23_6:w22.cell? ⟨gb188,6,none⟩=some (.int .u64 a0_6):=(blk_cell BK188.out 6).trans rfl; have hcz23_7:w22.cell? ⟨gb188,7,none⟩=some (.bool a0_7):=(blk_cell BK188.out 7).trans rfl; have hcz23_8:w22.cell? ⟨gb188,8,none⟩=some (.int .u64 a0_8):=(blk_cell BK188.out 8).trans rfl; have hcz23_9:w22.cell? ⟨gb188,9,none⟩=some (.bool a0_9):=(blk_cell BK188.out 9).trans rfl; have hfz23_0:=blk_frozen BK188.out 0; have hfz23_1:=blk_frozen BK188.out 1; have hfz23_2:=blk_frozen BK188.out 2; have hfz23_3:=blk_frozen BK188.out 3; have hfz23_4:=blk_frozen BK188.out 4; have hfz23_5:=blk_frozen BK188.out 5; have hfz23_6:=blk_frozen BK188.out 6; have hfz23_7:=blk_frozen BK188.out 7; have hfz23_8:=blk_frozen BK188.out 8; have hfz23_9:=blk_frozen BK188.out 9) | ((with_reducible refine gate_callee (f:=31) rfl ?_); refine goesL_ (some 14) rfl rfl Tryz.func31 (by kernel_rfl) rfl #[.agg #[.int .u64 a0_0,.bool a0_1,.int .u64 a0_2,.bool a0_3,.int .u64 a0_4,.bool a0_5,.int .u64 a0_6,.bool a0_7,.int .u64 a0_8,.bool a0_9]] rfl (by (try simp only [List.map_toArray,List.map_cons,List.map_nil]); first | done | rfl | (simp only [List.length_drop,List.length_take]; rfl)) ?_; (with_reducible refine (complineref19_Check.calls k a0_0 a0_1 a0_2 a0_3 a0_4 a0_5 a0_6 a0_7 a0_8 a0_9 t189 t190 _ A2.out).mono ?_); rintro e w24 ⟨rfl,hb⟩; refine ⟨_,rfl,?_⟩; have n0_:=Aside0.mk (blk_below (g:=gb188) (o:=.cells #[.int .u64 a0_0,.bool a0_1,.int .u64 a0_2,.bool a0_3,.int .u64 a0_4,.bool a0_5,.int .u64 a0_6,.bool a0_7,.int .u64 a0_8,.bool a0_9] 31 (0,0)) (by (with_reducible repeat (first | refine blk_drewN ?_ _ | refine blk_drew ?_ | refine blk_alloc ?_ _)); exact BK188.out) hb); have n1_:=Aside0.mk (below_step (by repeat (first | (with_reducible first | exact HB.out | apply below_alloc | apply pw_below_drewN | apply below_drew1 | refine below_set ?_ GE188.out) | exact HB.out)) hb); clear BK188; clear HB; have BK188:=n0_; have HB:=n1_; clear n0_ n1_; (try clear hb); (try clear hb2); (try clear hk); (try clear hi)))
  go_ret3
  exact ⟨by first | rfl | (simp [errW_none,errW_some] <;> rfl) | (simp [*,errW_none,errW_some] <;> rfl),by repeat (first | (with_reducible first | exact HB.out | apply below_alloc | apply pw_below_drewN | apply below_drew1 | refine below_set ?_ GE188.out) | exact HB.out)⟩
def complineref17_blank.f (a0:Int):Option (Bool):=if a0=32 then (some true) else (some (a0 == 9))
set_option maxHeartbeats 8000000 in
set_option maxRecDepth 100000 in
theorem complineref17_blank.calls (a0:Int)(r:Bool)(w:World)(h:complineref17_blank.f a0=some r) :
  Calls Tryz.prog 80 #[.int .u8 a0] w fun e w'=>e=.returned (.bool r)∧Drawn0 w w':=by
 have H:(if a0=32 then (some true) else (some (a0 == 9)))=some r:=h
 clear h
 by_cases c2:a0=32
 ·rw [if_pos c2] at H
  have c2b0:(a0 == 32)=true:=beq_iff_eq.mpr c2
  have c2b1:(a0 != 32)=false:=bne_eq_false_iff_eq.mpr c2
  clear c2
  obtain rfl:=Option.some.inj H
  go_enter Tryz.func80,Tryz.ntmps80
  go_wp2
  go_ret
  exact ⟨by first | rfl | (simp; done) | (simp [*]; done),by repeat (first | exact Drawn0.refl _ | apply Drawn0.step)⟩
 ·rw [if_neg c2] at H
  have c2b0:(a0 == 32)=false:=beq_eq_false_iff_ne.mpr c2
  have c2b1:(a0 != 32)=true:=bne_iff_ne.mpr c2
  obtain rfl:=Option.some.inj H
  go_enter Tryz.func80,Tryz.ntmps80
  go_wp2
  go_ret
  exact ⟨by first | rfl | (simp; done) | (simp [*]; done),by repeat (first | exact Drawn0.refl _ | apply Drawn0.step)⟩
def complineref17_digit.f (a0:Int):Option (Bool):=if a0≥48 then (some (decide (a0≤57))) else (some false)
set_option maxHeartbeats 8000000 in
set_option maxRecDepth 100000 in
theorem complineref17_digit.calls (a0:Int)(r:Bool)(w:World)(h:complineref17_digit.f a0=some r) :
  Calls Tryz.prog 81 #[.int .u8 a0] w fun e w'=>e=.returned (.bool r)∧Drawn0 w w':=by
 have H:(if a0≥48 then (some (decide (a0≤57))) else (some false))=some r:=h
 clear h
 by_cases c2:a0≥48
 ·rw [if_pos c2] at H
  have c2b0:decide (48≤a0)=true:=decide_eq_true c2
  clear c2
  obtain rfl:=Option.some.inj H
  go_enter Tryz.func81,Tryz.ntmps81
  go_wp2
  go_ret
  exact ⟨by first | rfl | (simp; done) | (simp [*]; done),by repeat (first | exact Drawn0.refl _ | apply Drawn0.step)⟩
 ·rw [if_neg c2] at H
  have c2b0:decide (48≤a0)=false:=decide_eq_false c2
  clear c2
  obtain rfl:=Option.some.inj H
  go_enter Tryz.func81,Tryz.ntmps81
  go_wp2
  go_ret
  exact ⟨by first | rfl | (simp; done) | (simp [*]; done),by repeat (first | exact Drawn0.refl _ | apply Drawn0.step)⟩
end Go.Proofs.YtcmmmlenaahaeaaGreatDoor.PShw
