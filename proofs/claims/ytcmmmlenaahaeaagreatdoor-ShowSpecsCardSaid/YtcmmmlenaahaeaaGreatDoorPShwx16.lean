-- Written by a program of this session (gprint.py) over the kit's print.
import Derived.Test.YtcmmmlenaahaeaaGreatDoorPShwx0
import Derived.Test.YtcmmmlenaahaeaaGreatDoorPShwx11
import Derived.Test.YtcmmmlenaahaeaaGreatDoorPShwx13
import Derived.Test.YtcmmmlenaahaeaaGreatDoorPShwx15
namespace Go.Proofs.YtcmmmlenaahaeaaGreatDoor.PShw
open Go.RowKit Go.Proofs.YtcmmmlenaahaeaaGreatDoorW.PrintWords Go.Proofs.YtcmmmlenaahaeaaGreatDoorW.PrintLast Go.Proofs.YtcmmmlenaahaeaaGreatDoorW.PrintMore
attribute [local go_sem] max2_int min2_int max_two min_two max_three min_three max_four min_four
set_option linter.unusedVariables false
set_option linter.unusedSimpArgs false
mutual
def complineref17_Value.j0:Nat→ByteArray→Int→Int→Int→Bool→Option (Int × Int)
 | 0,_,_,_,_,_=>none
 | k+1,x0,x1,x6,x7,x27=>if x27=true then ((complineref17_Number.f k x0).bind fun bt230=>(complineref17_Value.j1 k x6 x7 bt230.1 bt230.2)) else ((complineref17_Name.f k x0 x1).bind fun bt232=>(complineref17_Value.j1 k x6 x7 bt232.1 bt232.2))
def complineref17_Value.j1:Nat→Int→Int→Int→Int→Option (Int × Int)
 | 0,_,_,_,_=>none
 | k+1,x6,x7,x9,x10=>if x10=0 then (if x9 < x6 then (some (0,1)) else (if x9 > x7 then (some (0,1)) else (some (x9,0)))) else (some (0,x10))
end
def complineref17_Value.f (k:Nat)(a0:ByteArray)(a1:Int):Option (Int × Int):=(complineref17_Limits.f a1).bind fun bt226=>(if bt226.2.2=0 then (if (a0.size:Int) > 0 then (if 0 < (a0.size:Int) then ((complineref17_digit.f (bt a0 0)).bind fun t229=>(complineref17_Value.j0 k a0 a1 bt226.1 bt226.2.1 t229)) else (none)) else (complineref17_Value.j0 k a0 a1 bt226.1 bt226.2.1 false)) else (some (0,bt226.2.2)))
set_option maxHeartbeats 8000000 in
set_option maxRecDepth 100000 in
theorem complineref17_Value.calls (k:Nat)(a0:ByteArray)(a1:Int)(r1:Int)(r2:Int)(w:World)(h:complineref17_Value.f k a0 a1=some (r1,r2)) :
  Calls Tryz.prog 103 #[.string a0,.int .i64 a1] w fun e w'=>e=.returned (.tuple #[.int .i64 r1,.int .i64 r2])∧Below w.heap.size w w':=by
 have HB:=Aside0.mk (Below.refl w.heap.size w)
 have H:((complineref17_Limits.f a1).bind fun bt226=>(if bt226.2.2=0 then (if (a0.size:Int) > 0 then (if 0 < (a0.size:Int) then ((complineref17_digit.f (bt a0 0)).bind fun t229=>(complineref17_Value.j0 k a0 a1 bt226.1 bt226.2.1 t229)) else (none)) else (complineref17_Value.j0 k a0 a1 bt226.1 bt226.2.1 false)) else (some (0,bt226.2.2))))=some (r1,r2):=h
 clear h
 replace H:=Option.bind_eq_some_iff.mp H
 obtain ⟨⟨t226,t227,t228⟩,A30,H⟩ :=H
 replace H:(if t228=0 then (if (a0.size:Int) > 0 then (if 0 < (a0.size:Int) then ((complineref17_digit.f (bt a0 0)).bind fun t229=>(complineref17_Value.j0 k a0 a1 t226 t227 t229)) else (none)) else (complineref17_Value.j0 k a0 a1 t226 t227 false)) else (some (0,t228)))=some (r1,r2):=H
 have A3:=Aside0.mk A30
 clear A30
 by_cases c4:t228=0
 ·rw [if_pos c4] at H
  have c4b0:(t228 == 0)=true:=beq_iff_eq.mpr c4
  have c4b1:(t228 != 0)=false:=bne_eq_false_iff_eq.mpr c4
  clear c4
  have HC5:=Aside0.mk H
  clear H
  go_enter Tryz.func103,Tryz.ntmps103
  go_upto_region 5 with (first | ((with_reducible refine gate_callee (f:=79) rfl ?_); refine goesL_ (some 13) rfl rfl Tryz.func79 (by kernel_rfl) rfl #[.int .i64 a1] rfl (by (try simp only [List.map_toArray,List.map_cons,List.map_nil]); first | done | rfl | (simp only [List.length_drop,List.length_take]; rfl)) ?_; (with_reducible refine (complineref17_Limits.calls a1 t226 t227 t228 _ A3.out).mono ?_); rintro e w' ⟨rfl,⟨nd,rfl⟩⟩; refine ⟨_,rfl,?_⟩))
  (try simp only [Act.put,List.setIfInBounds_toArray,List.set_cons_zero,List.set_cons_succ])
  go_cut [27] (fun v27 wc=>∃ (kq:Nat) (x27_4:Bool),v27=.bool x27_4∧Aside0 (complineref17_Value.j0 kq a0 a1 t226 t227 x27_4=some (r1,r2))∧Aside0 (kq≤k)∧Aside0 (Below w.heap.size w wc))
  case first=>
   have H:=HC5.out
   clear HC5
   by_cases c6:(a0.size:Int) > 0
   ·rw [if_pos c6] at H
    have c6b0:decide (0 < (a0.size:Int))=true:=decide_eq_true c6
    have c6b1:decide (0 < a0.size)=true:=decide_eq_true (by omega)
    clear c6
    (first | rw [c6b0] | (simp only [i64_w,i32_w]; rw [c6b0]) | skip)
    by_cases c7:0 < (a0.size:Int)
    ·rw [if_pos c7] at H
     have c7b0:decide (0 < (a0.size:Int))=true:=decide_eq_true c7
     have c7b1:decide (0 < a0.size)=true:=decide_eq_true (by omega)
     clear c7
     replace H:=Option.bind_eq_some_iff.mp H
     obtain ⟨t229,A90,H⟩ :=H
     replace H:(complineref17_Value.j0 k a0 a1 t226 t227 t229)=some (r1,r2):=H
     have A9:=Aside0.mk A90
     clear A90
     have H':=Aside0.mk H
     clear H
     have p8:0≤(0:Int):=(by omega)
     have q8:0 < a0.size:=(by have:(0:Int) < (a0.size:Int):=of_decide_eq_true (by first | (with_reducible assumption) | assumption); omega)
     have hx8:∀ h:0 < a0.size,((a0[0]'h).toNat:Int)=bt a0 0:=bt_at a0 0
     clear p8
     have qi8:(0 < (a0.size:Int))=True:=eq_true (of_decide_eq_true (by first | (with_reducible assumption) | assumption))
     replace q8:=eq_true q8
     go_wp2_with (first | (go_at_call 81; (with_reducible refine (complineref17_digit.calls (bt a0 0) t229 _ A9.out).mono ?_); rintro e w' ⟨rfl,⟨nd,rfl⟩⟩))
     go_meet
     case rel=>exact ⟨_,(t229),(by first | rfl | (simp; done) | (simp [*]; done)),H',⟨by first | omega | exact Nat.le_refl _⟩,⟨by repeat (first | (with_reducible first | exact HB.out | apply below_alloc | apply pw_below_drewN | apply below_drew1) | exact HB.out)⟩⟩
    ·rw [if_neg c7] at H
     exact absurd H (by simp)
   ·rw [if_neg c6] at H
    have c6b0:decide (0 < (a0.size:Int))=false:=decide_eq_false c6
    have c6b1:decide (0 < a0.size)=false:=decide_eq_false (by omega)
    clear c6
    (first | rw [c6b0] | (simp only [i64_w,i32_w]; rw [c6b0]) | skip)
    have H':=Aside0.mk H
    clear H
    go_wp2
    go_meet
    case rel=>exact ⟨_,(false),(by first | rfl | (simp; done) | (simp [*]; done)),H',⟨by first | omega | exact Nat.le_refl _⟩,⟨by repeat (first | (with_reducible first | exact HB.out | apply below_alloc | apply pw_below_drewN | apply below_drew1) | exact HB.out)⟩⟩
  case rest=>
   clear HC5
   try clear c1
   try clear p2
   try clear c4
   try clear c4b0
   try clear c4b1
   try clear c6
   try clear c6b0
   try clear c6b1
   try clear c7
   try clear c7b0
   try clear c7b1
   try clear p8
   try clear q8
   try clear hx8
   try clear qi8
   try clear p8
   try clear q8
   obtain ⟨kq,x27_4,rfl,HA,HJ4,HB⟩ :=hcut
   cases kq with
   | zero=>exact absurd HA.out (by simp [complineref17_Value.j0])
   | succ kj4=>
    have H:=HA.out
    clear HA
    simp only [complineref17_Value.j0] at H
    have HC10:=Aside0.mk H
    clear H
    go_upto_if 27 with (fail)
    go_cut [9,10] (fun v9 v10 wc=>∃ (kq:Nat) (x9_9:Int) (x10_9:Int),v9=.int .i64 x9_9∧v10=.int .i64 x10_9∧Aside0 (complineref17_Value.j1 kq t226 t227 x9_9 x10_9=some (r1,r2))∧Aside0 (kq≤kj4)∧Aside0 (Below w.heap.size w wc))
    case first=>
     have H:=HC10.out
     clear HC10
     by_cases c11:x27_4=true
     ·subst c11
      have H1:((complineref17_Number.f kj4 a0).bind fun bt230=>(complineref17_Value.j1 kj4 t226 t227 bt230.1 bt230.2))=some (r1,r2):=by rw [if_pos rfl] at H; exact H
      clear H
      have H:=H1
      clear H1
      replace H:=Option.bind_eq_some_iff.mp H
      obtain ⟨⟨t230,t231⟩,A120,H⟩ :=H
      replace H:(complineref17_Value.j1 kj4 t226 t227 t230 t231)=some (r1,r2):=H
      have A12:=Aside0.mk A120
      clear A120
      have H':=Aside0.mk H
      clear H
      go_wp2_with (first | ((with_reducible refine gate_callee (f:=104) rfl ?_); refine goesL_ (some 30) rfl rfl Tryz.func104 (by kernel_rfl) rfl #[.string a0] rfl (by (try simp only [List.map_toArray,List.map_cons,List.map_nil]); first | done | rfl | (simp only [List.length_drop,List.length_take]; rfl)) ?_; (with_reducible refine (complineref17_Number.calls kj4 a0 t230 t231 _ A12.out).mono ?_); rintro e w' ⟨rfl,⟨nd,rfl⟩⟩; refine ⟨_,rfl,?_⟩))
      go_meet
      case rel=>exact ⟨_,(t230),(t231),(by first | rfl | (simp; done) | (simp [*]; done)),(by first | rfl | (simp; done) | (simp [*]; done)),H',⟨by have:=HJ4.out; first | omega | exact Nat.le_refl _⟩,⟨by repeat (first | (with_reducible first | exact HB.out | apply below_alloc | apply pw_below_drewN | apply below_drew1) | exact HB.out)⟩⟩
     ·replace c11:=Bool.eq_false_iff.mpr c11
      subst c11
      have H1:((complineref17_Name.f kj4 a0 a1).bind fun bt232=>(complineref17_Value.j1 kj4 t226 t227 bt232.1 bt232.2))=some (r1,r2):=by rw [if_neg (show ¬ (false=true) by decide)] at H; exact H
      clear H
      have H:=H1
      clear H1
      replace H:=Option.bind_eq_some_iff.mp H
      obtain ⟨⟨t232,t233⟩,A130,H⟩ :=H
      replace H:(complineref17_Value.j1 kj4 t226 t227 t232 t233)=some (r1,r2):=H
      have A13:=Aside0.mk A130
      clear A130
      have H':=Aside0.mk H
      clear H
      go_wp2_with (first | ((with_reducible refine gate_callee (f:=117) rfl ?_); refine goesL_ (some 36) rfl rfl Tryz.func117 (by kernel_rfl) rfl #[.string a0,.int .i64 a1] rfl (by (try simp only [List.map_toArray,List.map_cons,List.map_nil]); first | done | rfl | (simp only [List.length_drop,List.length_take]; rfl)) ?_; (with_reducible refine (complineref17_Name.calls kj4 a0 a1 t232 t233 _ A13.out).mono ?_); rintro e w14 ⟨rfl,hb⟩; refine ⟨_,rfl,?_⟩; have n0_:=Aside0.mk (below_step (by repeat (first | (with_reducible first | exact HB.out | apply below_alloc | apply pw_below_drewN | apply below_drew1) | exact HB.out)) hb); clear HB; have HB:=n0_; clear n0_; (try clear hb); (try clear hb2); (try clear hk); (try clear hi)))
      go_meet
      case rel=>exact ⟨_,(t232),(t233),(by first | rfl | (simp; done) | (simp [*]; done)),(by first | rfl | (simp; done) | (simp [*]; done)),H',⟨by have:=HJ4.out; first | omega | exact Nat.le_refl _⟩,⟨by repeat (first | (with_reducible first | exact HB.out | apply below_alloc | apply pw_below_drewN | apply below_drew1) | exact HB.out)⟩⟩
    case rest=>
     clear HC10
     try clear c1
     try clear p2
     try clear c4
     try clear c4b0
     try clear c4b1
     try clear c6
     try clear c6b0
     try clear c6b1
     try clear c7
     try clear c7b0
     try clear c7b1
     try clear p8
     try clear q8
     try clear hx8
     try clear qi8
     try clear c10
     try clear c11
     try clear p2
     try clear p8
     try clear q8
     obtain ⟨kq,x9_9,x10_9,rfl,rfl,HA,HJ9,HB⟩ :=hcut
     cases kq with
     | zero=>exact absurd HA.out (by simp [complineref17_Value.j1])
     | succ kj9=>
      have H:=HA.out
      clear HA
      simp only [complineref17_Value.j1] at H
      by_cases c15:x10_9=0
      ·rw [if_pos c15] at H
       have c15b0:(x10_9 == 0)=true:=beq_iff_eq.mpr c15
       have c15b1:(x10_9 != 0)=false:=bne_eq_false_iff_eq.mpr c15
       clear c15
       by_cases c16:x9_9 < t226
       ·rw [if_pos c16] at H
        have c16b0:decide (x9_9 < t226)=true:=decide_eq_true c16
        clear c16
        simp only [Option.some.injEq,Prod.mk.injEq] at H
        obtain ⟨rfl,rfl⟩ :=H
        go_wp2
        go_ret2
        exact ⟨by first | rfl | (simp [errW_none,errW_some] <;> rfl) | (simp [*,errW_none,errW_some] <;> rfl),by repeat (first | (with_reducible first | exact HB.out | apply below_alloc | apply pw_below_drewN | apply below_drew1) | exact HB.out)⟩
       ·rw [if_neg c16] at H
        have c16b0:decide (x9_9 < t226)=false:=decide_eq_false c16
        clear c16
        by_cases c17:x9_9 > t227
        ·rw [if_pos c17] at H
         have c17b0:decide (t227 < x9_9)=true:=decide_eq_true c17
         clear c17
         simp only [Option.some.injEq,Prod.mk.injEq] at H
         obtain ⟨rfl,rfl⟩ :=H
         go_wp2
         go_ret2
         exact ⟨by first | rfl | (simp [errW_none,errW_some] <;> rfl) | (simp [*,errW_none,errW_some] <;> rfl),by repeat (first | (with_reducible first | exact HB.out | apply below_alloc | apply pw_below_drewN | apply below_drew1) | exact HB.out)⟩
        ·rw [if_neg c17] at H
         have c17b0:decide (t227 < x9_9)=false:=decide_eq_false c17
         clear c17
         simp only [Option.some.injEq,Prod.mk.injEq] at H
         obtain ⟨rfl,rfl⟩ :=H
         go_wp2
         go_ret2
         exact ⟨by first | rfl | (simp [errW_none,errW_some] <;> rfl) | (simp [*,errW_none,errW_some] <;> rfl),by repeat (first | (with_reducible first | exact HB.out | apply below_alloc | apply pw_below_drewN | apply below_drew1) | exact HB.out)⟩
      ·rw [if_neg c15] at H
       have c15b0:(x10_9 == 0)=false:=beq_eq_false_iff_ne.mpr c15
       have c15b1:(x10_9 != 0)=true:=bne_iff_ne.mpr c15
       simp only [Option.some.injEq,Prod.mk.injEq] at H
       obtain ⟨rfl,rfl⟩ :=H
       go_wp2
       go_ret2
       exact ⟨by first | rfl | (simp [errW_none,errW_some] <;> rfl) | (simp [*,errW_none,errW_some] <;> rfl),by repeat (first | (with_reducible first | exact HB.out | apply below_alloc | apply pw_below_drewN | apply below_drew1) | exact HB.out)⟩
 ·rw [if_neg c4] at H
  have c4b0:(t228 == 0)=false:=beq_eq_false_iff_ne.mpr c4
  have c4b1:(t228 != 0)=true:=bne_iff_ne.mpr c4
  simp only [Option.some.injEq,Prod.mk.injEq] at H
  obtain ⟨rfl,rfl⟩ :=H
  go_enter Tryz.func103,Tryz.ntmps103
  go_wp2_with (first | ((with_reducible refine gate_callee (f:=79) rfl ?_); refine goesL_ (some 13) rfl rfl Tryz.func79 (by kernel_rfl) rfl #[.int .i64 a1] rfl (by (try simp only [List.map_toArray,List.map_cons,List.map_nil]); first | done | rfl | (simp only [List.length_drop,List.length_take]; rfl)) ?_; (with_reducible refine (complineref17_Limits.calls a1 t226 t227 t228 _ A3.out).mono ?_); rintro e w' ⟨rfl,⟨nd,rfl⟩⟩; refine ⟨_,rfl,?_⟩))
  go_ret2
  exact ⟨by first | rfl | (simp [errW_none,errW_some] <;> rfl) | (simp [*,errW_none,errW_some] <;> rfl),by repeat (first | (with_reducible first | exact HB.out | apply below_alloc | apply pw_below_drewN | apply below_drew1) | exact HB.out)⟩
end Go.Proofs.YtcmmmlenaahaeaaGreatDoor.PShw
