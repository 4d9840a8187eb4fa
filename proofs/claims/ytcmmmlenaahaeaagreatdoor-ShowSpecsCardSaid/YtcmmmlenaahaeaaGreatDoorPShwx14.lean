-- Written by a program of this session (gprint.py) over the kit's print.
import Derived.Test.YtcmmmlenaahaeaaGreatDoorPShwx0
import Derived.Test.YtcmmmlenaahaeaaGreatDoorPShwx13
namespace Go.Proofs.YtcmmmlenaahaeaaGreatDoor.PShw
open Go.RowKit Go.Proofs.YtcmmmlenaahaeaaGreatDoorW.PrintWords Go.Proofs.YtcmmmlenaahaeaaGreatDoorW.PrintLast Go.Proofs.YtcmmmlenaahaeaaGreatDoorW.PrintMore
attribute [local go_sem] max2_int min2_int max_two min_two max_three min_three max_four min_four
set_option linter.unusedVariables false
set_option linter.unusedSimpArgs false
def complineref17_letter.f (a0:Int):Option (Bool):=if a0≥97 then (if a0≤122 then (some true) else (if a0≥65 then (some (decide (a0≤90))) else (some false))) else (if a0≥65 then (some (decide (a0≤90))) else (some false))
set_option maxHeartbeats 8000000 in
set_option maxRecDepth 100000 in
theorem complineref17_letter.calls (a0:Int)(r:Bool)(w:World)(h:complineref17_letter.f a0=some r) :
  Calls Tryz.prog 82 #[.int .u8 a0] w fun e w'=>e=.returned (.bool r)∧Drawn0 w w':=by
 have H:(if a0≥97 then (if a0≤122 then (some true) else (if a0≥65 then (some (decide (a0≤90))) else (some false))) else (if a0≥65 then (some (decide (a0≤90))) else (some false)))=some r:=h
 clear h
 by_cases c2:a0≥97
 ·rw [if_pos c2] at H
  have c2b0:decide (97≤a0)=true:=decide_eq_true c2
  clear c2
  by_cases c3:a0≤122
  ·rw [if_pos c3] at H
   have c3b0:decide (a0≤122)=true:=decide_eq_true c3
   clear c3
   obtain rfl:=Option.some.inj H
   go_enter Tryz.func82,Tryz.ntmps82
   go_wp2
   go_ret
   exact ⟨by first | rfl | (simp; done) | (simp [*]; done),by repeat (first | exact Drawn0.refl _ | apply Drawn0.step)⟩
  ·rw [if_neg c3] at H
   have c3b0:decide (a0≤122)=false:=decide_eq_false c3
   clear c3
   by_cases c4:a0≥65
   ·rw [if_pos c4] at H
    have c4b0:decide (65≤a0)=true:=decide_eq_true c4
    clear c4
    obtain rfl:=Option.some.inj H
    go_enter Tryz.func82,Tryz.ntmps82
    go_wp2
    go_ret
    exact ⟨by first | rfl | (simp; done) | (simp [*]; done),by repeat (first | exact Drawn0.refl _ | apply Drawn0.step)⟩
   ·rw [if_neg c4] at H
    have c4b0:decide (65≤a0)=false:=decide_eq_false c4
    clear c4
    obtain rfl:=Option.some.inj H
    go_enter Tryz.func82,Tryz.ntmps82
    go_wp2
    go_ret
    exact ⟨by first | rfl | (simp; done) | (simp [*]; done),by repeat (first | exact Drawn0.refl _ | apply Drawn0.step)⟩
 ·rw [if_neg c2] at H
  have c2b0:decide (97≤a0)=false:=decide_eq_false c2
  clear c2
  by_cases c5:a0≥65
  ·rw [if_pos c5] at H
   have c5b0:decide (65≤a0)=true:=decide_eq_true c5
   clear c5
   obtain rfl:=Option.some.inj H
   go_enter Tryz.func82,Tryz.ntmps82
   go_wp2
   go_ret
   exact ⟨by first | rfl | (simp; done) | (simp [*]; done),by repeat (first | exact Drawn0.refl _ | apply Drawn0.step)⟩
  ·rw [if_neg c5] at H
   have c5b0:decide (65≤a0)=false:=decide_eq_false c5
   clear c5
   obtain rfl:=Option.some.inj H
   go_enter Tryz.func82,Tryz.ntmps82
   go_wp2
   go_ret
   exact ⟨by first | rfl | (simp; done) | (simp [*]; done),by repeat (first | exact Drawn0.refl _ | apply Drawn0.step)⟩
def complineref17_Fields.l0:Nat→ByteArray→List ByteArray→ByteArray→Int→Option (List ByteArray × Int)
 | 0,_,_,_,_=>none
 | k+1,x0,x4,x5,x6=>if x6 < (x0.size:Int) then (if 0≤x6 then ((complineref17_blank.f (bt x0 x6)).bind fun t197=>(if t197=true then (if x5.toList=([]:List UInt8) then (complineref17_Fields.l0 k x0 x4 (⟨#[]⟩:ByteArray) (wrap64 (x6+1))) else (if x4.length < 8796093022208 then (complineref17_Fields.l0 k x0 (x4 ++ [x5]) (⟨#[]⟩:ByteArray) (wrap64 (x6+1))) else (none))) else ((complineref17_digit.f (bt x0 x6)).bind fun t201=>(if t201=true then (if x6≤(wrap64 (x6+1)) then (if (wrap64 (x6+1))≤(x0.size:Int) then (if x5.size+(x0.extract (x6:Int).toNat ((wrap64 (x6+1)):Int).toNat).size≤9223372036854775807 then (complineref17_Fields.l0 k x0 x4 (x5 ++ (x0.extract (x6:Int).toNat ((wrap64 (x6+1)):Int).toNat)) (wrap64 (x6+1))) else (none)) else (none)) else (none)) else ((complineref17_letter.f (bt x0 x6)).bind fun t202=>(if t202=true then (if x6≤(wrap64 (x6+1)) then (if (wrap64 (x6+1))≤(x0.size:Int) then (if x5.size+(x0.extract (x6:Int).toNat ((wrap64 (x6+1)):Int).toNat).size≤9223372036854775807 then (complineref17_Fields.l0 k x0 x4 (x5 ++ (x0.extract (x6:Int).toNat ((wrap64 (x6+1)):Int).toNat)) (wrap64 (x6+1))) else (none)) else (none)) else (none)) else (if (bt x0 x6)=42 then (if x6≤(wrap64 (x6+1)) then (if (wrap64 (x6+1))≤(x0.size:Int) then (if x5.size+(x0.extract (x6:Int).toNat ((wrap64 (x6+1)):Int).toNat).size≤9223372036854775807 then (complineref17_Fields.l0 k x0 x4 (x5 ++ (x0.extract (x6:Int).toNat ((wrap64 (x6+1)):Int).toNat)) (wrap64 (x6+1))) else (none)) else (none)) else (none)) else (if (bt x0 x6)=44 then (if x6≤(wrap64 (x6+1)) then (if (wrap64 (x6+1))≤(x0.size:Int) then (if x5.size+(x0.extract (x6:Int).toNat ((wrap64 (x6+1)):Int).toNat).size≤9223372036854775807 then (complineref17_Fields.l0 k x0 x4 (x5 ++ (x0.extract (x6:Int).toNat ((wrap64 (x6+1)):Int).toNat)) (wrap64 (x6+1))) else (none)) else (none)) else (none)) else (if (bt x0 x6)=45 then (if x6≤(wrap64 (x6+1)) then (if (wrap64 (x6+1))≤(x0.size:Int) then (if x5.size+(x0.extract (x6:Int).toNat ((wrap64 (x6+1)):Int).toNat).size≤9223372036854775807 then (complineref17_Fields.l0 k x0 x4 (x5 ++ (x0.extract (x6:Int).toNat ((wrap64 (x6+1)):Int).toNat)) (wrap64 (x6+1))) else (none)) else (none)) else (none)) else (if (bt x0 x6)=47 then (if x6≤(wrap64 (x6+1)) then (if (wrap64 (x6+1))≤(x0.size:Int) then (if x5.size+(x0.extract (x6:Int).toNat ((wrap64 (x6+1)):Int).toNat).size≤9223372036854775807 then (complineref17_Fields.l0 k x0 x4 (x5 ++ (x0.extract (x6:Int).toNat ((wrap64 (x6+1)):Int).toNat)) (wrap64 (x6+1))) else (none)) else (none)) else (none)) else (some (([]:List ByteArray),2)))))))))))) else (none)) else (if x5.toList=([]:List UInt8) then (if (x4.length:Int)=5 then (some (x4,0)) else (some (([]:List ByteArray),2))) else (if x4.length < 8796093022208 then ((some (x4 ++ [x5]:List ByteArray)).bind fun y203=>(if (y203.length:Int)=5 then (some (y203,0)) else (some (([]:List ByteArray),2)))) else (none)))
def complineref17_Fields.f (k:Nat)(a0:ByteArray):Option (List ByteArray × Int):=if (a0.size:Int) > 256 then (some (([]:List ByteArray),3)) else (complineref17_Fields.l0 k a0 ([]:List ByteArray) (⟨#[]⟩:ByteArray) 0)
set_option maxHeartbeats 8000000 in
set_option maxRecDepth 100000 in
theorem complineref17_Fields.calls (k:Nat)(a0:ByteArray)(r1:List ByteArray)(r2:Int)(w:World)(h:complineref17_Fields.f k a0=some (r1,r2)) :
  Calls Tryz.prog 55 #[.string a0] w fun e w'=>∃ v0_:Value,e=.returned (.tuple #[v0_,.int .i64 r2])∧Kd.R Kd.string 9 w' w.heap.size (fun _=>True) v0_ r1∧Below w.heap.size w w':=by
 have HB:=Aside0.mk (Below.refl w.heap.size w)
 have H:(if (a0.size:Int) > 256 then (some (([]:List ByteArray),3)) else (complineref17_Fields.l0 k a0 ([]:List ByteArray) (⟨#[]⟩:ByteArray) 0))=some (r1,r2):=h
 clear h
 by_cases c2:(a0.size:Int) > 256
 ·rw [if_pos c2] at H
  have c2b0:decide (256 < (a0.size:Int))=true:=decide_eq_true c2
  have c2b1:decide (256 < a0.size)=true:=decide_eq_true (by omega)
  clear c2
  simp only [Option.some.injEq,Prod.mk.injEq] at H
  obtain ⟨rfl,rfl⟩ :=H
  go_enter Tryz.func55,Tryz.ntmps55
  go_wp2
  go_ret2
  exact ⟨_,by first | rfl | (simp [errW_none,errW_some] <;> rfl) | (simp [*,errW_none,errW_some] <;> rfl),by first | exact Kd.R_nil _ _ _ _ _ | exact Kd.N_nil _ _ _ _ _ | exact Kd.V_nil _ _ _ _ _ | exact Kd.Q_nil _ _ _ _ _ | exact Kd.S_nil _ _ _ _ _,by repeat (first | (with_reducible first | exact HB.out | apply below_alloc | apply pw_below_drewN | apply below_drew1) | exact HB.out)⟩
 ·rw [if_neg c2] at H
  have c2b0:decide (256 < (a0.size:Int))=false:=decide_eq_false c2
  have c2b1:decide (256 < a0.size)=false:=decide_eq_false (by omega)
  clear c2
  have H':=Aside0.mk H
  clear H
  go_enter Tryz.func55,Tryz.ntmps55
  go_wp2
  go_loopg [4,5,6] k (fun kq v4 v5 v6 w'=>∃ (x4_1:List ByteArray) (x5_1:ByteArray) (x6_1:Int),v5=.string x5_1∧v6=.int .i64 x6_1∧Aside0 (complineref17_Fields.l0 kq a0 x4_1 x5_1 x6_1=some (r1,r2))∧Aside0 (kq≤k)∧Aside0 (Kd.R Kd.string 9 w' w.heap.size (fun _=>True) v4 x4_1)∧Aside0 (Below w.heap.size w w'))
  case atStart=>exact ⟨(([]:List ByteArray)),((⟨#[]⟩:ByteArray)),(0),(by first | rfl | (simp; done) | (simp [*]; done)),(by first | rfl | (simp; done) | (simp [*]; done)),H',⟨Nat.le_refl _⟩,⟨by first | exact Kd.R_nil _ _ _ _ _ | exact Kd.N_nil _ _ _ _ _ | exact Kd.V_nil _ _ _ _ _ | exact Kd.Q_nil _ _ _ _ _ | exact Kd.S_nil _ _ _ _ _⟩,⟨by repeat (first | (with_reducible first | exact HB.out | apply below_alloc | apply pw_below_drewN | apply below_drew1) | exact HB.out)⟩⟩
  case round=>
   clear H'
   try clear c2
   try clear c2b0
   try clear c2b1
   try clear p2
   obtain ⟨x4_1,x5_1,x6_1,rfl,rfl,HA,HK1,HO_4,HB⟩ :=hrel
   cases gk with
   | zero=>exact absurd HA.out (by simp [complineref17_Fields.l0])
   | succ k1=>
    have H:=HA.out
    clear HA
    simp only [complineref17_Fields.l0] at H
    by_cases c3:x6_1 < (a0.size:Int)
    ·rw [if_pos c3] at H
     have c3b0:decide (x6_1 < (a0.size:Int))=true:=decide_eq_true c3
     clear c3
     by_cases c4:0≤x6_1
     ·rw [if_pos c4] at H
      have c4b0:decide (0≤x6_1)=true:=decide_eq_true c4
      clear c4
      replace H:=Option.bind_eq_some_iff.mp H
      obtain ⟨t197,A60,H⟩ :=H
      replace H:(if t197=true then (if x5_1.toList=([]:List UInt8) then (complineref17_Fields.l0 k1 a0 x4_1 (⟨#[]⟩:ByteArray) (wrap64 (x6_1+1))) else (if x4_1.length < 8796093022208 then (complineref17_Fields.l0 k1 a0 (x4_1 ++ [x5_1]) (⟨#[]⟩:ByteArray) (wrap64 (x6_1+1))) else (none))) else ((complineref17_digit.f (bt a0 x6_1)).bind fun t201=>(if t201=true then (if x6_1≤(wrap64 (x6_1+1)) then (if (wrap64 (x6_1+1))≤(a0.size:Int) then (if x5_1.size+(a0.extract (x6_1:Int).toNat ((wrap64 (x6_1+1)):Int).toNat).size≤9223372036854775807 then (complineref17_Fields.l0 k1 a0 x4_1 (x5_1 ++ (a0.extract (x6_1:Int).toNat ((wrap64 (x6_1+1)):Int).toNat)) (wrap64 (x6_1+1))) else (none)) else (none)) else (none)) else ((complineref17_letter.f (bt a0 x6_1)).bind fun t202=>(if t202=true then (if x6_1≤(wrap64 (x6_1+1)) then (if (wrap64 (x6_1+1))≤(a0.size:Int) then (if x5_1.size+(a0.extract (x6_1:Int).toNat ((wrap64 (x6_1+1)):Int).toNat).size≤9223372036854775807 then (complineref17_Fields.l0 k1 a0 x4_1 (x5_1 ++ (a0.extract (x6_1:Int).toNat ((wrap64 (x6_1+1)):Int).toNat)) (wrap64 (x6_1+1))) else (none)) else (none)) else (none)) else (if (bt a0 x6_1)=42 then (if x6_1≤(wrap64 (x6_1+1)) then (if (wrap64 (x6_1+1))≤(a0.size:Int) then (if x5_1.size+(a0.extract (x6_1:Int).toNat ((wrap64 (x6_1+1)):Int).toNat).size≤9223372036854775807 then (complineref17_Fields.l0 k1 a0 x4_1 (x5_1 ++ (a0.extract (x6_1:Int).toNat ((wrap64 (x6_1+1)):Int).toNat)) (wrap64 (x6_1+1))) else (none)) else (none)) else (none)) else (if (bt a0 x6_1)=44 then (if x6_1≤(wrap64 (x6_1+1)) then (if (wrap64 (x6_1+1))≤(a0.size:Int) then (if x5_1.size+(a0.extract (x6_1:Int).toNat ((wrap64 (x6_1+1)):Int).toNat).size≤9223372036854775807 then (complineref17_Fields.l0 k1 a0 x4_1 (x5_1 ++ (a0.extract (x6_1:Int).toNat ((wrap64 (x6_1+1)):Int).toNat)) (wrap64 (x6_1+1))) else (none)) else (none)) else (none)) else (if (bt a0 x6_1)=45 then (if x6_1≤(wrap64 (x6_1+1)) then (if (wrap64 (x6_1+1))≤(a0.size:Int) then (if x5_1.size+(a0.extract (x6_1:Int).toNat ((wrap64 (x6_1+1)):Int).toNat).size≤9223372036854775807 then (complineref17_Fields.l0 k1 a0 x4_1 (x5_1 ++ (a0.extract (x6_1:Int).toNat ((wrap64 (x6_1+1)):Int).toNat)) (wrap64 (x6_1+1))) else (none)) else (none)) else (none)) else (if (bt a0 x6_1)=47 then (if x6_1≤(wrap64 (x6_1+1)) then (if (wrap64 (x6_1+1))≤(a0.size:Int) then (if x5_1.size+(a0.extract (x6_1:Int).toNat ((wrap64 (x6_1+1)):Int).toNat).size≤9223372036854775807 then (complineref17_Fields.l0 k1 a0 x4_1 (x5_1 ++ (a0.extract (x6_1:Int).toNat ((wrap64 (x6_1+1)):Int).toNat)) (wrap64 (x6_1+1))) else (none)) else (none)) else (none)) else (some (([]:List ByteArray),2)))))))))))=some (r1,r2):=H
      have A6:=Aside0.mk A60
      clear A60
      by_cases c7:t197=true
      ·subst c7
       have H1:(if x5_1.toList=([]:List UInt8) then (complineref17_Fields.l0 k1 a0 x4_1 (⟨#[]⟩:ByteArray) (wrap64 (x6_1+1))) else (if x4_1.length < 8796093022208 then (complineref17_Fields.l0 k1 a0 (x4_1 ++ [x5_1]) (⟨#[]⟩:ByteArray) (wrap64 (x6_1+1))) else (none)))=some (r1,r2):=by rw [if_pos rfl] at H; exact H
       clear H
       have H:=H1
       clear H1
       by_cases c8:x5_1.toList=([]:List UInt8)
       ·rw [if_pos c8] at H
        have c8b0:(x5_1.toList == ([]:List UInt8))=true:=beq_iff_eq.mpr c8
        have c8b1:(x5_1.toList != ([]:List UInt8))=false:=bne_eq_false_iff_eq.mpr c8
        clear c8
        have H':=Aside0.mk H
        clear H
        have p5:0≤(x6_1:Int):=of_decide_eq_true (by first | (with_reducible assumption) | assumption)
        have q5:x6_1 < (a0.size:Int):=of_decide_eq_true (by first | (with_reducible assumption) | assumption)
        have hx5:=bt_at a0 x6_1
        replace p5:=eq_true p5
        replace q5:=eq_true q5
        go_wp2_with (first | ((with_reducible refine gate_callee (f:=80) rfl ?_); refine goesL_ (some 21) rfl rfl Tryz.func80 (by kernel_rfl) rfl #[.int .u8 (bt a0 x6_1)] rfl (by (try simp only [List.map_toArray,List.map_cons,List.map_nil]); first | done | rfl | (simp only [List.length_drop,List.length_take]; rfl)) ?_; (with_reducible refine (complineref17_blank.calls (bt a0 x6_1) true _ A6.out).mono ?_); rintro e w' ⟨rfl,⟨nd,rfl⟩⟩; refine ⟨_,rfl,?_⟩))
        go_roundg k1
        case measure=>have:=HK1.out; omega
        case rel=>exact ⟨(x4_1),((⟨#[]⟩:ByteArray)),(wrap64 (x6_1+1)),(by first | rfl | (simp; done) | (simp [*]; done)),(by first | rfl | (simp; done) | (simp [*]; done)),H',⟨by have:=HK1.out; omega⟩,⟨by (with_reducible repeat (first | apply Kd.R_alloc | apply Kd.R_drewN | apply Kd.R_drew)); exact HO_4.out⟩,⟨by repeat (first | (with_reducible first | exact HB.out | apply below_alloc | apply pw_below_drewN | apply below_drew1) | exact HB.out)⟩⟩
       ·rw [if_neg c8] at H
        have c8b0:(x5_1.toList == ([]:List UInt8))=false:=beq_eq_false_iff_ne.mpr c8
        have c8b1:(x5_1.toList != ([]:List UInt8))=true:=bne_iff_ne.mpr c8
        by_cases c9:x4_1.length < 8796093022208
        ·rw [if_pos c9] at H
         have LMc9:=Aside0.mk c9
         clear c9
         obtain ⟨y198,hy198⟩:∃ y_:List ByteArray,y_=(x4_1 ++ [x5_1]):=⟨_,rfl⟩
         replace H:(complineref17_Fields.l0 k1 a0 y198 (⟨#[]⟩:ByteArray) (wrap64 (x6_1+1)))=some (r1,r2):=by first | (rw [hy198]; with_reducible exact H) | (have H2_:=(Option.bind_some _ _).symm.trans H; rw [hy198]; with_reducible exact H2_) | (have H2_:=(Option.bind_some _ _).symm.trans H; with_reducible exact H2_) | with_reducible exact H | (rw [hy198]; exact H) | exact H
         have Ny198:=Aside0.mk hy198
         clear hy198
         have H':=Aside0.mk H
         clear H
         have p5:0≤(x6_1:Int):=of_decide_eq_true (by first | (with_reducible assumption) | assumption)
         have q5:x6_1 < (a0.size:Int):=of_decide_eq_true (by first | (with_reducible assumption) | assumption)
         have hx5:=bt_at a0 x6_1
         replace p5:=eq_true p5
         replace q5:=eq_true q5
         go_wp2_with (first | ((with_reducible refine gate_callee (f:=80) rfl ?_); refine goesL_ (some 21) rfl rfl Tryz.func80 (by kernel_rfl) rfl #[.int .u8 (bt a0 x6_1)] rfl (by (try simp only [List.map_toArray,List.map_cons,List.map_nil]); first | done | rfl | (simp only [List.length_drop,List.length_take]; rfl)) ?_; (with_reducible refine (complineref17_blank.calls (bt a0 x6_1) true _ A6.out).mono ?_); rintro e w' ⟨rfl,⟨nd,rfl⟩⟩; refine ⟨_,rfl,?_⟩) | ((with_reducible refine gate_builtin (b:=.append) (xs:=#[.tmp 24,.tmp 26]) rfl ?_); at_builtin; refine Kd.R_append Kd.string (w0:=w) w.heap.size rfl (.tmp 24) (.tmp 26) 69 9 (.string ⟨#[]⟩) 16 rfl Tryz.underlying69 info9 rfl (by decide) (by omega) u4 x4_1 x5_1 [.string x5_1] (fun _=>True) (fun _=>False) rfl rfl ?aP (fun _ hk=>hk.elim) ?aF ?aO ?aB ?aS ?aL ?_; (case aP=>exact rfl); (case aB=>exact (by repeat (first | (with_reducible first | exact HB.out | apply below_alloc | apply pw_below_drewN | apply below_drew1) | exact HB.out))); (case aF=>exact (fun _ _=>trivial)); (case aO=>exact (by (with_reducible repeat (first | apply Kd.R_alloc | apply Kd.R_drewN | apply Kd.R_drew)); exact HO_4.out)); (case aS=>exact (below_size (by repeat (first | (with_reducible first | exact HB.out | apply below_alloc | apply pw_below_drewN | apply below_drew1) | exact HB.out)))); (case aL=>have:=LMc9.out; omega); intro v199 w10 ho hb hg hat; rw [← Ny198.out] at ho; have n0_:=Aside0.mk (hb); have n1_:=Aside0.mk (ho); clear HB; clear HO_4; have HB:=n0_; have HO200:=n1_; clear n0_ n1_; clear ho hb hg hat))
         go_roundg k1
         case measure=>have:=HK1.out; omega
         case rel=>exact ⟨(y198),((⟨#[]⟩:ByteArray)),(wrap64 (x6_1+1)),(by first | rfl | (simp; done) | (simp [*]; done)),(by first | rfl | (simp; done) | (simp [*]; done)),H',⟨by have:=HK1.out; omega⟩,⟨by (with_reducible repeat (first | apply Kd.R_alloc | apply Kd.R_drewN | apply Kd.R_drew)); exact HO200.out⟩,⟨by repeat (first | (with_reducible first | exact HB.out | apply below_alloc | apply pw_below_drewN | apply below_drew1) | exact HB.out)⟩⟩
        ·rw [if_neg c9] at H
         exact absurd H (by simp)
      ·replace c7:=Bool.eq_false_iff.mpr c7
       subst c7
       have H1:((complineref17_digit.f (bt a0 x6_1)).bind fun t201=>(if t201=true then (if x6_1≤(wrap64 (x6_1+1)) then (if (wrap64 (x6_1+1))≤(a0.size:Int) then (if x5_1.size+(a0.extract (x6_1:Int).toNat ((wrap64 (x6_1+1)):Int).toNat).size≤9223372036854775807 then (complineref17_Fields.l0 k1 a0 x4_1 (x5_1 ++ (a0.extract (x6_1:Int).toNat ((wrap64 (x6_1+1)):Int).toNat)) (wrap64 (x6_1+1))) else (none)) else (none)) else (none)) else ((complineref17_letter.f (bt a0 x6_1)).bind fun t202=>(if t202=true then (if x6_1≤(wrap64 (x6_1+1)) then (if (wrap64 (x6_1+1))≤(a0.size:Int) then (if x5_1.size+(a0.extract (x6_1:Int).toNat ((wrap64 (x6_1+1)):Int).toNat).size≤9223372036854775807 then (complineref17_Fields.l0 k1 a0 x4_1 (x5_1 ++ (a0.extract (x6_1:Int).toNat ((wrap64 (x6_1+1)):Int).toNat)) (wrap64 (x6_1+1))) else (none)) else (none)) else (none)) else (if (bt a0 x6_1)=42 then (if x6_1≤(wrap64 (x6_1+1)) then (if (wrap64 (x6_1+1))≤(a0.size:Int) then (if x5_1.size+(a0.extract (x6_1:Int).toNat ((wrap64 (x6_1+1)):Int).toNat).size≤9223372036854775807 then (complineref17_Fields.l0 k1 a0 x4_1 (x5_1 ++ (a0.extract (x6_1:Int).toNat ((wrap64 (x6_1+1)):Int).toNat)) (wrap64 (x6_1+1))) else (none)) else (none)) else (none)) else (if (bt a0 x6_1)=44 then (if x6_1≤(wrap64 (x6_1+1)) then (if (wrap64 (x6_1+1))≤(a0.size:Int) then (if x5_1.size+(a0.extract (x6_1:Int).toNat ((wrap64 (x6_1+1)):Int).toNat).size≤9223372036854775807 then (complineref17_Fields.l0 k1 a0 x4_1 (x5_1 ++ (a0.extract (x6_1:Int).toNat ((wrap64 (x6_1+1)):Int).toNat)) (wrap64 (x6_1+1))) else (none)) else (none)) else (none)) else (if (bt a0 x6_1)=45 then (if x6_1≤(wrap64 (x6_1+1)) then (if (wrap64 (x6_1+1))≤(a0.size:Int) then (if x5_1.size+(a0.extract (x6_1:Int).toNat ((wrap64 (x6_1+1)):Int).toNat).size≤9223372036854775807 then (complineref17_Fields.l0 k1 a0 x4_1 (x5_1 ++ (a0.extract (x6_1:Int).toNat ((wrap64 (x6_1+1)):Int).toNat)) (wrap64 (x6_1+1))) else (none)) else (none)) else (none)) else (if (bt a0 x6_1)=47 then (if x6_1≤(wrap64 (x6_1+1)) then (if (wrap64 (x6_1+1))≤(a0.size:Int) then (if x5_1.size+(a0.extract (x6_1:Int).toNat ((wrap64 (x6_1+1)):Int).toNat).size≤9223372036854775807 then (complineref17_Fields.l0 k1 a0 x4_1 (x5_1 ++ (a0.extract (x6_1:Int).toNat ((wrap64 (x6_1+1)):Int).toNat)) (wrap64 (x6_1+1))) else (none)) else (none)) else (none)) else (some (([]:List ByteArray),2))))))))))=some (r1,r2):=by rw [if_neg (show ¬ (false=true) by decide)] at H; exact H
       clear H
       have H:=H1
       clear H1
       replace H:=Option.bind_eq_some_iff.mp H
       obtain ⟨t201,A110,H⟩ :=H
       replace H:(if t201=true then (if x6_1≤(wrap64 (x6_1+1)) then (if (wrap64 (x6_1+1))≤(a0.size:Int) then (if x5_1.size+(a0.extract (x6_1:Int).toNat ((wrap64 (x6_1+1)):Int).toNat).size≤9223372036854775807 then (complineref17_Fields.l0 k1 a0 x4_1 (x5_1 ++ (a0.extract (x6_1:Int).toNat ((wrap64 (x6_1+1)):Int).toNat)) (wrap64 (x6_1+1))) else (none)) else (none)) else (none)) else ((complineref17_letter.f (bt a0 x6_1)).bind fun t202=>(if t202=true then (if x6_1≤(wrap64 (x6_1+1)) then (if (wrap64 (x6_1+1))≤(a0.size:Int) then (if x5_1.size+(a0.extract (x6_1:Int).toNat ((wrap64 (x6_1+1)):Int).toNat).size≤9223372036854775807 then (complineref17_Fields.l0 k1 a0 x4_1 (x5_1 ++ (a0.extract (x6_1:Int).toNat ((wrap64 (x6_1+1)):Int).toNat)) (wrap64 (x6_1+1))) else (none)) else (none)) else (none)) else (if (bt a0 x6_1)=42 then (if x6_1≤(wrap64 (x6_1+1)) then (if (wrap64 (x6_1+1))≤(a0.size:Int) then (if x5_1.size+(a0.extract (x6_1:Int).toNat ((wrap64 (x6_1+1)):Int).toNat).size≤9223372036854775807 then (complineref17_Fields.l0 k1 a0 x4_1 (x5_1 ++ (a0.extract (x6_1:Int).toNat ((wrap64 (x6_1+1)):Int).toNat)) (wrap64 (x6_1+1))) else (none)) else (none)) else (none)) else (if (bt a0 x6_1)=44 then (if x6_1≤(wrap64 (x6_1+1)) then (if (wrap64 (x6_1+1))≤(a0.size:Int) then (if x5_1.size+(a0.extract (x6_1:Int).toNat ((wrap64 (x6_1+1)):Int).toNat).size≤9223372036854775807 then (complineref17_Fields.l0 k1 a0 x4_1 (x5_1 ++ (a0.extract (x6_1:Int).toNat ((wrap64 (x6_1+1)):Int).toNat)) (wrap64 (x6_1+1))) else (none)) else (none)) else (none)) else (if (bt a0 x6_1)=45 then (if x6_1≤(wrap64 (x6_1+1)) then (if (wrap64 (x6_1+1))≤(a0.size:Int) then (if x5_1.size+(a0.extract (x6_1:Int).toNat ((wrap64 (x6_1+1)):Int).toNat).size≤9223372036854775807 then (complineref17_Fields.l0 k1 a0 x4_1 (x5_1 ++ (a0.extract (x6_1:Int).toNat ((wrap64 (x6_1+1)):Int).toNat)) (wrap64 (x6_1+1))) else (none)) else (none)) else (none)) else (if (bt a0 x6_1)=47 then (if x6_1≤(wrap64 (x6_1+1)) then (if (wrap64 (x6_1+1))≤(a0.size:Int) then (if x5_1.size+(a0.extract (x6_1:Int).toNat ((wrap64 (x6_1+1)):Int).toNat).size≤9223372036854775807 then (complineref17_Fields.l0 k1 a0 x4_1 (x5_1 ++ (a0.extract (x6_1:Int).toNat ((wrap64 (x6_1+1)):Int).toNat)) (wrap64 (x6_1+1))) else (none)) else (none)) else (none)) else (some (([]:List ByteArray),2)))))))))=some (r1,r2):=H
       have A11:=Aside0.mk A110
       clear A110
       by_cases c12:t201=true
       ·subst c12
        have H1:(if x6_1≤(wrap64 (x6_1+1)) then (if (wrap64 (x6_1+1))≤(a0.size:Int) then (if x5_1.size+(a0.extract (x6_1:Int).toNat ((wrap64 (x6_1+1)):Int).toNat).size≤9223372036854775807 then (complineref17_Fields.l0 k1 a0 x4_1 (x5_1 ++ (a0.extract (x6_1:Int).toNat ((wrap64 (x6_1+1)):Int).toNat)) (wrap64 (x6_1+1))) else (none)) else (none)) else (none))=some (r1,r2):=by rw [if_pos rfl] at H; exact H
        clear H
        have H:=H1
        clear H1
        have c13b0:=eq_true (of_decide_eq_true (by first | (with_reducible assumption) | assumption):0≤x6_1)
        by_cases c14:x6_1≤(wrap64 (x6_1+1))
        ·rw [if_pos c14] at H
         have c14b0:=eq_true c14
         have c14b1:decide (x6_1≤(wrap64 (x6_1+1)))=true:=decide_eq_true c14
         by_cases c15:(wrap64 (x6_1+1))≤(a0.size:Int)
         ·rw [if_pos c15] at H
          have c15b0:=eq_true c15
          have c15b1:decide ((wrap64 (x6_1+1))≤(a0.size:Int))=true:=decide_eq_true c15
          by_cases c16:x5_1.size+(a0.extract (x6_1:Int).toNat ((wrap64 (x6_1+1)):Int).toNat).size≤9223372036854775807
          ·rw [if_pos c16] at H
           have c16b0:=eq_true c16
           have c16b1:decide (x5_1.size+(a0.extract (x6_1:Int).toNat ((wrap64 (x6_1+1)):Int).toNat).size≤9223372036854775807)=true:=decide_eq_true c16
           try have c16b2:(9223372036854775807 < x5_1.size+(a0.extract (x6_1:Int).toNat ((wrap64 (x6_1+1)):Int).toNat).size)=False:=eq_false (Nat.not_lt.2 c16)
           have c16b3:(9223372036854775807 < x5_1.size+((wrap64 (x6_1+1)).toNat - (x6_1).toNat))=False:=eq_false (by have h_:=c16; try simp only [ByteArray.size_append,ByteArray.size_extract] at h_; omega)
           have H':=Aside0.mk H
           clear H
           have p5:0≤(x6_1:Int):=of_decide_eq_true (by first | (with_reducible assumption) | assumption)
           have q5:x6_1 < (a0.size:Int):=of_decide_eq_true (by first | (with_reducible assumption) | assumption)
           have hx5:=bt_at a0 x6_1
           replace p5:=eq_true p5
           replace q5:=eq_true q5
           go_wp2_with (first | ((with_reducible refine gate_callee (f:=80) rfl ?_); refine goesL_ (some 21) rfl rfl Tryz.func80 (by kernel_rfl) rfl #[.int .u8 (bt a0 x6_1)] rfl (by (try simp only [List.map_toArray,List.map_cons,List.map_nil]); first | done | rfl | (simp only [List.length_drop,List.length_take]; rfl)) ?_; (with_reducible refine (complineref17_blank.calls (bt a0 x6_1) false _ A6.out).mono ?_); rintro e w' ⟨rfl,⟨nd,rfl⟩⟩; refine ⟨_,rfl,?_⟩) | ((with_reducible refine gate_callee (f:=81) rfl ?_); refine goesL_ (some 29) rfl rfl Tryz.func81 (by kernel_rfl) rfl #[.int .u8 (bt a0 x6_1)] rfl (by (try simp only [List.map_toArray,List.map_cons,List.map_nil]); first | done | rfl | (simp only [List.length_drop,List.length_take]; rfl)) ?_; (with_reducible refine (complineref17_digit.calls (bt a0 x6_1) true _ A11.out).mono ?_); rintro e w' ⟨rfl,⟨nd,rfl⟩⟩; refine ⟨_,rfl,?_⟩))
           go_roundg k1
           case measure=>have:=HK1.out; omega
           case rel=>exact ⟨(x4_1),(x5_1 ++ (a0.extract (x6_1:Int).toNat ((wrap64 (x6_1+1)):Int).toNat)),(wrap64 (x6_1+1)),(by first | rfl | (simp; done) | (simp [*]; done)),(by first | rfl | (simp; done) | (simp [*]; done)),H',⟨by have:=HK1.out; omega⟩,⟨by (with_reducible repeat (first | apply Kd.R_alloc | apply Kd.R_drewN | apply Kd.R_drew)); exact HO_4.out⟩,⟨by repeat (first | (with_reducible first | exact HB.out | apply below_alloc | apply pw_below_drewN | apply below_drew1) | exact HB.out)⟩⟩
          ·rw [if_neg c16] at H
           exact absurd H (by simp)
         ·rw [if_neg c15] at H
          exact absurd H (by simp)
        ·rw [if_neg c14] at H
         exact absurd H (by simp)
       ·replace c12:=Bool.eq_false_iff.mpr c12
        subst c12
        have H1:((complineref17_letter.f (bt a0 x6_1)).bind fun t202=>(if t202=true then (if x6_1≤(wrap64 (x6_1+1)) then (if (wrap64 (x6_1+1))≤(a0.size:Int) then (if x5_1.size+(a0.extract (x6_1:Int).toNat ((wrap64 (x6_1+1)):Int).toNat).size≤9223372036854775807 then (complineref17_Fields.l0 k1 a0 x4_1 (x5_1 ++ (a0.extract (x6_1:Int).toNat ((wrap64 (x6_1+1)):Int).toNat)) (wrap64 (x6_1+1))) else (none)) else (none)) else (none)) else (if (bt a0 x6_1)=42 then (if x6_1≤(wrap64 (x6_1+1)) then (if (wrap64 (x6_1+1))≤(a0.size:Int) then (if x5_1.size+(a0.extract (x6_1:Int).toNat ((wrap64 (x6_1+1)):Int).toNat).size≤9223372036854775807 then (complineref17_Fields.l0 k1 a0 x4_1 (x5_1 ++ (a0.extract (x6_1:Int).toNat ((wrap64 (x6_1+1)):Int).toNat)) (wrap64 (x6_1+1))) else (none)) else (none)) else (none)) else (if (bt a0 x6_1)=44 then (if x6_1≤(wrap64 (x6_1+1)) then (if (wrap64 (x6_1+1))≤(a0.size:Int) then (if x5_1.size+(a0.extract (x6_1:Int).toNat ((wrap64 (x6_1+1)):Int).toNat).size≤9223372036854775807 then (complineref17_Fields.l0 k1 a0 x4_1 (x5_1 ++ (a0.extract (x6_1:Int).toNat ((wrap64 (x6_1+1)):Int).toNat)) (wrap64 (x6_1+1))) else (none)) else (none)) else (none)) else (if (bt a0 x6_1)=45 then (if x6_1≤(wrap64 (x6_1+1)) then (if (wrap64 (x6_1+1))≤(a0.size:Int) then (if x5_1.size+(a0.extract (x6_1:Int).toNat ((wrap64 (x6_1+1)):Int).toNat).size≤9223372036854775807 then (complineref17_Fields.l0 k1 a0 x4_1 (x5_1 ++ (a0.extract (x6_1:Int).toNat ((wrap64 (x6_1+1)):Int).toNat)) (wrap64 (x6_1+1))) else (none)) else (none)) else (none)) else (if (bt a0 x6_1)=47 then (if x6_1≤(wrap64 (x6_1+1)) then (if (wrap64 (x6_1+1))≤(a0.size:Int) then (if x5_1.size+(a0.extract (x6_1:Int).toNat ((wrap64 (x6_1+1)):Int).toNat).size≤9223372036854775807 then (complineref17_Fields.l0 k1 a0 x4_1 (x5_1 ++ (a0.extract (x6_1:Int).toNat ((wrap64 (x6_1+1)):Int).toNat)) (wrap64 (x6_1+1))) else (none)) else (none)) else (none)) else (some (([]:List ByteArray),2))))))))=some (r1,r2):=by rw [if_neg (show ¬ (false=true) by decide)] at H; exact H
        clear H
        have H:=H1
        clear H1
        replace H:=Option.bind_eq_some_iff.mp H
        obtain ⟨t202,A170,H⟩ :=H
        replace H:(if t202=true then (if x6_1≤(wrap64 (x6_1+1)) then (if (wrap64 (x6_1+1))≤(a0.size:Int) then (if x5_1.size+(a0.extract (x6_1:Int).toNat ((wrap64 (x6_1+1)):Int).toNat).size≤9223372036854775807 then (complineref17_Fields.l0 k1 a0 x4_1 (x5_1 ++ (a0.extract (x6_1:Int).toNat ((wrap64 (x6_1+1)):Int).toNat)) (wrap64 (x6_1+1))) else (none)) else (none)) else (none)) else (if (bt a0 x6_1)=42 then (if x6_1≤(wrap64 (x6_1+1)) then (if (wrap64 (x6_1+1))≤(a0.size:Int) then (if x5_1.size+(a0.extract (x6_1:Int).toNat ((wrap64 (x6_1+1)):Int).toNat).size≤9223372036854775807 then (complineref17_Fields.l0 k1 a0 x4_1 (x5_1 ++ (a0.extract (x6_1:Int).toNat ((wrap64 (x6_1+1)):Int).toNat)) (wrap64 (x6_1+1))) else (none)) else (none)) else (none)) else (if (bt a0 x6_1)=44 then (if x6_1≤(wrap64 (x6_1+1)) then (if (wrap64 (x6_1+1))≤(a0.size:Int) then (if x5_1.size+(a0.extract (x6_1:Int).toNat ((wrap64 (x6_1+1)):Int).toNat).size≤9223372036854775807 then (complineref17_Fields.l0 k1 a0 x4_1 (x5_1 ++ (a0.extract (x6_1:Int).toNat ((wrap64 (x6_1+1)):Int).toNat)) (wrap64 (x6_1+1))) else (none)) else (none)) else (none)) else (if (bt a0 x6_1)=45 then (if x6_1≤(wrap64 (x6_1+1)) then (if (wrap64 (x6_1+1))≤(a0.size:Int) then (if x5_1.size+(a0.extract (x6_1:Int).toNat ((wrap64 (x6_1+1)):Int).toNat).size≤9223372036854775807 then (complineref17_Fields.l0 k1 a0 x4_1 (x5_1 ++ (a0.extract (x6_1:Int).toNat ((wrap64 (x6_1+1)):Int).toNat)) (wrap64 (x6_1+1))) else (none)) else (none)) else (none)) else (if (bt a0 x6_1)=47 then (if x6_1≤(wrap64 (x6_1+1)) then (if (wrap64 (x6_1+1))≤(a0.size:Int) then (if x5_1.size+(a0.extract (x6_1:Int).toNat ((wrap64 (x6_1+1)):Int).toNat).size≤9223372036854775807 then (complineref17_Fields.l0 k1 a0 x4_1 (x5_1 ++ (a0.extract (x6_1:Int).toNat ((wrap64 (x6_1+1)):Int).toNat)) (wrap64 (x6_1+1))) else (none)) else (none)) else (none)) else (some (([]:List ByteArray),2)))))))=some (r1,r2):=H
        have A17:=Aside0.mk A170
        clear A170
        by_cases c18:t202=true
        ·subst c18
         have H1:(if x6_1≤(wrap64 (x6_1+1)) then (if (wrap64 (x6_1+1))≤(a0.size:Int) then (if x5_1.size+(a0.extract (x6_1:Int).toNat ((wrap64 (x6_1+1)):Int).toNat).size≤9223372036854775807 then (complineref17_Fields.l0 k1 a0 x4_1 (x5_1 ++ (a0.extract (x6_1:Int).toNat ((wrap64 (x6_1+1)):Int).toNat)) (wrap64 (x6_1+1))) else (none)) else (none)) else (none))=some (r1,r2):=by rw [if_pos rfl] at H; exact H
         clear H
         have H:=H1
         clear H1
         have c19b0:=eq_true (of_decide_eq_true (by first | (with_reducible assumption) | assumption):0≤x6_1)
         by_cases c20:x6_1≤(wrap64 (x6_1+1))
         ·rw [if_pos c20] at H
          have c20b0:=eq_true c20
          have c20b1:decide (x6_1≤(wrap64 (x6_1+1)))=true:=decide_eq_true c20
          by_cases c21:(wrap64 (x6_1+1))≤(a0.size:Int)
          ·rw [if_pos c21] at H
           have c21b0:=eq_true c21
           have c21b1:decide ((wrap64 (x6_1+1))≤(a0.size:Int))=true:=decide_eq_true c21
           by_cases c22:x5_1.size+(a0.extract (x6_1:Int).toNat ((wrap64 (x6_1+1)):Int).toNat).size≤9223372036854775807
           ·rw [if_pos c22] at H
            have c22b0:=eq_true c22
            have c22b1:decide (x5_1.size+(a0.extract (x6_1:Int).toNat ((wrap64 (x6_1+1)):Int).toNat).size≤9223372036854775807)=true:=decide_eq_true c22
            try have c22b2:(9223372036854775807 < x5_1.size+(a0.extract (x6_1:Int).toNat ((wrap64 (x6_1+1)):Int).toNat).size)=False:=eq_false (Nat.not_lt.2 c22)
            have c22b3:(9223372036854775807 < x5_1.size+((wrap64 (x6_1+1)).toNat - (x6_1).toNat))=False:=eq_false (by have h_:=c22; try simp only [ByteArray.size_append,ByteArray.size_extract] at h_; omega)
            have H':=Aside0.mk H
            clear H
            have p5:0≤(x6_1:Int):=of_decide_eq_true (by first | (with_reducible assumption) | assumption)
            have q5:x6_1 < (a0.size:Int):=of_decide_eq_true (by first | (with_reducible assumption) | assumption)
            have hx5:=bt_at a0 x6_1
            replace p5:=eq_true p5
            replace q5:=eq_true q5
            go_wp2_with (first | ((with_reducible refine gate_callee (f:=80) rfl ?_); refine goesL_ (some 21) rfl rfl Tryz.func80 (by kernel_rfl) rfl #[.int .u8 (bt a0 x6_1)] rfl (by (try simp only [List.map_toArray,List.map_cons,List.map_nil]); first | done | rfl | (simp only [List.length_drop,List.length_take]; rfl)) ?_; (with_reducible refine (complineref17_blank.calls (bt a0 x6_1) false _ A6.out).mono ?_); rintro e w' ⟨rfl,⟨nd,rfl⟩⟩; refine ⟨_,rfl,?_⟩) | ((with_reducible refine gate_callee (f:=81) rfl ?_); refine goesL_ (some 29) rfl rfl Tryz.func81 (by kernel_rfl) rfl #[.int .u8 (bt a0 x6_1)] rfl (by (try simp only [List.map_toArray,List.map_cons,List.map_nil]); first | done | rfl | (simp only [List.length_drop,List.length_take]; rfl)) ?_; (with_reducible refine (complineref17_digit.calls (bt a0 x6_1) false _ A11.out).mono ?_); rintro e w' ⟨rfl,⟨nd,rfl⟩⟩; refine ⟨_,rfl,?_⟩) | (go_at_call 82; (with_reducible refine (complineref17_letter.calls (bt a0 x6_1) true _ A17.out).mono ?_); rintro e w' ⟨rfl,⟨nd,rfl⟩⟩))
            go_roundg k1
            case measure=>have:=HK1.out; omega
            case rel=>exact ⟨(x4_1),(x5_1 ++ (a0.extract (x6_1:Int).toNat ((wrap64 (x6_1+1)):Int).toNat)),(wrap64 (x6_1+1)),(by first | rfl | (simp; done) | (simp [*]; done)),(by first | rfl | (simp; done) | (simp [*]; done)),H',⟨by have:=HK1.out; omega⟩,⟨by (with_reducible repeat (first | apply Kd.R_alloc | apply Kd.R_drewN | apply Kd.R_drew)); exact HO_4.out⟩,⟨by repeat (first | (with_reducible first | exact HB.out | apply below_alloc | apply pw_below_drewN | apply below_drew1) | exact HB.out)⟩⟩
           ·rw [if_neg c22] at H
            exact absurd H (by simp)
          ·rw [if_neg c21] at H
           exact absurd H (by simp)
         ·rw [if_neg c20] at H
          exact absurd H (by simp)
        ·replace c18:=Bool.eq_false_iff.mpr c18
         subst c18
         have H1:(if (bt a0 x6_1)=42 then (if x6_1≤(wrap64 (x6_1+1)) then (if (wrap64 (x6_1+1))≤(a0.size:Int) then (if x5_1.size+(a0.extract (x6_1:Int).toNat ((wrap64 (x6_1+1)):Int).toNat).size≤9223372036854775807 then (complineref17_Fields.l0 k1 a0 x4_1 (x5_1 ++ (a0.extract (x6_1:Int).toNat ((wrap64 (x6_1+1)):Int).toNat)) (wrap64 (x6_1+1))) else (none)) else (none)) else (none)) else (if (bt a0 x6_1)=44 then (if x6_1≤(wrap64 (x6_1+1)) then (if (wrap64 (x6_1+1))≤(a0.size:Int) then (if x5_1.size+(a0.extract (x6_1:Int).toNat ((wrap64 (x6_1+1)):Int).toNat).size≤9223372036854775807 then (complineref17_Fields.l0 k1 a0 x4_1 (x5_1 ++ (a0.extract (x6_1:Int).toNat ((wrap64 (x6_1+1)):Int).toNat)) (wrap64 (x6_1+1))) else (none)) else (none)) else (none)) else (if (bt a0 x6_1)=45 then (if x6_1≤(wrap64 (x6_1+1)) then (if (wrap64 (x6_1+1))≤(a0.size:Int) then (if x5_1.size+(a0.extract (x6_1:Int).toNat ((wrap64 (x6_1+1)):Int).toNat).size≤9223372036854775807 then (complineref17_Fields.l0 k1 a0 x4_1 (x5_1 ++ (a0.extract (x6_1:Int).toNat ((wrap64 (x6_1+1)):Int).toNat)) (wrap64 (x6_1+1))) else (none)) else (none)) else (none)) else (if (bt a0 x6_1)=47 then (if x6_1≤(wrap64 (x6_1+1)) then (if (wrap64 (x6_1+1))≤(a0.size:Int) then (if x5_1.size+(a0.extract (x6_1:Int).toNat ((wrap64 (x6_1+1)):Int).toNat).size≤9223372036854775807 then (complineref17_Fields.l0 k1 a0 x4_1 (x5_1 ++ (a0.extract (x6_1:Int).toNat ((wrap64 (x6_1+1)):Int).toNat)) (wrap64 (x6_1+1))) else (none)) else (none)) else (none)) else (some (([]:List ByteArray),2))))))=some (r1,r2):=by rw [if_neg (show ¬ (false=true) by decide)] at H; exact H
         clear H
         have H:=H1
         clear H1
         by_cases c23:(bt a0 x6_1)=42
         ·rw [if_pos c23] at H
          have c23b0:((bt a0 x6_1) == 42)=true:=beq_iff_eq.mpr c23
          have c23b1:((bt a0 x6_1) != 42)=false:=bne_eq_false_iff_eq.mpr c23
          clear c23
          have c24b0:=eq_true (of_decide_eq_true (by first | (with_reducible assumption) | assumption):0≤x6_1)
          by_cases c25:x6_1≤(wrap64 (x6_1+1))
          ·rw [if_pos c25] at H
           have c25b0:=eq_true c25
           have c25b1:decide (x6_1≤(wrap64 (x6_1+1)))=true:=decide_eq_true c25
           by_cases c26:(wrap64 (x6_1+1))≤(a0.size:Int)
           ·rw [if_pos c26] at H
            have c26b0:=eq_true c26
            have c26b1:decide ((wrap64 (x6_1+1))≤(a0.size:Int))=true:=decide_eq_true c26
            by_cases c27:x5_1.size+(a0.extract (x6_1:Int).toNat ((wrap64 (x6_1+1)):Int).toNat).size≤9223372036854775807
            ·rw [if_pos c27] at H
             have c27b0:=eq_true c27
             have c27b1:decide (x5_1.size+(a0.extract (x6_1:Int).toNat ((wrap64 (x6_1+1)):Int).toNat).size≤9223372036854775807)=true:=decide_eq_true c27
             try have c27b2:(9223372036854775807 < x5_1.size+(a0.extract (x6_1:Int).toNat ((wrap64 (x6_1+1)):Int).toNat).size)=False:=eq_false (Nat.not_lt.2 c27)
             have c27b3:(9223372036854775807 < x5_1.size+((wrap64 (x6_1+1)).toNat - (x6_1).toNat))=False:=eq_false (by have h_:=c27; try simp only [ByteArray.size_append,ByteArray.size_extract] at h_; omega)
             have H':=Aside0.mk H
             clear H
             have p5:0≤(x6_1:Int):=of_decide_eq_true (by first | (with_reducible assumption) | assumption)
             have q5:x6_1 < (a0.size:Int):=of_decide_eq_true (by first | (with_reducible assumption) | assumption)
             have hx5:=bt_at a0 x6_1
             replace p5:=eq_true p5
             replace q5:=eq_true q5
             go_wp2_with (first | ((with_reducible refine gate_callee (f:=80) rfl ?_); refine goesL_ (some 21) rfl rfl Tryz.func80 (by kernel_rfl) rfl #[.int .u8 (bt a0 x6_1)] rfl (by (try simp only [List.map_toArray,List.map_cons,List.map_nil]); first | done | rfl | (simp only [List.length_drop,List.length_take]; rfl)) ?_; (with_reducible refine (complineref17_blank.calls (bt a0 x6_1) false _ A6.out).mono ?_); rintro e w' ⟨rfl,⟨nd,rfl⟩⟩; refine ⟨_,rfl,?_⟩) | ((with_reducible refine gate_callee (f:=81) rfl ?_); refine goesL_ (some 29) rfl rfl Tryz.func81 (by kernel_rfl) rfl #[.int .u8 (bt a0 x6_1)] rfl (by (try simp only [List.map_toArray,List.map_cons,List.map_nil]); first | done | rfl | (simp only [List.length_drop,List.length_take]; rfl)) ?_; (with_reducible refine (complineref17_digit.calls (bt a0 x6_1) false _ A11.out).mono ?_); rintro e w' ⟨rfl,⟨nd,rfl⟩⟩; refine ⟨_,rfl,?_⟩) | (go_at_call 82; (with_reducible refine (complineref17_letter.calls (bt a0 x6_1) false _ A17.out).mono ?_); rintro e w' ⟨rfl,⟨nd,rfl⟩⟩))
             go_roundg k1
             case measure=>have:=HK1.out; omega
             case rel=>exact ⟨(x4_1),(x5_1 ++ (a0.extract (x6_1:Int).toNat ((wrap64 (x6_1+1)):Int).toNat)),(wrap64 (x6_1+1)),(by first | rfl | (simp; done) | (simp [*]; done)),(by first | rfl | (simp; done) | (simp [*]; done)),H',⟨by have:=HK1.out; omega⟩,⟨by (with_reducible repeat (first | apply Kd.R_alloc | apply Kd.R_drewN | apply Kd.R_drew)); exact HO_4.out⟩,⟨by repeat (first | (with_reducible first | exact HB.out | apply below_alloc | apply pw_below_drewN | apply below_drew1) | exact HB.out)⟩⟩
            ·rw [if_neg c27] at H
             exact absurd H (by simp)
           ·rw [if_neg c26] at H
            exact absurd H (by simp)
          ·rw [if_neg c25] at H
           exact absurd H (by simp)
         ·rw [if_neg c23] at H
          have c23b0:((bt a0 x6_1) == 42)=false:=beq_eq_false_iff_ne.mpr c23
          have c23b1:((bt a0 x6_1) != 42)=true:=bne_iff_ne.mpr c23
          by_cases c28:(bt a0 x6_1)=44
          ·rw [if_pos c28] at H
           have c28b0:((bt a0 x6_1) == 44)=true:=beq_iff_eq.mpr c28
           have c28b1:((bt a0 x6_1) != 44)=false:=bne_eq_false_iff_eq.mpr c28
           clear c28
           have c29b0:=eq_true (of_decide_eq_true (by first | (with_reducible assumption) | assumption):0≤x6_1)
           by_cases c30:x6_1≤(wrap64 (x6_1+1))
           ·rw [if_pos c30] at H
            have c30b0:=eq_true c30
            have c30b1:decide (x6_1≤(wrap64 (x6_1+1)))=true:=decide_eq_true c30
            by_cases c31:(wrap64 (x6_1+1))≤(a0.size:Int)
            ·rw [if_pos c31] at H
             have c31b0:=eq_true c31
             have c31b1:decide ((wrap64 (x6_1+1))≤(a0.size:Int))=true:=decide_eq_true c31
             by_cases c32:x5_1.size+(a0.extract (x6_1:Int).toNat ((wrap64 (x6_1+1)):Int).toNat).size≤9223372036854775807
             ·rw [if_pos c32] at H
              have c32b0:=eq_true c32
              have c32b1:decide (x5_1.size+(a0.extract (x6_1:Int).toNat ((wrap64 (x6_1+1)):Int).toNat).size≤9223372036854775807)=true:=decide_eq_true c32
              try have c32b2:(9223372036854775807 < x5_1.size+(a0.extract (x6_1:Int).toNat ((wrap64 (x6_1+1)):Int).toNat).size)=False:=eq_false (Nat.not_lt.2 c32)
              have c32b3:(9223372036854775807 < x5_1.size+((wrap64 (x6_1+1)).toNat - (x6_1).toNat))=False:=eq_false (by have h_:=c32; try simp only [ByteArray.size_append,ByteArray.size_extract] at h_; omega)
              have H':=Aside0.mk H
              clear H
              have p5:0≤(x6_1:Int):=of_decide_eq_true (by first | (with_reducible assumption) | assumption)
              have q5:x6_1 < (a0.size:Int):=of_decide_eq_true (by first | (with_reducible assumption) | assumption)
              have hx5:=bt_at a0 x6_1
              replace p5:=eq_true p5
              replace q5:=eq_true q5
              go_wp2_with (first | ((with_reducible refine gate_callee (f:=80) rfl ?_); refine goesL_ (some 21) rfl rfl Tryz.func80 (by kernel_rfl) rfl #[.int .u8 (bt a0 x6_1)] rfl (by (try simp only [List.map_toArray,List.map_cons,List.map_nil]); first | done | rfl | (simp only [List.length_drop,List.length_take]; rfl)) ?_; (with_reducible refine (complineref17_blank.calls (bt a0 x6_1) false _ A6.out).mono ?_); rintro e w' ⟨rfl,⟨nd,rfl⟩⟩; refine ⟨_,rfl,?_⟩) | ((with_reducible refine gate_callee (f:=81) rfl ?_); refine goesL_ (some 29) rfl rfl Tryz.func81 (by kernel_rfl) rfl #[.int .u8 (bt a0 x6_1)] rfl (by (try simp only [List.map_toArray,List.map_cons,List.map_nil]); first | done | rfl | (simp only [List.length_drop,List.length_take]; rfl)) ?_; (with_reducible refine (complineref17_digit.calls (bt a0 x6_1) false _ A11.out).mono ?_); rintro e w' ⟨rfl,⟨nd,rfl⟩⟩; refine ⟨_,rfl,?_⟩) | (go_at_call 82; (with_reducible refine (complineref17_letter.calls (bt a0 x6_1) false _ A17.out).mono ?_); rintro e w' ⟨rfl,⟨nd,rfl⟩⟩))
              go_roundg k1
              case measure=>have:=HK1.out; omega
              case rel=>exact ⟨(x4_1),(x5_1 ++ (a0.extract (x6_1:Int).toNat ((wrap64 (x6_1+1)):Int).toNat)),(wrap64 (x6_1+1)),(by first | rfl | (simp; done) | (simp [*]; done)),(by first | rfl | (simp; done) | (simp [*]; done)),H',⟨by have:=HK1.out; omega⟩,⟨by (with_reducible repeat (first | apply Kd.R_alloc | apply Kd.R_drewN | apply Kd.R_drew)); exact HO_4.out⟩,⟨by repeat (first | (with_reducible first | exact HB.out | apply below_alloc | apply pw_below_drewN | apply below_drew1) | exact HB.out)⟩⟩
             ·rw [if_neg c32] at H
              exact absurd H (by simp)
            ·rw [if_neg c31] at H
             exact absurd H (by simp)
           ·rw [if_neg c30] at H
            exact absurd H (by simp)
          ·rw [if_neg c28] at H
           have c28b0:((bt a0 x6_1) == 44)=false:=beq_eq_false_iff_ne.mpr c28
           have c28b1:((bt a0 x6_1) != 44)=true:=bne_iff_ne.mpr c28
           by_cases c33:(bt a0 x6_1)=45
           ·rw [if_pos c33] at H
            have c33b0:((bt a0 x6_1) == 45)=true:=beq_iff_eq.mpr c33
            have c33b1:((bt a0 x6_1) != 45)=false:=bne_eq_false_iff_eq.mpr c33
            clear c33
            have c34b0:=eq_true (of_decide_eq_true (by first | (with_reducible assumption) | assumption):0≤x6_1)
            by_cases c35:x6_1≤(wrap64 (x6_1+1))
            ·rw [if_pos c35] at H
             have c35b0:=eq_true c35
             have c35b1:decide (x6_1≤(wrap64 (x6_1+1)))=true:=decide_eq_true c35
             by_cases c36:(wrap64 (x6_1+1))≤(a0.size:Int)
             ·rw [if_pos c36] at H
              have c36b0:=eq_true c36
              have c36b1:decide ((wrap64 (x6_1+1))≤(a0.size:Int))=true:=decide_eq_true c36
              by_cases c37:x5_1.size+(a0.extract (x6_1:Int).toNat ((wrap64 (x6_1+1)):Int).toNat).size≤9223372036854775807
              ·rw [if_pos c37] at H
               have c37b0:=eq_true c37
               have c37b1:decide (x5_1.size+(a0.extract (x6_1:Int).toNat ((wrap64 (x6_1+1)):Int).toNat).size≤9223372036854775807)=true:=decide_eq_true c37
               try have c37b2:(9223372036854775807 < x5_1.size+(a0.extract (x6_1:Int).toNat ((wrap64 (x6_1+1)):Int).toNat).size)=False:=eq_false (Nat.not_lt.2 c37)
               have c37b3:(9223372036854775807 < x5_1.size+((wrap64 (x6_1+1)).toNat - (x6_1).toNat))=False:=eq_false (by have h_:=c37; try simp only [ByteArray.size_append,ByteArray.size_extract] at h_; omega)
               have H':=Aside0.mk H
               clear H
               have p5:0≤(x6_1:Int):=of_decide_eq_true (by first | (with_reducible assumption) | assumption)
               have q5:x6_1 < (a0.size:Int):=of_decide_eq_true (by first | (with_reducible assumption) | assumption)
               have hx5:=bt_at a0 x6_1
               replace p5:=eq_true p5
               replace q5:=eq_true q5
               go_wp2_with (first | ((with_reducible refine gate_callee (f:=80) rfl ?_); refine goesL_ (some 21) rfl rfl Tryz.func80 (by kernel_rfl) rfl #[.int .u8 (bt a0 x6_1)] rfl (by (try simp only [List.map_toArray,List.map_cons,List.map_nil]); first | done | rfl | (simp only [List.length_drop,List.length_take]; rfl)) ?_; (with_reducible refine (complineref17_blank.calls (bt a0 x6_1) false _ A6.out).mono ?_); rintro e w' ⟨rfl,⟨nd,rfl⟩⟩; refine ⟨_,rfl,?_⟩) | ((with_reducible refine gate_callee (f:=81) rfl ?_); refine goesL_ (some 29) rfl rfl Tryz.func81 (by kernel_rfl) rfl #[.int .u8 (bt a0 x6_1)] rfl (by (try simp only [List.map_toArray,List.map_cons,List.map_nil]); first | done | rfl | (simp only [List.length_drop,List.length_take]; rfl)) ?_; (with_reducible refine (complineref17_digit.calls (bt a0 x6_1) false _ A11.out).mono ?_); rintro e w' ⟨rfl,⟨nd,rfl⟩⟩; refine ⟨_,rfl,?_⟩) | (go_at_call 82; (with_reducible refine (complineref17_letter.calls (bt a0 x6_1) false _ A17.out).mono ?_); rintro e w' ⟨rfl,⟨nd,rfl⟩⟩))
               go_roundg k1
               case measure=>have:=HK1.out; omega
               case rel=>exact ⟨(x4_1),(x5_1 ++ (a0.extract (x6_1:Int).toNat ((wrap64 (x6_1+1)):Int).toNat)),(wrap64 (x6_1+1)),(by first | rfl | (simp; done) | (simp [*]; done)),(by first | rfl | (simp; done) | (simp [*]; done)),H',⟨by have:=HK1.out; omega⟩,⟨by (with_reducible repeat (first | apply Kd.R_alloc | apply Kd.R_drewN | apply Kd.R_drew)); exact HO_4.out⟩,⟨by repeat (first | (with_reducible first | exact HB.out | apply below_alloc | apply pw_below_drewN | apply below_drew1) | exact HB.out)⟩⟩
              ·rw [if_neg c37] at H
               exact absurd H (by simp)
             ·rw [if_neg c36] at H
              exact absurd H (by simp)
            ·rw [if_neg c35] at H
             exact absurd H (by simp)
           ·rw [if_neg c33] at H
            have c33b0:((bt a0 x6_1) == 45)=false:=beq_eq_false_iff_ne.mpr c33
            have c33b1:((bt a0 x6_1) != 45)=true:=bne_iff_ne.mpr c33
            by_cases c38:(bt a0 x6_1)=47
            ·rw [if_pos c38] at H
             have c38b0:((bt a0 x6_1) == 47)=true:=beq_iff_eq.mpr c38
             have c38b1:((bt a0 x6_1) != 47)=false:=bne_eq_false_iff_eq.mpr c38
             clear c38
             have c39b0:=eq_true (of_decide_eq_true (by first | (with_reducible assumption) | assumption):0≤x6_1)
             by_cases c40:x6_1≤(wrap64 (x6_1+1))
             ·rw [if_pos c40] at H
              have c40b0:=eq_true c40
              have c40b1:decide (x6_1≤(wrap64 (x6_1+1)))=true:=decide_eq_true c40
              by_cases c41:(wrap64 (x6_1+1))≤(a0.size:Int)
              ·rw [if_pos c41] at H
               have c41b0:=eq_true c41
               have c41b1:decide ((wrap64 (x6_1+1))≤(a0.size:Int))=true:=decide_eq_true c41
               by_cases c42:x5_1.size+(a0.extract (x6_1:Int).toNat ((wrap64 (x6_1+1)):Int).toNat).size≤9223372036854775807
               ·rw [if_pos c42] at H
                have c42b0:=eq_true c42
                have c42b1:decide (x5_1.size+(a0.extract (x6_1:Int).toNat ((wrap64 (x6_1+1)):Int).toNat).size≤9223372036854775807)=true:=decide_eq_true c42
                try have c42b2:(9223372036854775807 < x5_1.size+(a0.extract (x6_1:Int).toNat ((wrap64 (x6_1+1)):Int).toNat).size)=False:=eq_false (Nat.not_lt.2 c42)
                have c42b3:(9223372036854775807 < x5_1.size+((wrap64 (x6_1+1)).toNat - (x6_1).toNat))=False:=eq_false (by have h_:=c42; try simp only [ByteArray.size_append,ByteArray.size_extract] at h_; omega)
                have H':=Aside0.mk H
                clear H
                have p5:0≤(x6_1:Int):=of_decide_eq_true (by first | (with_reducible assumption) | assumption)
                have q5:x6_1 < (a0.size:Int):=of_decide_eq_true (by first | (with_reducible assumption) | assumption)
                have hx5:=bt_at a0 x6_1
                replace p5:=eq_true p5
                replace q5:=eq_true q5
                go_wp2_with (first | ((with_reducible refine gate_callee (f:=80) rfl ?_); refine goesL_ (some 21) rfl rfl Tryz.func80 (by kernel_rfl) rfl #[.int .u8 (bt a0 x6_1)] rfl (by (try simp only [List.map_toArray,List.map_cons,List.map_nil]); first | done | rfl | (simp only [List.length_drop,List.length_take]; rfl)) ?_; (with_reducible refine (complineref17_blank.calls (bt a0 x6_1) false _ A6.out).mono ?_); rintro e w' ⟨rfl,⟨nd,rfl⟩⟩; refine ⟨_,rfl,?_⟩) | ((with_reducible refine gate_callee (f:=81) rfl ?_); refine goesL_ (some 29) rfl rfl Tryz.func81 (by kernel_rfl) rfl #[.int .u8 (bt a0 x6_1)] rfl (by (try simp only [List.map_toArray,List.map_cons,List.map_nil]); first | done | rfl | (simp only [List.length_drop,List.length_take]; rfl)) ?_; (with_reducible refine (complineref17_digit.calls (bt a0 x6_1) false _ A11.out).mono ?_); rintro e w' ⟨rfl,⟨nd,rfl⟩⟩; refine ⟨_,rfl,?_⟩) | (go_at_call 82; (with_reducible refine (complineref17_letter.calls (bt a0 x6_1) false _ A17.out).mono ?_); rintro e w' ⟨rfl,⟨nd,rfl⟩⟩))
                go_roundg k1
                case measure=>have:=HK1.out; omega
                case rel=>exact ⟨(x4_1),(x5_1 ++ (a0.extract (x6_1:Int).toNat ((wrap64 (x6_1+1)):Int).toNat)),(wrap64 (x6_1+1)),(by first | rfl | (simp; done) | (simp [*]; done)),(by first | rfl | (simp; done) | (simp [*]; done)),H',⟨by have:=HK1.out; omega⟩,⟨by (with_reducible repeat (first | apply Kd.R_alloc | apply Kd.R_drewN | apply Kd.R_drew)); exact HO_4.out⟩,⟨by repeat (first | (with_reducible first | exact HB.out | apply below_alloc | apply pw_below_drewN | apply below_drew1) | exact HB.out)⟩⟩
               ·rw [if_neg c42] at H
                exact absurd H (by simp)
              ·rw [if_neg c41] at H
               exact absurd H (by simp)
             ·rw [if_neg c40] at H
              exact absurd H (by simp)
            ·rw [if_neg c38] at H
             have c38b0:((bt a0 x6_1) == 47)=false:=beq_eq_false_iff_ne.mpr c38
             have c38b1:((bt a0 x6_1) != 47)=true:=bne_iff_ne.mpr c38
             simp only [Option.some.injEq,Prod.mk.injEq] at H
             obtain ⟨rfl,rfl⟩ :=H
             have p5:0≤(x6_1:Int):=of_decide_eq_true (by first | (with_reducible assumption) | assumption)
             have q5:x6_1 < (a0.size:Int):=of_decide_eq_true (by first | (with_reducible assumption) | assumption)
             have hx5:=bt_at a0 x6_1
             replace p5:=eq_true p5
             replace q5:=eq_true q5
             go_wp2_with (first | ((with_reducible refine gate_callee (f:=80) rfl ?_); refine goesL_ (some 21) rfl rfl Tryz.func80 (by kernel_rfl) rfl #[.int .u8 (bt a0 x6_1)] rfl (by (try simp only [List.map_toArray,List.map_cons,List.map_nil]); first | done | rfl | (simp only [List.length_drop,List.length_take]; rfl)) ?_; (with_reducible refine (complineref17_blank.calls (bt a0 x6_1) false _ A6.out).mono ?_); rintro e w' ⟨rfl,⟨nd,rfl⟩⟩; refine ⟨_,rfl,?_⟩) | ((with_reducible refine gate_callee (f:=81) rfl ?_); refine goesL_ (some 29) rfl rfl Tryz.func81 (by kernel_rfl) rfl #[.int .u8 (bt a0 x6_1)] rfl (by (try simp only [List.map_toArray,List.map_cons,List.map_nil]); first | done | rfl | (simp only [List.length_drop,List.length_take]; rfl)) ?_; (with_reducible refine (complineref17_digit.calls (bt a0 x6_1) false _ A11.out).mono ?_); rintro e w' ⟨rfl,⟨nd,rfl⟩⟩; refine ⟨_,rfl,?_⟩) | (go_at_call 82; (with_reducible refine (complineref17_letter.calls (bt a0 x6_1) false _ A17.out).mono ?_); rintro e w' ⟨rfl,⟨nd,rfl⟩⟩))
             go_ret2
             exact ⟨_,by first | rfl | (simp [errW_none,errW_some] <;> rfl) | (simp [*,errW_none,errW_some] <;> rfl),by first | exact Kd.R_nil _ _ _ _ _ | exact Kd.N_nil _ _ _ _ _ | exact Kd.V_nil _ _ _ _ _ | exact Kd.Q_nil _ _ _ _ _ | exact Kd.S_nil _ _ _ _ _,by repeat (first | (with_reducible first | exact HB.out | apply below_alloc | apply pw_below_drewN | apply below_drew1) | exact HB.out)⟩
     ·rw [if_neg c4] at H
      exact absurd H (by simp)
    ·rw [if_neg c3] at H
     have c3b0:decide (x6_1 < (a0.size:Int))=false:=decide_eq_false c3
     clear c3
     by_cases c43:x5_1.toList=([]:List UInt8)
     ·rw [if_pos c43] at H
      have c43b0:(x5_1.toList == ([]:List UInt8))=true:=beq_iff_eq.mpr c43
      have c43b1:(x5_1.toList != ([]:List UInt8))=false:=bne_eq_false_iff_eq.mpr c43
      clear c43
      by_cases c44:(x4_1.length:Int)=5
      ·rw [if_pos c44] at H
       have c44b0:((x4_1.length:Int) == 5)=true:=beq_iff_eq.mpr c44
       have c44b1:((x4_1.length:Int) != 5)=false:=bne_eq_false_iff_eq.mpr c44
       clear c44
       simp only [Option.some.injEq,Prod.mk.injEq] at H
       obtain ⟨rfl,rfl⟩ :=H
       obtain ⟨Ao45,co45,eo45⟩ :=Kd.R_slice HO_4.out
       subst eo45
       go_wp2
       go_ret2
       exact ⟨_,by first | rfl | (simp [errW_none,errW_some] <;> rfl) | (simp [*,errW_none,errW_some] <;> rfl),by (with_reducible repeat (first | apply Kd.R_alloc | apply Kd.R_drewN | apply Kd.R_drew)); exact HO_4.out,by repeat (first | (with_reducible first | exact HB.out | apply below_alloc | apply pw_below_drewN | apply below_drew1) | exact HB.out)⟩
      ·rw [if_neg c44] at H
       have c44b0:((x4_1.length:Int) == 5)=false:=beq_eq_false_iff_ne.mpr c44
       have c44b1:((x4_1.length:Int) != 5)=true:=bne_iff_ne.mpr c44
       simp only [Option.some.injEq,Prod.mk.injEq] at H
       obtain ⟨rfl,rfl⟩ :=H
       obtain ⟨Ao46,co46,eo46⟩ :=Kd.R_slice HO_4.out
       subst eo46
       go_wp2
       go_ret2
       exact ⟨_,by first | rfl | (simp [errW_none,errW_some] <;> rfl) | (simp [*,errW_none,errW_some] <;> rfl),by first | exact Kd.R_nil _ _ _ _ _ | exact Kd.N_nil _ _ _ _ _ | exact Kd.V_nil _ _ _ _ _ | exact Kd.Q_nil _ _ _ _ _ | exact Kd.S_nil _ _ _ _ _,by repeat (first | (with_reducible first | exact HB.out | apply below_alloc | apply pw_below_drewN | apply below_drew1) | exact HB.out)⟩
     ·rw [if_neg c43] at H
      have c43b0:(x5_1.toList == ([]:List UInt8))=false:=beq_eq_false_iff_ne.mpr c43
      have c43b1:(x5_1.toList != ([]:List UInt8))=true:=bne_iff_ne.mpr c43
      by_cases c47:x4_1.length < 8796093022208
      ·rw [if_pos c47] at H
       have LMc47:=Aside0.mk c47
       clear c47
       obtain ⟨y203,hy203⟩:∃ y_:List ByteArray,y_=(x4_1 ++ [x5_1]):=⟨_,rfl⟩
       replace H:(if (y203.length:Int)=5 then (some (y203,0)) else (some (([]:List ByteArray),2)))=some (r1,r2):=by first | (rw [hy203]; with_reducible exact H) | (have H2_:=(Option.bind_some _ _).symm.trans H; rw [hy203]; with_reducible exact H2_) | (have H2_:=(Option.bind_some _ _).symm.trans H; with_reducible exact H2_) | with_reducible exact H | (rw [hy203]; exact H) | exact H
       have Ny203:=Aside0.mk hy203
       clear hy203
       by_cases c48:(y203.length:Int)=5
       ·rw [if_pos c48] at H
        have c48b0:((y203.length:Int) == 5)=true:=beq_iff_eq.mpr c48
        have c48b1:((y203.length:Int) != 5)=false:=bne_eq_false_iff_eq.mpr c48
        clear c48
        simp only [Option.some.injEq,Prod.mk.injEq] at H
        obtain ⟨rfl,rfl⟩ :=H
        go_wp2_with (first | ((with_reducible refine gate_builtin (b:=.append) (xs:=#[.tmp 61,.tmp 63]) rfl ?_); at_builtin; refine Kd.R_append Kd.string (w0:=w) w.heap.size rfl (.tmp 61) (.tmp 63) 69 9 (.string ⟨#[]⟩) 16 rfl Tryz.underlying69 info9 rfl (by decide) (by omega) u4 x4_1 x5_1 [.string x5_1] (fun _=>True) (fun _=>False) rfl rfl ?aP (fun _ hk=>hk.elim) ?aF ?aO ?aB ?aS ?aL ?_; (case aP=>exact rfl); (case aB=>exact (by repeat (first | (with_reducible first | exact HB.out | apply below_alloc | apply pw_below_drewN | apply below_drew1) | exact HB.out))); (case aF=>exact (fun _ _=>trivial)); (case aO=>exact (by (with_reducible repeat (first | apply Kd.R_alloc | apply Kd.R_drewN | apply Kd.R_drew)); exact HO_4.out)); (case aS=>exact (below_size (by repeat (first | (with_reducible first | exact HB.out | apply below_alloc | apply pw_below_drewN | apply below_drew1) | exact HB.out)))); (case aL=>have:=LMc47.out; omega); intro v204 w49 ho hb hg hat; rw [← Ny203.out] at ho; have n0_:=Aside0.mk (hb); have n1_:=Aside0.mk (ho); clear HB; clear HO_4; have HB:=n0_; have HO205:=n1_; clear n0_ n1_; clear ho hb hg hat; obtain ⟨Ao50,co50,eo50⟩ :=Kd.R_slice HO205.out; subst eo50))
        go_ret2
        exact ⟨_,by first | rfl | (simp [errW_none,errW_some] <;> rfl) | (simp [*,errW_none,errW_some] <;> rfl),by (with_reducible repeat (first | apply Kd.R_alloc | apply Kd.R_drewN | apply Kd.R_drew)); exact HO205.out,by repeat (first | (with_reducible first | exact HB.out | apply below_alloc | apply pw_below_drewN | apply below_drew1) | exact HB.out)⟩
       ·rw [if_neg c48] at H
        have c48b0:((y203.length:Int) == 5)=false:=beq_eq_false_iff_ne.mpr c48
        have c48b1:((y203.length:Int) != 5)=true:=bne_iff_ne.mpr c48
        simp only [Option.some.injEq,Prod.mk.injEq] at H
        obtain ⟨rfl,rfl⟩ :=H
        go_wp2_with (first | ((with_reducible refine gate_builtin (b:=.append) (xs:=#[.tmp 61,.tmp 63]) rfl ?_); at_builtin; refine Kd.R_append Kd.string (w0:=w) w.heap.size rfl (.tmp 61) (.tmp 63) 69 9 (.string ⟨#[]⟩) 16 rfl Tryz.underlying69 info9 rfl (by decide) (by omega) u4 x4_1 x5_1 [.string x5_1] (fun _=>True) (fun _=>False) rfl rfl ?aP (fun _ hk=>hk.elim) ?aF ?aO ?aB ?aS ?aL ?_; (case aP=>exact rfl); (case aB=>exact (by repeat (first | (with_reducible first | exact HB.out | apply below_alloc | apply pw_below_drewN | apply below_drew1) | exact HB.out))); (case aF=>exact (fun _ _=>trivial)); (case aO=>exact (by (with_reducible repeat (first | apply Kd.R_alloc | apply Kd.R_drewN | apply Kd.R_drew)); exact HO_4.out)); (case aS=>exact (below_size (by repeat (first | (with_reducible first | exact HB.out | apply below_alloc | apply pw_below_drewN | apply below_drew1) | exact HB.out)))); (case aL=>have:=LMc47.out; omega); intro v204 w51 ho hb hg hat; rw [← Ny203.out] at ho; have n0_:=Aside0.mk (hb); have n1_:=Aside0.mk (ho); clear HB; clear HO_4; have HB:=n0_; have HO205:=n1_; clear n0_ n1_; clear ho hb hg hat; obtain ⟨Ao52,co52,eo52⟩ :=Kd.R_slice HO205.out; subst eo52))
        go_ret2
        exact ⟨_,by first | rfl | (simp [errW_none,errW_some] <;> rfl) | (simp [*,errW_none,errW_some] <;> rfl),by first | exact Kd.R_nil _ _ _ _ _ | exact Kd.N_nil _ _ _ _ _ | exact Kd.V_nil _ _ _ _ _ | exact Kd.Q_nil _ _ _ _ _ | exact Kd.S_nil _ _ _ _ _,by repeat (first | (with_reducible first | exact HB.out | apply below_alloc | apply pw_below_drewN | apply below_drew1) | exact HB.out)⟩
      ·rw [if_neg c47] at H
       exact absurd H (by simp)
def complineref18_Split.l0:Nat→ByteArray→Int→List ByteArray→Int→Option (List ByteArray)
 | 0,_,_,_,_=>none
 | k+1,x0,x1,x5,x6=>if x6 < (x0.size:Int) then (if 0≤x6 then (if (bt x0 x6)=x1 then (if x5.length < 8796093022208 then (complineref18_Split.l0 k x0 x1 (x5 ++ [(⟨#[]⟩:ByteArray)]) (wrap64 (x6+1))) else (none)) else (if 0≤(wrap64 ((x5.length:Int) - 1)) then (if (wrap64 ((x5.length:Int) - 1)) < (x5.length:Int) then (if x6≤(wrap64 (x6+1)) then (if (wrap64 (x6+1))≤(x0.size:Int) then (if (rdOf ByteArray.empty x5 (wrap64 ((x5.length:Int) - 1))).size+(x0.extract (x6:Int).toNat ((wrap64 (x6+1)):Int).toNat).size≤9223372036854775807 then (complineref18_Split.l0 k x0 x1 (x5.set ((wrap64 ((x5.length:Int) - 1)):Int).toNat ((rdOf ByteArray.empty x5 (wrap64 ((x5.length:Int) - 1))) ++ (x0.extract (x6:Int).toNat ((wrap64 (x6+1)):Int).toNat))) (wrap64 (x6+1))) else (none)) else (none)) else (none)) else (none)) else (none))) else (none)) else (some x5)
def complineref18_Split.f (k:Nat)(a0:ByteArray)(a1:Int):Option (List ByteArray):=complineref18_Split.l0 k a0 a1 (([(⟨#[]⟩:ByteArray)]:List ByteArray)) 0
def complineref18_Split.T7:Bool × List (List Nat × List Nat):=(true,[([],[]),([],[]),([1],[1]),([2],[2]),([],[]),([],[]),([5],[5]),([6],[6]),([4,7],[4,7]),([8],[8]),([],[]),([],[]),([],[]),([12],[12]),([10,11,13],[10,11,13]),([9,14],[9,14]),([0,3,0,1,2,3,4,5,6,7,8,9,10,11,12,13,14,15],[0,3]),([16,15,0,1,2,3,4,5,6,7,8,9,10,11,12,13,14,15],[15,16])])
def complineref18_Split.B7:List Nat:=[0,0,2,6,0,0,32,96,240,496,0,0,0,4096,15360,32752,65535,131071]
theorem complineref18_Split.tab7:rtab .any (opsOf Tryz.f83 7)=complineref18_Split.T7:=by kernel_rfl
theorem complineref18_Split.bits7:waitsOk complineref18_Split.T7.2 complineref18_Split.B7=true:=by kernel_rfl
set_option maxHeartbeats 8000000 in
set_option maxRecDepth 100000 in
theorem complineref18_Split.calls (k:Nat)(a0:ByteArray)(a1:Int)(r:List ByteArray)(w:World)(h:complineref18_Split.f k a0 a1=some r) :
  Calls Tryz.prog 83 #[.string a0,.int .u8 a1] w fun e w'=>∃ v0_:Value,e=.returned (v0_)∧Kd.R Kd.string 9 w' w.heap.size (fun _=>True) v0_ r∧Below w.heap.size w w':=by
 have HB:=Aside0.mk (Below.refl w.heap.size w)
 have H:(complineref18_Split.l0 k a0 a1 (([(⟨#[]⟩:ByteArray)]:List ByteArray)) 0)=some r:=h
 clear h
 obtain ⟨y206,hy206⟩:∃ y_:List ByteArray,y_=(([(⟨#[]⟩:ByteArray)]:List ByteArray)):=⟨_,rfl⟩
 replace H:(complineref18_Split.l0 k a0 a1 y206 0)=some r:=by first | (rw [hy206]; with_reducible exact H) | (have H2_:=(Option.bind_some _ _).symm.trans H; rw [hy206]; with_reducible exact H2_) | (have H2_:=(Option.bind_some _ _).symm.trans H; with_reducible exact H2_) | with_reducible exact H | (rw [hy206]; exact H) | exact H
 have Ny206:=Aside0.mk hy206
 clear hy206
 have H':=Aside0.mk H
 clear H
 go_enter Tryz.func83,Tryz.ntmps83
 go_wp2_with (first | ((with_reducible refine gate_dst (N:=7) rfl ?_); refine Kd.R_lit Kd.string _ 9 ?hg (N:=7) ?hd (xs:=([(⟨#[]⟩:ByteArray)]:List ByteArray)) (inner:=[.string (⟨#[]⟩:ByteArray)]) (ok:=fun _=>True) (okp:=fun _=>True) ?hr ?hp (fun _ hk=>hk) trivial (Below.refl _ _) (Nat.le_refl _) (by simp) ?_; (case hd=>rfl); (case hg=>rfl); (case hr=>first | (go_simp; done) | (go_simp; rfl)); (case hp=>exact (Reps.one (show Kd.M Kd.string _ _ _ (⟨#[]⟩:ByteArray) [.string (⟨#[]⟩:ByteArray)] from rfl) (Reps.none _ _))); intro v207 w3 ho4 hb hg_ hnew_; clear hg_ hnew_; (first | rw [← Ny206.out] at ho4 | (simp only [Int.reduceToNat] at ho4; rw [← Ny206.out] at ho4)); have n0_:=Aside0.mk (Kd.R_lower ho4 (below_size (by repeat (first | (with_reducible first | exact HB.out | apply below_alloc | apply pw_below_drewN | apply below_drew1) | exact HB.out)))); have n1_:=Aside0.mk (below_step (by repeat (first | (with_reducible first | exact HB.out | apply below_alloc | apply pw_below_drewN | apply below_drew1) | exact HB.out)) hb); clear HB; have HO208:=n0_; have HB:=n1_; clear n0_ n1_; clear hb ho4))
 go_loopg [5,6] k (fun kq v5 v6 w'=>∃ (x5_1:List ByteArray) (x6_1:Int),v6=.int .i64 x6_1∧Aside0 (complineref18_Split.l0 kq a0 a1 x5_1 x6_1=some r)∧Aside0 (kq≤k)∧Aside0 (Kd.R Kd.string 9 w' w.heap.size (fun _=>True) v5 x5_1)∧Aside0 (Below w.heap.size w w'))
 case atStart=>exact ⟨(y206),(0),(by first | rfl | (simp; done) | (simp [*]; done)),H',⟨Nat.le_refl _⟩,⟨by (with_reducible repeat (first | apply Kd.R_alloc | apply Kd.R_drewN | apply Kd.R_drew)); exact HO208.out⟩,⟨by repeat (first | (with_reducible first | exact HB.out | apply below_alloc | apply pw_below_drewN | apply below_drew1) | exact HB.out)⟩⟩
 case round=>
  clear H'
  try clear p2
  obtain ⟨x5_1,x6_1,rfl,HA,HK1,HO_5,HB⟩ :=hrel
  cases gk with
  | zero=>exact absurd HA.out (by simp [complineref18_Split.l0])
  | succ k1=>
   have H:=HA.out
   clear HA
   simp only [complineref18_Split.l0] at H
   by_cases c5:x6_1 < (a0.size:Int)
   ·rw [if_pos c5] at H
    have c5b0:decide (x6_1 < (a0.size:Int))=true:=decide_eq_true c5
    clear c5
    by_cases c6:0≤x6_1
    ·rw [if_pos c6] at H
     have c6b0:decide (0≤x6_1)=true:=decide_eq_true c6
     clear c6
     by_cases c8:(bt a0 x6_1)=a1
     ·rw [if_pos c8] at H
      have c8b0:((bt a0 x6_1) == a1)=true:=beq_iff_eq.mpr c8
      have c8b1:((bt a0 x6_1) != a1)=false:=bne_eq_false_iff_eq.mpr c8
      clear c8
      by_cases c9:x5_1.length < 8796093022208
      ·rw [if_pos c9] at H
       have LMc9:=Aside0.mk c9
       clear c9
       obtain ⟨y209,hy209⟩:∃ y_:List ByteArray,y_=(x5_1 ++ [(⟨#[]⟩:ByteArray)]):=⟨_,rfl⟩
       replace H:(complineref18_Split.l0 k1 a0 a1 y209 (wrap64 (x6_1+1)))=some r:=by first | (rw [hy209]; with_reducible exact H) | (have H2_:=(Option.bind_some _ _).symm.trans H; rw [hy209]; with_reducible exact H2_) | (have H2_:=(Option.bind_some _ _).symm.trans H; with_reducible exact H2_) | with_reducible exact H | (rw [hy209]; exact H) | exact H
       have Ny209:=Aside0.mk hy209
       clear hy209
       have H':=Aside0.mk H
       clear H
       have p7:0≤(x6_1:Int):=of_decide_eq_true (by first | (with_reducible assumption) | assumption)
       have q7:x6_1 < (a0.size:Int):=of_decide_eq_true (by first | (with_reducible assumption) | assumption)
       have hx7:=bt_at a0 x6_1
       replace p7:=eq_true p7
       replace q7:=eq_true q7
       go_wp2_with (first | ((with_reducible refine gate_builtin (b:=.append) (xs:=#[.tmp 19,.tmp 20]) rfl ?_); at_builtin; refine Kd.R_append Kd.string (w0:=w) w.heap.size rfl (.tmp 19) (.tmp 20) 69 9 (.string ⟨#[]⟩) 16 rfl Tryz.underlying69 info9 rfl (by decide) (by omega) u5 x5_1 (⟨#[]⟩:ByteArray) [.string (⟨#[]⟩:ByteArray)] (fun _=>True) (fun _=>False) rfl rfl ?aP (fun _ hk=>hk.elim) ?aF ?aO ?aB ?aS ?aL ?_; (case aP=>exact rfl); (case aB=>exact (by repeat (first | (with_reducible first | exact HB.out | apply below_alloc | apply pw_below_drewN | apply below_drew1) | exact HB.out))); (case aF=>exact (fun _ _=>trivial)); (case aO=>exact (by (with_reducible repeat (first | apply Kd.R_alloc | apply Kd.R_drewN | apply Kd.R_drew)); exact HO_5.out)); (case aS=>exact (below_size (by repeat (first | (with_reducible first | exact HB.out | apply below_alloc | apply pw_below_drewN | apply below_drew1) | exact HB.out)))); (case aL=>have:=LMc9.out; omega); intro v210 w10 ho hb hg hat; rw [← Ny209.out] at ho; have n0_:=Aside0.mk (hb); have n1_:=Aside0.mk (ho); clear HB; clear HO_5; have HB:=n0_; have HO211:=n1_; clear n0_ n1_; clear ho hb hg hat))
       go_roundg k1
       case measure=>have:=HK1.out; omega
       case rel=>exact ⟨(y209),(wrap64 (x6_1+1)),(by first | rfl | (simp; done) | (simp [*]; done)),H',⟨by have:=HK1.out; omega⟩,⟨by (with_reducible repeat (first | apply Kd.R_alloc | apply Kd.R_drewN | apply Kd.R_drew)); exact HO211.out⟩,⟨by repeat (first | (with_reducible first | exact HB.out | apply below_alloc | apply pw_below_drewN | apply below_drew1) | exact HB.out)⟩⟩
      ·rw [if_neg c9] at H
       exact absurd H (by simp)
     ·rw [if_neg c8] at H
      have c8b0:((bt a0 x6_1) == a1)=false:=beq_eq_false_iff_ne.mpr c8
      have c8b1:((bt a0 x6_1) != a1)=true:=bne_iff_ne.mpr c8
      obtain ⟨ji11,hji11⟩:∃ j_:Int,(wrap64 ((x5_1.length:Int) - 1))=j_:=⟨_,rfl⟩
      replace H:(if 0≤(ji11) then (if (ji11) < (x5_1.length:Int) then (if x6_1≤(wrap64 (x6_1+1)) then (if (wrap64 (x6_1+1))≤(a0.size:Int) then (if (rdOf ByteArray.empty x5_1 (ji11)).size+(a0.extract (x6_1:Int).toNat ((wrap64 (x6_1+1)):Int).toNat).size≤9223372036854775807 then (complineref18_Split.l0 k1 a0 a1 (x5_1.set ((ji11):Int).toNat ((rdOf ByteArray.empty x5_1 (ji11)) ++ (a0.extract (x6_1:Int).toNat ((wrap64 (x6_1+1)):Int).toNat))) (wrap64 (x6_1+1))) else (none)) else (none)) else (none)) else (none)) else (none))=some r:=by first | (rw [hji11] at H; exact H) | (simp only [hji11] at H ⊢; exact H)
      have hji11w:(IntKind.i64.wrap ((x5_1.length:Int) - 1))=ji11:=(i64_w _).trans hji11
      by_cases c12:0≤(ji11)
      ·rw [if_pos c12] at H
       have c12b0:decide (0≤(ji11))=true:=decide_eq_true c12
       clear c12
       by_cases c13:(ji11) < (x5_1.length:Int)
       ·rw [if_pos c13] at H
        have c13b0:decide ((ji11) < (x5_1.length:Int))=true:=decide_eq_true c13
        clear c13
        have c14b0:=eq_true (of_decide_eq_true (by first | (with_reducible assumption) | assumption):0≤x6_1)
        by_cases c15:x6_1≤(wrap64 (x6_1+1))
        ·rw [if_pos c15] at H
         have c15b0:=eq_true c15
         have c15b1:decide (x6_1≤(wrap64 (x6_1+1)))=true:=decide_eq_true c15
         by_cases c16:(wrap64 (x6_1+1))≤(a0.size:Int)
         ·rw [if_pos c16] at H
          have c16b0:=eq_true c16
          have c16b1:decide ((wrap64 (x6_1+1))≤(a0.size:Int))=true:=decide_eq_true c16
          by_cases c17:(rdOf ByteArray.empty x5_1 (ji11)).size+(a0.extract (x6_1:Int).toNat ((wrap64 (x6_1+1)):Int).toNat).size≤9223372036854775807
          ·rw [if_pos c17] at H
           have c17b0:=eq_true c17
           have c17b1:decide ((rdOf ByteArray.empty x5_1 (ji11)).size+(a0.extract (x6_1:Int).toNat ((wrap64 (x6_1+1)):Int).toNat).size≤9223372036854775807)=true:=decide_eq_true c17
           try have c17b2:(9223372036854775807 < (rdOf ByteArray.empty x5_1 (ji11)).size+(a0.extract (x6_1:Int).toNat ((wrap64 (x6_1+1)):Int).toNat).size)=False:=eq_false (Nat.not_lt.2 c17)
           have c17b3:(9223372036854775807 < (rdOf ByteArray.empty x5_1 (ji11)).size+((wrap64 (x6_1+1)).toNat - (x6_1).toNat))=False:=eq_false (by have h_:=c17; try simp only [ByteArray.size_append,ByteArray.size_extract] at h_; omega)
           obtain ⟨y213,hy213⟩:∃ y_:List ByteArray,y_=(x5_1.set ((ji11):Int).toNat ((rdOf ByteArray.empty x5_1 (ji11)) ++ (a0.extract (x6_1:Int).toNat ((wrap64 (x6_1+1)):Int).toNat))):=⟨_,rfl⟩
           replace H:(complineref18_Split.l0 k1 a0 a1 y213 (wrap64 (x6_1+1)))=some r:=by first | (rw [hy213]; with_reducible exact H) | (have H2_:=(Option.bind_some _ _).symm.trans H; rw [hy213]; with_reducible exact H2_) | (have H2_:=(Option.bind_some _ _).symm.trans H; with_reducible exact H2_) | with_reducible exact H | (rw [hy213]; exact H) | exact H
           have Ny213:=Aside0.mk hy213
           clear hy213
           have H':=Aside0.mk H
           clear H
           have p7:0≤(x6_1:Int):=of_decide_eq_true (by first | (with_reducible assumption) | assumption)
           have q7:x6_1 < (a0.size:Int):=of_decide_eq_true (by first | (with_reducible assumption) | assumption)
           have hx7:=bt_at a0 x6_1
           replace p7:=eq_true p7
           replace q7:=eq_true q7
           try go_wp2
           have n0_:=Aside0.mk (Kd.R_drew HO_5.out)
           have n1_:=Aside0.mk (below_drew1 HB.out)
           clear HO_5
           clear HB
           have HO_5:=n0_
           have HB:=n1_
           clear n0_ n1_
           obtain ⟨Ao20,co20,eo20⟩ :=Kd.R_slice HO_5.out
           (first | subst eo20 | (injection eo20 with f1_ f2_ f3_; have f4_:=f1_.symm; have f5_:=f3_.symm; clear f1_ f2_ f3_; subst f4_; subst f5_))
           have p212:0≤((ji11):Int):=of_decide_eq_true (by first | (with_reducible assumption) | assumption)
           have q212:(ji11) < (x5_1.length:Int):=of_decide_eq_true (by first | (with_reducible assumption) | assumption)
           obtain ⟨ad212,e212,hx212_0⟩ :=Kd.at_string (Kd.R_reads' HO_5.out).2.2 (ji11) p212 q212
           cases e212
           replace p212:=eq_true p212
           replace q212:=eq_true q212
           have p18:0≤((ji11):Int):=of_decide_eq_true (by first | (with_reducible assumption) | assumption)
           have q18:((ji11):Int) < ((x5_1.length:Int):Int):=of_decide_eq_true (by first | (with_reducible assumption) | assumption)
           obtain ⟨go18,co18,eo18,gb18,gl18,cl18,HG18⟩ :=Kd.R_form HO_5.out (by omega)
           (first | cases eo18 | (injection eo18 with ea_ en_ ec_; (first | subst ea_ | (injection ea_ with ea_; subst ea_)); subst ec_; clear en_))
           have GB18:=Aside0.mk gb18
           have GG18:=Aside0.mk HG18
           clear gb18 gl18 HG18
           (first | simp only [add_plain] at hx212_0 | skip)
           obtain ⟨hx18_0,hf18_0⟩ :=Kd.R_celln (⟨#[]⟩:ByteArray) HO_5.out ((ji11):Int) p18 q18
           replace p18:=eq_true p18
           replace q18:=eq_true q18
           have HP21:=Kd.R_putn HO_5.out ((ji11):Int) ((rdOf ByteArray.empty x5_1 (ji11)) ++ (a0.extract (x6_1:Int).toNat ((wrap64 (x6_1+1)):Int).toNat))
           rw [← Ny213.out] at HP21
           have HQ21:=Aside0.mk HP21
           clear HP21
           refine start_ (n:=18) (S:=fun w'=>w'.cell? ⟨go18,((ji11)).toNat,none⟩=some (.string (rdOf ByteArray.empty x5_1 (ji11)))) (ds:=[17]) #[F_,F_,F_,F_,F_,F_,F_,F_,F_,F_,F_,F_,F_,F_,F_,F_,F_,F_] (by kernel_rfl) rfl rfl (hx212_0) (fun hHeld=>?_); refine with_tabW complineref18_Split.tab7 complineref18_Split.bits7 (fun HT_ HW_=>?_)
           generalize wr.drew=w19 at HO_5 HB GG18 HQ21 hf18_0 hx18_0 hx212_0 hHeld ⊢
           refine pure_ (i:=0) (N:=some 22) (v:=?_) (a':=?_) #[T_,F_,F_,F_,F_,F_,F_,F_,F_,F_,F_,F_,F_,F_,F_,F_,F_,F_] rfl rfl (any_of HT_.out (by kernel_rfl)) (fun _ _ _ h=>h) (Or.inl ⟨by rfl,?_⟩) ?_ ?_
           rotate_left
           ·intro w'
            go_simp
            with_reducible rfl
           rotate_left
           ·simp only [Act.put,List.setIfInBounds_toArray,List.set_cons_zero,List.set_cons_succ,i64_w,i32_w]
            rfl
           refine pure_ (i:=1) (N:=some 23) (v:=?_) (a':=?_) #[T_,T_,F_,F_,F_,F_,F_,F_,F_,F_,F_,F_,F_,F_,F_,F_,F_,F_] rfl rfl (any_of HT_.out (by kernel_rfl)) (fun _ _ _ h=>h) (Or.inl ⟨by rfl,?_⟩) ?_ ?_
           rotate_left
           ·intro w'
            go_simp
            with_reducible rfl
           rotate_left
           ·simp only [Act.put,List.setIfInBounds_toArray,List.set_cons_zero,List.set_cons_succ,i64_w,i32_w]
            rfl
           refine pure_ (i:=2) (N:=some 24) (v:=?_) (a':=?_) #[T_,T_,T_,F_,F_,F_,F_,F_,F_,F_,F_,F_,F_,F_,F_,F_,F_,F_] rfl rfl (any_of HT_.out (by kernel_rfl)) (fun _ _ _ h=>h) (Or.inl ⟨by rfl,?_⟩) ?_ ?_
           rotate_left
           ·intro w'
            go_simp
            with_reducible rfl
           rotate_left
           ·simp only [Act.put,List.setIfInBounds_toArray,List.set_cons_zero,List.set_cons_succ,i64_w,i32_w]
            rfl
           refine pure_ (i:=3) (N:=some 25) (v:=?_) (a':=?_) #[T_,T_,T_,T_,F_,F_,F_,F_,F_,F_,F_,F_,F_,F_,F_,F_,F_,F_] rfl rfl (any_of HT_.out (by kernel_rfl)) (fun _ _ _ h=>h) (Or.inl ⟨by rfl,?_⟩) ?_ ?_
           rotate_left
           ·intro w'
            go_simp
            with_reducible rfl
           rotate_left
           ·simp only [Act.put,List.setIfInBounds_toArray,List.set_cons_zero,List.set_cons_succ,i64_w,i32_w]
            rfl
           refine pure_ (i:=4) (N:=some 26) (v:=?_) (a':=?_) #[T_,T_,T_,T_,T_,F_,F_,F_,F_,F_,F_,F_,F_,F_,F_,F_,F_,F_] rfl rfl (any_of HT_.out (by kernel_rfl)) (fun _ _ _ h=>h) (Or.inl ⟨by rfl,?_⟩) ?_ ?_
           rotate_left
           ·intro w'
            go_simp
            with_reducible rfl
           rotate_left
           ·simp only [Act.put,List.setIfInBounds_toArray,List.set_cons_zero,List.set_cons_succ,i64_w,i32_w]
            rfl
           refine pure_ (i:=5) (N:=some 27) (v:=?_) (a':=?_) #[T_,T_,T_,T_,T_,T_,F_,F_,F_,F_,F_,F_,F_,F_,F_,F_,F_,F_] rfl rfl (any_of HT_.out (by kernel_rfl)) (fun _ _ _ h=>h) (Or.inl ⟨by rfl,?_⟩) ?_ ?_
           rotate_left
           ·intro w'
            go_simp
            with_reducible rfl
           rotate_left
           ·simp only [Act.put,List.setIfInBounds_toArray,List.set_cons_zero,List.set_cons_succ,i64_w,i32_w]
            rfl
           refine pure_ (i:=6) (N:=some 28) (v:=?_) (a':=?_) #[T_,T_,T_,T_,T_,T_,T_,F_,F_,F_,F_,F_,F_,F_,F_,F_,F_,F_] rfl rfl (any_of HT_.out (by kernel_rfl)) (fun _ _ _ h=>h) (Or.inl ⟨by rfl,?_⟩) ?_ ?_
           rotate_left
           ·intro w'
            go_simp
            with_reducible rfl
           rotate_left
           ·simp only [Act.put,List.setIfInBounds_toArray,List.set_cons_zero,List.set_cons_succ,i64_w,i32_w]
            rfl
           refine pure_ (i:=7) (N:=some 29) (v:=?_) (a':=?_) #[T_,T_,T_,T_,T_,T_,T_,T_,F_,F_,F_,F_,F_,F_,F_,F_,F_,F_] rfl rfl (any_of HT_.out (by kernel_rfl)) (fun _ _ _ h=>h) (Or.inl ⟨by rfl,?_⟩) ?_ ?_
           rotate_left
           ·intro w'
            go_simp
            with_reducible rfl
           rotate_left
           ·simp only [Act.put,List.setIfInBounds_toArray,List.set_cons_zero,List.set_cons_succ,i64_w,i32_w]
            rfl
           refine pure_ (i:=8) (N:=some 30) (v:=?_) (a':=?_) #[T_,T_,T_,T_,T_,T_,T_,T_,T_,F_,F_,F_,F_,F_,F_,F_,F_,F_] rfl rfl (any_of HT_.out (by kernel_rfl)) (fun _ _ _ h=>h) (Or.inl ⟨by rfl,?_⟩) ?_ ?_
           rotate_left
           ·intro w'
            go_simp
            with_reducible rfl
           rotate_left
           ·simp only [Act.put,List.setIfInBounds_toArray,List.set_cons_zero,List.set_cons_succ,i64_w,i32_w]
            rfl
           refine pure_ (i:=10) (N:=some 32) (v:=?_) (a':=?_) #[T_,T_,T_,T_,T_,T_,T_,T_,T_,F_,T_,F_,F_,F_,F_,F_,F_,F_] rfl rfl (any_of HT_.out (by kernel_rfl)) (fun _ _ _ h=>h) (Or.inl ⟨by rfl,?_⟩) ?_ ?_
           rotate_left
           ·intro w'
            go_simp
            with_reducible rfl
           rotate_left
           ·simp only [Act.put,List.setIfInBounds_toArray,List.set_cons_zero,List.set_cons_succ,i64_w,i32_w]
            rfl
           refine pure_ (i:=11) (N:=some 33) (v:=?_) (a':=?_) #[T_,T_,T_,T_,T_,T_,T_,T_,T_,F_,T_,T_,F_,F_,F_,F_,F_,F_] rfl rfl (any_of HT_.out (by kernel_rfl)) (fun _ _ _ h=>h) (Or.inl ⟨by rfl,?_⟩) ?_ ?_
           rotate_left
           ·intro w'
            go_simp
            with_reducible rfl
           rotate_left
           ·simp only [Act.put,List.setIfInBounds_toArray,List.set_cons_zero,List.set_cons_succ,i64_w,i32_w]
            rfl
           refine pure_ (i:=12) (N:=some 34) (v:=?_) (a':=?_) #[T_,T_,T_,T_,T_,T_,T_,T_,T_,F_,T_,T_,T_,F_,F_,F_,F_,F_] rfl rfl (any_of HT_.out (by kernel_rfl)) (fun _ _ _ h=>h) (Or.inl ⟨by rfl,?_⟩) ?_ ?_
           rotate_left
           ·intro w'
            go_simp
            with_reducible rfl
           rotate_left
           ·simp only [Act.put,List.setIfInBounds_toArray,List.set_cons_zero,List.set_cons_succ,i64_w,i32_w]
            rfl
           refine pure_ (i:=13) (N:=some 35) (v:=?_) (a':=?_) #[T_,T_,T_,T_,T_,T_,T_,T_,T_,F_,T_,T_,T_,T_,F_,F_,F_,F_] rfl rfl (any_of HT_.out (by kernel_rfl)) (fun _ _ _ h=>h) (Or.inl ⟨by rfl,?_⟩) ?_ ?_
           rotate_left
           ·intro w'
            go_simp
            with_reducible rfl
           rotate_left
           ·simp only [Act.put,List.setIfInBounds_toArray,List.set_cons_zero,List.set_cons_succ,i64_w,i32_w]
            rfl
           refine pure_ (i:=14) (N:=some 36) (v:=?_) (a':=?_) #[T_,T_,T_,T_,T_,T_,T_,T_,T_,F_,T_,T_,T_,T_,T_,F_,F_,F_] rfl rfl (any_of HT_.out (by kernel_rfl)) (fun _ _ _ h=>h) (Or.inl ⟨by rfl,?_⟩) ?_ ?_
           rotate_left
           ·intro w'
            go_simp
            with_reducible rfl
           rotate_left
           ·simp only [Act.put,List.setIfInBounds_toArray,List.set_cons_zero,List.set_cons_succ,i64_w,i32_w]
            rfl
           refine take_ (i:=9) (N:=some 31) (v:=?_) (a':=?_) #[T_,T_,T_,T_,T_,T_,T_,T_,T_,T_,T_,T_,T_,T_,T_,F_,F_,F_] rfl rfl (take_ofW HT_.out HW_.out (by kernel_rfl)) (fun _ _ _ h=>h) (Or.inl ⟨by rfl,?_⟩) hHeld ?_ ?_
           rotate_left
           ·intro w' s0
            go_simp
            with_reducible rfl
           rotate_left
           ·simp only [Act.put,List.setIfInBounds_toArray,List.set_cons_zero,List.set_cons_succ,i64_w,i32_w]
            rfl
           refine pure_ (i:=15) (N:=some 37) (v:=?_) (a':=?_) #[T_,T_,T_,T_,T_,T_,T_,T_,T_,T_,T_,T_,T_,T_,T_,T_,F_,F_] rfl rfl (any_of HT_.out (by kernel_rfl)) (fun _ _ _ h=>h) (Or.inl ⟨by rfl,?_⟩) ?_ ?_
           rotate_left
           ·intro w'
            go_simp
            with_reducible rfl
           rotate_left
           ·simp only [Act.put,List.setIfInBounds_toArray,List.set_cons_zero,List.set_cons_succ,i64_w,i32_w]
            rfl
           refine pure_ (i:=16) (N:=some 38) (v:=?_) (a':=?_) #[T_,T_,T_,T_,T_,T_,T_,T_,T_,T_,T_,T_,T_,T_,T_,T_,T_,F_] rfl rfl (any_of HT_.out (by kernel_rfl)) (fun _ _ _ h=>h) (Or.inl ⟨by rfl,?_⟩) ?_ ?_
           rotate_left
           ·intro w'
            go_simp
            with_reducible rfl
           rotate_left
           ·simp only [Act.put,List.setIfInBounds_toArray,List.set_cons_zero,List.set_cons_succ,i64_w,i32_w]
            rfl
           refine last_ (i:=17) (N:=none) #[T_,T_,T_,T_,T_,T_,T_,T_,T_,T_,T_,T_,T_,T_,T_,T_,T_,T_] rfl rfl (one_of HT_.out (by kernel_rfl)) (by decide) (fun K hK=>?_)
           refine skip_ (w1:=?_) (by rfl) rfl ?_ ?_
           rotate_left
           ·go_simp
            rfl
           refine hK.out _ _ ?_
           clear hK K
           refine done_ (done_of HT_.out (by kernel_rfl)) ?_
           try go_wp2
           go_roundg k1
           case measure=>have:=HK1.out; omega
           case rel=>exact ⟨(y213),(wrap64 (x6_1+1)),(by first | rfl | (simp; done) | (simp [*]; done)),H',⟨by have:=HK1.out; omega⟩,⟨by (with_reducible repeat (first | apply Kd.R_alloc | apply Kd.R_drewN | apply Kd.R_drew)); exact HQ21.out⟩,⟨by repeat (first | (with_reducible first | exact HB.out | apply below_alloc | apply pw_below_drewN | apply below_drew1 | refine below_set ?_ GB18.out) | exact HB.out)⟩⟩
          ·rw [if_neg c17] at H
           exact absurd H (by simp)
         ·rw [if_neg c16] at H
          exact absurd H (by simp)
        ·rw [if_neg c15] at H
         exact absurd H (by simp)
       ·rw [if_neg c13] at H
        exact absurd H (by simp)
      ·rw [if_neg c12] at H
       exact absurd H (by simp)
    ·rw [if_neg c6] at H
     exact absurd H (by simp)
   ·rw [if_neg c5] at H
    have c5b0:decide (x6_1 < (a0.size:Int))=false:=decide_eq_false c5
    clear c5
    obtain rfl:=Option.some.inj H
    go_wp2
    go_ret
    exact ⟨_,by first | rfl | (simp [errW_none,errW_some] <;> rfl) | (simp [*,errW_none,errW_some] <;> rfl),by (with_reducible repeat (first | apply Kd.R_alloc | apply Kd.R_drewN | apply Kd.R_drew)); exact HO_5.out,by repeat (first | (with_reducible first | exact HB.out | apply below_alloc | apply pw_below_drewN | apply below_drew1) | exact HB.out)⟩
end Go.Proofs.YtcmmmlenaahaeaaGreatDoor.PShw
