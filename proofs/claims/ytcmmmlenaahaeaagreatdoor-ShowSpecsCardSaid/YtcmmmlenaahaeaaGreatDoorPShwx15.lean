-- Written by a program of this session (gprint.py) over the kit's print.
import Derived.Test.YtcmmmlenaahaeaaGreatDoorPShwx0
import Derived.Test.YtcmmmlenaahaeaaGreatDoorPShwx13
namespace Go.Proofs.YtcmmmlenaahaeaaGreatDoor.PShw
open Go.RowKit Go.Proofs.YtcmmmlenaahaeaaGreatDoorW.PrintWords Go.Proofs.YtcmmmlenaahaeaaGreatDoorW.PrintLast Go.Proofs.YtcmmmlenaahaeaaGreatDoorW.PrintMore
attribute [local go_sem] max2_int min2_int max_two min_two max_three min_three max_four min_four
set_option linter.unusedVariables false
set_option linter.unusedSimpArgs false
mutual
def complineref17_Number.j0:Nat→ByteArray→Bool→Option (Int × Int)
 | 0,_,_=>none
 | k+1,x0,x13=>if x13=true then (some (0,2)) else (complineref17_Number.l0 k x0 0 0)
def complineref17_Number.l0:Nat→ByteArray→Int→Int→Option (Int × Int)
 | 0,_,_,_=>none
 | k+1,x0,x4,x5=>if x5 < (x0.size:Int) then (if 0≤x5 then ((complineref17_digit.f (bt x0 x5)).bind fun t214=>(if t214=true then (complineref17_Number.l0 k x0 (wrap64 ((wrap64 ((wrap64 (10*x4))+(wrap64 (bt x0 x5)))) - 48)) (wrap64 (x5+1))) else (some (0,2)))) else (none)) else (some (x4,0))
end
def complineref17_Number.f (k:Nat)(a0:ByteArray):Option (Int × Int):=if (a0.size:Int) < 1 then (complineref17_Number.j0 k a0 true) else (complineref17_Number.j0 k a0 (decide ((a0.size:Int) > 4)))
set_option maxHeartbeats 8000000 in
set_option maxRecDepth 100000 in
theorem complineref17_Number.calls (k:Nat)(a0:ByteArray)(r1:Int)(r2:Int)(w:World)(h:complineref17_Number.f k a0=some (r1,r2)) :
  Calls Tryz.prog 104 #[.string a0] w fun e w'=>e=.returned (.tuple #[.int .i64 r1,.int .i64 r2])∧Drawn0 w w':=by
 have H:(if (a0.size:Int) < 1 then (complineref17_Number.j0 k a0 true) else (complineref17_Number.j0 k a0 (decide ((a0.size:Int) > 4))))=some (r1,r2):=h
 clear h
 have HC2:=Aside0.mk H
 clear H
 go_enter Tryz.func104,Tryz.ntmps104
 go_upto_region 1 with (fail)
 go_cut [13] (fun v13 wc=>∃ (kq:Nat) (x13_1:Bool),v13=.bool x13_1∧Aside0 (complineref17_Number.j0 kq a0 x13_1=some (r1,r2))∧Aside0 (kq≤k)∧Drawn0 w wc)
 case first=>
  have H:=HC2.out
  clear HC2
  by_cases c3:(a0.size:Int) < 1
  ·rw [if_pos c3] at H
   have c3b0:decide ((a0.size:Int) < 1)=true:=decide_eq_true c3
   have c3b1:decide (a0.size < 1)=true:=decide_eq_true (by omega)
   clear c3
   (first | rw [c3b0] | (simp only [i64_w,i32_w]; rw [c3b0]) | skip)
   have H':=Aside0.mk H
   clear H
   go_wp2
   go_meet
   case rel=>exact ⟨_,(true),(by first | rfl | (simp; done) | (simp [*]; done)),H',⟨by first | omega | exact Nat.le_refl _⟩,by repeat (first | exact Drawn0.refl _ | apply Drawn0.step)⟩
  ·rw [if_neg c3] at H
   have c3b0:decide ((a0.size:Int) < 1)=false:=decide_eq_false c3
   have c3b1:decide (a0.size < 1)=false:=decide_eq_false (by omega)
   clear c3
   (first | rw [c3b0] | (simp only [i64_w,i32_w]; rw [c3b0]) | skip)
   have H':=Aside0.mk H
   clear H
   go_wp2
   go_meet
   case rel=>exact ⟨_,(decide ((a0.size:Int) > 4)),(by first | rfl | (simp; done) | (simp [*]; done)),H',⟨by first | omega | exact Nat.le_refl _⟩,by repeat (first | exact Drawn0.refl _ | apply Drawn0.step)⟩
 case rest=>
  clear HC2
  try clear c1
  try clear p2
  try clear c3
  try clear c3b0
  try clear c3b1
  obtain ⟨kq,x13_1,rfl,HA,HJ1,⟨mc1,rfl⟩⟩ :=hcut
  cases kq with
  | zero=>exact absurd HA.out (by simp [complineref17_Number.j0])
  | succ kj1=>
   have H:=HA.out
   clear HA
   simp only [complineref17_Number.j0] at H
   by_cases c4:x13_1=true
   ·subst c4
    have H1:(some (0,2))=some (r1,r2):=by rw [if_pos rfl] at H; exact H
    clear H
    have H:=H1
    clear H1
    simp only [Option.some.injEq,Prod.mk.injEq] at H
    obtain ⟨rfl,rfl⟩ :=H
    go_wp2
    go_ret2
    exact ⟨by first | rfl | (simp; done) | (simp [*]; done),by repeat (first | exact Drawn0.refl _ | apply Drawn0.step)⟩
   ·replace c4:=Bool.eq_false_iff.mpr c4
    subst c4
    have H1:(complineref17_Number.l0 kj1 a0 0 0)=some (r1,r2):=by rw [if_neg (show ¬ (false=true) by decide)] at H; exact H
    clear H
    have H:=H1
    clear H1
    have H':=Aside0.mk H
    clear H
    go_wp2
    go_loopg [4,5] kj1 (fun kq v4 v5 w'=>∃ (x4_2:Int) (x5_2:Int),v4=.int .i64 x4_2∧v5=.int .i64 x5_2∧Aside0 (complineref17_Number.l0 kq a0 x4_2 x5_2=some (r1,r2))∧Aside0 (kq≤kj1)∧Drawn0 w w')
    case atStart=>exact ⟨(0),(0),(by first | rfl | (simp; done) | (simp [*]; done)),(by first | rfl | (simp; done) | (simp [*]; done)),H',⟨Nat.le_refl _⟩,by repeat (first | exact Drawn0.refl _ | apply Drawn0.step)⟩
    case round=>
     clear H'
     try clear c1
     try clear p2
     try clear c3
     try clear c3b0
     try clear c3b1
     try clear c4
     try clear p2
     obtain ⟨x4_2,x5_2,rfl,rfl,HA,HK2,⟨m2,rfl⟩⟩ :=hrel
     cases gk with
     | zero=>exact absurd HA.out (by simp [complineref17_Number.l0])
     | succ k2=>
      have H:=HA.out
      clear HA
      simp only [complineref17_Number.l0] at H
      by_cases c5:x5_2 < (a0.size:Int)
      ·rw [if_pos c5] at H
       have c5b0:decide (x5_2 < (a0.size:Int))=true:=decide_eq_true c5
       clear c5
       by_cases c6:0≤x5_2
       ·rw [if_pos c6] at H
        have c6b0:decide (0≤x5_2)=true:=decide_eq_true c6
        clear c6
        replace H:=Option.bind_eq_some_iff.mp H
        obtain ⟨t214,A80,H⟩ :=H
        replace H:(if t214=true then (complineref17_Number.l0 k2 a0 (wrap64 ((wrap64 ((wrap64 (10*x4_2))+(wrap64 (bt a0 x5_2)))) - 48)) (wrap64 (x5_2+1))) else (some (0,2)))=some (r1,r2):=H
        have A8:=Aside0.mk A80
        clear A80
        by_cases c9:t214=true
        ·subst c9
         have H1:(complineref17_Number.l0 k2 a0 (wrap64 ((wrap64 ((wrap64 (10*x4_2))+(wrap64 (bt a0 x5_2)))) - 48)) (wrap64 (x5_2+1)))=some (r1,r2):=by rw [if_pos rfl] at H; exact H
         clear H
         have H:=H1
         clear H1
         have H':=Aside0.mk H
         clear H
         have p7:0≤(x5_2:Int):=of_decide_eq_true (by first | (with_reducible assumption) | assumption)
         have q7:x5_2 < (a0.size:Int):=of_decide_eq_true (by first | (with_reducible assumption) | assumption)
         have hx7:=bt_at a0 x5_2
         replace p7:=eq_true p7
         replace q7:=eq_true q7
         go_wp2_with (first | ((with_reducible refine gate_callee (f:=81) rfl ?_); refine goesL_ (some 23) rfl rfl Tryz.func81 (by kernel_rfl) rfl #[.int .u8 (bt a0 x5_2)] rfl (by (try simp only [List.map_toArray,List.map_cons,List.map_nil]); first | done | rfl | (simp only [List.length_drop,List.length_take]; rfl)) ?_; (with_reducible refine (complineref17_digit.calls (bt a0 x5_2) true _ A8.out).mono ?_); rintro e w' ⟨rfl,⟨nd,rfl⟩⟩; refine ⟨_,rfl,?_⟩; have p10:0≤(x5_2:Int):=of_decide_eq_true (by first | (with_reducible assumption) | assumption); have q10:x5_2 < (a0.size:Int):=of_decide_eq_true (by first | (with_reducible assumption) | assumption); have hx10:=bt_at a0 x5_2; replace p10:=eq_true p10; replace q10:=eq_true q10))
         go_roundg k2
         case measure=>have:=HJ1.out; have:=HK2.out; omega
         case rel=>exact ⟨(wrap64 ((wrap64 ((wrap64 (10*x4_2))+(wrap64 (bt a0 x5_2)))) - 48)),(wrap64 (x5_2+1)),(by first | rfl | (simp; done) | (simp [*]; done)),(by first | rfl | (simp; done) | (simp [*]; done)),H',⟨by have:=HJ1.out; have:=HK2.out; omega⟩,by repeat (first | exact Drawn0.refl _ | apply Drawn0.step)⟩
        ·replace c9:=Bool.eq_false_iff.mpr c9
         subst c9
         have H1:(some (0,2))=some (r1,r2):=by rw [if_neg (show ¬ (false=true) by decide)] at H; exact H
         clear H
         have H:=H1
         clear H1
         simp only [Option.some.injEq,Prod.mk.injEq] at H
         obtain ⟨rfl,rfl⟩ :=H
         have p7:0≤(x5_2:Int):=of_decide_eq_true (by first | (with_reducible assumption) | assumption)
         have q7:x5_2 < (a0.size:Int):=of_decide_eq_true (by first | (with_reducible assumption) | assumption)
         have hx7:=bt_at a0 x5_2
         replace p7:=eq_true p7
         replace q7:=eq_true q7
         go_wp2_with (first | ((with_reducible refine gate_callee (f:=81) rfl ?_); refine goesL_ (some 23) rfl rfl Tryz.func81 (by kernel_rfl) rfl #[.int .u8 (bt a0 x5_2)] rfl (by (try simp only [List.map_toArray,List.map_cons,List.map_nil]); first | done | rfl | (simp only [List.length_drop,List.length_take]; rfl)) ?_; (with_reducible refine (complineref17_digit.calls (bt a0 x5_2) false _ A8.out).mono ?_); rintro e w' ⟨rfl,⟨nd,rfl⟩⟩; refine ⟨_,rfl,?_⟩))
         go_ret2
         exact ⟨by first | rfl | (simp; done) | (simp [*]; done),by repeat (first | exact Drawn0.refl _ | apply Drawn0.step)⟩
       ·rw [if_neg c6] at H
        exact absurd H (by simp)
      ·rw [if_neg c5] at H
       have c5b0:decide (x5_2 < (a0.size:Int))=false:=decide_eq_false c5
       clear c5
       simp only [Option.some.injEq,Prod.mk.injEq] at H
       obtain ⟨rfl,rfl⟩ :=H
       go_wp2
       go_ret2
       exact ⟨by first | rfl | (simp; done) | (simp [*]; done),by repeat (first | exact Drawn0.refl _ | apply Drawn0.step)⟩
def complineref17_Lower.l0:Nat→ByteArray→ByteArray→Int→Option (ByteArray)
 | 0,_,_,_=>none
 | k+1,x0,x3,x4=>if x4 < (x0.size:Int) then (if 0≤x4 then (if (bt x0 x4)≥65 then (if (bt x0 x4)≤90 then ((some (([((bt x0 x4)+32) % 256]:List Int):List Int)).bind fun y215=>(if x3.size+(strOfNums y215).size≤9223372036854775807 then (complineref17_Lower.l0 k x0 (x3 ++ (strOfNums y215)) (wrap64 (x4+1))) else (none))) else (if x4≤(wrap64 (x4+1)) then (if (wrap64 (x4+1))≤(x0.size:Int) then (if x3.size+(x0.extract (x4:Int).toNat ((wrap64 (x4+1)):Int).toNat).size≤9223372036854775807 then (complineref17_Lower.l0 k x0 (x3 ++ (x0.extract (x4:Int).toNat ((wrap64 (x4+1)):Int).toNat)) (wrap64 (x4+1))) else (none)) else (none)) else (none))) else (if x4≤(wrap64 (x4+1)) then (if (wrap64 (x4+1))≤(x0.size:Int) then (if x3.size+(x0.extract (x4:Int).toNat ((wrap64 (x4+1)):Int).toNat).size≤9223372036854775807 then (complineref17_Lower.l0 k x0 (x3 ++ (x0.extract (x4:Int).toNat ((wrap64 (x4+1)):Int).toNat)) (wrap64 (x4+1))) else (none)) else (none)) else (none))) else (none)) else (some x3)
def complineref17_Lower.f (k:Nat)(a0:ByteArray):Option (ByteArray):=complineref17_Lower.l0 k a0 (⟨#[]⟩:ByteArray) 0
set_option maxHeartbeats 8000000 in
set_option maxRecDepth 100000 in
theorem complineref17_Lower.calls (k:Nat)(a0:ByteArray)(r:ByteArray)(w:World)(h:complineref17_Lower.f k a0=some r) :
  Calls Tryz.prog 124 #[.string a0] w fun e w'=>e=.returned (.string r)∧Below w.heap.size w w':=by
 have HB:=Aside0.mk (Below.refl w.heap.size w)
 have H:(complineref17_Lower.l0 k a0 (⟨#[]⟩:ByteArray) 0)=some r:=h
 clear h
 have H':=Aside0.mk H
 clear H
 go_enter Tryz.func124,Tryz.ntmps124
 go_wp2
 go_loopg [3,4] k (fun kq v3 v4 w'=>∃ (x3_1:ByteArray) (x4_1:Int),v3=.string x3_1∧v4=.int .i64 x4_1∧Aside0 (complineref17_Lower.l0 kq a0 x3_1 x4_1=some r)∧Aside0 (kq≤k)∧Aside0 (Below w.heap.size w w'))
 case atStart=>exact ⟨((⟨#[]⟩:ByteArray)),(0),(by first | rfl | (simp; done) | (simp [*]; done)),(by first | rfl | (simp; done) | (simp [*]; done)),H',⟨Nat.le_refl _⟩,⟨by repeat (first | (with_reducible first | exact HB.out | apply below_alloc | apply pw_below_drewN | apply below_drew1) | exact HB.out)⟩⟩
 case round=>
  clear H'
  try clear c1
  obtain ⟨x3_1,x4_1,rfl,rfl,HA,HK1,HB⟩ :=hrel
  cases gk with
  | zero=>exact absurd HA.out (by simp [complineref17_Lower.l0])
  | succ k1=>
   have H:=HA.out
   clear HA
   simp only [complineref17_Lower.l0] at H
   by_cases c2:x4_1 < (a0.size:Int)
   ·rw [if_pos c2] at H
    have c2b0:decide (x4_1 < (a0.size:Int))=true:=decide_eq_true c2
    clear c2
    by_cases c3:0≤x4_1
    ·rw [if_pos c3] at H
     have c3b0:decide (0≤x4_1)=true:=decide_eq_true c3
     clear c3
     by_cases c5:(bt a0 x4_1)≥65
     ·rw [if_pos c5] at H
      have c5b0:decide (65≤(bt a0 x4_1))=true:=decide_eq_true c5
      clear c5
      by_cases c7:(bt a0 x4_1)≤90
      ·rw [if_pos c7] at H
       have c7b0:decide ((bt a0 x4_1)≤90)=true:=decide_eq_true c7
       clear c7
       obtain ⟨y215,hy215⟩:∃ y_:List Int,y_=(([((bt a0 x4_1)+32) % 256]:List Int)):=⟨_,rfl⟩
       replace H:(if x3_1.size+(strOfNums y215).size≤9223372036854775807 then (complineref17_Lower.l0 k1 a0 (x3_1 ++ (strOfNums y215)) (wrap64 (x4_1+1))) else (none))=some r:=by first | (rw [hy215]; with_reducible exact H) | (have H2_:=(Option.bind_some _ _).symm.trans H; rw [hy215]; with_reducible exact H2_) | (have H2_:=(Option.bind_some _ _).symm.trans H; with_reducible exact H2_) | with_reducible exact H | (rw [hy215]; exact H) | exact H
       have Ny215:=Aside0.mk hy215
       clear hy215
       by_cases c9:x3_1.size+(strOfNums y215).size≤9223372036854775807
       ·rw [if_pos c9] at H
        have c9b0:=eq_true c9
        have c9b1:decide (x3_1.size+(strOfNums y215).size≤9223372036854775807)=true:=decide_eq_true c9
        try have c9b2:(9223372036854775807 < x3_1.size+(strOfNums y215).size)=False:=eq_false (Nat.not_lt.2 c9)
        have H':=Aside0.mk H
        clear H
        have p4:0≤(x4_1:Int):=of_decide_eq_true (by first | (with_reducible assumption) | assumption)
        have q4:x4_1 < (a0.size:Int):=of_decide_eq_true (by first | (with_reducible assumption) | assumption)
        have hx4:=bt_at a0 x4_1
        replace p4:=eq_true p4
        replace q4:=eq_true q4
        have p6:0≤(x4_1:Int):=of_decide_eq_true (by first | (with_reducible assumption) | assumption)
        have q6:x4_1 < (a0.size:Int):=of_decide_eq_true (by first | (with_reducible assumption) | assumption)
        have hx6:=bt_at a0 x4_1
        replace p6:=eq_true p6
        replace q6:=eq_true q6
        have p8:0≤(x4_1:Int):=of_decide_eq_true (by first | (with_reducible assumption) | assumption)
        have q8:x4_1 < (a0.size:Int):=of_decide_eq_true (by first | (with_reducible assumption) | assumption)
        have hx8:=bt_at a0 x4_1
        replace p8:=eq_true p8
        replace q8:=eq_true q8
        go_wp2_with (first | ((with_reducible refine gate_dst (N:=26) rfl ?_); refine Kd.R_lit (Kd.int .u8) _ 5 ?hg (N:=26) ?hd (xs:=([((bt a0 x4_1)+32) % 256]:List Int)) (inner:=[.int .u8 (((bt a0 x4_1)+32) % 256)]) (ok:=fun _=>True) (okp:=fun _=>True) ?hr ?hp (fun _ hk=>hk) trivial (Below.refl _ _) (Nat.le_refl _) (by simp) ?_; (case hd=>rfl); (case hg=>rfl); (case hr=>first | (go_simp; done) | (go_simp; rfl)); (case hp=>exact (Reps.one (show Kd.M (Kd.int .u8) _ _ _ (((bt a0 x4_1)+32) % 256) [.int .u8 (((bt a0 x4_1)+32) % 256)] from rfl) (Reps.none _ _))); intro v216 w10 ho11 hb hg_ hnew_; clear hg_ hnew_; (first | rw [← Ny215.out] at ho11 | (simp only [Int.reduceToNat] at ho11; rw [← Ny215.out] at ho11)); have n0_:=Aside0.mk (Kd.R_lower ho11 (below_size (by repeat (first | (with_reducible first | exact HB.out | apply below_alloc | apply pw_below_drewN | apply below_drew1) | exact HB.out)))); have n1_:=Aside0.mk (below_step (by repeat (first | (with_reducible first | exact HB.out | apply below_alloc | apply pw_below_drewN | apply below_drew1) | exact HB.out)) hb); clear HB; have HO217:=n0_; have HB:=n1_; clear n0_ n1_; clear hb ho11; have hcv12:=own_string (P:=Tryz.prog) Tryz.underlying46 Tryz.underlying5 Tryz.underlying9 (Kd.own_of_R HO217.out)))
        go_roundg k1
        case measure=>have:=HK1.out; omega
        case rel=>exact ⟨(x3_1 ++ (strOfNums y215)),(wrap64 (x4_1+1)),(by first | rfl | (simp; done) | (simp [*]; done)),(by first | rfl | (simp; done) | (simp [*]; done)),H',⟨by have:=HK1.out; omega⟩,⟨by repeat (first | (with_reducible first | exact HB.out | apply below_alloc | apply pw_below_drewN | apply below_drew1) | exact HB.out)⟩⟩
       ·rw [if_neg c9] at H
        exact absurd H (by simp)
      ·rw [if_neg c7] at H
       have c7b0:decide ((bt a0 x4_1)≤90)=false:=decide_eq_false c7
       clear c7
       have c13b0:=eq_true (of_decide_eq_true (by first | (with_reducible assumption) | assumption):0≤x4_1)
       by_cases c14:x4_1≤(wrap64 (x4_1+1))
       ·rw [if_pos c14] at H
        have c14b0:=eq_true c14
        have c14b1:decide (x4_1≤(wrap64 (x4_1+1)))=true:=decide_eq_true c14
        by_cases c15:(wrap64 (x4_1+1))≤(a0.size:Int)
        ·rw [if_pos c15] at H
         have c15b0:=eq_true c15
         have c15b1:decide ((wrap64 (x4_1+1))≤(a0.size:Int))=true:=decide_eq_true c15
         by_cases c16:x3_1.size+(a0.extract (x4_1:Int).toNat ((wrap64 (x4_1+1)):Int).toNat).size≤9223372036854775807
         ·rw [if_pos c16] at H
          have c16b0:=eq_true c16
          have c16b1:decide (x3_1.size+(a0.extract (x4_1:Int).toNat ((wrap64 (x4_1+1)):Int).toNat).size≤9223372036854775807)=true:=decide_eq_true c16
          try have c16b2:(9223372036854775807 < x3_1.size+(a0.extract (x4_1:Int).toNat ((wrap64 (x4_1+1)):Int).toNat).size)=False:=eq_false (Nat.not_lt.2 c16)
          have c16b3:(9223372036854775807 < x3_1.size+((wrap64 (x4_1+1)).toNat - (x4_1).toNat))=False:=eq_false (by have h_:=c16; try simp only [ByteArray.size_append,ByteArray.size_extract] at h_; omega)
          have H':=Aside0.mk H
          clear H
          have p4:0≤(x4_1:Int):=of_decide_eq_true (by first | (with_reducible assumption) | assumption)
          have q4:x4_1 < (a0.size:Int):=of_decide_eq_true (by first | (with_reducible assumption) | assumption)
          have hx4:=bt_at a0 x4_1
          replace p4:=eq_true p4
          replace q4:=eq_true q4
          have p6:0≤(x4_1:Int):=of_decide_eq_true (by first | (with_reducible assumption) | assumption)
          have q6:x4_1 < (a0.size:Int):=of_decide_eq_true (by first | (with_reducible assumption) | assumption)
          have hx6:=bt_at a0 x4_1
          replace p6:=eq_true p6
          replace q6:=eq_true q6
          go_wp2
          go_roundg k1
          case measure=>have:=HK1.out; omega
          case rel=>exact ⟨(x3_1 ++ (a0.extract (x4_1:Int).toNat ((wrap64 (x4_1+1)):Int).toNat)),(wrap64 (x4_1+1)),(by first | rfl | (simp; done) | (simp [*]; done)),(by first | rfl | (simp; done) | (simp [*]; done)),H',⟨by have:=HK1.out; omega⟩,⟨by repeat (first | (with_reducible first | exact HB.out | apply below_alloc | apply pw_below_drewN | apply below_drew1) | exact HB.out)⟩⟩
         ·rw [if_neg c16] at H
          exact absurd H (by simp)
        ·rw [if_neg c15] at H
         exact absurd H (by simp)
       ·rw [if_neg c14] at H
        exact absurd H (by simp)
     ·rw [if_neg c5] at H
      have c5b0:decide (65≤(bt a0 x4_1))=false:=decide_eq_false c5
      clear c5
      have c17b0:=eq_true (of_decide_eq_true (by first | (with_reducible assumption) | assumption):0≤x4_1)
      by_cases c18:x4_1≤(wrap64 (x4_1+1))
      ·rw [if_pos c18] at H
       have c18b0:=eq_true c18
       have c18b1:decide (x4_1≤(wrap64 (x4_1+1)))=true:=decide_eq_true c18
       by_cases c19:(wrap64 (x4_1+1))≤(a0.size:Int)
       ·rw [if_pos c19] at H
        have c19b0:=eq_true c19
        have c19b1:decide ((wrap64 (x4_1+1))≤(a0.size:Int))=true:=decide_eq_true c19
        by_cases c20:x3_1.size+(a0.extract (x4_1:Int).toNat ((wrap64 (x4_1+1)):Int).toNat).size≤9223372036854775807
        ·rw [if_pos c20] at H
         have c20b0:=eq_true c20
         have c20b1:decide (x3_1.size+(a0.extract (x4_1:Int).toNat ((wrap64 (x4_1+1)):Int).toNat).size≤9223372036854775807)=true:=decide_eq_true c20
         try have c20b2:(9223372036854775807 < x3_1.size+(a0.extract (x4_1:Int).toNat ((wrap64 (x4_1+1)):Int).toNat).size)=False:=eq_false (Nat.not_lt.2 c20)
         have c20b3:(9223372036854775807 < x3_1.size+((wrap64 (x4_1+1)).toNat - (x4_1).toNat))=False:=eq_false (by have h_:=c20; try simp only [ByteArray.size_append,ByteArray.size_extract] at h_; omega)
         have H':=Aside0.mk H
         clear H
         have p4:0≤(x4_1:Int):=of_decide_eq_true (by first | (with_reducible assumption) | assumption)
         have q4:x4_1 < (a0.size:Int):=of_decide_eq_true (by first | (with_reducible assumption) | assumption)
         have hx4:=bt_at a0 x4_1
         replace p4:=eq_true p4
         replace q4:=eq_true q4
         go_wp2
         go_roundg k1
         case measure=>have:=HK1.out; omega
         case rel=>exact ⟨(x3_1 ++ (a0.extract (x4_1:Int).toNat ((wrap64 (x4_1+1)):Int).toNat)),(wrap64 (x4_1+1)),(by first | rfl | (simp; done) | (simp [*]; done)),(by first | rfl | (simp; done) | (simp [*]; done)),H',⟨by have:=HK1.out; omega⟩,⟨by repeat (first | (with_reducible first | exact HB.out | apply below_alloc | apply pw_below_drewN | apply below_drew1) | exact HB.out)⟩⟩
        ·rw [if_neg c20] at H
         exact absurd H (by simp)
       ·rw [if_neg c19] at H
        exact absurd H (by simp)
      ·rw [if_neg c18] at H
       exact absurd H (by simp)
    ·rw [if_neg c3] at H
     exact absurd H (by simp)
   ·rw [if_neg c2] at H
    have c2b0:decide (x4_1 < (a0.size:Int))=false:=decide_eq_false c2
    clear c2
    obtain rfl:=Option.some.inj H
    go_wp2
    go_ret
    exact ⟨by first | rfl | (simp [errW_none,errW_some] <;> rfl) | (simp [*,errW_none,errW_some] <;> rfl),by repeat (first | (with_reducible first | exact HB.out | apply below_alloc | apply pw_below_drewN | apply below_drew1) | exact HB.out)⟩
mutual
def complineref17_Name.j0:Nat→ByteArray→Int→List ByteArray→Int→Option (Int × Int)
 | 0,_,_,_,_=>none
 | k+1,x0,x1,x6,x7=>if x1=4 then (complineref17_Name.j1 k x0 (([(⟨#[115,117,110]⟩:ByteArray),(⟨#[109,111,110]⟩:ByteArray),(⟨#[116,117,101]⟩:ByteArray),(⟨#[119,101,100]⟩:ByteArray),(⟨#[116,104,117]⟩:ByteArray),(⟨#[102,114,105]⟩:ByteArray),(⟨#[115,97,116]⟩:ByteArray)]:List ByteArray)) x7) else (complineref17_Name.j1 k x0 x6 x7)
def complineref17_Name.j1:Nat→ByteArray→List ByteArray→Int→Option (Int × Int)
 | 0,_,_,_=>none
 | k+1,x0,x6,x7=>(complineref17_Lower.f k x0).bind fun t224=>(complineref17_Name.l0 k x6 x7 t224 0)
def complineref17_Name.l0:Nat→List ByteArray→Int→ByteArray→Int→Option (Int × Int)
 | 0,_,_,_,_=>none
 | k+1,x6,x7,x8,x9=>if x9 < (x6.length:Int) then (if 0≤x9 then (if (rdOf ByteArray.empty x6 x9).toList=x8.toList then (some (wrap64 (x9+x7),0)) else (complineref17_Name.l0 k x6 x7 x8 (wrap64 (x9+1)))) else (none)) else (some (0,2))
end
def complineref17_Name.f (k:Nat)(a0:ByteArray)(a1:Int):Option (Int × Int):=if (a0.size:Int)=3 then (if a1=3 then (complineref17_Name.j0 k a0 a1 (([(⟨#[106,97,110]⟩:ByteArray),(⟨#[102,101,98]⟩:ByteArray),(⟨#[109,97,114]⟩:ByteArray),(⟨#[97,112,114]⟩:ByteArray),(⟨#[109,97,121]⟩:ByteArray),(⟨#[106,117,110]⟩:ByteArray),(⟨#[106,117,108]⟩:ByteArray),(⟨#[97,117,103]⟩:ByteArray),(⟨#[115,101,112]⟩:ByteArray),(⟨#[111,99,116]⟩:ByteArray),(⟨#[110,111,118]⟩:ByteArray),(⟨#[100,101,99]⟩:ByteArray)]:List ByteArray)) 1) else (complineref17_Name.j0 k a0 a1 ([]:List ByteArray) 0)) else (some (0,2))
set_option maxHeartbeats 8000000 in
set_option maxRecDepth 100000 in
theorem complineref17_Name.calls (k:Nat)(a0:ByteArray)(a1:Int)(r1:Int)(r2:Int)(w:World)(h:complineref17_Name.f k a0 a1=some (r1,r2)) :
  Calls Tryz.prog 117 #[.string a0,.int .i64 a1] w fun e w'=>e=.returned (.tuple #[.int .i64 r1,.int .i64 r2])∧Below w.heap.size w w':=by
 have HB:=Aside0.mk (Below.refl w.heap.size w)
 have H:(if (a0.size:Int)=3 then (if a1=3 then (complineref17_Name.j0 k a0 a1 (([(⟨#[106,97,110]⟩:ByteArray),(⟨#[102,101,98]⟩:ByteArray),(⟨#[109,97,114]⟩:ByteArray),(⟨#[97,112,114]⟩:ByteArray),(⟨#[109,97,121]⟩:ByteArray),(⟨#[106,117,110]⟩:ByteArray),(⟨#[106,117,108]⟩:ByteArray),(⟨#[97,117,103]⟩:ByteArray),(⟨#[115,101,112]⟩:ByteArray),(⟨#[111,99,116]⟩:ByteArray),(⟨#[110,111,118]⟩:ByteArray),(⟨#[100,101,99]⟩:ByteArray)]:List ByteArray)) 1) else (complineref17_Name.j0 k a0 a1 ([]:List ByteArray) 0)) else (some (0,2)))=some (r1,r2):=h
 clear h
 by_cases c3:(a0.size:Int)=3
 ·rw [if_pos c3] at H
  have c3b0:((a0.size:Int) == 3)=true:=beq_iff_eq.mpr c3
  have c3b1:((a0.size:Int) != 3)=false:=bne_eq_false_iff_eq.mpr c3
  clear c3
  have HC4:=Aside0.mk H
  clear H
  go_enter Tryz.func117,Tryz.ntmps117
  go_upto_if 14 with (fail)
  go_cut [6,7] (fun v6 v7 wc=>∃ (kq:Nat) (x6_3:List ByteArray) (x7_3:Int),v7=.int .i64 x7_3∧Aside0 (complineref17_Name.j0 kq a0 a1 x6_3 x7_3=some (r1,r2))∧Aside0 (kq≤k)∧Aside0 (Kd.R Kd.string 9 wc w.heap.size (fun _=>True) v6 x6_3)∧Aside0 (Below w.heap.size w wc))
  case first=>
   have H:=HC4.out
   clear HC4
   by_cases c5:a1=3
   ·rw [if_pos c5] at H
    have c5b0:(a1 == 3)=true:=beq_iff_eq.mpr c5
    have c5b1:(a1 != 3)=false:=bne_eq_false_iff_eq.mpr c5
    clear c5
    (first | rw [c5b0] | (simp only [i64_w,i32_w]; rw [c5b0]) | skip)
    obtain ⟨y218,hy218⟩:∃ y_:List ByteArray,y_=(([(⟨#[106,97,110]⟩:ByteArray),(⟨#[102,101,98]⟩:ByteArray),(⟨#[109,97,114]⟩:ByteArray),(⟨#[97,112,114]⟩:ByteArray),(⟨#[109,97,121]⟩:ByteArray),(⟨#[106,117,110]⟩:ByteArray),(⟨#[106,117,108]⟩:ByteArray),(⟨#[97,117,103]⟩:ByteArray),(⟨#[115,101,112]⟩:ByteArray),(⟨#[111,99,116]⟩:ByteArray),(⟨#[110,111,118]⟩:ByteArray),(⟨#[100,101,99]⟩:ByteArray)]:List ByteArray)):=⟨_,rfl⟩
    replace H:(complineref17_Name.j0 k a0 a1 y218 1)=some (r1,r2):=by first | (rw [hy218]; with_reducible exact H) | (have H2_:=(Option.bind_some _ _).symm.trans H; rw [hy218]; with_reducible exact H2_) | (have H2_:=(Option.bind_some _ _).symm.trans H; with_reducible exact H2_) | with_reducible exact H | (rw [hy218]; exact H) | exact H
    have Ny218:=Aside0.mk hy218
    clear hy218
    have H':=Aside0.mk H
    clear H
    go_wp2_with (first | ((with_reducible refine gate_dst (N:=15) rfl ?_); refine Kd.R_lit Kd.string _ 9 ?hg (N:=15) ?hd (xs:=([(⟨#[106,97,110]⟩:ByteArray),(⟨#[102,101,98]⟩:ByteArray),(⟨#[109,97,114]⟩:ByteArray),(⟨#[97,112,114]⟩:ByteArray),(⟨#[109,97,121]⟩:ByteArray),(⟨#[106,117,110]⟩:ByteArray),(⟨#[106,117,108]⟩:ByteArray),(⟨#[97,117,103]⟩:ByteArray),(⟨#[115,101,112]⟩:ByteArray),(⟨#[111,99,116]⟩:ByteArray),(⟨#[110,111,118]⟩:ByteArray),(⟨#[100,101,99]⟩:ByteArray)]:List ByteArray)) (inner:=[.string (⟨#[106,97,110]⟩:ByteArray),.string (⟨#[102,101,98]⟩:ByteArray),.string (⟨#[109,97,114]⟩:ByteArray),.string (⟨#[97,112,114]⟩:ByteArray),.string (⟨#[109,97,121]⟩:ByteArray),.string (⟨#[106,117,110]⟩:ByteArray),.string (⟨#[106,117,108]⟩:ByteArray),.string (⟨#[97,117,103]⟩:ByteArray),.string (⟨#[115,101,112]⟩:ByteArray),.string (⟨#[111,99,116]⟩:ByteArray),.string (⟨#[110,111,118]⟩:ByteArray),.string (⟨#[100,101,99]⟩:ByteArray)]) (ok:=fun _=>True) (okp:=fun _=>True) ?hr ?hp (fun _ hk=>hk) trivial (Below.refl _ _) (Nat.le_refl _) (by simp) ?_; (case hd=>rfl); (case hg=>rfl); (case hr=>first | (go_simp; done) | (go_simp; rfl)); (case hp=>exact (Reps.one (show Kd.M Kd.string _ _ _ (⟨#[106,97,110]⟩:ByteArray) [.string (⟨#[106,97,110]⟩:ByteArray)] from rfl) (Reps.one (show Kd.M Kd.string _ _ _ (⟨#[102,101,98]⟩:ByteArray) [.string (⟨#[102,101,98]⟩:ByteArray)] from rfl) (Reps.one (show Kd.M Kd.string _ _ _ (⟨#[109,97,114]⟩:ByteArray) [.string (⟨#[109,97,114]⟩:ByteArray)] from rfl) (Reps.one (show Kd.M Kd.string _ _ _ (⟨#[97,112,114]⟩:ByteArray) [.string (⟨#[97,112,114]⟩:ByteArray)] from rfl) (Reps.one (show Kd.M Kd.string _ _ _ (⟨#[109,97,121]⟩:ByteArray) [.string (⟨#[109,97,121]⟩:ByteArray)] from rfl) (Reps.one (show Kd.M Kd.string _ _ _ (⟨#[106,117,110]⟩:ByteArray) [.string (⟨#[106,117,110]⟩:ByteArray)] from rfl) (Reps.one (show Kd.M Kd.string _ _ _ (⟨#[106,117,108]⟩:ByteArray) [.string (⟨#[106,117,108]⟩:ByteArray)] from rfl) (Reps.one (show Kd.M Kd.string _ _ _ (⟨#[97,117,103]⟩:ByteArray) [.string (⟨#[97,117,103]⟩:ByteArray)] from rfl) (Reps.one (show Kd.M Kd.string _ _ _ (⟨#[115,101,112]⟩:ByteArray) [.string (⟨#[115,101,112]⟩:ByteArray)] from rfl) (Reps.one (show Kd.M Kd.string _ _ _ (⟨#[111,99,116]⟩:ByteArray) [.string (⟨#[111,99,116]⟩:ByteArray)] from rfl) (Reps.one (show Kd.M Kd.string _ _ _ (⟨#[110,111,118]⟩:ByteArray) [.string (⟨#[110,111,118]⟩:ByteArray)] from rfl) (Reps.one (show Kd.M Kd.string _ _ _ (⟨#[100,101,99]⟩:ByteArray) [.string (⟨#[100,101,99]⟩:ByteArray)] from rfl) (Reps.none _ _)))))))))))))); intro v219 w6 ho7 hb hg_ hnew_; clear hg_ hnew_; (first | rw [← Ny218.out] at ho7 | (simp only [Int.reduceToNat] at ho7; rw [← Ny218.out] at ho7)); have n0_:=Aside0.mk (Kd.R_lower ho7 (below_size (by repeat (first | (with_reducible first | exact HB.out | apply below_alloc | apply pw_below_drewN | apply below_drew1) | exact HB.out)))); have n1_:=Aside0.mk (below_step (by repeat (first | (with_reducible first | exact HB.out | apply below_alloc | apply pw_below_drewN | apply below_drew1) | exact HB.out)) hb); clear HB; have HO220:=n0_; have HB:=n1_; clear n0_ n1_; clear hb ho7))
    go_meet
    case rel=>exact ⟨_,(y218),(1),(by first | rfl | (simp; done) | (simp [*]; done)),H',⟨by first | omega | exact Nat.le_refl _⟩,⟨by (with_reducible repeat (first | apply Kd.R_alloc | apply Kd.R_drewN | apply Kd.R_drew)); exact HO220.out⟩,⟨by repeat (first | (with_reducible first | exact HB.out | apply below_alloc | apply pw_below_drewN | apply below_drew1) | exact HB.out)⟩⟩
   ·rw [if_neg c5] at H
    have c5b0:(a1 == 3)=false:=beq_eq_false_iff_ne.mpr c5
    have c5b1:(a1 != 3)=true:=bne_iff_ne.mpr c5
    (first | rw [c5b0] | (simp only [i64_w,i32_w]; rw [c5b0]) | skip)
    have H':=Aside0.mk H
    clear H
    go_wp2
    go_meet
    case rel=>exact ⟨_,(([]:List ByteArray)),(0),(by first | rfl | (simp; done) | (simp [*]; done)),H',⟨by first | omega | exact Nat.le_refl _⟩,⟨by first | exact Kd.R_nil _ _ _ _ _ | exact Kd.N_nil _ _ _ _ _ | exact Kd.V_nil _ _ _ _ _ | exact Kd.Q_nil _ _ _ _ _ | exact Kd.S_nil _ _ _ _ _⟩,⟨by repeat (first | (with_reducible first | exact HB.out | apply below_alloc | apply pw_below_drewN | apply below_drew1) | exact HB.out)⟩⟩
  case rest=>
   clear HC4
   try clear c1
   try clear p2
   try clear c3
   try clear c3b0
   try clear c3b1
   try clear c5
   try clear c5b0
   try clear c5b1
   obtain ⟨kq,x6_3,x7_3,rfl,HA,HJ3,HO_6,HB⟩ :=hcut
   cases kq with
   | zero=>exact absurd HA.out (by simp [complineref17_Name.j0])
   | succ kj3=>
    have H:=HA.out
    clear HA
    simp only [complineref17_Name.j0] at H
    have HC8:=Aside0.mk H
    clear H
    go_upto_if 17 with (fail)
    go_cut [6] (fun v6 wc=>∃ (kq:Nat) (x6_7:List ByteArray),Aside0 (complineref17_Name.j1 kq a0 x6_7 x7_3=some (r1,r2))∧Aside0 (kq≤kj3)∧Aside0 (Kd.R Kd.string 9 wc w.heap.size (fun _=>True) v6 x6_7)∧Aside0 (Below w.heap.size w wc))
    case first=>
     have H:=HC8.out
     clear HC8
     by_cases c9:a1=4
     ·rw [if_pos c9] at H
      have c9b0:(a1 == 4)=true:=beq_iff_eq.mpr c9
      have c9b1:(a1 != 4)=false:=bne_eq_false_iff_eq.mpr c9
      clear c9
      (first | rw [c9b0] | (simp only [i64_w,i32_w]; rw [c9b0]) | skip)
      obtain ⟨y221,hy221⟩:∃ y_:List ByteArray,y_=(([(⟨#[115,117,110]⟩:ByteArray),(⟨#[109,111,110]⟩:ByteArray),(⟨#[116,117,101]⟩:ByteArray),(⟨#[119,101,100]⟩:ByteArray),(⟨#[116,104,117]⟩:ByteArray),(⟨#[102,114,105]⟩:ByteArray),(⟨#[115,97,116]⟩:ByteArray)]:List ByteArray)):=⟨_,rfl⟩
      replace H:(complineref17_Name.j1 kj3 a0 y221 x7_3)=some (r1,r2):=by first | (rw [hy221]; with_reducible exact H) | (have H2_:=(Option.bind_some _ _).symm.trans H; rw [hy221]; with_reducible exact H2_) | (have H2_:=(Option.bind_some _ _).symm.trans H; with_reducible exact H2_) | with_reducible exact H | (rw [hy221]; exact H) | exact H
      have Ny221:=Aside0.mk hy221
      clear hy221
      have H':=Aside0.mk H
      clear H
      go_wp2_with (first | ((with_reducible refine gate_dst (N:=18) rfl ?_); refine Kd.R_lit Kd.string _ 9 ?hg (N:=18) ?hd (xs:=([(⟨#[115,117,110]⟩:ByteArray),(⟨#[109,111,110]⟩:ByteArray),(⟨#[116,117,101]⟩:ByteArray),(⟨#[119,101,100]⟩:ByteArray),(⟨#[116,104,117]⟩:ByteArray),(⟨#[102,114,105]⟩:ByteArray),(⟨#[115,97,116]⟩:ByteArray)]:List ByteArray)) (inner:=[.string (⟨#[115,117,110]⟩:ByteArray),.string (⟨#[109,111,110]⟩:ByteArray),.string (⟨#[116,117,101]⟩:ByteArray),.string (⟨#[119,101,100]⟩:ByteArray),.string (⟨#[116,104,117]⟩:ByteArray),.string (⟨#[102,114,105]⟩:ByteArray),.string (⟨#[115,97,116]⟩:ByteArray)]) (ok:=fun _=>True) (okp:=fun _=>True) ?hr ?hp (fun _ hk=>hk) trivial (Below.refl _ _) (Nat.le_refl _) (by simp) ?_; (case hd=>rfl); (case hg=>rfl); (case hr=>first | (go_simp; done) | (go_simp; rfl)); (case hp=>exact (Reps.one (show Kd.M Kd.string _ _ _ (⟨#[115,117,110]⟩:ByteArray) [.string (⟨#[115,117,110]⟩:ByteArray)] from rfl) (Reps.one (show Kd.M Kd.string _ _ _ (⟨#[109,111,110]⟩:ByteArray) [.string (⟨#[109,111,110]⟩:ByteArray)] from rfl) (Reps.one (show Kd.M Kd.string _ _ _ (⟨#[116,117,101]⟩:ByteArray) [.string (⟨#[116,117,101]⟩:ByteArray)] from rfl) (Reps.one (show Kd.M Kd.string _ _ _ (⟨#[119,101,100]⟩:ByteArray) [.string (⟨#[119,101,100]⟩:ByteArray)] from rfl) (Reps.one (show Kd.M Kd.string _ _ _ (⟨#[116,104,117]⟩:ByteArray) [.string (⟨#[116,104,117]⟩:ByteArray)] from rfl) (Reps.one (show Kd.M Kd.string _ _ _ (⟨#[102,114,105]⟩:ByteArray) [.string (⟨#[102,114,105]⟩:ByteArray)] from rfl) (Reps.one (show Kd.M Kd.string _ _ _ (⟨#[115,97,116]⟩:ByteArray) [.string (⟨#[115,97,116]⟩:ByteArray)] from rfl) (Reps.none _ _))))))))); intro v222 w10 ho11 hb hg_ hnew_; clear hg_ hnew_; (first | rw [← Ny221.out] at ho11 | (simp only [Int.reduceToNat] at ho11; rw [← Ny221.out] at ho11)); have n0_:=Aside0.mk (Kd.R_elder' (by (with_reducible repeat (first | apply Kd.R_alloc | apply Kd.R_drewN | apply Kd.R_drew)); exact HO_6.out) (Kd.R_base ho11) hb); have n1_:=Aside0.mk (Kd.R_lower (Kd.R_new' ho11 (Kd.R_lt (by (with_reducible repeat (first | apply Kd.R_alloc | apply Kd.R_drewN | apply Kd.R_drew)); exact HO_6.out))) (below_size (by repeat (first | (with_reducible first | exact HB.out | apply below_alloc | apply pw_below_drewN | apply below_drew1) | exact HB.out)))); have n2_:=Aside0.mk (below_step (by repeat (first | (with_reducible first | exact HB.out | apply below_alloc | apply pw_below_drewN | apply below_drew1) | exact HB.out)) hb); clear HO_6; clear HB; have HO_6:=n0_; have HO223:=n1_; have HB:=n2_; clear n0_ n1_ n2_; clear hb ho11))
      go_meet
      case rel=>exact ⟨_,(y221),H',⟨by have:=HJ3.out; first | omega | exact Nat.le_refl _⟩,⟨by (with_reducible repeat (first | apply Kd.R_alloc | apply Kd.R_drewN | apply Kd.R_drew)); exact Kd.R_mono HO223.out (fun _ hk=>trivial)⟩,⟨by repeat (first | (with_reducible first | exact HB.out | apply below_alloc | apply pw_below_drewN | apply below_drew1) | exact HB.out)⟩⟩
     ·rw [if_neg c9] at H
      have c9b0:(a1 == 4)=false:=beq_eq_false_iff_ne.mpr c9
      have c9b1:(a1 != 4)=true:=bne_iff_ne.mpr c9
      (first | rw [c9b0] | (simp only [i64_w,i32_w]; rw [c9b0]) | skip)
      have H':=Aside0.mk H
      clear H
      go_wp2
      go_meet
      case rel=>exact ⟨_,(x6_3),H',⟨by have:=HJ3.out; first | omega | exact Nat.le_refl _⟩,⟨by (with_reducible repeat (first | apply Kd.R_alloc | apply Kd.R_drewN | apply Kd.R_drew)); exact HO_6.out⟩,⟨by repeat (first | (with_reducible first | exact HB.out | apply below_alloc | apply pw_below_drewN | apply below_drew1) | exact HB.out)⟩⟩
    case rest=>
     clear HC8
     try clear c1
     try clear p2
     try clear c3
     try clear c3b0
     try clear c3b1
     try clear c5
     try clear c5b0
     try clear c5b1
     try clear c9
     try clear c9b0
     try clear c9b1
     try clear c11
     try clear p2
     obtain ⟨kq,x6_7,HA,HJ7,HO_6,HB⟩ :=hcut
     cases kq with
     | zero=>exact absurd HA.out (by simp [complineref17_Name.j1])
     | succ kj7=>
      have H:=HA.out
      clear HA
      simp only [complineref17_Name.j1] at H
      replace H:=Option.bind_eq_some_iff.mp H
      obtain ⟨t224,A120,H⟩ :=H
      replace H:(complineref17_Name.l0 kj7 x6_7 x7_3 t224 0)=some (r1,r2):=H
      have A12:=Aside0.mk A120
      clear A120
      have H':=Aside0.mk H
      clear H
      go_wp2_with (first | ((with_reducible refine gate_callee (f:=124) rfl ?_); refine goesL_ (some 20) rfl rfl Tryz.func124 (by kernel_rfl) rfl #[.string a0] rfl (by (try simp only [List.map_toArray,List.map_cons,List.map_nil]); first | done | rfl | (simp only [List.length_drop,List.length_take]; rfl)) ?_; (with_reducible refine (complineref17_Lower.calls kj7 a0 t224 _ A12.out).mono ?_); rintro e w13 ⟨rfl,hb⟩; refine ⟨_,rfl,?_⟩; have n0_:=Aside0.mk (Kd.R_below (by (with_reducible repeat (first | apply Kd.R_alloc | apply Kd.R_drewN | apply Kd.R_drew)); exact HO_6.out) hb); have n1_:=Aside0.mk (below_step (by repeat (first | (with_reducible first | exact HB.out | apply below_alloc | apply pw_below_drewN | apply below_drew1) | exact HB.out)) hb); clear HO_6; clear HB; have HO_6:=n0_; have HB:=n1_; clear n0_ n1_; (try clear hb); (try clear hb2); (try clear hk); (try clear hi)))
      go_loopg [9] kj7 (fun kq v9 w'=>∃ (x9_3:Int),v9=.int .i64 x9_3∧Aside0 (complineref17_Name.l0 kq x6_7 x7_3 t224 x9_3=some (r1,r2))∧Aside0 (kq≤kj7)∧Aside0 (Kd.R Kd.string 9 w' w.heap.size (fun _=>True) u6 x6_7)∧Aside0 (Below w.heap.size w w'))
      case atStart=>exact ⟨(0),(by first | rfl | (simp; done) | (simp [*]; done)),H',⟨Nat.le_refl _⟩,⟨by (with_reducible repeat (first | apply Kd.R_alloc | apply Kd.R_drewN | apply Kd.R_drew)); exact HO_6.out⟩,⟨by repeat (first | (with_reducible first | exact HB.out | apply below_alloc | apply pw_below_drewN | apply below_drew1) | exact HB.out)⟩⟩
      case round=>
       clear H'
       try clear c1
       try clear p2
       try clear c3
       try clear c3b0
       try clear c3b1
       try clear c5
       try clear c5b0
       try clear c5b1
       try clear c9
       try clear c9b0
       try clear c9b1
       try clear c11
       try clear c12
       try clear p2
       obtain ⟨x9_3,rfl,HA,HK3,HO_6,HB⟩ :=hrel
       cases gk with
       | zero=>exact absurd HA.out (by simp [complineref17_Name.l0])
       | succ k3=>
        have H:=HA.out
        clear HA
        simp only [complineref17_Name.l0] at H
        by_cases c14:x9_3 < (x6_7.length:Int)
        ·rw [if_pos c14] at H
         have c14b0:decide (x9_3 < (x6_7.length:Int))=true:=decide_eq_true c14
         clear c14
         by_cases c15:0≤x9_3
         ·rw [if_pos c15] at H
          have c15b0:decide (0≤x9_3)=true:=decide_eq_true c15
          clear c15
          by_cases c16:(rdOf ByteArray.empty x6_7 x9_3).toList=t224.toList
          ·rw [if_pos c16] at H
           have c16b0:((rdOf ByteArray.empty x6_7 x9_3).toList == t224.toList)=true:=beq_iff_eq.mpr c16
           have c16b1:((rdOf ByteArray.empty x6_7 x9_3).toList != t224.toList)=false:=bne_eq_false_iff_eq.mpr c16
           clear c16
           simp only [Option.some.injEq,Prod.mk.injEq] at H
           obtain ⟨rfl,rfl⟩ :=H
           obtain ⟨Ao17,co17,eo17⟩ :=Kd.R_slice HO_6.out
           subst eo17
           have p225:0≤(x9_3:Int):=of_decide_eq_true (by first | (with_reducible assumption) | assumption)
           have q225:x9_3 < (x6_7.length:Int):=of_decide_eq_true (by first | (with_reducible assumption) | assumption)
           obtain ⟨ad225,e225,hx225_0⟩ :=Kd.at_string (Kd.R_reads' HO_6.out).2.2 x9_3 p225 q225
           cases e225
           replace p225:=eq_true p225
           replace q225:=eq_true q225
           go_wp2
           go_ret2
           exact ⟨by first | rfl | (simp [errW_none,errW_some] <;> rfl) | (simp [*,errW_none,errW_some] <;> rfl),by repeat (first | (with_reducible first | exact HB.out | apply below_alloc | apply pw_below_drewN | apply below_drew1) | exact HB.out)⟩
          ·rw [if_neg c16] at H
           have c16b0:((rdOf ByteArray.empty x6_7 x9_3).toList == t224.toList)=false:=beq_eq_false_iff_ne.mpr c16
           have c16b1:((rdOf ByteArray.empty x6_7 x9_3).toList != t224.toList)=true:=bne_iff_ne.mpr c16
           have H':=Aside0.mk H
           clear H
           obtain ⟨Ao18,co18,eo18⟩ :=Kd.R_slice HO_6.out
           subst eo18
           have p225:0≤(x9_3:Int):=of_decide_eq_true (by first | (with_reducible assumption) | assumption)
           have q225:x9_3 < (x6_7.length:Int):=of_decide_eq_true (by first | (with_reducible assumption) | assumption)
           obtain ⟨ad225,e225,hx225_0⟩ :=Kd.at_string (Kd.R_reads' HO_6.out).2.2 x9_3 p225 q225
           cases e225
           replace p225:=eq_true p225
           replace q225:=eq_true q225
           go_wp2
           go_roundg k3
           case measure=>have:=HJ3.out; have:=HJ7.out; have:=HK3.out; omega
           case rel=>exact ⟨(wrap64 (x9_3+1)),(by first | rfl | (simp; done) | (simp [*]; done)),H',⟨by have:=HJ3.out; have:=HJ7.out; have:=HK3.out; omega⟩,⟨by (with_reducible repeat (first | apply Kd.R_alloc | apply Kd.R_drewN | apply Kd.R_drew)); exact HO_6.out⟩,⟨by repeat (first | (with_reducible first | exact HB.out | apply below_alloc | apply pw_below_drewN | apply below_drew1) | exact HB.out)⟩⟩
         ·rw [if_neg c15] at H
          exact absurd H (by simp)
        ·rw [if_neg c14] at H
         have c14b0:decide (x9_3 < (x6_7.length:Int))=false:=decide_eq_false c14
         clear c14
         simp only [Option.some.injEq,Prod.mk.injEq] at H
         obtain ⟨rfl,rfl⟩ :=H
         obtain ⟨Ao19,co19,eo19⟩ :=Kd.R_slice HO_6.out
         subst eo19
         go_wp2
         go_ret2
         exact ⟨by first | rfl | (simp [errW_none,errW_some] <;> rfl) | (simp [*,errW_none,errW_some] <;> rfl),by repeat (first | (with_reducible first | exact HB.out | apply below_alloc | apply pw_below_drewN | apply below_drew1) | exact HB.out)⟩
 ·rw [if_neg c3] at H
  have c3b0:((a0.size:Int) == 3)=false:=beq_eq_false_iff_ne.mpr c3
  have c3b1:((a0.size:Int) != 3)=true:=bne_iff_ne.mpr c3
  simp only [Option.some.injEq,Prod.mk.injEq] at H
  obtain ⟨rfl,rfl⟩ :=H
  go_enter Tryz.func117,Tryz.ntmps117
  go_wp2
  go_ret2
  exact ⟨by first | rfl | (simp [errW_none,errW_some] <;> rfl) | (simp [*,errW_none,errW_some] <;> rfl),by repeat (first | (with_reducible first | exact HB.out | apply below_alloc | apply pw_below_drewN | apply below_drew1) | exact HB.out)⟩
end Go.Proofs.YtcmmmlenaahaeaaGreatDoor.PShw
