-- Written by a program of this session (gprint.py) over the kit's print.
import Derived.Test.YtepflnfnkfkldaaDoorPReax0
import Derived.Test.YtepflnfnkfkldaaDoorPReax3
import Derived.Test.YtepflnfnkfkldaaDoorPReax11
import Derived.Test.YtepflnfnkfkldaaDoorPReax12
namespace Go.Proofs.YtepflnfnkfkldaaDoor.PRea
open Go.RowKit Go.Proofs.YtepflnfnkfkldaaDoorW.PrintWords Go.Proofs.YtepflnfnkfkldaaDoorW.PrintLast Go.Proofs.YtepflnfnkfkldaaDoorW.PrintMore
attribute [local go_sem] max2_int min2_int max_two min_two max_three min_three max_four min_four
set_option linter.unusedVariables false
set_option linter.unusedSimpArgs false
def complineref16_Leap.f (a0:Int):Option (Bool):=if (Int.tmod a0 400)=0 then (some true) else (if (Int.tmod a0 4)=0 then (some ((Int.tmod a0 100) != 0)) else (some false))
set_option maxHeartbeats 8000000 in
set_option maxRecDepth 100000 in
theorem complineref16_Leap.calls (a0:Int)(r:Bool)(w:World)(h:complineref16_Leap.f a0=some r) :
  Calls Tryd.prog 97 #[.int .i64 a0] w fun e w'=>e=.returned (.bool r)∧Drawn0 w w':=by
 have H:(if (Int.tmod a0 400)=0 then (some true) else (if (Int.tmod a0 4)=0 then (some ((Int.tmod a0 100) != 0)) else (some false)))=some r:=h
 clear h
 by_cases c2:(Int.tmod a0 400)=0
 ·rw [if_pos c2] at H
  have c2b0:((Int.tmod a0 400) == 0)=true:=beq_iff_eq.mpr c2
  have c2b1:((Int.tmod a0 400) != 0)=false:=bne_eq_false_iff_eq.mpr c2
  clear c2
  obtain rfl:=Option.some.inj H
  go_enter Tryd.func97,Tryd.ntmps97
  go_wp2
  go_ret
  exact ⟨by first | rfl | (simp; done) | (simp [*]; done),by repeat (first | exact Drawn0.refl _ | apply Drawn0.step)⟩
 ·rw [if_neg c2] at H
  have c2b0:((Int.tmod a0 400) == 0)=false:=beq_eq_false_iff_ne.mpr c2
  have c2b1:((Int.tmod a0 400) != 0)=true:=bne_iff_ne.mpr c2
  by_cases c3:(Int.tmod a0 4)=0
  ·rw [if_pos c3] at H
   have c3b0:((Int.tmod a0 4) == 0)=true:=beq_iff_eq.mpr c3
   have c3b1:((Int.tmod a0 4) != 0)=false:=bne_eq_false_iff_eq.mpr c3
   clear c3
   obtain rfl:=Option.some.inj H
   go_enter Tryd.func97,Tryd.ntmps97
   go_wp2
   go_ret
   exact ⟨by first | rfl | (simp; done) | (simp [*]; done),by repeat (first | exact Drawn0.refl _ | apply Drawn0.step)⟩
  ·rw [if_neg c3] at H
   have c3b0:((Int.tmod a0 4) == 0)=false:=beq_eq_false_iff_ne.mpr c3
   have c3b1:((Int.tmod a0 4) != 0)=true:=bne_iff_ne.mpr c3
   obtain rfl:=Option.some.inj H
   go_enter Tryd.func97,Tryd.ntmps97
   go_wp2
   go_ret
   exact ⟨by first | rfl | (simp; done) | (simp [*]; done),by repeat (first | exact Drawn0.refl _ | apply Drawn0.step)⟩
def complineref16_Length.j0:Nat→Int→Int→Bool→Option (Int)
 | 0,_,_,_=>none
 | k+1,x0,x1,x10=>if x10=true then (some 0) else (if x1=2 then ((complineref16_Leap.f x0).bind fun t189=>(if t189=true then (some 29) else (some 28))) else (if x1=4 then (some 30) else (if x1=6 then (some 30) else (if x1=9 then (some 30) else (if x1=11 then (some 30) else (some 31))))))
def complineref16_Length.f (k:Nat)(a0:Int)(a1:Int):Option (Int):=if a1 < 1 then (complineref16_Length.j0 k a0 a1 true) else (complineref16_Length.j0 k a0 a1 (decide (a1 > 12)))
set_option maxHeartbeats 8000000 in
set_option maxRecDepth 100000 in
theorem complineref16_Length.calls (k:Nat)(a0:Int)(a1:Int)(r:Int)(w:World)(h:complineref16_Length.f k a0 a1=some r) :
  Calls Tryd.prog 82 #[.int .i64 a0,.int .i64 a1] w fun e w'=>e=.returned (.int .i64 r)∧Drawn0 w w':=by
 have H:(if a1 < 1 then (complineref16_Length.j0 k a0 a1 true) else (complineref16_Length.j0 k a0 a1 (decide (a1 > 12))))=some r:=h
 clear h
 have HC3:=Aside0.mk H
 clear H
 go_enter Tryd.func82,Tryd.ntmps82
 go_upto_region 1 with (fail)
 go_cut [10] (fun v10 wc=>∃ (kq:Nat) (x10_2:Bool),v10=.bool x10_2∧Aside0 (complineref16_Length.j0 kq a0 a1 x10_2=some r)∧Aside0 (kq≤k)∧Drawn0 w wc)
 case first=>
  have H:=HC3.out
  clear HC3
  by_cases c4:a1 < 1
  ·rw [if_pos c4] at H
   have c4b0:decide (a1 < 1)=true:=decide_eq_true c4
   clear c4
   (first | rw [c4b0] | (simp only [i64_w,i32_w]; rw [c4b0]) | skip)
   have H':=Aside0.mk H
   clear H
   go_wp2
   go_meet
   case rel=>exact ⟨_,(true),(by first | rfl | (simp; done) | (simp [*]; done)),H',⟨by first | omega | exact Nat.le_refl _⟩,by repeat (first | exact Drawn0.refl _ | apply Drawn0.step)⟩
  ·rw [if_neg c4] at H
   have c4b0:decide (a1 < 1)=false:=decide_eq_false c4
   clear c4
   (first | rw [c4b0] | (simp only [i64_w,i32_w]; rw [c4b0]) | skip)
   have H':=Aside0.mk H
   clear H
   go_wp2
   go_meet
   case rel=>exact ⟨_,(decide (a1 > 12)),(by first | rfl | (simp; done) | (simp [*]; done)),H',⟨by first | omega | exact Nat.le_refl _⟩,by repeat (first | exact Drawn0.refl _ | apply Drawn0.step)⟩
 case rest=>
  clear HC3
  try clear p2
  try clear c4
  try clear c4b0
  obtain ⟨kq,x10_2,rfl,HA,HJ2,⟨mc2,rfl⟩⟩ :=hcut
  cases kq with
  | zero=>exact absurd HA.out (by simp [complineref16_Length.j0])
  | succ kj2=>
   have H:=HA.out
   clear HA
   simp only [complineref16_Length.j0] at H
   by_cases c5:x10_2=true
   ·subst c5
    have H1:(some 0)=some r:=by rw [if_pos rfl] at H; exact H
    clear H
    have H:=H1
    clear H1
    obtain rfl:=Option.some.inj H
    go_wp2
    go_ret
    exact ⟨by first | rfl | (simp; done) | (simp [*]; done),by repeat (first | exact Drawn0.refl _ | apply Drawn0.step)⟩
   ·replace c5:=Bool.eq_false_iff.mpr c5
    subst c5
    have H1:(if a1=2 then ((complineref16_Leap.f a0).bind fun t189=>(if t189=true then (some 29) else (some 28))) else (if a1=4 then (some 30) else (if a1=6 then (some 30) else (if a1=9 then (some 30) else (if a1=11 then (some 30) else (some 31))))))=some r:=by rw [if_neg (show ¬ (false=true) by decide)] at H; exact H
    clear H
    have H:=H1
    clear H1
    by_cases c6:a1=2
    ·rw [if_pos c6] at H
     have c6b0:(a1 == 2)=true:=beq_iff_eq.mpr c6
     have c6b1:(a1 != 2)=false:=bne_eq_false_iff_eq.mpr c6
     clear c6
     replace H:=Option.bind_eq_some_iff.mp H
     obtain ⟨t189,A70,H⟩ :=H
     replace H:(if t189=true then (some 29) else (some 28))=some r:=H
     have A7:=Aside0.mk A70
     clear A70
     by_cases c8:t189=true
     ·subst c8
      have H1:(some 29)=some r:=by rw [if_pos rfl] at H; exact H
      clear H
      have H:=H1
      clear H1
      obtain rfl:=Option.some.inj H
      go_wp2_with (first | ((with_reducible refine gate_callee (f:=97) rfl ?_); refine goesL_ (some 14) rfl rfl Tryd.func97 (by kernel_rfl) rfl #[.int .i64 a0] rfl (by (try simp only [List.map_toArray,List.map_cons,List.map_nil]); first | done | rfl | (simp only [List.length_drop,List.length_take]; rfl)) ?_; (with_reducible refine (complineref16_Leap.calls a0 true _ A7.out).mono ?_); rintro e w' ⟨rfl,⟨nd,rfl⟩⟩; refine ⟨_,rfl,?_⟩))
      go_ret
      exact ⟨by first | rfl | (simp; done) | (simp [*]; done),by repeat (first | exact Drawn0.refl _ | apply Drawn0.step)⟩
     ·replace c8:=Bool.eq_false_iff.mpr c8
      subst c8
      have H1:(some 28)=some r:=by rw [if_neg (show ¬ (false=true) by decide)] at H; exact H
      clear H
      have H:=H1
      clear H1
      obtain rfl:=Option.some.inj H
      go_wp2_with (first | ((with_reducible refine gate_callee (f:=97) rfl ?_); refine goesL_ (some 14) rfl rfl Tryd.func97 (by kernel_rfl) rfl #[.int .i64 a0] rfl (by (try simp only [List.map_toArray,List.map_cons,List.map_nil]); first | done | rfl | (simp only [List.length_drop,List.length_take]; rfl)) ?_; (with_reducible refine (complineref16_Leap.calls a0 false _ A7.out).mono ?_); rintro e w' ⟨rfl,⟨nd,rfl⟩⟩; refine ⟨_,rfl,?_⟩))
      go_ret
      exact ⟨by first | rfl | (simp; done) | (simp [*]; done),by repeat (first | exact Drawn0.refl _ | apply Drawn0.step)⟩
    ·rw [if_neg c6] at H
     have c6b0:(a1 == 2)=false:=beq_eq_false_iff_ne.mpr c6
     have c6b1:(a1 != 2)=true:=bne_iff_ne.mpr c6
     by_cases c9:a1=4
     ·rw [if_pos c9] at H
      have c9b0:(a1 == 4)=true:=beq_iff_eq.mpr c9
      have c9b1:(a1 != 4)=false:=bne_eq_false_iff_eq.mpr c9
      clear c9
      obtain rfl:=Option.some.inj H
      go_wp2
      go_ret
      exact ⟨by first | rfl | (simp; done) | (simp [*]; done),by repeat (first | exact Drawn0.refl _ | apply Drawn0.step)⟩
     ·rw [if_neg c9] at H
      have c9b0:(a1 == 4)=false:=beq_eq_false_iff_ne.mpr c9
      have c9b1:(a1 != 4)=true:=bne_iff_ne.mpr c9
      by_cases c10:a1=6
      ·rw [if_pos c10] at H
       have c10b0:(a1 == 6)=true:=beq_iff_eq.mpr c10
       have c10b1:(a1 != 6)=false:=bne_eq_false_iff_eq.mpr c10
       clear c10
       obtain rfl:=Option.some.inj H
       go_wp2
       go_ret
       exact ⟨by first | rfl | (simp; done) | (simp [*]; done),by repeat (first | exact Drawn0.refl _ | apply Drawn0.step)⟩
      ·rw [if_neg c10] at H
       have c10b0:(a1 == 6)=false:=beq_eq_false_iff_ne.mpr c10
       have c10b1:(a1 != 6)=true:=bne_iff_ne.mpr c10
       by_cases c11:a1=9
       ·rw [if_pos c11] at H
        have c11b0:(a1 == 9)=true:=beq_iff_eq.mpr c11
        have c11b1:(a1 != 9)=false:=bne_eq_false_iff_eq.mpr c11
        clear c11
        obtain rfl:=Option.some.inj H
        go_wp2
        go_ret
        exact ⟨by first | rfl | (simp; done) | (simp [*]; done),by repeat (first | exact Drawn0.refl _ | apply Drawn0.step)⟩
       ·rw [if_neg c11] at H
        have c11b0:(a1 == 9)=false:=beq_eq_false_iff_ne.mpr c11
        have c11b1:(a1 != 9)=true:=bne_iff_ne.mpr c11
        by_cases c12:a1=11
        ·rw [if_pos c12] at H
         have c12b0:(a1 == 11)=true:=beq_iff_eq.mpr c12
         have c12b1:(a1 != 11)=false:=bne_eq_false_iff_eq.mpr c12
         clear c12
         obtain rfl:=Option.some.inj H
         go_wp2
         go_ret
         exact ⟨by first | rfl | (simp; done) | (simp [*]; done),by repeat (first | exact Drawn0.refl _ | apply Drawn0.step)⟩
        ·rw [if_neg c12] at H
         have c12b0:(a1 == 11)=false:=beq_eq_false_iff_ne.mpr c12
         have c12b1:(a1 != 11)=true:=bne_iff_ne.mpr c12
         obtain rfl:=Option.some.inj H
         go_wp2
         go_ret
         exact ⟨by first | rfl | (simp; done) | (simp [*]; done),by repeat (first | exact Drawn0.refl _ | apply Drawn0.step)⟩
/-! This session's own: the document's after and before, walked. -/
structure R22.Two (w:World) (g:Nat) (n y m d:Int) (W:World):Prop where
 a:W.heap[g]?=some (.cells #[.int .i64 n,.int .i64 y,.int .i64 m,.int .i64 d] 92 (0,0))
 z:W.heap[g+1]?=some (.cells #[.int .i64 0,.int .i64 0,.int .i64 0,.int .i64 0] 92 (0,0))
 b:Below w.heap.size w W
theorem R22.two_step {w:World}{g:Nat}{n y m d:Int}{W W':World}(h:Aside0 (R22.Two w g n y m d W))(hb:Below W.heap.size W W'):Aside0 (R22.Two w g n y m d W'):=⟨⟨blk_below h.out.a hb,blk_below h.out.z hb,below_step h.out.b hb⟩⟩
theorem R22.two_cells {w:World}{g:Nat}{n y m d:Int}{W:World}(h:Aside0 (R22.Two w g n y m d W)):W.cell? ⟨g,0,none⟩=some (.int .i64 n)∧W.cell? ⟨g,1,none⟩=some (.int .i64 y)∧W.cell? ⟨g,2,none⟩=some (.int .i64 m)∧W.cell? ⟨g,3,none⟩=some (.int .i64 d)∧W.frozen? ⟨g+1,0,none⟩=false∧W.frozen? ⟨g+1,1,none⟩=false∧W.frozen? ⟨g+1,2,none⟩=false∧W.frozen? ⟨g+1,3,none⟩=false∧W.cell? ⟨g+1,0,none⟩=some (.int .i64 0)∧W.cell? ⟨g+1,1,none⟩=some (.int .i64 0)∧W.cell? ⟨g+1,2,none⟩=some (.int .i64 0)∧W.cell? ⟨g+1,3,none⟩=some (.int .i64 0):=
 ⟨(blk_cell h.out.a 0).trans rfl,(blk_cell h.out.a 1).trans rfl,(blk_cell h.out.a 2).trans rfl,(blk_cell h.out.a 3).trans rfl,blk_frozen h.out.z 0,blk_frozen h.out.z 1,blk_frozen h.out.z 2,blk_frozen h.out.z 3,(blk_cell h.out.z 0).trans rfl,(blk_cell h.out.z 1).trans rfl,(blk_cell h.out.z 2).trans rfl,(blk_cell h.out.z 3).trans rfl⟩
theorem R22.two_new (w:World)(n y m d:Int):Aside0 (R22.Two w w.heap.size n y m d ((w.alloc (.cells #[.int .i64 n,.int .i64 y,.int .i64 m,.int .i64 d] 92)).alloc (.cells #[.int .i64 0,.int .i64 0,.int .i64 0,.int .i64 0] 92))):=⟨⟨blk_alloc (blk_new w _) _,by have h:=heap_alloc_new (w.alloc (.cells #[.int .i64 n,.int .i64 y,.int .i64 m,.int .i64 d] 92)) (.cells #[.int .i64 0,.int .i64 0,.int .i64 0,.int .i64 0] 92); simpa using h,below_alloc (below_alloc (Below.refl _ _) _) _⟩⟩
set_option maxHeartbeats 8000000 in
set_option maxRecDepth 100000 in
theorem R22.aft (n y m d l:Int)(A:complineref16_Length.f 100 y m=some l)(w:World) :
  Calls Tryd.prog 50 #[.agg #[.int .i64 n,.int .i64 y,.int .i64 m,.int .i64 d]] w fun e w'=>e=.returned (if d < l then .agg #[.int .i64 (wrap64 (n+1)),.int .i64 y,.int .i64 m,.int .i64 (wrap64 (d+1))] else if m < 12 then .agg #[.int .i64 (wrap64 (n+1)),.int .i64 y,.int .i64 (wrap64 (m+1)),.int .i64 1] else .agg #[.int .i64 (wrap64 (n+1)),.int .i64 (wrap64 (y+1)),.int .i64 1,.int .i64 1])∧Below w.heap.size w w':=by
 obtain ⟨rv,hrv⟩:∃ v:Value,(if d < l then .agg #[.int .i64 (wrap64 (n+1)),.int .i64 y,.int .i64 m,.int .i64 (wrap64 (d+1))] else if m < 12 then .agg #[.int .i64 (wrap64 (n+1)),.int .i64 y,.int .i64 (wrap64 (m+1)),.int .i64 1] else .agg #[.int .i64 (wrap64 (n+1)),.int .i64 (wrap64 (y+1)),.int .i64 1,.int .i64 1])=v:=⟨_,rfl⟩
 rw [hrv]
 replace hrv:=Lib.hid hrv
 replace A:=Lib.hid A
 have T0:=R22.two_new w n y m d
 go_enter Tryd.func50,Tryd.ntmps50
 go_wp2_with fail
 obtain ⟨g,hg⟩:∃ g,w.heap.size=g:=⟨_,rfl⟩
 rw [hg] at T0 ⊢
 generalize (w.alloc (.cells #[.int .i64 n,.int .i64 y,.int .i64 m,.int .i64 d] 92)).alloc (.cells #[.int .i64 0,.int .i64 0,.int .i64 0,.int .i64 0] 92)=w1 at T0 ⊢
 have T1:Aside0 (R22.Two w g n y m d w1.drew):=R22.two_step T0 (below_drew1 (Below.refl _ _))
 obtain ⟨v0,v1,v2,v3,f0,f1,f2,f3,z0,z1,z2,z3⟩ :=R22.two_cells T1
 refine start_ (n:=8) (S:=fun w'=>w'.cell? ⟨g,0,none⟩=some (.int .i64 n)∧w'.cell? ⟨g,1,none⟩=some (.int .i64 y)∧w'.cell? ⟨g,2,none⟩=some (.int .i64 m)∧w'.cell? ⟨g,3,none⟩=some (.int .i64 d)∧w'.frozen? ⟨g+1,0,none⟩=false∧w'.frozen? ⟨g+1,1,none⟩=false∧w'.frozen? ⟨g+1,2,none⟩=false∧w'.frozen? ⟨g+1,3,none⟩=false∧w'.cell? ⟨g+1,0,none⟩=some (.int .i64 0)∧w'.cell? ⟨g+1,1,none⟩=some (.int .i64 0)∧w'.cell? ⟨g+1,2,none⟩=some (.int .i64 0)∧w'.cell? ⟨g+1,3,none⟩=some (.int .i64 0)) (ds:=[]) #[false,false,false,false,false,false,false,false] (by kernel_rfl) rfl rfl ⟨v0,v1,v2,v3,f0,f1,f2,f3,z0,z1,z2,z3⟩ (fun hHeld=>?_)
 refine pure_ (i:=0) (N:=some 3) (v:=?_) (a':=?_) #[true,false,false,false,false,false,false,false] rfl rfl (by kernel_rfl) (fun _ _ _ h=>h) (Or.inl ⟨by rfl,?_⟩) ?_ ?_
 rotate_left
 ·intro w'
  go_simp
  with_reducible rfl
 rotate_left
 ·simp only [Act.put,List.setIfInBounds_toArray,List.set_cons_zero,List.set_cons_succ,i64_w,i32_w]
  rfl
 refine pure_ (i:=2) (N:=some 5) (v:=?_) (a':=?_) #[true,false,true,false,false,false,false,false] rfl rfl (by kernel_rfl) (fun _ _ _ h=>h) (Or.inl ⟨by rfl,?_⟩) ?_ ?_
 rotate_left
 ·intro w'
  go_simp
  with_reducible rfl
 rotate_left
 ·simp only [Act.put,List.setIfInBounds_toArray,List.set_cons_zero,List.set_cons_succ,i64_w,i32_w]
  rfl
 refine pure_ (i:=4) (N:=some 7) (v:=?_) (a':=?_) #[true,false,true,false,true,false,false,false] rfl rfl (by kernel_rfl) (fun _ _ _ h=>h) (Or.inl ⟨by rfl,?_⟩) ?_ ?_
 rotate_left
 ·intro w'
  go_simp
  with_reducible rfl
 rotate_left
 ·simp only [Act.put,List.setIfInBounds_toArray,List.set_cons_zero,List.set_cons_succ,i64_w,i32_w]
  rfl
 refine take_ (i:=1) (N:=some 4) (v:=?_) (a':=?_) #[true,true,true,false,true,false,false,false] rfl rfl (by kernel_rfl) (fun _ _ _ h=>h) (Or.inl ⟨by rfl,?_⟩) hHeld ?_ ?_
 rotate_left
 ·rintro w' ⟨s0,s1,s2,s3,s4,s5,s6,s7,s8,s9,s10,s11⟩
  go_simp
  with_reducible rfl
 rotate_left
 ·simp only [Act.put,List.setIfInBounds_toArray,List.set_cons_zero,List.set_cons_succ,i64_w,i32_w]
  rfl
 refine take_ (i:=3) (N:=some 6) (v:=?_) (a':=?_) #[true,true,true,true,true,false,false,false] rfl rfl (by kernel_rfl) (fun _ _ _ h=>h) (Or.inl ⟨by rfl,?_⟩) hHeld ?_ ?_
 rotate_left
 ·rintro w' ⟨s0,s1,s2,s3,s4,s5,s6,s7,s8,s9,s10,s11⟩
  go_simp
  with_reducible rfl
 rotate_left
 ·simp only [Act.put,List.setIfInBounds_toArray,List.set_cons_zero,List.set_cons_succ,i64_w,i32_w]
  rfl
 refine take_ (i:=5) (N:=some 8) (v:=?_) (a':=?_) #[true,true,true,true,true,true,false,false] rfl rfl (by kernel_rfl) (fun _ _ _ h=>h) (Or.inl ⟨by rfl,?_⟩) hHeld ?_ ?_
 rotate_left
 ·rintro w' ⟨s0,s1,s2,s3,s4,s5,s6,s7,s8,s9,s10,s11⟩
  go_simp
  with_reducible rfl
 rotate_left
 ·simp only [Act.put,List.setIfInBounds_toArray,List.set_cons_zero,List.set_cons_succ,i64_w,i32_w]
  rfl
 refine one_ (i:=6) (N:=some 9) #[true,true,true,true,true,true,true,false] rfl rfl (by kernel_rfl) (by decide) (fun K hK=>?_)
 refine goes_ Tryd.func82 (by kernel_rfl) rfl #[.int .i64 y,.int .i64 m] (by rfl) rfl rfl (by simp only [List.map_toArray,List.map_cons,List.map_nil]; rfl) ?_
 with_reducible refine (complineref16_Length.calls _ _ _ l _ A.out).mono ?_
 rintro e w3 ⟨rfl,hb⟩
 refine ⟨_,rfl,?_⟩
 have T_:Aside0 (R22.Two w g n y m d w3):=R22.two_step (by assumption) hb.below
 clear hb
 obtain ⟨v0,v1,v2,v3,f0,f1,f2,f3,z0,z1,z2,z3⟩ :=R22.two_cells T_
 refine hK.out _ _ ⟨v0,v1,v2,v3,f0,f1,f2,f3,z0,z1,z2,z3⟩ (fun hHeld=>?_)
 clear hK K
 refine norm_ (a':=?_) ?_ ?_
 rotate_left
 ·show Act.put _ (some 9) _=_
  simp only [Act.put,List.setIfInBounds_toArray,List.set_cons_zero,List.set_cons_succ,i64_w,i32_w]
  rfl
 refine pure_ (i:=7) (N:=some 10) (v:=?_) (a':=?_) #[true,true,true,true,true,true,true,true] rfl rfl (by kernel_rfl) (fun _ _ _ h=>h) (Or.inl ⟨by rfl,?_⟩) ?_ ?_
 rotate_left
 ·intro w'
  go_simp
  with_reducible rfl
 rotate_left
 ·simp only [Act.put,List.setIfInBounds_toArray,List.set_cons_zero,List.set_cons_succ,i64_w,i32_w]
  rfl
 refine done_ (by kernel_rfl) ?_
 clear T0 T1 hHeld
 by_cases c:d < l
 ·have e1:decide (d < l)=true:=decide_eq_true c
  have hv:=hrv.out
  rw [if_pos c] at hv
  replace hv:=Lib.hid hv
  clear c hrv
  rw [e1]
  have hz:=T_.out.z
  have hsz:=blk_lt T_.out.z
  go_wp2_with fail
  refine bodyPost_ret (results_cell_row rfl _ _ (g+1) 92 #[.int .i64 (wrap64 (n+1)),.int .i64 y,.int .i64 m,.int .i64 (wrap64 (d+1))] (0,0) _ rfl (blk_put (blk_put (blk_put (blk_put hz 0 _ rfl) 1 _ rfl) 2 _ rfl) 3 _ rfl) Tryd.underlying92 rfl (by kernel_rfl)) rfl ?_
  exact ⟨by rw [← hv.out],below_set (below_set (below_set (below_set T_.out.b (by omega)) (by omega)) (by omega)) (by omega)⟩
 ·have e1:decide (d < l)=false:=decide_eq_false c
  have hv:=hrv.out
  rw [if_neg c] at hv
  clear c hrv
  rw [e1]
  by_cases c:m < 12
  ·have e2:decide (m < 12)=true:=decide_eq_true c
   rw [if_pos c] at hv
   replace hv:=Lib.hid hv
   clear c
   have hz:=T_.out.z
   have hsz:=blk_lt T_.out.z
   go_wp2_with fail
   refine bodyPost_ret (results_cell_row rfl _ _ (g+1) 92 #[.int .i64 (wrap64 (n+1)),.int .i64 y,.int .i64 (wrap64 (m+1)),.int .i64 1] (0,0) _ rfl (blk_put (blk_put (blk_put (blk_put hz 0 _ rfl) 1 _ rfl) 2 _ rfl) 3 _ rfl) Tryd.underlying92 rfl (by kernel_rfl)) rfl ?_
   exact ⟨by rw [← hv.out],below_set (below_set (below_set (below_set T_.out.b (by omega)) (by omega)) (by omega)) (by omega)⟩
  ·have e2:decide (m < 12)=false:=decide_eq_false c
   rw [if_neg c] at hv
   replace hv:=Lib.hid hv
   clear c
   have hz:=T_.out.z
   have hsz:=blk_lt T_.out.z
   go_wp2_with fail
   refine bodyPost_ret (results_cell_row rfl _ _ (g+1) 92 #[.int .i64 (wrap64 (n+1)),.int .i64 (wrap64 (y+1)),.int .i64 1,.int .i64 1] (0,0) _ rfl (blk_put (blk_put (blk_put (blk_put hz 0 _ rfl) 1 _ rfl) 2 _ rfl) 3 _ rfl) Tryd.underlying92 rfl (by kernel_rfl)) rfl ?_
   exact ⟨by rw [← hv.out],below_set (below_set (below_set (below_set T_.out.b (by omega)) (by omega)) (by omega)) (by omega)⟩
/-! This session's own: the document's on and at, walked. -/
structure R22.XD (w:World) (g h:Nat) (b0:Int) (s0:Bool) (b1:Int) (s1:Bool) (b2:Int) (s2:Bool) (b3:Int) (s3:Bool) (b4:Int) (s4:Bool) (n y m d:Int) (W:World):Prop where
 x:Spc.Row W g b0 s0 b1 s1 b2 s2 b3 s3 b4 s4
 d:W.heap[h]?=some (.cells #[.int .i64 n,.int .i64 y,.int .i64 m,.int .i64 d] 92 (0,0))
 b:Below w.heap.size w W
end Go.Proofs.YtepflnfnkfkldaaDoor.PRea
