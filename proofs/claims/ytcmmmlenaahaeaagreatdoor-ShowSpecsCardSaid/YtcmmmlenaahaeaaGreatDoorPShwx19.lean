-- Written by a program of this session (gprint.py) over the kit's print.
import Derived.Test.YtcmmmlenaahaeaaGreatDoorPShwx0
import Derived.Test.YtcmmmlenaahaeaaGreatDoorPShwx1
import Derived.Test.YtcmmmlenaahaeaaGreatDoorPShwx3
import Derived.Test.YtcmmmlenaahaeaaGreatDoorPShwx4
import Derived.Test.YtcmmmlenaahaeaaGreatDoorPShwx6
import Derived.Test.YtcmmmlenaahaeaaGreatDoorPShwx8
import Derived.Test.YtcmmmlenaahaeaaGreatDoorPShwx11
import Derived.Test.YtcmmmlenaahaeaaGreatDoorPShwx13
import Derived.Test.YtcmmmlenaahaeaaGreatDoorPShwx14
import Derived.Test.YtcmmmlenaahaeaaGreatDoorPShwx18
namespace Go.Proofs.YtcmmmlenaahaeaaGreatDoor.PShw
open Go.RowKit Go.Proofs.YtcmmmlenaahaeaaGreatDoorW.PrintWords Go.Proofs.YtcmmmlenaahaeaaGreatDoorW.PrintLast Go.Proofs.YtcmmmlenaahaeaaGreatDoorW.PrintMore
attribute [local go_sem] max2_int min2_int max_two min_two max_three min_three max_four min_four
set_option linter.unusedVariables false
set_option linter.unusedSimpArgs false
attribute [local go_sem high] eqA24
def complineref19_Of.f (l0:List (S24)):Option (Int × Bool × Int × Bool × Int × Bool × Int × Bool × Int × Bool):=if 0 < (l0.length:Int) then (if 1 < (l0.length:Int) then (if 2 < (l0.length:Int) then (if 3 < (l0.length:Int) then (if 4 < (l0.length:Int) then (some ((rd_T24 l0 0).f0,(rd_T24 l0 0).f1,(rd_T24 l0 1).f0,(rd_T24 l0 1).f1,(rd_T24 l0 2).f0,(rd_T24 l0 2).f1,(rd_T24 l0 3).f0,(rd_T24 l0 3).f1,(rd_T24 l0 4).f0,(rd_T24 l0 4).f1)) else (none)) else (none)) else (none)) else (none)) else (none)
def complineref19_Of.T1:Bool × List (List Nat × List Nat):=(true,[([],[]),([0],[0]),([1],[1]),([],[]),([3],[3]),([4],[4]),([],[]),([6],[6]),([7],[7]),([],[]),([9],[9]),([10],[10]),([],[]),([12],[12]),([13],[13]),([2,5,8,11,14],[2,5,8,11,14]),([15,0,1,2,3,4,5,6,7,8,9,10,11,12,13,14,15],[15])])
def complineref19_Of.B1:List Nat:=[0,1,3,0,8,24,0,64,192,0,512,1536,0,4096,12288,32767,65535]
theorem complineref19_Of.tab1:rtab .any (opsOf Tryz.f57 1)=complineref19_Of.T1:=by kernel_rfl
theorem complineref19_Of.bits1:waitsOk complineref19_Of.T1.2 complineref19_Of.B1=true:=by kernel_rfl
set_option maxHeartbeats 8000000 in
set_option maxRecDepth 100000 in
theorem complineref19_Of.calls (A0:Option Addr)(c0:Nat)(l0:List (S24))(r1:Int)(r2:Bool)(r3:Int)(r4:Bool)(r5:Int)(r6:Bool)(r7:Int)(r8:Bool)(r9:Int)(r10:Bool)(w:World)(hr0:Kd.C k24 w A0 l0.length l0)(hc0:l0.length≤c0)(h:complineref19_Of.f l0=some (r1,r2,r3,r4,r5,r6,r7,r8,r9,r10)) :
  Calls Tryz.prog 57 #[.slice A0 l0.length c0] w fun e w'=>e=.returned (.agg #[.int .u64 r1,.bool r2,.int .u64 r3,.bool r4,.int .u64 r5,.bool r6,.int .u64 r7,.bool r8,.int .u64 r9,.bool r10])∧Below w.heap.size w w':=by
 have hu31:=Tryz.underlying31
 have hu24:=Tryz.underlying24
 have HR0:=Aside0.mk hr0
 have HC0:=Aside0.mk hc0
 clear hr0 hc0
 have HB:=Aside0.mk (Below.refl w.heap.size w)
 have H:(if 0 < (l0.length:Int) then (if 1 < (l0.length:Int) then (if 2 < (l0.length:Int) then (if 3 < (l0.length:Int) then (if 4 < (l0.length:Int) then (some ((rd_T24 l0 0).f0,(rd_T24 l0 0).f1,(rd_T24 l0 1).f0,(rd_T24 l0 1).f1,(rd_T24 l0 2).f0,(rd_T24 l0 2).f1,(rd_T24 l0 3).f0,(rd_T24 l0 3).f1,(rd_T24 l0 4).f0,(rd_T24 l0 4).f1)) else (none)) else (none)) else (none)) else (none)) else (none))=some (r1,r2,r3,r4,r5,r6,r7,r8,r9,r10):=h
 clear h
 by_cases c2:0 < (l0.length:Int)
 ·rw [if_pos c2] at H
  have c2b0:decide (0 < (l0.length:Int))=true:=decide_eq_true c2
  have c2b1:decide (0 < l0.length)=true:=decide_eq_true (by omega)
  clear c2
  by_cases c3:1 < (l0.length:Int)
  ·rw [if_pos c3] at H
   have c3b0:decide (1 < (l0.length:Int))=true:=decide_eq_true c3
   have c3b1:decide (1 < l0.length)=true:=decide_eq_true (by omega)
   clear c3
   by_cases c4:2 < (l0.length:Int)
   ·rw [if_pos c4] at H
    have c4b0:decide (2 < (l0.length:Int))=true:=decide_eq_true c4
    have c4b1:decide (2 < l0.length)=true:=decide_eq_true (by omega)
    clear c4
    by_cases c5:3 < (l0.length:Int)
    ·rw [if_pos c5] at H
     have c5b0:decide (3 < (l0.length:Int))=true:=decide_eq_true c5
     have c5b1:decide (3 < l0.length)=true:=decide_eq_true (by omega)
     clear c5
     by_cases c6:4 < (l0.length:Int)
     ·rw [if_pos c6] at H
      have c6b0:decide (4 < (l0.length:Int))=true:=decide_eq_true c6
      have c6b1:decide (4 < l0.length)=true:=decide_eq_true (by omega)
      clear c6
      simp only [Option.some.injEq,Prod.mk.injEq] at H
      obtain ⟨rfl,rfl,rfl,rfl,rfl,rfl,rfl,rfl,rfl,rfl⟩ :=H
      go_enter Tryz.func57,Tryz.ntmps57
      try go_wp2_with (first | ((with_reducible refine gate_dst (N:=2) rfl ?_); refine box_event ?hg (N:=2) ?hd (cs:=#[.int .u64 0,.bool false,.int .u64 0,.bool false,.int .u64 0,.bool false,.int .u64 0,.bool false,.int .u64 0,.bool false]) (t:=31) ?hr ?_; (case hd=>rfl); (case hg=>rfl); (case hr=>first | (go_simp; done) | (go_simp; rfl)); intro gb278 hg w7 hbox hb; have n0_:=Aside0.mk (below_step (by repeat (first | (with_reducible first | exact HB.out | apply below_alloc | apply pw_below_drewN | apply below_drew1) | exact HB.out)) hb); have n1_:=Aside0.mk (hbox); have n2_:=Aside0.mk ((by rw [hg]; exact (below_size (by repeat (first | (with_reducible first | exact HB.out | apply below_alloc | apply pw_below_drewN | apply below_drew1) | exact HB.out))):w.heap.size≤gb278)); have n3_:=Aside0.mk ((by rw [hg]; exact (below_size (by repeat (first | (with_reducible first | exact HB.out | apply below_alloc | apply pw_below_drewN | apply below_drew1) | exact HB.out))):w.heap.size≤gb278)); clear HB; have HB:=n0_; have BK278:=n1_; have GW278:=n2_; have GE278:=n3_; clear n0_ n1_ n2_ n3_; clear hb hbox hg))
      have n0_:=Aside0.mk (blk_drew BK278.out)
      have n1_:=Aside0.mk (below_drew1 HB.out)
      clear BK278
      clear HB
      have BK278:=n0_
      have HB:=n1_
      clear n0_ n1_
      have p279:0≤(0:Int):=(by omega)
      have q279:0 < (l0.length:Int):=of_decide_eq_true (by first | (with_reducible assumption) | assumption)
      obtain ⟨ad279,e279,hx279_0,hx279_1⟩ :=at_T24 HR0.out 0 p279 q279
      have hw279_1:=hx279_1
      (try rw [show ((0:Int)).toNat=0 from rfl] at hw279_1)
      (try rw [show 0*2=0 from rfl] at hw279_1)
      (try rw [Addr.add_zero'] at hw279_1)
      have hw279_0:=hx279_0
      (try rw [show ((0:Int)).toNat=0 from rfl] at hw279_0)
      (try rw [show 0*2=0 from rfl] at hw279_0)
      (try rw [Addr.add_zero'] at hw279_0)
      cases e279
      have qi279:(0 < l0.length)=True:=eq_true (by omega)
      (try rw [show ((0:Int)).toNat=0 from rfl] at hx279_0)
      (try rw [show 0*2=0 from rfl] at hx279_0)
      (try rw [Addr.add_zero'] at hx279_0)
      (try rw [show ((0:Int)).toNat=0 from rfl] at hx279_1)
      (try rw [show 0*2=0 from rfl] at hx279_1)
      (try rw [Addr.add_zero'] at hx279_1)
      replace hx279_0:=(HB.out.cell (World.block_lt_of_cell? w _ hx279_0)).trans hx279_0
      replace hx279_1:=(HB.out.cell (World.block_lt_of_cell? w _ hx279_1)).trans hx279_1
      replace p279:=eq_true p279
      replace q279:=eq_true q279
      have p280:0≤(1:Int):=(by omega)
      have q280:1 < (l0.length:Int):=of_decide_eq_true (by first | (with_reducible assumption) | assumption)
      obtain ⟨ad280,e280,hx280_0,hx280_1⟩ :=at_T24 HR0.out 1 p280 q280
      have hw280_1:=hx280_1
      (try rw [show ((1:Int)).toNat=1 from rfl] at hw280_1)
      (try rw [show 1*2=2 from rfl] at hw280_1)
      (try simp only [Nat.reduceMul,Nat.reduceEqDiff,Go.Addr.add,↓reduceIte] at hw280_1)
      have hw280_0:=hx280_0
      (try rw [show ((1:Int)).toNat=1 from rfl] at hw280_0)
      (try rw [show 1*2=2 from rfl] at hw280_0)
      (try simp only [Nat.reduceMul,Nat.reduceEqDiff,Go.Addr.add,↓reduceIte] at hw280_0)
      obtain rfl:ad279=ad280:=(by injection e280)
      (try simp only [show (1:Int).toNat=1 from rfl,Nat.reduceMul,Nat.reduceEqDiff,Go.Addr.add,↓reduceIte] at hx280_0)
      (try simp only [show (1:Int).toNat=1 from rfl,Nat.reduceMul,Nat.reduceEqDiff,Go.Addr.add,↓reduceIte] at hx280_1)
      have qi280:(1 < l0.length)=True:=eq_true (by omega)
      (try rw [show ((1:Int)).toNat=1 from rfl] at hx280_0)
      (try rw [show 1*2=2 from rfl] at hx280_0)
      (try rw [show ((1:Int)).toNat=1 from rfl] at hx280_1)
      (try rw [show 1*2=2 from rfl] at hx280_1)
      replace hx280_0:=(HB.out.cell (World.block_lt_of_cell? w _ hx280_0)).trans hx280_0
      replace hx280_1:=(HB.out.cell (World.block_lt_of_cell? w _ hx280_1)).trans hx280_1
      replace p280:=eq_true p280
      replace q280:=eq_true q280
      have p281:0≤(2:Int):=(by omega)
      have q281:2 < (l0.length:Int):=of_decide_eq_true (by first | (with_reducible assumption) | assumption)
      obtain ⟨ad281,e281,hx281_0,hx281_1⟩ :=at_T24 HR0.out 2 p281 q281
      have hw281_1:=hx281_1
      (try rw [show ((2:Int)).toNat=2 from rfl] at hw281_1)
      (try rw [show 2*2=4 from rfl] at hw281_1)
      (try simp only [Nat.reduceMul,Nat.reduceEqDiff,Go.Addr.add,↓reduceIte] at hw281_1)
      have hw281_0:=hx281_0
      (try rw [show ((2:Int)).toNat=2 from rfl] at hw281_0)
      (try rw [show 2*2=4 from rfl] at hw281_0)
      (try simp only [Nat.reduceMul,Nat.reduceEqDiff,Go.Addr.add,↓reduceIte] at hw281_0)
      obtain rfl:ad279=ad281:=(by injection e281)
      (try simp only [show (2:Int).toNat=2 from rfl,Nat.reduceMul,Nat.reduceEqDiff,Go.Addr.add,↓reduceIte] at hx281_0)
      (try simp only [show (2:Int).toNat=2 from rfl,Nat.reduceMul,Nat.reduceEqDiff,Go.Addr.add,↓reduceIte] at hx281_1)
      have qi281:(2 < l0.length)=True:=eq_true (by omega)
      (try rw [show ((2:Int)).toNat=2 from rfl] at hx281_0)
      (try rw [show 2*2=4 from rfl] at hx281_0)
      (try rw [show ((2:Int)).toNat=2 from rfl] at hx281_1)
      (try rw [show 2*2=4 from rfl] at hx281_1)
      replace hx281_0:=(HB.out.cell (World.block_lt_of_cell? w _ hx281_0)).trans hx281_0
      replace hx281_1:=(HB.out.cell (World.block_lt_of_cell? w _ hx281_1)).trans hx281_1
      replace p281:=eq_true p281
      replace q281:=eq_true q281
      have p282:0≤(3:Int):=(by omega)
      have q282:3 < (l0.length:Int):=of_decide_eq_true (by first | (with_reducible assumption) | assumption)
      obtain ⟨ad282,e282,hx282_0,hx282_1⟩ :=at_T24 HR0.out 3 p282 q282
      have hw282_1:=hx282_1
      (try rw [show ((3:Int)).toNat=3 from rfl] at hw282_1)
      (try rw [show 3*2=6 from rfl] at hw282_1)
      (try simp only [Nat.reduceMul,Nat.reduceEqDiff,Go.Addr.add,↓reduceIte] at hw282_1)
      have hw282_0:=hx282_0
      (try rw [show ((3:Int)).toNat=3 from rfl] at hw282_0)
      (try rw [show 3*2=6 from rfl] at hw282_0)
      (try simp only [Nat.reduceMul,Nat.reduceEqDiff,Go.Addr.add,↓reduceIte] at hw282_0)
      obtain rfl:ad279=ad282:=(by injection e282)
      (try simp only [show (3:Int).toNat=3 from rfl,Nat.reduceMul,Nat.reduceEqDiff,Go.Addr.add,↓reduceIte] at hx282_0)
      (try simp only [show (3:Int).toNat=3 from rfl,Nat.reduceMul,Nat.reduceEqDiff,Go.Addr.add,↓reduceIte] at hx282_1)
      have qi282:(3 < l0.length)=True:=eq_true (by omega)
      (try rw [show ((3:Int)).toNat=3 from rfl] at hx282_0)
      (try rw [show 3*2=6 from rfl] at hx282_0)
      (try rw [show ((3:Int)).toNat=3 from rfl] at hx282_1)
      (try rw [show 3*2=6 from rfl] at hx282_1)
      replace hx282_0:=(HB.out.cell (World.block_lt_of_cell? w _ hx282_0)).trans hx282_0
      replace hx282_1:=(HB.out.cell (World.block_lt_of_cell? w _ hx282_1)).trans hx282_1
      replace p282:=eq_true p282
      replace q282:=eq_true q282
      have p283:0≤(4:Int):=(by omega)
      have q283:4 < (l0.length:Int):=of_decide_eq_true (by first | (with_reducible assumption) | assumption)
      obtain ⟨ad283,e283,hx283_0,hx283_1⟩ :=at_T24 HR0.out 4 p283 q283
      have hw283_1:=hx283_1
      (try rw [show ((4:Int)).toNat=4 from rfl] at hw283_1)
      (try rw [show 4*2=8 from rfl] at hw283_1)
      (try simp only [Nat.reduceMul,Nat.reduceEqDiff,Go.Addr.add,↓reduceIte] at hw283_1)
      have hw283_0:=hx283_0
      (try rw [show ((4:Int)).toNat=4 from rfl] at hw283_0)
      (try rw [show 4*2=8 from rfl] at hw283_0)
      (try simp only [Nat.reduceMul,Nat.reduceEqDiff,Go.Addr.add,↓reduceIte] at hw283_0)
      obtain rfl:ad279=ad283:=(by injection e283)
      (try simp only [show (4:Int).toNat=4 from rfl,Nat.reduceMul,Nat.reduceEqDiff,Go.Addr.add,↓reduceIte] at hx283_0)
      (try simp only [show (4:Int).toNat=4 from rfl,Nat.reduceMul,Nat.reduceEqDiff,Go.Addr.add,↓reduceIte] at hx283_1)
      have qi283:(4 < l0.length)=True:=eq_true (by omega)
      (try rw [show ((4:Int)).toNat=4 from rfl] at hx283_0)
      (try rw [show 4*2=8 from rfl] at hx283_0)
      (try rw [show ((4:Int)).toNat=4 from rfl] at hx283_1)
      (try rw [show 4*2=8 from rfl] at hx283_1)
      replace hx283_0:=(HB.out.cell (World.block_lt_of_cell? w _ hx283_0)).trans hx283_0
      replace hx283_1:=(HB.out.cell (World.block_lt_of_cell? w _ hx283_1)).trans hx283_1
      replace p283:=eq_true p283
      replace q283:=eq_true q283
      refine start_ (n:=17) (S:=fun w'=>w'.cell? ad279=some (.int .u64 ((rd_T24 l0 0).f0))∧w'.cell? ⟨ad279.block,ad279.off+1,none⟩=some (.bool ((rd_T24 l0 0).f1))∧w'.cell? ⟨ad279.block,ad279.off+2,none⟩=some (.int .u64 ((rd_T24 l0 1).f0))∧w'.cell? ⟨ad279.block,ad279.off+2+1,none⟩=some (.bool ((rd_T24 l0 1).f1))∧w'.cell? ⟨ad279.block,ad279.off+4,none⟩=some (.int .u64 ((rd_T24 l0 2).f0))∧w'.cell? ⟨ad279.block,ad279.off+4+1,none⟩=some (.bool ((rd_T24 l0 2).f1))∧w'.cell? ⟨ad279.block,ad279.off+6,none⟩=some (.int .u64 ((rd_T24 l0 3).f0))∧w'.cell? ⟨ad279.block,ad279.off+6+1,none⟩=some (.bool ((rd_T24 l0 3).f1))∧w'.cell? ⟨ad279.block,ad279.off+8,none⟩=some (.int .u64 ((rd_T24 l0 4).f0))∧w'.cell? ⟨ad279.block,ad279.off+8+1,none⟩=some (.bool ((rd_T24 l0 4).f1))) (ds:=[]) #[F_,F_,F_,F_,F_,F_,F_,F_,F_,F_,F_,F_,F_,F_,F_,F_,F_] (by kernel_rfl) rfl rfl ⟨((HB.out.cell (World.block_lt_of_cell? w _ hw279_0)).trans hw279_0),((HB.out.cell (World.block_lt_of_cell? w _ hw279_1)).trans hw279_1),((HB.out.cell (World.block_lt_of_cell? w _ hw280_0)).trans hw280_0),((HB.out.cell (World.block_lt_of_cell? w _ hw280_1)).trans hw280_1),((HB.out.cell (World.block_lt_of_cell? w _ hw281_0)).trans hw281_0),((HB.out.cell (World.block_lt_of_cell? w _ hw281_1)).trans hw281_1),((HB.out.cell (World.block_lt_of_cell? w _ hw282_0)).trans hw282_0),((HB.out.cell (World.block_lt_of_cell? w _ hw282_1)).trans hw282_1),((HB.out.cell (World.block_lt_of_cell? w _ hw283_0)).trans hw283_0),((HB.out.cell (World.block_lt_of_cell? w _ hw283_1)).trans hw283_1)⟩ (fun hHeld=>?_); refine with_tabW complineref19_Of.tab1 complineref19_Of.bits1 (fun HT_ HW_=>?_)
      generalize w7.drew=w8 at BK278 HB hx279_0 hx279_1 hx280_0 hx280_1 hx281_0 hx281_1 hx282_0 hx282_1 hx283_0 hx283_1 hHeld ⊢
      refine pure_ (i:=0) (N:=some 3) (v:=?_) (a':=?_) #[T_,F_,F_,F_,F_,F_,F_,F_,F_,F_,F_,F_,F_,F_,F_,F_,F_] rfl rfl (any_of HT_.out (by kernel_rfl)) (fun _ _ _ h=>h) (Or.inl ⟨by rfl,?_⟩) ?_ ?_
      rotate_left
      ·intro w'
       go_simp
       with_reducible rfl
      rotate_left
      ·simp only [Act.put,List.setIfInBounds_toArray,List.set_cons_zero,List.set_cons_succ,i64_w,i32_w]
       rfl
      refine pure_ (i:=1) (N:=some 4) (v:=?_) (a':=?_) #[T_,T_,F_,F_,F_,F_,F_,F_,F_,F_,F_,F_,F_,F_,F_,F_,F_] rfl rfl (any_of HT_.out (by kernel_rfl)) (fun _ _ _ h=>h) (Or.inl ⟨by rfl,?_⟩) ?_ ?_
      rotate_left
      ·intro w'
       go_simp
       with_reducible rfl
      rotate_left
      ·simp only [Act.put,List.setIfInBounds_toArray,List.set_cons_zero,List.set_cons_succ,i64_w,i32_w]
       rfl
      refine pure_ (i:=3) (N:=some 6) (v:=?_) (a':=?_) #[T_,T_,F_,T_,F_,F_,F_,F_,F_,F_,F_,F_,F_,F_,F_,F_,F_] rfl rfl (any_of HT_.out (by kernel_rfl)) (fun _ _ _ h=>h) (Or.inl ⟨by rfl,?_⟩) ?_ ?_
      rotate_left
      ·intro w'
       go_simp
       with_reducible rfl
      rotate_left
      ·simp only [Act.put,List.setIfInBounds_toArray,List.set_cons_zero,List.set_cons_succ,i64_w,i32_w]
       rfl
      refine pure_ (i:=4) (N:=some 7) (v:=?_) (a':=?_) #[T_,T_,F_,T_,T_,F_,F_,F_,F_,F_,F_,F_,F_,F_,F_,F_,F_] rfl rfl (any_of HT_.out (by kernel_rfl)) (fun _ _ _ h=>h) (Or.inl ⟨by rfl,?_⟩) ?_ ?_
      rotate_left
      ·intro w'
       go_simp
       with_reducible rfl
      rotate_left
      ·simp only [Act.put,List.setIfInBounds_toArray,List.set_cons_zero,List.set_cons_succ,i64_w,i32_w]
       rfl
      refine pure_ (i:=6) (N:=some 9) (v:=?_) (a':=?_) #[T_,T_,F_,T_,T_,F_,T_,F_,F_,F_,F_,F_,F_,F_,F_,F_,F_] rfl rfl (any_of HT_.out (by kernel_rfl)) (fun _ _ _ h=>h) (Or.inl ⟨by rfl,?_⟩) ?_ ?_
      rotate_left
      ·intro w'
       go_simp
       with_reducible rfl
      rotate_left
      ·simp only [Act.put,List.setIfInBounds_toArray,List.set_cons_zero,List.set_cons_succ,i64_w,i32_w]
       rfl
      refine pure_ (i:=7) (N:=some 10) (v:=?_) (a':=?_) #[T_,T_,F_,T_,T_,F_,T_,T_,F_,F_,F_,F_,F_,F_,F_,F_,F_] rfl rfl (any_of HT_.out (by kernel_rfl)) (fun _ _ _ h=>h) (Or.inl ⟨by rfl,?_⟩) ?_ ?_
      rotate_left
      ·intro w'
       go_simp
       with_reducible rfl
      rotate_left
      ·simp only [Act.put,List.setIfInBounds_toArray,List.set_cons_zero,List.set_cons_succ,i64_w,i32_w]
       rfl
      refine pure_ (i:=9) (N:=some 12) (v:=?_) (a':=?_) #[T_,T_,F_,T_,T_,F_,T_,T_,F_,T_,F_,F_,F_,F_,F_,F_,F_] rfl rfl (any_of HT_.out (by kernel_rfl)) (fun _ _ _ h=>h) (Or.inl ⟨by rfl,?_⟩) ?_ ?_
      rotate_left
      ·intro w'
       go_simp
       with_reducible rfl
      rotate_left
      ·simp only [Act.put,List.setIfInBounds_toArray,List.set_cons_zero,List.set_cons_succ,i64_w,i32_w]
       rfl
      refine pure_ (i:=10) (N:=some 13) (v:=?_) (a':=?_) #[T_,T_,F_,T_,T_,F_,T_,T_,F_,T_,T_,F_,F_,F_,F_,F_,F_] rfl rfl (any_of HT_.out (by kernel_rfl)) (fun _ _ _ h=>h) (Or.inl ⟨by rfl,?_⟩) ?_ ?_
      rotate_left
      ·intro w'
       go_simp
       with_reducible rfl
      rotate_left
      ·simp only [Act.put,List.setIfInBounds_toArray,List.set_cons_zero,List.set_cons_succ,i64_w,i32_w]
       rfl
      refine pure_ (i:=12) (N:=some 15) (v:=?_) (a':=?_) #[T_,T_,F_,T_,T_,F_,T_,T_,F_,T_,T_,F_,T_,F_,F_,F_,F_] rfl rfl (any_of HT_.out (by kernel_rfl)) (fun _ _ _ h=>h) (Or.inl ⟨by rfl,?_⟩) ?_ ?_
      rotate_left
      ·intro w'
       go_simp
       with_reducible rfl
      rotate_left
      ·simp only [Act.put,List.setIfInBounds_toArray,List.set_cons_zero,List.set_cons_succ,i64_w,i32_w]
       rfl
      refine pure_ (i:=13) (N:=some 16) (v:=?_) (a':=?_) #[T_,T_,F_,T_,T_,F_,T_,T_,F_,T_,T_,F_,T_,T_,F_,F_,F_] rfl rfl (any_of HT_.out (by kernel_rfl)) (fun _ _ _ h=>h) (Or.inl ⟨by rfl,?_⟩) ?_ ?_
      rotate_left
      ·intro w'
       go_simp
       with_reducible rfl
      rotate_left
      ·simp only [Act.put,List.setIfInBounds_toArray,List.set_cons_zero,List.set_cons_succ,i64_w,i32_w]
       rfl
      refine take_ (i:=2) (N:=some 5) (v:=?_) (a':=?_) #[T_,T_,T_,T_,T_,F_,T_,T_,F_,T_,T_,F_,T_,T_,F_,F_,F_] rfl rfl (take_ofW HT_.out HW_.out (by kernel_rfl)) (fun _ _ _ h=>h) (Or.inl ⟨by rfl,?_⟩) hHeld ?_ ?_
      rotate_left
      ·rintro w' ⟨s0,s1,s2,s3,s4,s5,s6,s7,s8,s9⟩
       go_simp
       with_reducible rfl
      rotate_left
      ·simp only [Act.put,List.setIfInBounds_toArray,List.set_cons_zero,List.set_cons_succ,i64_w,i32_w]
       rfl
      refine take_ (i:=5) (N:=some 8) (v:=?_) (a':=?_) #[T_,T_,T_,T_,T_,T_,T_,T_,F_,T_,T_,F_,T_,T_,F_,F_,F_] rfl rfl (take_ofW HT_.out HW_.out (by kernel_rfl)) (fun _ _ _ h=>h) (Or.inl ⟨by rfl,?_⟩) hHeld ?_ ?_
      rotate_left
      ·rintro w' ⟨s0,s1,s2,s3,s4,s5,s6,s7,s8,s9⟩
       go_simp
       with_reducible rfl
      rotate_left
      ·simp only [Act.put,List.setIfInBounds_toArray,List.set_cons_zero,List.set_cons_succ,i64_w,i32_w]
       rfl
      refine take_ (i:=8) (N:=some 11) (v:=?_) (a':=?_) #[T_,T_,T_,T_,T_,T_,T_,T_,T_,T_,T_,F_,T_,T_,F_,F_,F_] rfl rfl (take_ofW HT_.out HW_.out (by kernel_rfl)) (fun _ _ _ h=>h) (Or.inl ⟨by rfl,?_⟩) hHeld ?_ ?_
      rotate_left
      ·rintro w' ⟨s0,s1,s2,s3,s4,s5,s6,s7,s8,s9⟩
       go_simp
       with_reducible rfl
      rotate_left
      ·simp only [Act.put,List.setIfInBounds_toArray,List.set_cons_zero,List.set_cons_succ,i64_w,i32_w]
       rfl
      refine take_ (i:=11) (N:=some 14) (v:=?_) (a':=?_) #[T_,T_,T_,T_,T_,T_,T_,T_,T_,T_,T_,T_,T_,T_,F_,F_,F_] rfl rfl (take_ofW HT_.out HW_.out (by kernel_rfl)) (fun _ _ _ h=>h) (Or.inl ⟨by rfl,?_⟩) hHeld ?_ ?_
      rotate_left
      ·rintro w' ⟨s0,s1,s2,s3,s4,s5,s6,s7,s8,s9⟩
       go_simp
       with_reducible rfl
      rotate_left
      ·simp only [Act.put,List.setIfInBounds_toArray,List.set_cons_zero,List.set_cons_succ,i64_w,i32_w]
       rfl
      refine take_ (i:=14) (N:=some 17) (v:=?_) (a':=?_) #[T_,T_,T_,T_,T_,T_,T_,T_,T_,T_,T_,T_,T_,T_,T_,F_,F_] rfl rfl (take_ofW HT_.out HW_.out (by kernel_rfl)) (fun _ _ _ h=>h) (Or.inl ⟨by rfl,?_⟩) hHeld ?_ ?_
      rotate_left
      ·rintro w' ⟨s0,s1,s2,s3,s4,s5,s6,s7,s8,s9⟩
       go_simp
       with_reducible rfl
      rotate_left
      ·simp only [Act.put,List.setIfInBounds_toArray,List.set_cons_zero,List.set_cons_succ,i64_w,i32_w]
       rfl
      refine pure_ (i:=15) (N:=some 18) (v:=?_) (a':=?_) #[T_,T_,T_,T_,T_,T_,T_,T_,T_,T_,T_,T_,T_,T_,T_,T_,F_] rfl rfl (any_of HT_.out (by kernel_rfl)) (fun _ _ _ h=>h) (Or.inl ⟨by rfl,?_⟩) ?_ ?_
      rotate_left
      ·intro w'
       go_simp
       with_reducible rfl
      rotate_left
      ·simp only [Act.put,List.setIfInBounds_toArray,List.set_cons_zero,List.set_cons_succ,i64_w,i32_w]
       rfl
      refine one_ (i:=16) (N:=none) #[T_,T_,T_,T_,T_,T_,T_,T_,T_,T_,T_,T_,T_,T_,T_,T_,T_] rfl rfl (one_of HT_.out (by kernel_rfl)) (by decide) (fun K hK=>?_)
      have hs9:w8.cell? ⟨gb278,0,none⟩=some (.int .u64 0):=(blk_cell BK278.out 0).trans rfl
      have hfs9:=blk_frozen BK278.out 0
      have hs10:w8.cell? ⟨gb278,1,none⟩=some (.bool false):=(blk_cell BK278.out 1).trans rfl
      have hfs10:=blk_frozen BK278.out 1
      have hs11:w8.cell? ⟨gb278,2,none⟩=some (.int .u64 0):=(blk_cell BK278.out 2).trans rfl
      have hfs11:=blk_frozen BK278.out 2
      have hs12:w8.cell? ⟨gb278,3,none⟩=some (.bool false):=(blk_cell BK278.out 3).trans rfl
      have hfs12:=blk_frozen BK278.out 3
      have hs13:w8.cell? ⟨gb278,4,none⟩=some (.int .u64 0):=(blk_cell BK278.out 4).trans rfl
      have hfs13:=blk_frozen BK278.out 4
      have hs14:w8.cell? ⟨gb278,5,none⟩=some (.bool false):=(blk_cell BK278.out 5).trans rfl
      have hfs14:=blk_frozen BK278.out 5
      have hs15:w8.cell? ⟨gb278,6,none⟩=some (.int .u64 0):=(blk_cell BK278.out 6).trans rfl
      have hfs15:=blk_frozen BK278.out 6
      have hs16:w8.cell? ⟨gb278,7,none⟩=some (.bool false):=(blk_cell BK278.out 7).trans rfl
      have hfs16:=blk_frozen BK278.out 7
      have hs17:w8.cell? ⟨gb278,8,none⟩=some (.int .u64 0):=(blk_cell BK278.out 8).trans rfl
      have hfs17:=blk_frozen BK278.out 8
      have hs18:w8.cell? ⟨gb278,9,none⟩=some (.bool false):=(blk_cell BK278.out 9).trans rfl
      have hfs18:=blk_frozen BK278.out 9
      refine skip_ (w1:=?_) (by rfl) rfl ?_ ?_
      rotate_left
      ·go_simp
       rfl
      have Nhw279_0:=Nat.ne_of_lt (Nat.lt_of_lt_of_le (World.block_lt_of_cell? _ _ hw279_0) GW278.out)
      have Nhw279_1:=Nat.ne_of_lt (Nat.lt_of_lt_of_le (World.block_lt_of_cell? _ _ hw279_1) GW278.out)
      have Nhw280_0:=Nat.ne_of_lt (Nat.lt_of_lt_of_le (World.block_lt_of_cell? _ _ hw280_0) GW278.out)
      have Nhw280_1:=Nat.ne_of_lt (Nat.lt_of_lt_of_le (World.block_lt_of_cell? _ _ hw280_1) GW278.out)
      have Nhw281_0:=Nat.ne_of_lt (Nat.lt_of_lt_of_le (World.block_lt_of_cell? _ _ hw281_0) GW278.out)
      have Nhw281_1:=Nat.ne_of_lt (Nat.lt_of_lt_of_le (World.block_lt_of_cell? _ _ hw281_1) GW278.out)
      have Nhw282_0:=Nat.ne_of_lt (Nat.lt_of_lt_of_le (World.block_lt_of_cell? _ _ hw282_0) GW278.out)
      have Nhw282_1:=Nat.ne_of_lt (Nat.lt_of_lt_of_le (World.block_lt_of_cell? _ _ hw282_1) GW278.out)
      have Nhw283_0:=Nat.ne_of_lt (Nat.lt_of_lt_of_le (World.block_lt_of_cell? _ _ hw283_0) GW278.out)
      have Nhw283_1:=Nat.ne_of_lt (Nat.lt_of_lt_of_le (World.block_lt_of_cell? _ _ hw283_1) GW278.out)
      refine hK.out _ _ ⟨((cell_far (p:=⟨gb278,_,none⟩) Nhw279_0 _).trans (((cell_far (p:=⟨gb278,_,none⟩) Nhw279_0 _).trans (((cell_far (p:=⟨gb278,_,none⟩) Nhw279_0 _).trans (((cell_far (p:=⟨gb278,_,none⟩) Nhw279_0 _).trans (((cell_far (p:=⟨gb278,_,none⟩) Nhw279_0 _).trans (((cell_far (p:=⟨gb278,_,none⟩) Nhw279_0 _).trans (((cell_far (p:=⟨gb278,_,none⟩) Nhw279_0 _).trans (((cell_far (p:=⟨gb278,_,none⟩) Nhw279_0 _).trans (((cell_far (p:=⟨gb278,_,none⟩) Nhw279_0 _).trans (((cell_far (p:=⟨gb278,_,none⟩) Nhw279_0 _).trans (hHeld.1)))))))))))))))))))),((cell_far (p:=⟨gb278,_,none⟩) Nhw279_1 _).trans (((cell_far (p:=⟨gb278,_,none⟩) Nhw279_1 _).trans (((cell_far (p:=⟨gb278,_,none⟩) Nhw279_1 _).trans (((cell_far (p:=⟨gb278,_,none⟩) Nhw279_1 _).trans (((cell_far (p:=⟨gb278,_,none⟩) Nhw279_1 _).trans (((cell_far (p:=⟨gb278,_,none⟩) Nhw279_1 _).trans (((cell_far (p:=⟨gb278,_,none⟩) Nhw279_1 _).trans (((cell_far (p:=⟨gb278,_,none⟩) Nhw279_1 _).trans (((cell_far (p:=⟨gb278,_,none⟩) Nhw279_1 _).trans (((cell_far (p:=⟨gb278,_,none⟩) Nhw279_1 _).trans (hHeld.2.1)))))))))))))))))))),((cell_far (p:=⟨gb278,_,none⟩) Nhw280_0 _).trans (((cell_far (p:=⟨gb278,_,none⟩) Nhw280_0 _).trans (((cell_far (p:=⟨gb278,_,none⟩) Nhw280_0 _).trans (((cell_far (p:=⟨gb278,_,none⟩) Nhw280_0 _).trans (((cell_far (p:=⟨gb278,_,none⟩) Nhw280_0 _).trans (((cell_far (p:=⟨gb278,_,none⟩) Nhw280_0 _).trans (((cell_far (p:=⟨gb278,_,none⟩) Nhw280_0 _).trans (((cell_far (p:=⟨gb278,_,none⟩) Nhw280_0 _).trans (((cell_far (p:=⟨gb278,_,none⟩) Nhw280_0 _).trans (((cell_far (p:=⟨gb278,_,none⟩) Nhw280_0 _).trans (hHeld.2.2.1)))))))))))))))))))),((cell_far (p:=⟨gb278,_,none⟩) Nhw280_1 _).trans (((cell_far (p:=⟨gb278,_,none⟩) Nhw280_1 _).trans (((cell_far (p:=⟨gb278,_,none⟩) Nhw280_1 _).trans (((cell_far (p:=⟨gb278,_,none⟩) Nhw280_1 _).trans (((cell_far (p:=⟨gb278,_,none⟩) Nhw280_1 _).trans (((cell_far (p:=⟨gb278,_,none⟩) Nhw280_1 _).trans (((cell_far (p:=⟨gb278,_,none⟩) Nhw280_1 _).trans (((cell_far (p:=⟨gb278,_,none⟩) Nhw280_1 _).trans (((cell_far (p:=⟨gb278,_,none⟩) Nhw280_1 _).trans (((cell_far (p:=⟨gb278,_,none⟩) Nhw280_1 _).trans (hHeld.2.2.2.1)))))))))))))))))))),((cell_far (p:=⟨gb278,_,none⟩) Nhw281_0 _).trans (((cell_far (p:=⟨gb278,_,none⟩) Nhw281_0 _).trans (((cell_far (p:=⟨gb278,_,none⟩) Nhw281_0 _).trans (((cell_far (p:=⟨gb278,_,none⟩) Nhw281_0 _).trans (((cell_far (p:=⟨gb278,_,none⟩) Nhw281_0 _).trans (((cell_far (p:=⟨gb278,_,none⟩) Nhw281_0 _).trans (((cell_far (p:=⟨gb278,_,none⟩) Nhw281_0 _).trans (((cell_far (p:=⟨gb278,_,none⟩) Nhw281_0 _).trans (((cell_far (p:=⟨gb278,_,none⟩) Nhw281_0 _).trans (((cell_far (p:=⟨gb278,_,none⟩) Nhw281_0 _).trans (hHeld.2.2.2.2.1)))))))))))))))))))),((cell_far (p:=⟨gb278,_,none⟩) Nhw281_1 _).trans (((cell_far (p:=⟨gb278,_,none⟩) Nhw281_1 _).trans (((cell_far (p:=⟨gb278,_,none⟩) Nhw281_1 _).trans (((cell_far (p:=⟨gb278,_,none⟩) Nhw281_1 _).trans (((cell_far (p:=⟨gb278,_,none⟩) Nhw281_1 _).trans (((cell_far (p:=⟨gb278,_,none⟩) Nhw281_1 _).trans (((cell_far (p:=⟨gb278,_,none⟩) Nhw281_1 _).trans (((cell_far (p:=⟨gb278,_,none⟩) Nhw281_1 _).trans (((cell_far (p:=⟨gb278,_,none⟩) Nhw281_1 _).trans (((cell_far (p:=⟨gb278,_,none⟩) Nhw281_1 _).trans (hHeld.2.2.2.2.2.1)))))))))))))))))))),((cell_far (p:=⟨gb278,_,none⟩) Nhw282_0 _).trans (((cell_far (p:=⟨gb278,_,none⟩) Nhw282_0 _).trans (((cell_far (p:=⟨gb278,_,none⟩) Nhw282_0 _).trans (((cell_far (p:=⟨gb278,_,none⟩) Nhw282_0 _).trans (((cell_far (p:=⟨gb278,_,none⟩) Nhw282_0 _).trans (((cell_far (p:=⟨gb278,_,none⟩) Nhw282_0 _).trans (((cell_far (p:=⟨gb278,_,none⟩) Nhw282_0 _).trans (((cell_far (p:=⟨gb278,_,none⟩) Nhw282_0 _).trans (((cell_far (p:=⟨gb278,_,none⟩) Nhw282_0 _).trans (((cell_far (p:=⟨gb278,_,none⟩) Nhw282_0 _).trans (hHeld.2.2.2.2.2.2.1)))))))))))))))))))),((cell_far (p:=⟨gb278,_,none⟩) Nhw282_1 _).trans (((cell_far (p:=⟨gb278,_,none⟩) Nhw282_1 _).trans (((cell_far (p:=⟨gb278,_,none⟩) Nhw282_1 _).trans (((cell_far (p:=⟨gb278,_,none⟩) Nhw282_1 _).trans (((cell_far (p:=⟨gb278,_,none⟩) Nhw282_1 _).trans (((cell_far (p:=⟨gb278,_,none⟩) Nhw282_1 _).trans (((cell_far (p:=⟨gb278,_,none⟩) Nhw282_1 _).trans (((cell_far (p:=⟨gb278,_,none⟩) Nhw282_1 _).trans (((cell_far (p:=⟨gb278,_,none⟩) Nhw282_1 _).trans (((cell_far (p:=⟨gb278,_,none⟩) Nhw282_1 _).trans (hHeld.2.2.2.2.2.2.2.1)))))))))))))))))))),((cell_far (p:=⟨gb278,_,none⟩) Nhw283_0 _).trans (((cell_far (p:=⟨gb278,_,none⟩) Nhw283_0 _).trans (((cell_far (p:=⟨gb278,_,none⟩) Nhw283_0 _).trans (((cell_far (p:=⟨gb278,_,none⟩) Nhw283_0 _).trans (((cell_far (p:=⟨gb278,_,none⟩) Nhw283_0 _).trans (((cell_far (p:=⟨gb278,_,none⟩) Nhw283_0 _).trans (((cell_far (p:=⟨gb278,_,none⟩) Nhw283_0 _).trans (((cell_far (p:=⟨gb278,_,none⟩) Nhw283_0 _).trans (((cell_far (p:=⟨gb278,_,none⟩) Nhw283_0 _).trans (((cell_far (p:=⟨gb278,_,none⟩) Nhw283_0 _).trans (hHeld.2.2.2.2.2.2.2.2.1)))))))))))))))))))),((cell_far (p:=⟨gb278,_,none⟩) Nhw283_1 _).trans (((cell_far (p:=⟨gb278,_,none⟩) Nhw283_1 _).trans (((cell_far (p:=⟨gb278,_,none⟩) Nhw283_1 _).trans (((cell_far (p:=⟨gb278,_,none⟩) Nhw283_1 _).trans (((cell_far (p:=⟨gb278,_,none⟩) Nhw283_1 _).trans (((cell_far (p:=⟨gb278,_,none⟩) Nhw283_1 _).trans (((cell_far (p:=⟨gb278,_,none⟩) Nhw283_1 _).trans (((cell_far (p:=⟨gb278,_,none⟩) Nhw283_1 _).trans (((cell_far (p:=⟨gb278,_,none⟩) Nhw283_1 _).trans (((cell_far (p:=⟨gb278,_,none⟩) Nhw283_1 _).trans (hHeld.2.2.2.2.2.2.2.2.2))))))))))))))))))))⟩ (fun hHeld=>?_)
      clear hK K
      refine done_ (done_of HT_.out (by kernel_rfl)) ?_
      try go_wp2
      refine bodyPost_ret (results_cell_row rfl _ _ gb278 31 #[.int .u64 ((rd_T24 l0 0).f0),.bool ((rd_T24 l0 0).f1),.int .u64 ((rd_T24 l0 1).f0),.bool ((rd_T24 l0 1).f1),.int .u64 ((rd_T24 l0 2).f0),.bool ((rd_T24 l0 2).f1),.int .u64 ((rd_T24 l0 3).f0),.bool ((rd_T24 l0 3).f1),.int .u64 ((rd_T24 l0 4).f0),.bool ((rd_T24 l0 4).f1)] (0,0) _ rfl (by (with_reducible repeat (first | refine blk_drewN ?_ _ | refine blk_drew ?_ | refine blk_alloc ?_ _)); refine blk_put (cs:=#[.int .u64 ((rd_T24 l0 0).f0),.bool ((rd_T24 l0 0).f1),.int .u64 ((rd_T24 l0 1).f0),.bool ((rd_T24 l0 1).f1),.int .u64 ((rd_T24 l0 2).f0),.bool ((rd_T24 l0 2).f1),.int .u64 ((rd_T24 l0 3).f0),.bool ((rd_T24 l0 3).f1),.int .u64 ((rd_T24 l0 4).f0),.bool false]) ?_ 9 _ rfl; (with_reducible repeat (first | refine blk_drewN ?_ _ | refine blk_drew ?_ | refine blk_alloc ?_ _)); refine blk_put (cs:=#[.int .u64 ((rd_T24 l0 0).f0),.bool ((rd_T24 l0 0).f1),.int .u64 ((rd_T24 l0 1).f0),.bool ((rd_T24 l0 1).f1),.int .u64 ((rd_T24 l0 2).f0),.bool ((rd_T24 l0 2).f1),.int .u64 ((rd_T24 l0 3).f0),.bool ((rd_T24 l0 3).f1),.int .u64 0,.bool false]) ?_ 8 _ rfl; (with_reducible repeat (first | refine blk_drewN ?_ _ | refine blk_drew ?_ | refine blk_alloc ?_ _)); refine blk_put (cs:=#[.int .u64 ((rd_T24 l0 0).f0),.bool ((rd_T24 l0 0).f1),.int .u64 ((rd_T24 l0 1).f0),.bool ((rd_T24 l0 1).f1),.int .u64 ((rd_T24 l0 2).f0),.bool ((rd_T24 l0 2).f1),.int .u64 ((rd_T24 l0 3).f0),.bool false,.int .u64 0,.bool false]) ?_ 7 _ rfl; (with_reducible repeat (first | refine blk_drewN ?_ _ | refine blk_drew ?_ | refine blk_alloc ?_ _)); refine blk_put (cs:=#[.int .u64 ((rd_T24 l0 0).f0),.bool ((rd_T24 l0 0).f1),.int .u64 ((rd_T24 l0 1).f0),.bool ((rd_T24 l0 1).f1),.int .u64 ((rd_T24 l0 2).f0),.bool ((rd_T24 l0 2).f1),.int .u64 0,.bool false,.int .u64 0,.bool false]) ?_ 6 _ rfl; (with_reducible repeat (first | refine blk_drewN ?_ _ | refine blk_drew ?_ | refine blk_alloc ?_ _)); refine blk_put (cs:=#[.int .u64 ((rd_T24 l0 0).f0),.bool ((rd_T24 l0 0).f1),.int .u64 ((rd_T24 l0 1).f0),.bool ((rd_T24 l0 1).f1),.int .u64 ((rd_T24 l0 2).f0),.bool false,.int .u64 0,.bool false,.int .u64 0,.bool false]) ?_ 5 _ rfl; (with_reducible repeat (first | refine blk_drewN ?_ _ | refine blk_drew ?_ | refine blk_alloc ?_ _)); refine blk_put (cs:=#[.int .u64 ((rd_T24 l0 0).f0),.bool ((rd_T24 l0 0).f1),.int .u64 ((rd_T24 l0 1).f0),.bool ((rd_T24 l0 1).f1),.int .u64 0,.bool false,.int .u64 0,.bool false,.int .u64 0,.bool false]) ?_ 4 _ rfl; (with_reducible repeat (first | refine blk_drewN ?_ _ | refine blk_drew ?_ | refine blk_alloc ?_ _)); refine blk_put (cs:=#[.int .u64 ((rd_T24 l0 0).f0),.bool ((rd_T24 l0 0).f1),.int .u64 ((rd_T24 l0 1).f0),.bool false,.int .u64 0,.bool false,.int .u64 0,.bool false,.int .u64 0,.bool false]) ?_ 3 _ rfl; (with_reducible repeat (first | refine blk_drewN ?_ _ | refine blk_drew ?_ | refine blk_alloc ?_ _)); refine blk_put (cs:=#[.int .u64 ((rd_T24 l0 0).f0),.bool ((rd_T24 l0 0).f1),.int .u64 0,.bool false,.int .u64 0,.bool false,.int .u64 0,.bool false,.int .u64 0,.bool false]) ?_ 2 _ rfl; (with_reducible repeat (first | refine blk_drewN ?_ _ | refine blk_drew ?_ | refine blk_alloc ?_ _)); refine blk_put (cs:=#[.int .u64 ((rd_T24 l0 0).f0),.bool false,.int .u64 0,.bool false,.int .u64 0,.bool false,.int .u64 0,.bool false,.int .u64 0,.bool false]) ?_ 1 _ rfl; (with_reducible repeat (first | refine blk_drewN ?_ _ | refine blk_drew ?_ | refine blk_alloc ?_ _)); refine blk_put (cs:=#[.int .u64 0,.bool false,.int .u64 0,.bool false,.int .u64 0,.bool false,.int .u64 0,.bool false,.int .u64 0,.bool false]) ?_ 0 _ rfl; (with_reducible repeat (first | refine blk_drewN ?_ _ | refine blk_drew ?_ | refine blk_alloc ?_ _)); exact BK278.out) Tryz.underlying31 rfl (by kernel_rfl)) rfl ?_
      exact ⟨by first | rfl | (simp [errW_none,errW_some] <;> rfl) | (simp [*,errW_none,errW_some] <;> rfl),by repeat (first | (with_reducible first | exact HB.out | apply below_alloc | apply pw_below_drewN | apply below_drew1 | refine below_set ?_ GE278.out) | exact HB.out)⟩
     ·rw [if_neg c6] at H
      exact absurd H (by simp)
    ·rw [if_neg c5] at H
     exact absurd H (by simp)
   ·rw [if_neg c4] at H
    exact absurd H (by simp)
  ·rw [if_neg c3] at H
   exact absurd H (by simp)
 ·rw [if_neg c2] at H
  exact absurd H (by simp)
def complineref19_Parse.l0:Nat→List ByteArray→List (S24)→Int→Option (Int × Bool × Int × Bool × Int × Bool × Int × Bool × Int × Bool × Int × Int)
 | 0,_,_,_=>none
 | k+1,x5,x7,x8=>if x8 < 5 then (if 0≤x8 then (if x8 < (x5.length:Int) then ((complineref18_Parse.f k (rdOf ByteArray.empty x5 x8) x8).bind fun bt290=>(if bt290.2.2=0 then (if x7.length < 8796093022208 then (complineref19_Parse.l0 k x5 (x7 ++ [(⟨bt290.1,bt290.2.1⟩:S24)]) (wrap64 (x8+1))) else (none)) else (some (0,false,0,false,0,false,0,false,0,false,wrap64 (x8+1),bt290.2.2)))) else (none)) else (none)) else ((complineref19_Of.f x7).bind fun bt297=>(some (bt297.1,bt297.2.1,bt297.2.2.1,bt297.2.2.2.1,bt297.2.2.2.2.1,bt297.2.2.2.2.2.1,bt297.2.2.2.2.2.2.1,bt297.2.2.2.2.2.2.2.1,bt297.2.2.2.2.2.2.2.2.1,bt297.2.2.2.2.2.2.2.2.2,0,0)))
def complineref19_Parse.f (k:Nat)(a0:ByteArray):Option (Int × Bool × Int × Bool × Int × Bool × Int × Bool × Int × Bool × Int × Int):=(complineref17_Fields.f k a0).bind fun bt285=>(if bt285.2=0 then (complineref19_Parse.l0 k bt285.1 ([]:List (S24)) 0) else (some (0,false,0,false,0,false,0,false,0,false,0,bt285.2)))
set_option maxHeartbeats 8000000 in
set_option maxRecDepth 100000 in
theorem complineref19_Parse.calls (k:Nat)(a0:ByteArray)(r1:Int)(r2:Bool)(r3:Int)(r4:Bool)(r5:Int)(r6:Bool)(r7:Int)(r8:Bool)(r9:Int)(r10:Bool)(r11:Int)(r12:Int)(w:World)(h:complineref19_Parse.f k a0=some (r1,r2,r3,r4,r5,r6,r7,r8,r9,r10,r11,r12)) :
  Calls Tryz.prog 33 #[.string a0] w fun e w'=>e=.returned (.tuple #[.agg #[.int .u64 r1,.bool r2,.int .u64 r3,.bool r4,.int .u64 r5,.bool r6,.int .u64 r7,.bool r8,.int .u64 r9,.bool r10],.int .i64 r11,.int .i64 r12])∧Below w.heap.size w w':=by
 have hu31:=Tryz.underlying31
 have hu24:=Tryz.underlying24
 have HB:=Aside0.mk (Below.refl w.heap.size w)
 have H:((complineref17_Fields.f k a0).bind fun bt285=>(if bt285.2=0 then (complineref19_Parse.l0 k bt285.1 ([]:List (S24)) 0) else (some (0,false,0,false,0,false,0,false,0,false,0,bt285.2))))=some (r1,r2,r3,r4,r5,r6,r7,r8,r9,r10,r11,r12):=h
 clear h
 replace H:=Option.bind_eq_some_iff.mp H
 obtain ⟨⟨t285,t286⟩,A20,H⟩ :=H
 replace H:(if t286=0 then (complineref19_Parse.l0 k t285 ([]:List (S24)) 0) else (some (0,false,0,false,0,false,0,false,0,false,0,t286)))=some (r1,r2,r3,r4,r5,r6,r7,r8,r9,r10,r11,r12):=H
 have A2:=Aside0.mk A20
 clear A20
 by_cases c3:t286=0
 ·rw [if_pos c3] at H
  have c3b0:(t286 == 0)=true:=beq_iff_eq.mpr c3
  have c3b1:(t286 != 0)=false:=bne_eq_false_iff_eq.mpr c3
  clear c3
  have H':=Aside0.mk H
  clear H
  go_enter Tryz.func33,Tryz.ntmps33
  go_wp2_with (first | ((with_reducible refine gate_dst (N:=2) rfl ?_); refine box_event ?hg (N:=2) ?hd (cs:=#[.int .u64 0,.bool false,.int .u64 0,.bool false,.int .u64 0,.bool false,.int .u64 0,.bool false,.int .u64 0,.bool false]) (t:=31) ?hr ?_; (case hd=>rfl); (case hg=>rfl); (case hr=>first | (go_simp; done) | (go_simp; rfl)); intro gb284 hg w4 hbox hb; have n0_:=Aside0.mk (below_step (by repeat (first | (with_reducible first | exact HB.out | apply below_alloc | apply pw_below_drewN | apply below_drew1) | exact HB.out)) hb); have n1_:=Aside0.mk (hbox); have n2_:=Aside0.mk ((by rw [hg]; exact (below_size (by repeat (first | (with_reducible first | exact HB.out | apply below_alloc | apply pw_below_drewN | apply below_drew1) | exact HB.out))):w.heap.size≤gb284)); have n3_:=Aside0.mk ((by rw [hg]; exact (below_size (by repeat (first | (with_reducible first | exact HB.out | apply below_alloc | apply pw_below_drewN | apply below_drew1) | exact HB.out))):w.heap.size≤gb284)); clear HB; have HB:=n0_; have BK284:=n1_; have GW284:=n2_; have GE284:=n3_; clear n0_ n1_ n2_ n3_; clear hb hbox hg) | ((with_reducible refine gate_callee (f:=55) rfl ?_); refine goesL_ (some 13) rfl rfl Tryz.func55 (by kernel_rfl) rfl #[.string a0] rfl (by (try simp only [List.map_toArray,List.map_cons,List.map_nil]); first | done | rfl | (simp only [List.length_drop,List.length_take]; rfl)) ?_; (with_reducible refine (complineref17_Fields.calls k a0 t285 t286 _ A2.out).mono ?_); rintro e w5 ⟨v287,rfl,ho0,hb⟩; refine ⟨_,rfl,?_⟩; have n0_:=Aside0.mk (Kd.R_lower ho0 (below_size (by repeat (first | (with_reducible first | exact HB.out | apply below_alloc | apply pw_below_drewN | apply below_drew1 | refine below_set ?_ GE284.out) | exact HB.out)))); have n1_:=Aside0.mk (blk_below (g:=gb284) (o:=.cells #[.int .u64 0,.bool false,.int .u64 0,.bool false,.int .u64 0,.bool false,.int .u64 0,.bool false,.int .u64 0,.bool false] 31 (0,0)) (by (with_reducible repeat (first | refine blk_drewN ?_ _ | refine blk_drew ?_ | refine blk_alloc ?_ _)); exact BK284.out) hb); have n2_:=Aside0.mk (below_step (by repeat (first | (with_reducible first | exact HB.out | apply below_alloc | apply pw_below_drewN | apply below_drew1 | refine below_set ?_ GE284.out) | exact HB.out)) hb); clear BK284; clear HB; have HO288:=n0_; have BK284:=n1_; have HB:=n2_; clear n0_ n1_ n2_; (try clear hb); (try clear hb2); (try clear hk); (try clear hi); (try clear ho0)))
  go_loopg [7,8] k (fun kq v7 v8 w'=>∃ (x7_1:List (S24)) (x8_1:Int) (x285000_1:Int) (x285001_1:Bool) (x285002_1:Int) (x285003_1:Bool) (x285004_1:Int) (x285005_1:Bool) (x285006_1:Int) (x285007_1:Bool) (x285008_1:Int) (x285009_1:Bool),v8=.int .i64 x8_1∧Aside0 (complineref19_Parse.l0 kq t285 x7_1 x8_1=some (r1,r2,r3,r4,r5,r6,r7,r8,r9,r10,r11,r12))∧Aside0 (kq≤k)∧Aside0 (Kd.R Kd.string 9 w' w.heap.size (fun _=>True) v287 t285)∧Aside0 (Kd.R k24 24 w' w.heap.size (fun _=>True) v7 x7_1)∧Aside0 (w'.heap[gb284]?=some (.cells #[.int .u64 x285000_1,.bool x285001_1,.int .u64 x285002_1,.bool x285003_1,.int .u64 x285004_1,.bool x285005_1,.int .u64 x285006_1,.bool x285007_1,.int .u64 x285008_1,.bool x285009_1] 31 (0,0)))∧Aside0 (Below w.heap.size w w'))
  case atStart=>exact ⟨(([]:List (S24))),(0),(0),(false),(0),(false),(0),(false),(0),(false),(0),(false),(by first | rfl | (simp; done) | (simp [*]; done)),H',⟨Nat.le_refl _⟩,⟨by (with_reducible repeat (first | apply Kd.R_alloc | apply Kd.R_drewN | apply Kd.R_drew)); exact HO288.out⟩,⟨by first | exact Kd.R_nil _ _ _ _ _ | exact Kd.N_nil _ _ _ _ _ | exact Kd.V_nil _ _ _ _ _ | exact Kd.Q_nil _ _ _ _ _ | exact Kd.S_nil _ _ _ _ _⟩,⟨by (with_reducible repeat (first | refine blk_drewN ?_ _ | refine blk_drew ?_ | refine blk_alloc ?_ _)); exact BK284.out⟩,⟨by repeat (first | (with_reducible first | exact HB.out | apply below_alloc | apply pw_below_drewN | apply below_drew1 | refine below_set ?_ GE284.out) | exact HB.out)⟩⟩
  case round=>
   clear H'
   try clear p2
   try clear c3
   try clear c3b0
   try clear c3b1
   try clear c5
   obtain ⟨x7_1,x8_1,x285000_1,x285001_1,x285002_1,x285003_1,x285004_1,x285005_1,x285006_1,x285007_1,x285008_1,x285009_1,rfl,HA,HK1,HO_5,HO_7,BK284,HB⟩ :=hrel
   cases gk with
   | zero=>exact absurd HA.out (by simp [complineref19_Parse.l0])
   | succ k1=>
    have H:=HA.out
    clear HA
    simp only [complineref19_Parse.l0] at H
    by_cases c6:x8_1 < 5
    ·rw [if_pos c6] at H
     have c6b0:decide (x8_1 < 5)=true:=decide_eq_true c6
     clear c6
     by_cases c7:0≤x8_1
     ·rw [if_pos c7] at H
      have c7b0:decide (0≤x8_1)=true:=decide_eq_true c7
      clear c7
      by_cases c8:x8_1 < (t285.length:Int)
      ·rw [if_pos c8] at H
       have c8b0:decide (x8_1 < (t285.length:Int))=true:=decide_eq_true c8
       clear c8
       replace H:=Option.bind_eq_some_iff.mp H
       obtain ⟨⟨t290,t291,t292⟩,A90,H⟩ :=H
       replace H:(if t292=0 then (if x7_1.length < 8796093022208 then (complineref19_Parse.l0 k1 t285 (x7_1 ++ [(⟨t290,t291⟩:S24)]) (wrap64 (x8_1+1))) else (none)) else (some (0,false,0,false,0,false,0,false,0,false,wrap64 (x8_1+1),t292)))=some (r1,r2,r3,r4,r5,r6,r7,r8,r9,r10,r11,r12):=H
       have A9:=Aside0.mk A90
       clear A90
       by_cases c10:t292=0
       ·rw [if_pos c10] at H
        have c10b0:(t292 == 0)=true:=beq_iff_eq.mpr c10
        have c10b1:(t292 != 0)=false:=bne_eq_false_iff_eq.mpr c10
        clear c10
        by_cases c11:x7_1.length < 8796093022208
        ·rw [if_pos c11] at H
         have LMc11:=Aside0.mk c11
         clear c11
         obtain ⟨y294,hy294⟩:∃ y_:List (S24),y_=(x7_1 ++ [(⟨t290,t291⟩:S24)]):=⟨_,rfl⟩
         replace H:(complineref19_Parse.l0 k1 t285 y294 (wrap64 (x8_1+1)))=some (r1,r2,r3,r4,r5,r6,r7,r8,r9,r10,r11,r12):=by first | (rw [hy294]; with_reducible exact H) | (have H2_:=(Option.bind_some _ _).symm.trans H; rw [hy294]; with_reducible exact H2_) | (have H2_:=(Option.bind_some _ _).symm.trans H; with_reducible exact H2_) | with_reducible exact H | (rw [hy294]; exact H) | exact H
         have Ny294:=Aside0.mk hy294
         clear hy294
         have H':=Aside0.mk H
         clear H
         obtain ⟨Ao12,co12,eo12⟩ :=Kd.R_slice HO_5.out
         subst eo12
         have p289:0≤(x8_1:Int):=of_decide_eq_true (by first | (with_reducible assumption) | assumption)
         have q289:x8_1 < (t285.length:Int):=of_decide_eq_true (by first | (with_reducible assumption) | assumption)
         obtain ⟨ad289,e289,hx289_0⟩ :=Kd.at_string (Kd.R_reads' HO_5.out).2.2 x8_1 p289 q289
         cases e289
         replace p289:=eq_true p289
         replace q289:=eq_true q289
         go_wp2_with (first | ((with_reducible refine gate_callee (f:=56) rfl ?_); refine goesL_ (some 30) rfl rfl Tryz.func56 (by kernel_rfl) rfl #[.string (rdOf ByteArray.empty t285 x8_1),.int .i64 x8_1] rfl (by (try simp only [List.map_toArray,List.map_cons,List.map_nil]); first | done | rfl | (simp only [List.length_drop,List.length_take]; rfl)) ?_; (with_reducible refine (complineref18_Parse.calls k1 (rdOf ByteArray.empty t285 x8_1) x8_1 t290 t291 t292 _ A9.out).mono ?_); rintro e w13 ⟨rfl,hb⟩; refine ⟨_,rfl,?_⟩; have n0_:=Aside0.mk (Kd.R_below (by (with_reducible repeat (first | apply Kd.R_alloc | apply Kd.R_drewN | apply Kd.R_drew)); exact HO_5.out) hb); have n1_:=Aside0.mk (Kd.R_below (by (with_reducible repeat (first | apply Kd.R_alloc | apply Kd.R_drewN | apply Kd.R_drew)); exact HO_7.out) hb); have n2_:=Aside0.mk (blk_below (g:=gb284) (o:=.cells #[.int .u64 x285000_1,.bool x285001_1,.int .u64 x285002_1,.bool x285003_1,.int .u64 x285004_1,.bool x285005_1,.int .u64 x285006_1,.bool x285007_1,.int .u64 x285008_1,.bool x285009_1] 31 (0,0)) (by (with_reducible repeat (first | refine blk_drewN ?_ _ | refine blk_drew ?_ | refine blk_alloc ?_ _)); exact BK284.out) hb); have n3_:=Aside0.mk (below_step (by repeat (first | (with_reducible first | exact HB.out | apply below_alloc | apply pw_below_drewN | apply below_drew1 | refine below_set ?_ GE284.out) | exact HB.out)) hb); clear HO_5; clear HO_7; clear BK284; clear HB; have HO_5:=n0_; have HO_7:=n1_; have BK284:=n2_; have HB:=n3_; clear n0_ n1_ n2_ n3_; (try clear hb); (try clear hb2); (try clear hk); (try clear hi)) | ((with_reducible refine gate_dst (N:=9) rfl ?_); refine box_event ?hg (N:=9) ?hd (cs:=#[.int .u64 0,.bool false]) (t:=24) ?hr ?_; (case hd=>rfl); (case hg=>rfl); (case hr=>first | (go_simp; done) | (go_simp; rfl)); intro gb293 hg w14 hbox hb; have n0_:=Aside0.mk (Kd.R_below (by (with_reducible repeat (first | apply Kd.R_alloc | apply Kd.R_drewN | apply Kd.R_drew)); exact HO_5.out) hb); have n1_:=Aside0.mk (Kd.R_below (Kd.R_elderB (by (with_reducible repeat (first | apply Kd.R_alloc | apply Kd.R_drewN | apply Kd.R_drew)); exact HO_7.out) gb293 (Nat.le_of_eq hg.symm)) hb); have n2_:=Aside0.mk (blk_below (g:=gb284) (o:=.cells #[.int .u64 x285000_1,.bool x285001_1,.int .u64 x285002_1,.bool x285003_1,.int .u64 x285004_1,.bool x285005_1,.int .u64 x285006_1,.bool x285007_1,.int .u64 x285008_1,.bool x285009_1] 31 (0,0)) (by (with_reducible repeat (first | refine blk_drewN ?_ _ | refine blk_drew ?_ | refine blk_alloc ?_ _)); exact BK284.out) hb); have n3_:=Aside0.mk (below_step (by repeat (first | (with_reducible first | exact HB.out | apply below_alloc | apply pw_below_drewN | apply below_drew1 | refine below_set ?_ GE284.out) | exact HB.out)) hb); have n4_:=Aside0.mk (hbox); have n5_:=Aside0.mk ((by rw [hg]; exact (below_size (by repeat (first | (with_reducible first | exact HB.out | apply below_alloc | apply pw_below_drewN | apply below_drew1 | refine below_set ?_ GE284.out) | exact HB.out))):w.heap.size≤gb293)); have n6_:=Aside0.mk ((by rw [hg]; exact (below_size (by repeat (first | (with_reducible first | exact HB.out | apply below_alloc | apply pw_below_drewN | apply below_drew1 | refine below_set ?_ GE284.out) | exact HB.out))):w.heap.size≤gb293)); have n7_:=Aside0.mk ((by rw [hg]; exact Nat.ne_of_lt (blk_lt (g:=gb284) (o:=.cells #[.int .u64 x285000_1,.bool x285001_1,.int .u64 x285002_1,.bool x285003_1,.int .u64 x285004_1,.bool x285005_1,.int .u64 x285006_1,.bool x285007_1,.int .u64 x285008_1,.bool x285009_1] 31 (0,0)) (by (with_reducible repeat (first | refine blk_drewN ?_ _ | refine blk_drew ?_ | refine blk_alloc ?_ _)); exact BK284.out)):gb284≠gb293)); have n8_:=Aside0.mk ((by rw [hg]; exact Nat.ne_of_gt (blk_lt (g:=gb284) (o:=.cells #[.int .u64 x285000_1,.bool x285001_1,.int .u64 x285002_1,.bool x285003_1,.int .u64 x285004_1,.bool x285005_1,.int .u64 x285006_1,.bool x285007_1,.int .u64 x285008_1,.bool x285009_1] 31 (0,0)) (by (with_reducible repeat (first | refine blk_drewN ?_ _ | refine blk_drew ?_ | refine blk_alloc ?_ _)); exact BK284.out)):gb293≠gb284)); clear HO_5; clear HO_7; clear BK284; clear HB; have HO_5:=n0_; have HO_7:=n1_; have BK284:=n2_; have HB:=n3_; have BK293:=n4_; have GW293:=n5_; have GE293:=n6_; have NB284_293:=n7_; have NB293_284:=n8_; clear n0_ n1_ n2_ n3_ n4_ n5_ n6_ n7_ n8_; clear hb hbox hg; have hnb15:=NB293_284.out; have hnc15:=NB284_293.out; have hcz16_0:w14.cell? ⟨gb293,0,none⟩=some (.int .u64 0):=(blk_cell BK293.out 0).trans rfl; have hcz16_1:w14.cell? ⟨gb293,1,none⟩=some (.bool false):=(blk_cell BK293.out 1).trans rfl; have hfz16_0:=blk_frozen BK293.out 0; have hfz16_1:=blk_frozen BK293.out 1) | ((with_reducible refine gate_builtin (b:=.append) (xs:=#[.tmp 39,.tmp 41]) rfl ?_); at_builtin; refine Kd.R_append k24 (w0:=w) w.heap.size rfl (.tmp 39) (.tmp 41) 64 24 (.agg #[(.int .u64 0),(.bool false)]) 16 rfl Tryz.underlying64 info24 rfl (by decide) (by omega) u7 x7_1 (⟨t290,t291⟩:S24) [.int .u64 t290,.bool t291] (fun k_=>k_≠gb293) (fun _=>False) rfl (by first | (go_simp; done) | (go_simp; rfl)) ?aP (fun _ hk=>hk.elim) ?aF ?aO ?aB ?aS ?aL ?_; (case aP=>exact k24_mkM _ _ _ (⟨t290,t291⟩:S24)); (case aB=>exact (by repeat (first | (with_reducible first | exact HB.out | apply below_alloc | apply pw_below_drewN | apply below_drew1 | refine below_set ?_ GE284.out | refine below_set ?_ GE293.out) | exact HB.out))); (case aF=>exact (fun k_ hk=>Kd.freshB (g:=gb293) (o:=.cells #[.int .u64 t290,.bool t291] 24 (0,0)) (by (with_reducible repeat (first | refine blk_drewN ?_ _ | refine blk_drew ?_ | refine blk_alloc ?_ _)); refine blk_put (cs:=#[.int .u64 t290,.bool false]) ?_ 1 _ rfl; (with_reducible repeat (first | refine blk_drewN ?_ _ | refine blk_drew ?_ | refine blk_alloc ?_ _)); refine blk_put (cs:=#[.int .u64 0,.bool false]) ?_ 0 _ rfl; (with_reducible repeat (first | refine blk_drewN ?_ _ | refine blk_drew ?_ | refine blk_alloc ?_ _)); exact BK293.out) k_ hk)); (case aO=>exact (by (with_reducible repeat (first | apply Kd.R_alloc | apply Kd.R_drewN | apply Kd.R_drew)); exact Kd.R_mono (Kd.R_far (p:=⟨gb293,1,none⟩) (Kd.R_far (p:=⟨gb293,0,none⟩) (Kd.R_mono HO_7.out (fun k_ hk=>(⟨hk,hk.2⟩:_∧k_≠gb293))) (fun _ hk=>hk.2) (.int .u64 t290)) (fun _ hk=>hk.2) (.bool t291)) (fun _ hk=>hk.1.2))); (case aS=>exact (below_size (by repeat (first | (with_reducible first | exact HB.out | apply below_alloc | apply pw_below_drewN | apply below_drew1 | refine below_set ?_ GE284.out | refine below_set ?_ GE293.out) | exact HB.out)))); (case aL=>have:=LMc11.out; omega); intro v295 w17 ho hb hg hat; rw [← Ny294.out] at ho; have n0_:=Aside0.mk (Kd.R_over' (by (with_reducible repeat (first | apply Kd.R_alloc | apply Kd.R_drewN | apply Kd.R_drew)); exact (Kd.R_mono (Kd.R_far (p:=⟨gb293,1,none⟩) (Kd.R_far (p:=⟨gb293,0,none⟩) (Kd.R_types HO_5.out BK293.out (by decide)) (fun _ hk=>hk.2) (.int .u64 t290)) (fun _ hk=>hk.2) (.bool t291)) (fun _ h_=>h_.1))) (Kd.R_typed (by (with_reducible repeat (first | apply Kd.R_alloc | apply Kd.R_drewN | apply Kd.R_drew)); exact (Kd.R_mono (Kd.R_far (p:=⟨gb293,1,none⟩) (Kd.R_far (p:=⟨gb293,0,none⟩) (Kd.R_mono HO_7.out (fun k_ hk=>(⟨hk,hk.2⟩:_∧k_≠gb293))) (fun _ hk=>hk.2) (.int .u64 t290)) (fun _ hk=>hk.2) (.bool t291)) (fun _ h_=>h_.1)))) (by decide) hg); have n1_:=Aside0.mk (blk_grown (g:=gb284) (o:=.cells #[.int .u64 x285000_1,.bool x285001_1,.int .u64 x285002_1,.bool x285003_1,.int .u64 x285004_1,.bool x285005_1,.int .u64 x285006_1,.bool x285007_1,.int .u64 x285008_1,.bool x285009_1] 31 (0,0)) (by (with_reducible repeat (first | refine blk_drewN ?_ _ | refine blk_drew ?_ | refine blk_alloc ?_ _)); refine blk_far ?_ NB284_293.out _; (with_reducible repeat (first | refine blk_drewN ?_ _ | refine blk_drew ?_ | refine blk_alloc ?_ _)); refine blk_far ?_ NB284_293.out _; (with_reducible repeat (first | refine blk_drewN ?_ _ | refine blk_drew ?_ | refine blk_alloc ?_ _)); exact BK284.out) hg (Kd.R_ne HO_7.out BK284.out (by decide))); have n2_:=Aside0.mk (blk_grown (g:=gb293) (o:=.cells #[.int .u64 t290,.bool t291] 24 (0,0)) (by (with_reducible repeat (first | refine blk_drewN ?_ _ | refine blk_drew ?_ | refine blk_alloc ?_ _)); refine blk_put (cs:=#[.int .u64 t290,.bool false]) ?_ 1 _ rfl; (with_reducible repeat (first | refine blk_drewN ?_ _ | refine blk_drew ?_ | refine blk_alloc ?_ _)); refine blk_put (cs:=#[.int .u64 0,.bool false]) ?_ 0 _ rfl; (with_reducible repeat (first | refine blk_drewN ?_ _ | refine blk_drew ?_ | refine blk_alloc ?_ _)); exact BK293.out) hg (Kd.R_away HO_7.out (fun _ hk=>hk.2))); have n3_:=Aside0.mk (hb); have n4_:=Aside0.mk (ho); clear HO_5; clear BK284; clear BK293; clear HB; clear HO_7; have HO_5:=n0_; have BK284:=n1_; have BK293:=n2_; have HB:=n3_; have HO296:=n4_; clear n0_ n1_ n2_ n3_ n4_; clear ho hb hg hat))
         go_roundg k1
         case measure=>have:=HK1.out; omega
         case rel=>exact ⟨(y294),(wrap64 (x8_1+1)),(x285000_1),(x285001_1),(x285002_1),(x285003_1),(x285004_1),(x285005_1),(x285006_1),(x285007_1),(x285008_1),(x285009_1),(by first | rfl | (simp; done) | (simp [*]; done)),H',⟨by have:=HK1.out; omega⟩,⟨by (with_reducible repeat (first | apply Kd.R_alloc | apply Kd.R_drewN | apply Kd.R_drew)); exact HO_5.out⟩,⟨by (with_reducible repeat (first | apply Kd.R_alloc | apply Kd.R_drewN | apply Kd.R_drew)); exact Kd.R_mono HO296.out (fun _ hk=>trivial)⟩,⟨by (with_reducible repeat (first | refine blk_drewN ?_ _ | refine blk_drew ?_ | refine blk_alloc ?_ _)); exact BK284.out⟩,⟨by repeat (first | (with_reducible first | exact HB.out | apply below_alloc | apply pw_below_drewN | apply below_drew1 | refine below_set ?_ GE284.out | refine below_set ?_ GE293.out) | exact HB.out)⟩⟩
        ·rw [if_neg c11] at H
         exact absurd H (by simp)
       ·rw [if_neg c10] at H
        have c10b0:(t292 == 0)=false:=beq_eq_false_iff_ne.mpr c10
        have c10b1:(t292 != 0)=true:=bne_iff_ne.mpr c10
        simp only [Option.some.injEq,Prod.mk.injEq] at H
        obtain ⟨rfl,rfl,rfl,rfl,rfl,rfl,rfl,rfl,rfl,rfl,rfl,rfl⟩ :=H
        obtain ⟨Ao18,co18,eo18⟩ :=Kd.R_slice HO_5.out
        subst eo18
        have p289:0≤(x8_1:Int):=of_decide_eq_true (by first | (with_reducible assumption) | assumption)
        have q289:x8_1 < (t285.length:Int):=of_decide_eq_true (by first | (with_reducible assumption) | assumption)
        obtain ⟨ad289,e289,hx289_0⟩ :=Kd.at_string (Kd.R_reads' HO_5.out).2.2 x8_1 p289 q289
        cases e289
        replace p289:=eq_true p289
        replace q289:=eq_true q289
        go_wp2_with (first | ((with_reducible refine gate_callee (f:=56) rfl ?_); refine goesL_ (some 30) rfl rfl Tryz.func56 (by kernel_rfl) rfl #[.string (rdOf ByteArray.empty t285 x8_1),.int .i64 x8_1] rfl (by (try simp only [List.map_toArray,List.map_cons,List.map_nil]); first | done | rfl | (simp only [List.length_drop,List.length_take]; rfl)) ?_; (with_reducible refine (complineref18_Parse.calls k1 (rdOf ByteArray.empty t285 x8_1) x8_1 t290 t291 t292 _ A9.out).mono ?_); rintro e w19 ⟨rfl,hb⟩; refine ⟨_,rfl,?_⟩; have n0_:=Aside0.mk (Kd.R_below (by (with_reducible repeat (first | apply Kd.R_alloc | apply Kd.R_drewN | apply Kd.R_drew)); exact HO_5.out) hb); have n1_:=Aside0.mk (Kd.R_below (by (with_reducible repeat (first | apply Kd.R_alloc | apply Kd.R_drewN | apply Kd.R_drew)); exact HO_7.out) hb); have n2_:=Aside0.mk (blk_below (g:=gb284) (o:=.cells #[.int .u64 x285000_1,.bool x285001_1,.int .u64 x285002_1,.bool x285003_1,.int .u64 x285004_1,.bool x285005_1,.int .u64 x285006_1,.bool x285007_1,.int .u64 x285008_1,.bool x285009_1] 31 (0,0)) (by (with_reducible repeat (first | refine blk_drewN ?_ _ | refine blk_drew ?_ | refine blk_alloc ?_ _)); exact BK284.out) hb); have n3_:=Aside0.mk (below_step (by repeat (first | (with_reducible first | exact HB.out | apply below_alloc | apply pw_below_drewN | apply below_drew1 | refine below_set ?_ GE284.out) | exact HB.out)) hb); clear HO_5; clear HO_7; clear BK284; clear HB; have HO_5:=n0_; have HO_7:=n1_; have BK284:=n2_; have HB:=n3_; clear n0_ n1_ n2_ n3_; (try clear hb); (try clear hb2); (try clear hk); (try clear hi)) | ((with_reducible refine gate_dst (N:=9) rfl ?_); refine box_event ?hg (N:=9) ?hd (cs:=#[.int .u64 0,.bool false]) (t:=24) ?hr ?_; (case hd=>rfl); (case hg=>rfl); (case hr=>first | (go_simp; done) | (go_simp; rfl)); intro gb293 hg w20 hbox hb; have n0_:=Aside0.mk (Kd.R_below (by (with_reducible repeat (first | apply Kd.R_alloc | apply Kd.R_drewN | apply Kd.R_drew)); exact HO_5.out) hb); have n1_:=Aside0.mk (Kd.R_below (Kd.R_elderB (by (with_reducible repeat (first | apply Kd.R_alloc | apply Kd.R_drewN | apply Kd.R_drew)); exact HO_7.out) gb293 (Nat.le_of_eq hg.symm)) hb); have n2_:=Aside0.mk (blk_below (g:=gb284) (o:=.cells #[.int .u64 x285000_1,.bool x285001_1,.int .u64 x285002_1,.bool x285003_1,.int .u64 x285004_1,.bool x285005_1,.int .u64 x285006_1,.bool x285007_1,.int .u64 x285008_1,.bool x285009_1] 31 (0,0)) (by (with_reducible repeat (first | refine blk_drewN ?_ _ | refine blk_drew ?_ | refine blk_alloc ?_ _)); exact BK284.out) hb); have n3_:=Aside0.mk (below_step (by repeat (first | (with_reducible first | exact HB.out | apply below_alloc | apply pw_below_drewN | apply below_drew1 | refine below_set ?_ GE284.out) | exact HB.out)) hb); have n4_:=Aside0.mk (hbox); have n5_:=Aside0.mk ((by rw [hg]; exact (below_size (by repeat (first | (with_reducible first | exact HB.out | apply below_alloc | apply pw_below_drewN | apply below_drew1 | refine below_set ?_ GE284.out) | exact HB.out))):w.heap.size≤gb293)); have n6_:=Aside0.mk ((by rw [hg]; exact (below_size (by repeat (first | (with_reducible first | exact HB.out | apply below_alloc | apply pw_below_drewN | apply below_drew1 | refine below_set ?_ GE284.out) | exact HB.out))):w.heap.size≤gb293)); have n7_:=Aside0.mk ((by rw [hg]; exact Nat.ne_of_lt (blk_lt (g:=gb284) (o:=.cells #[.int .u64 x285000_1,.bool x285001_1,.int .u64 x285002_1,.bool x285003_1,.int .u64 x285004_1,.bool x285005_1,.int .u64 x285006_1,.bool x285007_1,.int .u64 x285008_1,.bool x285009_1] 31 (0,0)) (by (with_reducible repeat (first | refine blk_drewN ?_ _ | refine blk_drew ?_ | refine blk_alloc ?_ _)); exact BK284.out)):gb284≠gb293)); have n8_:=Aside0.mk ((by rw [hg]; exact Nat.ne_of_gt (blk_lt (g:=gb284) (o:=.cells #[.int .u64 x285000_1,.bool x285001_1,.int .u64 x285002_1,.bool x285003_1,.int .u64 x285004_1,.bool x285005_1,.int .u64 x285006_1,.bool x285007_1,.int .u64 x285008_1,.bool x285009_1] 31 (0,0)) (by (with_reducible repeat (first | refine blk_drewN ?_ _ | refine blk_drew ?_ | refine blk_alloc ?_ _)); exact BK284.out)):gb293≠gb284)); clear HO_5; clear HO_7; clear BK284; clear HB; have HO_5:=n0_; have HO_7:=n1_; have BK284:=n2_; have HB:=n3_; have BK293:=n4_; have GW293:=n5_; have GE293:=n6_; have NB284_293:=n7_; have NB293_284:=n8_; clear n0_ n1_ n2_ n3_ n4_ n5_ n6_ n7_ n8_; clear hb hbox hg; have hnb21:=NB293_284.out; have hnc21:=NB284_293.out; have hcz22_0:w20.cell? ⟨gb293,0,none⟩=some (.int .u64 0):=(blk_cell BK293.out 0).trans rfl; have hcz22_1:w20.cell? ⟨gb293,1,none⟩=some (.bool false):=(blk_cell BK293.out 1).trans rfl; have hfz22_0:=blk_frozen BK293.out 0; have hfz22_1:=blk_frozen BK293.out 1; have hcz23_0:w20.cell? ⟨gb284,0,none⟩=some (.int .u64 x285000_1):=(blk_cell BK284.out 0).trans rfl; have hcz23_1:w20.cell? ⟨gb284,1,none⟩=some (.bool x285001_1):=(blk_cell BK284.out 1).trans rfl; have hcz23_2:w20.cell? ⟨gb284,2,none⟩=some (.int .u64 x285002_1):=(blk_cell BK284.out 2).trans rfl; have hcz23_3:w20.cell? ⟨gb284,3,none⟩=some (.bool x285003_1):=(blk_cell BK284.out 3).trans rfl; have hcz23_4:w20.cell? ⟨gb284,4,none⟩=some (.int .u64 x285004_1):=(blk_cell BK284.out 4).trans rfl; have hcz23_5:w20.cell? ⟨gb284,5,none⟩=some (.bool x285005_1):=(blk_cell BK284.out 5).trans rfl; have hcz23_6:w20.cell? ⟨gb284,6,none⟩=some (.int .u64 x285006_1):=(blk_cell BK284.out 6).trans rfl; have hcz23_7:w20.cell? ⟨gb284,7,none⟩=some (.bool x285007_1):=(blk_cell BK284.out 7).trans rfl; have hcz23_8:w20.cell? ⟨gb284,8,none⟩=some (.int .u64 x285008_1):=(blk_cell BK284.out 8).trans rfl; have hcz23_9:w20.cell? ⟨gb284,9,none⟩=some (.bool x285009_1):=(blk_cell BK284.out 9).trans rfl; have hfz23_0:=blk_frozen BK284.out 0; have hfz23_1:=blk_frozen BK284.out 1; have hfz23_2:=blk_frozen BK284.out 2; have hfz23_3:=blk_frozen BK284.out 3; have hfz23_4:=blk_frozen BK284.out 4; have hfz23_5:=blk_frozen BK284.out 5; have hfz23_6:=blk_frozen BK284.out 6; have hfz23_7:=blk_frozen BK284.out 7; have hfz23_8:=blk_frozen BK284.out 8; have hfz23_9:=blk_frozen BK284.out 9))
        refine bodyPost_ret (results_ctt rfl _ _ gb284 31 #[.int .u64 0,.bool false,.int .u64 0,.bool false,.int .u64 0,.bool false,.int .u64 0,.bool false,.int .u64 0,.bool false] (0,0) _ rfl (by (with_reducible repeat (first | refine blk_drewN ?_ _ | refine blk_drew ?_ | refine blk_alloc ?_ _)); refine blk_put (cs:=#[.int .u64 0,.bool false,.int .u64 0,.bool false,.int .u64 0,.bool false,.int .u64 0,.bool false,.int .u64 0,.bool x285009_1]) ?_ 9 _ rfl; (with_reducible repeat (first | refine blk_drewN ?_ _ | refine blk_drew ?_ | refine blk_alloc ?_ _)); refine blk_put (cs:=#[.int .u64 0,.bool false,.int .u64 0,.bool false,.int .u64 0,.bool false,.int .u64 0,.bool false,.int .u64 x285008_1,.bool x285009_1]) ?_ 8 _ rfl; (with_reducible repeat (first | refine blk_drewN ?_ _ | refine blk_drew ?_ | refine blk_alloc ?_ _)); refine blk_put (cs:=#[.int .u64 0,.bool false,.int .u64 0,.bool false,.int .u64 0,.bool false,.int .u64 0,.bool x285007_1,.int .u64 x285008_1,.bool x285009_1]) ?_ 7 _ rfl; (with_reducible repeat (first | refine blk_drewN ?_ _ | refine blk_drew ?_ | refine blk_alloc ?_ _)); refine blk_put (cs:=#[.int .u64 0,.bool false,.int .u64 0,.bool false,.int .u64 0,.bool false,.int .u64 x285006_1,.bool x285007_1,.int .u64 x285008_1,.bool x285009_1]) ?_ 6 _ rfl; (with_reducible repeat (first | refine blk_drewN ?_ _ | refine blk_drew ?_ | refine blk_alloc ?_ _)); refine blk_put (cs:=#[.int .u64 0,.bool false,.int .u64 0,.bool false,.int .u64 0,.bool x285005_1,.int .u64 x285006_1,.bool x285007_1,.int .u64 x285008_1,.bool x285009_1]) ?_ 5 _ rfl; (with_reducible repeat (first | refine blk_drewN ?_ _ | refine blk_drew ?_ | refine blk_alloc ?_ _)); refine blk_put (cs:=#[.int .u64 0,.bool false,.int .u64 0,.bool false,.int .u64 x285004_1,.bool x285005_1,.int .u64 x285006_1,.bool x285007_1,.int .u64 x285008_1,.bool x285009_1]) ?_ 4 _ rfl; (with_reducible repeat (first | refine blk_drewN ?_ _ | refine blk_drew ?_ | refine blk_alloc ?_ _)); refine blk_put (cs:=#[.int .u64 0,.bool false,.int .u64 0,.bool x285003_1,.int .u64 x285004_1,.bool x285005_1,.int .u64 x285006_1,.bool x285007_1,.int .u64 x285008_1,.bool x285009_1]) ?_ 3 _ rfl; (with_reducible repeat (first | refine blk_drewN ?_ _ | refine blk_drew ?_ | refine blk_alloc ?_ _)); refine blk_put (cs:=#[.int .u64 0,.bool false,.int .u64 x285002_1,.bool x285003_1,.int .u64 x285004_1,.bool x285005_1,.int .u64 x285006_1,.bool x285007_1,.int .u64 x285008_1,.bool x285009_1]) ?_ 2 _ rfl; (with_reducible repeat (first | refine blk_drewN ?_ _ | refine blk_drew ?_ | refine blk_alloc ?_ _)); refine blk_put (cs:=#[.int .u64 0,.bool x285001_1,.int .u64 x285002_1,.bool x285003_1,.int .u64 x285004_1,.bool x285005_1,.int .u64 x285006_1,.bool x285007_1,.int .u64 x285008_1,.bool x285009_1]) ?_ 1 _ rfl; (with_reducible repeat (first | refine blk_drewN ?_ _ | refine blk_drew ?_ | refine blk_alloc ?_ _)); refine blk_put (cs:=#[.int .u64 x285000_1,.bool x285001_1,.int .u64 x285002_1,.bool x285003_1,.int .u64 x285004_1,.bool x285005_1,.int .u64 x285006_1,.bool x285007_1,.int .u64 x285008_1,.bool x285009_1]) ?_ 0 _ rfl; (with_reducible repeat (first | refine blk_drewN ?_ _ | refine blk_drew ?_ | refine blk_alloc ?_ _)); refine blk_far ?_ NB284_293.out _; (with_reducible repeat (first | refine blk_drewN ?_ _ | refine blk_drew ?_ | refine blk_alloc ?_ _)); refine blk_far ?_ NB284_293.out _; (with_reducible repeat (first | refine blk_drewN ?_ _ | refine blk_drew ?_ | refine blk_alloc ?_ _)); exact BK284.out) Tryz.underlying31 rfl (by kernel_rfl)) rfl ?_
        exact ⟨by first | rfl | (simp [errW_none,errW_some] <;> rfl) | (simp [*,errW_none,errW_some] <;> rfl),by repeat (first | (with_reducible first | exact HB.out | apply below_alloc | apply pw_below_drewN | apply below_drew1 | refine below_set ?_ GE284.out | refine below_set ?_ GE293.out) | exact HB.out)⟩
      ·rw [if_neg c8] at H
       exact absurd H (by simp)
     ·rw [if_neg c7] at H
      exact absurd H (by simp)
    ·rw [if_neg c6] at H
     have c6b0:decide (x8_1 < 5)=false:=decide_eq_false c6
     clear c6
     replace H:=Option.bind_eq_some_iff.mp H
     obtain ⟨⟨t297,t298,t299,t300,t301,t302,t303,t304,t305,t306⟩,A240,H⟩ :=H
     replace H:(some (t297,t298,t299,t300,t301,t302,t303,t304,t305,t306,0,0))=some (r1,r2,r3,r4,r5,r6,r7,r8,r9,r10,r11,r12):=H
     have A24:=Aside0.mk A240
     clear A240
     simp only [Option.some.injEq,Prod.mk.injEq] at H
     obtain ⟨rfl,rfl,rfl,rfl,rfl,rfl,rfl,rfl,rfl,rfl,rfl,rfl⟩ :=H
     obtain ⟨Ao25,co25,eo25⟩ :=Kd.R_slice HO_7.out
     subst eo25
     go_wp2_with (first | ((with_reducible refine gate_callee (f:=57) rfl ?_); refine goesL_ (some 44) rfl rfl Tryz.func57 (by kernel_rfl) rfl #[.slice Ao25 x7_1.length co25] rfl (by (try simp only [List.map_toArray,List.map_cons,List.map_nil]); first | done | rfl | (simp only [List.length_drop,List.length_take]; rfl)) ?_; (with_reducible refine (complineref19_Of.calls _ _ x7_1 t297 t298 t299 t300 t301 t302 t303 t304 t305 t306 _ ?side1 ?side2 A24.out).mono ?_); (case side1=>repeat (first | exact (Kd.R_reads' HO_7.out).2.2 | (with_reducible refine Kd.C_alloc ?_ _) | (with_reducible refine Kd.C_drewN ?_ _) | (with_reducible refine Kd.C_drew ?_))); (case side2=>exact (Kd.R_reads' HO_7.out).2.1); rintro e w26 ⟨rfl,hb⟩; refine ⟨_,rfl,?_⟩; have n0_:=Aside0.mk (Kd.R_below (by (with_reducible repeat (first | apply Kd.R_alloc | apply Kd.R_drewN | apply Kd.R_drew)); exact HO_5.out) hb); have n1_:=Aside0.mk (Kd.R_below (by (with_reducible repeat (first | apply Kd.R_alloc | apply Kd.R_drewN | apply Kd.R_drew)); exact HO_7.out) hb); have n2_:=Aside0.mk (blk_below (g:=gb284) (o:=.cells #[.int .u64 x285000_1,.bool x285001_1,.int .u64 x285002_1,.bool x285003_1,.int .u64 x285004_1,.bool x285005_1,.int .u64 x285006_1,.bool x285007_1,.int .u64 x285008_1,.bool x285009_1] 31 (0,0)) (by (with_reducible repeat (first | refine blk_drewN ?_ _ | refine blk_drew ?_ | refine blk_alloc ?_ _)); exact BK284.out) hb); have n3_:=Aside0.mk (below_step (by repeat (first | (with_reducible first | exact HB.out | apply below_alloc | apply pw_below_drewN | apply below_drew1 | refine below_set ?_ GE284.out) | exact HB.out)) hb); clear HO_5; clear HO_7; clear BK284; clear HB; have HO_5:=n0_; have HO_7:=n1_; have BK284:=n2_; have HB:=n3_; clear n0_ n1_ n2_ n3_; (try clear hb); (try clear hb2); (try clear hk); (try clear hi); have hcz27_0:w26.cell? ⟨gb284,0,none⟩=some (.int .u64 x285000_1):=(blk_cell BK284.out 0).trans rfl; have hcz27_1:w26.cell? ⟨gb284,1,none⟩=some (.bool x285001_1):=(blk_cell BK284.out 1).trans rfl; have hcz27_2:w26.cell? ⟨gb284,2,none⟩=some (.int .u64 x285002_1):=(blk_cell BK284.out 2).trans rfl; have hcz27_3:w26.cell? ⟨gb284,3,none⟩=some (.bool x285003_1):=(blk_cell BK284.out 3).trans rfl; have hcz27_4:w26.cell? ⟨gb284,4,none⟩=some (.int .u64 x285004_1):=(blk_cell BK284.out 4).trans rfl; have hcz27_5:w26.cell? ⟨gb284,5,none⟩=some (.bool x285005_1):=(blk_cell BK284.out 5).trans rfl; have hcz27_6:w26.cell? ⟨gb284,6,none⟩=some (.int .u64 x285006_1):=(blk_cell BK284.out 6).trans rfl; have hcz27_7:w26.cell? ⟨gb284,7,none⟩=some (.bool x285007_1):=(blk_cell BK284.out 7).trans rfl; have hcz27_8:w26.cell? ⟨gb284,8,none⟩=some (.int .u64 x285008_1):=(blk_cell BK284.out 8).trans rfl; have hcz27_9:w26.cell? ⟨gb284,9,none⟩=some (.bool x285009_1):=(blk_cell BK284.out 9).trans rfl; have hfz27_0:=blk_frozen BK284.out 0; have hfz27_1:=blk_frozen BK284.out 1; have hfz27_2:=blk_frozen BK284.out 2; have hfz27_3:=blk_frozen BK284.out 3; have hfz27_4:=blk_frozen BK284.out 4; have hfz27_5:=blk_frozen BK284.out 5; have hfz27_6:=blk_frozen BK284.out 6; have hfz27_7:=blk_frozen BK284.out 7; have hfz27_8:=blk_frozen BK284.out 8; have hfz27_9:=blk_frozen BK284.out 9))
     refine bodyPost_ret (results_ctt rfl _ _ gb284 31 #[.int .u64 t297,.bool t298,.int .u64 t299,.bool t300,.int .u64 t301,.bool t302,.int .u64 t303,.bool t304,.int .u64 t305,.bool t306] (0,0) _ rfl (by (with_reducible repeat (first | refine blk_drewN ?_ _ | refine blk_drew ?_ | refine blk_alloc ?_ _)); refine blk_put (cs:=#[.int .u64 t297,.bool t298,.int .u64 t299,.bool t300,.int .u64 t301,.bool t302,.int .u64 t303,.bool t304,.int .u64 t305,.bool x285009_1]) ?_ 9 _ rfl; (with_reducible repeat (first | refine blk_drewN ?_ _ | refine blk_drew ?_ | refine blk_alloc ?_ _)); refine blk_put (cs:=#[.int .u64 t297,.bool t298,.int .u64 t299,.bool t300,.int .u64 t301,.bool t302,.int .u64 t303,.bool t304,.int .u64 x285008_1,.bool x285009_1]) ?_ 8 _ rfl; (with_reducible repeat (first | refine blk_drewN ?_ _ | refine blk_drew ?_ | refine blk_alloc ?_ _)); refine blk_put (cs:=#[.int .u64 t297,.bool t298,.int .u64 t299,.bool t300,.int .u64 t301,.bool t302,.int .u64 t303,.bool x285007_1,.int .u64 x285008_1,.bool x285009_1]) ?_ 7 _ rfl; (with_reducible repeat (first | refine blk_drewN ?_ _ | refine blk_drew ?_ | refine blk_alloc ?_ _)); refine blk_put (cs:=#[.int .u64 t297,.bool t298,.int .u64 t299,.bool t300,.int .u64 t301,.bool t302,.int .u64 x285006_1,.bool x285007_1,.int .u64 x285008_1,.bool x285009_1]) ?_ 6 _ rfl; (with_reducible repeat (first | refine blk_drewN ?_ _ | refine blk_drew ?_ | refine blk_alloc ?_ _)); refine blk_put (cs:=#[.int .u64 t297,.bool t298,.int .u64 t299,.bool t300,.int .u64 t301,.bool x285005_1,.int .u64 x285006_1,.bool x285007_1,.int .u64 x285008_1,.bool x285009_1]) ?_ 5 _ rfl; (with_reducible repeat (first | refine blk_drewN ?_ _ | refine blk_drew ?_ | refine blk_alloc ?_ _)); refine blk_put (cs:=#[.int .u64 t297,.bool t298,.int .u64 t299,.bool t300,.int .u64 x285004_1,.bool x285005_1,.int .u64 x285006_1,.bool x285007_1,.int .u64 x285008_1,.bool x285009_1]) ?_ 4 _ rfl; (with_reducible repeat (first | refine blk_drewN ?_ _ | refine blk_drew ?_ | refine blk_alloc ?_ _)); refine blk_put (cs:=#[.int .u64 t297,.bool t298,.int .u64 t299,.bool x285003_1,.int .u64 x285004_1,.bool x285005_1,.int .u64 x285006_1,.bool x285007_1,.int .u64 x285008_1,.bool x285009_1]) ?_ 3 _ rfl; (with_reducible repeat (first | refine blk_drewN ?_ _ | refine blk_drew ?_ | refine blk_alloc ?_ _)); refine blk_put (cs:=#[.int .u64 t297,.bool t298,.int .u64 x285002_1,.bool x285003_1,.int .u64 x285004_1,.bool x285005_1,.int .u64 x285006_1,.bool x285007_1,.int .u64 x285008_1,.bool x285009_1]) ?_ 2 _ rfl; (with_reducible repeat (first | refine blk_drewN ?_ _ | refine blk_drew ?_ | refine blk_alloc ?_ _)); refine blk_put (cs:=#[.int .u64 t297,.bool x285001_1,.int .u64 x285002_1,.bool x285003_1,.int .u64 x285004_1,.bool x285005_1,.int .u64 x285006_1,.bool x285007_1,.int .u64 x285008_1,.bool x285009_1]) ?_ 1 _ rfl; (with_reducible repeat (first | refine blk_drewN ?_ _ | refine blk_drew ?_ | refine blk_alloc ?_ _)); refine blk_put (cs:=#[.int .u64 x285000_1,.bool x285001_1,.int .u64 x285002_1,.bool x285003_1,.int .u64 x285004_1,.bool x285005_1,.int .u64 x285006_1,.bool x285007_1,.int .u64 x285008_1,.bool x285009_1]) ?_ 0 _ rfl; (with_reducible repeat (first | refine blk_drewN ?_ _ | refine blk_drew ?_ | refine blk_alloc ?_ _)); exact BK284.out) Tryz.underlying31 rfl (by kernel_rfl)) rfl ?_
     exact ⟨by first | rfl | (simp [errW_none,errW_some] <;> rfl) | (simp [*,errW_none,errW_some] <;> rfl),by repeat (first | (with_reducible first | exact HB.out | apply below_alloc | apply pw_below_drewN | apply below_drew1 | refine below_set ?_ GE284.out) | exact HB.out)⟩
 ·rw [if_neg c3] at H
  have c3b0:(t286 == 0)=false:=beq_eq_false_iff_ne.mpr c3
  have c3b1:(t286 != 0)=true:=bne_iff_ne.mpr c3
  simp only [Option.some.injEq,Prod.mk.injEq] at H
  obtain ⟨rfl,rfl,rfl,rfl,rfl,rfl,rfl,rfl,rfl,rfl,rfl,rfl⟩ :=H
  go_enter Tryz.func33,Tryz.ntmps33
  go_wp2_with (first | ((with_reducible refine gate_dst (N:=2) rfl ?_); refine box_event ?hg (N:=2) ?hd (cs:=#[.int .u64 0,.bool false,.int .u64 0,.bool false,.int .u64 0,.bool false,.int .u64 0,.bool false,.int .u64 0,.bool false]) (t:=31) ?hr ?_; (case hd=>rfl); (case hg=>rfl); (case hr=>first | (go_simp; done) | (go_simp; rfl)); intro gb284 hg w28 hbox hb; have n0_:=Aside0.mk (below_step (by repeat (first | (with_reducible first | exact HB.out | apply below_alloc | apply pw_below_drewN | apply below_drew1) | exact HB.out)) hb); have n1_:=Aside0.mk (hbox); have n2_:=Aside0.mk ((by rw [hg]; exact (below_size (by repeat (first | (with_reducible first | exact HB.out | apply below_alloc | apply pw_below_drewN | apply below_drew1) | exact HB.out))):w.heap.size≤gb284)); have n3_:=Aside0.mk ((by rw [hg]; exact (below_size (by repeat (first | (with_reducible first | exact HB.out | apply below_alloc | apply pw_below_drewN | apply below_drew1) | exact HB.out))):w.heap.size≤gb284)); clear HB; have HB:=n0_; have BK284:=n1_; have GW284:=n2_; have GE284:=n3_; clear n0_ n1_ n2_ n3_; clear hb hbox hg) | ((with_reducible refine gate_callee (f:=55) rfl ?_); refine goesL_ (some 13) rfl rfl Tryz.func55 (by kernel_rfl) rfl #[.string a0] rfl (by (try simp only [List.map_toArray,List.map_cons,List.map_nil]); first | done | rfl | (simp only [List.length_drop,List.length_take]; rfl)) ?_; (with_reducible refine (complineref17_Fields.calls k a0 t285 t286 _ A2.out).mono ?_); rintro e w29 ⟨v287,rfl,ho0,hb⟩; refine ⟨_,rfl,?_⟩; have n0_:=Aside0.mk (Kd.R_lower ho0 (below_size (by repeat (first | (with_reducible first | exact HB.out | apply below_alloc | apply pw_below_drewN | apply below_drew1 | refine below_set ?_ GE284.out) | exact HB.out)))); have n1_:=Aside0.mk (blk_below (g:=gb284) (o:=.cells #[.int .u64 0,.bool false,.int .u64 0,.bool false,.int .u64 0,.bool false,.int .u64 0,.bool false,.int .u64 0,.bool false] 31 (0,0)) (by (with_reducible repeat (first | refine blk_drewN ?_ _ | refine blk_drew ?_ | refine blk_alloc ?_ _)); exact BK284.out) hb); have n2_:=Aside0.mk (below_step (by repeat (first | (with_reducible first | exact HB.out | apply below_alloc | apply pw_below_drewN | apply below_drew1 | refine below_set ?_ GE284.out) | exact HB.out)) hb); clear BK284; clear HB; have HO288:=n0_; have BK284:=n1_; have HB:=n2_; clear n0_ n1_ n2_; (try clear hb); (try clear hb2); (try clear hk); (try clear hi); (try clear ho0); have hcz30_0:w29.cell? ⟨gb284,0,none⟩=some (.int .u64 0):=(blk_cell BK284.out 0).trans rfl; have hcz30_1:w29.cell? ⟨gb284,1,none⟩=some (.bool false):=(blk_cell BK284.out 1).trans rfl; have hcz30_2:w29.cell? ⟨gb284,2,none⟩=some (.int .u64 0):=(blk_cell BK284.out 2).trans rfl; have hcz30_3:w29.cell? ⟨gb284,3,none⟩=some (.bool false):=(blk_cell BK284.out 3).trans rfl; have hcz30_4:w29.cell? ⟨gb284,4,none⟩=some (.int .u64 0):=(blk_cell BK284.out 4).trans rfl; have hcz30_5:w29.cell? ⟨gb284,5,none⟩=some (.bool false):=(blk_cell BK284.out 5).trans rfl; have hcz30_6:w29.cell? ⟨gb284,6,none⟩=some (.int .u64 0):=(blk_cell BK284.out 6).trans rfl; have hcz30_7:w29.cell? ⟨gb284,7,none⟩=some (.bool false):=(blk_cell BK284.out 7).trans rfl; have hcz30_8:w29.cell? ⟨gb284,8,none⟩=some (.int .u64 0):=(blk_cell BK284.out 8).trans rfl; have hcz30_9:w29.cell? ⟨gb284,9,none⟩=some (.bool false):=(blk_cell BK284.out 9).trans rfl; have hfz30_0:=blk_frozen BK284.out 0; have hfz30_1:=blk_frozen BK284.out 1; have hfz30_2:=blk_frozen BK284.out 2; have hfz30_3:=blk_frozen BK284.out 3; have hfz30_4:=blk_frozen BK284.out 4; have hfz30_5:=blk_frozen BK284.out 5; have hfz30_6:=blk_frozen BK284.out 6; have hfz30_7:=blk_frozen BK284.out 7; have hfz30_8:=blk_frozen BK284.out 8; have hfz30_9:=blk_frozen BK284.out 9))
  refine bodyPost_ret (results_ctt rfl _ _ gb284 31 #[.int .u64 0,.bool false,.int .u64 0,.bool false,.int .u64 0,.bool false,.int .u64 0,.bool false,.int .u64 0,.bool false] (0,0) _ rfl (by (with_reducible repeat (first | refine blk_drewN ?_ _ | refine blk_drew ?_ | refine blk_alloc ?_ _)); refine blk_put (cs:=#[.int .u64 0,.bool false,.int .u64 0,.bool false,.int .u64 0,.bool false,.int .u64 0,.bool false,.int .u64 0,.bool false]) ?_ 9 _ rfl; (with_reducible repeat (first | refine blk_drewN ?_ _ | refine blk_drew ?_ | refine blk_alloc ?_ _)); refine blk_put (cs:=#[.int .u64 0,.bool false,.int .u64 0,.bool false,.int .u64 0,.bool false,.int .u64 0,.bool false,.int .u64 0,.bool false]) ?_ 8 _ rfl; (with_reducible repeat (first | refine blk_drewN ?_ _ | refine blk_drew ?_ | refine blk_alloc ?_ _)); refine blk_put (cs:=#[.int .u64 0,.bool false,.int .u64 0,.bool false,.int .u64 0,.bool false,.int .u64 0,.bool false,.int .u64 0,.bool false]) ?_ 7 _ rfl; (with_reducible repeat (first | refine blk_drewN ?_ _ | refine blk_drew ?_ | refine blk_alloc ?_ _)); refine blk_put (cs:=#[.int .u64 0,.bool false,.int .u64 0,.bool false,.int .u64 0,.bool false,.int .u64 0,.bool false,.int .u64 0,.bool false]) ?_ 6 _ rfl; (with_reducible repeat (first | refine blk_drewN ?_ _ | refine blk_drew ?_ | refine blk_alloc ?_ _)); refine blk_put (cs:=#[.int .u64 0,.bool false,.int .u64 0,.bool false,.int .u64 0,.bool false,.int .u64 0,.bool false,.int .u64 0,.bool false]) ?_ 5 _ rfl; (with_reducible repeat (first | refine blk_drewN ?_ _ | refine blk_drew ?_ | refine blk_alloc ?_ _)); refine blk_put (cs:=#[.int .u64 0,.bool false,.int .u64 0,.bool false,.int .u64 0,.bool false,.int .u64 0,.bool false,.int .u64 0,.bool false]) ?_ 4 _ rfl; (with_reducible repeat (first | refine blk_drewN ?_ _ | refine blk_drew ?_ | refine blk_alloc ?_ _)); refine blk_put (cs:=#[.int .u64 0,.bool false,.int .u64 0,.bool false,.int .u64 0,.bool false,.int .u64 0,.bool false,.int .u64 0,.bool false]) ?_ 3 _ rfl; (with_reducible repeat (first | refine blk_drewN ?_ _ | refine blk_drew ?_ | refine blk_alloc ?_ _)); refine blk_put (cs:=#[.int .u64 0,.bool false,.int .u64 0,.bool false,.int .u64 0,.bool false,.int .u64 0,.bool false,.int .u64 0,.bool false]) ?_ 2 _ rfl; (with_reducible repeat (first | refine blk_drewN ?_ _ | refine blk_drew ?_ | refine blk_alloc ?_ _)); refine blk_put (cs:=#[.int .u64 0,.bool false,.int .u64 0,.bool false,.int .u64 0,.bool false,.int .u64 0,.bool false,.int .u64 0,.bool false]) ?_ 1 _ rfl; (with_reducible repeat (first | refine blk_drewN ?_ _ | refine blk_drew ?_ | refine blk_alloc ?_ _)); refine blk_put (cs:=#[.int .u64 0,.bool false,.int .u64 0,.bool false,.int .u64 0,.bool false,.int .u64 0,.bool false,.int .u64 0,.bool false]) ?_ 0 _ rfl; (with_reducible repeat (first | refine blk_drewN ?_ _ | refine blk_drew ?_ | refine blk_alloc ?_ _)); exact BK284.out) Tryz.underlying31 rfl (by kernel_rfl)) rfl ?_
  exact ⟨by first | rfl | (simp [errW_none,errW_some] <;> rfl) | (simp [*,errW_none,errW_some] <;> rfl),by repeat (first | (with_reducible first | exact HB.out | apply below_alloc | apply pw_below_drewN | apply below_drew1 | refine below_set ?_ GE284.out) | exact HB.out)⟩
def complineref20_Tidy.f (k:Nat)(a0:ByteArray):Option (ByteArray × Int × Int):=(complineref19_Parse.f k a0).bind fun bt307=>(if bt307.2.2.2.2.2.2.2.2.2.2.2=0 then ((complineref20_Spec.f k bt307.1 bt307.2.1 bt307.2.2.1 bt307.2.2.2.1 bt307.2.2.2.2.1 bt307.2.2.2.2.2.1 bt307.2.2.2.2.2.2.1 bt307.2.2.2.2.2.2.2.1 bt307.2.2.2.2.2.2.2.2.1 bt307.2.2.2.2.2.2.2.2.2.1).bind fun bt320=>(some (bt320.1,bt320.2.1,bt320.2.2))) else (some ((⟨#[]⟩:ByteArray),bt307.2.2.2.2.2.2.2.2.2.2.1,bt307.2.2.2.2.2.2.2.2.2.2.2)))
set_option maxHeartbeats 8000000 in
set_option maxRecDepth 100000 in
theorem complineref20_Tidy.calls (k:Nat)(a0:ByteArray)(r1:ByteArray)(r2:Int)(r3:Int)(w:World)(h:complineref20_Tidy.f k a0=some (r1,r2,r3)) :
  Calls Tryz.prog 15 #[.string a0] w fun e w'=>e=.returned (.tuple #[.string r1,.int .i64 r2,.int .i64 r3])∧Below w.heap.size w w':=by
 have hu31:=Tryz.underlying31
 have HB:=Aside0.mk (Below.refl w.heap.size w)
 have H:((complineref19_Parse.f k a0).bind fun bt307=>(if bt307.2.2.2.2.2.2.2.2.2.2.2=0 then ((complineref20_Spec.f k bt307.1 bt307.2.1 bt307.2.2.1 bt307.2.2.2.1 bt307.2.2.2.2.1 bt307.2.2.2.2.2.1 bt307.2.2.2.2.2.2.1 bt307.2.2.2.2.2.2.2.1 bt307.2.2.2.2.2.2.2.2.1 bt307.2.2.2.2.2.2.2.2.2.1).bind fun bt320=>(some (bt320.1,bt320.2.1,bt320.2.2))) else (some ((⟨#[]⟩:ByteArray),bt307.2.2.2.2.2.2.2.2.2.2.1,bt307.2.2.2.2.2.2.2.2.2.2.2))))=some (r1,r2,r3):=h
 clear h
 replace H:=Option.bind_eq_some_iff.mp H
 obtain ⟨⟨t307,t308,t309,t310,t311,t312,t313,t314,t315,t316,t317,t318⟩,A20,H⟩ :=H
 replace H:(if t318=0 then ((complineref20_Spec.f k t307 t308 t309 t310 t311 t312 t313 t314 t315 t316).bind fun bt320=>(some (bt320.1,bt320.2.1,bt320.2.2))) else (some ((⟨#[]⟩:ByteArray),t317,t318)))=some (r1,r2,r3):=H
 have A2:=Aside0.mk A20
 clear A20
 by_cases c3:t318=0
 ·rw [if_pos c3] at H
  have c3b0:(t318 == 0)=true:=beq_iff_eq.mpr c3
  have c3b1:(t318 != 0)=false:=bne_eq_false_iff_eq.mpr c3
  clear c3
  replace H:=Option.bind_eq_some_iff.mp H
  obtain ⟨⟨t320,t321,t322⟩,A40,H⟩ :=H
  replace H:(some (t320,t321,t322))=some (r1,r2,r3):=H
  have A4:=Aside0.mk A40
  clear A40
  simp only [Option.some.injEq,Prod.mk.injEq] at H
  obtain ⟨rfl,rfl,rfl⟩ :=H
  go_enter Tryz.func15,Tryz.ntmps15
  go_wp2_with (first | ((with_reducible refine gate_callee (f:=33) rfl ?_); refine goesL_ (some 10) rfl rfl Tryz.func33 (by kernel_rfl) rfl #[.string a0] rfl (by (try simp only [List.map_toArray,List.map_cons,List.map_nil]); first | done | rfl | (simp only [List.length_drop,List.length_take]; rfl)) ?_; (with_reducible refine (complineref19_Parse.calls k a0 t307 t308 t309 t310 t311 t312 t313 t314 t315 t316 t317 t318 _ A2.out).mono ?_); rintro e w5 ⟨rfl,hb⟩; refine ⟨_,rfl,?_⟩; have n0_:=Aside0.mk (below_step (by repeat (first | (with_reducible first | exact HB.out | apply below_alloc | apply pw_below_drewN | apply below_drew1) | exact HB.out)) hb); clear HB; have HB:=n0_; clear n0_; (try clear hb); (try clear hb2); (try clear hk); (try clear hi)) | ((with_reducible refine gate_dst (N:=5) rfl ?_); refine box_event ?hg (N:=5) ?hd (cs:=#[.int .u64 0,.bool false,.int .u64 0,.bool false,.int .u64 0,.bool false,.int .u64 0,.bool false,.int .u64 0,.bool false]) (t:=31) ?hr ?_; (case hd=>rfl); (case hg=>rfl); (case hr=>first | (go_simp; done) | (go_simp; rfl)); intro gb319 hg w6 hbox hb; have n0_:=Aside0.mk (below_step (by repeat (first | (with_reducible first | exact HB.out | apply below_alloc | apply pw_below_drewN | apply below_drew1) | exact HB.out)) hb); have n1_:=Aside0.mk (hbox); have n2_:=Aside0.mk ((by rw [hg]; exact (below_size (by repeat (first | (with_reducible first | exact HB.out | apply below_alloc | apply pw_below_drewN | apply below_drew1) | exact HB.out))):w.heap.size≤gb319)); have n3_:=Aside0.mk ((by rw [hg]; exact (below_size (by repeat (first | (with_reducible first | exact HB.out | apply below_alloc | apply pw_below_drewN | apply below_drew1) | exact HB.out))):w.heap.size≤gb319)); clear HB; have HB:=n0_; have BK319:=n1_; have GW319:=n2_; have GE319:=n3_; clear n0_ n1_ n2_ n3_; clear hb hbox hg; have hcz7_0:w6.cell? ⟨gb319,0,none⟩=some (.int .u64 0):=(blk_cell BK319.out 0).trans rfl; have hcz7_1:w6.cell? ⟨gb319,1,none⟩=some (.bool false):=(blk_cell BK319.out 1).trans rfl; have hcz7_2:w6.cell? ⟨gb319,2,none⟩=some (.int .u64 0):=(blk_cell BK319.out 2).trans rfl; have hcz7_3:w6.cell? ⟨gb319,3,none⟩=some (.bool false):=(blk_cell BK319.out 3).trans rfl; have hcz7_4:w6.cell? ⟨gb319,4,none⟩=some (.int .u64 0):=(blk_cell BK319.out 4).trans rfl; have hcz7_5:w6.cell? ⟨gb319,5,none⟩=some (.bool false):=(blk_cell BK319.out 5).trans rfl; have hcz7_6:w6.cell? ⟨gb319,6,none⟩=some (.int .u64 0):=(blk_cell BK319.out 6).trans rfl; have hcz7_7:w6.cell? ⟨gb319,7,none⟩=some (.bool false):=(blk_cell BK319.out 7).trans rfl; have hcz7_8:w6.cell? ⟨gb319,8,none⟩=some (.int .u64 0):=(blk_cell BK319.out 8).trans rfl; have hcz7_9:w6.cell? ⟨gb319,9,none⟩=some (.bool false):=(blk_cell BK319.out 9).trans rfl; have hfz7_0:=blk_frozen BK319.out 0; have hfz7_1:=blk_frozen BK319.out 1; have hfz7_2:=blk_frozen BK319.out 2; have hfz7_3:=blk_frozen BK319.out 3; have hfz7_4:=blk_frozen BK319.out 4; have hfz7_5:=blk_frozen BK319.out 5; have hfz7_6:=blk_frozen BK319.out 6; have hfz7_7:=blk_frozen BK319.out 7; have hfz7_8:=blk_frozen BK319.out 8; have hfz7_9:=blk_frozen BK319.out 9) | ((with_reducible refine gate_callee (f:=13) rfl ?_); refine goesL_ (some 19) rfl rfl Tryz.func13 (by kernel_rfl) rfl #[.agg #[.int .u64 t307,.bool t308,.int .u64 t309,.bool t310,.int .u64 t311,.bool t312,.int .u64 t313,.bool t314,.int .u64 t315,.bool t316]] rfl (by (try simp only [List.map_toArray,List.map_cons,List.map_nil]); first | done | rfl | (simp only [List.length_drop,List.length_take]; rfl)) ?_; (with_reducible refine (complineref20_Spec.calls k t307 t308 t309 t310 t311 t312 t313 t314 t315 t316 t320 t321 t322 _ A4.out).mono ?_); rintro e w8 ⟨rfl,hb⟩; refine ⟨_,rfl,?_⟩; have n0_:=Aside0.mk (blk_below (g:=gb319) (o:=.cells #[.int .u64 t307,.bool t308,.int .u64 t309,.bool t310,.int .u64 t311,.bool t312,.int .u64 t313,.bool t314,.int .u64 t315,.bool t316] 31 (0,0)) (by (with_reducible repeat (first | refine blk_drewN ?_ _ | refine blk_drew ?_ | refine blk_alloc ?_ _)); refine blk_put (cs:=#[.int .u64 t307,.bool t308,.int .u64 t309,.bool t310,.int .u64 t311,.bool t312,.int .u64 t313,.bool t314,.int .u64 t315,.bool false]) ?_ 9 _ rfl; (with_reducible repeat (first | refine blk_drewN ?_ _ | refine blk_drew ?_ | refine blk_alloc ?_ _)); refine blk_put (cs:=#[.int .u64 t307,.bool t308,.int .u64 t309,.bool t310,.int .u64 t311,.bool t312,.int .u64 t313,.bool t314,.int .u64 0,.bool false]) ?_ 8 _ rfl; (with_reducible repeat (first | refine blk_drewN ?_ _ | refine blk_drew ?_ | refine blk_alloc ?_ _)); refine blk_put (cs:=#[.int .u64 t307,.bool t308,.int .u64 t309,.bool t310,.int .u64 t311,.bool t312,.int .u64 t313,.bool false,.int .u64 0,.bool false]) ?_ 7 _ rfl; (with_reducible repeat (first | refine blk_drewN ?_ _ | refine blk_drew ?_ | refine blk_alloc ?_ _)); refine blk_put (cs:=#[.int .u64 t307,.bool t308,.int .u64 t309,.bool t310,.int .u64 t311,.bool t312,.int .u64 0,.bool false,.int .u64 0,.bool false]) ?_ 6 _ rfl; (with_reducible repeat (first | refine blk_drewN ?_ _ | refine blk_drew ?_ | refine blk_alloc ?_ _)); refine blk_put (cs:=#[.int .u64 t307,.bool t308,.int .u64 t309,.bool t310,.int .u64 t311,.bool false,.int .u64 0,.bool false,.int .u64 0,.bool false]) ?_ 5 _ rfl; (with_reducible repeat (first | refine blk_drewN ?_ _ | refine blk_drew ?_ | refine blk_alloc ?_ _)); refine blk_put (cs:=#[.int .u64 t307,.bool t308,.int .u64 t309,.bool t310,.int .u64 0,.bool false,.int .u64 0,.bool false,.int .u64 0,.bool false]) ?_ 4 _ rfl; (with_reducible repeat (first | refine blk_drewN ?_ _ | refine blk_drew ?_ | refine blk_alloc ?_ _)); refine blk_put (cs:=#[.int .u64 t307,.bool t308,.int .u64 t309,.bool false,.int .u64 0,.bool false,.int .u64 0,.bool false,.int .u64 0,.bool false]) ?_ 3 _ rfl; (with_reducible repeat (first | refine blk_drewN ?_ _ | refine blk_drew ?_ | refine blk_alloc ?_ _)); refine blk_put (cs:=#[.int .u64 t307,.bool t308,.int .u64 0,.bool false,.int .u64 0,.bool false,.int .u64 0,.bool false,.int .u64 0,.bool false]) ?_ 2 _ rfl; (with_reducible repeat (first | refine blk_drewN ?_ _ | refine blk_drew ?_ | refine blk_alloc ?_ _)); refine blk_put (cs:=#[.int .u64 t307,.bool false,.int .u64 0,.bool false,.int .u64 0,.bool false,.int .u64 0,.bool false,.int .u64 0,.bool false]) ?_ 1 _ rfl; (with_reducible repeat (first | refine blk_drewN ?_ _ | refine blk_drew ?_ | refine blk_alloc ?_ _)); refine blk_put (cs:=#[.int .u64 0,.bool false,.int .u64 0,.bool false,.int .u64 0,.bool false,.int .u64 0,.bool false,.int .u64 0,.bool false]) ?_ 0 _ rfl; (with_reducible repeat (first | refine blk_drewN ?_ _ | refine blk_drew ?_ | refine blk_alloc ?_ _)); exact BK319.out) hb); have n1_:=Aside0.mk (below_step (by repeat (first | (with_reducible first | exact HB.out | apply below_alloc | apply pw_below_drewN | apply below_drew1 | refine below_set ?_ GE319.out) | exact HB.out)) hb); clear BK319; clear HB; have BK319:=n0_; have HB:=n1_; clear n0_ n1_; (try clear hb); (try clear hb2); (try clear hk); (try clear hi)))
  go_ret3
  exact ⟨by first | rfl | (simp [errW_none,errW_some] <;> rfl) | (simp [*,errW_none,errW_some] <;> rfl),by repeat (first | (with_reducible first | exact HB.out | apply below_alloc | apply pw_below_drewN | apply below_drew1 | refine below_set ?_ GE319.out) | exact HB.out)⟩
 ·rw [if_neg c3] at H
  have c3b0:(t318 == 0)=false:=beq_eq_false_iff_ne.mpr c3
  have c3b1:(t318 != 0)=true:=bne_iff_ne.mpr c3
  simp only [Option.some.injEq,Prod.mk.injEq] at H
  obtain ⟨rfl,rfl,rfl⟩ :=H
  go_enter Tryz.func15,Tryz.ntmps15
  go_wp2_with (first | ((with_reducible refine gate_callee (f:=33) rfl ?_); refine goesL_ (some 10) rfl rfl Tryz.func33 (by kernel_rfl) rfl #[.string a0] rfl (by (try simp only [List.map_toArray,List.map_cons,List.map_nil]); first | done | rfl | (simp only [List.length_drop,List.length_take]; rfl)) ?_; (with_reducible refine (complineref19_Parse.calls k a0 t307 t308 t309 t310 t311 t312 t313 t314 t315 t316 t317 t318 _ A2.out).mono ?_); rintro e w9 ⟨rfl,hb⟩; refine ⟨_,rfl,?_⟩; have n0_:=Aside0.mk (below_step (by repeat (first | (with_reducible first | exact HB.out | apply below_alloc | apply pw_below_drewN | apply below_drew1) | exact HB.out)) hb); clear HB; have HB:=n0_; clear n0_; (try clear hb); (try clear hb2); (try clear hk); (try clear hi)) | ((with_reducible refine gate_dst (N:=5) rfl ?_); refine box_event ?hg (N:=5) ?hd (cs:=#[.int .u64 0,.bool false,.int .u64 0,.bool false,.int .u64 0,.bool false,.int .u64 0,.bool false,.int .u64 0,.bool false]) (t:=31) ?hr ?_; (case hd=>rfl); (case hg=>rfl); (case hr=>first | (go_simp; done) | (go_simp; rfl)); intro gb319 hg w10 hbox hb; have n0_:=Aside0.mk (below_step (by repeat (first | (with_reducible first | exact HB.out | apply below_alloc | apply pw_below_drewN | apply below_drew1) | exact HB.out)) hb); have n1_:=Aside0.mk (hbox); have n2_:=Aside0.mk ((by rw [hg]; exact (below_size (by repeat (first | (with_reducible first | exact HB.out | apply below_alloc | apply pw_below_drewN | apply below_drew1) | exact HB.out))):w.heap.size≤gb319)); have n3_:=Aside0.mk ((by rw [hg]; exact (below_size (by repeat (first | (with_reducible first | exact HB.out | apply below_alloc | apply pw_below_drewN | apply below_drew1) | exact HB.out))):w.heap.size≤gb319)); clear HB; have HB:=n0_; have BK319:=n1_; have GW319:=n2_; have GE319:=n3_; clear n0_ n1_ n2_ n3_; clear hb hbox hg; have hcz11_0:w10.cell? ⟨gb319,0,none⟩=some (.int .u64 0):=(blk_cell BK319.out 0).trans rfl; have hcz11_1:w10.cell? ⟨gb319,1,none⟩=some (.bool false):=(blk_cell BK319.out 1).trans rfl; have hcz11_2:w10.cell? ⟨gb319,2,none⟩=some (.int .u64 0):=(blk_cell BK319.out 2).trans rfl; have hcz11_3:w10.cell? ⟨gb319,3,none⟩=some (.bool false):=(blk_cell BK319.out 3).trans rfl; have hcz11_4:w10.cell? ⟨gb319,4,none⟩=some (.int .u64 0):=(blk_cell BK319.out 4).trans rfl; have hcz11_5:w10.cell? ⟨gb319,5,none⟩=some (.bool false):=(blk_cell BK319.out 5).trans rfl; have hcz11_6:w10.cell? ⟨gb319,6,none⟩=some (.int .u64 0):=(blk_cell BK319.out 6).trans rfl; have hcz11_7:w10.cell? ⟨gb319,7,none⟩=some (.bool false):=(blk_cell BK319.out 7).trans rfl; have hcz11_8:w10.cell? ⟨gb319,8,none⟩=some (.int .u64 0):=(blk_cell BK319.out 8).trans rfl; have hcz11_9:w10.cell? ⟨gb319,9,none⟩=some (.bool false):=(blk_cell BK319.out 9).trans rfl; have hfz11_0:=blk_frozen BK319.out 0; have hfz11_1:=blk_frozen BK319.out 1; have hfz11_2:=blk_frozen BK319.out 2; have hfz11_3:=blk_frozen BK319.out 3; have hfz11_4:=blk_frozen BK319.out 4; have hfz11_5:=blk_frozen BK319.out 5; have hfz11_6:=blk_frozen BK319.out 6; have hfz11_7:=blk_frozen BK319.out 7; have hfz11_8:=blk_frozen BK319.out 8; have hfz11_9:=blk_frozen BK319.out 9))
  go_ret3
  exact ⟨by first | rfl | (simp [errW_none,errW_some] <;> rfl) | (simp [*,errW_none,errW_some] <;> rfl),by repeat (first | (with_reducible first | exact HB.out | apply below_alloc | apply pw_below_drewN | apply below_drew1 | refine below_set ?_ GE319.out) | exact HB.out)⟩
def complinelaw20_ShowSpecs.f (k:Nat)(a0_0:Int)(a0_1:Bool)(a0_2:Int)(a0_3:Bool)(a0_4:Int)(a0_5:Bool)(a0_6:Int)(a0_7:Bool)(a0_8:Int)(a0_9:Bool)(a1:ByteArray):Option (Bool):=(complinelaw20_works.f).bind fun t324=>(if t324=true then (if (a1.size:Int) > 300 then (some t324) else ((show_Spec.f a0_0 a0_1 a0_2 a0_3 a0_4 a0_5 a0_6 a0_7 a0_8 a0_9).bind fun bt325=>((complineref20_Spec.f k a0_0 a0_1 a0_2 a0_3 a0_4 a0_5 a0_6 a0_7 a0_8 a0_9).bind fun bt328=>((show_Tidy.f a1).bind fun bt331=>((complineref20_Tidy.f k a1).bind fun bt334=>(if bt325.1.toList=bt328.1.toList then (if bt325.2.1=bt328.2.1 then (if bt325.2.2=bt328.2.2 then (if bt331.1.toList=bt334.1.toList then (if bt331.2.1=bt334.2.1 then (some (bt331.2.2 == bt334.2.2)) else (some false)) else (some false)) else (some false)) else (some false)) else (some false))))))) else (some false))
set_option maxHeartbeats 8000000 in
set_option maxRecDepth 100000 in
theorem complinelaw20_ShowSpecs.calls (k:Nat)(a0_0:Int)(a0_1:Bool)(a0_2:Int)(a0_3:Bool)(a0_4:Int)(a0_5:Bool)(a0_6:Int)(a0_7:Bool)(a0_8:Int)(a0_9:Bool)(a1:ByteArray)(w:World)(hT:Tab w)(h:complinelaw20_ShowSpecs.f k a0_0 a0_1 a0_2 a0_3 a0_4 a0_5 a0_6 a0_7 a0_8 a0_9 a1=some true) :
  Calls Tryz.prog 4 #[.agg #[.int .u64 a0_0,.bool a0_1,.int .u64 a0_2,.bool a0_3,.int .u64 a0_4,.bool a0_5,.int .u64 a0_6,.bool a0_7,.int .u64 a0_8,.bool a0_9],.string a1] w fun e w'=>e=.returned (.bool true)∧Below w.heap.size w w':=by
 have hu31:=Tryz.underlying31
 have HB:=Aside0.mk (Below.refl w.heap.size w)
 have H:((complinelaw20_works.f).bind fun t324=>(if t324=true then (if (a1.size:Int) > 300 then (some t324) else ((show_Spec.f a0_0 a0_1 a0_2 a0_3 a0_4 a0_5 a0_6 a0_7 a0_8 a0_9).bind fun bt325=>((complineref20_Spec.f k a0_0 a0_1 a0_2 a0_3 a0_4 a0_5 a0_6 a0_7 a0_8 a0_9).bind fun bt328=>((show_Tidy.f a1).bind fun bt331=>((complineref20_Tidy.f k a1).bind fun bt334=>(if bt325.1.toList=bt328.1.toList then (if bt325.2.1=bt328.2.1 then (if bt325.2.2=bt328.2.2 then (if bt331.1.toList=bt334.1.toList then (if bt331.2.1=bt334.2.1 then (some (bt331.2.2 == bt334.2.2)) else (some false)) else (some false)) else (some false)) else (some false)) else (some false))))))) else (some false)))=some true:=h
 clear h
 replace H:=Option.bind_eq_some_iff.mp H
 obtain ⟨t324,A30,H⟩ :=H
 replace H:(if t324=true then (if (a1.size:Int) > 300 then (some t324) else ((show_Spec.f a0_0 a0_1 a0_2 a0_3 a0_4 a0_5 a0_6 a0_7 a0_8 a0_9).bind fun bt325=>((complineref20_Spec.f k a0_0 a0_1 a0_2 a0_3 a0_4 a0_5 a0_6 a0_7 a0_8 a0_9).bind fun bt328=>((show_Tidy.f a1).bind fun bt331=>((complineref20_Tidy.f k a1).bind fun bt334=>(if bt325.1.toList=bt328.1.toList then (if bt325.2.1=bt328.2.1 then (if bt325.2.2=bt328.2.2 then (if bt331.1.toList=bt334.1.toList then (if bt331.2.1=bt334.2.1 then (some (bt331.2.2 == bt334.2.2)) else (some false)) else (some false)) else (some false)) else (some false)) else (some false))))))) else (some false))=some true:=H
 have A3:=Aside0.mk A30
 clear A30
 by_cases c4:t324=true
 ·subst c4
  have H1:(if (a1.size:Int) > 300 then (some true) else ((show_Spec.f a0_0 a0_1 a0_2 a0_3 a0_4 a0_5 a0_6 a0_7 a0_8 a0_9).bind fun bt325=>((complineref20_Spec.f k a0_0 a0_1 a0_2 a0_3 a0_4 a0_5 a0_6 a0_7 a0_8 a0_9).bind fun bt328=>((show_Tidy.f a1).bind fun bt331=>((complineref20_Tidy.f k a1).bind fun bt334=>(if bt325.1.toList=bt328.1.toList then (if bt325.2.1=bt328.2.1 then (if bt325.2.2=bt328.2.2 then (if bt331.1.toList=bt334.1.toList then (if bt331.2.1=bt334.2.1 then (some (bt331.2.2 == bt334.2.2)) else (some false)) else (some false)) else (some false)) else (some false)) else (some false)))))))=some true:=by rw [if_pos rfl] at H; exact H
  clear H
  have H:=H1
  clear H1
  by_cases c5:(a1.size:Int) > 300
  ·rw [if_pos c5] at H
   have c5b0:decide (300 < (a1.size:Int))=true:=decide_eq_true c5
   have c5b1:decide (300 < a1.size)=true:=decide_eq_true (by omega)
   clear c5
   clear H
   go_enter Tryz.func4,Tryz.ntmps4
   go_wp2_with (first | ((with_reducible refine gate_dst (N:=2) rfl ?_); refine box_event ?hg (N:=2) ?hd (cs:=#[.int .u64 a0_0,.bool a0_1,.int .u64 a0_2,.bool a0_3,.int .u64 a0_4,.bool a0_5,.int .u64 a0_6,.bool a0_7,.int .u64 a0_8,.bool a0_9]) (t:=31) ?hr ?_; (case hd=>rfl); (case hg=>rfl); (case hr=>first | (go_simp; done) | (go_simp; rfl)); intro gb323 hg w6 hbox hb; have n0_:=Aside0.mk (below_step (by repeat (first | (with_reducible first | exact HB.out | apply below_alloc | apply pw_below_drewN | apply below_drew1) | exact HB.out)) hb); have n1_:=Aside0.mk (hbox); have n2_:=Aside0.mk ((by rw [hg]; exact (below_size (by repeat (first | (with_reducible first | exact HB.out | apply below_alloc | apply pw_below_drewN | apply below_drew1) | exact HB.out))):w.heap.size≤gb323)); have n3_:=Aside0.mk ((by rw [hg]; exact (below_size (by repeat (first | (with_reducible first | exact HB.out | apply below_alloc | apply pw_below_drewN | apply below_drew1) | exact HB.out))):w.heap.size≤gb323)); clear HB; have HB:=n0_; have BK323:=n1_; have GW323:=n2_; have GE323:=n3_; clear n0_ n1_ n2_ n3_; clear hb hbox hg) | ((with_reducible refine gate_callee (f:=9) rfl ?_); refine goesL_ (some 18) rfl rfl Tryz.func9 (by kernel_rfl) rfl #[] rfl (by (try simp only [List.map_toArray,List.map_cons,List.map_nil]); first | done | rfl | (simp only [List.length_drop,List.length_take]; rfl)) ?_; (with_reducible refine (complinelaw20_works.calls  true _ (hT.keep (by repeat (first | (with_reducible first | exact HB.out | apply below_alloc | apply pw_below_drewN | apply below_drew1 | refine below_set ?_ GE323.out) | exact HB.out))) A3.out).mono ?_); rintro e w7 ⟨rfl,hb⟩; refine ⟨_,rfl,?_⟩; have n0_:=Aside0.mk (blk_below (g:=gb323) (o:=.cells #[.int .u64 a0_0,.bool a0_1,.int .u64 a0_2,.bool a0_3,.int .u64 a0_4,.bool a0_5,.int .u64 a0_6,.bool a0_7,.int .u64 a0_8,.bool a0_9] 31 (0,0)) (by (with_reducible repeat (first | refine blk_drewN ?_ _ | refine blk_drew ?_ | refine blk_alloc ?_ _)); exact BK323.out) hb); have n1_:=Aside0.mk (below_step (by repeat (first | (with_reducible first | exact HB.out | apply below_alloc | apply pw_below_drewN | apply below_drew1 | refine below_set ?_ GE323.out) | exact HB.out)) hb); clear BK323; clear HB; have BK323:=n0_; have HB:=n1_; clear n0_ n1_; (try clear hb); (try clear hb2); (try clear hk); (try clear hi)))
   go_ret
   exact ⟨by first | rfl | (simp [errW_none,errW_some] <;> rfl) | (simp [*,errW_none,errW_some] <;> rfl),by repeat (first | (with_reducible first | exact HB.out | apply below_alloc | apply pw_below_drewN | apply below_drew1 | refine below_set ?_ GE323.out) | exact HB.out)⟩
  ·rw [if_neg c5] at H
   have c5b0:decide (300 < (a1.size:Int))=false:=decide_eq_false c5
   have c5b1:decide (300 < a1.size)=false:=decide_eq_false (by omega)
   clear c5
   replace H:=Option.bind_eq_some_iff.mp H
   obtain ⟨⟨t325,t326,t327⟩,A80,H⟩ :=H
   replace H:((complineref20_Spec.f k a0_0 a0_1 a0_2 a0_3 a0_4 a0_5 a0_6 a0_7 a0_8 a0_9).bind fun bt328=>((show_Tidy.f a1).bind fun bt331=>((complineref20_Tidy.f k a1).bind fun bt334=>(if t325.toList=bt328.1.toList then (if t326=bt328.2.1 then (if t327=bt328.2.2 then (if bt331.1.toList=bt334.1.toList then (if bt331.2.1=bt334.2.1 then (some (bt331.2.2 == bt334.2.2)) else (some false)) else (some false)) else (some false)) else (some false)) else (some false)))))=some true:=H
   have A8:=Aside0.mk A80
   clear A80
   replace H:=Option.bind_eq_some_iff.mp H
   obtain ⟨⟨t328,t329,t330⟩,A90,H⟩ :=H
   replace H:((show_Tidy.f a1).bind fun bt331=>((complineref20_Tidy.f k a1).bind fun bt334=>(if t325.toList=t328.toList then (if t326=t329 then (if t327=t330 then (if bt331.1.toList=bt334.1.toList then (if bt331.2.1=bt334.2.1 then (some (bt331.2.2 == bt334.2.2)) else (some false)) else (some false)) else (some false)) else (some false)) else (some false))))=some true:=H
   have A9:=Aside0.mk A90
   clear A90
   replace H:=Option.bind_eq_some_iff.mp H
   obtain ⟨⟨t331,t332,t333⟩,A100,H⟩ :=H
   replace H:((complineref20_Tidy.f k a1).bind fun bt334=>(if t325.toList=t328.toList then (if t326=t329 then (if t327=t330 then (if t331.toList=bt334.1.toList then (if t332=bt334.2.1 then (some (t333 == bt334.2.2)) else (some false)) else (some false)) else (some false)) else (some false)) else (some false)))=some true:=H
   have A10:=Aside0.mk A100
   clear A100
   replace H:=Option.bind_eq_some_iff.mp H
   obtain ⟨⟨t334,t335,t336⟩,A110,H⟩ :=H
   replace H:(if t325.toList=t328.toList then (if t326=t329 then (if t327=t330 then (if t331.toList=t334.toList then (if t332=t335 then (some (t333 == t336)) else (some false)) else (some false)) else (some false)) else (some false)) else (some false))=some true:=H
   have A11:=Aside0.mk A110
   clear A110
   by_cases c12:t325.toList=t328.toList
   ·rw [if_pos c12] at H
    have c12b0:(t325.toList == t328.toList)=true:=beq_iff_eq.mpr c12
    have c12b1:(t325.toList != t328.toList)=false:=bne_eq_false_iff_eq.mpr c12
    clear c12
    by_cases c13:t326=t329
    ·rw [if_pos c13] at H
     have c13b0:(t326 == t329)=true:=beq_iff_eq.mpr c13
     have c13b1:(t326 != t329)=false:=bne_eq_false_iff_eq.mpr c13
     clear c13
     by_cases c14:t327=t330
     ·rw [if_pos c14] at H
      have c14b0:(t327 == t330)=true:=beq_iff_eq.mpr c14
      have c14b1:(t327 != t330)=false:=bne_eq_false_iff_eq.mpr c14
      clear c14
      by_cases c15:t331.toList=t334.toList
      ·rw [if_pos c15] at H
       have c15b0:(t331.toList == t334.toList)=true:=beq_iff_eq.mpr c15
       have c15b1:(t331.toList != t334.toList)=false:=bne_eq_false_iff_eq.mpr c15
       clear c15
       by_cases c16:t332=t335
       ·rw [if_pos c16] at H
        have c16b0:(t332 == t335)=true:=beq_iff_eq.mpr c16
        have c16b1:(t332 != t335)=false:=bne_eq_false_iff_eq.mpr c16
        clear c16
        replace H:=Option.some.inj H
        go_enter Tryz.func4,Tryz.ntmps4
        go_wp2_with (first | ((with_reducible refine gate_dst (N:=2) rfl ?_); refine box_event ?hg (N:=2) ?hd (cs:=#[.int .u64 a0_0,.bool a0_1,.int .u64 a0_2,.bool a0_3,.int .u64 a0_4,.bool a0_5,.int .u64 a0_6,.bool a0_7,.int .u64 a0_8,.bool a0_9]) (t:=31) ?hr ?_; (case hd=>rfl); (case hg=>rfl); (case hr=>first | (go_simp; done) | (go_simp; rfl)); intro gb323 hg w17 hbox hb; have n0_:=Aside0.mk (below_step (by repeat (first | (with_reducible first | exact HB.out | apply below_alloc | apply pw_below_drewN | apply below_drew1) | exact HB.out)) hb); have n1_:=Aside0.mk (hbox); have n2_:=Aside0.mk ((by rw [hg]; exact (below_size (by repeat (first | (with_reducible first | exact HB.out | apply below_alloc | apply pw_below_drewN | apply below_drew1) | exact HB.out))):w.heap.size≤gb323)); have n3_:=Aside0.mk ((by rw [hg]; exact (below_size (by repeat (first | (with_reducible first | exact HB.out | apply below_alloc | apply pw_below_drewN | apply below_drew1) | exact HB.out))):w.heap.size≤gb323)); clear HB; have HB:=n0_; have BK323:=n1_; have GW323:=n2_; have GE323:=n3_; clear n0_ n1_ n2_ n3_; clear hb hbox hg) | ((with_reducible refine gate_callee (f:=9) rfl ?_); refine goesL_ (some 18) rfl rfl Tryz.func9 (by kernel_rfl) rfl #[] rfl (by (try simp only [List.map_toArray,List.map_cons,List.map_nil]); first | done | rfl | (simp only [List.length_drop,List.length_take]; rfl)) ?_; (with_reducible refine (complinelaw20_works.calls  true _ (hT.keep (by repeat (first | (with_reducible first | exact HB.out | apply below_alloc | apply pw_below_drewN | apply below_drew1 | refine below_set ?_ GE323.out) | exact HB.out))) A3.out).mono ?_); rintro e w18 ⟨rfl,hb⟩; refine ⟨_,rfl,?_⟩; have n0_:=Aside0.mk (blk_below (g:=gb323) (o:=.cells #[.int .u64 a0_0,.bool a0_1,.int .u64 a0_2,.bool a0_3,.int .u64 a0_4,.bool a0_5,.int .u64 a0_6,.bool a0_7,.int .u64 a0_8,.bool a0_9] 31 (0,0)) (by (with_reducible repeat (first | refine blk_drewN ?_ _ | refine blk_drew ?_ | refine blk_alloc ?_ _)); exact BK323.out) hb); have n1_:=Aside0.mk (below_step (by repeat (first | (with_reducible first | exact HB.out | apply below_alloc | apply pw_below_drewN | apply below_drew1 | refine below_set ?_ GE323.out) | exact HB.out)) hb); clear BK323; clear HB; have BK323:=n0_; have HB:=n1_; clear n0_ n1_; (try clear hb); (try clear hb2); (try clear hk); (try clear hi); have hcz19_0:w18.cell? ⟨gb323,0,none⟩=some (.int .u64 a0_0):=(blk_cell BK323.out 0).trans rfl; have hcz19_1:w18.cell? ⟨gb323,1,none⟩=some (.bool a0_1):=(blk_cell BK323.out 1).trans rfl; have hcz19_2:w18.cell? ⟨gb323,2,none⟩=some (.int .u64 a0_2):=(blk_cell BK323.out 2).trans rfl; have hcz19_3:w18.cell? ⟨gb323,3,none⟩=some (.bool a0_3):=(blk_cell BK323.out 3).trans rfl; have hcz19_4:w18.cell? ⟨gb323,4,none⟩=some (.int .u64 a0_4):=(blk_cell BK323.out 4).trans rfl; have hcz19_5:w18.cell? ⟨gb323,5,none⟩=some (.bool a0_5):=(blk_cell BK323.out 5).trans rfl; have hcz19_6:w18.cell? ⟨gb323,6,none⟩=some (.int .u64 a0_6):=(blk_cell BK323.out 6).trans rfl; have hcz19_7:w18.cell? ⟨gb323,7,none⟩=some (.bool a0_7):=(blk_cell BK323.out 7).trans rfl; have hcz19_8:w18.cell? ⟨gb323,8,none⟩=some (.int .u64 a0_8):=(blk_cell BK323.out 8).trans rfl; have hcz19_9:w18.cell? ⟨gb323,9,none⟩=some (.bool a0_9):=(blk_cell BK323.out 9).trans rfl; have hfz19_0:=blk_frozen BK323.out 0; have hfz19_1:=blk_frozen BK323.out 1; have hfz19_2:=blk_frozen BK323.out 2; have hfz19_3:=blk_frozen BK323.out 3; have hfz19_4:=blk_frozen BK323.out 4; have hfz19_5:=blk_frozen BK323.out 5; have hfz19_6:=blk_frozen BK323.out 6; have hfz19_7:=blk_frozen BK323.out 7; have hfz19_8:=blk_frozen BK323.out 8; have hfz19_9:=blk_frozen BK323.out 9) | ((with_reducible refine gate_callee (f:=12) rfl ?_); refine goesL_ (some 27) rfl rfl Tryz.func12 (by kernel_rfl) rfl #[.agg #[.int .u64 a0_0,.bool a0_1,.int .u64 a0_2,.bool a0_3,.int .u64 a0_4,.bool a0_5,.int .u64 a0_6,.bool a0_7,.int .u64 a0_8,.bool a0_9]] rfl (by (try simp only [List.map_toArray,List.map_cons,List.map_nil]); first | done | rfl | (simp only [List.length_drop,List.length_take]; rfl)) ?_; (with_reducible refine (show_Spec.calls a0_0 a0_1 a0_2 a0_3 a0_4 a0_5 a0_6 a0_7 a0_8 a0_9 t325 t326 t327 _ (hT.keep (by repeat (first | (with_reducible first | exact HB.out | apply below_alloc | apply pw_below_drewN | apply below_drew1 | refine below_set ?_ GE323.out) | exact HB.out))) A8.out).mono ?_); rintro e w20 ⟨rfl,hb⟩; refine ⟨_,rfl,?_⟩; have n0_:=Aside0.mk (blk_below (g:=gb323) (o:=.cells #[.int .u64 a0_0,.bool a0_1,.int .u64 a0_2,.bool a0_3,.int .u64 a0_4,.bool a0_5,.int .u64 a0_6,.bool a0_7,.int .u64 a0_8,.bool a0_9] 31 (0,0)) (by (with_reducible repeat (first | refine blk_drewN ?_ _ | refine blk_drew ?_ | refine blk_alloc ?_ _)); exact BK323.out) hb); have n1_:=Aside0.mk (below_step (by repeat (first | (with_reducible first | exact HB.out | apply below_alloc | apply pw_below_drewN | apply below_drew1 | refine below_set ?_ GE323.out) | exact HB.out)) hb); clear BK323; clear HB; have BK323:=n0_; have HB:=n1_; clear n0_ n1_; (try clear hb); (try clear hb2); (try clear hk); (try clear hi); have hcz21_0:w20.cell? ⟨gb323,0,none⟩=some (.int .u64 a0_0):=(blk_cell BK323.out 0).trans rfl; have hcz21_1:w20.cell? ⟨gb323,1,none⟩=some (.bool a0_1):=(blk_cell BK323.out 1).trans rfl; have hcz21_2:w20.cell? ⟨gb323,2,none⟩=some (.int .u64 a0_2):=(blk_cell BK323.out 2).trans rfl; have hcz21_3:w20.cell? ⟨gb323,3,none⟩=some (.bool a0_3):=(blk_cell BK323.out 3).trans rfl; have hcz21_4:w20.cell? ⟨gb323,4,none⟩=some (.int .u64 a0_4):=(blk_cell BK323.out 4).trans rfl; have hcz21_5:w20.cell? ⟨gb323,5,none⟩=some (.bool a0_5):=(blk_cell BK323.out 5).trans rfl; have hcz21_6:w20.cell? ⟨gb323,6,none⟩=some (.int .u64 a0_6):=(blk_cell BK323.out 6).trans rfl; have hcz21_7:w20.cell? ⟨gb323,7,none⟩=some (.bool a0_7):=(blk_cell BK323.out 7).trans rfl; have hcz21_8:w20.cell? ⟨gb323,8,none⟩=some (.int .u64 a0_8):=(blk_cell BK323.out 8).trans rfl; have hcz21_9:w20.cell? ⟨gb323,9,none⟩=some (.bool a0_9):=(blk_cell BK323.out 9).trans rfl; have hfz21_0:=blk_frozen BK323.out 0; have hfz21_1:=blk_frozen BK323.out 1; have hfz21_2:=blk_frozen BK323.out 2; have hfz21_3:=blk_frozen BK323.out 3; have hfz21_4:=blk_frozen BK323.out 4; have hfz21_5:=blk_frozen BK323.out 5; have hfz21_6:=blk_frozen BK323.out 6; have hfz21_7:=blk_frozen BK323.out 7; have hfz21_8:=blk_frozen BK323.out 8; have hfz21_9:=blk_frozen BK323.out 9) | ((with_reducible refine gate_callee (f:=13) rfl ?_); refine goesL_ (some 33) rfl rfl Tryz.func13 (by kernel_rfl) rfl #[.agg #[.int .u64 a0_0,.bool a0_1,.int .u64 a0_2,.bool a0_3,.int .u64 a0_4,.bool a0_5,.int .u64 a0_6,.bool a0_7,.int .u64 a0_8,.bool a0_9]] rfl (by (try simp only [List.map_toArray,List.map_cons,List.map_nil]); first | done | rfl | (simp only [List.length_drop,List.length_take]; rfl)) ?_; (with_reducible refine (complineref20_Spec.calls k a0_0 a0_1 a0_2 a0_3 a0_4 a0_5 a0_6 a0_7 a0_8 a0_9 t328 t329 t330 _ A9.out).mono ?_); rintro e w22 ⟨rfl,hb⟩; refine ⟨_,rfl,?_⟩; have n0_:=Aside0.mk (blk_below (g:=gb323) (o:=.cells #[.int .u64 a0_0,.bool a0_1,.int .u64 a0_2,.bool a0_3,.int .u64 a0_4,.bool a0_5,.int .u64 a0_6,.bool a0_7,.int .u64 a0_8,.bool a0_9] 31 (0,0)) (by (with_reducible repeat (first | refine blk_drewN ?_ _ | refine blk_drew ?_ | refine blk_alloc ?_ _)); exact BK323.out) hb); have n1_:=Aside0.mk (below_step (by repeat (first | (with_reducible first | exact HB.out | apply below_alloc | apply pw_below_drewN | apply below_drew1 | refine below_set ?_ GE323.out) | exact HB.out)) hb); clear BK323; clear HB; have BK323:=n0_; have HB:=n1_; clear n0_ n1_; (try clear hb); (try clear hb2); (try clear hk); (try clear hi)) | ((with_reducible refine gate_callee (f:=14) rfl ?_); refine goesL_ (some 39) rfl rfl Tryz.func14 (by kernel_rfl) rfl #[.string a1] rfl (by (try simp only [List.map_toArray,List.map_cons,List.map_nil]); first | done | rfl | (simp only [List.length_drop,List.length_take]; rfl)) ?_; (with_reducible refine (show_Tidy.calls a1 t331 t332 t333 _ (hT.keep (by repeat (first | (with_reducible first | exact HB.out | apply below_alloc | apply pw_below_drewN | apply below_drew1 | refine below_set ?_ GE323.out) | exact HB.out))) A10.out).mono ?_); rintro e w23 ⟨rfl,hb⟩; refine ⟨_,rfl,?_⟩; have n0_:=Aside0.mk (blk_below (g:=gb323) (o:=.cells #[.int .u64 a0_0,.bool a0_1,.int .u64 a0_2,.bool a0_3,.int .u64 a0_4,.bool a0_5,.int .u64 a0_6,.bool a0_7,.int .u64 a0_8,.bool a0_9] 31 (0,0)) (by (with_reducible repeat (first | refine blk_drewN ?_ _ | refine blk_drew ?_ | refine blk_alloc ?_ _)); exact BK323.out) hb); have n1_:=Aside0.mk (below_step (by repeat (first | (with_reducible first | exact HB.out | apply below_alloc | apply pw_below_drewN | apply below_drew1 | refine below_set ?_ GE323.out) | exact HB.out)) hb); clear BK323; clear HB; have BK323:=n0_; have HB:=n1_; clear n0_ n1_; (try clear hb); (try clear hb2); (try clear hk); (try clear hi)) | ((with_reducible refine gate_callee (f:=15) rfl ?_); refine goesL_ (some 45) rfl rfl Tryz.func15 (by kernel_rfl) rfl #[.string a1] rfl (by (try simp only [List.map_toArray,List.map_cons,List.map_nil]); first | done | rfl | (simp only [List.length_drop,List.length_take]; rfl)) ?_; (with_reducible refine (complineref20_Tidy.calls k a1 t334 t335 t336 _ A11.out).mono ?_); rintro e w24 ⟨rfl,hb⟩; refine ⟨_,rfl,?_⟩; have n0_:=Aside0.mk (blk_below (g:=gb323) (o:=.cells #[.int .u64 a0_0,.bool a0_1,.int .u64 a0_2,.bool a0_3,.int .u64 a0_4,.bool a0_5,.int .u64 a0_6,.bool a0_7,.int .u64 a0_8,.bool a0_9] 31 (0,0)) (by (with_reducible repeat (first | refine blk_drewN ?_ _ | refine blk_drew ?_ | refine blk_alloc ?_ _)); exact BK323.out) hb); have n1_:=Aside0.mk (below_step (by repeat (first | (with_reducible first | exact HB.out | apply below_alloc | apply pw_below_drewN | apply below_drew1 | refine below_set ?_ GE323.out) | exact HB.out)) hb); clear BK323; clear HB; have BK323:=n0_; have HB:=n1_; clear n0_ n1_; (try clear hb); (try clear hb2); (try clear hk); (try clear hi)))
        go_ret
        exact ⟨by first | rfl | (simp [errW_none,errW_some] <;> rfl) | (simp [*,errW_none,errW_some] <;> rfl),by repeat (first | (with_reducible first | exact HB.out | apply below_alloc | apply pw_below_drewN | apply below_drew1 | refine below_set ?_ GE323.out) | exact HB.out)⟩
       ·rw [if_neg c16] at H
        have c16b0:(t332 == t335)=false:=beq_eq_false_iff_ne.mpr c16
        have c16b1:(t332 != t335)=true:=bne_iff_ne.mpr c16
        exact absurd (Option.some.inj H) (by decide)
      ·rw [if_neg c15] at H
       have c15b0:(t331.toList == t334.toList)=false:=beq_eq_false_iff_ne.mpr c15
       have c15b1:(t331.toList != t334.toList)=true:=bne_iff_ne.mpr c15
       exact absurd (Option.some.inj H) (by decide)
     ·rw [if_neg c14] at H
      have c14b0:(t327 == t330)=false:=beq_eq_false_iff_ne.mpr c14
      have c14b1:(t327 != t330)=true:=bne_iff_ne.mpr c14
      exact absurd (Option.some.inj H) (by decide)
    ·rw [if_neg c13] at H
     have c13b0:(t326 == t329)=false:=beq_eq_false_iff_ne.mpr c13
     have c13b1:(t326 != t329)=true:=bne_iff_ne.mpr c13
     exact absurd (Option.some.inj H) (by decide)
   ·rw [if_neg c12] at H
    have c12b0:(t325.toList == t328.toList)=false:=beq_eq_false_iff_ne.mpr c12
    have c12b1:(t325.toList != t328.toList)=true:=bne_iff_ne.mpr c12
    exact absurd (Option.some.inj H) (by decide)
 ·replace c4:=Bool.eq_false_iff.mpr c4
  subst c4
  have H1:(some false)=some true:=by rw [if_neg (show ¬ (false=true) by decide)] at H; exact H
  clear H
  have H:=H1
  clear H1
  exact absurd (Option.some.inj H) (by decide)
end Go.Proofs.YtcmmmlenaahaeaaGreatDoor.PShw
