-- Written by a program of this session (gprint.py) over the kit's print.
import Derived.Test.YtepflnfnkfkldaaDoorPReax0
import Derived.Test.YtepflnfnkfkldaaDoorPReax11
namespace Go.Proofs.YtepflnfnkfkldaaDoor.PRea
open Go.RowKit Go.Proofs.YtepflnfnkfkldaaDoorW.PrintWords Go.Proofs.YtepflnfnkfkldaaDoorW.PrintLast Go.Proofs.YtepflnfnkfkldaaDoorW.PrintMore
attribute [local go_sem] max2_int min2_int max_two min_two max_three min_three max_four min_four
set_option linter.unusedVariables false
set_option linter.unusedSimpArgs false
mutual
def complineref18_Check.l0:Nat→Int→Int→Int→Int→Int→Bool→Option (Int)
 | 0,_,_,_,_,_,_=>none
 | k+1,x5,x6,x8,x9,x173000,x173001=>if x9 < 64 then ((complineref18_Has.f k x173000 x173001 x9).bind fun t176=>(if t176=true then (if x9 < x5 then (complineref18_Check.j1 k x5 x6 x8 x9 t176 true x173000 x173001) else (complineref18_Check.j1 k x5 x6 x8 x9 t176 (decide (x9 > x6)) x173000 x173001)) else (complineref18_Check.j1 k x5 x6 x8 x9 t176 false x173000 x173001))) else (if x8=0 then (some 2) else (if x173001=true then (if x8=(wrap64 ((wrap64 (x6 - x5))+1)) then (some 0) else (some 2)) else (some 0)))
def complineref18_Check.j1:Nat→Int→Int→Int→Int→Bool→Bool→Int→Bool→Option (Int)
 | 0,_,_,_,_,_,_,_,_=>none
 | k+1,x5,x6,x8,x9,x10,x37,x173000,x173001=>if x37=true then (some 2) else (if x10=true then (complineref18_Check.l0 k x5 x6 (wrap64 (x8+1)) (wrap64 (x9+1)) x173000 x173001) else (complineref18_Check.l0 k x5 x6 x8 (wrap64 (x9+1)) x173000 x173001))
end
def complineref18_Check.f (k:Nat)(a0_0:Int)(a0_1:Bool)(a1:Int):Option (Int):=(complineref18_limits.f a1).bind fun bt173=>(if bt173.2.2=0 then (complineref18_Check.l0 k bt173.1 bt173.2.1 0 0 a0_0 a0_1) else (some bt173.2.2))
theorem complineref18_Check.mono_l:∀ k,(∀ y0 y1 y2 y3 y4 y5,LeO (complineref18_Check.l0 k y0 y1 y2 y3 y4 y5) (complineref18_Check.l0 (k+1) y0 y1 y2 y3 y4 y5))∧(∀ y0 y1 y2 y3 y4 y5 y6 y7,LeO (complineref18_Check.j1 k y0 y1 y2 y3 y4 y5 y6 y7) (complineref18_Check.j1 (k+1) y0 y1 y2 y3 y4 y5 y6 y7))
 | 0=>⟨fun _ _ _ _ _ _ r h=>by simp [complineref18_Check.l0] at h,fun _ _ _ _ _ _ _ _ r h=>by simp [complineref18_Check.j1] at h⟩
 | k+1=>by
  obtain ⟨ih0,ih1⟩ :=complineref18_Check.mono_l k
  refine ⟨?_,?_⟩
  ·intro y0 y1 y2 y3 y4 y5
   unfold complineref18_Check.l0
   repeat' first
   | (with_reducible exact ih0 _ _ _ _ _ _)
   | (with_reducible exact ih1 _ _ _ _ _ _ _ _)
   | (with_reducible exact complineref18_Has.mono _ _ _ _)
   | (with_reducible exact LeO.refl _)
   | (with_reducible exact LeO.none _)
   | (with_reducible refine LeO.ite ?_ ?_)
   | (with_reducible refine LeO.bind ?_ (fun _=>?_))
   | exact ih0 _ _ _ _ _ _
   | exact ih1 _ _ _ _ _ _ _ _
   | exact complineref18_Has.mono _ _ _ _
   | exact LeO.none _
   | refine LeO.ite ?_ ?_
   | refine LeO.bind ?_ (fun _=>?_)
  ·intro y0 y1 y2 y3 y4 y5 y6 y7
   unfold complineref18_Check.j1
   repeat' first
   | (with_reducible exact ih0 _ _ _ _ _ _)
   | (with_reducible exact ih1 _ _ _ _ _ _ _ _)
   | (with_reducible exact complineref18_Has.mono _ _ _ _)
   | (with_reducible exact LeO.refl _)
   | (with_reducible exact LeO.none _)
   | (with_reducible refine LeO.ite ?_ ?_)
   | (with_reducible refine LeO.bind ?_ (fun _=>?_))
   | exact ih0 _ _ _ _ _ _
   | exact ih1 _ _ _ _ _ _ _ _
   | exact complineref18_Has.mono _ _ _ _
   | exact LeO.none _
   | refine LeO.ite ?_ ?_
   | refine LeO.bind ?_ (fun _=>?_)
theorem complineref18_Check.mono:∀ a0 a1 a2 k,LeO (complineref18_Check.f k a0 a1 a2) (complineref18_Check.f (k+1) a0 a1 a2):=by
 intro a0 a1 a2 k
 obtain ⟨ih0,ih1⟩ :=complineref18_Check.mono_l k
 unfold complineref18_Check.f
 repeat' first
   | (with_reducible exact ih0 _ _ _ _ _ _)
   | (with_reducible exact ih1 _ _ _ _ _ _ _ _)
   | (with_reducible exact complineref18_Has.mono _ _ _ _)
   | (with_reducible exact LeO.refl _)
   | (with_reducible exact LeO.none _)
   | (with_reducible refine LeO.ite ?_ ?_)
   | (with_reducible refine LeO.bind ?_ (fun _=>?_))
   | exact ih0 _ _ _ _ _ _
   | exact ih1 _ _ _ _ _ _ _ _
   | exact complineref18_Has.mono _ _ _ _
   | exact LeO.none _
   | refine LeO.ite ?_ ?_
   | refine LeO.bind ?_ (fun _=>?_)
set_option maxHeartbeats 8000000 in
set_option maxRecDepth 100000 in
theorem complineref18_Check.calls (k:Nat)(a0_0:Int)(a0_1:Bool)(a1:Int)(r:Int)(w:World)(h:complineref18_Check.f k a0_0 a0_1 a1=some r) :
  Calls Tryd.prog 55 #[.agg #[.int .u64 a0_0,.bool a0_1],.int .i64 a1] w fun e w'=>e=.returned (.int .i64 r)∧Below w.heap.size w w':=by
 have hu24:=Tryd.underlying24
 have HB:=Aside0.mk (Below.refl w.heap.size w)
 have H:((complineref18_limits.f a1).bind fun bt173=>(if bt173.2.2=0 then (complineref18_Check.l0 k bt173.1 bt173.2.1 0 0 a0_0 a0_1) else (some bt173.2.2)))=some r:=h
 clear h
 replace H:=Option.bind_eq_some_iff.mp H
 obtain ⟨⟨t173,t174,t175⟩,A30,H⟩ :=H
 replace H:(if t175=0 then (complineref18_Check.l0 k t173 t174 0 0 a0_0 a0_1) else (some t175))=some r:=H
 have A3:=Aside0.mk A30
 clear A30
 by_cases c4:t175=0
 ·rw [if_pos c4] at H
  have c4b0:(t175 == 0)=true:=beq_iff_eq.mpr c4
  have c4b1:(t175 != 0)=false:=bne_eq_false_iff_eq.mpr c4
  clear c4
  have H':=Aside0.mk H
  clear H
  go_enter Tryd.func55,Tryd.ntmps55
  go_wp2_with (first | ((with_reducible refine gate_dst (N:=2) rfl ?_); refine box_event ?hg (N:=2) ?hd (cs:=#[.int .u64 a0_0,.bool a0_1]) (t:=24) ?hr ?_; (case hd=>rfl); (case hg=>rfl); (case hr=>first | (go_simp; done) | (go_simp; rfl)); intro gb172 hg w5 hbox hb; have n0_:=Aside0.mk (below_step (by repeat (first | (with_reducible first | exact HB.out | apply below_alloc | apply pw_below_drewN | apply below_drew1) | exact HB.out)) hb); have n1_:=Aside0.mk (hbox); have n2_:=Aside0.mk ((by rw [hg]; exact (below_size (by repeat (first | (with_reducible first | exact HB.out | apply below_alloc | apply pw_below_drewN | apply below_drew1) | exact HB.out))):w.heap.size≤gb172)); have n3_:=Aside0.mk ((by rw [hg]; exact (below_size (by repeat (first | (with_reducible first | exact HB.out | apply below_alloc | apply pw_below_drewN | apply below_drew1) | exact HB.out))):w.heap.size≤gb172)); clear HB; have HB:=n0_; have BK172:=n1_; have GW172:=n2_; have GE172:=n3_; clear n0_ n1_ n2_ n3_; clear hb hbox hg) | ((with_reducible refine gate_callee (f:=85) rfl ?_); refine goesL_ (some 13) rfl rfl Tryd.func85 (by kernel_rfl) rfl #[.int .i64 a1] rfl (by (try simp only [List.map_toArray,List.map_cons,List.map_nil]); first | done | rfl | (simp only [List.length_drop,List.length_take]; rfl)) ?_; (with_reducible refine (complineref18_limits.calls a1 t173 t174 t175 _ A3.out).mono ?_); rintro e w' ⟨rfl,⟨nd,rfl⟩⟩; refine ⟨_,rfl,?_⟩))
  go_loopg [8,9] k (fun kq v8 v9 w'=>∃ (x8_1:Int) (x9_1:Int),v8=.int .i64 x8_1∧v9=.int .i64 x9_1∧Aside0 (complineref18_Check.l0 kq t173 t174 x8_1 x9_1 a0_0 a0_1=some r)∧Aside0 (kq≤k)∧Aside0 (w'.heap[gb172]?=some (.cells #[.int .u64 a0_0,.bool a0_1] 24 (0,0)))∧Aside0 (Below w.heap.size w w'))
  case atStart=>exact ⟨(0),(0),(by first | rfl | (simp; done) | (simp [*]; done)),(by first | rfl | (simp; done) | (simp [*]; done)),H',⟨Nat.le_refl _⟩,⟨by (with_reducible repeat (first | refine blk_drewN ?_ _ | refine blk_drew ?_ | refine blk_alloc ?_ _)); exact BK172.out⟩,⟨by repeat (first | (with_reducible first | exact HB.out | apply below_alloc | apply pw_below_drewN | apply below_drew1 | refine below_set ?_ GE172.out) | exact HB.out)⟩⟩
  case round=>
   clear H'
   try clear p2
   try clear c4
   try clear c4b0
   try clear c4b1
   try clear c5
   obtain ⟨x8_1,x9_1,rfl,rfl,HA,HK1,BK172,HB⟩ :=hrel
   cases gk with
   | zero=>exact absurd HA.out (by simp [complineref18_Check.l0])
   | succ k1=>
    have H:=HA.out
    clear HA
    simp only [complineref18_Check.l0] at H
    by_cases c6:x9_1 < 64
    ·rw [if_pos c6] at H
     have c6b0:decide (x9_1 < 64)=true:=decide_eq_true c6
     clear c6
     replace H:=Option.bind_eq_some_iff.mp H
     obtain ⟨t176,A70,H⟩ :=H
     replace H:(if t176=true then (if x9_1 < t173 then (complineref18_Check.j1 k1 t173 t174 x8_1 x9_1 t176 true a0_0 a0_1) else (complineref18_Check.j1 k1 t173 t174 x8_1 x9_1 t176 (decide (x9_1 > t174)) a0_0 a0_1)) else (complineref18_Check.j1 k1 t173 t174 x8_1 x9_1 t176 false a0_0 a0_1))=some r:=H
     have A7:=Aside0.mk A70
     clear A70
     have HC8:=Aside0.mk H
     clear H
     have hcz9_0:wr.cell? ⟨gb172,0,none⟩=some (.int .u64 a0_0):=(blk_cell BK172.out 0).trans rfl
     have hcz9_1:wr.cell? ⟨gb172,1,none⟩=some (.bool a0_1):=(blk_cell BK172.out 1).trans rfl
     have hfz9_0:=blk_frozen BK172.out 0
     have hfz9_1:=blk_frozen BK172.out 1
     go_upto_region 9 with (first | ((with_reducible refine gate_callee (f:=83) rfl ?_); refine goesL_ (some 26) rfl rfl Tryd.func83 (by kernel_rfl) rfl #[.agg #[.int .u64 a0_0,.bool a0_1],.int .i64 x9_1] rfl (by (try simp only [List.map_toArray,List.map_cons,List.map_nil]); first | done | rfl | (simp only [List.length_drop,List.length_take]; rfl)) ?_; (with_reducible refine (complineref18_Has.calls k1 a0_0 a0_1 x9_1 t176 _ A7.out).mono ?_); rintro e w10 ⟨rfl,hb⟩; refine ⟨_,rfl,?_⟩; have n0_:=Aside0.mk (blk_below (g:=gb172) (o:=.cells #[.int .u64 a0_0,.bool a0_1] 24 (0,0)) (by (with_reducible repeat (first | refine blk_drewN ?_ _ | refine blk_drew ?_ | refine blk_alloc ?_ _)); exact BK172.out) hb); have n1_:=Aside0.mk (below_step (by repeat (first | (with_reducible first | exact HB.out | apply below_alloc | apply pw_below_drewN | apply below_drew1 | refine below_set ?_ GE172.out) | exact HB.out)) hb); clear BK172; clear HB; have BK172:=n0_; have HB:=n1_; clear n0_ n1_; (try clear hb); (try clear hb2); (try clear hk); (try clear hi)))
     (try simp only [Act.put,List.setIfInBounds_toArray,List.set_cons_zero,List.set_cons_succ])
     go_cut [37] (fun v37 wc=>∃ (kq:Nat) (x37_7:Bool),v37=.bool x37_7∧Aside0 (complineref18_Check.j1 kq t173 t174 x8_1 x9_1 t176 x37_7 a0_0 a0_1=some r)∧Aside0 (kq≤k1)∧Aside0 (wc.heap[gb172]?=some (.cells #[.int .u64 a0_0,.bool a0_1] 24 (0,0)))∧Aside0 (Below w.heap.size w wc))
     case first=>
      have H:=HC8.out
      clear HC8
      by_cases c11:t176=true
      ·subst c11
       have H1:(if x9_1 < t173 then (complineref18_Check.j1 k1 t173 t174 x8_1 x9_1 true true a0_0 a0_1) else (complineref18_Check.j1 k1 t173 t174 x8_1 x9_1 true (decide (x9_1 > t174)) a0_0 a0_1))=some r:=by rw [if_pos rfl] at H; exact H
       clear H
       have H:=H1
       clear H1
       by_cases c12:x9_1 < t173
       ·rw [if_pos c12] at H
        have c12b0:decide (x9_1 < t173)=true:=decide_eq_true c12
        clear c12
        (first | rw [c12b0] | (simp only [i64_w,i32_w]; rw [c12b0]) | skip)
        have H':=Aside0.mk H
        clear H
        go_wp2
        go_meet
        case rel=>exact ⟨_,(true),(by first | rfl | (simp; done) | (simp [*]; done)),H',⟨by have:=HK1.out; first | omega | exact Nat.le_refl _⟩,⟨by (with_reducible repeat (first | refine blk_drewN ?_ _ | refine blk_drew ?_ | refine blk_alloc ?_ _)); exact BK172.out⟩,⟨by repeat (first | (with_reducible first | exact HB.out | apply below_alloc | apply pw_below_drewN | apply below_drew1 | refine below_set ?_ GE172.out) | exact HB.out)⟩⟩
       ·rw [if_neg c12] at H
        have c12b0:decide (x9_1 < t173)=false:=decide_eq_false c12
        clear c12
        (first | rw [c12b0] | (simp only [i64_w,i32_w]; rw [c12b0]) | skip)
        have H':=Aside0.mk H
        clear H
        go_wp2
        go_meet
        case rel=>exact ⟨_,(decide (x9_1 > t174)),(by first | rfl | (simp; done) | (simp [*]; done)),H',⟨by have:=HK1.out; first | omega | exact Nat.le_refl _⟩,⟨by (with_reducible repeat (first | refine blk_drewN ?_ _ | refine blk_drew ?_ | refine blk_alloc ?_ _)); exact BK172.out⟩,⟨by repeat (first | (with_reducible first | exact HB.out | apply below_alloc | apply pw_below_drewN | apply below_drew1 | refine below_set ?_ GE172.out) | exact HB.out)⟩⟩
      ·replace c11:=Bool.eq_false_iff.mpr c11
       subst c11
       have H1:(complineref18_Check.j1 k1 t173 t174 x8_1 x9_1 false false a0_0 a0_1)=some r:=by rw [if_neg (show ¬ (false=true) by decide)] at H; exact H
       clear H
       have H:=H1
       clear H1
       have H':=Aside0.mk H
       clear H
       go_wp2
       go_meet
       case rel=>exact ⟨_,(false),(by first | rfl | (simp; done) | (simp [*]; done)),H',⟨by have:=HK1.out; first | omega | exact Nat.le_refl _⟩,⟨by (with_reducible repeat (first | refine blk_drewN ?_ _ | refine blk_drew ?_ | refine blk_alloc ?_ _)); exact BK172.out⟩,⟨by repeat (first | (with_reducible first | exact HB.out | apply below_alloc | apply pw_below_drewN | apply below_drew1 | refine below_set ?_ GE172.out) | exact HB.out)⟩⟩
     case rest=>
      clear HC8
      try clear c1
      try clear p2
      try clear c4
      try clear c4b0
      try clear c4b1
      try clear c5
      try clear c6
      try clear c6b0
      try clear c8
      try clear c11
      try clear c12
      try clear c12b0
      try clear hcz9_0
      try clear hcz9_1
      try clear hfz9_0
      try clear hfz9_1
      try clear p2
      obtain ⟨kq,x37_7,rfl,HA,HJ7,BK172,HB⟩ :=hcut
      cases kq with
      | zero=>exact absurd HA.out (by simp [complineref18_Check.j1])
      | succ kj7=>
       have H:=HA.out
       clear HA
       simp only [complineref18_Check.j1] at H
       by_cases c13:x37_7=true
       ·subst c13
        have H1:(some 2)=some r:=by rw [if_pos rfl] at H; exact H
        clear H
        have H:=H1
        clear H1
        obtain rfl:=Option.some.inj H
        go_wp2
        go_ret
        exact ⟨by first | rfl | (simp [errW_none,errW_some] <;> rfl) | (simp [*,errW_none,errW_some] <;> rfl),by repeat (first | (with_reducible first | exact HB.out | apply below_alloc | apply pw_below_drewN | apply below_drew1 | refine below_set ?_ GE172.out) | exact HB.out)⟩
       ·replace c13:=Bool.eq_false_iff.mpr c13
        subst c13
        have H1:(if t176=true then (complineref18_Check.l0 kj7 t173 t174 (wrap64 (x8_1+1)) (wrap64 (x9_1+1)) a0_0 a0_1) else (complineref18_Check.l0 kj7 t173 t174 x8_1 (wrap64 (x9_1+1)) a0_0 a0_1))=some r:=by rw [if_neg (show ¬ (false=true) by decide)] at H; exact H
        clear H
        have H:=H1
        clear H1
        by_cases c14:t176=true
        ·subst c14
         have H1:(complineref18_Check.l0 kj7 t173 t174 (wrap64 (x8_1+1)) (wrap64 (x9_1+1)) a0_0 a0_1)=some r:=by rw [if_pos rfl] at H; exact H
         clear H
         have H:=H1
         clear H1
         have H':=Aside0.mk H
         clear H
         go_wp2
         go_roundg kj7
         case measure=>have:=HK1.out; have:=HJ7.out; omega
         case rel=>exact ⟨(wrap64 (x8_1+1)),(wrap64 (x9_1+1)),(by first | rfl | (simp; done) | (simp [*]; done)),(by first | rfl | (simp; done) | (simp [*]; done)),H',⟨by have:=HK1.out; have:=HJ7.out; omega⟩,⟨by (with_reducible repeat (first | refine blk_drewN ?_ _ | refine blk_drew ?_ | refine blk_alloc ?_ _)); exact BK172.out⟩,⟨by repeat (first | (with_reducible first | exact HB.out | apply below_alloc | apply pw_below_drewN | apply below_drew1 | refine below_set ?_ GE172.out) | exact HB.out)⟩⟩
        ·replace c14:=Bool.eq_false_iff.mpr c14
         subst c14
         have H1:(complineref18_Check.l0 kj7 t173 t174 x8_1 (wrap64 (x9_1+1)) a0_0 a0_1)=some r:=by rw [if_neg (show ¬ (false=true) by decide)] at H; exact H
         clear H
         have H:=H1
         clear H1
         have H':=Aside0.mk H
         clear H
         go_wp2
         go_roundg kj7
         case measure=>have:=HK1.out; have:=HJ7.out; omega
         case rel=>exact ⟨(x8_1),(wrap64 (x9_1+1)),(by first | rfl | (simp; done) | (simp [*]; done)),(by first | rfl | (simp; done) | (simp [*]; done)),H',⟨by have:=HK1.out; have:=HJ7.out; omega⟩,⟨by (with_reducible repeat (first | refine blk_drewN ?_ _ | refine blk_drew ?_ | refine blk_alloc ?_ _)); exact BK172.out⟩,⟨by repeat (first | (with_reducible first | exact HB.out | apply below_alloc | apply pw_below_drewN | apply below_drew1 | refine below_set ?_ GE172.out) | exact HB.out)⟩⟩
    ·rw [if_neg c6] at H
     have c6b0:decide (x9_1 < 64)=false:=decide_eq_false c6
     clear c6
     by_cases c15:x8_1=0
     ·rw [if_pos c15] at H
      have c15b0:(x8_1 == 0)=true:=beq_iff_eq.mpr c15
      have c15b1:(x8_1 != 0)=false:=bne_eq_false_iff_eq.mpr c15
      clear c15
      obtain rfl:=Option.some.inj H
      go_wp2
      go_ret
      exact ⟨by first | rfl | (simp [errW_none,errW_some] <;> rfl) | (simp [*,errW_none,errW_some] <;> rfl),by repeat (first | (with_reducible first | exact HB.out | apply below_alloc | apply pw_below_drewN | apply below_drew1 | refine below_set ?_ GE172.out) | exact HB.out)⟩
     ·rw [if_neg c15] at H
      have c15b0:(x8_1 == 0)=false:=beq_eq_false_iff_ne.mpr c15
      have c15b1:(x8_1 != 0)=true:=bne_iff_ne.mpr c15
      by_cases c16:a0_1=true
      ·subst c16
       have H1:(if x8_1=(wrap64 ((wrap64 (t174 - t173))+1)) then (some 0) else (some 2))=some r:=by rw [if_pos rfl] at H; exact H
       clear H
       have H:=H1
       clear H1
       by_cases c17:x8_1=(wrap64 ((wrap64 (t174 - t173))+1))
       ·rw [if_pos c17] at H
        have c17b0:(x8_1 == (wrap64 ((wrap64 (t174 - t173))+1)))=true:=beq_iff_eq.mpr c17
        have c17b1:(x8_1 != (wrap64 ((wrap64 (t174 - t173))+1)))=false:=bne_eq_false_iff_eq.mpr c17
        clear c17
        obtain rfl:=Option.some.inj H
        have hcz18_0:wr.cell? ⟨gb172,0,none⟩=some (.int .u64 a0_0):=(blk_cell BK172.out 0).trans rfl
        have hcz18_1:wr.cell? ⟨gb172,1,none⟩=some (.bool true):=(blk_cell BK172.out 1).trans rfl
        have hfz18_0:=blk_frozen BK172.out 0
        have hfz18_1:=blk_frozen BK172.out 1
        go_wp2
        go_ret
        exact ⟨by first | rfl | (simp [errW_none,errW_some] <;> rfl) | (simp [*,errW_none,errW_some] <;> rfl),by repeat (first | (with_reducible first | exact HB.out | apply below_alloc | apply pw_below_drewN | apply below_drew1 | refine below_set ?_ GE172.out) | exact HB.out)⟩
       ·rw [if_neg c17] at H
        have c17b0:(x8_1 == (wrap64 ((wrap64 (t174 - t173))+1)))=false:=beq_eq_false_iff_ne.mpr c17
        have c17b1:(x8_1 != (wrap64 ((wrap64 (t174 - t173))+1)))=true:=bne_iff_ne.mpr c17
        obtain rfl:=Option.some.inj H
        have hcz19_0:wr.cell? ⟨gb172,0,none⟩=some (.int .u64 a0_0):=(blk_cell BK172.out 0).trans rfl
        have hcz19_1:wr.cell? ⟨gb172,1,none⟩=some (.bool true):=(blk_cell BK172.out 1).trans rfl
        have hfz19_0:=blk_frozen BK172.out 0
        have hfz19_1:=blk_frozen BK172.out 1
        go_wp2
        go_ret
        exact ⟨by first | rfl | (simp [errW_none,errW_some] <;> rfl) | (simp [*,errW_none,errW_some] <;> rfl),by repeat (first | (with_reducible first | exact HB.out | apply below_alloc | apply pw_below_drewN | apply below_drew1 | refine below_set ?_ GE172.out) | exact HB.out)⟩
      ·replace c16:=Bool.eq_false_iff.mpr c16
       subst c16
       have H1:(some 0)=some r:=by rw [if_neg (show ¬ (false=true) by decide)] at H; exact H
       clear H
       have H:=H1
       clear H1
       obtain rfl:=Option.some.inj H
       have hcz20_0:wr.cell? ⟨gb172,0,none⟩=some (.int .u64 a0_0):=(blk_cell BK172.out 0).trans rfl
       have hcz20_1:wr.cell? ⟨gb172,1,none⟩=some (.bool false):=(blk_cell BK172.out 1).trans rfl
       have hfz20_0:=blk_frozen BK172.out 0
       have hfz20_1:=blk_frozen BK172.out 1
       go_wp2
       go_ret
       exact ⟨by first | rfl | (simp [errW_none,errW_some] <;> rfl) | (simp [*,errW_none,errW_some] <;> rfl),by repeat (first | (with_reducible first | exact HB.out | apply below_alloc | apply pw_below_drewN | apply below_drew1 | refine below_set ?_ GE172.out) | exact HB.out)⟩
 ·rw [if_neg c4] at H
  have c4b0:(t175 == 0)=false:=beq_eq_false_iff_ne.mpr c4
  have c4b1:(t175 != 0)=true:=bne_iff_ne.mpr c4
  obtain rfl:=Option.some.inj H
  go_enter Tryd.func55,Tryd.ntmps55
  go_wp2_with (first | ((with_reducible refine gate_dst (N:=2) rfl ?_); refine box_event ?hg (N:=2) ?hd (cs:=#[.int .u64 a0_0,.bool a0_1]) (t:=24) ?hr ?_; (case hd=>rfl); (case hg=>rfl); (case hr=>first | (go_simp; done) | (go_simp; rfl)); intro gb172 hg w21 hbox hb; have n0_:=Aside0.mk (below_step (by repeat (first | (with_reducible first | exact HB.out | apply below_alloc | apply pw_below_drewN | apply below_drew1) | exact HB.out)) hb); have n1_:=Aside0.mk (hbox); have n2_:=Aside0.mk ((by rw [hg]; exact (below_size (by repeat (first | (with_reducible first | exact HB.out | apply below_alloc | apply pw_below_drewN | apply below_drew1) | exact HB.out))):w.heap.size≤gb172)); have n3_:=Aside0.mk ((by rw [hg]; exact (below_size (by repeat (first | (with_reducible first | exact HB.out | apply below_alloc | apply pw_below_drewN | apply below_drew1) | exact HB.out))):w.heap.size≤gb172)); clear HB; have HB:=n0_; have BK172:=n1_; have GW172:=n2_; have GE172:=n3_; clear n0_ n1_ n2_ n3_; clear hb hbox hg) | ((with_reducible refine gate_callee (f:=85) rfl ?_); refine goesL_ (some 13) rfl rfl Tryd.func85 (by kernel_rfl) rfl #[.int .i64 a1] rfl (by (try simp only [List.map_toArray,List.map_cons,List.map_nil]); first | done | rfl | (simp only [List.length_drop,List.length_take]; rfl)) ?_; (with_reducible refine (complineref18_limits.calls a1 t173 t174 t175 _ A3.out).mono ?_); rintro e w' ⟨rfl,⟨nd,rfl⟩⟩; refine ⟨_,rfl,?_⟩))
  go_ret
  exact ⟨by first | rfl | (simp [errW_none,errW_some] <;> rfl) | (simp [*,errW_none,errW_some] <;> rfl),by repeat (first | (with_reducible first | exact HB.out | apply below_alloc | apply pw_below_drewN | apply below_drew1 | refine below_set ?_ GE172.out) | exact HB.out)⟩
def complineref19_Check.l0:Nat→List (S24)→Int→Option (Int × Int)
 | 0,_,_=>none
 | k+1,x4,x5=>if x5 < 5 then (if 0≤x5 then (if x5 < (x4.length:Int) then ((complineref18_Check.f k ((rd_T24 x4 x5).f0) ((rd_T24 x4 x5).f1) x5).bind fun t182=>(if t182=0 then (complineref19_Check.l0 k x4 (wrap64 (x5+1))) else (some (wrap64 (x5+1),t182)))) else (none)) else (none)) else (some (0,0))
def complineref19_Check.f (k:Nat)(a0_0:Int)(a0_1:Bool)(a0_2:Int)(a0_3:Bool)(a0_4:Int)(a0_5:Bool)(a0_6:Int)(a0_7:Bool)(a0_8:Int)(a0_9:Bool):Option (Int × Int):=(complineref19_Fields.f a0_0 a0_1 a0_2 a0_3 a0_4 a0_5 a0_6 a0_7 a0_8 a0_9).bind fun t178=>(complineref19_Check.l0 k t178 0)
theorem complineref19_Check.mono_l:∀ k,(∀ y0 y1,LeO (complineref19_Check.l0 k y0 y1) (complineref19_Check.l0 (k+1) y0 y1))
 | 0=>fun _ _ r h=>by simp [complineref19_Check.l0] at h
 | k+1=>by
  have ih0:=complineref19_Check.mono_l k
  ·intro y0 y1
   unfold complineref19_Check.l0
   repeat' first
   | (with_reducible exact ih0 _ _)
   | (with_reducible exact complineref18_Check.mono _ _ _ _)
   | (with_reducible exact LeO.refl _)
   | (with_reducible exact LeO.none _)
   | (with_reducible refine LeO.ite ?_ ?_)
   | (with_reducible refine LeO.bind ?_ (fun _=>?_))
   | exact ih0 _ _
   | exact complineref18_Check.mono _ _ _ _
   | exact LeO.none _
   | refine LeO.ite ?_ ?_
   | refine LeO.bind ?_ (fun _=>?_)
theorem complineref19_Check.mono:∀ a0 a1 a2 a3 a4 a5 a6 a7 a8 a9 k,LeO (complineref19_Check.f k a0 a1 a2 a3 a4 a5 a6 a7 a8 a9) (complineref19_Check.f (k+1) a0 a1 a2 a3 a4 a5 a6 a7 a8 a9):=by
 intro a0 a1 a2 a3 a4 a5 a6 a7 a8 a9 k
 have ih0:=complineref19_Check.mono_l k
 unfold complineref19_Check.f
 repeat' first
   | (with_reducible exact ih0 _ _)
   | (with_reducible exact complineref18_Check.mono _ _ _ _)
   | (with_reducible exact LeO.refl _)
   | (with_reducible exact LeO.none _)
   | (with_reducible refine LeO.ite ?_ ?_)
   | (with_reducible refine LeO.bind ?_ (fun _=>?_))
   | exact ih0 _ _
   | exact complineref18_Check.mono _ _ _ _
   | exact LeO.none _
   | refine LeO.ite ?_ ?_
   | refine LeO.bind ?_ (fun _=>?_)
set_option maxHeartbeats 8000000 in
set_option maxRecDepth 100000 in
theorem complineref19_Check.calls (k:Nat)(a0_0:Int)(a0_1:Bool)(a0_2:Int)(a0_3:Bool)(a0_4:Int)(a0_5:Bool)(a0_6:Int)(a0_7:Bool)(a0_8:Int)(a0_9:Bool)(r1:Int)(r2:Int)(w:World)(h:complineref19_Check.f k a0_0 a0_1 a0_2 a0_3 a0_4 a0_5 a0_6 a0_7 a0_8 a0_9=some (r1,r2)) :
  Calls Tryd.prog 26 #[.agg #[.int .u64 a0_0,.bool a0_1,.int .u64 a0_2,.bool a0_3,.int .u64 a0_4,.bool a0_5,.int .u64 a0_6,.bool a0_7,.int .u64 a0_8,.bool a0_9]] w fun e w'=>e=.returned (.tuple #[.int .i64 r1,.int .i64 r2])∧Below w.heap.size w w':=by
 have hu26:=Tryd.underlying26
 have hu24:=Tryd.underlying24
 have HB:=Aside0.mk (Below.refl w.heap.size w)
 have H:((complineref19_Fields.f a0_0 a0_1 a0_2 a0_3 a0_4 a0_5 a0_6 a0_7 a0_8 a0_9).bind fun t178=>(complineref19_Check.l0 k t178 0))=some (r1,r2):=h
 clear h
 replace H:=Option.bind_eq_some_iff.mp H
 obtain ⟨t178,A20,H⟩ :=H
 replace H:(complineref19_Check.l0 k t178 0)=some (r1,r2):=H
 have A2:=Aside0.mk A20
 clear A20
 have H':=Aside0.mk H
 clear H
 go_enter Tryd.func26,Tryd.ntmps26
 go_wp2_with (first | ((with_reducible refine gate_dst (N:=1) rfl ?_); refine box_event ?hg (N:=1) ?hd (cs:=#[.int .u64 a0_0,.bool a0_1,.int .u64 a0_2,.bool a0_3,.int .u64 a0_4,.bool a0_5,.int .u64 a0_6,.bool a0_7,.int .u64 a0_8,.bool a0_9]) (t:=26) ?hr ?_; (case hd=>rfl); (case hg=>rfl); (case hr=>first | (go_simp; done) | (go_simp; rfl)); intro gb177 hg w3 hbox hb; have n0_:=Aside0.mk (below_step (by repeat (first | (with_reducible first | exact HB.out | apply below_alloc | apply pw_below_drewN | apply below_drew1) | exact HB.out)) hb); have n1_:=Aside0.mk (hbox); have n2_:=Aside0.mk ((by rw [hg]; exact (below_size (by repeat (first | (with_reducible first | exact HB.out | apply below_alloc | apply pw_below_drewN | apply below_drew1) | exact HB.out))):w.heap.size≤gb177)); have n3_:=Aside0.mk ((by rw [hg]; exact (below_size (by repeat (first | (with_reducible first | exact HB.out | apply below_alloc | apply pw_below_drewN | apply below_drew1) | exact HB.out))):w.heap.size≤gb177)); clear HB; have HB:=n0_; have BK177:=n1_; have GW177:=n2_; have GE177:=n3_; clear n0_ n1_ n2_ n3_; clear hb hbox hg; have hcz4_0:w3.cell? ⟨gb177,0,none⟩=some (.int .u64 a0_0):=(blk_cell BK177.out 0).trans rfl; have hcz4_1:w3.cell? ⟨gb177,1,none⟩=some (.bool a0_1):=(blk_cell BK177.out 1).trans rfl; have hcz4_2:w3.cell? ⟨gb177,2,none⟩=some (.int .u64 a0_2):=(blk_cell BK177.out 2).trans rfl; have hcz4_3:w3.cell? ⟨gb177,3,none⟩=some (.bool a0_3):=(blk_cell BK177.out 3).trans rfl; have hcz4_4:w3.cell? ⟨gb177,4,none⟩=some (.int .u64 a0_4):=(blk_cell BK177.out 4).trans rfl; have hcz4_5:w3.cell? ⟨gb177,5,none⟩=some (.bool a0_5):=(blk_cell BK177.out 5).trans rfl; have hcz4_6:w3.cell? ⟨gb177,6,none⟩=some (.int .u64 a0_6):=(blk_cell BK177.out 6).trans rfl; have hcz4_7:w3.cell? ⟨gb177,7,none⟩=some (.bool a0_7):=(blk_cell BK177.out 7).trans rfl; have hcz4_8:w3.cell? ⟨gb177,8,none⟩=some (.int .u64 a0_8):=(blk_cell BK177.out 8).trans rfl; have hcz4_9:w3.cell? ⟨gb177,9,none⟩=some (.bool a0_9):=(blk_cell BK177.out 9).trans rfl; have hfz4_0:=blk_frozen BK177.out 0; have hfz4_1:=blk_frozen BK177.out 1; have hfz4_2:=blk_frozen BK177.out 2; have hfz4_3:=blk_frozen BK177.out 3; have hfz4_4:=blk_frozen BK177.out 4; have hfz4_5:=blk_frozen BK177.out 5; have hfz4_6:=blk_frozen BK177.out 6; have hfz4_7:=blk_frozen BK177.out 7; have hfz4_8:=blk_frozen BK177.out 8; have hfz4_9:=blk_frozen BK177.out 9) | ((with_reducible refine gate_callee (f:=54) rfl ?_); refine goesL_ (some 8) rfl rfl Tryd.func54 (by kernel_rfl) rfl #[.agg #[.int .u64 a0_0,.bool a0_1,.int .u64 a0_2,.bool a0_3,.int .u64 a0_4,.bool a0_5,.int .u64 a0_6,.bool a0_7,.int .u64 a0_8,.bool a0_9]] rfl (by (try simp only [List.map_toArray,List.map_cons,List.map_nil]); first | done | rfl | (simp only [List.length_drop,List.length_take]; rfl)) ?_; (with_reducible refine (complineref19_Fields.calls a0_0 a0_1 a0_2 a0_3 a0_4 a0_5 a0_6 a0_7 a0_8 a0_9 t178 _ A2.out).mono ?_); rintro e w5 ⟨v179,rfl,ho0,hb⟩; refine ⟨_,rfl,?_⟩; have n0_:=Aside0.mk (Kd.R_lower ho0 (below_size (by repeat (first | (with_reducible first | exact HB.out | apply below_alloc | apply pw_below_drewN | apply below_drew1 | refine below_set ?_ GE177.out) | exact HB.out)))); have n1_:=Aside0.mk (blk_below (g:=gb177) (o:=.cells #[.int .u64 a0_0,.bool a0_1,.int .u64 a0_2,.bool a0_3,.int .u64 a0_4,.bool a0_5,.int .u64 a0_6,.bool a0_7,.int .u64 a0_8,.bool a0_9] 26 (0,0)) (by (with_reducible repeat (first | refine blk_drewN ?_ _ | refine blk_drew ?_ | refine blk_alloc ?_ _)); exact BK177.out) hb); have n2_:=Aside0.mk (below_step (by repeat (first | (with_reducible first | exact HB.out | apply below_alloc | apply pw_below_drewN | apply below_drew1 | refine below_set ?_ GE177.out) | exact HB.out)) hb); clear BK177; clear HB; have HO180:=n0_; have BK177:=n1_; have HB:=n2_; clear n0_ n1_ n2_; (try clear hb); (try clear hb2); (try clear hk); (try clear hi); (try clear ho0)))
 go_loopg [5] k (fun kq v5 w'=>∃ (x5_1:Int),v5=.int .i64 x5_1∧Aside0 (complineref19_Check.l0 kq t178 x5_1=some (r1,r2))∧Aside0 (kq≤k)∧Aside0 (Kd.R k24 24 w' w.heap.size (fun _=>True) v179 t178)∧Aside0 (w'.heap[gb177]?=some (.cells #[.int .u64 a0_0,.bool a0_1,.int .u64 a0_2,.bool a0_3,.int .u64 a0_4,.bool a0_5,.int .u64 a0_6,.bool a0_7,.int .u64 a0_8,.bool a0_9] 26 (0,0)))∧Aside0 (Below w.heap.size w w'))
 case atStart=>exact ⟨(0),(by first | rfl | (simp; done) | (simp [*]; done)),H',⟨Nat.le_refl _⟩,⟨by (with_reducible repeat (first | apply Kd.R_alloc | apply Kd.R_drewN | apply Kd.R_drew)); exact HO180.out⟩,⟨by (with_reducible repeat (first | refine blk_drewN ?_ _ | refine blk_drew ?_ | refine blk_alloc ?_ _)); exact BK177.out⟩,⟨by repeat (first | (with_reducible first | exact HB.out | apply below_alloc | apply pw_below_drewN | apply below_drew1 | refine below_set ?_ GE177.out) | exact HB.out)⟩⟩
 case round=>
  clear H'
  try clear c2
  try clear p2
  try clear c5
  try clear hcz4_0
  try clear hcz4_1
  try clear hcz4_2
  try clear hcz4_3
  try clear hcz4_4
  try clear hcz4_5
  try clear hcz4_6
  try clear hcz4_7
  try clear hcz4_8
  try clear hcz4_9
  try clear hfz4_0
  try clear hfz4_1
  try clear hfz4_2
  try clear hfz4_3
  try clear hfz4_4
  try clear hfz4_5
  try clear hfz4_6
  try clear hfz4_7
  try clear hfz4_8
  try clear hfz4_9
  obtain ⟨x5_1,rfl,HA,HK1,HO_4,BK177,HB⟩ :=hrel
  cases gk with
  | zero=>exact absurd HA.out (by simp [complineref19_Check.l0])
  | succ k1=>
   have H:=HA.out
   clear HA
   simp only [complineref19_Check.l0] at H
   by_cases c6:x5_1 < 5
   ·rw [if_pos c6] at H
    have c6b0:decide (x5_1 < 5)=true:=decide_eq_true c6
    clear c6
    by_cases c7:0≤x5_1
    ·rw [if_pos c7] at H
     have c7b0:decide (0≤x5_1)=true:=decide_eq_true c7
     clear c7
     by_cases c8:x5_1 < (t178.length:Int)
     ·rw [if_pos c8] at H
      have c8b0:decide (x5_1 < (t178.length:Int))=true:=decide_eq_true c8
      clear c8
      replace H:=Option.bind_eq_some_iff.mp H
      obtain ⟨t182,A90,H⟩ :=H
      replace H:(if t182=0 then (complineref19_Check.l0 k1 t178 (wrap64 (x5_1+1))) else (some (wrap64 (x5_1+1),t182)))=some (r1,r2):=H
      have A9:=Aside0.mk A90
      clear A90
      by_cases c10:t182=0
      ·rw [if_pos c10] at H
       have c10b0:(t182 == 0)=true:=beq_iff_eq.mpr c10
       have c10b1:(t182 != 0)=false:=bne_eq_false_iff_eq.mpr c10
       clear c10
       have H':=Aside0.mk H
       clear H
       obtain ⟨Ao11,co11,eo11⟩ :=Kd.R_slice HO_4.out
       subst eo11
       have p181:0≤(x5_1:Int):=of_decide_eq_true (by first | (with_reducible assumption) | assumption)
       have q181:x5_1 < (t178.length:Int):=of_decide_eq_true (by first | (with_reducible assumption) | assumption)
       obtain ⟨ad181,e181,hx181_0,hx181_1⟩ :=at_T24 (Kd.R_reads' HO_4.out).2.2 x5_1 p181 q181
       cases e181
       replace p181:=eq_true p181
       replace q181:=eq_true q181
       go_wp2_with (first | ((with_reducible refine gate_callee (f:=55) rfl ?_); refine goesL_ (some 18) rfl rfl Tryd.func55 (by kernel_rfl) rfl #[.agg #[.int .u64 ((rd_T24 t178 x5_1).f0),.bool ((rd_T24 t178 x5_1).f1)],.int .i64 x5_1] rfl (by (try simp only [List.map_toArray,List.map_cons,List.map_nil]); first | done | rfl | (simp only [List.length_drop,List.length_take]; rfl)) ?_; (with_reducible refine (complineref18_Check.calls k1 ((rd_T24 t178 x5_1).f0) ((rd_T24 t178 x5_1).f1) x5_1 t182 _ A9.out).mono ?_); rintro e w12 ⟨rfl,hb⟩; refine ⟨_,rfl,?_⟩; have n0_:=Aside0.mk (Kd.R_below (by (with_reducible repeat (first | apply Kd.R_alloc | apply Kd.R_drewN | apply Kd.R_drew)); exact HO_4.out) hb); have n1_:=Aside0.mk (blk_below (g:=gb177) (o:=.cells #[.int .u64 a0_0,.bool a0_1,.int .u64 a0_2,.bool a0_3,.int .u64 a0_4,.bool a0_5,.int .u64 a0_6,.bool a0_7,.int .u64 a0_8,.bool a0_9] 26 (0,0)) (by (with_reducible repeat (first | refine blk_drewN ?_ _ | refine blk_drew ?_ | refine blk_alloc ?_ _)); exact BK177.out) hb); have n2_:=Aside0.mk (below_step (by repeat (first | (with_reducible first | exact HB.out | apply below_alloc | apply pw_below_drewN | apply below_drew1 | refine below_set ?_ GE177.out) | exact HB.out)) hb); clear HO_4; clear BK177; clear HB; have HO_4:=n0_; have BK177:=n1_; have HB:=n2_; clear n0_ n1_ n2_; (try clear hb); (try clear hb2); (try clear hk); (try clear hi)))
       go_roundg k1
       case measure=>have:=HK1.out; omega
       case rel=>exact ⟨(wrap64 (x5_1+1)),(by first | rfl | (simp; done) | (simp [*]; done)),H',⟨by have:=HK1.out; omega⟩,⟨by (with_reducible repeat (first | apply Kd.R_alloc | apply Kd.R_drewN | apply Kd.R_drew)); exact HO_4.out⟩,⟨by (with_reducible repeat (first | refine blk_drewN ?_ _ | refine blk_drew ?_ | refine blk_alloc ?_ _)); exact BK177.out⟩,⟨by repeat (first | (with_reducible first | exact HB.out | apply below_alloc | apply pw_below_drewN | apply below_drew1 | refine below_set ?_ GE177.out) | exact HB.out)⟩⟩
      ·rw [if_neg c10] at H
       have c10b0:(t182 == 0)=false:=beq_eq_false_iff_ne.mpr c10
       have c10b1:(t182 != 0)=true:=bne_iff_ne.mpr c10
       simp only [Option.some.injEq,Prod.mk.injEq] at H
       obtain ⟨rfl,rfl⟩ :=H
       obtain ⟨Ao13,co13,eo13⟩ :=Kd.R_slice HO_4.out
       subst eo13
       have p181:0≤(x5_1:Int):=of_decide_eq_true (by first | (with_reducible assumption) | assumption)
       have q181:x5_1 < (t178.length:Int):=of_decide_eq_true (by first | (with_reducible assumption) | assumption)
       obtain ⟨ad181,e181,hx181_0,hx181_1⟩ :=at_T24 (Kd.R_reads' HO_4.out).2.2 x5_1 p181 q181
       cases e181
       replace p181:=eq_true p181
       replace q181:=eq_true q181
       go_wp2_with (first | ((with_reducible refine gate_callee (f:=55) rfl ?_); refine goesL_ (some 18) rfl rfl Tryd.func55 (by kernel_rfl) rfl #[.agg #[.int .u64 ((rd_T24 t178 x5_1).f0),.bool ((rd_T24 t178 x5_1).f1)],.int .i64 x5_1] rfl (by (try simp only [List.map_toArray,List.map_cons,List.map_nil]); first | done | rfl | (simp only [List.length_drop,List.length_take]; rfl)) ?_; (with_reducible refine (complineref18_Check.calls k1 ((rd_T24 t178 x5_1).f0) ((rd_T24 t178 x5_1).f1) x5_1 t182 _ A9.out).mono ?_); rintro e w14 ⟨rfl,hb⟩; refine ⟨_,rfl,?_⟩; have n0_:=Aside0.mk (Kd.R_below (by (with_reducible repeat (first | apply Kd.R_alloc | apply Kd.R_drewN | apply Kd.R_drew)); exact HO_4.out) hb); have n1_:=Aside0.mk (blk_below (g:=gb177) (o:=.cells #[.int .u64 a0_0,.bool a0_1,.int .u64 a0_2,.bool a0_3,.int .u64 a0_4,.bool a0_5,.int .u64 a0_6,.bool a0_7,.int .u64 a0_8,.bool a0_9] 26 (0,0)) (by (with_reducible repeat (first | refine blk_drewN ?_ _ | refine blk_drew ?_ | refine blk_alloc ?_ _)); exact BK177.out) hb); have n2_:=Aside0.mk (below_step (by repeat (first | (with_reducible first | exact HB.out | apply below_alloc | apply pw_below_drewN | apply below_drew1 | refine below_set ?_ GE177.out) | exact HB.out)) hb); clear HO_4; clear BK177; clear HB; have HO_4:=n0_; have BK177:=n1_; have HB:=n2_; clear n0_ n1_ n2_; (try clear hb); (try clear hb2); (try clear hk); (try clear hi)))
       go_ret2
       exact ⟨by first | rfl | (simp [errW_none,errW_some] <;> rfl) | (simp [*,errW_none,errW_some] <;> rfl),by repeat (first | (with_reducible first | exact HB.out | apply below_alloc | apply pw_below_drewN | apply below_drew1 | refine below_set ?_ GE177.out) | exact HB.out)⟩
     ·rw [if_neg c8] at H
      exact absurd H (by simp)
    ·rw [if_neg c7] at H
     exact absurd H (by simp)
   ·rw [if_neg c6] at H
    have c6b0:decide (x5_1 < 5)=false:=decide_eq_false c6
    clear c6
    simp only [Option.some.injEq,Prod.mk.injEq] at H
    obtain ⟨rfl,rfl⟩ :=H
    go_wp2
    go_ret2
    exact ⟨by first | rfl | (simp [errW_none,errW_some] <;> rfl) | (simp [*,errW_none,errW_some] <;> rfl),by repeat (first | (with_reducible first | exact HB.out | apply below_alloc | apply pw_below_drewN | apply below_drew1 | refine below_set ?_ GE177.out) | exact HB.out)⟩
end Go.Proofs.YtepflnfnkfkldaaDoor.PRea
