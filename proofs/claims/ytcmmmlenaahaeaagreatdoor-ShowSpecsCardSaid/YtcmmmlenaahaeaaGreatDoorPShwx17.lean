-- Written by a program of this session (gprint.py) over the kit's print.
import Derived.Test.YtcmmmlenaahaeaaGreatDoorPShwx0
import Derived.Test.YtcmmmlenaahaeaaGreatDoorPShwx11
import Derived.Test.YtcmmmlenaahaeaaGreatDoorPShwx14
import Derived.Test.YtcmmmlenaahaeaaGreatDoorPShwx15
import Derived.Test.YtcmmmlenaahaeaaGreatDoorPShwx16
namespace Go.Proofs.YtcmmmlenaahaeaaGreatDoor.PShw
open Go.RowKit Go.Proofs.YtcmmmlenaahaeaaGreatDoorW.PrintWords Go.Proofs.YtcmmmlenaahaeaaGreatDoorW.PrintLast Go.Proofs.YtcmmmlenaahaeaaGreatDoorW.PrintMore
attribute [local go_sem] max2_int min2_int max_two min_two max_three min_three max_four min_four
set_option linter.unusedVariables false
set_option linter.unusedSimpArgs false
mutual
def complineref18_Item.j0:Nat→Int→List ByteArray→List ByteArray→Bool→Option (Int × Int × Int × Int)
 | 0,_,_,_,_=>none
 | k+1,x1,x6,x7,x30=>if x30=true then (some (0,0,0,2)) else (if (x6.length:Int)=2 then (if 0 < (x6.length:Int) then (if (rdOf ByteArray.empty x6 0).toList=([42]:List UInt8) then (complineref18_Item.j1 k x1 x6 x7 false) else (complineref18_Item.j1 k x1 x6 x7 (decide ((x7.length:Int) < 2)))) else (none)) else (complineref18_Item.j1 k x1 x6 x7 false))
def complineref18_Item.j1:Nat→Int→List ByteArray→List ByteArray→Bool→Option (Int × Int × Int × Int)
 | 0,_,_,_,_=>none
 | k+1,x1,x6,x7,x45=>if x45=true then (some (0,0,0,2)) else ((complineref17_Limits.f x1).bind fun bt243=>(if bt243.2.2=0 then (if 0 < (x6.length:Int) then (if (rdOf ByteArray.empty x6 0).toList=([42]:List UInt8) then (complineref18_Item.j2 k x6 bt243.1 bt243.2.1 1) else (if 0 < (x7.length:Int) then ((complineref17_Value.f k (rdOf ByteArray.empty x7 0) x1).bind fun bt249=>(if bt249.2=0 then (if (x7.length:Int)=2 then (if 1 < (x7.length:Int) then ((complineref17_Value.f k (rdOf ByteArray.empty x7 1) x1).bind fun bt252=>(if bt252.2=0 then (if bt252.1 < bt249.1 then (some (0,0,0,12)) else (complineref18_Item.j2 k x6 bt249.1 bt252.1 1)) else (some (0,0,0,bt252.2)))) else (none)) else (if bt249.1 < bt249.1 then (some (0,0,0,12)) else (complineref18_Item.j2 k x6 bt249.1 bt249.1 1))) else (some (0,0,0,bt249.2)))) else (none))) else (none)) else (some (0,0,0,bt243.2.2))))
def complineref18_Item.j2:Nat→List ByteArray→Int→Int→Int→Option (Int × Int × Int × Int)
 | 0,_,_,_,_=>none
 | k+1,x6,x247000,x247001,x247002=>if (x6.length:Int)=2 then (if 1 < (x6.length:Int) then ((complineref17_Number.f k (rdOf ByteArray.empty x6 1)).bind fun bt255=>(if bt255.2=0 then (if bt255.1=0 then (some (0,0,0,1)) else (some (x247000,x247001,bt255.1,0))) else (some (0,0,0,bt255.2)))) else (none)) else (some (x247000,x247001,x247002,0))
end
def complineref18_Item.f (k:Nat)(a0:ByteArray)(a1:Int):Option (Int × Int × Int × Int):=(complineref18_Split.f k a0 47).bind fun t235=>(if 0 < (t235.length:Int) then ((complineref18_Split.f k (rdOf ByteArray.empty t235 0) 45).bind fun t239=>(if (t235.length:Int) > 2 then (complineref18_Item.j0 k a1 t235 t239 true) else (complineref18_Item.j0 k a1 t235 t239 (decide ((t239.length:Int) > 2))))) else (none))
set_option maxHeartbeats 8000000 in
set_option maxRecDepth 100000 in
theorem complineref18_Item.calls (k:Nat)(a0:ByteArray)(a1:Int)(r1:Int)(r2:Int)(r3:Int)(r4:Int)(w:World)(h:complineref18_Item.f k a0 a1=some (r1,r2,r3,r4)) :
  Calls Tryz.prog 84 #[.string a0,.int .i64 a1] w fun e w'=>e=.returned (.tuple #[.agg #[.int .i64 r1,.int .i64 r2,.int .i64 r3],.int .i64 r4])∧Below w.heap.size w w':=by
 have hu118:=Tryz.underlying118
 have HB:=Aside0.mk (Below.refl w.heap.size w)
 have H:((complineref18_Split.f k a0 47).bind fun t235=>(if 0 < (t235.length:Int) then ((complineref18_Split.f k (rdOf ByteArray.empty t235 0) 45).bind fun t239=>(if (t235.length:Int) > 2 then (complineref18_Item.j0 k a1 t235 t239 true) else (complineref18_Item.j0 k a1 t235 t239 (decide ((t239.length:Int) > 2))))) else (none)))=some (r1,r2,r3,r4):=h
 clear h
 replace H:=Option.bind_eq_some_iff.mp H
 obtain ⟨t235,A30,H⟩ :=H
 replace H:(if 0 < (t235.length:Int) then ((complineref18_Split.f k (rdOf ByteArray.empty t235 0) 45).bind fun t239=>(if (t235.length:Int) > 2 then (complineref18_Item.j0 k a1 t235 t239 true) else (complineref18_Item.j0 k a1 t235 t239 (decide ((t239.length:Int) > 2))))) else (none))=some (r1,r2,r3,r4):=H
 have A3:=Aside0.mk A30
 clear A30
 by_cases c4:0 < (t235.length:Int)
 ·rw [if_pos c4] at H
  have c4b0:decide (0 < (t235.length:Int))=true:=decide_eq_true c4
  have c4b1:decide (0 < t235.length)=true:=decide_eq_true (by omega)
  clear c4
  replace H:=Option.bind_eq_some_iff.mp H
  obtain ⟨t239,A50,H⟩ :=H
  replace H:(if (t235.length:Int) > 2 then (complineref18_Item.j0 k a1 t235 t239 true) else (complineref18_Item.j0 k a1 t235 t239 (decide ((t239.length:Int) > 2))))=some (r1,r2,r3,r4):=H
  have A5:=Aside0.mk A50
  clear A50
  have HC6:=Aside0.mk H
  clear H
  go_enter Tryz.func84,Tryz.ntmps84
  go_upto_region 3 with (first | ((with_reducible refine gate_dst (N:=4) rfl ?_); (try (refine gate_guard (by rfl) ?_; dsimp only)); refine box_event ?hg (N:=4) ?hd (cs:=#[.int .i64 0,.int .i64 0,.int .i64 0]) (t:=118) ?hr ?_; (case hd=>rfl); (case hg=>rfl); (case hr=>first | (go_simp; done) | (go_simp; rfl)); intro gb234 hg w7 hbox hb; have n0_:=Aside0.mk (below_step (by repeat (first | (with_reducible first | exact HB.out | apply below_alloc | apply pw_below_drewN | apply below_drew1) | exact HB.out)) hb); have n1_:=Aside0.mk (hbox); have n2_:=Aside0.mk ((by rw [hg]; exact (below_size (by repeat (first | (with_reducible first | exact HB.out | apply below_alloc | apply pw_below_drewN | apply below_drew1) | exact HB.out))):w.heap.size≤gb234)); have n3_:=Aside0.mk ((by rw [hg]; exact (below_size (by repeat (first | (with_reducible first | exact HB.out | apply below_alloc | apply pw_below_drewN | apply below_drew1) | exact HB.out))):w.heap.size≤gb234)); clear HB; have HB:=n0_; have BK234:=n1_; have GW234:=n2_; have GE234:=n3_; clear n0_ n1_ n2_ n3_; clear hb hbox hg) | ((with_reducible refine gate_callee (f:=83) rfl ?_); refine goesL_ (some 18) rfl rfl Tryz.func83 (by kernel_rfl) rfl #[.string a0,.int .u8 47] rfl (by (try simp only [List.map_toArray,List.map_cons,List.map_nil]); first | done | rfl | (simp only [List.length_drop,List.length_take]; rfl)) ?_; (with_reducible refine (complineref18_Split.calls k a0 47 t235 _ A3.out).mono ?_); rintro e w8 ⟨v236,rfl,ho0,hb⟩; refine ⟨_,rfl,?_⟩; have n0_:=Aside0.mk (Kd.R_lower ho0 (below_size (by repeat (first | (with_reducible first | exact HB.out | apply below_alloc | apply pw_below_drewN | apply below_drew1 | refine below_set ?_ GE234.out) | exact HB.out)))); have n1_:=Aside0.mk (blk_below (g:=gb234) (o:=.cells #[.int .i64 0,.int .i64 0,.int .i64 0] 118 (0,0)) (by (with_reducible repeat (first | refine blk_drewN ?_ _ | refine blk_drew ?_ | refine blk_alloc ?_ _)); exact BK234.out) hb); have n2_:=Aside0.mk (below_step (by repeat (first | (with_reducible first | exact HB.out | apply below_alloc | apply pw_below_drewN | apply below_drew1 | refine below_set ?_ GE234.out) | exact HB.out)) hb); clear BK234; clear HB; have HO237:=n0_; have BK234:=n1_; have HB:=n2_; clear n0_ n1_ n2_; (try clear hb); (try clear hb2); (try clear hk); (try clear hi); (try clear ho0); obtain ⟨Ao9,co9,eo9⟩ :=Kd.R_slice HO237.out; subst eo9; have p238:0≤(0:Int):=(by omega); have q238:0 < (t235.length:Int):=of_decide_eq_true (by first | (with_reducible assumption) | assumption); obtain ⟨ad238,e238,hx238_0⟩ :=Kd.at_string (Kd.R_reads' HO237.out).2.2 0 p238 q238; cases e238; have qi238:(0 < t235.length)=True:=eq_true (by omega); (try rw [show ((0:Int)).toNat=0 from rfl] at hx238_0); (try rw [Addr.add_zero'] at hx238_0); replace p238:=eq_true p238; replace q238:=eq_true q238) | ((with_reducible refine gate_callee (f:=83) rfl ?_); refine goesL_ (some 22) rfl rfl Tryz.func83 (by kernel_rfl) rfl #[.string (rdOf ByteArray.empty t235 0),.int .u8 45] rfl (by (try simp only [List.map_toArray,List.map_cons,List.map_nil]); first | done | rfl | (simp only [List.length_drop,List.length_take]; rfl)) ?_; (with_reducible refine (complineref18_Split.calls k (rdOf ByteArray.empty t235 0) 45 t239 _ A5.out).mono ?_); rintro e w10 ⟨v240,rfl,ho0,hb⟩; refine ⟨_,rfl,?_⟩; have n0_:=Aside0.mk (Kd.R_elder' (by (with_reducible repeat (first | apply Kd.R_alloc | apply Kd.R_drewN | apply Kd.R_drew)); exact HO237.out) (Kd.R_base ho0) hb); have n1_:=Aside0.mk (Kd.R_lower (Kd.R_new' ho0 (Kd.R_lt (by (with_reducible repeat (first | apply Kd.R_alloc | apply Kd.R_drewN | apply Kd.R_drew)); exact HO237.out))) (below_size (by repeat (first | (with_reducible first | exact HB.out | apply below_alloc | apply pw_below_drewN | apply below_drew1 | refine below_set ?_ GE234.out) | exact HB.out)))); have n2_:=Aside0.mk (blk_below (g:=gb234) (o:=.cells #[.int .i64 0,.int .i64 0,.int .i64 0] 118 (0,0)) (by (with_reducible repeat (first | refine blk_drewN ?_ _ | refine blk_drew ?_ | refine blk_alloc ?_ _)); exact BK234.out) hb); have n3_:=Aside0.mk (below_step (by repeat (first | (with_reducible first | exact HB.out | apply below_alloc | apply pw_below_drewN | apply below_drew1 | refine below_set ?_ GE234.out) | exact HB.out)) hb); clear HO237; clear BK234; clear HB; have HO237:=n0_; have HO241:=n1_; have BK234:=n2_; have HB:=n3_; clear n0_ n1_ n2_ n3_; (try clear hb); (try clear hb2); (try clear hk); (try clear hi); (try clear ho0)))
  (try simp only [Act.put,List.setIfInBounds_toArray,List.set_cons_zero,List.set_cons_succ])
  go_cut [30] (fun v30 wc=>∃ (kq:Nat) (x30_5:Bool),v30=.bool x30_5∧Aside0 (complineref18_Item.j0 kq a1 t235 t239 x30_5=some (r1,r2,r3,r4))∧Aside0 (kq≤k)∧Aside0 (Kd.R Kd.string 9 wc w.heap.size (fun k_=>some k_≠(v240:Value).ownBlock) (.slice (some ad238) t235.length co9) t235)∧Aside0 (Kd.R Kd.string 9 wc w.heap.size (fun k_=>some k_≠((.slice (some ad238) t235.length co9):Value).ownBlock) v240 t239)∧Aside0 (wc.heap[gb234]?=some (.cells #[.int .i64 0,.int .i64 0,.int .i64 0] 118 (0,0)))∧Aside0 (Below w.heap.size w wc))
  case first=>
   have H:=HC6.out
   clear HC6
   by_cases c11:(t235.length:Int) > 2
   ·rw [if_pos c11] at H
    have c11b0:decide (2 < (t235.length:Int))=true:=decide_eq_true c11
    have c11b1:decide (2 < t235.length)=true:=decide_eq_true (by omega)
    clear c11
    (first | rw [c11b0] | (simp only [i64_w,i32_w]; rw [c11b0]) | skip)
    have H':=Aside0.mk H
    clear H
    go_wp2
    go_meet
    case rel=>exact ⟨_,(true),(by first | rfl | (simp; done) | (simp [*]; done)),H',⟨by first | omega | exact Nat.le_refl _⟩,⟨by (with_reducible repeat (first | apply Kd.R_alloc | apply Kd.R_drewN | apply Kd.R_drew)); exact Kd.R_mono HO237.out (fun _ hk=>hk.2)⟩,⟨by (with_reducible repeat (first | apply Kd.R_alloc | apply Kd.R_drewN | apply Kd.R_drew)); exact Kd.R_mono HO241.out (fun _ hk=>hk.2)⟩,⟨by (with_reducible repeat (first | refine blk_drewN ?_ _ | refine blk_drew ?_ | refine blk_alloc ?_ _)); exact BK234.out⟩,⟨by repeat (first | (with_reducible first | exact HB.out | apply below_alloc | apply pw_below_drewN | apply below_drew1 | refine below_set ?_ GE234.out) | exact HB.out)⟩⟩
   ·rw [if_neg c11] at H
    have c11b0:decide (2 < (t235.length:Int))=false:=decide_eq_false c11
    have c11b1:decide (2 < t235.length)=false:=decide_eq_false (by omega)
    clear c11
    (first | rw [c11b0] | (simp only [i64_w,i32_w]; rw [c11b0]) | skip)
    have H':=Aside0.mk H
    clear H
    obtain ⟨Ao12,co12,eo12⟩ :=Kd.R_slice HO241.out
    subst eo12
    go_wp2
    go_meet
    case rel=>exact ⟨_,(decide ((t239.length:Int) > 2)),(by first | rfl | (simp; done) | (simp [*]; done)),H',⟨by first | omega | exact Nat.le_refl _⟩,⟨by (with_reducible repeat (first | apply Kd.R_alloc | apply Kd.R_drewN | apply Kd.R_drew)); exact Kd.R_mono HO237.out (fun _ hk=>hk.2)⟩,⟨by (with_reducible repeat (first | apply Kd.R_alloc | apply Kd.R_drewN | apply Kd.R_drew)); exact Kd.R_mono HO241.out (fun _ hk=>hk.2)⟩,⟨by (with_reducible repeat (first | refine blk_drewN ?_ _ | refine blk_drew ?_ | refine blk_alloc ?_ _)); exact BK234.out⟩,⟨by repeat (first | (with_reducible first | exact HB.out | apply below_alloc | apply pw_below_drewN | apply below_drew1 | refine below_set ?_ GE234.out) | exact HB.out)⟩⟩
  case rest=>
   clear HC6
   try clear c1
   try clear p2
   try clear q2
   try clear hx2
   try clear qi2
   try clear c4
   try clear c4b0
   try clear c4b1
   try clear c8
   try clear c11
   try clear c11b0
   try clear c11b1
   try clear hx238_0
   try clear p238
   try clear q238
   obtain ⟨kq,x30_5,rfl,HA,HJ5,HO_6,HO_7,BK234,HB⟩ :=hcut
   cases kq with
   | zero=>exact absurd HA.out (by simp [complineref18_Item.j0])
   | succ kj5=>
    have H:=HA.out
    clear HA
    simp only [complineref18_Item.j0] at H
    by_cases c13:x30_5=true
    ·subst c13
     have H1:(some (0,0,0,2))=some (r1,r2,r3,r4):=by rw [if_pos rfl] at H; exact H
     clear H
     have H:=H1
     clear H1
     simp only [Option.some.injEq,Prod.mk.injEq] at H
     obtain ⟨rfl,rfl,rfl,rfl⟩ :=H
     have hcz14_0:wc.cell? ⟨gb234,0,none⟩=some (.int .i64 0):=(blk_cell BK234.out 0).trans rfl
     have hcz14_1:wc.cell? ⟨gb234,1,none⟩=some (.int .i64 0):=(blk_cell BK234.out 1).trans rfl
     have hcz14_2:wc.cell? ⟨gb234,2,none⟩=some (.int .i64 0):=(blk_cell BK234.out 2).trans rfl
     have hfz14_0:=blk_frozen BK234.out 0
     have hfz14_1:=blk_frozen BK234.out 1
     have hfz14_2:=blk_frozen BK234.out 2
     go_wp2
     refine bodyPost_ret (results_ct rfl _ _ gb234 118 #[.int .i64 0,.int .i64 0,.int .i64 0] (0,0) _ rfl (by (with_reducible repeat (first | refine blk_drewN ?_ _ | refine blk_drew ?_ | refine blk_alloc ?_ _)); refine blk_put (cs:=#[.int .i64 0,.int .i64 0,.int .i64 0]) ?_ 2 _ rfl; (with_reducible repeat (first | refine blk_drewN ?_ _ | refine blk_drew ?_ | refine blk_alloc ?_ _)); refine blk_put (cs:=#[.int .i64 0,.int .i64 0,.int .i64 0]) ?_ 1 _ rfl; (with_reducible repeat (first | refine blk_drewN ?_ _ | refine blk_drew ?_ | refine blk_alloc ?_ _)); refine blk_put (cs:=#[.int .i64 0,.int .i64 0,.int .i64 0]) ?_ 0 _ rfl; (with_reducible repeat (first | refine blk_drewN ?_ _ | refine blk_drew ?_ | refine blk_alloc ?_ _)); exact BK234.out) Tryz.underlying118 rfl (by kernel_rfl)) rfl ?_
     exact ⟨by first | rfl | (simp [errW_none,errW_some] <;> rfl) | (simp [*,errW_none,errW_some] <;> rfl),by repeat (first | (with_reducible first | exact HB.out | apply below_alloc | apply pw_below_drewN | apply below_drew1 | refine below_set ?_ GE234.out) | exact HB.out)⟩
    ·replace c13:=Bool.eq_false_iff.mpr c13
     subst c13
     have H1:(if (t235.length:Int)=2 then (if 0 < (t235.length:Int) then (if (rdOf ByteArray.empty t235 0).toList=([42]:List UInt8) then (complineref18_Item.j1 kj5 a1 t235 t239 false) else (complineref18_Item.j1 kj5 a1 t235 t239 (decide ((t239.length:Int) < 2)))) else (none)) else (complineref18_Item.j1 kj5 a1 t235 t239 false))=some (r1,r2,r3,r4):=by rw [if_neg (show ¬ (false=true) by decide)] at H; exact H
     clear H
     have H:=H1
     clear H1
     have HC15:=Aside0.mk H
     clear H
     go_upto_region 5 with (fail)
     go_cut [45] (fun v45 wc=>∃ (kq:Nat) (x45_14:Bool),v45=.bool x45_14∧Aside0 (complineref18_Item.j1 kq a1 t235 t239 x45_14=some (r1,r2,r3,r4))∧Aside0 (kq≤kj5)∧Aside0 (Kd.R Kd.string 9 wc w.heap.size (fun k_=>some k_≠(v240:Value).ownBlock) (.slice (some ad238) t235.length co9) t235)∧Aside0 (Kd.R Kd.string 9 wc w.heap.size (fun k_=>some k_≠((.slice (some ad238) t235.length co9):Value).ownBlock) v240 t239)∧Aside0 (wc.heap[gb234]?=some (.cells #[.int .i64 0,.int .i64 0,.int .i64 0] 118 (0,0)))∧Aside0 (Below w.heap.size w wc))
     case first=>
      have H:=HC15.out
      clear HC15
      by_cases c16:(t235.length:Int)=2
      ·rw [if_pos c16] at H
       have c16b0:((t235.length:Int) == 2)=true:=beq_iff_eq.mpr c16
       have c16b1:((t235.length:Int) != 2)=false:=bne_eq_false_iff_eq.mpr c16
       clear c16
       (first | rw [c16b0] | (simp only [i64_w,i32_w]; rw [c16b0]) | skip)
       by_cases c17:0 < (t235.length:Int)
       ·rw [if_pos c17] at H
        have c17b0:decide (0 < (t235.length:Int))=true:=decide_eq_true c17
        have c17b1:decide (0 < t235.length)=true:=decide_eq_true (by omega)
        clear c17
        by_cases c18:(rdOf ByteArray.empty t235 0).toList=([42]:List UInt8)
        ·rw [if_pos c18] at H
         have c18b0:((rdOf ByteArray.empty t235 0).toList == ([42]:List UInt8))=true:=beq_iff_eq.mpr c18
         have c18b1:((rdOf ByteArray.empty t235 0).toList != ([42]:List UInt8))=false:=bne_eq_false_iff_eq.mpr c18
         clear c18
         have H':=Aside0.mk H
         clear H
         have p242:0≤(0:Int):=(by omega)
         have q242:0 < (t235.length:Int):=of_decide_eq_true (by first | (with_reducible assumption) | assumption)
         obtain ⟨ad242,e242,hx242_0⟩ :=Kd.at_string (Kd.R_reads' HO_6.out).2.2 0 p242 q242
         obtain rfl:ad238=ad242:=(by injection e242)
         have qi242:(0 < t235.length)=True:=eq_true (by omega)
         (try rw [show ((0:Int)).toNat=0 from rfl] at hx242_0)
         (try rw [Addr.add_zero'] at hx242_0)
         replace p242:=eq_true p242
         replace q242:=eq_true q242
         go_wp2
         go_meet
         case rel=>exact ⟨_,(false),(by first | rfl | (simp; done) | (simp [*]; done)),H',⟨by have:=HJ5.out; first | omega | exact Nat.le_refl _⟩,⟨by (with_reducible repeat (first | apply Kd.R_alloc | apply Kd.R_drewN | apply Kd.R_drew)); exact HO_6.out⟩,⟨by (with_reducible repeat (first | apply Kd.R_alloc | apply Kd.R_drewN | apply Kd.R_drew)); exact HO_7.out⟩,⟨by (with_reducible repeat (first | refine blk_drewN ?_ _ | refine blk_drew ?_ | refine blk_alloc ?_ _)); exact BK234.out⟩,⟨by repeat (first | (with_reducible first | exact HB.out | apply below_alloc | apply pw_below_drewN | apply below_drew1 | refine below_set ?_ GE234.out) | exact HB.out)⟩⟩
        ·rw [if_neg c18] at H
         have c18b0:((rdOf ByteArray.empty t235 0).toList == ([42]:List UInt8))=false:=beq_eq_false_iff_ne.mpr c18
         have c18b1:((rdOf ByteArray.empty t235 0).toList != ([42]:List UInt8))=true:=bne_iff_ne.mpr c18
         have H':=Aside0.mk H
         clear H
         have p242:0≤(0:Int):=(by omega)
         have q242:0 < (t235.length:Int):=of_decide_eq_true (by first | (with_reducible assumption) | assumption)
         obtain ⟨ad242,e242,hx242_0⟩ :=Kd.at_string (Kd.R_reads' HO_6.out).2.2 0 p242 q242
         obtain rfl:ad238=ad242:=(by injection e242)
         have qi242:(0 < t235.length)=True:=eq_true (by omega)
         (try rw [show ((0:Int)).toNat=0 from rfl] at hx242_0)
         (try rw [Addr.add_zero'] at hx242_0)
         replace p242:=eq_true p242
         replace q242:=eq_true q242
         obtain ⟨Ao19,co19,eo19⟩ :=Kd.R_slice HO_7.out
         subst eo19
         go_wp2
         go_meet
         case rel=>exact ⟨_,(decide ((t239.length:Int) < 2)),(by first | rfl | (simp; done) | (simp [*]; done)),H',⟨by have:=HJ5.out; first | omega | exact Nat.le_refl _⟩,⟨by (with_reducible repeat (first | apply Kd.R_alloc | apply Kd.R_drewN | apply Kd.R_drew)); exact HO_6.out⟩,⟨by (with_reducible repeat (first | apply Kd.R_alloc | apply Kd.R_drewN | apply Kd.R_drew)); exact HO_7.out⟩,⟨by (with_reducible repeat (first | refine blk_drewN ?_ _ | refine blk_drew ?_ | refine blk_alloc ?_ _)); exact BK234.out⟩,⟨by repeat (first | (with_reducible first | exact HB.out | apply below_alloc | apply pw_below_drewN | apply below_drew1 | refine below_set ?_ GE234.out) | exact HB.out)⟩⟩
       ·rw [if_neg c17] at H
        exact absurd H (by simp)
      ·rw [if_neg c16] at H
       have c16b0:((t235.length:Int) == 2)=false:=beq_eq_false_iff_ne.mpr c16
       have c16b1:((t235.length:Int) != 2)=true:=bne_iff_ne.mpr c16
       (first | rw [c16b0] | (simp only [i64_w,i32_w]; rw [c16b0]) | skip)
       have H':=Aside0.mk H
       clear H
       go_wp2
       go_meet
       case rel=>exact ⟨_,(false),(by first | rfl | (simp; done) | (simp [*]; done)),H',⟨by have:=HJ5.out; first | omega | exact Nat.le_refl _⟩,⟨by (with_reducible repeat (first | apply Kd.R_alloc | apply Kd.R_drewN | apply Kd.R_drew)); exact HO_6.out⟩,⟨by (with_reducible repeat (first | apply Kd.R_alloc | apply Kd.R_drewN | apply Kd.R_drew)); exact HO_7.out⟩,⟨by (with_reducible repeat (first | refine blk_drewN ?_ _ | refine blk_drew ?_ | refine blk_alloc ?_ _)); exact BK234.out⟩,⟨by repeat (first | (with_reducible first | exact HB.out | apply below_alloc | apply pw_below_drewN | apply below_drew1 | refine below_set ?_ GE234.out) | exact HB.out)⟩⟩
     case rest=>
      clear HC15
      try clear c1
      try clear p2
      try clear q2
      try clear hx2
      try clear qi2
      try clear c4
      try clear c4b0
      try clear c4b1
      try clear c8
      try clear c11
      try clear c11b0
      try clear c11b1
      try clear c13
      try clear c16
      try clear c16b0
      try clear c16b1
      try clear c17
      try clear c17b0
      try clear c17b1
      try clear c18
      try clear c18b0
      try clear c18b1
      try clear hcz14_0
      try clear hcz14_1
      try clear hcz14_2
      try clear hfz14_0
      try clear hfz14_1
      try clear hfz14_2
      try clear hx238_0
      try clear hx242_0
      try clear p2
      try clear p238
      try clear p242
      try clear q2
      try clear q238
      try clear q242
      obtain ⟨kq,x45_14,rfl,HA,HJ14,HO_6,HO_7,BK234,HB⟩ :=hcut
      cases kq with
      | zero=>exact absurd HA.out (by simp [complineref18_Item.j1])
      | succ kj14=>
       have H:=HA.out
       clear HA
       simp only [complineref18_Item.j1] at H
       by_cases c20:x45_14=true
       ·subst c20
        have H1:(some (0,0,0,2))=some (r1,r2,r3,r4):=by rw [if_pos rfl] at H; exact H
        clear H
        have H:=H1
        clear H1
        simp only [Option.some.injEq,Prod.mk.injEq] at H
        obtain ⟨rfl,rfl,rfl,rfl⟩ :=H
        have hcz21_0:wc.cell? ⟨gb234,0,none⟩=some (.int .i64 0):=(blk_cell BK234.out 0).trans rfl
        have hcz21_1:wc.cell? ⟨gb234,1,none⟩=some (.int .i64 0):=(blk_cell BK234.out 1).trans rfl
        have hcz21_2:wc.cell? ⟨gb234,2,none⟩=some (.int .i64 0):=(blk_cell BK234.out 2).trans rfl
        have hfz21_0:=blk_frozen BK234.out 0
        have hfz21_1:=blk_frozen BK234.out 1
        have hfz21_2:=blk_frozen BK234.out 2
        go_wp2
        refine bodyPost_ret (results_ct rfl _ _ gb234 118 #[.int .i64 0,.int .i64 0,.int .i64 0] (0,0) _ rfl (by (with_reducible repeat (first | refine blk_drewN ?_ _ | refine blk_drew ?_ | refine blk_alloc ?_ _)); refine blk_put (cs:=#[.int .i64 0,.int .i64 0,.int .i64 0]) ?_ 2 _ rfl; (with_reducible repeat (first | refine blk_drewN ?_ _ | refine blk_drew ?_ | refine blk_alloc ?_ _)); refine blk_put (cs:=#[.int .i64 0,.int .i64 0,.int .i64 0]) ?_ 1 _ rfl; (with_reducible repeat (first | refine blk_drewN ?_ _ | refine blk_drew ?_ | refine blk_alloc ?_ _)); refine blk_put (cs:=#[.int .i64 0,.int .i64 0,.int .i64 0]) ?_ 0 _ rfl; (with_reducible repeat (first | refine blk_drewN ?_ _ | refine blk_drew ?_ | refine blk_alloc ?_ _)); exact BK234.out) Tryz.underlying118 rfl (by kernel_rfl)) rfl ?_
        exact ⟨by first | rfl | (simp [errW_none,errW_some] <;> rfl) | (simp [*,errW_none,errW_some] <;> rfl),by repeat (first | (with_reducible first | exact HB.out | apply below_alloc | apply pw_below_drewN | apply below_drew1 | refine below_set ?_ GE234.out) | exact HB.out)⟩
       ·replace c20:=Bool.eq_false_iff.mpr c20
        subst c20
        have H1:((complineref17_Limits.f a1).bind fun bt243=>(if bt243.2.2=0 then (if 0 < (t235.length:Int) then (if (rdOf ByteArray.empty t235 0).toList=([42]:List UInt8) then (complineref18_Item.j2 kj14 t235 bt243.1 bt243.2.1 1) else (if 0 < (t239.length:Int) then ((complineref17_Value.f kj14 (rdOf ByteArray.empty t239 0) a1).bind fun bt249=>(if bt249.2=0 then (if (t239.length:Int)=2 then (if 1 < (t239.length:Int) then ((complineref17_Value.f kj14 (rdOf ByteArray.empty t239 1) a1).bind fun bt252=>(if bt252.2=0 then (if bt252.1 < bt249.1 then (some (0,0,0,12)) else (complineref18_Item.j2 kj14 t235 bt249.1 bt252.1 1)) else (some (0,0,0,bt252.2)))) else (none)) else (if bt249.1 < bt249.1 then (some (0,0,0,12)) else (complineref18_Item.j2 kj14 t235 bt249.1 bt249.1 1))) else (some (0,0,0,bt249.2)))) else (none))) else (none)) else (some (0,0,0,bt243.2.2))))=some (r1,r2,r3,r4):=by rw [if_neg (show ¬ (false=true) by decide)] at H; exact H
        clear H
        have H:=H1
        clear H1
        replace H:=Option.bind_eq_some_iff.mp H
        obtain ⟨⟨t243,t244,t245⟩,A220,H⟩ :=H
        replace H:(if t245=0 then (if 0 < (t235.length:Int) then (if (rdOf ByteArray.empty t235 0).toList=([42]:List UInt8) then (complineref18_Item.j2 kj14 t235 t243 t244 1) else (if 0 < (t239.length:Int) then ((complineref17_Value.f kj14 (rdOf ByteArray.empty t239 0) a1).bind fun bt249=>(if bt249.2=0 then (if (t239.length:Int)=2 then (if 1 < (t239.length:Int) then ((complineref17_Value.f kj14 (rdOf ByteArray.empty t239 1) a1).bind fun bt252=>(if bt252.2=0 then (if bt252.1 < bt249.1 then (some (0,0,0,12)) else (complineref18_Item.j2 kj14 t235 bt249.1 bt252.1 1)) else (some (0,0,0,bt252.2)))) else (none)) else (if bt249.1 < bt249.1 then (some (0,0,0,12)) else (complineref18_Item.j2 kj14 t235 bt249.1 bt249.1 1))) else (some (0,0,0,bt249.2)))) else (none))) else (none)) else (some (0,0,0,t245)))=some (r1,r2,r3,r4):=H
        have A22:=Aside0.mk A220
        clear A220
        by_cases c23:t245=0
        ·rw [if_pos c23] at H
         have c23b0:(t245 == 0)=true:=beq_iff_eq.mpr c23
         have c23b1:(t245 != 0)=false:=bne_eq_false_iff_eq.mpr c23
         clear c23
         by_cases c24:0 < (t235.length:Int)
         ·rw [if_pos c24] at H
          have c24b0:decide (0 < (t235.length:Int))=true:=decide_eq_true c24
          have c24b1:decide (0 < t235.length)=true:=decide_eq_true (by omega)
          clear c24
          have HC25:=Aside0.mk H
          clear H
          go_upto_if 63 with (first | ((with_reducible refine gate_callee (f:=79) rfl ?_); refine goesL_ (some 49) rfl rfl Tryz.func79 (by kernel_rfl) rfl #[.int .i64 a1] rfl (by (try simp only [List.map_toArray,List.map_cons,List.map_nil]); first | done | rfl | (simp only [List.length_drop,List.length_take]; rfl)) ?_; (with_reducible refine (complineref17_Limits.calls a1 t243 t244 t245 _ A22.out).mono ?_); rintro e w' ⟨rfl,⟨nd,rfl⟩⟩; refine ⟨_,rfl,?_⟩; (try (rw [drewN_self wc]; generalize hq_:World.drewN wc _=wc; have n0_:Aside0 (Kd.R Kd.string 9 wc w.heap.size (fun k_=>some k_≠(v240:Value).ownBlock) (.slice (some ad238) t235.length co9) t235):=⟨by rw [← hq_]; exact (by (with_reducible repeat (first | apply Kd.R_alloc | apply Kd.R_drewN | apply Kd.R_drew)); exact HO_6.out)⟩; have n1_:Aside0 (Kd.R Kd.string 9 wc w.heap.size (fun k_=>some k_≠(.slice (some ad238) t235.length co9:Value).ownBlock) v240 t239):=⟨by rw [← hq_]; exact (by (with_reducible repeat (first | apply Kd.R_alloc | apply Kd.R_drewN | apply Kd.R_drew)); exact HO_7.out)⟩; have n2_:Aside0 (wc.heap[gb234]?=some (.cells #[.int .i64 0,.int .i64 0,.int .i64 0] 118 (0,0))):=⟨by rw [← hq_]; exact (by (with_reducible repeat (first | refine blk_drewN ?_ _ | refine blk_drew ?_ | refine blk_alloc ?_ _)); exact BK234.out)⟩; have n3_:Aside0 (Below w.heap.size w wc):=⟨by rw [← hq_]; exact (by repeat (first | (with_reducible first | exact HB.out | apply below_alloc | apply pw_below_drewN | apply below_drew1 | refine below_set ?_ GE234.out) | exact HB.out))⟩; clear HO_6 HO_7 BK234 HB hq_; have HO_6:=n0_; have HO_7:=n1_; have BK234:=n2_; have HB:=n3_; clear n0_ n1_ n2_ n3_))) | ((with_reducible refine gate_dst (N:=11) rfl ?_); (try (refine gate_guard (by rfl) ?_; dsimp only)); refine box_event ?hg (N:=11) ?hd (cs:=#[.int .i64 0,.int .i64 0,.int .i64 0]) (t:=118) ?hr ?_; (case hd=>rfl); (case hg=>rfl); (case hr=>first | (go_simp; done) | (go_simp; rfl)); intro gb246 hg w26 hbox hb; have n0_:=Aside0.mk (Kd.R_below (by (with_reducible repeat (first | apply Kd.R_alloc | apply Kd.R_drewN | apply Kd.R_drew)); exact HO_6.out) hb); have n1_:=Aside0.mk (Kd.R_below (by (with_reducible repeat (first | apply Kd.R_alloc | apply Kd.R_drewN | apply Kd.R_drew)); exact HO_7.out) hb); have n2_:=Aside0.mk (blk_below (g:=gb234) (o:=.cells #[.int .i64 0,.int .i64 0,.int .i64 0] 118 (0,0)) (by (with_reducible repeat (first | refine blk_drewN ?_ _ | refine blk_drew ?_ | refine blk_alloc ?_ _)); exact BK234.out) hb); have n3_:=Aside0.mk (below_step (by repeat (first | (with_reducible first | exact HB.out | apply below_alloc | apply pw_below_drewN | apply below_drew1 | refine below_set ?_ GE234.out) | exact HB.out)) hb); have n4_:=Aside0.mk (hbox); have n5_:=Aside0.mk ((by rw [hg]; exact (below_size (by repeat (first | (with_reducible first | exact HB.out | apply below_alloc | apply pw_below_drewN | apply below_drew1 | refine below_set ?_ GE234.out) | exact HB.out))):w.heap.size≤gb246)); have n6_:=Aside0.mk ((by rw [hg]; exact (below_size (by repeat (first | (with_reducible first | exact HB.out | apply below_alloc | apply pw_below_drewN | apply below_drew1 | refine below_set ?_ GE234.out) | exact HB.out))):w.heap.size≤gb246)); have n7_:=Aside0.mk ((by rw [hg]; exact Nat.ne_of_lt (blk_lt (g:=gb234) (o:=.cells #[.int .i64 0,.int .i64 0,.int .i64 0] 118 (0,0)) (by (with_reducible repeat (first | refine blk_drewN ?_ _ | refine blk_drew ?_ | refine blk_alloc ?_ _)); exact BK234.out)):gb234≠gb246)); have n8_:=Aside0.mk ((by rw [hg]; exact Nat.ne_of_gt (blk_lt (g:=gb234) (o:=.cells #[.int .i64 0,.int .i64 0,.int .i64 0] 118 (0,0)) (by (with_reducible repeat (first | refine blk_drewN ?_ _ | refine blk_drew ?_ | refine blk_alloc ?_ _)); exact BK234.out)):gb246≠gb234)); clear HO_6; clear HO_7; clear BK234; clear HB; have HO_6:=n0_; have HO_7:=n1_; have BK234:=n2_; have HB:=n3_; have BK246:=n4_; have GW246:=n5_; have GE246:=n6_; have NB234_246:=n7_; have NB246_234:=n8_; clear n0_ n1_ n2_ n3_ n4_ n5_ n6_ n7_ n8_; clear hb hbox hg; have hnb27:=NB246_234.out; have hnc27:=NB234_246.out; have hcz28_0:w26.cell? ⟨gb246,0,none⟩=some (.int .i64 0):=(blk_cell BK246.out 0).trans rfl; have hcz28_1:w26.cell? ⟨gb246,1,none⟩=some (.int .i64 0):=(blk_cell BK246.out 1).trans rfl; have hcz28_2:w26.cell? ⟨gb246,2,none⟩=some (.int .i64 0):=(blk_cell BK246.out 2).trans rfl; have hfz28_0:=blk_frozen BK246.out 0; have hfz28_1:=blk_frozen BK246.out 1; have hfz28_2:=blk_frozen BK246.out 2; have p247:0≤(0:Int):=(by omega); have q247:0 < (t235.length:Int):=of_decide_eq_true (by first | (with_reducible assumption) | assumption); obtain ⟨ad247,e247,hx247_0⟩ :=Kd.at_string (Kd.R_reads' HO_6.out).2.2 0 p247 q247; obtain rfl:ad238=ad247:=(by injection e247); have qi247:(0 < t235.length)=True:=eq_true (by omega); (try rw [show ((0:Int)).toNat=0 from rfl] at hx247_0); (try rw [Addr.add_zero'] at hx247_0); have hn247_0:ad238.block≠gb246:=Kd.own_blk (Kd.R_ne HO_6.out BK246.out (by decide)); have hn247_1:ad238.block≠gb246:=Kd.own_blk (Kd.R_ne HO_6.out BK246.out (by decide)); have hn247_2:ad238.block≠gb246:=Kd.own_blk (Kd.R_ne HO_6.out BK246.out (by decide)); replace hx247_0:=(cell_far (p:=⟨gb246,0,none⟩) (by first | (rw [add_block]; exact hn247_0) | (show (Addr.add _ _).block≠_; rw [add_block]; exact hn247_0) | exact hn247_0) (.int .i64 t243)).trans hx247_0; replace hx247_0:=(cell_far (p:=⟨gb246,1,none⟩) (by first | (rw [add_block]; exact hn247_1) | (show (Addr.add _ _).block≠_; rw [add_block]; exact hn247_1) | exact hn247_1) (.int .i64 t244)).trans hx247_0; replace hx247_0:=(cell_far (p:=⟨gb246,2,none⟩) (by first | (rw [add_block]; exact hn247_2) | (show (Addr.add _ _).block≠_; rw [add_block]; exact hn247_2) | exact hn247_2) (.int .i64 1)).trans hx247_0; clear hn247_0; clear hn247_1; clear hn247_2; replace p247:=eq_true p247; replace q247:=eq_true q247))
          (try simp only [Act.put,List.setIfInBounds_toArray,List.set_cons_zero,List.set_cons_succ])
          go_cut [] (fun wc=>∃ (kq:Nat) (x235000_24:Int) (x235001_24:Int) (x235002_24:Int) (x247000_24:Int) (x247001_24:Int) (x247002_24:Int),Aside0 (complineref18_Item.j2 kq t235 x247000_24 x247001_24 x247002_24=some (r1,r2,r3,r4))∧Aside0 (kq≤kj14)∧Aside0 (Kd.R Kd.string 9 wc w.heap.size (fun _=>True) (.slice (some ad238) t235.length co9) t235)∧Aside0 (wc.heap[gb234]?=some (.cells #[.int .i64 x235000_24,.int .i64 x235001_24,.int .i64 x235002_24] 118 (0,0)))∧Aside0 (wc.heap[gb246]?=some (.cells #[.int .i64 x247000_24,.int .i64 x247001_24,.int .i64 x247002_24] 118 (0,0)))∧Aside0 (Below w.heap.size w wc))
          case first=>
           have H:=HC25.out
           clear HC25
           by_cases c29:(rdOf ByteArray.empty t235 0).toList=([42]:List UInt8)
           ·rw [if_pos c29] at H
            have c29b0:((rdOf ByteArray.empty t235 0).toList == ([42]:List UInt8))=true:=beq_iff_eq.mpr c29
            have c29b1:((rdOf ByteArray.empty t235 0).toList != ([42]:List UInt8))=false:=bne_eq_false_iff_eq.mpr c29
            clear c29
            (first | rw [c29b0] | (simp only [i64_w,i32_w]; rw [c29b0]) | skip)
            have H':=Aside0.mk H
            clear H
            go_wp2
            go_meet
            case rel=>exact ⟨_,(0),(0),(0),(t243),(t244),(1),H',⟨by have:=HJ5.out; have:=HJ14.out; first | omega | exact Nat.le_refl _⟩,⟨by (with_reducible repeat (first | apply Kd.R_alloc | apply Kd.R_drewN | apply Kd.R_drew)); exact Kd.R_mono (Kd.R_far (p:=⟨gb246,2,none⟩) (Kd.R_far (p:=⟨gb246,1,none⟩) (Kd.R_far (p:=⟨gb246,0,none⟩) (Kd.R_types HO_6.out BK246.out (by decide)) (fun _ hk=>hk.2) (.int .i64 t243)) (fun _ hk=>hk.2) (.int .i64 t244)) (fun _ hk=>hk.2) (.int .i64 1)) (fun _ hk=>trivial)⟩,⟨by (with_reducible repeat (first | refine blk_drewN ?_ _ | refine blk_drew ?_ | refine blk_alloc ?_ _)); refine blk_far ?_ NB234_246.out _; (with_reducible repeat (first | refine blk_drewN ?_ _ | refine blk_drew ?_ | refine blk_alloc ?_ _)); refine blk_far ?_ NB234_246.out _; (with_reducible repeat (first | refine blk_drewN ?_ _ | refine blk_drew ?_ | refine blk_alloc ?_ _)); refine blk_far ?_ NB234_246.out _; (with_reducible repeat (first | refine blk_drewN ?_ _ | refine blk_drew ?_ | refine blk_alloc ?_ _)); exact BK234.out⟩,⟨by (with_reducible repeat (first | refine blk_drewN ?_ _ | refine blk_drew ?_ | refine blk_alloc ?_ _)); refine blk_put (cs:=#[.int .i64 t243,.int .i64 t244,.int .i64 0]) ?_ 2 _ rfl; (with_reducible repeat (first | refine blk_drewN ?_ _ | refine blk_drew ?_ | refine blk_alloc ?_ _)); refine blk_put (cs:=#[.int .i64 t243,.int .i64 0,.int .i64 0]) ?_ 1 _ rfl; (with_reducible repeat (first | refine blk_drewN ?_ _ | refine blk_drew ?_ | refine blk_alloc ?_ _)); refine blk_put (cs:=#[.int .i64 0,.int .i64 0,.int .i64 0]) ?_ 0 _ rfl; (with_reducible repeat (first | refine blk_drewN ?_ _ | refine blk_drew ?_ | refine blk_alloc ?_ _)); exact BK246.out⟩,⟨by repeat (first | (with_reducible first | exact HB.out | apply below_alloc | apply pw_below_drewN | apply below_drew1 | refine below_set ?_ GE234.out | refine below_set ?_ GE246.out) | exact HB.out)⟩⟩
           ·rw [if_neg c29] at H
            have c29b0:((rdOf ByteArray.empty t235 0).toList == ([42]:List UInt8))=false:=beq_eq_false_iff_ne.mpr c29
            have c29b1:((rdOf ByteArray.empty t235 0).toList != ([42]:List UInt8))=true:=bne_iff_ne.mpr c29
            (first | rw [c29b0] | (simp only [i64_w,i32_w]; rw [c29b0]) | skip)
            by_cases c30:0 < (t239.length:Int)
            ·rw [if_pos c30] at H
             have c30b0:decide (0 < (t239.length:Int))=true:=decide_eq_true c30
             have c30b1:decide (0 < t239.length)=true:=decide_eq_true (by omega)
             clear c30
             replace H:=Option.bind_eq_some_iff.mp H
             obtain ⟨⟨t249,t250⟩,A310,H⟩ :=H
             replace H:(if t250=0 then (if (t239.length:Int)=2 then (if 1 < (t239.length:Int) then ((complineref17_Value.f kj14 (rdOf ByteArray.empty t239 1) a1).bind fun bt252=>(if bt252.2=0 then (if bt252.1 < t249 then (some (0,0,0,12)) else (complineref18_Item.j2 kj14 t235 t249 bt252.1 1)) else (some (0,0,0,bt252.2)))) else (none)) else (if t249 < t249 then (some (0,0,0,12)) else (complineref18_Item.j2 kj14 t235 t249 t249 1))) else (some (0,0,0,t250)))=some (r1,r2,r3,r4):=H
             have A31:=Aside0.mk A310
             clear A310
             by_cases c32:t250=0
             ·rw [if_pos c32] at H
              have c32b0:(t250 == 0)=true:=beq_iff_eq.mpr c32
              have c32b1:(t250 != 0)=false:=bne_eq_false_iff_eq.mpr c32
              clear c32
              by_cases c33:(t239.length:Int)=2
              ·rw [if_pos c33] at H
               have c33b0:((t239.length:Int) == 2)=true:=beq_iff_eq.mpr c33
               have c33b1:((t239.length:Int) != 2)=false:=bne_eq_false_iff_eq.mpr c33
               clear c33
               by_cases c34:1 < (t239.length:Int)
               ·rw [if_pos c34] at H
                have c34b0:decide (1 < (t239.length:Int))=true:=decide_eq_true c34
                have c34b1:decide (1 < t239.length)=true:=decide_eq_true (by omega)
                clear c34
                replace H:=Option.bind_eq_some_iff.mp H
                obtain ⟨⟨t252,t253⟩,A350,H⟩ :=H
                replace H:(if t253=0 then (if t252 < t249 then (some (0,0,0,12)) else (complineref18_Item.j2 kj14 t235 t249 t252 1)) else (some (0,0,0,t253)))=some (r1,r2,r3,r4):=H
                have A35:=Aside0.mk A350
                clear A350
                by_cases c36:t253=0
                ·rw [if_pos c36] at H
                 have c36b0:(t253 == 0)=true:=beq_iff_eq.mpr c36
                 have c36b1:(t253 != 0)=false:=bne_eq_false_iff_eq.mpr c36
                 clear c36
                 by_cases c37:t252 < t249
                 ·rw [if_pos c37] at H
                  have c37b0:decide (t252 < t249)=true:=decide_eq_true c37
                  clear c37
                  simp only [Option.some.injEq,Prod.mk.injEq] at H
                  obtain ⟨rfl,rfl,rfl,rfl⟩ :=H
                  obtain ⟨Ao38,co38,eo38⟩ :=Kd.R_slice HO_7.out
                  subst eo38
                  have p248:0≤(0:Int):=(by omega)
                  have q248:0 < (t239.length:Int):=of_decide_eq_true (by first | (with_reducible assumption) | assumption)
                  obtain ⟨ad248,e248,hx248_0⟩ :=Kd.at_string (Kd.R_reads' HO_7.out).2.2 0 p248 q248
                  cases e248
                  have qi248:(0 < t239.length)=True:=eq_true (by omega)
                  (try rw [show ((0:Int)).toNat=0 from rfl] at hx248_0)
                  (try rw [Addr.add_zero'] at hx248_0)
                  have hn248_0:ad248.block≠gb246:=Kd.own_blk (Kd.R_ne HO_7.out BK246.out (by decide))
                  have hn248_1:ad248.block≠gb246:=Kd.own_blk (Kd.R_ne HO_7.out BK246.out (by decide))
                  have hn248_2:ad248.block≠gb246:=Kd.own_blk (Kd.R_ne HO_7.out BK246.out (by decide))
                  replace hx248_0:=(cell_far (p:=⟨gb246,0,none⟩) (by first | (rw [add_block]; exact hn248_0) | (show (Addr.add _ _).block≠_; rw [add_block]; exact hn248_0) | exact hn248_0) (.int .i64 t243)).trans hx248_0
                  replace hx248_0:=(cell_far (p:=⟨gb246,1,none⟩) (by first | (rw [add_block]; exact hn248_1) | (show (Addr.add _ _).block≠_; rw [add_block]; exact hn248_1) | exact hn248_1) (.int .i64 t244)).trans hx248_0
                  replace hx248_0:=(cell_far (p:=⟨gb246,2,none⟩) (by first | (rw [add_block]; exact hn248_2) | (show (Addr.add _ _).block≠_; rw [add_block]; exact hn248_2) | exact hn248_2) (.int .i64 1)).trans hx248_0
                  clear hn248_0
                  clear hn248_1
                  clear hn248_2
                  replace p248:=eq_true p248
                  replace q248:=eq_true q248
                  go_wp2_with (first | ((with_reducible refine gate_callee (f:=103) rfl ?_); refine goesL_ (some 69) rfl rfl Tryz.func103 (by kernel_rfl) rfl #[.string (rdOf ByteArray.empty t239 0),.int .i64 a1] rfl (by (try simp only [List.map_toArray,List.map_cons,List.map_nil]); first | done | rfl | (simp only [List.length_drop,List.length_take]; rfl)) ?_; (with_reducible refine (complineref17_Value.calls kj14 (rdOf ByteArray.empty t239 0) a1 t249 t250 _ A31.out).mono ?_); rintro e w39 ⟨rfl,hb⟩; refine ⟨_,rfl,?_⟩; have n0_:=Aside0.mk (Kd.R_below (by (with_reducible repeat (first | apply Kd.R_alloc | apply Kd.R_drewN | apply Kd.R_drew)); exact (Kd.R_mono (Kd.R_far (p:=⟨gb246,2,none⟩) (Kd.R_far (p:=⟨gb246,1,none⟩) (Kd.R_far (p:=⟨gb246,0,none⟩) (Kd.R_types HO_6.out BK246.out (by decide)) (fun _ hk=>hk.2) (.int .i64 t243)) (fun _ hk=>hk.2) (.int .i64 t244)) (fun _ hk=>hk.2) (.int .i64 1)) (fun _ h_=>h_.1))) hb); have n1_:=Aside0.mk (Kd.R_below (by (with_reducible repeat (first | apply Kd.R_alloc | apply Kd.R_drewN | apply Kd.R_drew)); exact (Kd.R_mono (Kd.R_far (p:=⟨gb246,2,none⟩) (Kd.R_far (p:=⟨gb246,1,none⟩) (Kd.R_far (p:=⟨gb246,0,none⟩) (Kd.R_types HO_7.out BK246.out (by decide)) (fun _ hk=>hk.2) (.int .i64 t243)) (fun _ hk=>hk.2) (.int .i64 t244)) (fun _ hk=>hk.2) (.int .i64 1)) (fun _ h_=>h_.1))) hb); have n2_:=Aside0.mk (blk_below (g:=gb234) (o:=.cells #[.int .i64 0,.int .i64 0,.int .i64 0] 118 (0,0)) (by (with_reducible repeat (first | refine blk_drewN ?_ _ | refine blk_drew ?_ | refine blk_alloc ?_ _)); refine blk_far ?_ NB234_246.out _; (with_reducible repeat (first | refine blk_drewN ?_ _ | refine blk_drew ?_ | refine blk_alloc ?_ _)); refine blk_far ?_ NB234_246.out _; (with_reducible repeat (first | refine blk_drewN ?_ _ | refine blk_drew ?_ | refine blk_alloc ?_ _)); refine blk_far ?_ NB234_246.out _; (with_reducible repeat (first | refine blk_drewN ?_ _ | refine blk_drew ?_ | refine blk_alloc ?_ _)); exact BK234.out) hb); have n3_:=Aside0.mk (blk_below (g:=gb246) (o:=.cells #[.int .i64 t243,.int .i64 t244,.int .i64 1] 118 (0,0)) (by (with_reducible repeat (first | refine blk_drewN ?_ _ | refine blk_drew ?_ | refine blk_alloc ?_ _)); refine blk_put (cs:=#[.int .i64 t243,.int .i64 t244,.int .i64 0]) ?_ 2 _ rfl; (with_reducible repeat (first | refine blk_drewN ?_ _ | refine blk_drew ?_ | refine blk_alloc ?_ _)); refine blk_put (cs:=#[.int .i64 t243,.int .i64 0,.int .i64 0]) ?_ 1 _ rfl; (with_reducible repeat (first | refine blk_drewN ?_ _ | refine blk_drew ?_ | refine blk_alloc ?_ _)); refine blk_put (cs:=#[.int .i64 0,.int .i64 0,.int .i64 0]) ?_ 0 _ rfl; (with_reducible repeat (first | refine blk_drewN ?_ _ | refine blk_drew ?_ | refine blk_alloc ?_ _)); exact BK246.out) hb); have n4_:=Aside0.mk (below_step (by repeat (first | (with_reducible first | exact HB.out | apply below_alloc | apply pw_below_drewN | apply below_drew1 | refine below_set ?_ GE234.out | refine below_set ?_ GE246.out) | exact HB.out)) hb); clear HO_6; clear HO_7; clear BK234; clear BK246; clear HB; have HO_6:=n0_; have HO_7:=n1_; have BK234:=n2_; have BK246:=n3_; have HB:=n4_; clear n0_ n1_ n2_ n3_ n4_; (try clear hb); (try clear hb2); (try clear hk); (try clear hi); have p251:0≤(1:Int):=(by omega); have q251:1 < (t239.length:Int):=of_decide_eq_true (by first | (with_reducible assumption) | assumption); obtain ⟨ad251,e251,hx251_0⟩ :=Kd.at_string (Kd.R_reads' HO_7.out).2.2 1 p251 q251; obtain rfl:ad248=ad251:=(by injection e251); (try simp only [show (1:Int).toNat=1 from rfl,Nat.reduceMul,Nat.reduceEqDiff,Go.Addr.add,↓reduceIte] at hx251_0); have qi251:(1 < t239.length)=True:=eq_true (by omega); (try rw [show ((1:Int)).toNat=1 from rfl] at hx251_0); replace p251:=eq_true p251; replace q251:=eq_true q251) | ((with_reducible refine gate_callee (f:=103) rfl ?_); refine goesL_ (some 85) rfl rfl Tryz.func103 (by kernel_rfl) rfl #[.string (rdOf ByteArray.empty t239 1),.int .i64 a1] rfl (by (try simp only [List.map_toArray,List.map_cons,List.map_nil]); first | done | rfl | (simp only [List.length_drop,List.length_take]; rfl)) ?_; (with_reducible refine (complineref17_Value.calls kj14 (rdOf ByteArray.empty t239 1) a1 t252 t253 _ A35.out).mono ?_); rintro e w40 ⟨rfl,hb⟩; refine ⟨_,rfl,?_⟩; have n0_:=Aside0.mk (Kd.R_below (by (with_reducible repeat (first | apply Kd.R_alloc | apply Kd.R_drewN | apply Kd.R_drew)); exact HO_6.out) hb); have n1_:=Aside0.mk (Kd.R_below (by (with_reducible repeat (first | apply Kd.R_alloc | apply Kd.R_drewN | apply Kd.R_drew)); exact HO_7.out) hb); have n2_:=Aside0.mk (blk_below (g:=gb234) (o:=.cells #[.int .i64 0,.int .i64 0,.int .i64 0] 118 (0,0)) (by (with_reducible repeat (first | refine blk_drewN ?_ _ | refine blk_drew ?_ | refine blk_alloc ?_ _)); exact BK234.out) hb); have n3_:=Aside0.mk (blk_below (g:=gb246) (o:=.cells #[.int .i64 t243,.int .i64 t244,.int .i64 1] 118 (0,0)) (by (with_reducible repeat (first | refine blk_drewN ?_ _ | refine blk_drew ?_ | refine blk_alloc ?_ _)); exact BK246.out) hb); have n4_:=Aside0.mk (below_step (by repeat (first | (with_reducible first | exact HB.out | apply below_alloc | apply pw_below_drewN | apply below_drew1 | refine below_set ?_ GE234.out | refine below_set ?_ GE246.out) | exact HB.out)) hb); clear HO_6; clear HO_7; clear BK234; clear BK246; clear HB; have HO_6:=n0_; have HO_7:=n1_; have BK234:=n2_; have BK246:=n3_; have HB:=n4_; clear n0_ n1_ n2_ n3_ n4_; (try clear hb); (try clear hb2); (try clear hk); (try clear hi); have hnb41:=NB234_246.out; have hnc41:=NB246_234.out; have hcz42_0:w40.cell? ⟨gb234,0,none⟩=some (.int .i64 0):=(blk_cell BK234.out 0).trans rfl; have hcz42_1:w40.cell? ⟨gb234,1,none⟩=some (.int .i64 0):=(blk_cell BK234.out 1).trans rfl; have hcz42_2:w40.cell? ⟨gb234,2,none⟩=some (.int .i64 0):=(blk_cell BK234.out 2).trans rfl; have hfz42_0:=blk_frozen BK234.out 0; have hfz42_1:=blk_frozen BK234.out 1; have hfz42_2:=blk_frozen BK234.out 2))
                  refine bodyPost_ret (results_ct rfl _ _ gb234 118 #[.int .i64 0,.int .i64 0,.int .i64 0] (0,0) _ rfl (by (with_reducible repeat (first | refine blk_drewN ?_ _ | refine blk_drew ?_ | refine blk_alloc ?_ _)); refine blk_put (cs:=#[.int .i64 0,.int .i64 0,.int .i64 0]) ?_ 2 _ rfl; (with_reducible repeat (first | refine blk_drewN ?_ _ | refine blk_drew ?_ | refine blk_alloc ?_ _)); refine blk_put (cs:=#[.int .i64 0,.int .i64 0,.int .i64 0]) ?_ 1 _ rfl; (with_reducible repeat (first | refine blk_drewN ?_ _ | refine blk_drew ?_ | refine blk_alloc ?_ _)); refine blk_put (cs:=#[.int .i64 0,.int .i64 0,.int .i64 0]) ?_ 0 _ rfl; (with_reducible repeat (first | refine blk_drewN ?_ _ | refine blk_drew ?_ | refine blk_alloc ?_ _)); exact BK234.out) Tryz.underlying118 rfl (by kernel_rfl)) rfl ?_
                  exact ⟨by first | rfl | (simp [errW_none,errW_some] <;> rfl) | (simp [*,errW_none,errW_some] <;> rfl),by repeat (first | (with_reducible first | exact HB.out | apply below_alloc | apply pw_below_drewN | apply below_drew1 | refine below_set ?_ GE234.out | refine below_set ?_ GE246.out) | exact HB.out)⟩
                 ·rw [if_neg c37] at H
                  have c37b0:decide (t252 < t249)=false:=decide_eq_false c37
                  clear c37
                  have H':=Aside0.mk H
                  clear H
                  obtain ⟨Ao43,co43,eo43⟩ :=Kd.R_slice HO_7.out
                  subst eo43
                  have p248:0≤(0:Int):=(by omega)
                  have q248:0 < (t239.length:Int):=of_decide_eq_true (by first | (with_reducible assumption) | assumption)
                  obtain ⟨ad248,e248,hx248_0⟩ :=Kd.at_string (Kd.R_reads' HO_7.out).2.2 0 p248 q248
                  cases e248
                  have qi248:(0 < t239.length)=True:=eq_true (by omega)
                  (try rw [show ((0:Int)).toNat=0 from rfl] at hx248_0)
                  (try rw [Addr.add_zero'] at hx248_0)
                  have hn248_0:ad248.block≠gb246:=Kd.own_blk (Kd.R_ne HO_7.out BK246.out (by decide))
                  have hn248_1:ad248.block≠gb246:=Kd.own_blk (Kd.R_ne HO_7.out BK246.out (by decide))
                  have hn248_2:ad248.block≠gb246:=Kd.own_blk (Kd.R_ne HO_7.out BK246.out (by decide))
                  replace hx248_0:=(cell_far (p:=⟨gb246,0,none⟩) (by first | (rw [add_block]; exact hn248_0) | (show (Addr.add _ _).block≠_; rw [add_block]; exact hn248_0) | exact hn248_0) (.int .i64 t243)).trans hx248_0
                  replace hx248_0:=(cell_far (p:=⟨gb246,1,none⟩) (by first | (rw [add_block]; exact hn248_1) | (show (Addr.add _ _).block≠_; rw [add_block]; exact hn248_1) | exact hn248_1) (.int .i64 t244)).trans hx248_0
                  replace hx248_0:=(cell_far (p:=⟨gb246,2,none⟩) (by first | (rw [add_block]; exact hn248_2) | (show (Addr.add _ _).block≠_; rw [add_block]; exact hn248_2) | exact hn248_2) (.int .i64 1)).trans hx248_0
                  clear hn248_0
                  clear hn248_1
                  clear hn248_2
                  replace p248:=eq_true p248
                  replace q248:=eq_true q248
                  go_wp2_with (first | ((with_reducible refine gate_callee (f:=103) rfl ?_); refine goesL_ (some 69) rfl rfl Tryz.func103 (by kernel_rfl) rfl #[.string (rdOf ByteArray.empty t239 0),.int .i64 a1] rfl (by (try simp only [List.map_toArray,List.map_cons,List.map_nil]); first | done | rfl | (simp only [List.length_drop,List.length_take]; rfl)) ?_; (with_reducible refine (complineref17_Value.calls kj14 (rdOf ByteArray.empty t239 0) a1 t249 t250 _ A31.out).mono ?_); rintro e w44 ⟨rfl,hb⟩; refine ⟨_,rfl,?_⟩; have n0_:=Aside0.mk (Kd.R_below (by (with_reducible repeat (first | apply Kd.R_alloc | apply Kd.R_drewN | apply Kd.R_drew)); exact (Kd.R_mono (Kd.R_far (p:=⟨gb246,2,none⟩) (Kd.R_far (p:=⟨gb246,1,none⟩) (Kd.R_far (p:=⟨gb246,0,none⟩) (Kd.R_types HO_6.out BK246.out (by decide)) (fun _ hk=>hk.2) (.int .i64 t243)) (fun _ hk=>hk.2) (.int .i64 t244)) (fun _ hk=>hk.2) (.int .i64 1)) (fun _ h_=>h_.1))) hb); have n1_:=Aside0.mk (Kd.R_below (by (with_reducible repeat (first | apply Kd.R_alloc | apply Kd.R_drewN | apply Kd.R_drew)); exact (Kd.R_mono (Kd.R_far (p:=⟨gb246,2,none⟩) (Kd.R_far (p:=⟨gb246,1,none⟩) (Kd.R_far (p:=⟨gb246,0,none⟩) (Kd.R_types HO_7.out BK246.out (by decide)) (fun _ hk=>hk.2) (.int .i64 t243)) (fun _ hk=>hk.2) (.int .i64 t244)) (fun _ hk=>hk.2) (.int .i64 1)) (fun _ h_=>h_.1))) hb); have n2_:=Aside0.mk (blk_below (g:=gb234) (o:=.cells #[.int .i64 0,.int .i64 0,.int .i64 0] 118 (0,0)) (by (with_reducible repeat (first | refine blk_drewN ?_ _ | refine blk_drew ?_ | refine blk_alloc ?_ _)); refine blk_far ?_ NB234_246.out _; (with_reducible repeat (first | refine blk_drewN ?_ _ | refine blk_drew ?_ | refine blk_alloc ?_ _)); refine blk_far ?_ NB234_246.out _; (with_reducible repeat (first | refine blk_drewN ?_ _ | refine blk_drew ?_ | refine blk_alloc ?_ _)); refine blk_far ?_ NB234_246.out _; (with_reducible repeat (first | refine blk_drewN ?_ _ | refine blk_drew ?_ | refine blk_alloc ?_ _)); exact BK234.out) hb); have n3_:=Aside0.mk (blk_below (g:=gb246) (o:=.cells #[.int .i64 t243,.int .i64 t244,.int .i64 1] 118 (0,0)) (by (with_reducible repeat (first | refine blk_drewN ?_ _ | refine blk_drew ?_ | refine blk_alloc ?_ _)); refine blk_put (cs:=#[.int .i64 t243,.int .i64 t244,.int .i64 0]) ?_ 2 _ rfl; (with_reducible repeat (first | refine blk_drewN ?_ _ | refine blk_drew ?_ | refine blk_alloc ?_ _)); refine blk_put (cs:=#[.int .i64 t243,.int .i64 0,.int .i64 0]) ?_ 1 _ rfl; (with_reducible repeat (first | refine blk_drewN ?_ _ | refine blk_drew ?_ | refine blk_alloc ?_ _)); refine blk_put (cs:=#[.int .i64 0,.int .i64 0,.int .i64 0]) ?_ 0 _ rfl; (with_reducible repeat (first | refine blk_drewN ?_ _ | refine blk_drew ?_ | refine blk_alloc ?_ _)); exact BK246.out) hb); have n4_:=Aside0.mk (below_step (by repeat (first | (with_reducible first | exact HB.out | apply below_alloc | apply pw_below_drewN | apply below_drew1 | refine below_set ?_ GE234.out | refine below_set ?_ GE246.out) | exact HB.out)) hb); clear HO_6; clear HO_7; clear BK234; clear BK246; clear HB; have HO_6:=n0_; have HO_7:=n1_; have BK234:=n2_; have BK246:=n3_; have HB:=n4_; clear n0_ n1_ n2_ n3_ n4_; (try clear hb); (try clear hb2); (try clear hk); (try clear hi); have p251:0≤(1:Int):=(by omega); have q251:1 < (t239.length:Int):=of_decide_eq_true (by first | (with_reducible assumption) | assumption); obtain ⟨ad251,e251,hx251_0⟩ :=Kd.at_string (Kd.R_reads' HO_7.out).2.2 1 p251 q251; obtain rfl:ad248=ad251:=(by injection e251); (try simp only [show (1:Int).toNat=1 from rfl,Nat.reduceMul,Nat.reduceEqDiff,Go.Addr.add,↓reduceIte] at hx251_0); have qi251:(1 < t239.length)=True:=eq_true (by omega); (try rw [show ((1:Int)).toNat=1 from rfl] at hx251_0); replace p251:=eq_true p251; replace q251:=eq_true q251) | ((with_reducible refine gate_callee (f:=103) rfl ?_); refine goesL_ (some 85) rfl rfl Tryz.func103 (by kernel_rfl) rfl #[.string (rdOf ByteArray.empty t239 1),.int .i64 a1] rfl (by (try simp only [List.map_toArray,List.map_cons,List.map_nil]); first | done | rfl | (simp only [List.length_drop,List.length_take]; rfl)) ?_; (with_reducible refine (complineref17_Value.calls kj14 (rdOf ByteArray.empty t239 1) a1 t252 t253 _ A35.out).mono ?_); rintro e w45 ⟨rfl,hb⟩; refine ⟨_,rfl,?_⟩; have n0_:=Aside0.mk (Kd.R_below (by (with_reducible repeat (first | apply Kd.R_alloc | apply Kd.R_drewN | apply Kd.R_drew)); exact HO_6.out) hb); have n1_:=Aside0.mk (Kd.R_below (by (with_reducible repeat (first | apply Kd.R_alloc | apply Kd.R_drewN | apply Kd.R_drew)); exact HO_7.out) hb); have n2_:=Aside0.mk (blk_below (g:=gb234) (o:=.cells #[.int .i64 0,.int .i64 0,.int .i64 0] 118 (0,0)) (by (with_reducible repeat (first | refine blk_drewN ?_ _ | refine blk_drew ?_ | refine blk_alloc ?_ _)); exact BK234.out) hb); have n3_:=Aside0.mk (blk_below (g:=gb246) (o:=.cells #[.int .i64 t243,.int .i64 t244,.int .i64 1] 118 (0,0)) (by (with_reducible repeat (first | refine blk_drewN ?_ _ | refine blk_drew ?_ | refine blk_alloc ?_ _)); exact BK246.out) hb); have n4_:=Aside0.mk (below_step (by repeat (first | (with_reducible first | exact HB.out | apply below_alloc | apply pw_below_drewN | apply below_drew1 | refine below_set ?_ GE234.out | refine below_set ?_ GE246.out) | exact HB.out)) hb); clear HO_6; clear HO_7; clear BK234; clear BK246; clear HB; have HO_6:=n0_; have HO_7:=n1_; have BK234:=n2_; have BK246:=n3_; have HB:=n4_; clear n0_ n1_ n2_ n3_ n4_; (try clear hb); (try clear hb2); (try clear hk); (try clear hi); have hnb46:=NB246_234.out; have hnc46:=NB234_246.out; have hcz47_0:w45.cell? ⟨gb246,0,none⟩=some (.int .i64 t243):=(blk_cell BK246.out 0).trans rfl; have hcz47_1:w45.cell? ⟨gb246,1,none⟩=some (.int .i64 t244):=(blk_cell BK246.out 1).trans rfl; have hcz47_2:w45.cell? ⟨gb246,2,none⟩=some (.int .i64 1):=(blk_cell BK246.out 2).trans rfl; have hfz47_0:=blk_frozen BK246.out 0; have hfz47_1:=blk_frozen BK246.out 1; have hfz47_2:=blk_frozen BK246.out 2))
                  go_meet
                  case rel=>exact ⟨_,(0),(0),(0),(t249),(t252),(1),H',⟨by have:=HJ5.out; have:=HJ14.out; first | omega | exact Nat.le_refl _⟩,⟨by (with_reducible repeat (first | apply Kd.R_alloc | apply Kd.R_drewN | apply Kd.R_drew)); exact Kd.R_mono (Kd.R_far (p:=⟨gb246,2,none⟩) (Kd.R_far (p:=⟨gb246,1,none⟩) (Kd.R_far (p:=⟨gb246,0,none⟩) (Kd.R_types HO_6.out BK246.out (by decide)) (fun _ hk=>hk.2) (.int .i64 t249)) (fun _ hk=>hk.2) (.int .i64 t252)) (fun _ hk=>hk.2) (.int .i64 1)) (fun _ hk=>trivial)⟩,⟨by (with_reducible repeat (first | refine blk_drewN ?_ _ | refine blk_drew ?_ | refine blk_alloc ?_ _)); refine blk_far ?_ NB234_246.out _; (with_reducible repeat (first | refine blk_drewN ?_ _ | refine blk_drew ?_ | refine blk_alloc ?_ _)); refine blk_far ?_ NB234_246.out _; (with_reducible repeat (first | refine blk_drewN ?_ _ | refine blk_drew ?_ | refine blk_alloc ?_ _)); refine blk_far ?_ NB234_246.out _; (with_reducible repeat (first | refine blk_drewN ?_ _ | refine blk_drew ?_ | refine blk_alloc ?_ _)); exact BK234.out⟩,⟨by (with_reducible repeat (first | refine blk_drewN ?_ _ | refine blk_drew ?_ | refine blk_alloc ?_ _)); refine blk_put (cs:=#[.int .i64 t249,.int .i64 t252,.int .i64 1]) ?_ 2 _ rfl; (with_reducible repeat (first | refine blk_drewN ?_ _ | refine blk_drew ?_ | refine blk_alloc ?_ _)); refine blk_put (cs:=#[.int .i64 t249,.int .i64 t244,.int .i64 1]) ?_ 1 _ rfl; (with_reducible repeat (first | refine blk_drewN ?_ _ | refine blk_drew ?_ | refine blk_alloc ?_ _)); refine blk_put (cs:=#[.int .i64 t243,.int .i64 t244,.int .i64 1]) ?_ 0 _ rfl; (with_reducible repeat (first | refine blk_drewN ?_ _ | refine blk_drew ?_ | refine blk_alloc ?_ _)); exact BK246.out⟩,⟨by repeat (first | (with_reducible first | exact HB.out | apply below_alloc | apply pw_below_drewN | apply below_drew1 | refine below_set ?_ GE234.out | refine below_set ?_ GE246.out) | exact HB.out)⟩⟩
                ·rw [if_neg c36] at H
                 have c36b0:(t253 == 0)=false:=beq_eq_false_iff_ne.mpr c36
                 have c36b1:(t253 != 0)=true:=bne_iff_ne.mpr c36
                 simp only [Option.some.injEq,Prod.mk.injEq] at H
                 obtain ⟨rfl,rfl,rfl,rfl⟩ :=H
                 obtain ⟨Ao48,co48,eo48⟩ :=Kd.R_slice HO_7.out
                 subst eo48
                 have p248:0≤(0:Int):=(by omega)
                 have q248:0 < (t239.length:Int):=of_decide_eq_true (by first | (with_reducible assumption) | assumption)
                 obtain ⟨ad248,e248,hx248_0⟩ :=Kd.at_string (Kd.R_reads' HO_7.out).2.2 0 p248 q248
                 cases e248
                 have qi248:(0 < t239.length)=True:=eq_true (by omega)
                 (try rw [show ((0:Int)).toNat=0 from rfl] at hx248_0)
                 (try rw [Addr.add_zero'] at hx248_0)
                 have hn248_0:ad248.block≠gb246:=Kd.own_blk (Kd.R_ne HO_7.out BK246.out (by decide))
                 have hn248_1:ad248.block≠gb246:=Kd.own_blk (Kd.R_ne HO_7.out BK246.out (by decide))
                 have hn248_2:ad248.block≠gb246:=Kd.own_blk (Kd.R_ne HO_7.out BK246.out (by decide))
                 replace hx248_0:=(cell_far (p:=⟨gb246,0,none⟩) (by first | (rw [add_block]; exact hn248_0) | (show (Addr.add _ _).block≠_; rw [add_block]; exact hn248_0) | exact hn248_0) (.int .i64 t243)).trans hx248_0
                 replace hx248_0:=(cell_far (p:=⟨gb246,1,none⟩) (by first | (rw [add_block]; exact hn248_1) | (show (Addr.add _ _).block≠_; rw [add_block]; exact hn248_1) | exact hn248_1) (.int .i64 t244)).trans hx248_0
                 replace hx248_0:=(cell_far (p:=⟨gb246,2,none⟩) (by first | (rw [add_block]; exact hn248_2) | (show (Addr.add _ _).block≠_; rw [add_block]; exact hn248_2) | exact hn248_2) (.int .i64 1)).trans hx248_0
                 clear hn248_0
                 clear hn248_1
                 clear hn248_2
                 replace p248:=eq_true p248
                 replace q248:=eq_true q248
                 go_wp2_with (first | ((with_reducible refine gate_callee (f:=103) rfl ?_); refine goesL_ (some 69) rfl rfl Tryz.func103 (by kernel_rfl) rfl #[.string (rdOf ByteArray.empty t239 0),.int .i64 a1] rfl (by (try simp only [List.map_toArray,List.map_cons,List.map_nil]); first | done | rfl | (simp only [List.length_drop,List.length_take]; rfl)) ?_; (with_reducible refine (complineref17_Value.calls kj14 (rdOf ByteArray.empty t239 0) a1 t249 t250 _ A31.out).mono ?_); rintro e w49 ⟨rfl,hb⟩; refine ⟨_,rfl,?_⟩; have n0_:=Aside0.mk (Kd.R_below (by (with_reducible repeat (first | apply Kd.R_alloc | apply Kd.R_drewN | apply Kd.R_drew)); exact (Kd.R_mono (Kd.R_far (p:=⟨gb246,2,none⟩) (Kd.R_far (p:=⟨gb246,1,none⟩) (Kd.R_far (p:=⟨gb246,0,none⟩) (Kd.R_types HO_6.out BK246.out (by decide)) (fun _ hk=>hk.2) (.int .i64 t243)) (fun _ hk=>hk.2) (.int .i64 t244)) (fun _ hk=>hk.2) (.int .i64 1)) (fun _ h_=>h_.1))) hb); have n1_:=Aside0.mk (Kd.R_below (by (with_reducible repeat (first | apply Kd.R_alloc | apply Kd.R_drewN | apply Kd.R_drew)); exact (Kd.R_mono (Kd.R_far (p:=⟨gb246,2,none⟩) (Kd.R_far (p:=⟨gb246,1,none⟩) (Kd.R_far (p:=⟨gb246,0,none⟩) (Kd.R_types HO_7.out BK246.out (by decide)) (fun _ hk=>hk.2) (.int .i64 t243)) (fun _ hk=>hk.2) (.int .i64 t244)) (fun _ hk=>hk.2) (.int .i64 1)) (fun _ h_=>h_.1))) hb); have n2_:=Aside0.mk (blk_below (g:=gb234) (o:=.cells #[.int .i64 0,.int .i64 0,.int .i64 0] 118 (0,0)) (by (with_reducible repeat (first | refine blk_drewN ?_ _ | refine blk_drew ?_ | refine blk_alloc ?_ _)); refine blk_far ?_ NB234_246.out _; (with_reducible repeat (first | refine blk_drewN ?_ _ | refine blk_drew ?_ | refine blk_alloc ?_ _)); refine blk_far ?_ NB234_246.out _; (with_reducible repeat (first | refine blk_drewN ?_ _ | refine blk_drew ?_ | refine blk_alloc ?_ _)); refine blk_far ?_ NB234_246.out _; (with_reducible repeat (first | refine blk_drewN ?_ _ | refine blk_drew ?_ | refine blk_alloc ?_ _)); exact BK234.out) hb); have n3_:=Aside0.mk (blk_below (g:=gb246) (o:=.cells #[.int .i64 t243,.int .i64 t244,.int .i64 1] 118 (0,0)) (by (with_reducible repeat (first | refine blk_drewN ?_ _ | refine blk_drew ?_ | refine blk_alloc ?_ _)); refine blk_put (cs:=#[.int .i64 t243,.int .i64 t244,.int .i64 0]) ?_ 2 _ rfl; (with_reducible repeat (first | refine blk_drewN ?_ _ | refine blk_drew ?_ | refine blk_alloc ?_ _)); refine blk_put (cs:=#[.int .i64 t243,.int .i64 0,.int .i64 0]) ?_ 1 _ rfl; (with_reducible repeat (first | refine blk_drewN ?_ _ | refine blk_drew ?_ | refine blk_alloc ?_ _)); refine blk_put (cs:=#[.int .i64 0,.int .i64 0,.int .i64 0]) ?_ 0 _ rfl; (with_reducible repeat (first | refine blk_drewN ?_ _ | refine blk_drew ?_ | refine blk_alloc ?_ _)); exact BK246.out) hb); have n4_:=Aside0.mk (below_step (by repeat (first | (with_reducible first | exact HB.out | apply below_alloc | apply pw_below_drewN | apply below_drew1 | refine below_set ?_ GE234.out | refine below_set ?_ GE246.out) | exact HB.out)) hb); clear HO_6; clear HO_7; clear BK234; clear BK246; clear HB; have HO_6:=n0_; have HO_7:=n1_; have BK234:=n2_; have BK246:=n3_; have HB:=n4_; clear n0_ n1_ n2_ n3_ n4_; (try clear hb); (try clear hb2); (try clear hk); (try clear hi); have p251:0≤(1:Int):=(by omega); have q251:1 < (t239.length:Int):=of_decide_eq_true (by first | (with_reducible assumption) | assumption); obtain ⟨ad251,e251,hx251_0⟩ :=Kd.at_string (Kd.R_reads' HO_7.out).2.2 1 p251 q251; obtain rfl:ad248=ad251:=(by injection e251); (try simp only [show (1:Int).toNat=1 from rfl,Nat.reduceMul,Nat.reduceEqDiff,Go.Addr.add,↓reduceIte] at hx251_0); have qi251:(1 < t239.length)=True:=eq_true (by omega); (try rw [show ((1:Int)).toNat=1 from rfl] at hx251_0); replace p251:=eq_true p251; replace q251:=eq_true q251) | ((with_reducible refine gate_callee (f:=103) rfl ?_); refine goesL_ (some 85) rfl rfl Tryz.func103 (by kernel_rfl) rfl #[.string (rdOf ByteArray.empty t239 1),.int .i64 a1] rfl (by (try simp only [List.map_toArray,List.map_cons,List.map_nil]); first | done | rfl | (simp only [List.length_drop,List.length_take]; rfl)) ?_; (with_reducible refine (complineref17_Value.calls kj14 (rdOf ByteArray.empty t239 1) a1 t252 t253 _ A35.out).mono ?_); rintro e w50 ⟨rfl,hb⟩; refine ⟨_,rfl,?_⟩; have n0_:=Aside0.mk (Kd.R_below (by (with_reducible repeat (first | apply Kd.R_alloc | apply Kd.R_drewN | apply Kd.R_drew)); exact HO_6.out) hb); have n1_:=Aside0.mk (Kd.R_below (by (with_reducible repeat (first | apply Kd.R_alloc | apply Kd.R_drewN | apply Kd.R_drew)); exact HO_7.out) hb); have n2_:=Aside0.mk (blk_below (g:=gb234) (o:=.cells #[.int .i64 0,.int .i64 0,.int .i64 0] 118 (0,0)) (by (with_reducible repeat (first | refine blk_drewN ?_ _ | refine blk_drew ?_ | refine blk_alloc ?_ _)); exact BK234.out) hb); have n3_:=Aside0.mk (blk_below (g:=gb246) (o:=.cells #[.int .i64 t243,.int .i64 t244,.int .i64 1] 118 (0,0)) (by (with_reducible repeat (first | refine blk_drewN ?_ _ | refine blk_drew ?_ | refine blk_alloc ?_ _)); exact BK246.out) hb); have n4_:=Aside0.mk (below_step (by repeat (first | (with_reducible first | exact HB.out | apply below_alloc | apply pw_below_drewN | apply below_drew1 | refine below_set ?_ GE234.out | refine below_set ?_ GE246.out) | exact HB.out)) hb); clear HO_6; clear HO_7; clear BK234; clear BK246; clear HB; have HO_6:=n0_; have HO_7:=n1_; have BK234:=n2_; have BK246:=n3_; have HB:=n4_; clear n0_ n1_ n2_ n3_ n4_; (try clear hb); (try clear hb2); (try clear hk); (try clear hi); have hnb51:=NB234_246.out; have hnc51:=NB246_234.out; have hcz52_0:w50.cell? ⟨gb234,0,none⟩=some (.int .i64 0):=(blk_cell BK234.out 0).trans rfl; have hcz52_1:w50.cell? ⟨gb234,1,none⟩=some (.int .i64 0):=(blk_cell BK234.out 1).trans rfl; have hcz52_2:w50.cell? ⟨gb234,2,none⟩=some (.int .i64 0):=(blk_cell BK234.out 2).trans rfl; have hfz52_0:=blk_frozen BK234.out 0; have hfz52_1:=blk_frozen BK234.out 1; have hfz52_2:=blk_frozen BK234.out 2))
                 refine bodyPost_ret (results_ct rfl _ _ gb234 118 #[.int .i64 0,.int .i64 0,.int .i64 0] (0,0) _ rfl (by (with_reducible repeat (first | refine blk_drewN ?_ _ | refine blk_drew ?_ | refine blk_alloc ?_ _)); refine blk_put (cs:=#[.int .i64 0,.int .i64 0,.int .i64 0]) ?_ 2 _ rfl; (with_reducible repeat (first | refine blk_drewN ?_ _ | refine blk_drew ?_ | refine blk_alloc ?_ _)); refine blk_put (cs:=#[.int .i64 0,.int .i64 0,.int .i64 0]) ?_ 1 _ rfl; (with_reducible repeat (first | refine blk_drewN ?_ _ | refine blk_drew ?_ | refine blk_alloc ?_ _)); refine blk_put (cs:=#[.int .i64 0,.int .i64 0,.int .i64 0]) ?_ 0 _ rfl; (with_reducible repeat (first | refine blk_drewN ?_ _ | refine blk_drew ?_ | refine blk_alloc ?_ _)); exact BK234.out) Tryz.underlying118 rfl (by kernel_rfl)) rfl ?_
                 exact ⟨by first | rfl | (simp [errW_none,errW_some] <;> rfl) | (simp [*,errW_none,errW_some] <;> rfl),by repeat (first | (with_reducible first | exact HB.out | apply below_alloc | apply pw_below_drewN | apply below_drew1 | refine below_set ?_ GE234.out | refine below_set ?_ GE246.out) | exact HB.out)⟩
               ·rw [if_neg c34] at H
                exact absurd H (by simp)
              ·rw [if_neg c33] at H
               have c33b0:((t239.length:Int) == 2)=false:=beq_eq_false_iff_ne.mpr c33
               have c33b1:((t239.length:Int) != 2)=true:=bne_iff_ne.mpr c33
               by_cases c53:t249 < t249
               ·exact absurd c53 (Int.lt_irrefl _)
               ·rw [if_neg c53] at H
                have c53b0:decide (t249 < t249)=false:=decide_eq_false c53
                clear c53
                have H':=Aside0.mk H
                clear H
                obtain ⟨Ao58,co58,eo58⟩ :=Kd.R_slice HO_7.out
                subst eo58
                have p248:0≤(0:Int):=(by omega)
                have q248:0 < (t239.length:Int):=of_decide_eq_true (by first | (with_reducible assumption) | assumption)
                obtain ⟨ad248,e248,hx248_0⟩ :=Kd.at_string (Kd.R_reads' HO_7.out).2.2 0 p248 q248
                cases e248
                have qi248:(0 < t239.length)=True:=eq_true (by omega)
                (try rw [show ((0:Int)).toNat=0 from rfl] at hx248_0)
                (try rw [Addr.add_zero'] at hx248_0)
                have hn248_0:ad248.block≠gb246:=Kd.own_blk (Kd.R_ne HO_7.out BK246.out (by decide))
                have hn248_1:ad248.block≠gb246:=Kd.own_blk (Kd.R_ne HO_7.out BK246.out (by decide))
                have hn248_2:ad248.block≠gb246:=Kd.own_blk (Kd.R_ne HO_7.out BK246.out (by decide))
                replace hx248_0:=(cell_far (p:=⟨gb246,0,none⟩) (by first | (rw [add_block]; exact hn248_0) | (show (Addr.add _ _).block≠_; rw [add_block]; exact hn248_0) | exact hn248_0) (.int .i64 t243)).trans hx248_0
                replace hx248_0:=(cell_far (p:=⟨gb246,1,none⟩) (by first | (rw [add_block]; exact hn248_1) | (show (Addr.add _ _).block≠_; rw [add_block]; exact hn248_1) | exact hn248_1) (.int .i64 t244)).trans hx248_0
                replace hx248_0:=(cell_far (p:=⟨gb246,2,none⟩) (by first | (rw [add_block]; exact hn248_2) | (show (Addr.add _ _).block≠_; rw [add_block]; exact hn248_2) | exact hn248_2) (.int .i64 1)).trans hx248_0
                clear hn248_0
                clear hn248_1
                clear hn248_2
                replace p248:=eq_true p248
                replace q248:=eq_true q248
                go_wp2_with (first | ((with_reducible refine gate_callee (f:=103) rfl ?_); refine goesL_ (some 69) rfl rfl Tryz.func103 (by kernel_rfl) rfl #[.string (rdOf ByteArray.empty t239 0),.int .i64 a1] rfl (by (try simp only [List.map_toArray,List.map_cons,List.map_nil]); first | done | rfl | (simp only [List.length_drop,List.length_take]; rfl)) ?_; (with_reducible refine (complineref17_Value.calls kj14 (rdOf ByteArray.empty t239 0) a1 t249 t250 _ A31.out).mono ?_); rintro e w59 ⟨rfl,hb⟩; refine ⟨_,rfl,?_⟩; have n0_:=Aside0.mk (Kd.R_below (by (with_reducible repeat (first | apply Kd.R_alloc | apply Kd.R_drewN | apply Kd.R_drew)); exact (Kd.R_mono (Kd.R_far (p:=⟨gb246,2,none⟩) (Kd.R_far (p:=⟨gb246,1,none⟩) (Kd.R_far (p:=⟨gb246,0,none⟩) (Kd.R_types HO_6.out BK246.out (by decide)) (fun _ hk=>hk.2) (.int .i64 t243)) (fun _ hk=>hk.2) (.int .i64 t244)) (fun _ hk=>hk.2) (.int .i64 1)) (fun _ h_=>h_.1))) hb); have n1_:=Aside0.mk (Kd.R_below (by (with_reducible repeat (first | apply Kd.R_alloc | apply Kd.R_drewN | apply Kd.R_drew)); exact (Kd.R_mono (Kd.R_far (p:=⟨gb246,2,none⟩) (Kd.R_far (p:=⟨gb246,1,none⟩) (Kd.R_far (p:=⟨gb246,0,none⟩) (Kd.R_types HO_7.out BK246.out (by decide)) (fun _ hk=>hk.2) (.int .i64 t243)) (fun _ hk=>hk.2) (.int .i64 t244)) (fun _ hk=>hk.2) (.int .i64 1)) (fun _ h_=>h_.1))) hb); have n2_:=Aside0.mk (blk_below (g:=gb234) (o:=.cells #[.int .i64 0,.int .i64 0,.int .i64 0] 118 (0,0)) (by (with_reducible repeat (first | refine blk_drewN ?_ _ | refine blk_drew ?_ | refine blk_alloc ?_ _)); refine blk_far ?_ NB234_246.out _; (with_reducible repeat (first | refine blk_drewN ?_ _ | refine blk_drew ?_ | refine blk_alloc ?_ _)); refine blk_far ?_ NB234_246.out _; (with_reducible repeat (first | refine blk_drewN ?_ _ | refine blk_drew ?_ | refine blk_alloc ?_ _)); refine blk_far ?_ NB234_246.out _; (with_reducible repeat (first | refine blk_drewN ?_ _ | refine blk_drew ?_ | refine blk_alloc ?_ _)); exact BK234.out) hb); have n3_:=Aside0.mk (blk_below (g:=gb246) (o:=.cells #[.int .i64 t243,.int .i64 t244,.int .i64 1] 118 (0,0)) (by (with_reducible repeat (first | refine blk_drewN ?_ _ | refine blk_drew ?_ | refine blk_alloc ?_ _)); refine blk_put (cs:=#[.int .i64 t243,.int .i64 t244,.int .i64 0]) ?_ 2 _ rfl; (with_reducible repeat (first | refine blk_drewN ?_ _ | refine blk_drew ?_ | refine blk_alloc ?_ _)); refine blk_put (cs:=#[.int .i64 t243,.int .i64 0,.int .i64 0]) ?_ 1 _ rfl; (with_reducible repeat (first | refine blk_drewN ?_ _ | refine blk_drew ?_ | refine blk_alloc ?_ _)); refine blk_put (cs:=#[.int .i64 0,.int .i64 0,.int .i64 0]) ?_ 0 _ rfl; (with_reducible repeat (first | refine blk_drewN ?_ _ | refine blk_drew ?_ | refine blk_alloc ?_ _)); exact BK246.out) hb); have n4_:=Aside0.mk (below_step (by repeat (first | (with_reducible first | exact HB.out | apply below_alloc | apply pw_below_drewN | apply below_drew1 | refine below_set ?_ GE234.out | refine below_set ?_ GE246.out) | exact HB.out)) hb); clear HO_6; clear HO_7; clear BK234; clear BK246; clear HB; have HO_6:=n0_; have HO_7:=n1_; have BK234:=n2_; have BK246:=n3_; have HB:=n4_; clear n0_ n1_ n2_ n3_ n4_; (try clear hb); (try clear hb2); (try clear hk); (try clear hi); have hnb60:=NB246_234.out; have hnc60:=NB234_246.out; have hcz61_0:w59.cell? ⟨gb246,0,none⟩=some (.int .i64 t243):=(blk_cell BK246.out 0).trans rfl; have hcz61_1:w59.cell? ⟨gb246,1,none⟩=some (.int .i64 t244):=(blk_cell BK246.out 1).trans rfl; have hcz61_2:w59.cell? ⟨gb246,2,none⟩=some (.int .i64 1):=(blk_cell BK246.out 2).trans rfl; have hfz61_0:=blk_frozen BK246.out 0; have hfz61_1:=blk_frozen BK246.out 1; have hfz61_2:=blk_frozen BK246.out 2))
                go_meet
                case rel=>exact ⟨_,(0),(0),(0),(t249),(t249),(1),H',⟨by have:=HJ5.out; have:=HJ14.out; first | omega | exact Nat.le_refl _⟩,⟨by (with_reducible repeat (first | apply Kd.R_alloc | apply Kd.R_drewN | apply Kd.R_drew)); exact Kd.R_mono (Kd.R_far (p:=⟨gb246,2,none⟩) (Kd.R_far (p:=⟨gb246,1,none⟩) (Kd.R_far (p:=⟨gb246,0,none⟩) (Kd.R_types HO_6.out BK246.out (by decide)) (fun _ hk=>hk.2) (.int .i64 t249)) (fun _ hk=>hk.2) (.int .i64 t249)) (fun _ hk=>hk.2) (.int .i64 1)) (fun _ hk=>trivial)⟩,⟨by (with_reducible repeat (first | refine blk_drewN ?_ _ | refine blk_drew ?_ | refine blk_alloc ?_ _)); refine blk_far ?_ NB234_246.out _; (with_reducible repeat (first | refine blk_drewN ?_ _ | refine blk_drew ?_ | refine blk_alloc ?_ _)); refine blk_far ?_ NB234_246.out _; (with_reducible repeat (first | refine blk_drewN ?_ _ | refine blk_drew ?_ | refine blk_alloc ?_ _)); refine blk_far ?_ NB234_246.out _; (with_reducible repeat (first | refine blk_drewN ?_ _ | refine blk_drew ?_ | refine blk_alloc ?_ _)); exact BK234.out⟩,⟨by (with_reducible repeat (first | refine blk_drewN ?_ _ | refine blk_drew ?_ | refine blk_alloc ?_ _)); refine blk_put (cs:=#[.int .i64 t249,.int .i64 t249,.int .i64 1]) ?_ 2 _ rfl; (with_reducible repeat (first | refine blk_drewN ?_ _ | refine blk_drew ?_ | refine blk_alloc ?_ _)); refine blk_put (cs:=#[.int .i64 t249,.int .i64 t244,.int .i64 1]) ?_ 1 _ rfl; (with_reducible repeat (first | refine blk_drewN ?_ _ | refine blk_drew ?_ | refine blk_alloc ?_ _)); refine blk_put (cs:=#[.int .i64 t243,.int .i64 t244,.int .i64 1]) ?_ 0 _ rfl; (with_reducible repeat (first | refine blk_drewN ?_ _ | refine blk_drew ?_ | refine blk_alloc ?_ _)); exact BK246.out⟩,⟨by repeat (first | (with_reducible first | exact HB.out | apply below_alloc | apply pw_below_drewN | apply below_drew1 | refine below_set ?_ GE234.out | refine below_set ?_ GE246.out) | exact HB.out)⟩⟩
             ·rw [if_neg c32] at H
              have c32b0:(t250 == 0)=false:=beq_eq_false_iff_ne.mpr c32
              have c32b1:(t250 != 0)=true:=bne_iff_ne.mpr c32
              simp only [Option.some.injEq,Prod.mk.injEq] at H
              obtain ⟨rfl,rfl,rfl,rfl⟩ :=H
              obtain ⟨Ao62,co62,eo62⟩ :=Kd.R_slice HO_7.out
              subst eo62
              have p248:0≤(0:Int):=(by omega)
              have q248:0 < (t239.length:Int):=of_decide_eq_true (by first | (with_reducible assumption) | assumption)
              obtain ⟨ad248,e248,hx248_0⟩ :=Kd.at_string (Kd.R_reads' HO_7.out).2.2 0 p248 q248
              cases e248
              have qi248:(0 < t239.length)=True:=eq_true (by omega)
              (try rw [show ((0:Int)).toNat=0 from rfl] at hx248_0)
              (try rw [Addr.add_zero'] at hx248_0)
              have hn248_0:ad248.block≠gb246:=Kd.own_blk (Kd.R_ne HO_7.out BK246.out (by decide))
              have hn248_1:ad248.block≠gb246:=Kd.own_blk (Kd.R_ne HO_7.out BK246.out (by decide))
              have hn248_2:ad248.block≠gb246:=Kd.own_blk (Kd.R_ne HO_7.out BK246.out (by decide))
              replace hx248_0:=(cell_far (p:=⟨gb246,0,none⟩) (by first | (rw [add_block]; exact hn248_0) | (show (Addr.add _ _).block≠_; rw [add_block]; exact hn248_0) | exact hn248_0) (.int .i64 t243)).trans hx248_0
              replace hx248_0:=(cell_far (p:=⟨gb246,1,none⟩) (by first | (rw [add_block]; exact hn248_1) | (show (Addr.add _ _).block≠_; rw [add_block]; exact hn248_1) | exact hn248_1) (.int .i64 t244)).trans hx248_0
              replace hx248_0:=(cell_far (p:=⟨gb246,2,none⟩) (by first | (rw [add_block]; exact hn248_2) | (show (Addr.add _ _).block≠_; rw [add_block]; exact hn248_2) | exact hn248_2) (.int .i64 1)).trans hx248_0
              clear hn248_0
              clear hn248_1
              clear hn248_2
              replace p248:=eq_true p248
              replace q248:=eq_true q248
              go_wp2_with (first | ((with_reducible refine gate_callee (f:=103) rfl ?_); refine goesL_ (some 69) rfl rfl Tryz.func103 (by kernel_rfl) rfl #[.string (rdOf ByteArray.empty t239 0),.int .i64 a1] rfl (by (try simp only [List.map_toArray,List.map_cons,List.map_nil]); first | done | rfl | (simp only [List.length_drop,List.length_take]; rfl)) ?_; (with_reducible refine (complineref17_Value.calls kj14 (rdOf ByteArray.empty t239 0) a1 t249 t250 _ A31.out).mono ?_); rintro e w63 ⟨rfl,hb⟩; refine ⟨_,rfl,?_⟩; have n0_:=Aside0.mk (Kd.R_below (by (with_reducible repeat (first | apply Kd.R_alloc | apply Kd.R_drewN | apply Kd.R_drew)); exact (Kd.R_mono (Kd.R_far (p:=⟨gb246,2,none⟩) (Kd.R_far (p:=⟨gb246,1,none⟩) (Kd.R_far (p:=⟨gb246,0,none⟩) (Kd.R_types HO_6.out BK246.out (by decide)) (fun _ hk=>hk.2) (.int .i64 t243)) (fun _ hk=>hk.2) (.int .i64 t244)) (fun _ hk=>hk.2) (.int .i64 1)) (fun _ h_=>h_.1))) hb); have n1_:=Aside0.mk (Kd.R_below (by (with_reducible repeat (first | apply Kd.R_alloc | apply Kd.R_drewN | apply Kd.R_drew)); exact (Kd.R_mono (Kd.R_far (p:=⟨gb246,2,none⟩) (Kd.R_far (p:=⟨gb246,1,none⟩) (Kd.R_far (p:=⟨gb246,0,none⟩) (Kd.R_types HO_7.out BK246.out (by decide)) (fun _ hk=>hk.2) (.int .i64 t243)) (fun _ hk=>hk.2) (.int .i64 t244)) (fun _ hk=>hk.2) (.int .i64 1)) (fun _ h_=>h_.1))) hb); have n2_:=Aside0.mk (blk_below (g:=gb234) (o:=.cells #[.int .i64 0,.int .i64 0,.int .i64 0] 118 (0,0)) (by (with_reducible repeat (first | refine blk_drewN ?_ _ | refine blk_drew ?_ | refine blk_alloc ?_ _)); refine blk_far ?_ NB234_246.out _; (with_reducible repeat (first | refine blk_drewN ?_ _ | refine blk_drew ?_ | refine blk_alloc ?_ _)); refine blk_far ?_ NB234_246.out _; (with_reducible repeat (first | refine blk_drewN ?_ _ | refine blk_drew ?_ | refine blk_alloc ?_ _)); refine blk_far ?_ NB234_246.out _; (with_reducible repeat (first | refine blk_drewN ?_ _ | refine blk_drew ?_ | refine blk_alloc ?_ _)); exact BK234.out) hb); have n3_:=Aside0.mk (blk_below (g:=gb246) (o:=.cells #[.int .i64 t243,.int .i64 t244,.int .i64 1] 118 (0,0)) (by (with_reducible repeat (first | refine blk_drewN ?_ _ | refine blk_drew ?_ | refine blk_alloc ?_ _)); refine blk_put (cs:=#[.int .i64 t243,.int .i64 t244,.int .i64 0]) ?_ 2 _ rfl; (with_reducible repeat (first | refine blk_drewN ?_ _ | refine blk_drew ?_ | refine blk_alloc ?_ _)); refine blk_put (cs:=#[.int .i64 t243,.int .i64 0,.int .i64 0]) ?_ 1 _ rfl; (with_reducible repeat (first | refine blk_drewN ?_ _ | refine blk_drew ?_ | refine blk_alloc ?_ _)); refine blk_put (cs:=#[.int .i64 0,.int .i64 0,.int .i64 0]) ?_ 0 _ rfl; (with_reducible repeat (first | refine blk_drewN ?_ _ | refine blk_drew ?_ | refine blk_alloc ?_ _)); exact BK246.out) hb); have n4_:=Aside0.mk (below_step (by repeat (first | (with_reducible first | exact HB.out | apply below_alloc | apply pw_below_drewN | apply below_drew1 | refine below_set ?_ GE234.out | refine below_set ?_ GE246.out) | exact HB.out)) hb); clear HO_6; clear HO_7; clear BK234; clear BK246; clear HB; have HO_6:=n0_; have HO_7:=n1_; have BK234:=n2_; have BK246:=n3_; have HB:=n4_; clear n0_ n1_ n2_ n3_ n4_; (try clear hb); (try clear hb2); (try clear hk); (try clear hi); have hnb64:=NB234_246.out; have hnc64:=NB246_234.out; have hcz65_0:w63.cell? ⟨gb234,0,none⟩=some (.int .i64 0):=(blk_cell BK234.out 0).trans rfl; have hcz65_1:w63.cell? ⟨gb234,1,none⟩=some (.int .i64 0):=(blk_cell BK234.out 1).trans rfl; have hcz65_2:w63.cell? ⟨gb234,2,none⟩=some (.int .i64 0):=(blk_cell BK234.out 2).trans rfl; have hfz65_0:=blk_frozen BK234.out 0; have hfz65_1:=blk_frozen BK234.out 1; have hfz65_2:=blk_frozen BK234.out 2))
              refine bodyPost_ret (results_ct rfl _ _ gb234 118 #[.int .i64 0,.int .i64 0,.int .i64 0] (0,0) _ rfl (by (with_reducible repeat (first | refine blk_drewN ?_ _ | refine blk_drew ?_ | refine blk_alloc ?_ _)); refine blk_put (cs:=#[.int .i64 0,.int .i64 0,.int .i64 0]) ?_ 2 _ rfl; (with_reducible repeat (first | refine blk_drewN ?_ _ | refine blk_drew ?_ | refine blk_alloc ?_ _)); refine blk_put (cs:=#[.int .i64 0,.int .i64 0,.int .i64 0]) ?_ 1 _ rfl; (with_reducible repeat (first | refine blk_drewN ?_ _ | refine blk_drew ?_ | refine blk_alloc ?_ _)); refine blk_put (cs:=#[.int .i64 0,.int .i64 0,.int .i64 0]) ?_ 0 _ rfl; (with_reducible repeat (first | refine blk_drewN ?_ _ | refine blk_drew ?_ | refine blk_alloc ?_ _)); exact BK234.out) Tryz.underlying118 rfl (by kernel_rfl)) rfl ?_
              exact ⟨by first | rfl | (simp [errW_none,errW_some] <;> rfl) | (simp [*,errW_none,errW_some] <;> rfl),by repeat (first | (with_reducible first | exact HB.out | apply below_alloc | apply pw_below_drewN | apply below_drew1 | refine below_set ?_ GE234.out | refine below_set ?_ GE246.out) | exact HB.out)⟩
            ·rw [if_neg c30] at H
             exact absurd H (by simp)
          case rest=>
           clear HC25
           try clear c1
           try clear c2
           try clear p2
           try clear q2
           try clear hx2
           try clear qi2
           try clear c3
           try clear c4
           try clear c4b0
           try clear c4b1
           try clear c5
           try clear c6
           try clear c7
           try clear c8
           try clear c10
           try clear c11
           try clear c11b0
           try clear c11b1
           try clear c13
           try clear c16
           try clear c16b0
           try clear c16b1
           try clear c17
           try clear c17b0
           try clear c17b1
           try clear c18
           try clear c18b0
           try clear c18b1
           try clear c20
           try clear c23
           try clear c23b0
           try clear c23b1
           try clear p23
           try clear q23
           try clear hx23
           try clear qi23
           try clear c24
           try clear c24b0
           try clear c24b1
           try clear p24
           try clear q24
           try clear hx24
           try clear qi24
           try clear p25
           try clear q25
           try clear hx25
           try clear qi25
           try clear c27
           try clear c29
           try clear c29b0
           try clear c29b1
           try clear c30
           try clear c30b0
           try clear c30b1
           try clear c32
           try clear c32b0
           try clear c32b1
           try clear c33
           try clear c33b0
           try clear c33b1
           try clear c34
           try clear c34b0
           try clear c34b1
           try clear c36
           try clear c36b0
           try clear c36b1
           try clear c37
           try clear c37b0
           try clear c41
           try clear c46
           try clear c51
           try clear c53
           try clear c53b0
           try clear c56
           try clear c60
           try clear c64
           try clear hcz14_0
           try clear hcz14_1
           try clear hcz14_2
           try clear hcz21_0
           try clear hcz21_1
           try clear hcz21_2
           try clear hcz28_0
           try clear hcz28_1
           try clear hcz28_2
           try clear hcz42_0
           try clear hcz42_1
           try clear hcz42_2
           try clear hcz47_0
           try clear hcz47_1
           try clear hcz47_2
           try clear hcz52_0
           try clear hcz52_1
           try clear hcz52_2
           try clear hcz57_0
           try clear hcz57_1
           try clear hcz57_2
           try clear hcz61_0
           try clear hcz61_1
           try clear hcz61_2
           try clear hcz65_0
           try clear hcz65_1
           try clear hcz65_2
           try clear hfz14_0
           try clear hfz14_1
           try clear hfz14_2
           try clear hfz21_0
           try clear hfz21_1
           try clear hfz21_2
           try clear hfz28_0
           try clear hfz28_1
           try clear hfz28_2
           try clear hfz42_0
           try clear hfz42_1
           try clear hfz42_2
           try clear hfz47_0
           try clear hfz47_1
           try clear hfz47_2
           try clear hfz52_0
           try clear hfz52_1
           try clear hfz52_2
           try clear hfz57_0
           try clear hfz57_1
           try clear hfz57_2
           try clear hfz61_0
           try clear hfz61_1
           try clear hfz61_2
           try clear hfz65_0
           try clear hfz65_1
           try clear hfz65_2
           try clear hx238_0
           try clear hx242_0
           try clear hx247_0
           try clear hx248_0
           try clear hx251_0
           try clear p2
           try clear p238
           try clear p242
           try clear p247
           try clear p248
           try clear p251
           try clear q2
           try clear q238
           try clear q242
           try clear q247
           try clear q248
           try clear q251
           obtain ⟨kq,x235000_24,x235001_24,x235002_24,x247000_24,x247001_24,x247002_24,HA,HJ24,HO_6,BK234,BK246,HB⟩ :=hcut
           cases kq with
           | zero=>exact absurd HA.out (by simp [complineref18_Item.j2])
           | succ kj24=>
            have H:=HA.out
            clear HA
            simp only [complineref18_Item.j2] at H
            by_cases c66:(t235.length:Int)=2
            ·rw [if_pos c66] at H
             have c66b0:((t235.length:Int) == 2)=true:=beq_iff_eq.mpr c66
             have c66b1:((t235.length:Int) != 2)=false:=bne_eq_false_iff_eq.mpr c66
             clear c66
             by_cases c67:1 < (t235.length:Int)
             ·rw [if_pos c67] at H
              have c67b0:decide (1 < (t235.length:Int))=true:=decide_eq_true c67
              have c67b1:decide (1 < t235.length)=true:=decide_eq_true (by omega)
              clear c67
              replace H:=Option.bind_eq_some_iff.mp H
              obtain ⟨⟨t255,t256⟩,A680,H⟩ :=H
              replace H:(if t256=0 then (if t255=0 then (some (0,0,0,1)) else (some (x247000_24,x247001_24,t255,0))) else (some (0,0,0,t256)))=some (r1,r2,r3,r4):=H
              have A68:=Aside0.mk A680
              clear A680
              by_cases c69:t256=0
              ·rw [if_pos c69] at H
               have c69b0:(t256 == 0)=true:=beq_iff_eq.mpr c69
               have c69b1:(t256 != 0)=false:=bne_eq_false_iff_eq.mpr c69
               clear c69
               by_cases c70:t255=0
               ·rw [if_pos c70] at H
                have c70b0:(t255 == 0)=true:=beq_iff_eq.mpr c70
                have c70b1:(t255 != 0)=false:=bne_eq_false_iff_eq.mpr c70
                clear c70
                simp only [Option.some.injEq,Prod.mk.injEq] at H
                obtain ⟨rfl,rfl,rfl,rfl⟩ :=H
                have p254:0≤(1:Int):=(by omega)
                have q254:1 < (t235.length:Int):=of_decide_eq_true (by first | (with_reducible assumption) | assumption)
                obtain ⟨ad254,e254,hx254_0⟩ :=Kd.at_string (Kd.R_reads' HO_6.out).2.2 1 p254 q254
                obtain rfl:ad238=ad254:=(by injection e254)
                (try simp only [show (1:Int).toNat=1 from rfl,Nat.reduceMul,Nat.reduceEqDiff,Go.Addr.add,↓reduceIte] at hx254_0)
                have qi254:(1 < t235.length)=True:=eq_true (by omega)
                (try rw [show ((1:Int)).toNat=1 from rfl] at hx254_0)
                replace p254:=eq_true p254
                replace q254:=eq_true q254
                go_wp2_with (first | ((with_reducible refine gate_callee (f:=104) rfl ?_); refine goesL_ (some 106) rfl rfl Tryz.func104 (by kernel_rfl) rfl #[.string (rdOf ByteArray.empty t235 1)] rfl (by (try simp only [List.map_toArray,List.map_cons,List.map_nil]); first | done | rfl | (simp only [List.length_drop,List.length_take]; rfl)) ?_; (with_reducible refine (complineref17_Number.calls kj24 (rdOf ByteArray.empty t235 1) t255 t256 _ A68.out).mono ?_); rintro e w' ⟨rfl,⟨nd,rfl⟩⟩; refine ⟨_,rfl,?_⟩; (try (rw [drewN_self wc]; generalize hq_:World.drewN wc _=wc; have n0_:Aside0 (Kd.R Kd.string 9 wc w.heap.size (fun _=>True) (.slice (some ad238) t235.length co9) t235):=⟨by rw [← hq_]; exact (by (with_reducible repeat (first | apply Kd.R_alloc | apply Kd.R_drewN | apply Kd.R_drew)); exact HO_6.out)⟩; have n1_:Aside0 (wc.heap[gb234]?=some (.cells #[.int .i64 x235000_24,.int .i64 x235001_24,.int .i64 x235002_24] 118 (0,0))):=⟨by rw [← hq_]; exact (by (with_reducible repeat (first | refine blk_drewN ?_ _ | refine blk_drew ?_ | refine blk_alloc ?_ _)); exact BK234.out)⟩; have n2_:Aside0 (wc.heap[gb246]?=some (.cells #[.int .i64 x247000_24,.int .i64 x247001_24,.int .i64 x247002_24] 118 (0,0))):=⟨by rw [← hq_]; exact (by (with_reducible repeat (first | refine blk_drewN ?_ _ | refine blk_drew ?_ | refine blk_alloc ?_ _)); exact BK246.out)⟩; have n3_:Aside0 (Below w.heap.size w wc):=⟨by rw [← hq_]; exact (by repeat (first | (with_reducible first | exact HB.out | apply below_alloc | apply pw_below_drewN | apply below_drew1 | refine below_set ?_ GE234.out | refine below_set ?_ GE246.out) | exact HB.out))⟩; clear HO_6 BK234 BK246 HB hq_; have HO_6:=n0_; have BK234:=n1_; have BK246:=n2_; have HB:=n3_; clear n0_ n1_ n2_ n3_)); have hnb71:=NB234_246.out; have hnc71:=NB246_234.out; have hcz72_0:wc.cell? ⟨gb234,0,none⟩=some (.int .i64 x235000_24):=(blk_cell BK234.out 0).trans rfl; have hcz72_1:wc.cell? ⟨gb234,1,none⟩=some (.int .i64 x235001_24):=(blk_cell BK234.out 1).trans rfl; have hcz72_2:wc.cell? ⟨gb234,2,none⟩=some (.int .i64 x235002_24):=(blk_cell BK234.out 2).trans rfl; have hfz72_0:=blk_frozen BK234.out 0; have hfz72_1:=blk_frozen BK234.out 1; have hfz72_2:=blk_frozen BK234.out 2))
                refine bodyPost_ret (results_ct rfl _ _ gb234 118 #[.int .i64 0,.int .i64 0,.int .i64 0] (0,0) _ rfl (by (with_reducible repeat (first | refine blk_drewN ?_ _ | refine blk_drew ?_ | refine blk_alloc ?_ _)); refine blk_put (cs:=#[.int .i64 0,.int .i64 0,.int .i64 x235002_24]) ?_ 2 _ rfl; (with_reducible repeat (first | refine blk_drewN ?_ _ | refine blk_drew ?_ | refine blk_alloc ?_ _)); refine blk_put (cs:=#[.int .i64 0,.int .i64 x235001_24,.int .i64 x235002_24]) ?_ 1 _ rfl; (with_reducible repeat (first | refine blk_drewN ?_ _ | refine blk_drew ?_ | refine blk_alloc ?_ _)); refine blk_put (cs:=#[.int .i64 x235000_24,.int .i64 x235001_24,.int .i64 x235002_24]) ?_ 0 _ rfl; (with_reducible repeat (first | refine blk_drewN ?_ _ | refine blk_drew ?_ | refine blk_alloc ?_ _)); exact BK234.out) Tryz.underlying118 rfl (by kernel_rfl)) rfl ?_
                exact ⟨by first | rfl | (simp [errW_none,errW_some] <;> rfl) | (simp [*,errW_none,errW_some] <;> rfl),by repeat (first | (with_reducible first | exact HB.out | apply below_alloc | apply pw_below_drewN | apply below_drew1 | refine below_set ?_ GE234.out | refine below_set ?_ GE246.out) | exact HB.out)⟩
               ·rw [if_neg c70] at H
                have c70b0:(t255 == 0)=false:=beq_eq_false_iff_ne.mpr c70
                have c70b1:(t255 != 0)=true:=bne_iff_ne.mpr c70
                simp only [Option.some.injEq,Prod.mk.injEq] at H
                obtain ⟨rfl,rfl,rfl,rfl⟩ :=H
                have p254:0≤(1:Int):=(by omega)
                have q254:1 < (t235.length:Int):=of_decide_eq_true (by first | (with_reducible assumption) | assumption)
                obtain ⟨ad254,e254,hx254_0⟩ :=Kd.at_string (Kd.R_reads' HO_6.out).2.2 1 p254 q254
                obtain rfl:ad238=ad254:=(by injection e254)
                (try simp only [show (1:Int).toNat=1 from rfl,Nat.reduceMul,Nat.reduceEqDiff,Go.Addr.add,↓reduceIte] at hx254_0)
                have qi254:(1 < t235.length)=True:=eq_true (by omega)
                (try rw [show ((1:Int)).toNat=1 from rfl] at hx254_0)
                replace p254:=eq_true p254
                replace q254:=eq_true q254
                go_wp2_with (first | ((with_reducible refine gate_callee (f:=104) rfl ?_); refine goesL_ (some 106) rfl rfl Tryz.func104 (by kernel_rfl) rfl #[.string (rdOf ByteArray.empty t235 1)] rfl (by (try simp only [List.map_toArray,List.map_cons,List.map_nil]); first | done | rfl | (simp only [List.length_drop,List.length_take]; rfl)) ?_; (with_reducible refine (complineref17_Number.calls kj24 (rdOf ByteArray.empty t235 1) t255 t256 _ A68.out).mono ?_); rintro e w' ⟨rfl,⟨nd,rfl⟩⟩; refine ⟨_,rfl,?_⟩; (try (rw [drewN_self wc]; generalize hq_:World.drewN wc _=wc; have n0_:Aside0 (Kd.R Kd.string 9 wc w.heap.size (fun _=>True) (.slice (some ad238) t235.length co9) t235):=⟨by rw [← hq_]; exact (by (with_reducible repeat (first | apply Kd.R_alloc | apply Kd.R_drewN | apply Kd.R_drew)); exact HO_6.out)⟩; have n1_:Aside0 (wc.heap[gb234]?=some (.cells #[.int .i64 x235000_24,.int .i64 x235001_24,.int .i64 x235002_24] 118 (0,0))):=⟨by rw [← hq_]; exact (by (with_reducible repeat (first | refine blk_drewN ?_ _ | refine blk_drew ?_ | refine blk_alloc ?_ _)); exact BK234.out)⟩; have n2_:Aside0 (wc.heap[gb246]?=some (.cells #[.int .i64 x247000_24,.int .i64 x247001_24,.int .i64 x247002_24] 118 (0,0))):=⟨by rw [← hq_]; exact (by (with_reducible repeat (first | refine blk_drewN ?_ _ | refine blk_drew ?_ | refine blk_alloc ?_ _)); exact BK246.out)⟩; have n3_:Aside0 (Below w.heap.size w wc):=⟨by rw [← hq_]; exact (by repeat (first | (with_reducible first | exact HB.out | apply below_alloc | apply pw_below_drewN | apply below_drew1 | refine below_set ?_ GE234.out | refine below_set ?_ GE246.out) | exact HB.out))⟩; clear HO_6 BK234 BK246 HB hq_; have HO_6:=n0_; have BK234:=n1_; have BK246:=n2_; have HB:=n3_; clear n0_ n1_ n2_ n3_)); have hnb73:=NB246_234.out; have hnc73:=NB234_246.out; have hcz74_0:wc.cell? ⟨gb246,0,none⟩=some (.int .i64 x247000_24):=(blk_cell BK246.out 0).trans rfl; have hcz74_1:wc.cell? ⟨gb246,1,none⟩=some (.int .i64 x247001_24):=(blk_cell BK246.out 1).trans rfl; have hcz74_2:wc.cell? ⟨gb246,2,none⟩=some (.int .i64 x247002_24):=(blk_cell BK246.out 2).trans rfl; have hfz74_0:=blk_frozen BK246.out 0; have hfz74_1:=blk_frozen BK246.out 1; have hfz74_2:=blk_frozen BK246.out 2; have hcz75_0:wc.cell? ⟨gb234,0,none⟩=some (.int .i64 x235000_24):=(blk_cell BK234.out 0).trans rfl; have hcz75_1:wc.cell? ⟨gb234,1,none⟩=some (.int .i64 x235001_24):=(blk_cell BK234.out 1).trans rfl; have hcz75_2:wc.cell? ⟨gb234,2,none⟩=some (.int .i64 x235002_24):=(blk_cell BK234.out 2).trans rfl; have hfz75_0:=blk_frozen BK234.out 0; have hfz75_1:=blk_frozen BK234.out 1; have hfz75_2:=blk_frozen BK234.out 2))
                refine bodyPost_ret (results_ct rfl _ _ gb234 118 #[.int .i64 x247000_24,.int .i64 x247001_24,.int .i64 t255] (0,0) _ rfl (by (with_reducible repeat (first | refine blk_drewN ?_ _ | refine blk_drew ?_ | refine blk_alloc ?_ _)); refine blk_put (cs:=#[.int .i64 x247000_24,.int .i64 x247001_24,.int .i64 x235002_24]) ?_ 2 _ rfl; (with_reducible repeat (first | refine blk_drewN ?_ _ | refine blk_drew ?_ | refine blk_alloc ?_ _)); refine blk_put (cs:=#[.int .i64 x247000_24,.int .i64 x235001_24,.int .i64 x235002_24]) ?_ 1 _ rfl; (with_reducible repeat (first | refine blk_drewN ?_ _ | refine blk_drew ?_ | refine blk_alloc ?_ _)); refine blk_put (cs:=#[.int .i64 x235000_24,.int .i64 x235001_24,.int .i64 x235002_24]) ?_ 0 _ rfl; (with_reducible repeat (first | refine blk_drewN ?_ _ | refine blk_drew ?_ | refine blk_alloc ?_ _)); refine blk_far ?_ NB234_246.out _; (with_reducible repeat (first | refine blk_drewN ?_ _ | refine blk_drew ?_ | refine blk_alloc ?_ _)); exact BK234.out) Tryz.underlying118 rfl (by kernel_rfl)) rfl ?_
                exact ⟨by first | rfl | (simp [errW_none,errW_some] <;> rfl) | (simp [*,errW_none,errW_some] <;> rfl),by repeat (first | (with_reducible first | exact HB.out | apply below_alloc | apply pw_below_drewN | apply below_drew1 | refine below_set ?_ GE234.out | refine below_set ?_ GE246.out) | exact HB.out)⟩
              ·rw [if_neg c69] at H
               have c69b0:(t256 == 0)=false:=beq_eq_false_iff_ne.mpr c69
               have c69b1:(t256 != 0)=true:=bne_iff_ne.mpr c69
               simp only [Option.some.injEq,Prod.mk.injEq] at H
               obtain ⟨rfl,rfl,rfl,rfl⟩ :=H
               have p254:0≤(1:Int):=(by omega)
               have q254:1 < (t235.length:Int):=of_decide_eq_true (by first | (with_reducible assumption) | assumption)
               obtain ⟨ad254,e254,hx254_0⟩ :=Kd.at_string (Kd.R_reads' HO_6.out).2.2 1 p254 q254
               obtain rfl:ad238=ad254:=(by injection e254)
               (try simp only [show (1:Int).toNat=1 from rfl,Nat.reduceMul,Nat.reduceEqDiff,Go.Addr.add,↓reduceIte] at hx254_0)
               have qi254:(1 < t235.length)=True:=eq_true (by omega)
               (try rw [show ((1:Int)).toNat=1 from rfl] at hx254_0)
               replace p254:=eq_true p254
               replace q254:=eq_true q254
               go_wp2_with (first | ((with_reducible refine gate_callee (f:=104) rfl ?_); refine goesL_ (some 106) rfl rfl Tryz.func104 (by kernel_rfl) rfl #[.string (rdOf ByteArray.empty t235 1)] rfl (by (try simp only [List.map_toArray,List.map_cons,List.map_nil]); first | done | rfl | (simp only [List.length_drop,List.length_take]; rfl)) ?_; (with_reducible refine (complineref17_Number.calls kj24 (rdOf ByteArray.empty t235 1) t255 t256 _ A68.out).mono ?_); rintro e w' ⟨rfl,⟨nd,rfl⟩⟩; refine ⟨_,rfl,?_⟩; (try (rw [drewN_self wc]; generalize hq_:World.drewN wc _=wc; have n0_:Aside0 (Kd.R Kd.string 9 wc w.heap.size (fun _=>True) (.slice (some ad238) t235.length co9) t235):=⟨by rw [← hq_]; exact (by (with_reducible repeat (first | apply Kd.R_alloc | apply Kd.R_drewN | apply Kd.R_drew)); exact HO_6.out)⟩; have n1_:Aside0 (wc.heap[gb234]?=some (.cells #[.int .i64 x235000_24,.int .i64 x235001_24,.int .i64 x235002_24] 118 (0,0))):=⟨by rw [← hq_]; exact (by (with_reducible repeat (first | refine blk_drewN ?_ _ | refine blk_drew ?_ | refine blk_alloc ?_ _)); exact BK234.out)⟩; have n2_:Aside0 (wc.heap[gb246]?=some (.cells #[.int .i64 x247000_24,.int .i64 x247001_24,.int .i64 x247002_24] 118 (0,0))):=⟨by rw [← hq_]; exact (by (with_reducible repeat (first | refine blk_drewN ?_ _ | refine blk_drew ?_ | refine blk_alloc ?_ _)); exact BK246.out)⟩; have n3_:Aside0 (Below w.heap.size w wc):=⟨by rw [← hq_]; exact (by repeat (first | (with_reducible first | exact HB.out | apply below_alloc | apply pw_below_drewN | apply below_drew1 | refine below_set ?_ GE234.out | refine below_set ?_ GE246.out) | exact HB.out))⟩; clear HO_6 BK234 BK246 HB hq_; have HO_6:=n0_; have BK234:=n1_; have BK246:=n2_; have HB:=n3_; clear n0_ n1_ n2_ n3_)); have hnb76:=NB234_246.out; have hnc76:=NB246_234.out; have hcz77_0:wc.cell? ⟨gb234,0,none⟩=some (.int .i64 x235000_24):=(blk_cell BK234.out 0).trans rfl; have hcz77_1:wc.cell? ⟨gb234,1,none⟩=some (.int .i64 x235001_24):=(blk_cell BK234.out 1).trans rfl; have hcz77_2:wc.cell? ⟨gb234,2,none⟩=some (.int .i64 x235002_24):=(blk_cell BK234.out 2).trans rfl; have hfz77_0:=blk_frozen BK234.out 0; have hfz77_1:=blk_frozen BK234.out 1; have hfz77_2:=blk_frozen BK234.out 2))
               refine bodyPost_ret (results_ct rfl _ _ gb234 118 #[.int .i64 0,.int .i64 0,.int .i64 0] (0,0) _ rfl (by (with_reducible repeat (first | refine blk_drewN ?_ _ | refine blk_drew ?_ | refine blk_alloc ?_ _)); refine blk_put (cs:=#[.int .i64 0,.int .i64 0,.int .i64 x235002_24]) ?_ 2 _ rfl; (with_reducible repeat (first | refine blk_drewN ?_ _ | refine blk_drew ?_ | refine blk_alloc ?_ _)); refine blk_put (cs:=#[.int .i64 0,.int .i64 x235001_24,.int .i64 x235002_24]) ?_ 1 _ rfl; (with_reducible repeat (first | refine blk_drewN ?_ _ | refine blk_drew ?_ | refine blk_alloc ?_ _)); refine blk_put (cs:=#[.int .i64 x235000_24,.int .i64 x235001_24,.int .i64 x235002_24]) ?_ 0 _ rfl; (with_reducible repeat (first | refine blk_drewN ?_ _ | refine blk_drew ?_ | refine blk_alloc ?_ _)); exact BK234.out) Tryz.underlying118 rfl (by kernel_rfl)) rfl ?_
               exact ⟨by first | rfl | (simp [errW_none,errW_some] <;> rfl) | (simp [*,errW_none,errW_some] <;> rfl),by repeat (first | (with_reducible first | exact HB.out | apply below_alloc | apply pw_below_drewN | apply below_drew1 | refine below_set ?_ GE234.out | refine below_set ?_ GE246.out) | exact HB.out)⟩
             ·rw [if_neg c67] at H
              exact absurd H (by simp)
            ·rw [if_neg c66] at H
             have c66b0:((t235.length:Int) == 2)=false:=beq_eq_false_iff_ne.mpr c66
             have c66b1:((t235.length:Int) != 2)=true:=bne_iff_ne.mpr c66
             simp only [Option.some.injEq,Prod.mk.injEq] at H
             obtain ⟨rfl,rfl,rfl,rfl⟩ :=H
             have hnb78:=NB246_234.out
             have hnc78:=NB234_246.out
             have hcz79_0:wc.cell? ⟨gb246,0,none⟩=some (.int .i64 x247000_24):=(blk_cell BK246.out 0).trans rfl
             have hcz79_1:wc.cell? ⟨gb246,1,none⟩=some (.int .i64 x247001_24):=(blk_cell BK246.out 1).trans rfl
             have hcz79_2:wc.cell? ⟨gb246,2,none⟩=some (.int .i64 x247002_24):=(blk_cell BK246.out 2).trans rfl
             have hfz79_0:=blk_frozen BK246.out 0
             have hfz79_1:=blk_frozen BK246.out 1
             have hfz79_2:=blk_frozen BK246.out 2
             have hcz80_0:wc.cell? ⟨gb234,0,none⟩=some (.int .i64 x235000_24):=(blk_cell BK234.out 0).trans rfl
             have hcz80_1:wc.cell? ⟨gb234,1,none⟩=some (.int .i64 x235001_24):=(blk_cell BK234.out 1).trans rfl
             have hcz80_2:wc.cell? ⟨gb234,2,none⟩=some (.int .i64 x235002_24):=(blk_cell BK234.out 2).trans rfl
             have hfz80_0:=blk_frozen BK234.out 0
             have hfz80_1:=blk_frozen BK234.out 1
             have hfz80_2:=blk_frozen BK234.out 2
             go_wp2
             refine bodyPost_ret (results_ct rfl _ _ gb234 118 #[.int .i64 x247000_24,.int .i64 x247001_24,.int .i64 x247002_24] (0,0) _ rfl (by (with_reducible repeat (first | refine blk_drewN ?_ _ | refine blk_drew ?_ | refine blk_alloc ?_ _)); refine blk_put (cs:=#[.int .i64 x247000_24,.int .i64 x247001_24,.int .i64 x235002_24]) ?_ 2 _ rfl; (with_reducible repeat (first | refine blk_drewN ?_ _ | refine blk_drew ?_ | refine blk_alloc ?_ _)); refine blk_put (cs:=#[.int .i64 x247000_24,.int .i64 x235001_24,.int .i64 x235002_24]) ?_ 1 _ rfl; (with_reducible repeat (first | refine blk_drewN ?_ _ | refine blk_drew ?_ | refine blk_alloc ?_ _)); refine blk_put (cs:=#[.int .i64 x235000_24,.int .i64 x235001_24,.int .i64 x235002_24]) ?_ 0 _ rfl; (with_reducible repeat (first | refine blk_drewN ?_ _ | refine blk_drew ?_ | refine blk_alloc ?_ _)); exact BK234.out) Tryz.underlying118 rfl (by kernel_rfl)) rfl ?_
             exact ⟨by first | rfl | (simp [errW_none,errW_some] <;> rfl) | (simp [*,errW_none,errW_some] <;> rfl),by repeat (first | (with_reducible first | exact HB.out | apply below_alloc | apply pw_below_drewN | apply below_drew1 | refine below_set ?_ GE234.out | refine below_set ?_ GE246.out) | exact HB.out)⟩
         ·rw [if_neg c24] at H
          exact absurd H (by simp)
        ·rw [if_neg c23] at H
         have c23b0:(t245 == 0)=false:=beq_eq_false_iff_ne.mpr c23
         have c23b1:(t245 != 0)=true:=bne_iff_ne.mpr c23
         simp only [Option.some.injEq,Prod.mk.injEq] at H
         obtain ⟨rfl,rfl,rfl,rfl⟩ :=H
         go_wp2_with (first | ((with_reducible refine gate_callee (f:=79) rfl ?_); refine goesL_ (some 49) rfl rfl Tryz.func79 (by kernel_rfl) rfl #[.int .i64 a1] rfl (by (try simp only [List.map_toArray,List.map_cons,List.map_nil]); first | done | rfl | (simp only [List.length_drop,List.length_take]; rfl)) ?_; (with_reducible refine (complineref17_Limits.calls a1 t243 t244 t245 _ A22.out).mono ?_); rintro e w' ⟨rfl,⟨nd,rfl⟩⟩; refine ⟨_,rfl,?_⟩; (try (rw [drewN_self wc]; generalize hq_:World.drewN wc _=wc; have n0_:Aside0 (Kd.R Kd.string 9 wc w.heap.size (fun k_=>some k_≠(v240:Value).ownBlock) (.slice (some ad238) t235.length co9) t235):=⟨by rw [← hq_]; exact (by (with_reducible repeat (first | apply Kd.R_alloc | apply Kd.R_drewN | apply Kd.R_drew)); exact HO_6.out)⟩; have n1_:Aside0 (Kd.R Kd.string 9 wc w.heap.size (fun k_=>some k_≠(.slice (some ad238) t235.length co9:Value).ownBlock) v240 t239):=⟨by rw [← hq_]; exact (by (with_reducible repeat (first | apply Kd.R_alloc | apply Kd.R_drewN | apply Kd.R_drew)); exact HO_7.out)⟩; have n2_:Aside0 (wc.heap[gb234]?=some (.cells #[.int .i64 0,.int .i64 0,.int .i64 0] 118 (0,0))):=⟨by rw [← hq_]; exact (by (with_reducible repeat (first | refine blk_drewN ?_ _ | refine blk_drew ?_ | refine blk_alloc ?_ _)); exact BK234.out)⟩; have n3_:Aside0 (Below w.heap.size w wc):=⟨by rw [← hq_]; exact (by repeat (first | (with_reducible first | exact HB.out | apply below_alloc | apply pw_below_drewN | apply below_drew1 | refine below_set ?_ GE234.out) | exact HB.out))⟩; clear HO_6 HO_7 BK234 HB hq_; have HO_6:=n0_; have HO_7:=n1_; have BK234:=n2_; have HB:=n3_; clear n0_ n1_ n2_ n3_)); have hcz81_0:wc.cell? ⟨gb234,0,none⟩=some (.int .i64 0):=(blk_cell BK234.out 0).trans rfl; have hcz81_1:wc.cell? ⟨gb234,1,none⟩=some (.int .i64 0):=(blk_cell BK234.out 1).trans rfl; have hcz81_2:wc.cell? ⟨gb234,2,none⟩=some (.int .i64 0):=(blk_cell BK234.out 2).trans rfl; have hfz81_0:=blk_frozen BK234.out 0; have hfz81_1:=blk_frozen BK234.out 1; have hfz81_2:=blk_frozen BK234.out 2))
         refine bodyPost_ret (results_ct rfl _ _ gb234 118 #[.int .i64 0,.int .i64 0,.int .i64 0] (0,0) _ rfl (by (with_reducible repeat (first | refine blk_drewN ?_ _ | refine blk_drew ?_ | refine blk_alloc ?_ _)); refine blk_put (cs:=#[.int .i64 0,.int .i64 0,.int .i64 0]) ?_ 2 _ rfl; (with_reducible repeat (first | refine blk_drewN ?_ _ | refine blk_drew ?_ | refine blk_alloc ?_ _)); refine blk_put (cs:=#[.int .i64 0,.int .i64 0,.int .i64 0]) ?_ 1 _ rfl; (with_reducible repeat (first | refine blk_drewN ?_ _ | refine blk_drew ?_ | refine blk_alloc ?_ _)); refine blk_put (cs:=#[.int .i64 0,.int .i64 0,.int .i64 0]) ?_ 0 _ rfl; (with_reducible repeat (first | refine blk_drewN ?_ _ | refine blk_drew ?_ | refine blk_alloc ?_ _)); exact BK234.out) Tryz.underlying118 rfl (by kernel_rfl)) rfl ?_
         exact ⟨by first | rfl | (simp [errW_none,errW_some] <;> rfl) | (simp [*,errW_none,errW_some] <;> rfl),by repeat (first | (with_reducible first | exact HB.out | apply below_alloc | apply pw_below_drewN | apply below_drew1 | refine below_set ?_ GE234.out) | exact HB.out)⟩
 ·rw [if_neg c4] at H
  exact absurd H (by simp)
end Go.Proofs.YtcmmmlenaahaeaaGreatDoor.PShw
