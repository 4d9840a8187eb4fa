-- Written by a program of this session (gprint.py) over the kit's print.
import Derived.Test.YtepflnfnkfkldaaDoorPReax0
import Derived.Test.YtepflnfnkfkldaaDoorPReax3
import Derived.Test.YtepflnfnkfkldaaDoorPReax11
import Derived.Test.YtepflnfnkfkldaaDoorPReax13
import Derived.Test.YtepflnfnkfkldaaDoorPReax14
namespace Go.Proofs.YtepflnfnkfkldaaDoor.PRea
open Go.RowKit Go.Proofs.YtepflnfnkfkldaaDoorW.PrintWords Go.Proofs.YtepflnfnkfkldaaDoorW.PrintLast Go.Proofs.YtepflnfnkfkldaaDoorW.PrintMore
attribute [local go_sem] max2_int min2_int max_two min_two max_three min_three max_four min_four
set_option linter.unusedVariables false
set_option linter.unusedSimpArgs false
def complineref22_at.f (a0_0:Int)(a0_1:Bool)(a0_2:Int)(a0_3:Bool)(a0_4:Int)(a0_5:Bool)(a0_6:Int)(a0_7:Bool)(a0_8:Int)(a0_9:Bool)(a1:Int):Option (Bool):=(complineref18_Has.f 100 a0_2 a0_3 (wrap64 (Int.tdiv a1 60))).bind fun m=>if m=true then complineref18_Has.f 100 a0_0 a0_1 (Int.tmod a1 60) else some false
set_option maxHeartbeats 8000000 in
set_option maxRecDepth 100000 in
theorem complineref22_at.calls (a0_0:Int)(a0_1:Bool)(a0_2:Int)(a0_3:Bool)(a0_4:Int)(a0_5:Bool)(a0_6:Int)(a0_7:Bool)(a0_8:Int)(a0_9:Bool)(a1:Int)(r:Bool)(w:World)(h:complineref22_at.f a0_0 a0_1 a0_2 a0_3 a0_4 a0_5 a0_6 a0_7 a0_8 a0_9 a1=some r) :
  Calls Tryd.prog 52 #[.agg #[.int .u64 a0_0,.bool a0_1,.int .u64 a0_2,.bool a0_3,.int .u64 a0_4,.bool a0_5,.int .u64 a0_6,.bool a0_7,.int .u64 a0_8,.bool a0_9],.int .i64 a1] w fun e w'=>e=.returned (.bool r)∧Below w.heap.size w w':=by
 have hh:((complineref18_Has.f 100 a0_2 a0_3 (wrap64 (Int.tdiv a1 60))).bind fun m=>if m=true then complineref18_Has.f 100 a0_0 a0_1 (Int.tmod a1 60) else some false)=some r:=h
 clear h
 obtain ⟨m,A,h1⟩ :=Option.bind_eq_some_iff.1 hh
 cases m with
 | true=>exact (R22.at_calls a0_0 a0_1 a0_2 a0_3 a0_4 a0_5 a0_6 a0_7 a0_8 a0_9 a1 true r A (fun _=>by rwa [if_pos rfl] at h1) w).mono (fun _ _ h=>⟨by rw [h.1,Bool.true_and],h.2⟩)
 | false=>
  rw [if_neg Bool.false_ne_true] at h1
  obtain rfl:=Option.some.inj h1
  exact (R22.at_calls a0_0 a0_1 a0_2 a0_3 a0_4 a0_5 a0_6 a0_7 a0_8 a0_9 a1 false false A (fun h=>by cases h) w).mono (fun _ _ h=>⟨h.1,h.2⟩)
/-! This session's own: the document's next, by its own steps. -/
def R22.up (is:Bool)(atf:Int→Option Bool)(D:Int):Nat→Int→Option (Option Int)
 | 0,_=>none
 | k+1,t=>if is=true∧t < 1440 then (atf t).bind fun m=>if m=true then some (some (wrap64 (wrap64 (D*1440)+t))) else R22.up is atf D k (wrap64 (t+1)) else some none
def R22.next (onf:Int→Int→Int→Int→Option Bool)(atf:Int→Option Bool)(aft:Int→Int→Int→Int→Option (Int × Int × Int × Int)):Nat→Int→Int→Int→Int→Int→Option (Int × Int)
 | 0,_,_,_,_,_=>none
 | k+1,t,D,y,m,d=>if D≤376199 then (onf D y m d).bind fun is=>(R22.up is atf D 1500 t).bind fun o=>match o with
   | some r=>some (r,0)
   | none=>(aft D y m d).bind fun q=>R22.next onf atf aft k 0 q.1 q.2.1 q.2.2.1 q.2.2.2
  else some (0,11)
def R22.count (onf:Int→Int→Int→Int→Option Bool)(tms:Int→Int→Option Int)(aft:Int→Int→Int→Int→Option (Int × Int × Int × Int))(fr tu wh:Int):Nat→Int→Int→Int→Int→Int→Option Int
 | 0,_,_,_,_,_=>none
 | k + 1, n, D, y, m, d => if wrap64 (D * 1440) < tu then (onf D y m d).bind fun is => (if is = true then
    (if mx (wrap64 (fr - wrap64 (D*1440))) 0=0∧mn (wrap64 (tu - wrap64 (D*1440))) 1440=1440 then some (wrap64 (n+wh)) else (tms (mx (wrap64 (fr - wrap64 (D*1440))) 0) (mn (wrap64 (tu - wrap64 (D*1440))) 1440)).bind fun v=>some (wrap64 (n+v))) else some n).bind fun n'=>
   (aft D y m d).bind fun q=>R22.count onf tms aft fr tu wh k n' q.1 q.2.1 q.2.2.1 q.2.2.2
  else some n
/-! This session's own: the document's Next, walked. -/
set_option maxHeartbeats 8000000 in
set_option maxRecDepth 100000 in
theorem R22.Next_good (b0:Int)(s0:Bool)(b1:Int)(s1:Bool)(b2:Int)(s2:Bool)(b3:Int)(s3:Bool)(b4:Int)(s4:Bool)(mi:Int)(A:complineref22_odd.f 2000 b0 s0 b1 s1 b2 s2 b3 s3 b4 s4=some false)(hm:¬ (541727999≤mi))(X:Int)(hX:mx mi (-1)=X)(D0 y0 m0 d0:Int)(hD:complineref22_day.f 2000 (wrap64 (Int.tdiv (wrap64 (X+1)) 1440))=some (D0,y0,m0,d0))(r1 r2:Int)
  (H:R22.next (fun D y m d=>complineref22_on.f b0 s0 b1 s1 b2 s2 b3 s3 b4 s4 D y m d) (fun t=>complineref22_at.f b0 s0 b1 s1 b2 s2 b3 s3 b4 s4 t) (fun D y m d=>complineref22_after.f D y m d) 400000 (Int.tmod (wrap64 (X+1)) 1440) D0 y0 m0 d0=some (r1,r2)) (w:World) :
  Calls Tryd.prog 24 #[.agg #[.int .u64 b0,.bool s0,.int .u64 b1,.bool s1,.int .u64 b2,.bool s2,.int .u64 b3,.bool s3,.int .u64 b4,.bool s4],.int .i64 mi] w fun e w'=>e=.returned (.tuple #[.int .i64 r1,.int .i64 r2])∧Below w.heap.size w w':=by
 have hif:(if mi < -1 then (-1:Int) else mi)=X:=hX
 have hd1:decide (541727999≤mi)=false:=decide_eq_false (by omega)
 obtain ⟨onf,hon⟩:∃ f:Int→Int→Int→Int→Option Bool,(fun D y m d=>complineref22_on.f b0 s0 b1 s1 b2 s2 b3 s3 b4 s4 D y m d)=f:=⟨_,rfl⟩
 obtain ⟨atf,hat⟩:∃ f:Int→Option Bool,(fun t=>complineref22_at.f b0 s0 b1 s1 b2 s2 b3 s3 b4 s4 t)=f:=⟨_,rfl⟩
 obtain ⟨aft,haft⟩:∃ f:Int→Int→Int→Int→Option (Int × Int × Int × Int),(fun D y m d=>complineref22_after.f D y m d)=f:=⟨_,rfl⟩
 rw [hon,hat,haft] at H
 obtain ⟨K0,hK0⟩:∃ k:Nat,400000=k:=⟨_,rfl⟩
 rw [hK0] at H
 clear hK0 hX hm
 replace A:=Lib.hid A
 replace hD:=Lib.hid hD
 replace H:=Aside0.mk H
 replace hon:=Lib.hid hon
 replace hat:=Lib.hid hat
 replace haft:=Lib.hid haft
 have HR:=Aside0.mk (show Spc.Row (w.alloc (.cells #[.int .u64 b0,.bool s0,.int .u64 b1,.bool s1,.int .u64 b2,.bool s2,.int .u64 b3,.bool s3,.int .u64 b4,.bool s4] 26)) w.heap.size b0 s0 b1 s1 b2 s2 b3 s3 b4 s4∧Below w.heap.size w (w.alloc (.cells #[.int .u64 b0,.bool s0,.int .u64 b1,.bool s1,.int .u64 b2,.bool s2,.int .u64 b3,.bool s3,.int .u64 b4,.bool s4] 26)) from ⟨blk_new w _,below_alloc (Below.refl _ _) _⟩)
 go_enter Tryd.func24,Tryd.ntmps24
 go_wp2_with fail
 generalize w.alloc (.cells #[.int .u64 b0,.bool s0,.int .u64 b1,.bool s1,.int .u64 b2,.bool s2,.int .u64 b3,.bool s3,.int .u64 b4,.bool s4] 26)=w1 at HR ⊢
 refine (complineref22_odd.calls 2000 _ _ _ _ _ _ _ _ _ _ _ _ A.out).mono ?_
 rintro e w2 ⟨rfl,hb⟩
 have H2:=Aside0.mk (show Spc.Row w2 w.heap.size b0 s0 b1 s1 b2 s2 b3 s3 b4 s4∧Below w.heap.size w w2 from ⟨blk_below HR.out.1 hb,below_step HR.out.2 hb⟩)
 clear HR hb A
 go_wp2_with fail
 refine (complineref22_day.calls 2000 _ _ _ _ _ _ hD.out).mono ?_
 rintro e w3 ⟨rfl,hb⟩
 have H3:=Aside0.mk (show Spc.Row w3 w.heap.size b0 s0 b1 s1 b2 s2 b3 s3 b4 s4∧Below w.heap.size w w3 from ⟨blk_below H2.out.1 hb,below_step H2.out.2 hb⟩)
 clear H2 hb
 have H4:=Aside0.mk (show Spc.Row (w3.alloc (.cells #[.int .i64 D0,.int .i64 y0,.int .i64 m0,.int .i64 d0] 92)) w.heap.size b0 s0 b1 s1 b2 s2 b3 s3 b4 s4∧Below w.heap.size w (w3.alloc (.cells #[.int .i64 D0,.int .i64 y0,.int .i64 m0,.int .i64 d0] 92))∧w.heap.size < w3.heap.size∧(w3.alloc (.cells #[.int .i64 D0,.int .i64 y0,.int .i64 m0,.int .i64 d0] 92)).heap[w3.heap.size]?=some (.cells #[.int .i64 D0,.int .i64 y0,.int .i64 m0,.int .i64 d0] 92 (0,0)) from ⟨blk_alloc H3.out.1 _,below_alloc H3.out.2 _,blk_lt H3.out.1,heap_alloc_new _ _⟩)
 go_wp2_with fail
 obtain ⟨gd0,hgd0⟩:∃ g,w3.heap.size=g:=⟨_,rfl⟩
 rw [hgd0] at H4 ⊢
 generalize w3.alloc (.cells #[.int .i64 D0,.int .i64 y0,.int .i64 m0,.int .i64 d0] 92)=w4 at H4 ⊢
 clear H3 hgd0
 go_loopg [7,8] K0 (fun kq v7 v8 wr=>∃ (t D y m d:Int) (gd:Nat),v7=.int .i64 t∧v8=.pointer (some ⟨gd,0,none⟩)∧Aside0 (R22.next onf atf aft kq t D y m d=some (r1,r2))∧Aside0 (Spc.Row wr w.heap.size b0 s0 b1 s1 b2 s2 b3 s3 b4 s4∧Below w.heap.size w wr∧w.heap.size < gd∧wr.heap[gd]?=some (.cells #[.int .i64 D,.int .i64 y,.int .i64 m,.int .i64 d] 92 (0,0))))
 case atStart=>exact ⟨_,D0,y0,m0,d0,gd0,rfl,rfl,H,H4⟩
 case round=>
  clear H H4 hD hif hd1
  obtain ⟨t,D,y,m,d,gd,rfl,rfl,HA,HW⟩ :=hrel
  cases gk with
  | zero=>exact absurd HA.out (by simp [R22.next])
  | succ k1=>
   have H:=HA.out
   clear HA
   rw [R22.next] at H
   have v0:wr.cell? ⟨gd,0,none⟩=some (.int .i64 D):=(blk_cell HW.out.2.2.2 0).trans rfl
   have v1:wr.cell? ⟨gd,1,none⟩=some (.int .i64 y):=(blk_cell HW.out.2.2.2 1).trans rfl
   have v2:wr.cell? ⟨gd,2,none⟩=some (.int .i64 m):=(blk_cell HW.out.2.2.2 2).trans rfl
   have v3:wr.cell? ⟨gd,3,none⟩=some (.int .i64 d):=(blk_cell HW.out.2.2.2 3).trans rfl
   by_cases c1:D≤376199
   ·rw [if_pos c1] at H
    have c1b:decide (D≤376199)=true:=decide_eq_true c1
    obtain ⟨is,A1,H1⟩ :=Option.bind_eq_some_iff.mp H
    clear H
    obtain ⟨o,A2,HO⟩ :=Option.bind_eq_some_iff.mp H1
    clear H1
    replace A1:Hid (complineref22_on.f b0 s0 b1 s1 b2 s2 b3 s3 b4 s4 D y m d=some is):=Lib.hid (by rw [← hon.out] at A1; exact A1)
    replace A2:=Aside0.mk A2
    replace HO:=Aside0.mk HO
    obtain ⟨k0,k1,k2,k3,k4,k5,k6,k7,k8,k9⟩ :=HW.out.1.cells
    go_wp2_with fail
    refine (complineref22_on.calls _ _ _ _ _ _ _ _ _ _ _ _ _ _ _ _ A1.out).mono ?_
    rintro e w5 ⟨rfl,hb⟩
    have H5:=Aside0.mk (show Spc.Row w5 w.heap.size b0 s0 b1 s1 b2 s2 b3 s3 b4 s4∧Below w.heap.size w w5∧w.heap.size < gd∧w5.heap[gd]?=some (.cells #[.int .i64 D,.int .i64 y,.int .i64 m,.int .i64 d] 92 (0,0)) from ⟨blk_below HW.out.1 hb,below_step HW.out.2.1 hb,HW.out.2.2.1,blk_below HW.out.2.2.2 hb⟩)
    clear HW hb A1 k0 k1 k2 k3 k4 k5 k6 k7 k8 k9 v0 v1 v2 v3 c1b
    go_wp2_with fail
    go_loopg [7] 1500 (fun kq v7 wx=>∃ (t:Int),v7=.int .i64 t∧Aside0 (R22.up is atf D kq t=some o)∧Aside0 (Spc.Row wx w.heap.size b0 s0 b1 s1 b2 s2 b3 s3 b4 s4∧Below w.heap.size w wx∧wx.heap[gd]?=some (.cells #[.int .i64 D,.int .i64 y,.int .i64 m,.int .i64 d] 92 (0,0))))
    case atStart=>exact ⟨t,rfl,A2,⟨⟨H5.out.1,H5.out.2.1,H5.out.2.2.2⟩⟩⟩
    case round=>
     clear A2
     obtain ⟨t,rfl,HA,HW⟩ :=hrel
     cases gk with
     | zero=>exact absurd HA.out (by simp [R22.up])
     | succ k2=>
      have A2:=HA.out
      clear HA
      rw [R22.up] at A2
      by_cases c2:is=true∧t < 1440
      ·rw [if_pos c2] at A2
       obtain ⟨c2a,c2b⟩ :=c2
       subst c2a
       replace c2b:decide (t < 1440)=true:=decide_eq_true c2b
       obtain ⟨mt,A3,A5⟩ :=Option.bind_eq_some_iff.mp A2
       clear A2
       replace A3:Hid (complineref22_at.f b0 s0 b1 s1 b2 s2 b3 s3 b4 s4 t=some mt):=Lib.hid (by rw [← hat.out] at A3; exact A3)
       obtain ⟨k0,k1,k2,k3,k4,k5,k6,k7,k8,k9⟩ :=HW.out.1.cells
       replace A5:=Aside0.mk A5
       go_wp2_with fail
       refine (complineref22_at.calls _ _ _ _ _ _ _ _ _ _ _ _ _ A3.out).mono ?_
       rintro e w6 ⟨rfl,hb⟩
       have H6:=Aside0.mk (show Spc.Row w6 w.heap.size b0 s0 b1 s1 b2 s2 b3 s3 b4 s4∧Below w.heap.size w w6∧w6.heap[gd]?=some (.cells #[.int .i64 D,.int .i64 y,.int .i64 m,.int .i64 d] 92 (0,0)) from ⟨blk_below HW.out.1 hb,below_step HW.out.2.1 hb,blk_below HW.out.2.2 hb⟩)
       clear HW hb A3 k0 k1 k2 k3 k4 k5 k6 k7 k8 k9
       cases mt with
       | true=>
        have e1:o=some (wrap64 (wrap64 (D*1440)+t)):=by have:=A5.out; rw [if_pos rfl] at this; exact (Option.some.inj this).symm
        have HH:=HO.out
        rw [e1] at HH
        obtain ⟨rfl,rfl⟩ :=Prod.mk.inj (Option.some.inj HH)
        clear HH HO A5 e1
        have v0:w6.cell? ⟨gd,0,none⟩=some (.int .i64 D):=(blk_cell H6.out.2.2 0).trans rfl
        have v1:w6.cell? ⟨gd,1,none⟩=some (.int .i64 y):=(blk_cell H6.out.2.2 1).trans rfl
        have v2:w6.cell? ⟨gd,2,none⟩=some (.int .i64 m):=(blk_cell H6.out.2.2 2).trans rfl
        have v3:w6.cell? ⟨gd,3,none⟩=some (.int .i64 d):=(blk_cell H6.out.2.2 3).trans rfl
        go_wp2_with fail
        go_ret2
        exact ⟨rfl,H6.out.2.1⟩
       | false=>
        replace A5:=Aside0.mk (by have:=A5.out; rwa [if_neg (by decide)] at this)
        go_wp2_with fail
        go_roundg k2
        case measure=>exact Nat.lt_succ_self _
        case rel=>exact ⟨wrap64 (t+1),rfl,A5,H6⟩
      ·rw [if_neg c2] at A2
       obtain rfl:=Option.some.inj A2
       clear A2
       have HH:=HO.out
       clear HO
       obtain ⟨⟨D1,y1,m1,d1⟩,A4,HN⟩ :=Option.bind_eq_some_iff.mp HH
       clear HH
       replace A4:Hid (complineref22_after.f D y m d=some (D1,y1,m1,d1)):=Lib.hid (by rw [← haft.out] at A4; exact A4)
       replace HN:=Aside0.mk HN
       have v0:wr.cell? ⟨gd,0,none⟩=some (.int .i64 D):=(blk_cell HW.out.2.2 0).trans rfl
       have v1:wr.cell? ⟨gd,1,none⟩=some (.int .i64 y):=(blk_cell HW.out.2.2 1).trans rfl
       have v2:wr.cell? ⟨gd,2,none⟩=some (.int .i64 m):=(blk_cell HW.out.2.2 2).trans rfl
       have v3:wr.cell? ⟨gd,3,none⟩=some (.int .i64 d):=(blk_cell HW.out.2.2 3).trans rfl
       have hpk:(is=false)∨(is=true∧decide (t < 1440)=false):=by
        cases is
        ·exact .inl rfl
        ·exact .inr ⟨rfl,decide_eq_false (fun h=>c2 ⟨rfl,h⟩)⟩
       clear c2
       rcases hpk with rfl | ⟨rfl,c2⟩
       all_goals go_wp2_with fail
       all_goals
        have H7:=Aside0.mk (show Spc.Row (wr.alloc (.cells #[.int .i64 D,.int .i64 y,.int .i64 m,.int .i64 d] 92)) w.heap.size b0 s0 b1 s1 b2 s2 b3 s3 b4 s4∧Below w.heap.size w (wr.alloc (.cells #[.int .i64 D,.int .i64 y,.int .i64 m,.int .i64 d] 92))∧w.heap.size < wr.heap.size∧(wr.alloc (.cells #[.int .i64 D,.int .i64 y,.int .i64 m,.int .i64 d] 92)).heap[wr.heap.size]?=some (.cells #[.int .i64 D,.int .i64 y,.int .i64 m,.int .i64 d] 92 (0,0)) from ⟨blk_alloc HW.out.1 _,below_alloc HW.out.2.1 _,blk_lt HW.out.1,heap_alloc_new _ _⟩)
        clear v0 v1 v2 v3
        obtain ⟨gn,hgn⟩:∃ g,wr.heap.size=g:=⟨_,rfl⟩
        rw [hgn] at H7 ⊢
        generalize wr.alloc (.cells #[.int .i64 D,.int .i64 y,.int .i64 m,.int .i64 d] 92)=w7 at H7 ⊢
        clear HW hgn
        refine (complineref22_after.calls _ _ _ _ _ _ _ _ _ A4.out).mono ?_
        rintro e w8 ⟨rfl,hb⟩
        have H8:=Aside0.mk (show Spc.Row w8 w.heap.size b0 s0 b1 s1 b2 s2 b3 s3 b4 s4∧Below w.heap.size w w8∧w.heap.size < gn∧w8.heap[gn]?=some (.cells #[.int .i64 D,.int .i64 y,.int .i64 m,.int .i64 d] 92 (0,0)) from ⟨blk_below H7.out.1 hb,below_step H7.out.2.1 hb,H7.out.2.2.1,blk_below H7.out.2.2.2 hb⟩)
        clear H7 hb A4
        have v0:w8.cell? ⟨gn,0,none⟩=some (.int .i64 D):=(blk_cell H8.out.2.2.2 0).trans rfl
        have v1:w8.cell? ⟨gn,1,none⟩=some (.int .i64 y):=(blk_cell H8.out.2.2.2 1).trans rfl
        have v2:w8.cell? ⟨gn,2,none⟩=some (.int .i64 m):=(blk_cell H8.out.2.2.2 2).trans rfl
        have v3:w8.cell? ⟨gn,3,none⟩=some (.int .i64 d):=(blk_cell H8.out.2.2.2 3).trans rfl
        have f0:=blk_frozen H8.out.2.2.2 0
        have f1:=blk_frozen H8.out.2.2.2 1
        have f2:=blk_frozen H8.out.2.2.2 2
        have f3:=blk_frozen H8.out.2.2.2 3
        go_wp2_with fail
        go_roundg k1
        case measure=>exact Nat.lt_succ_self _
        case rel=>
         have hg:=H8.out.2.2.1
         have hne:w.heap.size≠gn:=by omega
         refine ⟨0,D1,y1,m1,d1,gn,rfl,rfl,HN,⟨?_,?_,hg,?_⟩⟩
         ·exact (Below.heap_setCell _ _ _ _ hne).trans ((Below.heap_setCell _ _ _ _ hne).trans ((Below.heap_setCell _ _ _ _ hne).trans ((Below.heap_setCell _ _ _ _ hne).trans H8.out.1)))
         ·exact below_set (below_set (below_set (below_set H8.out.2.1 (by omega)) (by omega)) (by omega)) (by omega)
         ·exact blk_put (blk_put (blk_put (blk_put H8.out.2.2.2 0 _ rfl) 1 _ rfl) 2 _ rfl) 3 _ rfl
   ·rw [if_neg c1] at H
    have c1b:decide (D≤376199)=false:=decide_eq_false c1
    obtain ⟨rfl,rfl⟩ :=Prod.mk.inj (Option.some.inj H)
    go_wp2_with fail
    go_ret2
    exact ⟨rfl,HW.out.2.1⟩
set_option maxHeartbeats 8000000 in
set_option maxRecDepth 100000 in
theorem R22.Next_odd (b0:Int)(s0:Bool)(b1:Int)(s1:Bool)(b2:Int)(s2:Bool)(b3:Int)(s3:Bool)(b4:Int)(s4:Bool)(mi:Int)(A:complineref22_odd.f 2000 b0 s0 b1 s1 b2 s2 b3 s3 b4 s4=some true)(w:World) :
  Calls Tryd.prog 24 #[.agg #[.int .u64 b0,.bool s0,.int .u64 b1,.bool s1,.int .u64 b2,.bool s2,.int .u64 b3,.bool s3,.int .u64 b4,.bool s4],.int .i64 mi] w fun e w'=>e=.returned (.tuple #[.int .i64 0,.int .i64 2])∧Below w.heap.size w w':=by
 replace A:=Lib.hid A
 have HR:=Aside0.mk (below_alloc (Below.refl w.heap.size w) (.cells #[.int .u64 b0,.bool s0,.int .u64 b1,.bool s1,.int .u64 b2,.bool s2,.int .u64 b3,.bool s3,.int .u64 b4,.bool s4] 26))
 have hR:=blk_new w (.cells #[.int .u64 b0,.bool s0,.int .u64 b1,.bool s1,.int .u64 b2,.bool s2,.int .u64 b3,.bool s3,.int .u64 b4,.bool s4] 26)
 go_enter Tryd.func24,Tryd.ntmps24
 go_wp2_with fail
 generalize w.alloc (.cells #[.int .u64 b0,.bool s0,.int .u64 b1,.bool s1,.int .u64 b2,.bool s2,.int .u64 b3,.bool s3,.int .u64 b4,.bool s4] 26)=w1 at HR hR ⊢
 refine (complineref22_odd.calls 2000 _ _ _ _ _ _ _ _ _ _ _ _ A.out).mono ?_
 rintro e w2 ⟨rfl,hb⟩
 have H2:=Aside0.mk (below_step HR.out hb)
 clear HR hb A hR
 go_wp2_with fail
 go_ret2
 exact ⟨rfl,H2.out⟩
set_option maxHeartbeats 8000000 in
set_option maxRecDepth 100000 in
theorem R22.Next_late (b0:Int)(s0:Bool)(b1:Int)(s1:Bool)(b2:Int)(s2:Bool)(b3:Int)(s3:Bool)(b4:Int)(s4:Bool)(mi:Int)(A:complineref22_odd.f 2000 b0 s0 b1 s1 b2 s2 b3 s3 b4 s4=some false)(hm:541727999≤mi)(w:World) :
  Calls Tryd.prog 24 #[.agg #[.int .u64 b0,.bool s0,.int .u64 b1,.bool s1,.int .u64 b2,.bool s2,.int .u64 b3,.bool s3,.int .u64 b4,.bool s4],.int .i64 mi] w fun e w'=>e=.returned (.tuple #[.int .i64 0,.int .i64 11])∧Below w.heap.size w w':=by
 have hd1:decide (541727999≤mi)=true:=decide_eq_true hm
 replace A:=Lib.hid A
 have HR:=Aside0.mk (below_alloc (Below.refl w.heap.size w) (.cells #[.int .u64 b0,.bool s0,.int .u64 b1,.bool s1,.int .u64 b2,.bool s2,.int .u64 b3,.bool s3,.int .u64 b4,.bool s4] 26))
 have hR:=blk_new w (.cells #[.int .u64 b0,.bool s0,.int .u64 b1,.bool s1,.int .u64 b2,.bool s2,.int .u64 b3,.bool s3,.int .u64 b4,.bool s4] 26)
 go_enter Tryd.func24,Tryd.ntmps24
 go_wp2_with fail
 generalize w.alloc (.cells #[.int .u64 b0,.bool s0,.int .u64 b1,.bool s1,.int .u64 b2,.bool s2,.int .u64 b3,.bool s3,.int .u64 b4,.bool s4] 26)=w1 at HR hR ⊢
 refine (complineref22_odd.calls 2000 _ _ _ _ _ _ _ _ _ _ _ _ A.out).mono ?_
 rintro e w2 ⟨rfl,hb⟩
 have H2:=Aside0.mk (below_step HR.out hb)
 clear HR hb A hR
 go_wp2_with fail
 go_ret2
 exact ⟨rfl,H2.out⟩
def complineref22_Next.f (a0_0:Int)(a0_1:Bool)(a0_2:Int)(a0_3:Bool)(a0_4:Int)(a0_5:Bool)(a0_6:Int)(a0_7:Bool)(a0_8:Int)(a0_9:Bool)(a1:Int):Option (Int × Int):=(complineref22_odd.f 2000 a0_0 a0_1 a0_2 a0_3 a0_4 a0_5 a0_6 a0_7 a0_8 a0_9).bind fun o=>if o=true then some ((0:Int),(2:Int)) else if 541727999≤a1 then some (0,11) else (complineref22_day.f 2000 (wrap64 (Int.tdiv (wrap64 (mx a1 (-1)+1)) 1440))).bind fun q=>R22.next (fun D y m d=>complineref22_on.f a0_0 a0_1 a0_2 a0_3 a0_4 a0_5 a0_6 a0_7 a0_8 a0_9 D y m d) (fun t=>complineref22_at.f a0_0 a0_1 a0_2 a0_3 a0_4 a0_5 a0_6 a0_7 a0_8 a0_9 t) (fun D y m d=>complineref22_after.f D y m d) 400000 (Int.tmod (wrap64 (mx a1 (-1)+1)) 1440) q.1 q.2.1 q.2.2.1 q.2.2.2
set_option maxHeartbeats 8000000 in
set_option maxRecDepth 100000 in
theorem complineref22_Next.calls (a0_0:Int)(a0_1:Bool)(a0_2:Int)(a0_3:Bool)(a0_4:Int)(a0_5:Bool)(a0_6:Int)(a0_7:Bool)(a0_8:Int)(a0_9:Bool)(a1:Int)(r1:Int)(r2:Int)(w:World)(h:complineref22_Next.f a0_0 a0_1 a0_2 a0_3 a0_4 a0_5 a0_6 a0_7 a0_8 a0_9 a1=some (r1,r2)) :
  Calls Tryd.prog 24 #[.agg #[.int .u64 a0_0,.bool a0_1,.int .u64 a0_2,.bool a0_3,.int .u64 a0_4,.bool a0_5,.int .u64 a0_6,.bool a0_7,.int .u64 a0_8,.bool a0_9],.int .i64 a1] w fun e w'=>e=.returned (.tuple #[.int .i64 r1,.int .i64 r2])∧Below w.heap.size w w':=by
 have hh:((complineref22_odd.f 2000 a0_0 a0_1 a0_2 a0_3 a0_4 a0_5 a0_6 a0_7 a0_8 a0_9).bind fun o=>if o=true then some ((0:Int),(2:Int)) else if 541727999≤a1 then some (0,11) else (complineref22_day.f 2000 (wrap64 (Int.tdiv (wrap64 (mx a1 (-1)+1)) 1440))).bind fun q=>R22.next (fun D y m d=>complineref22_on.f a0_0 a0_1 a0_2 a0_3 a0_4 a0_5 a0_6 a0_7 a0_8 a0_9 D y m d) (fun t=>complineref22_at.f a0_0 a0_1 a0_2 a0_3 a0_4 a0_5 a0_6 a0_7 a0_8 a0_9 t) (fun D y m d=>complineref22_after.f D y m d) 400000 (Int.tmod (wrap64 (mx a1 (-1)+1)) 1440) q.1 q.2.1 q.2.2.1 q.2.2.2)=some (r1,r2):=h
 clear h
 obtain ⟨o,A,hm⟩ :=Option.bind_eq_some_iff.1 hh
 cases o with
 | true=>
  rw [if_pos rfl] at hm
  obtain ⟨rfl,rfl⟩ :=Prod.mk.inj (Option.some.inj hm)
  exact R22.Next_odd a0_0 a0_1 a0_2 a0_3 a0_4 a0_5 a0_6 a0_7 a0_8 a0_9 a1 A w
 | false=>
  rw [if_neg (by decide)] at hm
  by_cases hl:541727999≤a1
  ·rw [if_pos hl] at hm
   obtain ⟨rfl,rfl⟩ :=Prod.mk.inj (Option.some.inj hm)
   exact R22.Next_late a0_0 a0_1 a0_2 a0_3 a0_4 a0_5 a0_6 a0_7 a0_8 a0_9 a1 A hl w
  ·rw [if_neg hl] at hm
   obtain ⟨⟨D0,y0,m0,d0⟩,hD,hN⟩ :=Option.bind_eq_some_iff.1 hm
   exact R22.Next_good a0_0 a0_1 a0_2 a0_3 a0_4 a0_5 a0_6 a0_7 a0_8 a0_9 a1 A hl _ rfl D0 y0 m0 d0 hD r1 r2 hN w
def complineref23_First.f (k:Nat)(a0_0:Int)(a0_1:Int)(a0_2:Int)(a0_3:Int)(a0_4:Bool)(a0_5:Int)(a0_6:Bool)(a0_7:Int)(a0_8:Bool)(a0_9:Int)(a0_10:Bool)(a0_11:Int)(a0_12:Bool)(a1:Int)(a2:Int):Option (Int × Int):=(complineref23_Check.f k a0_0 a0_1 a0_2 a0_3 a0_4 a0_5 a0_6 a0_7 a0_8 a0_9 a0_10 a0_11 a0_12).bind fun t201=>(if t201=0 then (if a0_0=2 then ((complineref23_Minute.f a1).bind fun bt204=>(if bt204.2=true then ((complineref22_Next.f a0_3 a0_4 a0_5 a0_6 a0_7 a0_8 a0_9 a0_10 a0_11 a0_12 bt204.1).bind fun bt206=>(if bt206.2=0 then (some (IntKind.u64.wrap ((IntKind.u64.wrap (bt206.1))*60),0)) else (some (0,bt206.2)))) else (some (0,11)))) else ((complineref01_Add.f a1 a2).bind fun bt202=>(some (bt202.1,0)))) else (some (0,t201)))
set_option maxHeartbeats 8000000 in
set_option maxRecDepth 100000 in
theorem complineref23_First.calls (k:Nat)(a0_0:Int)(a0_1:Int)(a0_2:Int)(a0_3:Int)(a0_4:Bool)(a0_5:Int)(a0_6:Bool)(a0_7:Int)(a0_8:Bool)(a0_9:Int)(a0_10:Bool)(a0_11:Int)(a0_12:Bool)(a1:Int)(a2:Int)(r1:Int)(r2:Int)(w:World)(h:complineref23_First.f k a0_0 a0_1 a0_2 a0_3 a0_4 a0_5 a0_6 a0_7 a0_8 a0_9 a0_10 a0_11 a0_12 a1 a2=some (r1,r2)) :
  Calls Tryd.prog 11 #[.agg #[.int .i64 a0_0,.int .u64 a0_1,.int .i64 a0_2,.int .u64 a0_3,.bool a0_4,.int .u64 a0_5,.bool a0_6,.int .u64 a0_7,.bool a0_8,.int .u64 a0_9,.bool a0_10,.int .u64 a0_11,.bool a0_12],.int .u64 a1,.int .u64 a2] w fun e w'=>e=.returned (.tuple #[.int .u64 r1,.int .i64 r2])∧Below w.heap.size w w':=by
 have hu28:=Tryd.underlying28
 have hu26:=Tryd.underlying26
 have HB:=Aside0.mk (Below.refl w.heap.size w)
 have H:((complineref23_Check.f k a0_0 a0_1 a0_2 a0_3 a0_4 a0_5 a0_6 a0_7 a0_8 a0_9 a0_10 a0_11 a0_12).bind fun t201=>(if t201=0 then (if a0_0=2 then ((complineref23_Minute.f a1).bind fun bt204=>(if bt204.2=true then ((complineref22_Next.f a0_3 a0_4 a0_5 a0_6 a0_7 a0_8 a0_9 a0_10 a0_11 a0_12 bt204.1).bind fun bt206=>(if bt206.2=0 then (some (IntKind.u64.wrap ((IntKind.u64.wrap (bt206.1))*60),0)) else (some (0,bt206.2)))) else (some (0,11)))) else ((complineref01_Add.f a1 a2).bind fun bt202=>(some (bt202.1,0)))) else (some (0,t201))))=some (r1,r2):=h
 clear h
 replace H:=Option.bind_eq_some_iff.mp H
 obtain ⟨t201,A40,H⟩ :=H
 replace H:(if t201=0 then (if a0_0=2 then ((complineref23_Minute.f a1).bind fun bt204=>(if bt204.2=true then ((complineref22_Next.f a0_3 a0_4 a0_5 a0_6 a0_7 a0_8 a0_9 a0_10 a0_11 a0_12 bt204.1).bind fun bt206=>(if bt206.2=0 then (some (IntKind.u64.wrap ((IntKind.u64.wrap (bt206.1))*60),0)) else (some (0,bt206.2)))) else (some (0,11)))) else ((complineref01_Add.f a1 a2).bind fun bt202=>(some (bt202.1,0)))) else (some (0,t201)))=some (r1,r2):=H
 have A4:=Aside0.mk A40
 clear A40
 by_cases c5:t201=0
 ·rw [if_pos c5] at H
  have c5b0:(t201 == 0)=true:=beq_iff_eq.mpr c5
  have c5b1:(t201 != 0)=false:=bne_eq_false_iff_eq.mpr c5
  clear c5
  by_cases c6:a0_0=2
  ·rw [if_pos c6] at H
   have c6b0:(a0_0 == 2)=true:=beq_iff_eq.mpr c6
   have c6b1:(a0_0 != 2)=false:=bne_eq_false_iff_eq.mpr c6
   clear c6
   replace H:=Option.bind_eq_some_iff.mp H
   obtain ⟨⟨t204,t205⟩,A70,H⟩ :=H
   replace H:(if t205=true then ((complineref22_Next.f a0_3 a0_4 a0_5 a0_6 a0_7 a0_8 a0_9 a0_10 a0_11 a0_12 t204).bind fun bt206=>(if bt206.2=0 then (some (IntKind.u64.wrap ((IntKind.u64.wrap (bt206.1))*60),0)) else (some (0,bt206.2)))) else (some (0,11)))=some (r1,r2):=H
   have A7:=Aside0.mk A70
   clear A70
   by_cases c8:t205=true
   ·subst c8
    have H1:((complineref22_Next.f a0_3 a0_4 a0_5 a0_6 a0_7 a0_8 a0_9 a0_10 a0_11 a0_12 t204).bind fun bt206=>(if bt206.2=0 then (some (IntKind.u64.wrap ((IntKind.u64.wrap (bt206.1))*60),0)) else (some (0,bt206.2))))=some (r1,r2):=by rw [if_pos rfl] at H; exact H
    clear H
    have H:=H1
    clear H1
    replace H:=Option.bind_eq_some_iff.mp H
    obtain ⟨⟨t206,t207⟩,A90,H⟩ :=H
    replace H:(if t207=0 then (some (IntKind.u64.wrap ((IntKind.u64.wrap (t206))*60),0)) else (some (0,t207)))=some (r1,r2):=H
    have A9:=Aside0.mk A90
    clear A90
    by_cases c10:t207=0
    ·rw [if_pos c10] at H
     have c10b0:(t207 == 0)=true:=beq_iff_eq.mpr c10
     have c10b1:(t207 != 0)=false:=bne_eq_false_iff_eq.mpr c10
     clear c10
     simp only [Option.some.injEq,Prod.mk.injEq] at H
     obtain ⟨rfl,rfl⟩ :=H
     go_enter Tryd.func11,Tryd.ntmps11
     go_wp2_with (first | ((with_reducible refine gate_dst (N:=3) rfl ?_); refine box_event ?hg (N:=3) ?hd (cs:=#[.int .i64 a0_0,.int .u64 a0_1,.int .i64 a0_2,.int .u64 a0_3,.bool a0_4,.int .u64 a0_5,.bool a0_6,.int .u64 a0_7,.bool a0_8,.int .u64 a0_9,.bool a0_10,.int .u64 a0_11,.bool a0_12]) (t:=28) ?hr ?_; (case hd=>rfl); (case hg=>rfl); (case hr=>first | (go_simp; done) | (go_simp; rfl)); intro gb200 hg w11 hbox hb; have n0_:=Aside0.mk (below_step (by repeat (first | (with_reducible first | exact HB.out | apply below_alloc | apply pw_below_drewN | apply below_drew1) | exact HB.out)) hb); have n1_:=Aside0.mk (hbox); have n2_:=Aside0.mk ((by rw [hg]; exact (below_size (by repeat (first | (with_reducible first | exact HB.out | apply below_alloc | apply pw_below_drewN | apply below_drew1) | exact HB.out))):w.heap.size≤gb200)); have n3_:=Aside0.mk ((by rw [hg]; exact (below_size (by repeat (first | (with_reducible first | exact HB.out | apply below_alloc | apply pw_below_drewN | apply below_drew1) | exact HB.out))):w.heap.size≤gb200)); clear HB; have HB:=n0_; have BK200:=n1_; have GW200:=n2_; have GE200:=n3_; clear n0_ n1_ n2_ n3_; clear hb hbox hg; have hcz12_0:w11.cell? ⟨gb200,0,none⟩=some (.int .i64 a0_0):=(blk_cell BK200.out 0).trans rfl; have hcz12_1:w11.cell? ⟨gb200,1,none⟩=some (.int .u64 a0_1):=(blk_cell BK200.out 1).trans rfl; have hcz12_2:w11.cell? ⟨gb200,2,none⟩=some (.int .i64 a0_2):=(blk_cell BK200.out 2).trans rfl; have hcz12_3:w11.cell? ⟨gb200,3,none⟩=some (.int .u64 a0_3):=(blk_cell BK200.out 3).trans rfl; have hcz12_4:w11.cell? ⟨gb200,4,none⟩=some (.bool a0_4):=(blk_cell BK200.out 4).trans rfl; have hcz12_5:w11.cell? ⟨gb200,5,none⟩=some (.int .u64 a0_5):=(blk_cell BK200.out 5).trans rfl; have hcz12_6:w11.cell? ⟨gb200,6,none⟩=some (.bool a0_6):=(blk_cell BK200.out 6).trans rfl; have hcz12_7:w11.cell? ⟨gb200,7,none⟩=some (.int .u64 a0_7):=(blk_cell BK200.out 7).trans rfl; have hcz12_8:w11.cell? ⟨gb200,8,none⟩=some (.bool a0_8):=(blk_cell BK200.out 8).trans rfl; have hcz12_9:w11.cell? ⟨gb200,9,none⟩=some (.int .u64 a0_9):=(blk_cell BK200.out 9).trans rfl; have hcz12_10:w11.cell? ⟨gb200,10,none⟩=some (.bool a0_10):=(blk_cell BK200.out 10).trans rfl; have hcz12_11:w11.cell? ⟨gb200,11,none⟩=some (.int .u64 a0_11):=(blk_cell BK200.out 11).trans rfl; have hcz12_12:w11.cell? ⟨gb200,12,none⟩=some (.bool a0_12):=(blk_cell BK200.out 12).trans rfl; have hfz12_0:=blk_frozen BK200.out 0; have hfz12_1:=blk_frozen BK200.out 1; have hfz12_2:=blk_frozen BK200.out 2; have hfz12_3:=blk_frozen BK200.out 3; have hfz12_4:=blk_frozen BK200.out 4; have hfz12_5:=blk_frozen BK200.out 5; have hfz12_6:=blk_frozen BK200.out 6; have hfz12_7:=blk_frozen BK200.out 7; have hfz12_8:=blk_frozen BK200.out 8; have hfz12_9:=blk_frozen BK200.out 9; have hfz12_10:=blk_frozen BK200.out 10; have hfz12_11:=blk_frozen BK200.out 11; have hfz12_12:=blk_frozen BK200.out 12) | ((with_reducible refine gate_callee (f:=15) rfl ?_); refine goesL_ (some 16) rfl rfl Tryd.func15 (by kernel_rfl) rfl #[.agg #[.int .i64 a0_0,.int .u64 a0_1,.int .i64 a0_2,.int .u64 a0_3,.bool a0_4,.int .u64 a0_5,.bool a0_6,.int .u64 a0_7,.bool a0_8,.int .u64 a0_9,.bool a0_10,.int .u64 a0_11,.bool a0_12]] rfl (by (try simp only [List.map_toArray,List.map_cons,List.map_nil]); first | done | rfl | (simp only [List.length_drop,List.length_take]; rfl)) ?_; (with_reducible refine (complineref23_Check.calls k a0_0 a0_1 a0_2 a0_3 a0_4 a0_5 a0_6 a0_7 a0_8 a0_9 a0_10 a0_11 a0_12 t201 _ A4.out).mono ?_); rintro e w13 ⟨rfl,hb⟩; refine ⟨_,rfl,?_⟩; have n0_:=Aside0.mk (blk_below (g:=gb200) (o:=.cells #[.int .i64 a0_0,.int .u64 a0_1,.int .i64 a0_2,.int .u64 a0_3,.bool a0_4,.int .u64 a0_5,.bool a0_6,.int .u64 a0_7,.bool a0_8,.int .u64 a0_9,.bool a0_10,.int .u64 a0_11,.bool a0_12] 28 (0,0)) (by (with_reducible repeat (first | refine blk_drewN ?_ _ | refine blk_drew ?_ | refine blk_alloc ?_ _)); exact BK200.out) hb); have n1_:=Aside0.mk (below_step (by repeat (first | (with_reducible first | exact HB.out | apply below_alloc | apply pw_below_drewN | apply below_drew1 | refine below_set ?_ GE200.out) | exact HB.out)) hb); clear BK200; clear HB; have BK200:=n0_; have HB:=n1_; clear n0_ n1_; (try clear hb); (try clear hb2); (try clear hk); (try clear hi); have hcz14_0:w13.cell? ⟨gb200,0,none⟩=some (.int .i64 a0_0):=(blk_cell BK200.out 0).trans rfl; have hcz14_1:w13.cell? ⟨gb200,1,none⟩=some (.int .u64 a0_1):=(blk_cell BK200.out 1).trans rfl; have hcz14_2:w13.cell? ⟨gb200,2,none⟩=some (.int .i64 a0_2):=(blk_cell BK200.out 2).trans rfl; have hcz14_3:w13.cell? ⟨gb200,3,none⟩=some (.int .u64 a0_3):=(blk_cell BK200.out 3).trans rfl; have hcz14_4:w13.cell? ⟨gb200,4,none⟩=some (.bool a0_4):=(blk_cell BK200.out 4).trans rfl; have hcz14_5:w13.cell? ⟨gb200,5,none⟩=some (.int .u64 a0_5):=(blk_cell BK200.out 5).trans rfl; have hcz14_6:w13.cell? ⟨gb200,6,none⟩=some (.bool a0_6):=(blk_cell BK200.out 6).trans rfl; have hcz14_7:w13.cell? ⟨gb200,7,none⟩=some (.int .u64 a0_7):=(blk_cell BK200.out 7).trans rfl; have hcz14_8:w13.cell? ⟨gb200,8,none⟩=some (.bool a0_8):=(blk_cell BK200.out 8).trans rfl; have hcz14_9:w13.cell? ⟨gb200,9,none⟩=some (.int .u64 a0_9):=(blk_cell BK200.out 9).trans rfl; have hcz14_10:w13.cell? ⟨gb200,10,none⟩=some (.bool a0_10):=(blk_cell BK200.out 10).trans rfl; have hcz14_11:w13.cell? ⟨gb200,11,none⟩=some (.int .u64 a0_11):=(blk_cell BK200.out 11).trans rfl; have hcz14_12:w13.cell? ⟨gb200,12,none⟩=some (.bool a0_12):=(blk_cell BK200.out 12).trans rfl; have hfz14_0:=blk_frozen BK200.out 0; have hfz14_1:=blk_frozen BK200.out 1; have hfz14_2:=blk_frozen BK200.out 2; have hfz14_3:=blk_frozen BK200.out 3; have hfz14_4:=blk_frozen BK200.out 4; have hfz14_5:=blk_frozen BK200.out 5; have hfz14_6:=blk_frozen BK200.out 6; have hfz14_7:=blk_frozen BK200.out 7; have hfz14_8:=blk_frozen BK200.out 8; have hfz14_9:=blk_frozen BK200.out 9; have hfz14_10:=blk_frozen BK200.out 10; have hfz14_11:=blk_frozen BK200.out 11; have hfz14_12:=blk_frozen BK200.out 12) | ((with_reducible refine gate_callee (f:=13) rfl ?_); refine goesL_ (some 32) rfl rfl Tryd.func13 (by kernel_rfl) rfl #[.int .u64 a1] rfl (by (try simp only [List.map_toArray,List.map_cons,List.map_nil]); first | done | rfl | (simp only [List.length_drop,List.length_take]; rfl)) ?_; (with_reducible refine (complineref23_Minute.calls a1 t204 true _ A7.out).mono ?_); rintro e w' ⟨rfl,⟨nd,rfl⟩⟩; refine ⟨_,rfl,?_⟩) | ((with_reducible refine gate_callee (f:=24) rfl ?_); refine goesL_ (some 41) rfl rfl Tryd.func24 (by kernel_rfl) rfl #[.agg #[.int .u64 a0_3,.bool a0_4,.int .u64 a0_5,.bool a0_6,.int .u64 a0_7,.bool a0_8,.int .u64 a0_9,.bool a0_10,.int .u64 a0_11,.bool a0_12],.int .i64 t204] rfl (by (try simp only [List.map_toArray,List.map_cons,List.map_nil]); first | done | rfl | (simp only [List.length_drop,List.length_take]; rfl)) ?_; (with_reducible refine (complineref22_Next.calls a0_3 a0_4 a0_5 a0_6 a0_7 a0_8 a0_9 a0_10 a0_11 a0_12 t204 t206 t207 _ A9.out).mono ?_); rintro e w15 ⟨rfl,hb⟩; refine ⟨_,rfl,?_⟩; have n0_:=Aside0.mk (blk_below (g:=gb200) (o:=.cells #[.int .i64 a0_0,.int .u64 a0_1,.int .i64 a0_2,.int .u64 a0_3,.bool a0_4,.int .u64 a0_5,.bool a0_6,.int .u64 a0_7,.bool a0_8,.int .u64 a0_9,.bool a0_10,.int .u64 a0_11,.bool a0_12] 28 (0,0)) (by (with_reducible repeat (first | refine blk_drewN ?_ _ | refine blk_drew ?_ | refine blk_alloc ?_ _)); exact BK200.out) hb); have n1_:=Aside0.mk (below_step (by repeat (first | (with_reducible first | exact HB.out | apply below_alloc | apply pw_below_drewN | apply below_drew1 | refine below_set ?_ GE200.out) | exact HB.out)) hb); clear BK200; clear HB; have BK200:=n0_; have HB:=n1_; clear n0_ n1_; (try clear hb); (try clear hb2); (try clear hk); (try clear hi)))
     go_ret2
     exact ⟨by first | rfl | (simp [errW_none,errW_some] <;> rfl) | (simp [*,errW_none,errW_some] <;> rfl),by repeat (first | (with_reducible first | exact HB.out | apply below_alloc | apply pw_below_drewN | apply below_drew1 | refine below_set ?_ GE200.out) | exact HB.out)⟩
    ·rw [if_neg c10] at H
     have c10b0:(t207 == 0)=false:=beq_eq_false_iff_ne.mpr c10
     have c10b1:(t207 != 0)=true:=bne_iff_ne.mpr c10
     simp only [Option.some.injEq,Prod.mk.injEq] at H
     obtain ⟨rfl,rfl⟩ :=H
     go_enter Tryd.func11,Tryd.ntmps11
     go_wp2_with (first | ((with_reducible refine gate_dst (N:=3) rfl ?_); refine box_event ?hg (N:=3) ?hd (cs:=#[.int .i64 a0_0,.int .u64 a0_1,.int .i64 a0_2,.int .u64 a0_3,.bool a0_4,.int .u64 a0_5,.bool a0_6,.int .u64 a0_7,.bool a0_8,.int .u64 a0_9,.bool a0_10,.int .u64 a0_11,.bool a0_12]) (t:=28) ?hr ?_; (case hd=>rfl); (case hg=>rfl); (case hr=>first | (go_simp; done) | (go_simp; rfl)); intro gb200 hg w16 hbox hb; have n0_:=Aside0.mk (below_step (by repeat (first | (with_reducible first | exact HB.out | apply below_alloc | apply pw_below_drewN | apply below_drew1) | exact HB.out)) hb); have n1_:=Aside0.mk (hbox); have n2_:=Aside0.mk ((by rw [hg]; exact (below_size (by repeat (first | (with_reducible first | exact HB.out | apply below_alloc | apply pw_below_drewN | apply below_drew1) | exact HB.out))):w.heap.size≤gb200)); have n3_:=Aside0.mk ((by rw [hg]; exact (below_size (by repeat (first | (with_reducible first | exact HB.out | apply below_alloc | apply pw_below_drewN | apply below_drew1) | exact HB.out))):w.heap.size≤gb200)); clear HB; have HB:=n0_; have BK200:=n1_; have GW200:=n2_; have GE200:=n3_; clear n0_ n1_ n2_ n3_; clear hb hbox hg; have hcz17_0:w16.cell? ⟨gb200,0,none⟩=some (.int .i64 a0_0):=(blk_cell BK200.out 0).trans rfl; have hcz17_1:w16.cell? ⟨gb200,1,none⟩=some (.int .u64 a0_1):=(blk_cell BK200.out 1).trans rfl; have hcz17_2:w16.cell? ⟨gb200,2,none⟩=some (.int .i64 a0_2):=(blk_cell BK200.out 2).trans rfl; have hcz17_3:w16.cell? ⟨gb200,3,none⟩=some (.int .u64 a0_3):=(blk_cell BK200.out 3).trans rfl; have hcz17_4:w16.cell? ⟨gb200,4,none⟩=some (.bool a0_4):=(blk_cell BK200.out 4).trans rfl; have hcz17_5:w16.cell? ⟨gb200,5,none⟩=some (.int .u64 a0_5):=(blk_cell BK200.out 5).trans rfl; have hcz17_6:w16.cell? ⟨gb200,6,none⟩=some (.bool a0_6):=(blk_cell BK200.out 6).trans rfl; have hcz17_7:w16.cell? ⟨gb200,7,none⟩=some (.int .u64 a0_7):=(blk_cell BK200.out 7).trans rfl; have hcz17_8:w16.cell? ⟨gb200,8,none⟩=some (.bool a0_8):=(blk_cell BK200.out 8).trans rfl; have hcz17_9:w16.cell? ⟨gb200,9,none⟩=some (.int .u64 a0_9):=(blk_cell BK200.out 9).trans rfl; have hcz17_10:w16.cell? ⟨gb200,10,none⟩=some (.bool a0_10):=(blk_cell BK200.out 10).trans rfl; have hcz17_11:w16.cell? ⟨gb200,11,none⟩=some (.int .u64 a0_11):=(blk_cell BK200.out 11).trans rfl; have hcz17_12:w16.cell? ⟨gb200,12,none⟩=some (.bool a0_12):=(blk_cell BK200.out 12).trans rfl; have hfz17_0:=blk_frozen BK200.out 0; have hfz17_1:=blk_frozen BK200.out 1; have hfz17_2:=blk_frozen BK200.out 2; have hfz17_3:=blk_frozen BK200.out 3; have hfz17_4:=blk_frozen BK200.out 4; have hfz17_5:=blk_frozen BK200.out 5; have hfz17_6:=blk_frozen BK200.out 6; have hfz17_7:=blk_frozen BK200.out 7; have hfz17_8:=blk_frozen BK200.out 8; have hfz17_9:=blk_frozen BK200.out 9; have hfz17_10:=blk_frozen BK200.out 10; have hfz17_11:=blk_frozen BK200.out 11; have hfz17_12:=blk_frozen BK200.out 12) | ((with_reducible refine gate_callee (f:=15) rfl ?_); refine goesL_ (some 16) rfl rfl Tryd.func15 (by kernel_rfl) rfl #[.agg #[.int .i64 a0_0,.int .u64 a0_1,.int .i64 a0_2,.int .u64 a0_3,.bool a0_4,.int .u64 a0_5,.bool a0_6,.int .u64 a0_7,.bool a0_8,.int .u64 a0_9,.bool a0_10,.int .u64 a0_11,.bool a0_12]] rfl (by (try simp only [List.map_toArray,List.map_cons,List.map_nil]); first | done | rfl | (simp only [List.length_drop,List.length_take]; rfl)) ?_; (with_reducible refine (complineref23_Check.calls k a0_0 a0_1 a0_2 a0_3 a0_4 a0_5 a0_6 a0_7 a0_8 a0_9 a0_10 a0_11 a0_12 t201 _ A4.out).mono ?_); rintro e w18 ⟨rfl,hb⟩; refine ⟨_,rfl,?_⟩; have n0_:=Aside0.mk (blk_below (g:=gb200) (o:=.cells #[.int .i64 a0_0,.int .u64 a0_1,.int .i64 a0_2,.int .u64 a0_3,.bool a0_4,.int .u64 a0_5,.bool a0_6,.int .u64 a0_7,.bool a0_8,.int .u64 a0_9,.bool a0_10,.int .u64 a0_11,.bool a0_12] 28 (0,0)) (by (with_reducible repeat (first | refine blk_drewN ?_ _ | refine blk_drew ?_ | refine blk_alloc ?_ _)); exact BK200.out) hb); have n1_:=Aside0.mk (below_step (by repeat (first | (with_reducible first | exact HB.out | apply below_alloc | apply pw_below_drewN | apply below_drew1 | refine below_set ?_ GE200.out) | exact HB.out)) hb); clear BK200; clear HB; have BK200:=n0_; have HB:=n1_; clear n0_ n1_; (try clear hb); (try clear hb2); (try clear hk); (try clear hi); have hcz19_0:w18.cell? ⟨gb200,0,none⟩=some (.int .i64 a0_0):=(blk_cell BK200.out 0).trans rfl; have hcz19_1:w18.cell? ⟨gb200,1,none⟩=some (.int .u64 a0_1):=(blk_cell BK200.out 1).trans rfl; have hcz19_2:w18.cell? ⟨gb200,2,none⟩=some (.int .i64 a0_2):=(blk_cell BK200.out 2).trans rfl; have hcz19_3:w18.cell? ⟨gb200,3,none⟩=some (.int .u64 a0_3):=(blk_cell BK200.out 3).trans rfl; have hcz19_4:w18.cell? ⟨gb200,4,none⟩=some (.bool a0_4):=(blk_cell BK200.out 4).trans rfl; have hcz19_5:w18.cell? ⟨gb200,5,none⟩=some (.int .u64 a0_5):=(blk_cell BK200.out 5).trans rfl; have hcz19_6:w18.cell? ⟨gb200,6,none⟩=some (.bool a0_6):=(blk_cell BK200.out 6).trans rfl; have hcz19_7:w18.cell? ⟨gb200,7,none⟩=some (.int .u64 a0_7):=(blk_cell BK200.out 7).trans rfl; have hcz19_8:w18.cell? ⟨gb200,8,none⟩=some (.bool a0_8):=(blk_cell BK200.out 8).trans rfl; have hcz19_9:w18.cell? ⟨gb200,9,none⟩=some (.int .u64 a0_9):=(blk_cell BK200.out 9).trans rfl; have hcz19_10:w18.cell? ⟨gb200,10,none⟩=some (.bool a0_10):=(blk_cell BK200.out 10).trans rfl; have hcz19_11:w18.cell? ⟨gb200,11,none⟩=some (.int .u64 a0_11):=(blk_cell BK200.out 11).trans rfl; have hcz19_12:w18.cell? ⟨gb200,12,none⟩=some (.bool a0_12):=(blk_cell BK200.out 12).trans rfl; have hfz19_0:=blk_frozen BK200.out 0; have hfz19_1:=blk_frozen BK200.out 1; have hfz19_2:=blk_frozen BK200.out 2; have hfz19_3:=blk_frozen BK200.out 3; have hfz19_4:=blk_frozen BK200.out 4; have hfz19_5:=blk_frozen BK200.out 5; have hfz19_6:=blk_frozen BK200.out 6; have hfz19_7:=blk_frozen BK200.out 7; have hfz19_8:=blk_frozen BK200.out 8; have hfz19_9:=blk_frozen BK200.out 9; have hfz19_10:=blk_frozen BK200.out 10; have hfz19_11:=blk_frozen BK200.out 11; have hfz19_12:=blk_frozen BK200.out 12) | ((with_reducible refine gate_callee (f:=13) rfl ?_); refine goesL_ (some 32) rfl rfl Tryd.func13 (by kernel_rfl) rfl #[.int .u64 a1] rfl (by (try simp only [List.map_toArray,List.map_cons,List.map_nil]); first | done | rfl | (simp only [List.length_drop,List.length_take]; rfl)) ?_; (with_reducible refine (complineref23_Minute.calls a1 t204 true _ A7.out).mono ?_); rintro e w' ⟨rfl,⟨nd,rfl⟩⟩; refine ⟨_,rfl,?_⟩) | ((with_reducible refine gate_callee (f:=24) rfl ?_); refine goesL_ (some 41) rfl rfl Tryd.func24 (by kernel_rfl) rfl #[.agg #[.int .u64 a0_3,.bool a0_4,.int .u64 a0_5,.bool a0_6,.int .u64 a0_7,.bool a0_8,.int .u64 a0_9,.bool a0_10,.int .u64 a0_11,.bool a0_12],.int .i64 t204] rfl (by (try simp only [List.map_toArray,List.map_cons,List.map_nil]); first | done | rfl | (simp only [List.length_drop,List.length_take]; rfl)) ?_; (with_reducible refine (complineref22_Next.calls a0_3 a0_4 a0_5 a0_6 a0_7 a0_8 a0_9 a0_10 a0_11 a0_12 t204 t206 t207 _ A9.out).mono ?_); rintro e w20 ⟨rfl,hb⟩; refine ⟨_,rfl,?_⟩; have n0_:=Aside0.mk (blk_below (g:=gb200) (o:=.cells #[.int .i64 a0_0,.int .u64 a0_1,.int .i64 a0_2,.int .u64 a0_3,.bool a0_4,.int .u64 a0_5,.bool a0_6,.int .u64 a0_7,.bool a0_8,.int .u64 a0_9,.bool a0_10,.int .u64 a0_11,.bool a0_12] 28 (0,0)) (by (with_reducible repeat (first | refine blk_drewN ?_ _ | refine blk_drew ?_ | refine blk_alloc ?_ _)); exact BK200.out) hb); have n1_:=Aside0.mk (below_step (by repeat (first | (with_reducible first | exact HB.out | apply below_alloc | apply pw_below_drewN | apply below_drew1 | refine below_set ?_ GE200.out) | exact HB.out)) hb); clear BK200; clear HB; have BK200:=n0_; have HB:=n1_; clear n0_ n1_; (try clear hb); (try clear hb2); (try clear hk); (try clear hi)))
     go_ret2
     exact ⟨by first | rfl | (simp [errW_none,errW_some] <;> rfl) | (simp [*,errW_none,errW_some] <;> rfl),by repeat (first | (with_reducible first | exact HB.out | apply below_alloc | apply pw_below_drewN | apply below_drew1 | refine below_set ?_ GE200.out) | exact HB.out)⟩
   ·replace c8:=Bool.eq_false_iff.mpr c8
    subst c8
    have H1:(some (0,11))=some (r1,r2):=by rw [if_neg (show ¬ (false=true) by decide)] at H; exact H
    clear H
    have H:=H1
    clear H1
    simp only [Option.some.injEq,Prod.mk.injEq] at H
    obtain ⟨rfl,rfl⟩ :=H
    go_enter Tryd.func11,Tryd.ntmps11
    go_wp2_with (first | ((with_reducible refine gate_dst (N:=3) rfl ?_); refine box_event ?hg (N:=3) ?hd (cs:=#[.int .i64 a0_0,.int .u64 a0_1,.int .i64 a0_2,.int .u64 a0_3,.bool a0_4,.int .u64 a0_5,.bool a0_6,.int .u64 a0_7,.bool a0_8,.int .u64 a0_9,.bool a0_10,.int .u64 a0_11,.bool a0_12]) (t:=28) ?hr ?_; (case hd=>rfl); (case hg=>rfl); (case hr=>first | (go_simp; done) | (go_simp; rfl)); intro gb200 hg w21 hbox hb; have n0_:=Aside0.mk (below_step (by repeat (first | (with_reducible first | exact HB.out | apply below_alloc | apply pw_below_drewN | apply below_drew1) | exact HB.out)) hb); have n1_:=Aside0.mk (hbox); have n2_:=Aside0.mk ((by rw [hg]; exact (below_size (by repeat (first | (with_reducible first | exact HB.out | apply below_alloc | apply pw_below_drewN | apply below_drew1) | exact HB.out))):w.heap.size≤gb200)); have n3_:=Aside0.mk ((by rw [hg]; exact (below_size (by repeat (first | (with_reducible first | exact HB.out | apply below_alloc | apply pw_below_drewN | apply below_drew1) | exact HB.out))):w.heap.size≤gb200)); clear HB; have HB:=n0_; have BK200:=n1_; have GW200:=n2_; have GE200:=n3_; clear n0_ n1_ n2_ n3_; clear hb hbox hg; have hcz22_0:w21.cell? ⟨gb200,0,none⟩=some (.int .i64 a0_0):=(blk_cell BK200.out 0).trans rfl; have hcz22_1:w21.cell? ⟨gb200,1,none⟩=some (.int .u64 a0_1):=(blk_cell BK200.out 1).trans rfl; have hcz22_2:w21.cell? ⟨gb200,2,none⟩=some (.int .i64 a0_2):=(blk_cell BK200.out 2).trans rfl; have hcz22_3:w21.cell? ⟨gb200,3,none⟩=some (.int .u64 a0_3):=(blk_cell BK200.out 3).trans rfl; have hcz22_4:w21.cell? ⟨gb200,4,none⟩=some (.bool a0_4):=(blk_cell BK200.out 4).trans rfl; have hcz22_5:w21.cell? ⟨gb200,5,none⟩=some (.int .u64 a0_5):=(blk_cell BK200.out 5).trans rfl; have hcz22_6:w21.cell? ⟨gb200,6,none⟩=some (.bool a0_6):=(blk_cell BK200.out 6).trans rfl; have hcz22_7:w21.cell? ⟨gb200,7,none⟩=some (.int .u64 a0_7):=(blk_cell BK200.out 7).trans rfl; have hcz22_8:w21.cell? ⟨gb200,8,none⟩=some (.bool a0_8):=(blk_cell BK200.out 8).trans rfl; have hcz22_9:w21.cell? ⟨gb200,9,none⟩=some (.int .u64 a0_9):=(blk_cell BK200.out 9).trans rfl; have hcz22_10:w21.cell? ⟨gb200,10,none⟩=some (.bool a0_10):=(blk_cell BK200.out 10).trans rfl; have hcz22_11:w21.cell? ⟨gb200,11,none⟩=some (.int .u64 a0_11):=(blk_cell BK200.out 11).trans rfl; have hcz22_12:w21.cell? ⟨gb200,12,none⟩=some (.bool a0_12):=(blk_cell BK200.out 12).trans rfl; have hfz22_0:=blk_frozen BK200.out 0; have hfz22_1:=blk_frozen BK200.out 1; have hfz22_2:=blk_frozen BK200.out 2; have hfz22_3:=blk_frozen BK200.out 3; have hfz22_4:=blk_frozen BK200.out 4; have hfz22_5:=blk_frozen BK200.out 5; have hfz22_6:=blk_frozen BK200.out 6; have hfz22_7:=blk_frozen BK200.out 7; have hfz22_8:=blk_frozen BK200.out 8; have hfz22_9:=blk_frozen BK200.out 9; have hfz22_10:=blk_frozen BK200.out 10; have hfz22_11:=blk_frozen BK200.out 11; have hfz22_12:=blk_frozen BK200.out 12) | ((with_reducible refine gate_callee (f:=15) rfl ?_); refine goesL_ (some 16) rfl rfl Tryd.func15 (by kernel_rfl) rfl #[.agg #[.int .i64 a0_0,.int .u64 a0_1,.int .i64 a0_2,.int .u64 a0_3,.bool a0_4,.int .u64 a0_5,.bool a0_6,.int .u64 a0_7,.bool a0_8,.int .u64 a0_9,.bool a0_10,.int .u64 a0_11,.bool a0_12]] rfl (by (try simp only [List.map_toArray,List.map_cons,List.map_nil]); first | done | rfl | (simp only [List.length_drop,List.length_take]; rfl)) ?_; (with_reducible refine (complineref23_Check.calls k a0_0 a0_1 a0_2 a0_3 a0_4 a0_5 a0_6 a0_7 a0_8 a0_9 a0_10 a0_11 a0_12 t201 _ A4.out).mono ?_); rintro e w23 ⟨rfl,hb⟩; refine ⟨_,rfl,?_⟩; have n0_:=Aside0.mk (blk_below (g:=gb200) (o:=.cells #[.int .i64 a0_0,.int .u64 a0_1,.int .i64 a0_2,.int .u64 a0_3,.bool a0_4,.int .u64 a0_5,.bool a0_6,.int .u64 a0_7,.bool a0_8,.int .u64 a0_9,.bool a0_10,.int .u64 a0_11,.bool a0_12] 28 (0,0)) (by (with_reducible repeat (first | refine blk_drewN ?_ _ | refine blk_drew ?_ | refine blk_alloc ?_ _)); exact BK200.out) hb); have n1_:=Aside0.mk (below_step (by repeat (first | (with_reducible first | exact HB.out | apply below_alloc | apply pw_below_drewN | apply below_drew1 | refine below_set ?_ GE200.out) | exact HB.out)) hb); clear BK200; clear HB; have BK200:=n0_; have HB:=n1_; clear n0_ n1_; (try clear hb); (try clear hb2); (try clear hk); (try clear hi); have hcz24_0:w23.cell? ⟨gb200,0,none⟩=some (.int .i64 a0_0):=(blk_cell BK200.out 0).trans rfl; have hcz24_1:w23.cell? ⟨gb200,1,none⟩=some (.int .u64 a0_1):=(blk_cell BK200.out 1).trans rfl; have hcz24_2:w23.cell? ⟨gb200,2,none⟩=some (.int .i64 a0_2):=(blk_cell BK200.out 2).trans rfl; have hcz24_3:w23.cell? ⟨gb200,3,none⟩=some (.int .u64 a0_3):=(blk_cell BK200.out 3).trans rfl; have hcz24_4:w23.cell? ⟨gb200,4,none⟩=some (.bool a0_4):=(blk_cell BK200.out 4).trans rfl; have hcz24_5:w23.cell? ⟨gb200,5,none⟩=some (.int .u64 a0_5):=(blk_cell BK200.out 5).trans rfl; have hcz24_6:w23.cell? ⟨gb200,6,none⟩=some (.bool a0_6):=(blk_cell BK200.out 6).trans rfl; have hcz24_7:w23.cell? ⟨gb200,7,none⟩=some (.int .u64 a0_7):=(blk_cell BK200.out 7).trans rfl; have hcz24_8:w23.cell? ⟨gb200,8,none⟩=some (.bool a0_8):=(blk_cell BK200.out 8).trans rfl; have hcz24_9:w23.cell? ⟨gb200,9,none⟩=some (.int .u64 a0_9):=(blk_cell BK200.out 9).trans rfl; have hcz24_10:w23.cell? ⟨gb200,10,none⟩=some (.bool a0_10):=(blk_cell BK200.out 10).trans rfl; have hcz24_11:w23.cell? ⟨gb200,11,none⟩=some (.int .u64 a0_11):=(blk_cell BK200.out 11).trans rfl; have hcz24_12:w23.cell? ⟨gb200,12,none⟩=some (.bool a0_12):=(blk_cell BK200.out 12).trans rfl; have hfz24_0:=blk_frozen BK200.out 0; have hfz24_1:=blk_frozen BK200.out 1; have hfz24_2:=blk_frozen BK200.out 2; have hfz24_3:=blk_frozen BK200.out 3; have hfz24_4:=blk_frozen BK200.out 4; have hfz24_5:=blk_frozen BK200.out 5; have hfz24_6:=blk_frozen BK200.out 6; have hfz24_7:=blk_frozen BK200.out 7; have hfz24_8:=blk_frozen BK200.out 8; have hfz24_9:=blk_frozen BK200.out 9; have hfz24_10:=blk_frozen BK200.out 10; have hfz24_11:=blk_frozen BK200.out 11; have hfz24_12:=blk_frozen BK200.out 12) | ((with_reducible refine gate_callee (f:=13) rfl ?_); refine goesL_ (some 32) rfl rfl Tryd.func13 (by kernel_rfl) rfl #[.int .u64 a1] rfl (by (try simp only [List.map_toArray,List.map_cons,List.map_nil]); first | done | rfl | (simp only [List.length_drop,List.length_take]; rfl)) ?_; (with_reducible refine (complineref23_Minute.calls a1 t204 false _ A7.out).mono ?_); rintro e w' ⟨rfl,⟨nd,rfl⟩⟩; refine ⟨_,rfl,?_⟩))
    go_ret2
    exact ⟨by first | rfl | (simp [errW_none,errW_some] <;> rfl) | (simp [*,errW_none,errW_some] <;> rfl),by repeat (first | (with_reducible first | exact HB.out | apply below_alloc | apply pw_below_drewN | apply below_drew1 | refine below_set ?_ GE200.out) | exact HB.out)⟩
  ·rw [if_neg c6] at H
   have c6b0:(a0_0 == 2)=false:=beq_eq_false_iff_ne.mpr c6
   have c6b1:(a0_0 != 2)=true:=bne_iff_ne.mpr c6
   replace H:=Option.bind_eq_some_iff.mp H
   obtain ⟨⟨t202,t203⟩,A250,H⟩ :=H
   replace H:(some (t202,0))=some (r1,r2):=H
   have A25:=Aside0.mk A250
   clear A250
   simp only [Option.some.injEq,Prod.mk.injEq] at H
   obtain ⟨rfl,rfl⟩ :=H
   go_enter Tryd.func11,Tryd.ntmps11
   go_wp2_with (first | ((with_reducible refine gate_dst (N:=3) rfl ?_); refine box_event ?hg (N:=3) ?hd (cs:=#[.int .i64 a0_0,.int .u64 a0_1,.int .i64 a0_2,.int .u64 a0_3,.bool a0_4,.int .u64 a0_5,.bool a0_6,.int .u64 a0_7,.bool a0_8,.int .u64 a0_9,.bool a0_10,.int .u64 a0_11,.bool a0_12]) (t:=28) ?hr ?_; (case hd=>rfl); (case hg=>rfl); (case hr=>first | (go_simp; done) | (go_simp; rfl)); intro gb200 hg w26 hbox hb; have n0_:=Aside0.mk (below_step (by repeat (first | (with_reducible first | exact HB.out | apply below_alloc | apply pw_below_drewN | apply below_drew1) | exact HB.out)) hb); have n1_:=Aside0.mk (hbox); have n2_:=Aside0.mk ((by rw [hg]; exact (below_size (by repeat (first | (with_reducible first | exact HB.out | apply below_alloc | apply pw_below_drewN | apply below_drew1) | exact HB.out))):w.heap.size≤gb200)); have n3_:=Aside0.mk ((by rw [hg]; exact (below_size (by repeat (first | (with_reducible first | exact HB.out | apply below_alloc | apply pw_below_drewN | apply below_drew1) | exact HB.out))):w.heap.size≤gb200)); clear HB; have HB:=n0_; have BK200:=n1_; have GW200:=n2_; have GE200:=n3_; clear n0_ n1_ n2_ n3_; clear hb hbox hg; have hcz27_0:w26.cell? ⟨gb200,0,none⟩=some (.int .i64 a0_0):=(blk_cell BK200.out 0).trans rfl; have hcz27_1:w26.cell? ⟨gb200,1,none⟩=some (.int .u64 a0_1):=(blk_cell BK200.out 1).trans rfl; have hcz27_2:w26.cell? ⟨gb200,2,none⟩=some (.int .i64 a0_2):=(blk_cell BK200.out 2).trans rfl; have hcz27_3:w26.cell? ⟨gb200,3,none⟩=some (.int .u64 a0_3):=(blk_cell BK200.out 3).trans rfl; have hcz27_4:w26.cell? ⟨gb200,4,none⟩=some (.bool a0_4):=(blk_cell BK200.out 4).trans rfl; have hcz27_5:w26.cell? ⟨gb200,5,none⟩=some (.int .u64 a0_5):=(blk_cell BK200.out 5).trans rfl; have hcz27_6:w26.cell? ⟨gb200,6,none⟩=some (.bool a0_6):=(blk_cell BK200.out 6).trans rfl; have hcz27_7:w26.cell? ⟨gb200,7,none⟩=some (.int .u64 a0_7):=(blk_cell BK200.out 7).trans rfl; have hcz27_8:w26.cell? ⟨gb200,8,none⟩=some (.bool a0_8):=(blk_cell BK200.out 8).trans rfl; have hcz27_9:w26.cell? ⟨gb200,9,none⟩=some (.int .u64 a0_9):=(blk_cell BK200.out 9).trans rfl; have hcz27_10:w26.cell? ⟨gb200,10,none⟩=some (.bool a0_10):=(blk_cell BK200.out 10).trans rfl; have hcz27_11:w26.cell? ⟨gb200,11,none⟩=some (.int .u64 a0_11):=(blk_cell BK200.out 11).trans rfl; have hcz27_12:w26.cell? ⟨gb200,12,none⟩=some (.bool a0_12):=(blk_cell BK200.out 12).trans rfl; have hfz27_0:=blk_frozen BK200.out 0; have hfz27_1:=blk_frozen BK200.out 1; have hfz27_2:=blk_frozen BK200.out 2; have hfz27_3:=blk_frozen BK200.out 3; have hfz27_4:=blk_frozen BK200.out 4; have hfz27_5:=blk_frozen BK200.out 5; have hfz27_6:=blk_frozen BK200.out 6; have hfz27_7:=blk_frozen BK200.out 7; have hfz27_8:=blk_frozen BK200.out 8; have hfz27_9:=blk_frozen BK200.out 9; have hfz27_10:=blk_frozen BK200.out 10; have hfz27_11:=blk_frozen BK200.out 11; have hfz27_12:=blk_frozen BK200.out 12) | ((with_reducible refine gate_callee (f:=15) rfl ?_); refine goesL_ (some 16) rfl rfl Tryd.func15 (by kernel_rfl) rfl #[.agg #[.int .i64 a0_0,.int .u64 a0_1,.int .i64 a0_2,.int .u64 a0_3,.bool a0_4,.int .u64 a0_5,.bool a0_6,.int .u64 a0_7,.bool a0_8,.int .u64 a0_9,.bool a0_10,.int .u64 a0_11,.bool a0_12]] rfl (by (try simp only [List.map_toArray,List.map_cons,List.map_nil]); first | done | rfl | (simp only [List.length_drop,List.length_take]; rfl)) ?_; (with_reducible refine (complineref23_Check.calls k a0_0 a0_1 a0_2 a0_3 a0_4 a0_5 a0_6 a0_7 a0_8 a0_9 a0_10 a0_11 a0_12 t201 _ A4.out).mono ?_); rintro e w28 ⟨rfl,hb⟩; refine ⟨_,rfl,?_⟩; have n0_:=Aside0.mk (blk_below (g:=gb200) (o:=.cells #[.int .i64 a0_0,.int .u64 a0_1,.int .i64 a0_2,.int .u64 a0_3,.bool a0_4,.int .u64 a0_5,.bool a0_6,.int .u64 a0_7,.bool a0_8,.int .u64 a0_9,.bool a0_10,.int .u64 a0_11,.bool a0_12] 28 (0,0)) (by (with_reducible repeat (first | refine blk_drewN ?_ _ | refine blk_drew ?_ | refine blk_alloc ?_ _)); exact BK200.out) hb); have n1_:=Aside0.mk (below_step (by repeat (first | (with_reducible first | exact HB.out | apply below_alloc | apply pw_below_drewN | apply below_drew1 | refine below_set ?_ GE200.out) | exact HB.out)) hb); clear BK200; clear HB; have BK200:=n0_; have HB:=n1_; clear n0_ n1_; (try clear hb); (try clear hb2); (try clear hk); (try clear hi); have hcz29_0:w28.cell? ⟨gb200,0,none⟩=some (.int .i64 a0_0):=(blk_cell BK200.out 0).trans rfl; have hcz29_1:w28.cell? ⟨gb200,1,none⟩=some (.int .u64 a0_1):=(blk_cell BK200.out 1).trans rfl; have hcz29_2:w28.cell? ⟨gb200,2,none⟩=some (.int .i64 a0_2):=(blk_cell BK200.out 2).trans rfl; have hcz29_3:w28.cell? ⟨gb200,3,none⟩=some (.int .u64 a0_3):=(blk_cell BK200.out 3).trans rfl; have hcz29_4:w28.cell? ⟨gb200,4,none⟩=some (.bool a0_4):=(blk_cell BK200.out 4).trans rfl; have hcz29_5:w28.cell? ⟨gb200,5,none⟩=some (.int .u64 a0_5):=(blk_cell BK200.out 5).trans rfl; have hcz29_6:w28.cell? ⟨gb200,6,none⟩=some (.bool a0_6):=(blk_cell BK200.out 6).trans rfl; have hcz29_7:w28.cell? ⟨gb200,7,none⟩=some (.int .u64 a0_7):=(blk_cell BK200.out 7).trans rfl; have hcz29_8:w28.cell? ⟨gb200,8,none⟩=some (.bool a0_8):=(blk_cell BK200.out 8).trans rfl; have hcz29_9:w28.cell? ⟨gb200,9,none⟩=some (.int .u64 a0_9):=(blk_cell BK200.out 9).trans rfl; have hcz29_10:w28.cell? ⟨gb200,10,none⟩=some (.bool a0_10):=(blk_cell BK200.out 10).trans rfl; have hcz29_11:w28.cell? ⟨gb200,11,none⟩=some (.int .u64 a0_11):=(blk_cell BK200.out 11).trans rfl; have hcz29_12:w28.cell? ⟨gb200,12,none⟩=some (.bool a0_12):=(blk_cell BK200.out 12).trans rfl; have hfz29_0:=blk_frozen BK200.out 0; have hfz29_1:=blk_frozen BK200.out 1; have hfz29_2:=blk_frozen BK200.out 2; have hfz29_3:=blk_frozen BK200.out 3; have hfz29_4:=blk_frozen BK200.out 4; have hfz29_5:=blk_frozen BK200.out 5; have hfz29_6:=blk_frozen BK200.out 6; have hfz29_7:=blk_frozen BK200.out 7; have hfz29_8:=blk_frozen BK200.out 8; have hfz29_9:=blk_frozen BK200.out 9; have hfz29_10:=blk_frozen BK200.out 10; have hfz29_11:=blk_frozen BK200.out 11; have hfz29_12:=blk_frozen BK200.out 12) | ((with_reducible refine gate_callee (f:=23) rfl ?_); refine goesL_ (some 26) rfl rfl Tryd.func23 (by kernel_rfl) rfl #[.int .u64 a1,.int .u64 a2] rfl (by (try simp only [List.map_toArray,List.map_cons,List.map_nil]); first | done | rfl | (simp only [List.length_drop,List.length_take]; rfl)) ?_; (with_reducible refine (complineref01_Add.calls a1 a2 t202 t203 _ A25.out).mono ?_); rintro e w' ⟨rfl,⟨nd,rfl⟩⟩; refine ⟨_,rfl,?_⟩))
   go_ret2
   exact ⟨by first | rfl | (simp [errW_none,errW_some] <;> rfl) | (simp [*,errW_none,errW_some] <;> rfl),by repeat (first | (with_reducible first | exact HB.out | apply below_alloc | apply pw_below_drewN | apply below_drew1 | refine below_set ?_ GE200.out) | exact HB.out)⟩
 ·rw [if_neg c5] at H
  have c5b0:(t201 == 0)=false:=beq_eq_false_iff_ne.mpr c5
  have c5b1:(t201 != 0)=true:=bne_iff_ne.mpr c5
  simp only [Option.some.injEq,Prod.mk.injEq] at H
  obtain ⟨rfl,rfl⟩ :=H
  go_enter Tryd.func11,Tryd.ntmps11
  go_wp2_with (first | ((with_reducible refine gate_dst (N:=3) rfl ?_); refine box_event ?hg (N:=3) ?hd (cs:=#[.int .i64 a0_0,.int .u64 a0_1,.int .i64 a0_2,.int .u64 a0_3,.bool a0_4,.int .u64 a0_5,.bool a0_6,.int .u64 a0_7,.bool a0_8,.int .u64 a0_9,.bool a0_10,.int .u64 a0_11,.bool a0_12]) (t:=28) ?hr ?_; (case hd=>rfl); (case hg=>rfl); (case hr=>first | (go_simp; done) | (go_simp; rfl)); intro gb200 hg w30 hbox hb; have n0_:=Aside0.mk (below_step (by repeat (first | (with_reducible first | exact HB.out | apply below_alloc | apply pw_below_drewN | apply below_drew1) | exact HB.out)) hb); have n1_:=Aside0.mk (hbox); have n2_:=Aside0.mk ((by rw [hg]; exact (below_size (by repeat (first | (with_reducible first | exact HB.out | apply below_alloc | apply pw_below_drewN | apply below_drew1) | exact HB.out))):w.heap.size≤gb200)); have n3_:=Aside0.mk ((by rw [hg]; exact (below_size (by repeat (first | (with_reducible first | exact HB.out | apply below_alloc | apply pw_below_drewN | apply below_drew1) | exact HB.out))):w.heap.size≤gb200)); clear HB; have HB:=n0_; have BK200:=n1_; have GW200:=n2_; have GE200:=n3_; clear n0_ n1_ n2_ n3_; clear hb hbox hg; have hcz31_0:w30.cell? ⟨gb200,0,none⟩=some (.int .i64 a0_0):=(blk_cell BK200.out 0).trans rfl; have hcz31_1:w30.cell? ⟨gb200,1,none⟩=some (.int .u64 a0_1):=(blk_cell BK200.out 1).trans rfl; have hcz31_2:w30.cell? ⟨gb200,2,none⟩=some (.int .i64 a0_2):=(blk_cell BK200.out 2).trans rfl; have hcz31_3:w30.cell? ⟨gb200,3,none⟩=some (.int .u64 a0_3):=(blk_cell BK200.out 3).trans rfl; have hcz31_4:w30.cell? ⟨gb200,4,none⟩=some (.bool a0_4):=(blk_cell BK200.out 4).trans rfl; have hcz31_5:w30.cell? ⟨gb200,5,none⟩=some (.int .u64 a0_5):=(blk_cell BK200.out 5).trans rfl; have hcz31_6:w30.cell? ⟨gb200,6,none⟩=some (.bool a0_6):=(blk_cell BK200.out 6).trans rfl; have hcz31_7:w30.cell? ⟨gb200,7,none⟩=some (.int .u64 a0_7):=(blk_cell BK200.out 7).trans rfl; have hcz31_8:w30.cell? ⟨gb200,8,none⟩=some (.bool a0_8):=(blk_cell BK200.out 8).trans rfl; have hcz31_9:w30.cell? ⟨gb200,9,none⟩=some (.int .u64 a0_9):=(blk_cell BK200.out 9).trans rfl; have hcz31_10:w30.cell? ⟨gb200,10,none⟩=some (.bool a0_10):=(blk_cell BK200.out 10).trans rfl; have hcz31_11:w30.cell? ⟨gb200,11,none⟩=some (.int .u64 a0_11):=(blk_cell BK200.out 11).trans rfl; have hcz31_12:w30.cell? ⟨gb200,12,none⟩=some (.bool a0_12):=(blk_cell BK200.out 12).trans rfl; have hfz31_0:=blk_frozen BK200.out 0; have hfz31_1:=blk_frozen BK200.out 1; have hfz31_2:=blk_frozen BK200.out 2; have hfz31_3:=blk_frozen BK200.out 3; have hfz31_4:=blk_frozen BK200.out 4; have hfz31_5:=blk_frozen BK200.out 5; have hfz31_6:=blk_frozen BK200.out 6; have hfz31_7:=blk_frozen BK200.out 7; have hfz31_8:=blk_frozen BK200.out 8; have hfz31_9:=blk_frozen BK200.out 9; have hfz31_10:=blk_frozen BK200.out 10; have hfz31_11:=blk_frozen BK200.out 11; have hfz31_12:=blk_frozen BK200.out 12) | ((with_reducible refine gate_callee (f:=15) rfl ?_); refine goesL_ (some 16) rfl rfl Tryd.func15 (by kernel_rfl) rfl #[.agg #[.int .i64 a0_0,.int .u64 a0_1,.int .i64 a0_2,.int .u64 a0_3,.bool a0_4,.int .u64 a0_5,.bool a0_6,.int .u64 a0_7,.bool a0_8,.int .u64 a0_9,.bool a0_10,.int .u64 a0_11,.bool a0_12]] rfl (by (try simp only [List.map_toArray,List.map_cons,List.map_nil]); first | done | rfl | (simp only [List.length_drop,List.length_take]; rfl)) ?_; (with_reducible refine (complineref23_Check.calls k a0_0 a0_1 a0_2 a0_3 a0_4 a0_5 a0_6 a0_7 a0_8 a0_9 a0_10 a0_11 a0_12 t201 _ A4.out).mono ?_); rintro e w32 ⟨rfl,hb⟩; refine ⟨_,rfl,?_⟩; have n0_:=Aside0.mk (blk_below (g:=gb200) (o:=.cells #[.int .i64 a0_0,.int .u64 a0_1,.int .i64 a0_2,.int .u64 a0_3,.bool a0_4,.int .u64 a0_5,.bool a0_6,.int .u64 a0_7,.bool a0_8,.int .u64 a0_9,.bool a0_10,.int .u64 a0_11,.bool a0_12] 28 (0,0)) (by (with_reducible repeat (first | refine blk_drewN ?_ _ | refine blk_drew ?_ | refine blk_alloc ?_ _)); exact BK200.out) hb); have n1_:=Aside0.mk (below_step (by repeat (first | (with_reducible first | exact HB.out | apply below_alloc | apply pw_below_drewN | apply below_drew1 | refine below_set ?_ GE200.out) | exact HB.out)) hb); clear BK200; clear HB; have BK200:=n0_; have HB:=n1_; clear n0_ n1_; (try clear hb); (try clear hb2); (try clear hk); (try clear hi)))
  go_ret2
  exact ⟨by first | rfl | (simp [errW_none,errW_some] <;> rfl) | (simp [*,errW_none,errW_some] <;> rfl),by repeat (first | (with_reducible first | exact HB.out | apply below_alloc | apply pw_below_drewN | apply below_drew1 | refine below_set ?_ GE200.out) | exact HB.out)⟩
end Go.Proofs.YtepflnfnkfkldaaDoor.PRea
