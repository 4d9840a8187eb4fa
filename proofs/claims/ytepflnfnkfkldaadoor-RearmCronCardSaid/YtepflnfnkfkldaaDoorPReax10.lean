-- Written by a program of this session (gprint.py) over the kit's print.
import Derived.Test.YtepflnfnkfkldaaDoorPReax0
import Derived.Test.YtepflnfnkfkldaaDoorPReax3
import Derived.Test.YtepflnfnkfkldaaDoorPReax4
import Derived.Test.YtepflnfnkfkldaaDoorPReax5
import Derived.Test.YtepflnfnkfkldaaDoorPReax8
import Derived.Test.YtepflnfnkfkldaaDoorPReax9
namespace Go.Proofs.YtepflnfnkfkldaaDoor.PRea
open Go.RowKit Go.Proofs.YtepflnfnkfkldaaDoorW.PrintWords Go.Proofs.YtepflnfnkfkldaaDoorW.PrintLast Go.Proofs.YtepflnfnkfkldaaDoorW.PrintMore
attribute [local go_sem] max2_int min2_int max_two min_two max_three min_three max_four min_four
set_option linter.unusedVariables false
set_option linter.unusedSimpArgs false
/-! This session's own: a plan's cells; the map of functions that rearm goes by. -/
section
open Go.Maps
def Rea.Row (w:World)(g:Nat)(k p l:Int)(b0:Int)(s0:Bool)(b1:Int)(s1:Bool)(b2:Int)(s2:Bool)(b3:Int)(s3:Bool)(b4:Int)(s4:Bool):Prop:=w.heap[g]?=some (.cells #[.int .i64 k,.int .u64 p,.int .i64 l,.int .u64 b0,.bool s0,.int .u64 b1,.bool s1,.int .u64 b2,.bool s2,.int .u64 b3,.bool s3,.int .u64 b4,.bool s4] 28 (0,0))
theorem Rea.Row.cells {w:World}{g:Nat}{k p l:Int}{b0:Int}{s0:Bool}{b1:Int}{s1:Bool}{b2:Int}{s2:Bool}{b3:Int}{s3:Bool}{b4:Int}{s4:Bool}(h:Rea.Row w g k p l b0 s0 b1 s1 b2 s2 b3 s3 b4 s4):w.cell? ⟨g,0,none⟩=some (.int .i64 k)∧w.cell? ⟨g,1,none⟩=some (.int .u64 p)∧w.cell? ⟨g,2,none⟩=some (.int .i64 l)∧w.cell? ⟨g,3,none⟩=some (.int .u64 b0)∧w.cell? ⟨g,4,none⟩=some (.bool s0)∧w.cell? ⟨g,5,none⟩=some (.int .u64 b1)∧w.cell? ⟨g,6,none⟩=some (.bool s1)∧w.cell? ⟨g,7,none⟩=some (.int .u64 b2)∧w.cell? ⟨g,8,none⟩=some (.bool s2)∧w.cell? ⟨g,9,none⟩=some (.int .u64 b3)∧w.cell? ⟨g,10,none⟩=some (.bool s3)∧w.cell? ⟨g,11,none⟩=some (.int .u64 b4)∧w.cell? ⟨g,12,none⟩=some (.bool s4):=⟨(blk_cell h 0).trans rfl,(blk_cell h 1).trans rfl,(blk_cell h 2).trans rfl,(blk_cell h 3).trans rfl,(blk_cell h 4).trans rfl,(blk_cell h 5).trans rfl,(blk_cell h 6).trans rfl,(blk_cell h 7).trans rfl,(blk_cell h 8).trans rfl,(blk_cell h 9).trans rfl,(blk_cell h 10).trans rfl,(blk_cell h 11).trans rfl,(blk_cell h 12).trans rfl⟩
/-- How a function reads in such a map: by its number. -/
def Rea.R (v:Value):Option (DataW Unit × List MemPlace):=
 match v with
 | .func (.func n) x y=>if x.size=0∧y.size=0 then some (.lit (.int .i64 (n:Int)),[]) else none
 | .nilFunc=>some (.nil,[])
 | _=>none
theorem Rea.R_fn (n:Nat):Rea.R (.func (.func n) #[] #[])=some (.lit (.int .i64 (n:Int)),[]):=rfl
theorem Rea.R_inv {v:Value}{n:Nat}{ps:List MemPlace}(h:Rea.R v=some (.lit (.int .i64 (n:Int)),ps)):v=.func (.func n) #[] #[]:=by
 unfold Rea.R at h
 split at h
 ·rename_i m x y
  split at h
  ·rename_i hc
   obtain ⟨h1,h2⟩ :=hc
   obtain rfl:=Array.eq_empty_of_size_eq_zero h1
   obtain rfl:=Array.eq_empty_of_size_eq_zero h2
   simp only [Option.some.injEq,Prod.mk.injEq,DataW.lit.injEq,Lit.int.injEq,Int.ofNat.injEq,true_and] at h
   have h3:(m:Int)=n:=h.1
   have h4:m=n:=by exact_mod_cast h3
   rw [h4]
  ·cases h
 ·cases h
 ·cases h
theorem Rea.fires {T E:TypeId}(hT:Tryd.prog.underlying T=some (.map 3 E))(hz:∀ w:World,(zeroValue E).run Tryd.prog w=.ok .nilFunc w)(f0 f1 f2:Nat)(W:World)(k:Int)(F:Nat)(hk:k=0∧F=f0∨k=1∧F=f1∨k=2∧F=f2) :
  ∃ V1 V2 V3,(Instr.mapUpdate T (.map (some W.heap.size)) (.int .i64 0) (.func (.func f0) #[] #[])).run Tryd.prog (W.alloc (.map #[] 0))=.ok () V1∧
   (Instr.mapUpdate T (.map (some W.heap.size)) (.int .i64 1) (.func (.func f1) #[] #[])).run Tryd.prog V1=.ok () V2∧
   (Instr.mapUpdate T (.map (some W.heap.size)) (.int .i64 2) (.func (.func f2) #[] #[])).run Tryd.prog V2=.ok () V3∧
   (Instr.lookup T (.map (some W.heap.size)) (.int .i64 k) false).run Tryd.prog V3=.ok (.func (.func F) #[] #[]) V3∧Below W.heap.size W V3:=by
 have law:=int_keyed (P:=Tryd.prog) Tryd.underlying3
 have m0:=World.ownsMap_made W Tryd.prog 3 Rea.R
 have key:∀ n:Int,(Lit.int .i64 n).wf=true→keyOf Tryd.prog 3 (.int .i64 n)=some (.int .i64 n):=fun n h=>keyOf_int_mk Tryd.underlying3 h
 obtain ⟨V1,r1,o1,g1⟩ :=m0.update law hT (by unfold maxLen; omega) (key 0 (by decide)) (Rea.R_fn f0)
 obtain ⟨V2,r2,o2,g2⟩ :=o1.update law hT (by unfold maxLen; omega) (key 1 (by decide)) (Rea.R_fn f1)
 obtain ⟨V3,r3,o3,g3⟩ :=o2.update law hT (by unfold maxLen; omega) (key 2 (by decide)) (Rea.R_fn f2)
 have hb:Below W.heap.size W V3:=((((Below.refl W.heap.size W).alloc (Nat.le_refl _) _).grown g1 (by simp) (fun j hj=>by cases hj; exact Nat.le_refl _)).grown g2 (by have:=g1.size; simp at this; omega) (fun j hj=>by cases hj; exact Nat.le_refl _)).grown g3 (by have:=g1.size; have:=g2.size; simp at *; omega) (fun j hj=>by cases hj; exact Nat.le_refl _)
 refine ⟨V1,V2,V3,r1,r2,r3,?_,hb⟩
 rcases hk with ⟨rfl,rfl⟩ | ⟨rfl,rfl⟩ | ⟨rfl,rfl⟩
 ·obtain ⟨v,ps,hr,hv⟩ :=o3.lookup law hT (hz V3) (show Rea.R .nilFunc=some (.nil,[]) from rfl) (key 0 (by decide))
  rw [Rea.R_inv (n:=F) hv] at hr
  exact hr
 ·obtain ⟨v,ps,hr,hv⟩ :=o3.lookup law hT (hz V3) (show Rea.R .nilFunc=some (.nil,[]) from rfl) (key 1 (by decide))
  rw [Rea.R_inv (n:=F) hv] at hr
  exact hr
 ·obtain ⟨v,ps,hr,hv⟩ :=o3.lookup law hT (hz V3) (show Rea.R .nilFunc=some (.nil,[]) from rfl) (key 2 (by decide))
  rw [Rea.R_inv (n:=F) hv] at hr
  exact hr
end
/-! This session's own: rearm.First, walked. -/
set_option maxHeartbeats 8000000 in
set_option maxRecDepth 100000 in
theorem Rea.First_bad (k p l:Int)(b0:Int)(s0:Bool)(b1:Int)(s1:Bool)(b2:Int)(s2:Bool)(b3:Int)(s3:Bool)(b4:Int)(s4:Bool)(now d e:Int)(A:rearm_Check.f 100 k p l b0 s0 b1 s1 b2 s2 b3 s3 b4 s4=some e)(he:e≠0)(w:World) :
  Calls Tryd.prog 10 #[.agg #[.int .i64 k,.int .u64 p,.int .i64 l,.int .u64 b0,.bool s0,.int .u64 b1,.bool s1,.int .u64 b2,.bool s2,.int .u64 b3,.bool s3,.int .u64 b4,.bool s4],.int .u64 now,.int .u64 d] w fun x w'=>x=.returned (.tuple #[.int .u64 0,.int .i64 e])∧Below w.heap.size w w':=by
 have he1:(e == 0)=false:=beq_eq_false_iff_ne.mpr he
 have he2:(e != 0)=true:=bne_iff_ne.mpr he
 have T0:=Aside0.mk (show Rea.Row (w.alloc (.cells #[.int .i64 k,.int .u64 p,.int .i64 l,.int .u64 b0,.bool s0,.int .u64 b1,.bool s1,.int .u64 b2,.bool s2,.int .u64 b3,.bool s3,.int .u64 b4,.bool s4] 28)) w.heap.size k p l b0 s0 b1 s1 b2 s2 b3 s3 b4 s4∧Below w.heap.size w (w.alloc (.cells #[.int .i64 k,.int .u64 p,.int .i64 l,.int .u64 b0,.bool s0,.int .u64 b1,.bool s1,.int .u64 b2,.bool s2,.int .u64 b3,.bool s3,.int .u64 b4,.bool s4] 28)) from ⟨blk_new w _,below_alloc (Below.refl _ _) _⟩)
 obtain ⟨k0,k1,k2,k3,k4,k5,k6,k7,k8,k9,k10,k11,k12⟩ :=T0.out.1.cells
 replace A:=Lib.hid A
 go_enter Tryd.func10,Tryd.ntmps10
 go_wp2_with fail
 clear k0 k1 k2 k3 k4 k5 k6 k7 k8 k9 k10 k11 k12
 generalize w.alloc (.cells #[.int .i64 k,.int .u64 p,.int .i64 l,.int .u64 b0,.bool s0,.int .u64 b1,.bool s1,.int .u64 b2,.bool s2,.int .u64 b3,.bool s3,.int .u64 b4,.bool s4] 28)=w1 at T0 ⊢
 refine (rearm_Check.calls _ _ _ _ _ _ _ _ _ _ _ _ _ _ _ _ A.out).mono ?_
 rintro x w2 ⟨rfl,hb⟩
 go_wp2_with fail
 go_ret2
 exact ⟨rfl,below_step T0.out.2 hb⟩
set_option maxHeartbeats 8000000 in
set_option maxRecDepth 100000 in
theorem Rea.First_soon (k p l:Int)(b0:Int)(s0:Bool)(b1:Int)(s1:Bool)(b2:Int)(s2:Bool)(b3:Int)(s3:Bool)(b4:Int)(s4:Bool)(now d:Int)(A:rearm_Check.f 100 k p l b0 s0 b1 s1 b2 s2 b3 s3 b4 s4=some 0)(r1 r2:Int)(hk:k=0∨k=1)(w:World)(hT:Tab w)
  (B:∀ W:World,Tab W→Calls Tryd.prog 21 #[.agg #[.int .i64 k,.int .u64 p,.int .i64 l,.int .u64 b0,.bool s0,.int .u64 b1,.bool s1,.int .u64 b2,.bool s2,.int .u64 b3,.bool s3,.int .u64 b4,.bool s4],.int .u64 now,.int .u64 d] W fun x w'=>x=.returned (.tuple #[.int .u64 r1,.int .i64 r2])∧Below W.heap.size W w') :
  Calls Tryd.prog 10 #[.agg #[.int .i64 k,.int .u64 p,.int .i64 l,.int .u64 b0,.bool s0,.int .u64 b1,.bool s1,.int .u64 b2,.bool s2,.int .u64 b3,.bool s3,.int .u64 b4,.bool s4],.int .u64 now,.int .u64 d] w fun x w'=>x=.returned (.tuple #[.int .u64 r1,.int .i64 r2])∧Below w.heap.size w w':=by
 have T0:=Aside0.mk (show Rea.Row (w.alloc (.cells #[.int .i64 k,.int .u64 p,.int .i64 l,.int .u64 b0,.bool s0,.int .u64 b1,.bool s1,.int .u64 b2,.bool s2,.int .u64 b3,.bool s3,.int .u64 b4,.bool s4] 28)) w.heap.size k p l b0 s0 b1 s1 b2 s2 b3 s3 b4 s4∧Below w.heap.size w (w.alloc (.cells #[.int .i64 k,.int .u64 p,.int .i64 l,.int .u64 b0,.bool s0,.int .u64 b1,.bool s1,.int .u64 b2,.bool s2,.int .u64 b3,.bool s3,.int .u64 b4,.bool s4] 28)) from ⟨blk_new w _,below_alloc (Below.refl _ _) _⟩)
 obtain ⟨k0,k1,k2,k3,k4,k5,k6,k7,k8,k9,k10,k11,k12⟩ :=T0.out.1.cells
 have hmm:=@run_makeMap Tryd.prog
 have hid_:=fun W=>Rea.fires (T:=51) (E:=48) (by kernel_rfl) (fun _=>by kernel_rfl) 21 21 22 W k 21 (hk.elim (fun h=>.inl ⟨h,rfl⟩) (fun h=>.inr (.inl ⟨h,rfl⟩)))
 replace hid_:=Lib.hid hid_
 replace A:=Lib.hid A
 replace B:=Lib.hid B
 replace hT:=Lib.hid hT
 clear hk
 go_enter Tryd.func10,Tryd.ntmps10
 go_wp2_with fail
 clear k0 k1 k2 k3 k4 k5 k6 k7 k8 k9 k10 k11 k12
 generalize w.alloc (.cells #[.int .i64 k,.int .u64 p,.int .i64 l,.int .u64 b0,.bool s0,.int .u64 b1,.bool s1,.int .u64 b2,.bool s2,.int .u64 b3,.bool s3,.int .u64 b4,.bool s4] 28)=w1 at T0 ⊢
 refine (rearm_Check.calls _ _ _ _ _ _ _ _ _ _ _ _ _ _ _ _ A.out).mono ?_
 rintro x w2 ⟨rfl,hb⟩
 have T2:=Aside0.mk (show Rea.Row w2 w.heap.size k p l b0 s0 b1 s1 b2 s2 b3 s3 b4 s4∧Below w.heap.size w w2 from ⟨blk_below T0.out.1 hb,below_step T0.out.2 hb⟩)
 clear T0 hb A
 obtain ⟨V1,V2,V3,r1_,r2_,r3_,rl_,hb⟩ :=hid_.out w2
 have T3:=Aside0.mk (show Rea.Row V3 w.heap.size k p l b0 s0 b1 s1 b2 s2 b3 s3 b4 s4∧Below w.heap.size w V3 from ⟨blk_below T2.out.1 hb,below_step T2.out.2 hb⟩)
 clear hid_ hb
 obtain ⟨k0,k1,k2,k3,k4,k5,k6,k7,k8,k9,k10,k11,k12⟩ :=T3.out.1.cells
 go_wp2_with fail
 refine (B.out V3 (hT.out.keep T3.out.2)).mono ?_
 rintro x w4 ⟨rfl,hb⟩
 go_wp2_with fail
 go_ret2
 exact ⟨rfl,below_step T3.out.2 hb⟩
set_option maxHeartbeats 8000000 in
set_option maxRecDepth 100000 in
theorem Rea.First_match (k p l:Int)(b0:Int)(s0:Bool)(b1:Int)(s1:Bool)(b2:Int)(s2:Bool)(b3:Int)(s3:Bool)(b4:Int)(s4:Bool)(now d:Int)(A:rearm_Check.f 100 k p l b0 s0 b1 s1 b2 s2 b3 s3 b4 s4=some 0)(r1 r2:Int)(hk:k=2)(w:World)(hT:Tab w)
  (B:∀ W:World,Tab W→Calls Tryd.prog 22 #[.agg #[.int .i64 k,.int .u64 p,.int .i64 l,.int .u64 b0,.bool s0,.int .u64 b1,.bool s1,.int .u64 b2,.bool s2,.int .u64 b3,.bool s3,.int .u64 b4,.bool s4],.int .u64 now,.int .u64 d] W fun x w'=>x=.returned (.tuple #[.int .u64 r1,.int .i64 r2])∧Below W.heap.size W w') :
  Calls Tryd.prog 10 #[.agg #[.int .i64 k,.int .u64 p,.int .i64 l,.int .u64 b0,.bool s0,.int .u64 b1,.bool s1,.int .u64 b2,.bool s2,.int .u64 b3,.bool s3,.int .u64 b4,.bool s4],.int .u64 now,.int .u64 d] w fun x w'=>x=.returned (.tuple #[.int .u64 r1,.int .i64 r2])∧Below w.heap.size w w':=by
 have T0:=Aside0.mk (show Rea.Row (w.alloc (.cells #[.int .i64 k,.int .u64 p,.int .i64 l,.int .u64 b0,.bool s0,.int .u64 b1,.bool s1,.int .u64 b2,.bool s2,.int .u64 b3,.bool s3,.int .u64 b4,.bool s4] 28)) w.heap.size k p l b0 s0 b1 s1 b2 s2 b3 s3 b4 s4∧Below w.heap.size w (w.alloc (.cells #[.int .i64 k,.int .u64 p,.int .i64 l,.int .u64 b0,.bool s0,.int .u64 b1,.bool s1,.int .u64 b2,.bool s2,.int .u64 b3,.bool s3,.int .u64 b4,.bool s4] 28)) from ⟨blk_new w _,below_alloc (Below.refl _ _) _⟩)
 obtain ⟨k0,k1,k2,k3,k4,k5,k6,k7,k8,k9,k10,k11,k12⟩ :=T0.out.1.cells
 have hmm:=@run_makeMap Tryd.prog
 have hid_:=fun W=>Rea.fires (T:=51) (E:=48) (by kernel_rfl) (fun _=>by kernel_rfl) 21 21 22 W k 22 (.inr (.inr ⟨hk,rfl⟩))
 replace hid_:=Lib.hid hid_
 replace A:=Lib.hid A
 replace B:=Lib.hid B
 replace hT:=Lib.hid hT
 clear hk
 go_enter Tryd.func10,Tryd.ntmps10
 go_wp2_with fail
 clear k0 k1 k2 k3 k4 k5 k6 k7 k8 k9 k10 k11 k12
 generalize w.alloc (.cells #[.int .i64 k,.int .u64 p,.int .i64 l,.int .u64 b0,.bool s0,.int .u64 b1,.bool s1,.int .u64 b2,.bool s2,.int .u64 b3,.bool s3,.int .u64 b4,.bool s4] 28)=w1 at T0 ⊢
 refine (rearm_Check.calls _ _ _ _ _ _ _ _ _ _ _ _ _ _ _ _ A.out).mono ?_
 rintro x w2 ⟨rfl,hb⟩
 have T2:=Aside0.mk (show Rea.Row w2 w.heap.size k p l b0 s0 b1 s1 b2 s2 b3 s3 b4 s4∧Below w.heap.size w w2 from ⟨blk_below T0.out.1 hb,below_step T0.out.2 hb⟩)
 clear T0 hb A
 obtain ⟨V1,V2,V3,r1_,r2_,r3_,rl_,hb⟩ :=hid_.out w2
 have T3:=Aside0.mk (show Rea.Row V3 w.heap.size k p l b0 s0 b1 s1 b2 s2 b3 s3 b4 s4∧Below w.heap.size w V3 from ⟨blk_below T2.out.1 hb,below_step T2.out.2 hb⟩)
 clear hid_ hb
 obtain ⟨k0,k1,k2,k3,k4,k5,k6,k7,k8,k9,k10,k11,k12⟩ :=T3.out.1.cells
 go_wp2_with fail
 refine (B.out V3 (hT.out.keep T3.out.2)).mono ?_
 rintro x w4 ⟨rfl,hb⟩
 go_wp2_with fail
 go_ret2
 exact ⟨rfl,below_step T3.out.2 hb⟩
def rearm_First.f (a0_0:Int)(a0_1:Int)(a0_2:Int)(a0_3:Int)(a0_4:Bool)(a0_5:Int)(a0_6:Bool)(a0_7:Int)(a0_8:Bool)(a0_9:Int)(a0_10:Bool)(a0_11:Int)(a0_12:Bool)(a1:Int)(a2:Int):Option (Int × Int):=(rearm_Check.f 100 a0_0 a0_1 a0_2 a0_3 a0_4 a0_5 a0_6 a0_7 a0_8 a0_9 a0_10 a0_11 a0_12).bind fun e=>if e≠0 then some (0,e) else if a0_0=0∨a0_0=1 then rearm_plan_soon.f a0_0 a0_1 a0_2 a0_3 a0_4 a0_5 a0_6 a0_7 a0_8 a0_9 a0_10 a0_11 a0_12 a1 a2 else if a0_0=2 then rearm_plan_matched.f a0_0 a0_1 a0_2 a0_3 a0_4 a0_5 a0_6 a0_7 a0_8 a0_9 a0_10 a0_11 a0_12 a1 a2 else none
set_option maxHeartbeats 8000000 in
set_option maxRecDepth 100000 in
theorem rearm_First.calls (a0_0:Int)(a0_1:Int)(a0_2:Int)(a0_3:Int)(a0_4:Bool)(a0_5:Int)(a0_6:Bool)(a0_7:Int)(a0_8:Bool)(a0_9:Int)(a0_10:Bool)(a0_11:Int)(a0_12:Bool)(a1:Int)(a2:Int)(r1:Int)(r2:Int)(w:World)(hT:Tab w)(h:rearm_First.f a0_0 a0_1 a0_2 a0_3 a0_4 a0_5 a0_6 a0_7 a0_8 a0_9 a0_10 a0_11 a0_12 a1 a2=some (r1,r2)) :
  Calls Tryd.prog 10 #[.agg #[.int .i64 a0_0,.int .u64 a0_1,.int .i64 a0_2,.int .u64 a0_3,.bool a0_4,.int .u64 a0_5,.bool a0_6,.int .u64 a0_7,.bool a0_8,.int .u64 a0_9,.bool a0_10,.int .u64 a0_11,.bool a0_12],.int .u64 a1,.int .u64 a2] w fun e w'=>e=.returned (.tuple #[.int .u64 r1,.int .i64 r2])∧Below w.heap.size w w':=by
 have HB:=Aside0.mk (Below.refl w.heap.size w)
 have hh:((rearm_Check.f 100 a0_0 a0_1 a0_2 a0_3 a0_4 a0_5 a0_6 a0_7 a0_8 a0_9 a0_10 a0_11 a0_12).bind fun e=>if e≠0 then some (0,e) else if a0_0=0∨a0_0=1 then rearm_plan_soon.f a0_0 a0_1 a0_2 a0_3 a0_4 a0_5 a0_6 a0_7 a0_8 a0_9 a0_10 a0_11 a0_12 a1 a2 else if a0_0=2 then rearm_plan_matched.f a0_0 a0_1 a0_2 a0_3 a0_4 a0_5 a0_6 a0_7 a0_8 a0_9 a0_10 a0_11 a0_12 a1 a2 else none)=some (r1,r2):=h
 clear h HB
 obtain ⟨e,A,hh⟩ :=Option.bind_eq_some_iff.1 hh
 by_cases he:e=0
 ·subst he
  rw [if_neg (by decide)] at hh
  by_cases hk:a0_0=0∨a0_0=1
  ·rw [if_pos hk] at hh
   exact Rea.First_soon a0_0 a0_1 a0_2 a0_3 a0_4 a0_5 a0_6 a0_7 a0_8 a0_9 a0_10 a0_11 a0_12 a1 a2 A r1 r2 hk w hT (fun W _=>rearm_plan_soon.calls _ _ _ _ _ _ _ _ _ _ _ _ _ _ _ _ _ W hh)
  ·rw [if_neg hk] at hh
   by_cases h2:a0_0=2
   ·rw [if_pos h2] at hh
    exact Rea.First_match a0_0 a0_1 a0_2 a0_3 a0_4 a0_5 a0_6 a0_7 a0_8 a0_9 a0_10 a0_11 a0_12 a1 a2 A r1 r2 h2 w hT (fun W hT=>rearm_plan_matched.calls _ _ _ _ _ _ _ _ _ _ _ _ _ _ _ _ _ W hT hh)
   ·rw [if_neg h2] at hh
    cases hh
 ·rw [if_pos he] at hh
  obtain ⟨rfl,rfl⟩ :=Prod.mk.inj (Option.some.inj hh)
  exact Rea.First_bad a0_0 a0_1 a0_2 a0_3 a0_4 a0_5 a0_6 a0_7 a0_8 a0_9 a0_10 a0_11 a0_12 a1 a2 _ A he w
def rearm_plan_ends.f (a0_0:Int)(a0_1:Int)(a0_2:Int)(a0_3:Int)(a0_4:Bool)(a0_5:Int)(a0_6:Bool)(a0_7:Int)(a0_8:Bool)(a0_9:Int)(a0_10:Bool)(a0_11:Int)(a0_12:Bool)(a1:Int)(a2:Int):Option (Int × Int × Int × Int × Int × Bool × Int × Bool × Int × Bool × Int × Bool × Int × Bool × Int × Int):=some (0,0,0,0,0,false,0,false,0,false,0,false,0,false,0,5)
set_option maxHeartbeats 8000000 in
set_option maxRecDepth 100000 in
theorem rearm_plan_ends.calls (a0_0:Int)(a0_1:Int)(a0_2:Int)(a0_3:Int)(a0_4:Bool)(a0_5:Int)(a0_6:Bool)(a0_7:Int)(a0_8:Bool)(a0_9:Int)(a0_10:Bool)(a0_11:Int)(a0_12:Bool)(a1:Int)(a2:Int)(r1:Int)(r2:Int)(r3:Int)(r4:Int)(r5:Int)(r6:Bool)(r7:Int)(r8:Bool)(r9:Int)(r10:Bool)(r11:Int)(r12:Bool)(r13:Int)(r14:Bool)(r15:Int)(r16:Int)(w:World)(h:rearm_plan_ends.f a0_0 a0_1 a0_2 a0_3 a0_4 a0_5 a0_6 a0_7 a0_8 a0_9 a0_10 a0_11 a0_12 a1 a2=some (r1,r2,r3,r4,r5,r6,r7,r8,r9,r10,r11,r12,r13,r14,r15,r16)) :
  Calls Tryd.prog 27 #[.agg #[.int .i64 a0_0,.int .u64 a0_1,.int .i64 a0_2,.int .u64 a0_3,.bool a0_4,.int .u64 a0_5,.bool a0_6,.int .u64 a0_7,.bool a0_8,.int .u64 a0_9,.bool a0_10,.int .u64 a0_11,.bool a0_12],.int .u64 a1,.int .u64 a2] w fun e w'=>e=.returned (.tuple #[.agg #[.int .u64 r1,.int .i64 r2,.int .u64 r3,.int .i64 r4,.int .u64 r5,.bool r6,.int .u64 r7,.bool r8,.int .u64 r9,.bool r10,.int .u64 r11,.bool r12,.int .u64 r13,.bool r14,.int .u64 r15],.int .i64 r16])∧Below w.heap.size w w':=by
 have hu50:=Tryd.underlying50
 have hu60:=Tryd.underlying60
 have HB:=Aside0.mk (Below.refl w.heap.size w)
 have H:(some (0,0,0,0,0,false,0,false,0,false,0,false,0,false,0,5))=some (r1,r2,r3,r4,r5,r6,r7,r8,r9,r10,r11,r12,r13,r14,r15,r16):=h
 clear h
 simp only [Option.some.injEq,Prod.mk.injEq] at H
 obtain ⟨rfl,rfl,rfl,rfl,rfl,rfl,rfl,rfl,rfl,rfl,rfl,rfl,rfl,rfl,rfl,rfl⟩ :=H
 go_enter Tryd.func27,Tryd.ntmps27
 go_wp2_with (first | ((with_reducible refine gate_dst (N:=3) rfl ?_); refine box_event ?hg (N:=3) ?hd (cs:=#[.int .i64 a0_0,.int .u64 a0_1,.int .i64 a0_2,.int .u64 a0_3,.bool a0_4,.int .u64 a0_5,.bool a0_6,.int .u64 a0_7,.bool a0_8,.int .u64 a0_9,.bool a0_10,.int .u64 a0_11,.bool a0_12]) (t:=50) ?hr ?_; (case hd=>rfl); (case hg=>rfl); (case hr=>first | (go_simp; done) | (go_simp; rfl)); intro gb146 hg w4 hbox hb; have n0_:=Aside0.mk (below_step (by repeat (first | (with_reducible first | exact HB.out | apply below_alloc | apply pw_below_drewN | apply below_drew1) | exact HB.out)) hb); have n1_:=Aside0.mk (hbox); have n2_:=Aside0.mk ((by rw [hg]; exact (below_size (by repeat (first | (with_reducible first | exact HB.out | apply below_alloc | apply pw_below_drewN | apply below_drew1) | exact HB.out))):w.heap.size≤gb146)); have n3_:=Aside0.mk ((by rw [hg]; exact (below_size (by repeat (first | (with_reducible first | exact HB.out | apply below_alloc | apply pw_below_drewN | apply below_drew1) | exact HB.out))):w.heap.size≤gb146)); clear HB; have HB:=n0_; have BK146:=n1_; have GW146:=n2_; have GE146:=n3_; clear n0_ n1_ n2_ n3_; clear hb hbox hg) | ((with_reducible refine gate_dst (N:=6) rfl ?_); refine box_event ?hg (N:=6) ?hd (cs:=#[.int .u64 0,.int .i64 0,.int .u64 0,.int .i64 0,.int .u64 0,.bool false,.int .u64 0,.bool false,.int .u64 0,.bool false,.int .u64 0,.bool false,.int .u64 0,.bool false,.int .u64 0]) (t:=60) ?hr ?_; (case hd=>rfl); (case hg=>rfl); (case hr=>first | (go_simp; done) | (go_simp; rfl)); intro gb147 hg w5 hbox hb; have n0_:=Aside0.mk (blk_below (g:=gb146) (o:=.cells #[.int .i64 a0_0,.int .u64 a0_1,.int .i64 a0_2,.int .u64 a0_3,.bool a0_4,.int .u64 a0_5,.bool a0_6,.int .u64 a0_7,.bool a0_8,.int .u64 a0_9,.bool a0_10,.int .u64 a0_11,.bool a0_12] 50 (0,0)) (by (with_reducible repeat (first | refine blk_drewN ?_ _ | refine blk_drew ?_ | refine blk_alloc ?_ _)); exact BK146.out) hb); have n1_:=Aside0.mk (below_step (by repeat (first | (with_reducible first | exact HB.out | apply below_alloc | apply pw_below_drewN | apply below_drew1 | refine below_set ?_ GE146.out) | exact HB.out)) hb); have n2_:=Aside0.mk (hbox); have n3_:=Aside0.mk ((by rw [hg]; exact (below_size (by repeat (first | (with_reducible first | exact HB.out | apply below_alloc | apply pw_below_drewN | apply below_drew1 | refine below_set ?_ GE146.out) | exact HB.out))):w.heap.size≤gb147)); have n4_:=Aside0.mk ((by rw [hg]; exact (below_size (by repeat (first | (with_reducible first | exact HB.out | apply below_alloc | apply pw_below_drewN | apply below_drew1 | refine below_set ?_ GE146.out) | exact HB.out))):w.heap.size≤gb147)); have n5_:=Aside0.mk ((by rw [hg]; exact Nat.ne_of_lt (blk_lt (g:=gb146) (o:=.cells #[.int .i64 a0_0,.int .u64 a0_1,.int .i64 a0_2,.int .u64 a0_3,.bool a0_4,.int .u64 a0_5,.bool a0_6,.int .u64 a0_7,.bool a0_8,.int .u64 a0_9,.bool a0_10,.int .u64 a0_11,.bool a0_12] 50 (0,0)) (by (with_reducible repeat (first | refine blk_drewN ?_ _ | refine blk_drew ?_ | refine blk_alloc ?_ _)); exact BK146.out)):gb146≠gb147)); have n6_:=Aside0.mk ((by rw [hg]; exact Nat.ne_of_gt (blk_lt (g:=gb146) (o:=.cells #[.int .i64 a0_0,.int .u64 a0_1,.int .i64 a0_2,.int .u64 a0_3,.bool a0_4,.int .u64 a0_5,.bool a0_6,.int .u64 a0_7,.bool a0_8,.int .u64 a0_9,.bool a0_10,.int .u64 a0_11,.bool a0_12] 50 (0,0)) (by (with_reducible repeat (first | refine blk_drewN ?_ _ | refine blk_drew ?_ | refine blk_alloc ?_ _)); exact BK146.out)):gb147≠gb146)); clear BK146; clear HB; have BK146:=n0_; have HB:=n1_; have BK147:=n2_; have GW147:=n3_; have GE147:=n4_; have NB146_147:=n5_; have NB147_146:=n6_; clear n0_ n1_ n2_ n3_ n4_ n5_ n6_; clear hb hbox hg; have hnb6:=NB147_146.out; have hnc6:=NB146_147.out; have hcz7_0:w5.cell? ⟨gb147,0,none⟩=some (.int .u64 0):=(blk_cell BK147.out 0).trans rfl; have hcz7_1:w5.cell? ⟨gb147,1,none⟩=some (.int .i64 0):=(blk_cell BK147.out 1).trans rfl; have hcz7_2:w5.cell? ⟨gb147,2,none⟩=some (.int .u64 0):=(blk_cell BK147.out 2).trans rfl; have hcz7_3:w5.cell? ⟨gb147,3,none⟩=some (.int .i64 0):=(blk_cell BK147.out 3).trans rfl; have hcz7_4:w5.cell? ⟨gb147,4,none⟩=some (.int .u64 0):=(blk_cell BK147.out 4).trans rfl; have hcz7_5:w5.cell? ⟨gb147,5,none⟩=some (.bool false):=(blk_cell BK147.out 5).trans rfl; have hcz7_6:w5.cell? ⟨gb147,6,none⟩=some (.int .u64 0):=(blk_cell BK147.out 6).trans rfl; have hcz7_7:w5.cell? ⟨gb147,7,none⟩=some (.bool false):=(blk_cell BK147.out 7).trans rfl; have hcz7_8:w5.cell? ⟨gb147,8,none⟩=some (.int .u64 0):=(blk_cell BK147.out 8).trans rfl; have hcz7_9:w5.cell? ⟨gb147,9,none⟩=some (.bool false):=(blk_cell BK147.out 9).trans rfl; have hcz7_10:w5.cell? ⟨gb147,10,none⟩=some (.int .u64 0):=(blk_cell BK147.out 10).trans rfl; have hcz7_11:w5.cell? ⟨gb147,11,none⟩=some (.bool false):=(blk_cell BK147.out 11).trans rfl; have hcz7_12:w5.cell? ⟨gb147,12,none⟩=some (.int .u64 0):=(blk_cell BK147.out 12).trans rfl; have hcz7_13:w5.cell? ⟨gb147,13,none⟩=some (.bool false):=(blk_cell BK147.out 13).trans rfl; have hcz7_14:w5.cell? ⟨gb147,14,none⟩=some (.int .u64 0):=(blk_cell BK147.out 14).trans rfl; have hfz7_0:=blk_frozen BK147.out 0; have hfz7_1:=blk_frozen BK147.out 1; have hfz7_2:=blk_frozen BK147.out 2; have hfz7_3:=blk_frozen BK147.out 3; have hfz7_4:=blk_frozen BK147.out 4; have hfz7_5:=blk_frozen BK147.out 5; have hfz7_6:=blk_frozen BK147.out 6; have hfz7_7:=blk_frozen BK147.out 7; have hfz7_8:=blk_frozen BK147.out 8; have hfz7_9:=blk_frozen BK147.out 9; have hfz7_10:=blk_frozen BK147.out 10; have hfz7_11:=blk_frozen BK147.out 11; have hfz7_12:=blk_frozen BK147.out 12; have hfz7_13:=blk_frozen BK147.out 13; have hfz7_14:=blk_frozen BK147.out 14))
 refine bodyPost_ret (results_ct rfl _ _ gb147 60 #[.int .u64 0,.int .i64 0,.int .u64 0,.int .i64 0,.int .u64 0,.bool false,.int .u64 0,.bool false,.int .u64 0,.bool false,.int .u64 0,.bool false,.int .u64 0,.bool false,.int .u64 0] (0,0) _ rfl (by (with_reducible repeat (first | refine blk_drewN ?_ _ | refine blk_drew ?_ | refine blk_alloc ?_ _)); refine blk_put (cs:=#[.int .u64 0,.int .i64 0,.int .u64 0,.int .i64 0,.int .u64 0,.bool false,.int .u64 0,.bool false,.int .u64 0,.bool false,.int .u64 0,.bool false,.int .u64 0,.bool false,.int .u64 0]) ?_ 14 _ rfl; (with_reducible repeat (first | refine blk_drewN ?_ _ | refine blk_drew ?_ | refine blk_alloc ?_ _)); refine blk_put (cs:=#[.int .u64 0,.int .i64 0,.int .u64 0,.int .i64 0,.int .u64 0,.bool false,.int .u64 0,.bool false,.int .u64 0,.bool false,.int .u64 0,.bool false,.int .u64 0,.bool false,.int .u64 0]) ?_ 13 _ rfl; (with_reducible repeat (first | refine blk_drewN ?_ _ | refine blk_drew ?_ | refine blk_alloc ?_ _)); refine blk_put (cs:=#[.int .u64 0,.int .i64 0,.int .u64 0,.int .i64 0,.int .u64 0,.bool false,.int .u64 0,.bool false,.int .u64 0,.bool false,.int .u64 0,.bool false,.int .u64 0,.bool false,.int .u64 0]) ?_ 12 _ rfl; (with_reducible repeat (first | refine blk_drewN ?_ _ | refine blk_drew ?_ | refine blk_alloc ?_ _)); refine blk_put (cs:=#[.int .u64 0,.int .i64 0,.int .u64 0,.int .i64 0,.int .u64 0,.bool false,.int .u64 0,.bool false,.int .u64 0,.bool false,.int .u64 0,.bool false,.int .u64 0,.bool false,.int .u64 0]) ?_ 11 _ rfl; (with_reducible repeat (first | refine blk_drewN ?_ _ | refine blk_drew ?_ | refine blk_alloc ?_ _)); refine blk_put (cs:=#[.int .u64 0,.int .i64 0,.int .u64 0,.int .i64 0,.int .u64 0,.bool false,.int .u64 0,.bool false,.int .u64 0,.bool false,.int .u64 0,.bool false,.int .u64 0,.bool false,.int .u64 0]) ?_ 10 _ rfl; (with_reducible repeat (first | refine blk_drewN ?_ _ | refine blk_drew ?_ | refine blk_alloc ?_ _)); refine blk_put (cs:=#[.int .u64 0,.int .i64 0,.int .u64 0,.int .i64 0,.int .u64 0,.bool false,.int .u64 0,.bool false,.int .u64 0,.bool false,.int .u64 0,.bool false,.int .u64 0,.bool false,.int .u64 0]) ?_ 9 _ rfl; (with_reducible repeat (first | refine blk_drewN ?_ _ | refine blk_drew ?_ | refine blk_alloc ?_ _)); refine blk_put (cs:=#[.int .u64 0,.int .i64 0,.int .u64 0,.int .i64 0,.int .u64 0,.bool false,.int .u64 0,.bool false,.int .u64 0,.bool false,.int .u64 0,.bool false,.int .u64 0,.bool false,.int .u64 0]) ?_ 8 _ rfl; (with_reducible repeat (first | refine blk_drewN ?_ _ | refine blk_drew ?_ | refine blk_alloc ?_ _)); refine blk_put (cs:=#[.int .u64 0,.int .i64 0,.int .u64 0,.int .i64 0,.int .u64 0,.bool false,.int .u64 0,.bool false,.int .u64 0,.bool false,.int .u64 0,.bool false,.int .u64 0,.bool false,.int .u64 0]) ?_ 7 _ rfl; (with_reducible repeat (first | refine blk_drewN ?_ _ | refine blk_drew ?_ | refine blk_alloc ?_ _)); refine blk_put (cs:=#[.int .u64 0,.int .i64 0,.int .u64 0,.int .i64 0,.int .u64 0,.bool false,.int .u64 0,.bool false,.int .u64 0,.bool false,.int .u64 0,.bool false,.int .u64 0,.bool false,.int .u64 0]) ?_ 6 _ rfl; (with_reducible repeat (first | refine blk_drewN ?_ _ | refine blk_drew ?_ | refine blk_alloc ?_ _)); refine blk_put (cs:=#[.int .u64 0,.int .i64 0,.int .u64 0,.int .i64 0,.int .u64 0,.bool false,.int .u64 0,.bool false,.int .u64 0,.bool false,.int .u64 0,.bool false,.int .u64 0,.bool false,.int .u64 0]) ?_ 5 _ rfl; (with_reducible repeat (first | refine blk_drewN ?_ _ | refine blk_drew ?_ | refine blk_alloc ?_ _)); refine blk_put (cs:=#[.int .u64 0,.int .i64 0,.int .u64 0,.int .i64 0,.int .u64 0,.bool false,.int .u64 0,.bool false,.int .u64 0,.bool false,.int .u64 0,.bool false,.int .u64 0,.bool false,.int .u64 0]) ?_ 4 _ rfl; (with_reducible repeat (first | refine blk_drewN ?_ _ | refine blk_drew ?_ | refine blk_alloc ?_ _)); refine blk_put (cs:=#[.int .u64 0,.int .i64 0,.int .u64 0,.int .i64 0,.int .u64 0,.bool false,.int .u64 0,.bool false,.int .u64 0,.bool false,.int .u64 0,.bool false,.int .u64 0,.bool false,.int .u64 0]) ?_ 3 _ rfl; (with_reducible repeat (first | refine blk_drewN ?_ _ | refine blk_drew ?_ | refine blk_alloc ?_ _)); refine blk_put (cs:=#[.int .u64 0,.int .i64 0,.int .u64 0,.int .i64 0,.int .u64 0,.bool false,.int .u64 0,.bool false,.int .u64 0,.bool false,.int .u64 0,.bool false,.int .u64 0,.bool false,.int .u64 0]) ?_ 2 _ rfl; (with_reducible repeat (first | refine blk_drewN ?_ _ | refine blk_drew ?_ | refine blk_alloc ?_ _)); refine blk_put (cs:=#[.int .u64 0,.int .i64 0,.int .u64 0,.int .i64 0,.int .u64 0,.bool false,.int .u64 0,.bool false,.int .u64 0,.bool false,.int .u64 0,.bool false,.int .u64 0,.bool false,.int .u64 0]) ?_ 1 _ rfl; (with_reducible repeat (first | refine blk_drewN ?_ _ | refine blk_drew ?_ | refine blk_alloc ?_ _)); refine blk_put (cs:=#[.int .u64 0,.int .i64 0,.int .u64 0,.int .i64 0,.int .u64 0,.bool false,.int .u64 0,.bool false,.int .u64 0,.bool false,.int .u64 0,.bool false,.int .u64 0,.bool false,.int .u64 0]) ?_ 0 _ rfl; (with_reducible repeat (first | refine blk_drewN ?_ _ | refine blk_drew ?_ | refine blk_alloc ?_ _)); exact BK147.out) Tryd.underlying60 rfl (by kernel_rfl)) rfl ?_
 exact ⟨by first | rfl | (simp [errW_none,errW_some] <;> rfl) | (simp [*,errW_none,errW_some] <;> rfl),by repeat (first | (with_reducible first | exact HB.out | apply below_alloc | apply pw_below_drewN | apply below_drew1 | refine below_set ?_ GE146.out | refine below_set ?_ GE147.out) | exact HB.out)⟩
def tick_Sub.f (a0:Int)(a1:Int):Option (Int):=if 0≤a0∧a0 < 18446744073709551616∧0≤a1∧a1 < 18446744073709551616 then some (if a0 < a1 then 0 else a0 - a1) else none
set_option maxHeartbeats 8000000 in
set_option maxRecDepth 100000 in
theorem tick_Sub.calls (a0:Int)(a1:Int)(r:Int)(w:World)(h:tick_Sub.f a0 a1=some r) :
  Calls Tryd.prog 86 #[.int .u64 a0,.int .u64 a1] w fun e w'=>e=.returned (.int .u64 r)∧Drawn0 w w':=by
 have hh:(if 0≤a0∧a0 < 18446744073709551616∧0≤a1∧a1 < 18446744073709551616 then some (if a0 < a1 then (0:Int) else a0 - a1) else none)=some r:=h
 clear h
 by_cases hc:0≤a0∧a0 < 18446744073709551616∧0≤a1∧a1 < 18446744073709551616
 ·rw [if_pos hc] at hh
  obtain ⟨h0,h1,h2,h3⟩ :=hc
  obtain ⟨x,rfl⟩:∃ x:Nat,a0=x:=⟨a0.toNat,by omega⟩
  obtain ⟨y,rfl⟩:∃ y:Nat,a1=y:=⟨a1.toNat,by omega⟩
  rw [← Option.some.inj hh]
  exact Rea.tickSub x y (by omega) (by omega) w
 ·rw [if_neg hc] at hh
  cases hh
def tick_After.f (a0:Int)(a1:Int)(a2:Int):Option (Int × Int):=if a1=0 then (some (a0,0)) else ((tick_Sub.f a2 a0).bind fun t148=>((tick_Add.f (IntKind.u64.wrap (a0+(IntKind.u64.wrap ((IntKind.u64.wrap (Int.tdiv t148 a1))*a1)))) a1).bind fun bt149=>(some (bt149.1,IntKind.u64.wrap (Int.tdiv t148 a1)))))
set_option maxHeartbeats 8000000 in
set_option maxRecDepth 100000 in
theorem tick_After.calls (a0:Int)(a1:Int)(a2:Int)(r1:Int)(r2:Int)(w:World)(h:tick_After.f a0 a1 a2=some (r1,r2)) :
  Calls Tryd.prog 56 #[.int .u64 a0,.int .u64 a1,.int .u64 a2] w fun e w'=>e=.returned (.tuple #[.int .u64 r1,.int .u64 r2])∧Drawn0 w w':=by
 have H:(if a1=0 then (some (a0,0)) else ((tick_Sub.f a2 a0).bind fun t148=>((tick_Add.f (IntKind.u64.wrap (a0+(IntKind.u64.wrap ((IntKind.u64.wrap (Int.tdiv t148 a1))*a1)))) a1).bind fun bt149=>(some (bt149.1,IntKind.u64.wrap (Int.tdiv t148 a1))))))=some (r1,r2):=h
 clear h
 by_cases c4:a1=0
 ·rw [if_pos c4] at H
  have c4b0:(a1 == 0)=true:=beq_iff_eq.mpr c4
  have c4b1:(a1 != 0)=false:=bne_eq_false_iff_eq.mpr c4
  clear c4
  simp only [Option.some.injEq,Prod.mk.injEq] at H
  obtain ⟨rfl,rfl⟩ :=H
  go_enter Tryd.func56,Tryd.ntmps56
  go_wp2
  go_ret2
  exact ⟨by first | rfl | (simp; done) | (simp [*]; done),by repeat (first | exact Drawn0.refl _ | apply Drawn0.step)⟩
 ·rw [if_neg c4] at H
  have c4b0:(a1 == 0)=false:=beq_eq_false_iff_ne.mpr c4
  have c4b1:(a1 != 0)=true:=bne_iff_ne.mpr c4
  replace H:=Option.bind_eq_some_iff.mp H
  obtain ⟨t148,A50,H⟩ :=H
  replace H:((tick_Add.f (IntKind.u64.wrap (a0+(IntKind.u64.wrap ((IntKind.u64.wrap (Int.tdiv t148 a1))*a1)))) a1).bind fun bt149=>(some (bt149.1,IntKind.u64.wrap (Int.tdiv t148 a1))))=some (r1,r2):=H
  have A5:=Aside0.mk A50
  clear A50
  replace H:=Option.bind_eq_some_iff.mp H
  obtain ⟨⟨t149,t150⟩,A60,H⟩ :=H
  replace H:(some (t149,IntKind.u64.wrap (Int.tdiv t148 a1)))=some (r1,r2):=H
  have A6:=Aside0.mk A60
  clear A60
  simp only [Option.some.injEq,Prod.mk.injEq] at H
  obtain ⟨rfl,rfl⟩ :=H
  go_enter Tryd.func56,Tryd.ntmps56
  go_wp2_with (first | ((with_reducible refine gate_callee (f:=86) rfl ?_); refine goesL_ (some 16) rfl rfl Tryd.func86 (by kernel_rfl) rfl #[.int .u64 a2,.int .u64 a0] rfl (by (try simp only [List.map_toArray,List.map_cons,List.map_nil]); first | done | rfl | (simp only [List.length_drop,List.length_take]; rfl)) ?_; (with_reducible refine (tick_Sub.calls a2 a0 t148 _ A5.out).mono ?_); rintro e w' ⟨rfl,⟨nd,rfl⟩⟩; refine ⟨_,rfl,?_⟩) | ((with_reducible refine gate_callee (f:=46) rfl ?_); refine goesL_ (some 26) rfl rfl Tryd.func46 (by kernel_rfl) rfl #[.int .u64 (IntKind.u64.wrap (a0+(IntKind.u64.wrap ((IntKind.u64.wrap (Int.tdiv t148 a1))*a1)))),.int .u64 a1] rfl (by (try simp only [List.map_toArray,List.map_cons,List.map_nil]); first | done | rfl | (simp only [List.length_drop,List.length_take]; rfl)) ?_; (with_reducible refine (tick_Add.calls (IntKind.u64.wrap (a0+(IntKind.u64.wrap ((IntKind.u64.wrap (Int.tdiv t148 a1))*a1)))) a1 t149 t150 _ A6.out).mono ?_); rintro e w' ⟨rfl,⟨nd,rfl⟩⟩; refine ⟨_,rfl,?_⟩))
  go_ret2
  exact ⟨by first | rfl | (simp; done) | (simp [*]; done),by repeat (first | exact Drawn0.refl _ | apply Drawn0.step)⟩
def rearm_plan_goes.f (a0_0:Int)(a0_1:Int)(a0_2:Int)(a0_3:Int)(a0_4:Bool)(a0_5:Int)(a0_6:Bool)(a0_7:Int)(a0_8:Bool)(a0_9:Int)(a0_10:Bool)(a0_11:Int)(a0_12:Bool)(a1:Int)(a2:Int):Option (Int × Int × Int × Int × Int × Bool × Int × Bool × Int × Bool × Int × Bool × Int × Bool × Int × Int):=if a0_2=1 then (some (0,0,0,0,0,false,0,false,0,false,0,false,0,false,0,5)) else (if a1=18446744073709551615 then (some (0,0,0,0,0,false,0,false,0,false,0,false,0,false,0,5)) else ((tick_After.f a1 a0_1 a2).bind fun bt153=>(some (bt153.1,a0_0,a0_1,mx (wrap64 (a0_2 - 1)) 0,a0_3,a0_4,a0_5,a0_6,a0_7,a0_8,a0_9,a0_10,a0_11,a0_12,bt153.2,0))))
set_option maxHeartbeats 8000000 in
set_option maxRecDepth 100000 in
theorem rearm_plan_goes.calls (a0_0:Int)(a0_1:Int)(a0_2:Int)(a0_3:Int)(a0_4:Bool)(a0_5:Int)(a0_6:Bool)(a0_7:Int)(a0_8:Bool)(a0_9:Int)(a0_10:Bool)(a0_11:Int)(a0_12:Bool)(a1:Int)(a2:Int)(r1:Int)(r2:Int)(r3:Int)(r4:Int)(r5:Int)(r6:Bool)(r7:Int)(r8:Bool)(r9:Int)(r10:Bool)(r11:Int)(r12:Bool)(r13:Int)(r14:Bool)(r15:Int)(r16:Int)(w:World)(h:rearm_plan_goes.f a0_0 a0_1 a0_2 a0_3 a0_4 a0_5 a0_6 a0_7 a0_8 a0_9 a0_10 a0_11 a0_12 a1 a2=some (r1,r2,r3,r4,r5,r6,r7,r8,r9,r10,r11,r12,r13,r14,r15,r16)) :
  Calls Tryd.prog 28 #[.agg #[.int .i64 a0_0,.int .u64 a0_1,.int .i64 a0_2,.int .u64 a0_3,.bool a0_4,.int .u64 a0_5,.bool a0_6,.int .u64 a0_7,.bool a0_8,.int .u64 a0_9,.bool a0_10,.int .u64 a0_11,.bool a0_12],.int .u64 a1,.int .u64 a2] w fun e w'=>e=.returned (.tuple #[.agg #[.int .u64 r1,.int .i64 r2,.int .u64 r3,.int .i64 r4,.int .u64 r5,.bool r6,.int .u64 r7,.bool r8,.int .u64 r9,.bool r10,.int .u64 r11,.bool r12,.int .u64 r13,.bool r14,.int .u64 r15],.int .i64 r16])∧Below w.heap.size w w':=by
 have hu50:=Tryd.underlying50
 have hu60:=Tryd.underlying60
 have HB:=Aside0.mk (Below.refl w.heap.size w)
 have H:(if a0_2=1 then (some (0,0,0,0,0,false,0,false,0,false,0,false,0,false,0,5)) else (if a1=18446744073709551615 then (some (0,0,0,0,0,false,0,false,0,false,0,false,0,false,0,5)) else ((tick_After.f a1 a0_1 a2).bind fun bt153=>(some (bt153.1,a0_0,a0_1,mx (wrap64 (a0_2 - 1)) 0,a0_3,a0_4,a0_5,a0_6,a0_7,a0_8,a0_9,a0_10,a0_11,a0_12,bt153.2,0)))))=some (r1,r2,r3,r4,r5,r6,r7,r8,r9,r10,r11,r12,r13,r14,r15,r16):=h
 clear h
 by_cases c4:a0_2=1
 ·rw [if_pos c4] at H
  have c4b0:(a0_2 == 1)=true:=beq_iff_eq.mpr c4
  have c4b1:(a0_2 != 1)=false:=bne_eq_false_iff_eq.mpr c4
  clear c4
  simp only [Option.some.injEq,Prod.mk.injEq] at H
  obtain ⟨rfl,rfl,rfl,rfl,rfl,rfl,rfl,rfl,rfl,rfl,rfl,rfl,rfl,rfl,rfl,rfl⟩ :=H
  go_enter Tryd.func28,Tryd.ntmps28
  go_wp2_with (first | ((with_reducible refine gate_dst (N:=3) rfl ?_); refine box_event ?hg (N:=3) ?hd (cs:=#[.int .i64 a0_0,.int .u64 a0_1,.int .i64 a0_2,.int .u64 a0_3,.bool a0_4,.int .u64 a0_5,.bool a0_6,.int .u64 a0_7,.bool a0_8,.int .u64 a0_9,.bool a0_10,.int .u64 a0_11,.bool a0_12]) (t:=50) ?hr ?_; (case hd=>rfl); (case hg=>rfl); (case hr=>first | (go_simp; done) | (go_simp; rfl)); intro gb151 hg w5 hbox hb; have n0_:=Aside0.mk (below_step (by repeat (first | (with_reducible first | exact HB.out | apply below_alloc | apply pw_below_drewN | apply below_drew1) | exact HB.out)) hb); have n1_:=Aside0.mk (hbox); have n2_:=Aside0.mk ((by rw [hg]; exact (below_size (by repeat (first | (with_reducible first | exact HB.out | apply below_alloc | apply pw_below_drewN | apply below_drew1) | exact HB.out))):w.heap.size≤gb151)); have n3_:=Aside0.mk ((by rw [hg]; exact (below_size (by repeat (first | (with_reducible first | exact HB.out | apply below_alloc | apply pw_below_drewN | apply below_drew1) | exact HB.out))):w.heap.size≤gb151)); clear HB; have HB:=n0_; have BK151:=n1_; have GW151:=n2_; have GE151:=n3_; clear n0_ n1_ n2_ n3_; clear hb hbox hg) | ((with_reducible refine gate_dst (N:=6) rfl ?_); refine box_event ?hg (N:=6) ?hd (cs:=#[.int .u64 0,.int .i64 0,.int .u64 0,.int .i64 0,.int .u64 0,.bool false,.int .u64 0,.bool false,.int .u64 0,.bool false,.int .u64 0,.bool false,.int .u64 0,.bool false,.int .u64 0]) (t:=60) ?hr ?_; (case hd=>rfl); (case hg=>rfl); (case hr=>first | (go_simp; done) | (go_simp; rfl)); intro gb152 hg w6 hbox hb; have n0_:=Aside0.mk (blk_below (g:=gb151) (o:=.cells #[.int .i64 a0_0,.int .u64 a0_1,.int .i64 a0_2,.int .u64 a0_3,.bool a0_4,.int .u64 a0_5,.bool a0_6,.int .u64 a0_7,.bool a0_8,.int .u64 a0_9,.bool a0_10,.int .u64 a0_11,.bool a0_12] 50 (0,0)) (by (with_reducible repeat (first | refine blk_drewN ?_ _ | refine blk_drew ?_ | refine blk_alloc ?_ _)); exact BK151.out) hb); have n1_:=Aside0.mk (below_step (by repeat (first | (with_reducible first | exact HB.out | apply below_alloc | apply pw_below_drewN | apply below_drew1 | refine below_set ?_ GE151.out) | exact HB.out)) hb); have n2_:=Aside0.mk (hbox); have n3_:=Aside0.mk ((by rw [hg]; exact (below_size (by repeat (first | (with_reducible first | exact HB.out | apply below_alloc | apply pw_below_drewN | apply below_drew1 | refine below_set ?_ GE151.out) | exact HB.out))):w.heap.size≤gb152)); have n4_:=Aside0.mk ((by rw [hg]; exact (below_size (by repeat (first | (with_reducible first | exact HB.out | apply below_alloc | apply pw_below_drewN | apply below_drew1 | refine below_set ?_ GE151.out) | exact HB.out))):w.heap.size≤gb152)); have n5_:=Aside0.mk ((by rw [hg]; exact Nat.ne_of_lt (blk_lt (g:=gb151) (o:=.cells #[.int .i64 a0_0,.int .u64 a0_1,.int .i64 a0_2,.int .u64 a0_3,.bool a0_4,.int .u64 a0_5,.bool a0_6,.int .u64 a0_7,.bool a0_8,.int .u64 a0_9,.bool a0_10,.int .u64 a0_11,.bool a0_12] 50 (0,0)) (by (with_reducible repeat (first | refine blk_drewN ?_ _ | refine blk_drew ?_ | refine blk_alloc ?_ _)); exact BK151.out)):gb151≠gb152)); have n6_:=Aside0.mk ((by rw [hg]; exact Nat.ne_of_gt (blk_lt (g:=gb151) (o:=.cells #[.int .i64 a0_0,.int .u64 a0_1,.int .i64 a0_2,.int .u64 a0_3,.bool a0_4,.int .u64 a0_5,.bool a0_6,.int .u64 a0_7,.bool a0_8,.int .u64 a0_9,.bool a0_10,.int .u64 a0_11,.bool a0_12] 50 (0,0)) (by (with_reducible repeat (first | refine blk_drewN ?_ _ | refine blk_drew ?_ | refine blk_alloc ?_ _)); exact BK151.out)):gb152≠gb151)); clear BK151; clear HB; have BK151:=n0_; have HB:=n1_; have BK152:=n2_; have GW152:=n3_; have GE152:=n4_; have NB151_152:=n5_; have NB152_151:=n6_; clear n0_ n1_ n2_ n3_ n4_ n5_ n6_; clear hb hbox hg; have hnb7:=NB151_152.out; have hnc7:=NB152_151.out; have hcz8_0:w6.cell? ⟨gb151,0,none⟩=some (.int .i64 a0_0):=(blk_cell BK151.out 0).trans rfl; have hcz8_1:w6.cell? ⟨gb151,1,none⟩=some (.int .u64 a0_1):=(blk_cell BK151.out 1).trans rfl; have hcz8_2:w6.cell? ⟨gb151,2,none⟩=some (.int .i64 a0_2):=(blk_cell BK151.out 2).trans rfl; have hcz8_3:w6.cell? ⟨gb151,3,none⟩=some (.int .u64 a0_3):=(blk_cell BK151.out 3).trans rfl; have hcz8_4:w6.cell? ⟨gb151,4,none⟩=some (.bool a0_4):=(blk_cell BK151.out 4).trans rfl; have hcz8_5:w6.cell? ⟨gb151,5,none⟩=some (.int .u64 a0_5):=(blk_cell BK151.out 5).trans rfl; have hcz8_6:w6.cell? ⟨gb151,6,none⟩=some (.bool a0_6):=(blk_cell BK151.out 6).trans rfl; have hcz8_7:w6.cell? ⟨gb151,7,none⟩=some (.int .u64 a0_7):=(blk_cell BK151.out 7).trans rfl; have hcz8_8:w6.cell? ⟨gb151,8,none⟩=some (.bool a0_8):=(blk_cell BK151.out 8).trans rfl; have hcz8_9:w6.cell? ⟨gb151,9,none⟩=some (.int .u64 a0_9):=(blk_cell BK151.out 9).trans rfl; have hcz8_10:w6.cell? ⟨gb151,10,none⟩=some (.bool a0_10):=(blk_cell BK151.out 10).trans rfl; have hcz8_11:w6.cell? ⟨gb151,11,none⟩=some (.int .u64 a0_11):=(blk_cell BK151.out 11).trans rfl; have hcz8_12:w6.cell? ⟨gb151,12,none⟩=some (.bool a0_12):=(blk_cell BK151.out 12).trans rfl; have hfz8_0:=blk_frozen BK151.out 0; have hfz8_1:=blk_frozen BK151.out 1; have hfz8_2:=blk_frozen BK151.out 2; have hfz8_3:=blk_frozen BK151.out 3; have hfz8_4:=blk_frozen BK151.out 4; have hfz8_5:=blk_frozen BK151.out 5; have hfz8_6:=blk_frozen BK151.out 6; have hfz8_7:=blk_frozen BK151.out 7; have hfz8_8:=blk_frozen BK151.out 8; have hfz8_9:=blk_frozen BK151.out 9; have hfz8_10:=blk_frozen BK151.out 10; have hfz8_11:=blk_frozen BK151.out 11; have hfz8_12:=blk_frozen BK151.out 12; have hcz9_0:w6.cell? ⟨gb152,0,none⟩=some (.int .u64 0):=(blk_cell BK152.out 0).trans rfl; have hcz9_1:w6.cell? ⟨gb152,1,none⟩=some (.int .i64 0):=(blk_cell BK152.out 1).trans rfl; have hcz9_2:w6.cell? ⟨gb152,2,none⟩=some (.int .u64 0):=(blk_cell BK152.out 2).trans rfl; have hcz9_3:w6.cell? ⟨gb152,3,none⟩=some (.int .i64 0):=(blk_cell BK152.out 3).trans rfl; have hcz9_4:w6.cell? ⟨gb152,4,none⟩=some (.int .u64 0):=(blk_cell BK152.out 4).trans rfl; have hcz9_5:w6.cell? ⟨gb152,5,none⟩=some (.bool false):=(blk_cell BK152.out 5).trans rfl; have hcz9_6:w6.cell? ⟨gb152,6,none⟩=some (.int .u64 0):=(blk_cell BK152.out 6).trans rfl; have hcz9_7:w6.cell? ⟨gb152,7,none⟩=some (.bool false):=(blk_cell BK152.out 7).trans rfl; have hcz9_8:w6.cell? ⟨gb152,8,none⟩=some (.int .u64 0):=(blk_cell BK152.out 8).trans rfl; have hcz9_9:w6.cell? ⟨gb152,9,none⟩=some (.bool false):=(blk_cell BK152.out 9).trans rfl; have hcz9_10:w6.cell? ⟨gb152,10,none⟩=some (.int .u64 0):=(blk_cell BK152.out 10).trans rfl; have hcz9_11:w6.cell? ⟨gb152,11,none⟩=some (.bool false):=(blk_cell BK152.out 11).trans rfl; have hcz9_12:w6.cell? ⟨gb152,12,none⟩=some (.int .u64 0):=(blk_cell BK152.out 12).trans rfl; have hcz9_13:w6.cell? ⟨gb152,13,none⟩=some (.bool false):=(blk_cell BK152.out 13).trans rfl; have hcz9_14:w6.cell? ⟨gb152,14,none⟩=some (.int .u64 0):=(blk_cell BK152.out 14).trans rfl; have hfz9_0:=blk_frozen BK152.out 0; have hfz9_1:=blk_frozen BK152.out 1; have hfz9_2:=blk_frozen BK152.out 2; have hfz9_3:=blk_frozen BK152.out 3; have hfz9_4:=blk_frozen BK152.out 4; have hfz9_5:=blk_frozen BK152.out 5; have hfz9_6:=blk_frozen BK152.out 6; have hfz9_7:=blk_frozen BK152.out 7; have hfz9_8:=blk_frozen BK152.out 8; have hfz9_9:=blk_frozen BK152.out 9; have hfz9_10:=blk_frozen BK152.out 10; have hfz9_11:=blk_frozen BK152.out 11; have hfz9_12:=blk_frozen BK152.out 12; have hfz9_13:=blk_frozen BK152.out 13; have hfz9_14:=blk_frozen BK152.out 14))
  refine bodyPost_ret (results_ct rfl _ _ gb152 60 #[.int .u64 0,.int .i64 0,.int .u64 0,.int .i64 0,.int .u64 0,.bool false,.int .u64 0,.bool false,.int .u64 0,.bool false,.int .u64 0,.bool false,.int .u64 0,.bool false,.int .u64 0] (0,0) _ rfl (by (with_reducible repeat (first | refine blk_drewN ?_ _ | refine blk_drew ?_ | refine blk_alloc ?_ _)); refine blk_put (cs:=#[.int .u64 0,.int .i64 0,.int .u64 0,.int .i64 0,.int .u64 0,.bool false,.int .u64 0,.bool false,.int .u64 0,.bool false,.int .u64 0,.bool false,.int .u64 0,.bool false,.int .u64 0]) ?_ 14 _ rfl; (with_reducible repeat (first | refine blk_drewN ?_ _ | refine blk_drew ?_ | refine blk_alloc ?_ _)); refine blk_put (cs:=#[.int .u64 0,.int .i64 0,.int .u64 0,.int .i64 0,.int .u64 0,.bool false,.int .u64 0,.bool false,.int .u64 0,.bool false,.int .u64 0,.bool false,.int .u64 0,.bool false,.int .u64 0]) ?_ 13 _ rfl; (with_reducible repeat (first | refine blk_drewN ?_ _ | refine blk_drew ?_ | refine blk_alloc ?_ _)); refine blk_put (cs:=#[.int .u64 0,.int .i64 0,.int .u64 0,.int .i64 0,.int .u64 0,.bool false,.int .u64 0,.bool false,.int .u64 0,.bool false,.int .u64 0,.bool false,.int .u64 0,.bool false,.int .u64 0]) ?_ 12 _ rfl; (with_reducible repeat (first | refine blk_drewN ?_ _ | refine blk_drew ?_ | refine blk_alloc ?_ _)); refine blk_put (cs:=#[.int .u64 0,.int .i64 0,.int .u64 0,.int .i64 0,.int .u64 0,.bool false,.int .u64 0,.bool false,.int .u64 0,.bool false,.int .u64 0,.bool false,.int .u64 0,.bool false,.int .u64 0]) ?_ 11 _ rfl; (with_reducible repeat (first | refine blk_drewN ?_ _ | refine blk_drew ?_ | refine blk_alloc ?_ _)); refine blk_put (cs:=#[.int .u64 0,.int .i64 0,.int .u64 0,.int .i64 0,.int .u64 0,.bool false,.int .u64 0,.bool false,.int .u64 0,.bool false,.int .u64 0,.bool false,.int .u64 0,.bool false,.int .u64 0]) ?_ 10 _ rfl; (with_reducible repeat (first | refine blk_drewN ?_ _ | refine blk_drew ?_ | refine blk_alloc ?_ _)); refine blk_put (cs:=#[.int .u64 0,.int .i64 0,.int .u64 0,.int .i64 0,.int .u64 0,.bool false,.int .u64 0,.bool false,.int .u64 0,.bool false,.int .u64 0,.bool false,.int .u64 0,.bool false,.int .u64 0]) ?_ 9 _ rfl; (with_reducible repeat (first | refine blk_drewN ?_ _ | refine blk_drew ?_ | refine blk_alloc ?_ _)); refine blk_put (cs:=#[.int .u64 0,.int .i64 0,.int .u64 0,.int .i64 0,.int .u64 0,.bool false,.int .u64 0,.bool false,.int .u64 0,.bool false,.int .u64 0,.bool false,.int .u64 0,.bool false,.int .u64 0]) ?_ 8 _ rfl; (with_reducible repeat (first | refine blk_drewN ?_ _ | refine blk_drew ?_ | refine blk_alloc ?_ _)); refine blk_put (cs:=#[.int .u64 0,.int .i64 0,.int .u64 0,.int .i64 0,.int .u64 0,.bool false,.int .u64 0,.bool false,.int .u64 0,.bool false,.int .u64 0,.bool false,.int .u64 0,.bool false,.int .u64 0]) ?_ 7 _ rfl; (with_reducible repeat (first | refine blk_drewN ?_ _ | refine blk_drew ?_ | refine blk_alloc ?_ _)); refine blk_put (cs:=#[.int .u64 0,.int .i64 0,.int .u64 0,.int .i64 0,.int .u64 0,.bool false,.int .u64 0,.bool false,.int .u64 0,.bool false,.int .u64 0,.bool false,.int .u64 0,.bool false,.int .u64 0]) ?_ 6 _ rfl; (with_reducible repeat (first | refine blk_drewN ?_ _ | refine blk_drew ?_ | refine blk_alloc ?_ _)); refine blk_put (cs:=#[.int .u64 0,.int .i64 0,.int .u64 0,.int .i64 0,.int .u64 0,.bool false,.int .u64 0,.bool false,.int .u64 0,.bool false,.int .u64 0,.bool false,.int .u64 0,.bool false,.int .u64 0]) ?_ 5 _ rfl; (with_reducible repeat (first | refine blk_drewN ?_ _ | refine blk_drew ?_ | refine blk_alloc ?_ _)); refine blk_put (cs:=#[.int .u64 0,.int .i64 0,.int .u64 0,.int .i64 0,.int .u64 0,.bool false,.int .u64 0,.bool false,.int .u64 0,.bool false,.int .u64 0,.bool false,.int .u64 0,.bool false,.int .u64 0]) ?_ 4 _ rfl; (with_reducible repeat (first | refine blk_drewN ?_ _ | refine blk_drew ?_ | refine blk_alloc ?_ _)); refine blk_put (cs:=#[.int .u64 0,.int .i64 0,.int .u64 0,.int .i64 0,.int .u64 0,.bool false,.int .u64 0,.bool false,.int .u64 0,.bool false,.int .u64 0,.bool false,.int .u64 0,.bool false,.int .u64 0]) ?_ 3 _ rfl; (with_reducible repeat (first | refine blk_drewN ?_ _ | refine blk_drew ?_ | refine blk_alloc ?_ _)); refine blk_put (cs:=#[.int .u64 0,.int .i64 0,.int .u64 0,.int .i64 0,.int .u64 0,.bool false,.int .u64 0,.bool false,.int .u64 0,.bool false,.int .u64 0,.bool false,.int .u64 0,.bool false,.int .u64 0]) ?_ 2 _ rfl; (with_reducible repeat (first | refine blk_drewN ?_ _ | refine blk_drew ?_ | refine blk_alloc ?_ _)); refine blk_put (cs:=#[.int .u64 0,.int .i64 0,.int .u64 0,.int .i64 0,.int .u64 0,.bool false,.int .u64 0,.bool false,.int .u64 0,.bool false,.int .u64 0,.bool false,.int .u64 0,.bool false,.int .u64 0]) ?_ 1 _ rfl; (with_reducible repeat (first | refine blk_drewN ?_ _ | refine blk_drew ?_ | refine blk_alloc ?_ _)); refine blk_put (cs:=#[.int .u64 0,.int .i64 0,.int .u64 0,.int .i64 0,.int .u64 0,.bool false,.int .u64 0,.bool false,.int .u64 0,.bool false,.int .u64 0,.bool false,.int .u64 0,.bool false,.int .u64 0]) ?_ 0 _ rfl; (with_reducible repeat (first | refine blk_drewN ?_ _ | refine blk_drew ?_ | refine blk_alloc ?_ _)); exact BK152.out) Tryd.underlying60 rfl (by kernel_rfl)) rfl ?_
  exact ⟨by first | rfl | (simp [errW_none,errW_some] <;> rfl) | (simp [*,errW_none,errW_some] <;> rfl),by repeat (first | (with_reducible first | exact HB.out | apply below_alloc | apply pw_below_drewN | apply below_drew1 | refine below_set ?_ GE151.out | refine below_set ?_ GE152.out) | exact HB.out)⟩
 ·rw [if_neg c4] at H
  have c4b0:(a0_2 == 1)=false:=beq_eq_false_iff_ne.mpr c4
  have c4b1:(a0_2 != 1)=true:=bne_iff_ne.mpr c4
  by_cases c10:a1=18446744073709551615
  ·rw [if_pos c10] at H
   have c10b0:(a1 == 18446744073709551615)=true:=beq_iff_eq.mpr c10
   have c10b1:(a1 != 18446744073709551615)=false:=bne_eq_false_iff_eq.mpr c10
   clear c10
   simp only [Option.some.injEq,Prod.mk.injEq] at H
   obtain ⟨rfl,rfl,rfl,rfl,rfl,rfl,rfl,rfl,rfl,rfl,rfl,rfl,rfl,rfl,rfl,rfl⟩ :=H
   go_enter Tryd.func28,Tryd.ntmps28
   go_wp2_with (first | ((with_reducible refine gate_dst (N:=3) rfl ?_); refine box_event ?hg (N:=3) ?hd (cs:=#[.int .i64 a0_0,.int .u64 a0_1,.int .i64 a0_2,.int .u64 a0_3,.bool a0_4,.int .u64 a0_5,.bool a0_6,.int .u64 a0_7,.bool a0_8,.int .u64 a0_9,.bool a0_10,.int .u64 a0_11,.bool a0_12]) (t:=50) ?hr ?_; (case hd=>rfl); (case hg=>rfl); (case hr=>first | (go_simp; done) | (go_simp; rfl)); intro gb151 hg w11 hbox hb; have n0_:=Aside0.mk (below_step (by repeat (first | (with_reducible first | exact HB.out | apply below_alloc | apply pw_below_drewN | apply below_drew1) | exact HB.out)) hb); have n1_:=Aside0.mk (hbox); have n2_:=Aside0.mk ((by rw [hg]; exact (below_size (by repeat (first | (with_reducible first | exact HB.out | apply below_alloc | apply pw_below_drewN | apply below_drew1) | exact HB.out))):w.heap.size≤gb151)); have n3_:=Aside0.mk ((by rw [hg]; exact (below_size (by repeat (first | (with_reducible first | exact HB.out | apply below_alloc | apply pw_below_drewN | apply below_drew1) | exact HB.out))):w.heap.size≤gb151)); clear HB; have HB:=n0_; have BK151:=n1_; have GW151:=n2_; have GE151:=n3_; clear n0_ n1_ n2_ n3_; clear hb hbox hg) | ((with_reducible refine gate_dst (N:=6) rfl ?_); refine box_event ?hg (N:=6) ?hd (cs:=#[.int .u64 0,.int .i64 0,.int .u64 0,.int .i64 0,.int .u64 0,.bool false,.int .u64 0,.bool false,.int .u64 0,.bool false,.int .u64 0,.bool false,.int .u64 0,.bool false,.int .u64 0]) (t:=60) ?hr ?_; (case hd=>rfl); (case hg=>rfl); (case hr=>first | (go_simp; done) | (go_simp; rfl)); intro gb152 hg w12 hbox hb; have n0_:=Aside0.mk (blk_below (g:=gb151) (o:=.cells #[.int .i64 a0_0,.int .u64 a0_1,.int .i64 a0_2,.int .u64 a0_3,.bool a0_4,.int .u64 a0_5,.bool a0_6,.int .u64 a0_7,.bool a0_8,.int .u64 a0_9,.bool a0_10,.int .u64 a0_11,.bool a0_12] 50 (0,0)) (by (with_reducible repeat (first | refine blk_drewN ?_ _ | refine blk_drew ?_ | refine blk_alloc ?_ _)); exact BK151.out) hb); have n1_:=Aside0.mk (below_step (by repeat (first | (with_reducible first | exact HB.out | apply below_alloc | apply pw_below_drewN | apply below_drew1 | refine below_set ?_ GE151.out) | exact HB.out)) hb); have n2_:=Aside0.mk (hbox); have n3_:=Aside0.mk ((by rw [hg]; exact (below_size (by repeat (first | (with_reducible first | exact HB.out | apply below_alloc | apply pw_below_drewN | apply below_drew1 | refine below_set ?_ GE151.out) | exact HB.out))):w.heap.size≤gb152)); have n4_:=Aside0.mk ((by rw [hg]; exact (below_size (by repeat (first | (with_reducible first | exact HB.out | apply below_alloc | apply pw_below_drewN | apply below_drew1 | refine below_set ?_ GE151.out) | exact HB.out))):w.heap.size≤gb152)); have n5_:=Aside0.mk ((by rw [hg]; exact Nat.ne_of_lt (blk_lt (g:=gb151) (o:=.cells #[.int .i64 a0_0,.int .u64 a0_1,.int .i64 a0_2,.int .u64 a0_3,.bool a0_4,.int .u64 a0_5,.bool a0_6,.int .u64 a0_7,.bool a0_8,.int .u64 a0_9,.bool a0_10,.int .u64 a0_11,.bool a0_12] 50 (0,0)) (by (with_reducible repeat (first | refine blk_drewN ?_ _ | refine blk_drew ?_ | refine blk_alloc ?_ _)); exact BK151.out)):gb151≠gb152)); have n6_:=Aside0.mk ((by rw [hg]; exact Nat.ne_of_gt (blk_lt (g:=gb151) (o:=.cells #[.int .i64 a0_0,.int .u64 a0_1,.int .i64 a0_2,.int .u64 a0_3,.bool a0_4,.int .u64 a0_5,.bool a0_6,.int .u64 a0_7,.bool a0_8,.int .u64 a0_9,.bool a0_10,.int .u64 a0_11,.bool a0_12] 50 (0,0)) (by (with_reducible repeat (first | refine blk_drewN ?_ _ | refine blk_drew ?_ | refine blk_alloc ?_ _)); exact BK151.out)):gb152≠gb151)); clear BK151; clear HB; have BK151:=n0_; have HB:=n1_; have BK152:=n2_; have GW152:=n3_; have GE152:=n4_; have NB151_152:=n5_; have NB152_151:=n6_; clear n0_ n1_ n2_ n3_ n4_ n5_ n6_; clear hb hbox hg; have hnb13:=NB151_152.out; have hnc13:=NB152_151.out; have hcz14_0:w12.cell? ⟨gb151,0,none⟩=some (.int .i64 a0_0):=(blk_cell BK151.out 0).trans rfl; have hcz14_1:w12.cell? ⟨gb151,1,none⟩=some (.int .u64 a0_1):=(blk_cell BK151.out 1).trans rfl; have hcz14_2:w12.cell? ⟨gb151,2,none⟩=some (.int .i64 a0_2):=(blk_cell BK151.out 2).trans rfl; have hcz14_3:w12.cell? ⟨gb151,3,none⟩=some (.int .u64 a0_3):=(blk_cell BK151.out 3).trans rfl; have hcz14_4:w12.cell? ⟨gb151,4,none⟩=some (.bool a0_4):=(blk_cell BK151.out 4).trans rfl; have hcz14_5:w12.cell? ⟨gb151,5,none⟩=some (.int .u64 a0_5):=(blk_cell BK151.out 5).trans rfl; have hcz14_6:w12.cell? ⟨gb151,6,none⟩=some (.bool a0_6):=(blk_cell BK151.out 6).trans rfl; have hcz14_7:w12.cell? ⟨gb151,7,none⟩=some (.int .u64 a0_7):=(blk_cell BK151.out 7).trans rfl; have hcz14_8:w12.cell? ⟨gb151,8,none⟩=some (.bool a0_8):=(blk_cell BK151.out 8).trans rfl; have hcz14_9:w12.cell? ⟨gb151,9,none⟩=some (.int .u64 a0_9):=(blk_cell BK151.out 9).trans rfl; have hcz14_10:w12.cell? ⟨gb151,10,none⟩=some (.bool a0_10):=(blk_cell BK151.out 10).trans rfl; have hcz14_11:w12.cell? ⟨gb151,11,none⟩=some (.int .u64 a0_11):=(blk_cell BK151.out 11).trans rfl; have hcz14_12:w12.cell? ⟨gb151,12,none⟩=some (.bool a0_12):=(blk_cell BK151.out 12).trans rfl; have hfz14_0:=blk_frozen BK151.out 0; have hfz14_1:=blk_frozen BK151.out 1; have hfz14_2:=blk_frozen BK151.out 2; have hfz14_3:=blk_frozen BK151.out 3; have hfz14_4:=blk_frozen BK151.out 4; have hfz14_5:=blk_frozen BK151.out 5; have hfz14_6:=blk_frozen BK151.out 6; have hfz14_7:=blk_frozen BK151.out 7; have hfz14_8:=blk_frozen BK151.out 8; have hfz14_9:=blk_frozen BK151.out 9; have hfz14_10:=blk_frozen BK151.out 10; have hfz14_11:=blk_frozen BK151.out 11; have hfz14_12:=blk_frozen BK151.out 12; have hcz15_0:w12.cell? ⟨gb152,0,none⟩=some (.int .u64 0):=(blk_cell BK152.out 0).trans rfl; have hcz15_1:w12.cell? ⟨gb152,1,none⟩=some (.int .i64 0):=(blk_cell BK152.out 1).trans rfl; have hcz15_2:w12.cell? ⟨gb152,2,none⟩=some (.int .u64 0):=(blk_cell BK152.out 2).trans rfl; have hcz15_3:w12.cell? ⟨gb152,3,none⟩=some (.int .i64 0):=(blk_cell BK152.out 3).trans rfl; have hcz15_4:w12.cell? ⟨gb152,4,none⟩=some (.int .u64 0):=(blk_cell BK152.out 4).trans rfl; have hcz15_5:w12.cell? ⟨gb152,5,none⟩=some (.bool false):=(blk_cell BK152.out 5).trans rfl; have hcz15_6:w12.cell? ⟨gb152,6,none⟩=some (.int .u64 0):=(blk_cell BK152.out 6).trans rfl; have hcz15_7:w12.cell? ⟨gb152,7,none⟩=some (.bool false):=(blk_cell BK152.out 7).trans rfl; have hcz15_8:w12.cell? ⟨gb152,8,none⟩=some (.int .u64 0):=(blk_cell BK152.out 8).trans rfl; have hcz15_9:w12.cell? ⟨gb152,9,none⟩=some (.bool false):=(blk_cell BK152.out 9).trans rfl; have hcz15_10:w12.cell? ⟨gb152,10,none⟩=some (.int .u64 0):=(blk_cell BK152.out 10).trans rfl; have hcz15_11:w12.cell? ⟨gb152,11,none⟩=some (.bool false):=(blk_cell BK152.out 11).trans rfl; have hcz15_12:w12.cell? ⟨gb152,12,none⟩=some (.int .u64 0):=(blk_cell BK152.out 12).trans rfl; have hcz15_13:w12.cell? ⟨gb152,13,none⟩=some (.bool false):=(blk_cell BK152.out 13).trans rfl; have hcz15_14:w12.cell? ⟨gb152,14,none⟩=some (.int .u64 0):=(blk_cell BK152.out 14).trans rfl; have hfz15_0:=blk_frozen BK152.out 0; have hfz15_1:=blk_frozen BK152.out 1; have hfz15_2:=blk_frozen BK152.out 2; have hfz15_3:=blk_frozen BK152.out 3; have hfz15_4:=blk_frozen BK152.out 4; have hfz15_5:=blk_frozen BK152.out 5; have hfz15_6:=blk_frozen BK152.out 6; have hfz15_7:=blk_frozen BK152.out 7; have hfz15_8:=blk_frozen BK152.out 8; have hfz15_9:=blk_frozen BK152.out 9; have hfz15_10:=blk_frozen BK152.out 10; have hfz15_11:=blk_frozen BK152.out 11; have hfz15_12:=blk_frozen BK152.out 12; have hfz15_13:=blk_frozen BK152.out 13; have hfz15_14:=blk_frozen BK152.out 14))
   refine bodyPost_ret (results_ct rfl _ _ gb152 60 #[.int .u64 0,.int .i64 0,.int .u64 0,.int .i64 0,.int .u64 0,.bool false,.int .u64 0,.bool false,.int .u64 0,.bool false,.int .u64 0,.bool false,.int .u64 0,.bool false,.int .u64 0] (0,0) _ rfl (by (with_reducible repeat (first | refine blk_drewN ?_ _ | refine blk_drew ?_ | refine blk_alloc ?_ _)); refine blk_put (cs:=#[.int .u64 0,.int .i64 0,.int .u64 0,.int .i64 0,.int .u64 0,.bool false,.int .u64 0,.bool false,.int .u64 0,.bool false,.int .u64 0,.bool false,.int .u64 0,.bool false,.int .u64 0]) ?_ 14 _ rfl; (with_reducible repeat (first | refine blk_drewN ?_ _ | refine blk_drew ?_ | refine blk_alloc ?_ _)); refine blk_put (cs:=#[.int .u64 0,.int .i64 0,.int .u64 0,.int .i64 0,.int .u64 0,.bool false,.int .u64 0,.bool false,.int .u64 0,.bool false,.int .u64 0,.bool false,.int .u64 0,.bool false,.int .u64 0]) ?_ 13 _ rfl; (with_reducible repeat (first | refine blk_drewN ?_ _ | refine blk_drew ?_ | refine blk_alloc ?_ _)); refine blk_put (cs:=#[.int .u64 0,.int .i64 0,.int .u64 0,.int .i64 0,.int .u64 0,.bool false,.int .u64 0,.bool false,.int .u64 0,.bool false,.int .u64 0,.bool false,.int .u64 0,.bool false,.int .u64 0]) ?_ 12 _ rfl; (with_reducible repeat (first | refine blk_drewN ?_ _ | refine blk_drew ?_ | refine blk_alloc ?_ _)); refine blk_put (cs:=#[.int .u64 0,.int .i64 0,.int .u64 0,.int .i64 0,.int .u64 0,.bool false,.int .u64 0,.bool false,.int .u64 0,.bool false,.int .u64 0,.bool false,.int .u64 0,.bool false,.int .u64 0]) ?_ 11 _ rfl; (with_reducible repeat (first | refine blk_drewN ?_ _ | refine blk_drew ?_ | refine blk_alloc ?_ _)); refine blk_put (cs:=#[.int .u64 0,.int .i64 0,.int .u64 0,.int .i64 0,.int .u64 0,.bool false,.int .u64 0,.bool false,.int .u64 0,.bool false,.int .u64 0,.bool false,.int .u64 0,.bool false,.int .u64 0]) ?_ 10 _ rfl; (with_reducible repeat (first | refine blk_drewN ?_ _ | refine blk_drew ?_ | refine blk_alloc ?_ _)); refine blk_put (cs:=#[.int .u64 0,.int .i64 0,.int .u64 0,.int .i64 0,.int .u64 0,.bool false,.int .u64 0,.bool false,.int .u64 0,.bool false,.int .u64 0,.bool false,.int .u64 0,.bool false,.int .u64 0]) ?_ 9 _ rfl; (with_reducible repeat (first | refine blk_drewN ?_ _ | refine blk_drew ?_ | refine blk_alloc ?_ _)); refine blk_put (cs:=#[.int .u64 0,.int .i64 0,.int .u64 0,.int .i64 0,.int .u64 0,.bool false,.int .u64 0,.bool false,.int .u64 0,.bool false,.int .u64 0,.bool false,.int .u64 0,.bool false,.int .u64 0]) ?_ 8 _ rfl; (with_reducible repeat (first | refine blk_drewN ?_ _ | refine blk_drew ?_ | refine blk_alloc ?_ _)); refine blk_put (cs:=#[.int .u64 0,.int .i64 0,.int .u64 0,.int .i64 0,.int .u64 0,.bool false,.int .u64 0,.bool false,.int .u64 0,.bool false,.int .u64 0,.bool false,.int .u64 0,.bool false,.int .u64 0]) ?_ 7 _ rfl; (with_reducible repeat (first | refine blk_drewN ?_ _ | refine blk_drew ?_ | refine blk_alloc ?_ _)); refine blk_put (cs:=#[.int .u64 0,.int .i64 0,.int .u64 0,.int .i64 0,.int .u64 0,.bool false,.int .u64 0,.bool false,.int .u64 0,.bool false,.int .u64 0,.bool false,.int .u64 0,.bool false,.int .u64 0]) ?_ 6 _ rfl; (with_reducible repeat (first | refine blk_drewN ?_ _ | refine blk_drew ?_ | refine blk_alloc ?_ _)); refine blk_put (cs:=#[.int .u64 0,.int .i64 0,.int .u64 0,.int .i64 0,.int .u64 0,.bool false,.int .u64 0,.bool false,.int .u64 0,.bool false,.int .u64 0,.bool false,.int .u64 0,.bool false,.int .u64 0]) ?_ 5 _ rfl; (with_reducible repeat (first | refine blk_drewN ?_ _ | refine blk_drew ?_ | refine blk_alloc ?_ _)); refine blk_put (cs:=#[.int .u64 0,.int .i64 0,.int .u64 0,.int .i64 0,.int .u64 0,.bool false,.int .u64 0,.bool false,.int .u64 0,.bool false,.int .u64 0,.bool false,.int .u64 0,.bool false,.int .u64 0]) ?_ 4 _ rfl; (with_reducible repeat (first | refine blk_drewN ?_ _ | refine blk_drew ?_ | refine blk_alloc ?_ _)); refine blk_put (cs:=#[.int .u64 0,.int .i64 0,.int .u64 0,.int .i64 0,.int .u64 0,.bool false,.int .u64 0,.bool false,.int .u64 0,.bool false,.int .u64 0,.bool false,.int .u64 0,.bool false,.int .u64 0]) ?_ 3 _ rfl; (with_reducible repeat (first | refine blk_drewN ?_ _ | refine blk_drew ?_ | refine blk_alloc ?_ _)); refine blk_put (cs:=#[.int .u64 0,.int .i64 0,.int .u64 0,.int .i64 0,.int .u64 0,.bool false,.int .u64 0,.bool false,.int .u64 0,.bool false,.int .u64 0,.bool false,.int .u64 0,.bool false,.int .u64 0]) ?_ 2 _ rfl; (with_reducible repeat (first | refine blk_drewN ?_ _ | refine blk_drew ?_ | refine blk_alloc ?_ _)); refine blk_put (cs:=#[.int .u64 0,.int .i64 0,.int .u64 0,.int .i64 0,.int .u64 0,.bool false,.int .u64 0,.bool false,.int .u64 0,.bool false,.int .u64 0,.bool false,.int .u64 0,.bool false,.int .u64 0]) ?_ 1 _ rfl; (with_reducible repeat (first | refine blk_drewN ?_ _ | refine blk_drew ?_ | refine blk_alloc ?_ _)); refine blk_put (cs:=#[.int .u64 0,.int .i64 0,.int .u64 0,.int .i64 0,.int .u64 0,.bool false,.int .u64 0,.bool false,.int .u64 0,.bool false,.int .u64 0,.bool false,.int .u64 0,.bool false,.int .u64 0]) ?_ 0 _ rfl; (with_reducible repeat (first | refine blk_drewN ?_ _ | refine blk_drew ?_ | refine blk_alloc ?_ _)); exact BK152.out) Tryd.underlying60 rfl (by kernel_rfl)) rfl ?_
   exact ⟨by first | rfl | (simp [errW_none,errW_some] <;> rfl) | (simp [*,errW_none,errW_some] <;> rfl),by repeat (first | (with_reducible first | exact HB.out | apply below_alloc | apply pw_below_drewN | apply below_drew1 | refine below_set ?_ GE151.out | refine below_set ?_ GE152.out) | exact HB.out)⟩
  ·rw [if_neg c10] at H
   have c10b0:(a1 == 18446744073709551615)=false:=beq_eq_false_iff_ne.mpr c10
   have c10b1:(a1 != 18446744073709551615)=true:=bne_iff_ne.mpr c10
   replace H:=Option.bind_eq_some_iff.mp H
   obtain ⟨⟨t153,t154⟩,A160,H⟩ :=H
   replace H:(some (t153,a0_0,a0_1,mx (wrap64 (a0_2 - 1)) 0,a0_3,a0_4,a0_5,a0_6,a0_7,a0_8,a0_9,a0_10,a0_11,a0_12,t154,0))=some (r1,r2,r3,r4,r5,r6,r7,r8,r9,r10,r11,r12,r13,r14,r15,r16):=H
   have A16:=Aside0.mk A160
   clear A160
   obtain ⟨ji17,hji17⟩:∃ j_:Int,(mx (wrap64 (a0_2 - 1)) 0)=j_:=⟨_,rfl⟩
   replace H:(some (t153,a0_0,a0_1,ji17,a0_3,a0_4,a0_5,a0_6,a0_7,a0_8,a0_9,a0_10,a0_11,a0_12,t154,0))=some (r1,r2,r3,r4,r5,r6,r7,r8,r9,r10,r11,r12,r13,r14,r15,r16):=by first | (rw [hji17] at H; exact H) | (simp only [hji17] at H ⊢; exact H)
   (try rw [hji17] at A16)
   (try (have hji17l:0≤ji17:=by (rw [← hji17]; unfold mx; (repeat' split) <;> omega)))
   (try (have hji17m:0≤ji17:=by omega))
   have hji17_:(if (wrap64 (a0_2 - 1)) < 0 then 0 else (wrap64 (a0_2 - 1)))=ji17:=hji17
   simp only [Option.some.injEq,Prod.mk.injEq] at H
   obtain ⟨rfl,rfl,rfl,rfl,rfl,rfl,rfl,rfl,rfl,rfl,rfl,rfl,rfl,rfl,rfl,rfl⟩ :=H
   go_enter Tryd.func28,Tryd.ntmps28
   go_wp2_with (first | ((with_reducible refine gate_dst (N:=3) rfl ?_); refine box_event ?hg (N:=3) ?hd (cs:=#[.int .i64 a0_0,.int .u64 a0_1,.int .i64 a0_2,.int .u64 a0_3,.bool a0_4,.int .u64 a0_5,.bool a0_6,.int .u64 a0_7,.bool a0_8,.int .u64 a0_9,.bool a0_10,.int .u64 a0_11,.bool a0_12]) (t:=50) ?hr ?_; (case hd=>rfl); (case hg=>rfl); (case hr=>first | (go_simp; done) | (go_simp; rfl)); intro gb151 hg w18 hbox hb; have n0_:=Aside0.mk (below_step (by repeat (first | (with_reducible first | exact HB.out | apply below_alloc | apply pw_below_drewN | apply below_drew1) | exact HB.out)) hb); have n1_:=Aside0.mk (hbox); have n2_:=Aside0.mk ((by rw [hg]; exact (below_size (by repeat (first | (with_reducible first | exact HB.out | apply below_alloc | apply pw_below_drewN | apply below_drew1) | exact HB.out))):w.heap.size≤gb151)); have n3_:=Aside0.mk ((by rw [hg]; exact (below_size (by repeat (first | (with_reducible first | exact HB.out | apply below_alloc | apply pw_below_drewN | apply below_drew1) | exact HB.out))):w.heap.size≤gb151)); clear HB; have HB:=n0_; have BK151:=n1_; have GW151:=n2_; have GE151:=n3_; clear n0_ n1_ n2_ n3_; clear hb hbox hg) | ((with_reducible refine gate_dst (N:=6) rfl ?_); refine box_event ?hg (N:=6) ?hd (cs:=#[.int .u64 0,.int .i64 0,.int .u64 0,.int .i64 0,.int .u64 0,.bool false,.int .u64 0,.bool false,.int .u64 0,.bool false,.int .u64 0,.bool false,.int .u64 0,.bool false,.int .u64 0]) (t:=60) ?hr ?_; (case hd=>rfl); (case hg=>rfl); (case hr=>first | (go_simp; done) | (go_simp; rfl)); intro gb152 hg w19 hbox hb; have n0_:=Aside0.mk (blk_below (g:=gb151) (o:=.cells #[.int .i64 a0_0,.int .u64 a0_1,.int .i64 a0_2,.int .u64 a0_3,.bool a0_4,.int .u64 a0_5,.bool a0_6,.int .u64 a0_7,.bool a0_8,.int .u64 a0_9,.bool a0_10,.int .u64 a0_11,.bool a0_12] 50 (0,0)) (by (with_reducible repeat (first | refine blk_drewN ?_ _ | refine blk_drew ?_ | refine blk_alloc ?_ _)); exact BK151.out) hb); have n1_:=Aside0.mk (below_step (by repeat (first | (with_reducible first | exact HB.out | apply below_alloc | apply pw_below_drewN | apply below_drew1 | refine below_set ?_ GE151.out) | exact HB.out)) hb); have n2_:=Aside0.mk (hbox); have n3_:=Aside0.mk ((by rw [hg]; exact (below_size (by repeat (first | (with_reducible first | exact HB.out | apply below_alloc | apply pw_below_drewN | apply below_drew1 | refine below_set ?_ GE151.out) | exact HB.out))):w.heap.size≤gb152)); have n4_:=Aside0.mk ((by rw [hg]; exact (below_size (by repeat (first | (with_reducible first | exact HB.out | apply below_alloc | apply pw_below_drewN | apply below_drew1 | refine below_set ?_ GE151.out) | exact HB.out))):w.heap.size≤gb152)); have n5_:=Aside0.mk ((by rw [hg]; exact Nat.ne_of_lt (blk_lt (g:=gb151) (o:=.cells #[.int .i64 a0_0,.int .u64 a0_1,.int .i64 a0_2,.int .u64 a0_3,.bool a0_4,.int .u64 a0_5,.bool a0_6,.int .u64 a0_7,.bool a0_8,.int .u64 a0_9,.bool a0_10,.int .u64 a0_11,.bool a0_12] 50 (0,0)) (by (with_reducible repeat (first | refine blk_drewN ?_ _ | refine blk_drew ?_ | refine blk_alloc ?_ _)); exact BK151.out)):gb151≠gb152)); have n6_:=Aside0.mk ((by rw [hg]; exact Nat.ne_of_gt (blk_lt (g:=gb151) (o:=.cells #[.int .i64 a0_0,.int .u64 a0_1,.int .i64 a0_2,.int .u64 a0_3,.bool a0_4,.int .u64 a0_5,.bool a0_6,.int .u64 a0_7,.bool a0_8,.int .u64 a0_9,.bool a0_10,.int .u64 a0_11,.bool a0_12] 50 (0,0)) (by (with_reducible repeat (first | refine blk_drewN ?_ _ | refine blk_drew ?_ | refine blk_alloc ?_ _)); exact BK151.out)):gb152≠gb151)); clear BK151; clear HB; have BK151:=n0_; have HB:=n1_; have BK152:=n2_; have GW152:=n3_; have GE152:=n4_; have NB151_152:=n5_; have NB152_151:=n6_; clear n0_ n1_ n2_ n3_ n4_ n5_ n6_; clear hb hbox hg; have hnb20:=NB151_152.out; have hnc20:=NB152_151.out; have hcz21_0:w19.cell? ⟨gb151,0,none⟩=some (.int .i64 a0_0):=(blk_cell BK151.out 0).trans rfl; have hcz21_1:w19.cell? ⟨gb151,1,none⟩=some (.int .u64 a0_1):=(blk_cell BK151.out 1).trans rfl; have hcz21_2:w19.cell? ⟨gb151,2,none⟩=some (.int .i64 a0_2):=(blk_cell BK151.out 2).trans rfl; have hcz21_3:w19.cell? ⟨gb151,3,none⟩=some (.int .u64 a0_3):=(blk_cell BK151.out 3).trans rfl; have hcz21_4:w19.cell? ⟨gb151,4,none⟩=some (.bool a0_4):=(blk_cell BK151.out 4).trans rfl; have hcz21_5:w19.cell? ⟨gb151,5,none⟩=some (.int .u64 a0_5):=(blk_cell BK151.out 5).trans rfl; have hcz21_6:w19.cell? ⟨gb151,6,none⟩=some (.bool a0_6):=(blk_cell BK151.out 6).trans rfl; have hcz21_7:w19.cell? ⟨gb151,7,none⟩=some (.int .u64 a0_7):=(blk_cell BK151.out 7).trans rfl; have hcz21_8:w19.cell? ⟨gb151,8,none⟩=some (.bool a0_8):=(blk_cell BK151.out 8).trans rfl; have hcz21_9:w19.cell? ⟨gb151,9,none⟩=some (.int .u64 a0_9):=(blk_cell BK151.out 9).trans rfl; have hcz21_10:w19.cell? ⟨gb151,10,none⟩=some (.bool a0_10):=(blk_cell BK151.out 10).trans rfl; have hcz21_11:w19.cell? ⟨gb151,11,none⟩=some (.int .u64 a0_11):=(blk_cell BK151.out 11).trans rfl; have hcz21_12:w19.cell? ⟨gb151,12,none⟩=some (.bool a0_12):=(blk_cell BK151.out 12).trans rfl; have hfz21_0:=blk_frozen BK151.out 0; have hfz21_1:=blk_frozen BK151.out 1; have hfz21_2:=blk_frozen BK151.out 2; have hfz21_3:=blk_frozen BK151.out 3; have hfz21_4:=blk_frozen BK151.out 4; have hfz21_5:=blk_frozen BK151.out 5; have hfz21_6:=blk_frozen BK151.out 6; have hfz21_7:=blk_frozen BK151.out 7; have hfz21_8:=blk_frozen BK151.out 8; have hfz21_9:=blk_frozen BK151.out 9; have hfz21_10:=blk_frozen BK151.out 10; have hfz21_11:=blk_frozen BK151.out 11; have hfz21_12:=blk_frozen BK151.out 12) | ((with_reducible refine gate_callee (f:=56) rfl ?_); refine goesL_ (some 23) rfl rfl Tryd.func56 (by kernel_rfl) rfl #[.int .u64 a1,.int .u64 a0_1,.int .u64 a2] rfl (by (try simp only [List.map_toArray,List.map_cons,List.map_nil]); first | done | rfl | (simp only [List.length_drop,List.length_take]; rfl)) ?_; (with_reducible refine (tick_After.calls a1 a0_1 a2 t153 t154 _ A16.out).mono ?_); rintro e w' ⟨rfl,⟨nd,rfl⟩⟩; refine ⟨_,rfl,?_⟩; (try (rw [drewN_self w19]; generalize hq_:World.drewN w19 _=w19; have n0_:Aside0 (w19.heap[gb151]?=some (.cells #[.int .i64 a0_0,.int .u64 a0_1,.int .i64 a0_2,.int .u64 a0_3,.bool a0_4,.int .u64 a0_5,.bool a0_6,.int .u64 a0_7,.bool a0_8,.int .u64 a0_9,.bool a0_10,.int .u64 a0_11,.bool a0_12] 50 (0,0))):=⟨by rw [← hq_]; exact (by (with_reducible repeat (first | refine blk_drewN ?_ _ | refine blk_drew ?_ | refine blk_alloc ?_ _)); exact BK151.out)⟩; have n1_:Aside0 (w19.heap[gb152]?=some (.cells #[.int .u64 0,.int .i64 0,.int .u64 0,.int .i64 0,.int .u64 0,.bool false,.int .u64 0,.bool false,.int .u64 0,.bool false,.int .u64 0,.bool false,.int .u64 0,.bool false,.int .u64 0] 60 (0,0))):=⟨by rw [← hq_]; exact (by (with_reducible repeat (first | refine blk_drewN ?_ _ | refine blk_drew ?_ | refine blk_alloc ?_ _)); exact BK152.out)⟩; have n2_:Aside0 (Below w.heap.size w w19):=⟨by rw [← hq_]; exact (by repeat (first | (with_reducible first | exact HB.out | apply below_alloc | apply pw_below_drewN | apply below_drew1 | refine below_set ?_ GE151.out | refine below_set ?_ GE152.out) | exact HB.out))⟩; clear BK151 BK152 HB hq_; have BK151:=n0_; have BK152:=n1_; have HB:=n2_; clear n0_ n1_ n2_)); have hczx_0:w19.cell? ⟨gb151,0,none⟩=some (.int .i64 a0_0):=(blk_cell BK151.out 0).trans rfl; have hczx_1:w19.cell? ⟨gb151,1,none⟩=some (.int .u64 a0_1):=(blk_cell BK151.out 1).trans rfl; have hczx_2:w19.cell? ⟨gb151,2,none⟩=some (.int .i64 a0_2):=(blk_cell BK151.out 2).trans rfl; have hczx_3:w19.cell? ⟨gb151,3,none⟩=some (.int .u64 a0_3):=(blk_cell BK151.out 3).trans rfl; have hczx_4:w19.cell? ⟨gb151,4,none⟩=some (.bool a0_4):=(blk_cell BK151.out 4).trans rfl; have hczx_5:w19.cell? ⟨gb151,5,none⟩=some (.int .u64 a0_5):=(blk_cell BK151.out 5).trans rfl; have hczx_6:w19.cell? ⟨gb151,6,none⟩=some (.bool a0_6):=(blk_cell BK151.out 6).trans rfl; have hczx_7:w19.cell? ⟨gb151,7,none⟩=some (.int .u64 a0_7):=(blk_cell BK151.out 7).trans rfl; have hczx_8:w19.cell? ⟨gb151,8,none⟩=some (.bool a0_8):=(blk_cell BK151.out 8).trans rfl; have hczx_9:w19.cell? ⟨gb151,9,none⟩=some (.int .u64 a0_9):=(blk_cell BK151.out 9).trans rfl; have hczx_10:w19.cell? ⟨gb151,10,none⟩=some (.bool a0_10):=(blk_cell BK151.out 10).trans rfl; have hczx_11:w19.cell? ⟨gb151,11,none⟩=some (.int .u64 a0_11):=(blk_cell BK151.out 11).trans rfl; have hczx_12:w19.cell? ⟨gb151,12,none⟩=some (.bool a0_12):=(blk_cell BK151.out 12).trans rfl; have hfzx_0:=blk_frozen BK151.out 0; have hfzx_1:=blk_frozen BK151.out 1; have hfzx_2:=blk_frozen BK151.out 2; have hfzx_3:=blk_frozen BK151.out 3; have hfzx_4:=blk_frozen BK151.out 4; have hfzx_5:=blk_frozen BK151.out 5; have hfzx_6:=blk_frozen BK151.out 6; have hfzx_7:=blk_frozen BK151.out 7; have hfzx_8:=blk_frozen BK151.out 8; have hfzx_9:=blk_frozen BK151.out 9; have hfzx_10:=blk_frozen BK151.out 10; have hfzx_11:=blk_frozen BK151.out 11; have hfzx_12:=blk_frozen BK151.out 12; have hcz22_0:w19.cell? ⟨gb152,0,none⟩=some (.int .u64 0):=(blk_cell BK152.out 0).trans rfl; have hcz22_1:w19.cell? ⟨gb152,1,none⟩=some (.int .i64 0):=(blk_cell BK152.out 1).trans rfl; have hcz22_2:w19.cell? ⟨gb152,2,none⟩=some (.int .u64 0):=(blk_cell BK152.out 2).trans rfl; have hcz22_3:w19.cell? ⟨gb152,3,none⟩=some (.int .i64 0):=(blk_cell BK152.out 3).trans rfl; have hcz22_4:w19.cell? ⟨gb152,4,none⟩=some (.int .u64 0):=(blk_cell BK152.out 4).trans rfl; have hcz22_5:w19.cell? ⟨gb152,5,none⟩=some (.bool false):=(blk_cell BK152.out 5).trans rfl; have hcz22_6:w19.cell? ⟨gb152,6,none⟩=some (.int .u64 0):=(blk_cell BK152.out 6).trans rfl; have hcz22_7:w19.cell? ⟨gb152,7,none⟩=some (.bool false):=(blk_cell BK152.out 7).trans rfl; have hcz22_8:w19.cell? ⟨gb152,8,none⟩=some (.int .u64 0):=(blk_cell BK152.out 8).trans rfl; have hcz22_9:w19.cell? ⟨gb152,9,none⟩=some (.bool false):=(blk_cell BK152.out 9).trans rfl; have hcz22_10:w19.cell? ⟨gb152,10,none⟩=some (.int .u64 0):=(blk_cell BK152.out 10).trans rfl; have hcz22_11:w19.cell? ⟨gb152,11,none⟩=some (.bool false):=(blk_cell BK152.out 11).trans rfl; have hcz22_12:w19.cell? ⟨gb152,12,none⟩=some (.int .u64 0):=(blk_cell BK152.out 12).trans rfl; have hcz22_13:w19.cell? ⟨gb152,13,none⟩=some (.bool false):=(blk_cell BK152.out 13).trans rfl; have hcz22_14:w19.cell? ⟨gb152,14,none⟩=some (.int .u64 0):=(blk_cell BK152.out 14).trans rfl; have hfz22_0:=blk_frozen BK152.out 0; have hfz22_1:=blk_frozen BK152.out 1; have hfz22_2:=blk_frozen BK152.out 2; have hfz22_3:=blk_frozen BK152.out 3; have hfz22_4:=blk_frozen BK152.out 4; have hfz22_5:=blk_frozen BK152.out 5; have hfz22_6:=blk_frozen BK152.out 6; have hfz22_7:=blk_frozen BK152.out 7; have hfz22_8:=blk_frozen BK152.out 8; have hfz22_9:=blk_frozen BK152.out 9; have hfz22_10:=blk_frozen BK152.out 10; have hfz22_11:=blk_frozen BK152.out 11; have hfz22_12:=blk_frozen BK152.out 12; have hfz22_13:=blk_frozen BK152.out 13; have hfz22_14:=blk_frozen BK152.out 14))
   refine bodyPost_ret (results_ct rfl _ _ gb152 60 #[.int .u64 t153,.int .i64 a0_0,.int .u64 a0_1,.int .i64 ji17,.int .u64 a0_3,.bool a0_4,.int .u64 a0_5,.bool a0_6,.int .u64 a0_7,.bool a0_8,.int .u64 a0_9,.bool a0_10,.int .u64 a0_11,.bool a0_12,.int .u64 t154] (0,0) _ rfl (by (with_reducible repeat (first | refine blk_drewN ?_ _ | refine blk_drew ?_ | refine blk_alloc ?_ _)); refine blk_put (cs:=#[.int .u64 t153,.int .i64 a0_0,.int .u64 a0_1,.int .i64 ji17,.int .u64 a0_3,.bool a0_4,.int .u64 a0_5,.bool a0_6,.int .u64 a0_7,.bool a0_8,.int .u64 a0_9,.bool a0_10,.int .u64 a0_11,.bool a0_12,.int .u64 0]) ?_ 14 _ rfl; (with_reducible repeat (first | refine blk_drewN ?_ _ | refine blk_drew ?_ | refine blk_alloc ?_ _)); refine blk_put (cs:=#[.int .u64 t153,.int .i64 a0_0,.int .u64 a0_1,.int .i64 ji17,.int .u64 a0_3,.bool a0_4,.int .u64 a0_5,.bool a0_6,.int .u64 a0_7,.bool a0_8,.int .u64 a0_9,.bool a0_10,.int .u64 a0_11,.bool false,.int .u64 0]) ?_ 13 _ rfl; (with_reducible repeat (first | refine blk_drewN ?_ _ | refine blk_drew ?_ | refine blk_alloc ?_ _)); refine blk_put (cs:=#[.int .u64 t153,.int .i64 a0_0,.int .u64 a0_1,.int .i64 ji17,.int .u64 a0_3,.bool a0_4,.int .u64 a0_5,.bool a0_6,.int .u64 a0_7,.bool a0_8,.int .u64 a0_9,.bool a0_10,.int .u64 0,.bool false,.int .u64 0]) ?_ 12 _ rfl; (with_reducible repeat (first | refine blk_drewN ?_ _ | refine blk_drew ?_ | refine blk_alloc ?_ _)); refine blk_put (cs:=#[.int .u64 t153,.int .i64 a0_0,.int .u64 a0_1,.int .i64 ji17,.int .u64 a0_3,.bool a0_4,.int .u64 a0_5,.bool a0_6,.int .u64 a0_7,.bool a0_8,.int .u64 a0_9,.bool false,.int .u64 0,.bool false,.int .u64 0]) ?_ 11 _ rfl; (with_reducible repeat (first | refine blk_drewN ?_ _ | refine blk_drew ?_ | refine blk_alloc ?_ _)); refine blk_put (cs:=#[.int .u64 t153,.int .i64 a0_0,.int .u64 a0_1,.int .i64 ji17,.int .u64 a0_3,.bool a0_4,.int .u64 a0_5,.bool a0_6,.int .u64 a0_7,.bool a0_8,.int .u64 0,.bool false,.int .u64 0,.bool false,.int .u64 0]) ?_ 10 _ rfl; (with_reducible repeat (first | refine blk_drewN ?_ _ | refine blk_drew ?_ | refine blk_alloc ?_ _)); refine blk_put (cs:=#[.int .u64 t153,.int .i64 a0_0,.int .u64 a0_1,.int .i64 ji17,.int .u64 a0_3,.bool a0_4,.int .u64 a0_5,.bool a0_6,.int .u64 a0_7,.bool false,.int .u64 0,.bool false,.int .u64 0,.bool false,.int .u64 0]) ?_ 9 _ rfl; (with_reducible repeat (first | refine blk_drewN ?_ _ | refine blk_drew ?_ | refine blk_alloc ?_ _)); refine blk_put (cs:=#[.int .u64 t153,.int .i64 a0_0,.int .u64 a0_1,.int .i64 ji17,.int .u64 a0_3,.bool a0_4,.int .u64 a0_5,.bool a0_6,.int .u64 0,.bool false,.int .u64 0,.bool false,.int .u64 0,.bool false,.int .u64 0]) ?_ 8 _ rfl; (with_reducible repeat (first | refine blk_drewN ?_ _ | refine blk_drew ?_ | refine blk_alloc ?_ _)); refine blk_put (cs:=#[.int .u64 t153,.int .i64 a0_0,.int .u64 a0_1,.int .i64 ji17,.int .u64 a0_3,.bool a0_4,.int .u64 a0_5,.bool false,.int .u64 0,.bool false,.int .u64 0,.bool false,.int .u64 0,.bool false,.int .u64 0]) ?_ 7 _ rfl; (with_reducible repeat (first | refine blk_drewN ?_ _ | refine blk_drew ?_ | refine blk_alloc ?_ _)); refine blk_put (cs:=#[.int .u64 t153,.int .i64 a0_0,.int .u64 a0_1,.int .i64 ji17,.int .u64 a0_3,.bool a0_4,.int .u64 0,.bool false,.int .u64 0,.bool false,.int .u64 0,.bool false,.int .u64 0,.bool false,.int .u64 0]) ?_ 6 _ rfl; (with_reducible repeat (first | refine blk_drewN ?_ _ | refine blk_drew ?_ | refine blk_alloc ?_ _)); refine blk_put (cs:=#[.int .u64 t153,.int .i64 a0_0,.int .u64 a0_1,.int .i64 ji17,.int .u64 a0_3,.bool false,.int .u64 0,.bool false,.int .u64 0,.bool false,.int .u64 0,.bool false,.int .u64 0,.bool false,.int .u64 0]) ?_ 5 _ rfl; (with_reducible repeat (first | refine blk_drewN ?_ _ | refine blk_drew ?_ | refine blk_alloc ?_ _)); refine blk_put (cs:=#[.int .u64 t153,.int .i64 a0_0,.int .u64 a0_1,.int .i64 ji17,.int .u64 0,.bool false,.int .u64 0,.bool false,.int .u64 0,.bool false,.int .u64 0,.bool false,.int .u64 0,.bool false,.int .u64 0]) ?_ 4 _ rfl; (with_reducible repeat (first | refine blk_drewN ?_ _ | refine blk_drew ?_ | refine blk_alloc ?_ _)); refine blk_put (cs:=#[.int .u64 t153,.int .i64 a0_0,.int .u64 a0_1,.int .i64 0,.int .u64 0,.bool false,.int .u64 0,.bool false,.int .u64 0,.bool false,.int .u64 0,.bool false,.int .u64 0,.bool false,.int .u64 0]) ?_ 3 _ rfl; (with_reducible repeat (first | refine blk_drewN ?_ _ | refine blk_drew ?_ | refine blk_alloc ?_ _)); refine blk_put (cs:=#[.int .u64 t153,.int .i64 a0_0,.int .u64 0,.int .i64 0,.int .u64 0,.bool false,.int .u64 0,.bool false,.int .u64 0,.bool false,.int .u64 0,.bool false,.int .u64 0,.bool false,.int .u64 0]) ?_ 2 _ rfl; (with_reducible repeat (first | refine blk_drewN ?_ _ | refine blk_drew ?_ | refine blk_alloc ?_ _)); refine blk_put (cs:=#[.int .u64 t153,.int .i64 0,.int .u64 0,.int .i64 0,.int .u64 0,.bool false,.int .u64 0,.bool false,.int .u64 0,.bool false,.int .u64 0,.bool false,.int .u64 0,.bool false,.int .u64 0]) ?_ 1 _ rfl; (with_reducible repeat (first | refine blk_drewN ?_ _ | refine blk_drew ?_ | refine blk_alloc ?_ _)); refine blk_put (cs:=#[.int .u64 0,.int .i64 0,.int .u64 0,.int .i64 0,.int .u64 0,.bool false,.int .u64 0,.bool false,.int .u64 0,.bool false,.int .u64 0,.bool false,.int .u64 0,.bool false,.int .u64 0]) ?_ 0 _ rfl; (with_reducible repeat (first | refine blk_drewN ?_ _ | refine blk_drew ?_ | refine blk_alloc ?_ _)); refine blk_far ?_ NB152_151.out _; (with_reducible repeat (first | refine blk_drewN ?_ _ | refine blk_drew ?_ | refine blk_alloc ?_ _)); exact BK152.out) Tryd.underlying60 rfl (by kernel_rfl)) rfl ?_
   exact ⟨by first | rfl | (simp [errW_none,errW_some] <;> rfl) | (simp only [← hji17]; first | rfl | (simp [errW_none,errW_some] <;> rfl)) | (simp [*,errW_none,errW_some] <;> rfl),by repeat (first | (with_reducible first | exact HB.out | apply below_alloc | apply pw_below_drewN | apply below_drew1 | refine below_set ?_ GE151.out | refine below_set ?_ GE152.out) | exact HB.out)⟩
def rearm_plan_meets.f (a0_0:Int)(a0_1:Int)(a0_2:Int)(a0_3:Int)(a0_4:Bool)(a0_5:Int)(a0_6:Bool)(a0_7:Int)(a0_8:Bool)(a0_9:Int)(a0_10:Bool)(a0_11:Int)(a0_12:Bool)(a1:Int)(a2:Int):Option (Int × Int × Int × Int × Int × Bool × Int × Bool × Int × Bool × Int × Bool × Int × Bool × Int × Int):=(rearm_plan_matched.f a0_0 a0_1 a0_2 a0_3 a0_4 a0_5 a0_6 a0_7 a0_8 a0_9 a0_10 a0_11 a0_12 a2 0).bind fun bt157=>(if bt157.2=0 then (some (bt157.1,a0_0,a0_1,a0_2,a0_3,a0_4,a0_5,a0_6,a0_7,a0_8,a0_9,a0_10,a0_11,a0_12,0,0)) else (some (0,0,0,0,0,false,0,false,0,false,0,false,0,false,0,bt157.2)))
set_option maxHeartbeats 8000000 in
set_option maxRecDepth 100000 in
theorem rearm_plan_meets.calls (a0_0:Int)(a0_1:Int)(a0_2:Int)(a0_3:Int)(a0_4:Bool)(a0_5:Int)(a0_6:Bool)(a0_7:Int)(a0_8:Bool)(a0_9:Int)(a0_10:Bool)(a0_11:Int)(a0_12:Bool)(a1:Int)(a2:Int)(r1:Int)(r2:Int)(r3:Int)(r4:Int)(r5:Int)(r6:Bool)(r7:Int)(r8:Bool)(r9:Int)(r10:Bool)(r11:Int)(r12:Bool)(r13:Int)(r14:Bool)(r15:Int)(r16:Int)(w:World)(hT:Tab w)(h:rearm_plan_meets.f a0_0 a0_1 a0_2 a0_3 a0_4 a0_5 a0_6 a0_7 a0_8 a0_9 a0_10 a0_11 a0_12 a1 a2=some (r1,r2,r3,r4,r5,r6,r7,r8,r9,r10,r11,r12,r13,r14,r15,r16)) :
  Calls Tryd.prog 29 #[.agg #[.int .i64 a0_0,.int .u64 a0_1,.int .i64 a0_2,.int .u64 a0_3,.bool a0_4,.int .u64 a0_5,.bool a0_6,.int .u64 a0_7,.bool a0_8,.int .u64 a0_9,.bool a0_10,.int .u64 a0_11,.bool a0_12],.int .u64 a1,.int .u64 a2] w fun e w'=>e=.returned (.tuple #[.agg #[.int .u64 r1,.int .i64 r2,.int .u64 r3,.int .i64 r4,.int .u64 r5,.bool r6,.int .u64 r7,.bool r8,.int .u64 r9,.bool r10,.int .u64 r11,.bool r12,.int .u64 r13,.bool r14,.int .u64 r15],.int .i64 r16])∧Below w.heap.size w w':=by
 have hu50:=Tryd.underlying50
 have hu60:=Tryd.underlying60
 have HB:=Aside0.mk (Below.refl w.heap.size w)
 have H:((rearm_plan_matched.f a0_0 a0_1 a0_2 a0_3 a0_4 a0_5 a0_6 a0_7 a0_8 a0_9 a0_10 a0_11 a0_12 a2 0).bind fun bt157=>(if bt157.2=0 then (some (bt157.1,a0_0,a0_1,a0_2,a0_3,a0_4,a0_5,a0_6,a0_7,a0_8,a0_9,a0_10,a0_11,a0_12,0,0)) else (some (0,0,0,0,0,false,0,false,0,false,0,false,0,false,0,bt157.2))))=some (r1,r2,r3,r4,r5,r6,r7,r8,r9,r10,r11,r12,r13,r14,r15,r16):=h
 clear h
 replace H:=Option.bind_eq_some_iff.mp H
 obtain ⟨⟨t157,t158⟩,A40,H⟩ :=H
 replace H:(if t158=0 then (some (t157,a0_0,a0_1,a0_2,a0_3,a0_4,a0_5,a0_6,a0_7,a0_8,a0_9,a0_10,a0_11,a0_12,0,0)) else (some (0,0,0,0,0,false,0,false,0,false,0,false,0,false,0,t158)))=some (r1,r2,r3,r4,r5,r6,r7,r8,r9,r10,r11,r12,r13,r14,r15,r16):=H
 have A4:=Aside0.mk A40
 clear A40
 by_cases c5:t158=0
 ·rw [if_pos c5] at H
  have c5b0:(t158 == 0)=true:=beq_iff_eq.mpr c5
  have c5b1:(t158 != 0)=false:=bne_eq_false_iff_eq.mpr c5
  clear c5
  simp only [Option.some.injEq,Prod.mk.injEq] at H
  obtain ⟨rfl,rfl,rfl,rfl,rfl,rfl,rfl,rfl,rfl,rfl,rfl,rfl,rfl,rfl,rfl,rfl⟩ :=H
  go_enter Tryd.func29,Tryd.ntmps29
  go_wp2_with (first | ((with_reducible refine gate_dst (N:=3) rfl ?_); refine box_event ?hg (N:=3) ?hd (cs:=#[.int .i64 a0_0,.int .u64 a0_1,.int .i64 a0_2,.int .u64 a0_3,.bool a0_4,.int .u64 a0_5,.bool a0_6,.int .u64 a0_7,.bool a0_8,.int .u64 a0_9,.bool a0_10,.int .u64 a0_11,.bool a0_12]) (t:=50) ?hr ?_; (case hd=>rfl); (case hg=>rfl); (case hr=>first | (go_simp; done) | (go_simp; rfl)); intro gb155 hg w6 hbox hb; have n0_:=Aside0.mk (below_step (by repeat (first | (with_reducible first | exact HB.out | apply below_alloc | apply pw_below_drewN | apply below_drew1) | exact HB.out)) hb); have n1_:=Aside0.mk (hbox); have n2_:=Aside0.mk ((by rw [hg]; exact (below_size (by repeat (first | (with_reducible first | exact HB.out | apply below_alloc | apply pw_below_drewN | apply below_drew1) | exact HB.out))):w.heap.size≤gb155)); have n3_:=Aside0.mk ((by rw [hg]; exact (below_size (by repeat (first | (with_reducible first | exact HB.out | apply below_alloc | apply pw_below_drewN | apply below_drew1) | exact HB.out))):w.heap.size≤gb155)); clear HB; have HB:=n0_; have BK155:=n1_; have GW155:=n2_; have GE155:=n3_; clear n0_ n1_ n2_ n3_; clear hb hbox hg) | ((with_reducible refine gate_dst (N:=6) rfl ?_); refine box_event ?hg (N:=6) ?hd (cs:=#[.int .u64 0,.int .i64 0,.int .u64 0,.int .i64 0,.int .u64 0,.bool false,.int .u64 0,.bool false,.int .u64 0,.bool false,.int .u64 0,.bool false,.int .u64 0,.bool false,.int .u64 0]) (t:=60) ?hr ?_; (case hd=>rfl); (case hg=>rfl); (case hr=>first | (go_simp; done) | (go_simp; rfl)); intro gb156 hg w7 hbox hb; have n0_:=Aside0.mk (blk_below (g:=gb155) (o:=.cells #[.int .i64 a0_0,.int .u64 a0_1,.int .i64 a0_2,.int .u64 a0_3,.bool a0_4,.int .u64 a0_5,.bool a0_6,.int .u64 a0_7,.bool a0_8,.int .u64 a0_9,.bool a0_10,.int .u64 a0_11,.bool a0_12] 50 (0,0)) (by (with_reducible repeat (first | refine blk_drewN ?_ _ | refine blk_drew ?_ | refine blk_alloc ?_ _)); exact BK155.out) hb); have n1_:=Aside0.mk (below_step (by repeat (first | (with_reducible first | exact HB.out | apply below_alloc | apply pw_below_drewN | apply below_drew1 | refine below_set ?_ GE155.out) | exact HB.out)) hb); have n2_:=Aside0.mk (hbox); have n3_:=Aside0.mk ((by rw [hg]; exact (below_size (by repeat (first | (with_reducible first | exact HB.out | apply below_alloc | apply pw_below_drewN | apply below_drew1 | refine below_set ?_ GE155.out) | exact HB.out))):w.heap.size≤gb156)); have n4_:=Aside0.mk ((by rw [hg]; exact (below_size (by repeat (first | (with_reducible first | exact HB.out | apply below_alloc | apply pw_below_drewN | apply below_drew1 | refine below_set ?_ GE155.out) | exact HB.out))):w.heap.size≤gb156)); have n5_:=Aside0.mk ((by rw [hg]; exact Nat.ne_of_lt (blk_lt (g:=gb155) (o:=.cells #[.int .i64 a0_0,.int .u64 a0_1,.int .i64 a0_2,.int .u64 a0_3,.bool a0_4,.int .u64 a0_5,.bool a0_6,.int .u64 a0_7,.bool a0_8,.int .u64 a0_9,.bool a0_10,.int .u64 a0_11,.bool a0_12] 50 (0,0)) (by (with_reducible repeat (first | refine blk_drewN ?_ _ | refine blk_drew ?_ | refine blk_alloc ?_ _)); exact BK155.out)):gb155≠gb156)); have n6_:=Aside0.mk ((by rw [hg]; exact Nat.ne_of_gt (blk_lt (g:=gb155) (o:=.cells #[.int .i64 a0_0,.int .u64 a0_1,.int .i64 a0_2,.int .u64 a0_3,.bool a0_4,.int .u64 a0_5,.bool a0_6,.int .u64 a0_7,.bool a0_8,.int .u64 a0_9,.bool a0_10,.int .u64 a0_11,.bool a0_12] 50 (0,0)) (by (with_reducible repeat (first | refine blk_drewN ?_ _ | refine blk_drew ?_ | refine blk_alloc ?_ _)); exact BK155.out)):gb156≠gb155)); clear BK155; clear HB; have BK155:=n0_; have HB:=n1_; have BK156:=n2_; have GW156:=n3_; have GE156:=n4_; have NB155_156:=n5_; have NB156_155:=n6_; clear n0_ n1_ n2_ n3_ n4_ n5_ n6_; clear hb hbox hg; have hnb8:=NB155_156.out; have hnc8:=NB156_155.out; have hcz9_0:w7.cell? ⟨gb155,0,none⟩=some (.int .i64 a0_0):=(blk_cell BK155.out 0).trans rfl; have hcz9_1:w7.cell? ⟨gb155,1,none⟩=some (.int .u64 a0_1):=(blk_cell BK155.out 1).trans rfl; have hcz9_2:w7.cell? ⟨gb155,2,none⟩=some (.int .i64 a0_2):=(blk_cell BK155.out 2).trans rfl; have hcz9_3:w7.cell? ⟨gb155,3,none⟩=some (.int .u64 a0_3):=(blk_cell BK155.out 3).trans rfl; have hcz9_4:w7.cell? ⟨gb155,4,none⟩=some (.bool a0_4):=(blk_cell BK155.out 4).trans rfl; have hcz9_5:w7.cell? ⟨gb155,5,none⟩=some (.int .u64 a0_5):=(blk_cell BK155.out 5).trans rfl; have hcz9_6:w7.cell? ⟨gb155,6,none⟩=some (.bool a0_6):=(blk_cell BK155.out 6).trans rfl; have hcz9_7:w7.cell? ⟨gb155,7,none⟩=some (.int .u64 a0_7):=(blk_cell BK155.out 7).trans rfl; have hcz9_8:w7.cell? ⟨gb155,8,none⟩=some (.bool a0_8):=(blk_cell BK155.out 8).trans rfl; have hcz9_9:w7.cell? ⟨gb155,9,none⟩=some (.int .u64 a0_9):=(blk_cell BK155.out 9).trans rfl; have hcz9_10:w7.cell? ⟨gb155,10,none⟩=some (.bool a0_10):=(blk_cell BK155.out 10).trans rfl; have hcz9_11:w7.cell? ⟨gb155,11,none⟩=some (.int .u64 a0_11):=(blk_cell BK155.out 11).trans rfl; have hcz9_12:w7.cell? ⟨gb155,12,none⟩=some (.bool a0_12):=(blk_cell BK155.out 12).trans rfl; have hfz9_0:=blk_frozen BK155.out 0; have hfz9_1:=blk_frozen BK155.out 1; have hfz9_2:=blk_frozen BK155.out 2; have hfz9_3:=blk_frozen BK155.out 3; have hfz9_4:=blk_frozen BK155.out 4; have hfz9_5:=blk_frozen BK155.out 5; have hfz9_6:=blk_frozen BK155.out 6; have hfz9_7:=blk_frozen BK155.out 7; have hfz9_8:=blk_frozen BK155.out 8; have hfz9_9:=blk_frozen BK155.out 9; have hfz9_10:=blk_frozen BK155.out 10; have hfz9_11:=blk_frozen BK155.out 11; have hfz9_12:=blk_frozen BK155.out 12) | ((with_reducible refine gate_callee (f:=22) rfl ?_); refine goesL_ (some 13) rfl rfl Tryd.func22 (by kernel_rfl) rfl #[.agg #[.int .i64 a0_0,.int .u64 a0_1,.int .i64 a0_2,.int .u64 a0_3,.bool a0_4,.int .u64 a0_5,.bool a0_6,.int .u64 a0_7,.bool a0_8,.int .u64 a0_9,.bool a0_10,.int .u64 a0_11,.bool a0_12],.int .u64 a2,.int .u64 0] rfl (by (try simp only [List.map_toArray,List.map_cons,List.map_nil]); first | done | rfl | (simp only [List.length_drop,List.length_take]; rfl)) ?_; (with_reducible refine (rearm_plan_matched.calls a0_0 a0_1 a0_2 a0_3 a0_4 a0_5 a0_6 a0_7 a0_8 a0_9 a0_10 a0_11 a0_12 a2 0 t157 t158 _ (hT.keep (by repeat (first | (with_reducible first | exact HB.out | apply below_alloc | apply pw_below_drewN | apply below_drew1 | refine below_set ?_ GE155.out | refine below_set ?_ GE156.out) | exact HB.out))) A4.out).mono ?_); rintro e w10 ⟨rfl,hb⟩; refine ⟨_,rfl,?_⟩; have n0_:=Aside0.mk (blk_below (g:=gb155) (o:=.cells #[.int .i64 a0_0,.int .u64 a0_1,.int .i64 a0_2,.int .u64 a0_3,.bool a0_4,.int .u64 a0_5,.bool a0_6,.int .u64 a0_7,.bool a0_8,.int .u64 a0_9,.bool a0_10,.int .u64 a0_11,.bool a0_12] 50 (0,0)) (by (with_reducible repeat (first | refine blk_drewN ?_ _ | refine blk_drew ?_ | refine blk_alloc ?_ _)); exact BK155.out) hb); have n1_:=Aside0.mk (blk_below (g:=gb156) (o:=.cells #[.int .u64 0,.int .i64 0,.int .u64 0,.int .i64 0,.int .u64 0,.bool false,.int .u64 0,.bool false,.int .u64 0,.bool false,.int .u64 0,.bool false,.int .u64 0,.bool false,.int .u64 0] 60 (0,0)) (by (with_reducible repeat (first | refine blk_drewN ?_ _ | refine blk_drew ?_ | refine blk_alloc ?_ _)); exact BK156.out) hb); have n2_:=Aside0.mk (below_step (by repeat (first | (with_reducible first | exact HB.out | apply below_alloc | apply pw_below_drewN | apply below_drew1 | refine below_set ?_ GE155.out | refine below_set ?_ GE156.out) | exact HB.out)) hb); clear BK155; clear BK156; clear HB; have BK155:=n0_; have BK156:=n1_; have HB:=n2_; clear n0_ n1_ n2_; (try clear hb); (try clear hb2); (try clear hk); (try clear hi); have hcz11_0:w10.cell? ⟨gb155,0,none⟩=some (.int .i64 a0_0):=(blk_cell BK155.out 0).trans rfl; have hcz11_1:w10.cell? ⟨gb155,1,none⟩=some (.int .u64 a0_1):=(blk_cell BK155.out 1).trans rfl; have hcz11_2:w10.cell? ⟨gb155,2,none⟩=some (.int .i64 a0_2):=(blk_cell BK155.out 2).trans rfl; have hcz11_3:w10.cell? ⟨gb155,3,none⟩=some (.int .u64 a0_3):=(blk_cell BK155.out 3).trans rfl; have hcz11_4:w10.cell? ⟨gb155,4,none⟩=some (.bool a0_4):=(blk_cell BK155.out 4).trans rfl; have hcz11_5:w10.cell? ⟨gb155,5,none⟩=some (.int .u64 a0_5):=(blk_cell BK155.out 5).trans rfl; have hcz11_6:w10.cell? ⟨gb155,6,none⟩=some (.bool a0_6):=(blk_cell BK155.out 6).trans rfl; have hcz11_7:w10.cell? ⟨gb155,7,none⟩=some (.int .u64 a0_7):=(blk_cell BK155.out 7).trans rfl; have hcz11_8:w10.cell? ⟨gb155,8,none⟩=some (.bool a0_8):=(blk_cell BK155.out 8).trans rfl; have hcz11_9:w10.cell? ⟨gb155,9,none⟩=some (.int .u64 a0_9):=(blk_cell BK155.out 9).trans rfl; have hcz11_10:w10.cell? ⟨gb155,10,none⟩=some (.bool a0_10):=(blk_cell BK155.out 10).trans rfl; have hcz11_11:w10.cell? ⟨gb155,11,none⟩=some (.int .u64 a0_11):=(blk_cell BK155.out 11).trans rfl; have hcz11_12:w10.cell? ⟨gb155,12,none⟩=some (.bool a0_12):=(blk_cell BK155.out 12).trans rfl; have hfz11_0:=blk_frozen BK155.out 0; have hfz11_1:=blk_frozen BK155.out 1; have hfz11_2:=blk_frozen BK155.out 2; have hfz11_3:=blk_frozen BK155.out 3; have hfz11_4:=blk_frozen BK155.out 4; have hfz11_5:=blk_frozen BK155.out 5; have hfz11_6:=blk_frozen BK155.out 6; have hfz11_7:=blk_frozen BK155.out 7; have hfz11_8:=blk_frozen BK155.out 8; have hfz11_9:=blk_frozen BK155.out 9; have hfz11_10:=blk_frozen BK155.out 10; have hfz11_11:=blk_frozen BK155.out 11; have hfz11_12:=blk_frozen BK155.out 12; have hcz12_0:w10.cell? ⟨gb156,0,none⟩=some (.int .u64 0):=(blk_cell BK156.out 0).trans rfl; have hcz12_1:w10.cell? ⟨gb156,1,none⟩=some (.int .i64 0):=(blk_cell BK156.out 1).trans rfl; have hcz12_2:w10.cell? ⟨gb156,2,none⟩=some (.int .u64 0):=(blk_cell BK156.out 2).trans rfl; have hcz12_3:w10.cell? ⟨gb156,3,none⟩=some (.int .i64 0):=(blk_cell BK156.out 3).trans rfl; have hcz12_4:w10.cell? ⟨gb156,4,none⟩=some (.int .u64 0):=(blk_cell BK156.out 4).trans rfl; have hcz12_5:w10.cell? ⟨gb156,5,none⟩=some (.bool false):=(blk_cell BK156.out 5).trans rfl; have hcz12_6:w10.cell? ⟨gb156,6,none⟩=some (.int .u64 0):=(blk_cell BK156.out 6).trans rfl; have hcz12_7:w10.cell? ⟨gb156,7,none⟩=some (.bool false):=(blk_cell BK156.out 7).trans rfl; have hcz12_8:w10.cell? ⟨gb156,8,none⟩=some (.int .u64 0):=(blk_cell BK156.out 8).trans rfl; have hcz12_9:w10.cell? ⟨gb156,9,none⟩=some (.bool false):=(blk_cell BK156.out 9).trans rfl; have hcz12_10:w10.cell? ⟨gb156,10,none⟩=some (.int .u64 0):=(blk_cell BK156.out 10).trans rfl; have hcz12_11:w10.cell? ⟨gb156,11,none⟩=some (.bool false):=(blk_cell BK156.out 11).trans rfl; have hcz12_12:w10.cell? ⟨gb156,12,none⟩=some (.int .u64 0):=(blk_cell BK156.out 12).trans rfl; have hcz12_13:w10.cell? ⟨gb156,13,none⟩=some (.bool false):=(blk_cell BK156.out 13).trans rfl; have hcz12_14:w10.cell? ⟨gb156,14,none⟩=some (.int .u64 0):=(blk_cell BK156.out 14).trans rfl; have hfz12_0:=blk_frozen BK156.out 0; have hfz12_1:=blk_frozen BK156.out 1; have hfz12_2:=blk_frozen BK156.out 2; have hfz12_3:=blk_frozen BK156.out 3; have hfz12_4:=blk_frozen BK156.out 4; have hfz12_5:=blk_frozen BK156.out 5; have hfz12_6:=blk_frozen BK156.out 6; have hfz12_7:=blk_frozen BK156.out 7; have hfz12_8:=blk_frozen BK156.out 8; have hfz12_9:=blk_frozen BK156.out 9; have hfz12_10:=blk_frozen BK156.out 10; have hfz12_11:=blk_frozen BK156.out 11; have hfz12_12:=blk_frozen BK156.out 12; have hfz12_13:=blk_frozen BK156.out 13; have hfz12_14:=blk_frozen BK156.out 14))
  refine bodyPost_ret (results_ct rfl _ _ gb156 60 #[.int .u64 t157,.int .i64 a0_0,.int .u64 a0_1,.int .i64 a0_2,.int .u64 a0_3,.bool a0_4,.int .u64 a0_5,.bool a0_6,.int .u64 a0_7,.bool a0_8,.int .u64 a0_9,.bool a0_10,.int .u64 a0_11,.bool a0_12,.int .u64 0] (0,0) _ rfl (by (with_reducible repeat (first | refine blk_drewN ?_ _ | refine blk_drew ?_ | refine blk_alloc ?_ _)); refine blk_put (cs:=#[.int .u64 t157,.int .i64 a0_0,.int .u64 a0_1,.int .i64 a0_2,.int .u64 a0_3,.bool a0_4,.int .u64 a0_5,.bool a0_6,.int .u64 a0_7,.bool a0_8,.int .u64 a0_9,.bool a0_10,.int .u64 a0_11,.bool a0_12,.int .u64 0]) ?_ 14 _ rfl; (with_reducible repeat (first | refine blk_drewN ?_ _ | refine blk_drew ?_ | refine blk_alloc ?_ _)); refine blk_put (cs:=#[.int .u64 t157,.int .i64 a0_0,.int .u64 a0_1,.int .i64 a0_2,.int .u64 a0_3,.bool a0_4,.int .u64 a0_5,.bool a0_6,.int .u64 a0_7,.bool a0_8,.int .u64 a0_9,.bool a0_10,.int .u64 a0_11,.bool false,.int .u64 0]) ?_ 13 _ rfl; (with_reducible repeat (first | refine blk_drewN ?_ _ | refine blk_drew ?_ | refine blk_alloc ?_ _)); refine blk_put (cs:=#[.int .u64 t157,.int .i64 a0_0,.int .u64 a0_1,.int .i64 a0_2,.int .u64 a0_3,.bool a0_4,.int .u64 a0_5,.bool a0_6,.int .u64 a0_7,.bool a0_8,.int .u64 a0_9,.bool a0_10,.int .u64 0,.bool false,.int .u64 0]) ?_ 12 _ rfl; (with_reducible repeat (first | refine blk_drewN ?_ _ | refine blk_drew ?_ | refine blk_alloc ?_ _)); refine blk_put (cs:=#[.int .u64 t157,.int .i64 a0_0,.int .u64 a0_1,.int .i64 a0_2,.int .u64 a0_3,.bool a0_4,.int .u64 a0_5,.bool a0_6,.int .u64 a0_7,.bool a0_8,.int .u64 a0_9,.bool false,.int .u64 0,.bool false,.int .u64 0]) ?_ 11 _ rfl; (with_reducible repeat (first | refine blk_drewN ?_ _ | refine blk_drew ?_ | refine blk_alloc ?_ _)); refine blk_put (cs:=#[.int .u64 t157,.int .i64 a0_0,.int .u64 a0_1,.int .i64 a0_2,.int .u64 a0_3,.bool a0_4,.int .u64 a0_5,.bool a0_6,.int .u64 a0_7,.bool a0_8,.int .u64 0,.bool false,.int .u64 0,.bool false,.int .u64 0]) ?_ 10 _ rfl; (with_reducible repeat (first | refine blk_drewN ?_ _ | refine blk_drew ?_ | refine blk_alloc ?_ _)); refine blk_put (cs:=#[.int .u64 t157,.int .i64 a0_0,.int .u64 a0_1,.int .i64 a0_2,.int .u64 a0_3,.bool a0_4,.int .u64 a0_5,.bool a0_6,.int .u64 a0_7,.bool false,.int .u64 0,.bool false,.int .u64 0,.bool false,.int .u64 0]) ?_ 9 _ rfl; (with_reducible repeat (first | refine blk_drewN ?_ _ | refine blk_drew ?_ | refine blk_alloc ?_ _)); refine blk_put (cs:=#[.int .u64 t157,.int .i64 a0_0,.int .u64 a0_1,.int .i64 a0_2,.int .u64 a0_3,.bool a0_4,.int .u64 a0_5,.bool a0_6,.int .u64 0,.bool false,.int .u64 0,.bool false,.int .u64 0,.bool false,.int .u64 0]) ?_ 8 _ rfl; (with_reducible repeat (first | refine blk_drewN ?_ _ | refine blk_drew ?_ | refine blk_alloc ?_ _)); refine blk_put (cs:=#[.int .u64 t157,.int .i64 a0_0,.int .u64 a0_1,.int .i64 a0_2,.int .u64 a0_3,.bool a0_4,.int .u64 a0_5,.bool false,.int .u64 0,.bool false,.int .u64 0,.bool false,.int .u64 0,.bool false,.int .u64 0]) ?_ 7 _ rfl; (with_reducible repeat (first | refine blk_drewN ?_ _ | refine blk_drew ?_ | refine blk_alloc ?_ _)); refine blk_put (cs:=#[.int .u64 t157,.int .i64 a0_0,.int .u64 a0_1,.int .i64 a0_2,.int .u64 a0_3,.bool a0_4,.int .u64 0,.bool false,.int .u64 0,.bool false,.int .u64 0,.bool false,.int .u64 0,.bool false,.int .u64 0]) ?_ 6 _ rfl; (with_reducible repeat (first | refine blk_drewN ?_ _ | refine blk_drew ?_ | refine blk_alloc ?_ _)); refine blk_put (cs:=#[.int .u64 t157,.int .i64 a0_0,.int .u64 a0_1,.int .i64 a0_2,.int .u64 a0_3,.bool false,.int .u64 0,.bool false,.int .u64 0,.bool false,.int .u64 0,.bool false,.int .u64 0,.bool false,.int .u64 0]) ?_ 5 _ rfl; (with_reducible repeat (first | refine blk_drewN ?_ _ | refine blk_drew ?_ | refine blk_alloc ?_ _)); refine blk_put (cs:=#[.int .u64 t157,.int .i64 a0_0,.int .u64 a0_1,.int .i64 a0_2,.int .u64 0,.bool false,.int .u64 0,.bool false,.int .u64 0,.bool false,.int .u64 0,.bool false,.int .u64 0,.bool false,.int .u64 0]) ?_ 4 _ rfl; (with_reducible repeat (first | refine blk_drewN ?_ _ | refine blk_drew ?_ | refine blk_alloc ?_ _)); refine blk_put (cs:=#[.int .u64 t157,.int .i64 a0_0,.int .u64 a0_1,.int .i64 0,.int .u64 0,.bool false,.int .u64 0,.bool false,.int .u64 0,.bool false,.int .u64 0,.bool false,.int .u64 0,.bool false,.int .u64 0]) ?_ 3 _ rfl; (with_reducible repeat (first | refine blk_drewN ?_ _ | refine blk_drew ?_ | refine blk_alloc ?_ _)); refine blk_put (cs:=#[.int .u64 t157,.int .i64 a0_0,.int .u64 0,.int .i64 0,.int .u64 0,.bool false,.int .u64 0,.bool false,.int .u64 0,.bool false,.int .u64 0,.bool false,.int .u64 0,.bool false,.int .u64 0]) ?_ 2 _ rfl; (with_reducible repeat (first | refine blk_drewN ?_ _ | refine blk_drew ?_ | refine blk_alloc ?_ _)); refine blk_put (cs:=#[.int .u64 t157,.int .i64 0,.int .u64 0,.int .i64 0,.int .u64 0,.bool false,.int .u64 0,.bool false,.int .u64 0,.bool false,.int .u64 0,.bool false,.int .u64 0,.bool false,.int .u64 0]) ?_ 1 _ rfl; (with_reducible repeat (first | refine blk_drewN ?_ _ | refine blk_drew ?_ | refine blk_alloc ?_ _)); refine blk_put (cs:=#[.int .u64 0,.int .i64 0,.int .u64 0,.int .i64 0,.int .u64 0,.bool false,.int .u64 0,.bool false,.int .u64 0,.bool false,.int .u64 0,.bool false,.int .u64 0,.bool false,.int .u64 0]) ?_ 0 _ rfl; (with_reducible repeat (first | refine blk_drewN ?_ _ | refine blk_drew ?_ | refine blk_alloc ?_ _)); exact BK156.out) Tryd.underlying60 rfl (by kernel_rfl)) rfl ?_
  exact ⟨by first | rfl | (simp [errW_none,errW_some] <;> rfl) | (simp [*,errW_none,errW_some] <;> rfl),by repeat (first | (with_reducible first | exact HB.out | apply below_alloc | apply pw_below_drewN | apply below_drew1 | refine below_set ?_ GE155.out | refine below_set ?_ GE156.out) | exact HB.out)⟩
 ·rw [if_neg c5] at H
  have c5b0:(t158 == 0)=false:=beq_eq_false_iff_ne.mpr c5
  have c5b1:(t158 != 0)=true:=bne_iff_ne.mpr c5
  simp only [Option.some.injEq,Prod.mk.injEq] at H
  obtain ⟨rfl,rfl,rfl,rfl,rfl,rfl,rfl,rfl,rfl,rfl,rfl,rfl,rfl,rfl,rfl,rfl⟩ :=H
  go_enter Tryd.func29,Tryd.ntmps29
  go_wp2_with (first | ((with_reducible refine gate_dst (N:=3) rfl ?_); refine box_event ?hg (N:=3) ?hd (cs:=#[.int .i64 a0_0,.int .u64 a0_1,.int .i64 a0_2,.int .u64 a0_3,.bool a0_4,.int .u64 a0_5,.bool a0_6,.int .u64 a0_7,.bool a0_8,.int .u64 a0_9,.bool a0_10,.int .u64 a0_11,.bool a0_12]) (t:=50) ?hr ?_; (case hd=>rfl); (case hg=>rfl); (case hr=>first | (go_simp; done) | (go_simp; rfl)); intro gb155 hg w13 hbox hb; have n0_:=Aside0.mk (below_step (by repeat (first | (with_reducible first | exact HB.out | apply below_alloc | apply pw_below_drewN | apply below_drew1) | exact HB.out)) hb); have n1_:=Aside0.mk (hbox); have n2_:=Aside0.mk ((by rw [hg]; exact (below_size (by repeat (first | (with_reducible first | exact HB.out | apply below_alloc | apply pw_below_drewN | apply below_drew1) | exact HB.out))):w.heap.size≤gb155)); have n3_:=Aside0.mk ((by rw [hg]; exact (below_size (by repeat (first | (with_reducible first | exact HB.out | apply below_alloc | apply pw_below_drewN | apply below_drew1) | exact HB.out))):w.heap.size≤gb155)); clear HB; have HB:=n0_; have BK155:=n1_; have GW155:=n2_; have GE155:=n3_; clear n0_ n1_ n2_ n3_; clear hb hbox hg) | ((with_reducible refine gate_dst (N:=6) rfl ?_); refine box_event ?hg (N:=6) ?hd (cs:=#[.int .u64 0,.int .i64 0,.int .u64 0,.int .i64 0,.int .u64 0,.bool false,.int .u64 0,.bool false,.int .u64 0,.bool false,.int .u64 0,.bool false,.int .u64 0,.bool false,.int .u64 0]) (t:=60) ?hr ?_; (case hd=>rfl); (case hg=>rfl); (case hr=>first | (go_simp; done) | (go_simp; rfl)); intro gb156 hg w14 hbox hb; have n0_:=Aside0.mk (blk_below (g:=gb155) (o:=.cells #[.int .i64 a0_0,.int .u64 a0_1,.int .i64 a0_2,.int .u64 a0_3,.bool a0_4,.int .u64 a0_5,.bool a0_6,.int .u64 a0_7,.bool a0_8,.int .u64 a0_9,.bool a0_10,.int .u64 a0_11,.bool a0_12] 50 (0,0)) (by (with_reducible repeat (first | refine blk_drewN ?_ _ | refine blk_drew ?_ | refine blk_alloc ?_ _)); exact BK155.out) hb); have n1_:=Aside0.mk (below_step (by repeat (first | (with_reducible first | exact HB.out | apply below_alloc | apply pw_below_drewN | apply below_drew1 | refine below_set ?_ GE155.out) | exact HB.out)) hb); have n2_:=Aside0.mk (hbox); have n3_:=Aside0.mk ((by rw [hg]; exact (below_size (by repeat (first | (with_reducible first | exact HB.out | apply below_alloc | apply pw_below_drewN | apply below_drew1 | refine below_set ?_ GE155.out) | exact HB.out))):w.heap.size≤gb156)); have n4_:=Aside0.mk ((by rw [hg]; exact (below_size (by repeat (first | (with_reducible first | exact HB.out | apply below_alloc | apply pw_below_drewN | apply below_drew1 | refine below_set ?_ GE155.out) | exact HB.out))):w.heap.size≤gb156)); have n5_:=Aside0.mk ((by rw [hg]; exact Nat.ne_of_lt (blk_lt (g:=gb155) (o:=.cells #[.int .i64 a0_0,.int .u64 a0_1,.int .i64 a0_2,.int .u64 a0_3,.bool a0_4,.int .u64 a0_5,.bool a0_6,.int .u64 a0_7,.bool a0_8,.int .u64 a0_9,.bool a0_10,.int .u64 a0_11,.bool a0_12] 50 (0,0)) (by (with_reducible repeat (first | refine blk_drewN ?_ _ | refine blk_drew ?_ | refine blk_alloc ?_ _)); exact BK155.out)):gb155≠gb156)); have n6_:=Aside0.mk ((by rw [hg]; exact Nat.ne_of_gt (blk_lt (g:=gb155) (o:=.cells #[.int .i64 a0_0,.int .u64 a0_1,.int .i64 a0_2,.int .u64 a0_3,.bool a0_4,.int .u64 a0_5,.bool a0_6,.int .u64 a0_7,.bool a0_8,.int .u64 a0_9,.bool a0_10,.int .u64 a0_11,.bool a0_12] 50 (0,0)) (by (with_reducible repeat (first | refine blk_drewN ?_ _ | refine blk_drew ?_ | refine blk_alloc ?_ _)); exact BK155.out)):gb156≠gb155)); clear BK155; clear HB; have BK155:=n0_; have HB:=n1_; have BK156:=n2_; have GW156:=n3_; have GE156:=n4_; have NB155_156:=n5_; have NB156_155:=n6_; clear n0_ n1_ n2_ n3_ n4_ n5_ n6_; clear hb hbox hg; have hnb15:=NB155_156.out; have hnc15:=NB156_155.out; have hcz16_0:w14.cell? ⟨gb155,0,none⟩=some (.int .i64 a0_0):=(blk_cell BK155.out 0).trans rfl; have hcz16_1:w14.cell? ⟨gb155,1,none⟩=some (.int .u64 a0_1):=(blk_cell BK155.out 1).trans rfl; have hcz16_2:w14.cell? ⟨gb155,2,none⟩=some (.int .i64 a0_2):=(blk_cell BK155.out 2).trans rfl; have hcz16_3:w14.cell? ⟨gb155,3,none⟩=some (.int .u64 a0_3):=(blk_cell BK155.out 3).trans rfl; have hcz16_4:w14.cell? ⟨gb155,4,none⟩=some (.bool a0_4):=(blk_cell BK155.out 4).trans rfl; have hcz16_5:w14.cell? ⟨gb155,5,none⟩=some (.int .u64 a0_5):=(blk_cell BK155.out 5).trans rfl; have hcz16_6:w14.cell? ⟨gb155,6,none⟩=some (.bool a0_6):=(blk_cell BK155.out 6).trans rfl; have hcz16_7:w14.cell? ⟨gb155,7,none⟩=some (.int .u64 a0_7):=(blk_cell BK155.out 7).trans rfl; have hcz16_8:w14.cell? ⟨gb155,8,none⟩=some (.bool a0_8):=(blk_cell BK155.out 8).trans rfl; have hcz16_9:w14.cell? ⟨gb155,9,none⟩=some (.int .u64 a0_9):=(blk_cell BK155.out 9).trans rfl; have hcz16_10:w14.cell? ⟨gb155,10,none⟩=some (.bool a0_10):=(blk_cell BK155.out 10).trans rfl; have hcz16_11:w14.cell? ⟨gb155,11,none⟩=some (.int .u64 a0_11):=(blk_cell BK155.out 11).trans rfl; have hcz16_12:w14.cell? ⟨gb155,12,none⟩=some (.bool a0_12):=(blk_cell BK155.out 12).trans rfl; have hfz16_0:=blk_frozen BK155.out 0; have hfz16_1:=blk_frozen BK155.out 1; have hfz16_2:=blk_frozen BK155.out 2; have hfz16_3:=blk_frozen BK155.out 3; have hfz16_4:=blk_frozen BK155.out 4; have hfz16_5:=blk_frozen BK155.out 5; have hfz16_6:=blk_frozen BK155.out 6; have hfz16_7:=blk_frozen BK155.out 7; have hfz16_8:=blk_frozen BK155.out 8; have hfz16_9:=blk_frozen BK155.out 9; have hfz16_10:=blk_frozen BK155.out 10; have hfz16_11:=blk_frozen BK155.out 11; have hfz16_12:=blk_frozen BK155.out 12) | ((with_reducible refine gate_callee (f:=22) rfl ?_); refine goesL_ (some 13) rfl rfl Tryd.func22 (by kernel_rfl) rfl #[.agg #[.int .i64 a0_0,.int .u64 a0_1,.int .i64 a0_2,.int .u64 a0_3,.bool a0_4,.int .u64 a0_5,.bool a0_6,.int .u64 a0_7,.bool a0_8,.int .u64 a0_9,.bool a0_10,.int .u64 a0_11,.bool a0_12],.int .u64 a2,.int .u64 0] rfl (by (try simp only [List.map_toArray,List.map_cons,List.map_nil]); first | done | rfl | (simp only [List.length_drop,List.length_take]; rfl)) ?_; (with_reducible refine (rearm_plan_matched.calls a0_0 a0_1 a0_2 a0_3 a0_4 a0_5 a0_6 a0_7 a0_8 a0_9 a0_10 a0_11 a0_12 a2 0 t157 t158 _ (hT.keep (by repeat (first | (with_reducible first | exact HB.out | apply below_alloc | apply pw_below_drewN | apply below_drew1 | refine below_set ?_ GE155.out | refine below_set ?_ GE156.out) | exact HB.out))) A4.out).mono ?_); rintro e w17 ⟨rfl,hb⟩; refine ⟨_,rfl,?_⟩; have n0_:=Aside0.mk (blk_below (g:=gb155) (o:=.cells #[.int .i64 a0_0,.int .u64 a0_1,.int .i64 a0_2,.int .u64 a0_3,.bool a0_4,.int .u64 a0_5,.bool a0_6,.int .u64 a0_7,.bool a0_8,.int .u64 a0_9,.bool a0_10,.int .u64 a0_11,.bool a0_12] 50 (0,0)) (by (with_reducible repeat (first | refine blk_drewN ?_ _ | refine blk_drew ?_ | refine blk_alloc ?_ _)); exact BK155.out) hb); have n1_:=Aside0.mk (blk_below (g:=gb156) (o:=.cells #[.int .u64 0,.int .i64 0,.int .u64 0,.int .i64 0,.int .u64 0,.bool false,.int .u64 0,.bool false,.int .u64 0,.bool false,.int .u64 0,.bool false,.int .u64 0,.bool false,.int .u64 0] 60 (0,0)) (by (with_reducible repeat (first | refine blk_drewN ?_ _ | refine blk_drew ?_ | refine blk_alloc ?_ _)); exact BK156.out) hb); have n2_:=Aside0.mk (below_step (by repeat (first | (with_reducible first | exact HB.out | apply below_alloc | apply pw_below_drewN | apply below_drew1 | refine below_set ?_ GE155.out | refine below_set ?_ GE156.out) | exact HB.out)) hb); clear BK155; clear BK156; clear HB; have BK155:=n0_; have BK156:=n1_; have HB:=n2_; clear n0_ n1_ n2_; (try clear hb); (try clear hb2); (try clear hk); (try clear hi); have hcz18_0:w17.cell? ⟨gb156,0,none⟩=some (.int .u64 0):=(blk_cell BK156.out 0).trans rfl; have hcz18_1:w17.cell? ⟨gb156,1,none⟩=some (.int .i64 0):=(blk_cell BK156.out 1).trans rfl; have hcz18_2:w17.cell? ⟨gb156,2,none⟩=some (.int .u64 0):=(blk_cell BK156.out 2).trans rfl; have hcz18_3:w17.cell? ⟨gb156,3,none⟩=some (.int .i64 0):=(blk_cell BK156.out 3).trans rfl; have hcz18_4:w17.cell? ⟨gb156,4,none⟩=some (.int .u64 0):=(blk_cell BK156.out 4).trans rfl; have hcz18_5:w17.cell? ⟨gb156,5,none⟩=some (.bool false):=(blk_cell BK156.out 5).trans rfl; have hcz18_6:w17.cell? ⟨gb156,6,none⟩=some (.int .u64 0):=(blk_cell BK156.out 6).trans rfl; have hcz18_7:w17.cell? ⟨gb156,7,none⟩=some (.bool false):=(blk_cell BK156.out 7).trans rfl; have hcz18_8:w17.cell? ⟨gb156,8,none⟩=some (.int .u64 0):=(blk_cell BK156.out 8).trans rfl; have hcz18_9:w17.cell? ⟨gb156,9,none⟩=some (.bool false):=(blk_cell BK156.out 9).trans rfl; have hcz18_10:w17.cell? ⟨gb156,10,none⟩=some (.int .u64 0):=(blk_cell BK156.out 10).trans rfl; have hcz18_11:w17.cell? ⟨gb156,11,none⟩=some (.bool false):=(blk_cell BK156.out 11).trans rfl; have hcz18_12:w17.cell? ⟨gb156,12,none⟩=some (.int .u64 0):=(blk_cell BK156.out 12).trans rfl; have hcz18_13:w17.cell? ⟨gb156,13,none⟩=some (.bool false):=(blk_cell BK156.out 13).trans rfl; have hcz18_14:w17.cell? ⟨gb156,14,none⟩=some (.int .u64 0):=(blk_cell BK156.out 14).trans rfl; have hfz18_0:=blk_frozen BK156.out 0; have hfz18_1:=blk_frozen BK156.out 1; have hfz18_2:=blk_frozen BK156.out 2; have hfz18_3:=blk_frozen BK156.out 3; have hfz18_4:=blk_frozen BK156.out 4; have hfz18_5:=blk_frozen BK156.out 5; have hfz18_6:=blk_frozen BK156.out 6; have hfz18_7:=blk_frozen BK156.out 7; have hfz18_8:=blk_frozen BK156.out 8; have hfz18_9:=blk_frozen BK156.out 9; have hfz18_10:=blk_frozen BK156.out 10; have hfz18_11:=blk_frozen BK156.out 11; have hfz18_12:=blk_frozen BK156.out 12; have hfz18_13:=blk_frozen BK156.out 13; have hfz18_14:=blk_frozen BK156.out 14))
  refine bodyPost_ret (results_ct rfl _ _ gb156 60 #[.int .u64 0,.int .i64 0,.int .u64 0,.int .i64 0,.int .u64 0,.bool false,.int .u64 0,.bool false,.int .u64 0,.bool false,.int .u64 0,.bool false,.int .u64 0,.bool false,.int .u64 0] (0,0) _ rfl (by (with_reducible repeat (first | refine blk_drewN ?_ _ | refine blk_drew ?_ | refine blk_alloc ?_ _)); refine blk_put (cs:=#[.int .u64 0,.int .i64 0,.int .u64 0,.int .i64 0,.int .u64 0,.bool false,.int .u64 0,.bool false,.int .u64 0,.bool false,.int .u64 0,.bool false,.int .u64 0,.bool false,.int .u64 0]) ?_ 14 _ rfl; (with_reducible repeat (first | refine blk_drewN ?_ _ | refine blk_drew ?_ | refine blk_alloc ?_ _)); refine blk_put (cs:=#[.int .u64 0,.int .i64 0,.int .u64 0,.int .i64 0,.int .u64 0,.bool false,.int .u64 0,.bool false,.int .u64 0,.bool false,.int .u64 0,.bool false,.int .u64 0,.bool false,.int .u64 0]) ?_ 13 _ rfl; (with_reducible repeat (first | refine blk_drewN ?_ _ | refine blk_drew ?_ | refine blk_alloc ?_ _)); refine blk_put (cs:=#[.int .u64 0,.int .i64 0,.int .u64 0,.int .i64 0,.int .u64 0,.bool false,.int .u64 0,.bool false,.int .u64 0,.bool false,.int .u64 0,.bool false,.int .u64 0,.bool false,.int .u64 0]) ?_ 12 _ rfl; (with_reducible repeat (first | refine blk_drewN ?_ _ | refine blk_drew ?_ | refine blk_alloc ?_ _)); refine blk_put (cs:=#[.int .u64 0,.int .i64 0,.int .u64 0,.int .i64 0,.int .u64 0,.bool false,.int .u64 0,.bool false,.int .u64 0,.bool false,.int .u64 0,.bool false,.int .u64 0,.bool false,.int .u64 0]) ?_ 11 _ rfl; (with_reducible repeat (first | refine blk_drewN ?_ _ | refine blk_drew ?_ | refine blk_alloc ?_ _)); refine blk_put (cs:=#[.int .u64 0,.int .i64 0,.int .u64 0,.int .i64 0,.int .u64 0,.bool false,.int .u64 0,.bool false,.int .u64 0,.bool false,.int .u64 0,.bool false,.int .u64 0,.bool false,.int .u64 0]) ?_ 10 _ rfl; (with_reducible repeat (first | refine blk_drewN ?_ _ | refine blk_drew ?_ | refine blk_alloc ?_ _)); refine blk_put (cs:=#[.int .u64 0,.int .i64 0,.int .u64 0,.int .i64 0,.int .u64 0,.bool false,.int .u64 0,.bool false,.int .u64 0,.bool false,.int .u64 0,.bool false,.int .u64 0,.bool false,.int .u64 0]) ?_ 9 _ rfl; (with_reducible repeat (first | refine blk_drewN ?_ _ | refine blk_drew ?_ | refine blk_alloc ?_ _)); refine blk_put (cs:=#[.int .u64 0,.int .i64 0,.int .u64 0,.int .i64 0,.int .u64 0,.bool false,.int .u64 0,.bool false,.int .u64 0,.bool false,.int .u64 0,.bool false,.int .u64 0,.bool false,.int .u64 0]) ?_ 8 _ rfl; (with_reducible repeat (first | refine blk_drewN ?_ _ | refine blk_drew ?_ | refine blk_alloc ?_ _)); refine blk_put (cs:=#[.int .u64 0,.int .i64 0,.int .u64 0,.int .i64 0,.int .u64 0,.bool false,.int .u64 0,.bool false,.int .u64 0,.bool false,.int .u64 0,.bool false,.int .u64 0,.bool false,.int .u64 0]) ?_ 7 _ rfl; (with_reducible repeat (first | refine blk_drewN ?_ _ | refine blk_drew ?_ | refine blk_alloc ?_ _)); refine blk_put (cs:=#[.int .u64 0,.int .i64 0,.int .u64 0,.int .i64 0,.int .u64 0,.bool false,.int .u64 0,.bool false,.int .u64 0,.bool false,.int .u64 0,.bool false,.int .u64 0,.bool false,.int .u64 0]) ?_ 6 _ rfl; (with_reducible repeat (first | refine blk_drewN ?_ _ | refine blk_drew ?_ | refine blk_alloc ?_ _)); refine blk_put (cs:=#[.int .u64 0,.int .i64 0,.int .u64 0,.int .i64 0,.int .u64 0,.bool false,.int .u64 0,.bool false,.int .u64 0,.bool false,.int .u64 0,.bool false,.int .u64 0,.bool false,.int .u64 0]) ?_ 5 _ rfl; (with_reducible repeat (first | refine blk_drewN ?_ _ | refine blk_drew ?_ | refine blk_alloc ?_ _)); refine blk_put (cs:=#[.int .u64 0,.int .i64 0,.int .u64 0,.int .i64 0,.int .u64 0,.bool false,.int .u64 0,.bool false,.int .u64 0,.bool false,.int .u64 0,.bool false,.int .u64 0,.bool false,.int .u64 0]) ?_ 4 _ rfl; (with_reducible repeat (first | refine blk_drewN ?_ _ | refine blk_drew ?_ | refine blk_alloc ?_ _)); refine blk_put (cs:=#[.int .u64 0,.int .i64 0,.int .u64 0,.int .i64 0,.int .u64 0,.bool false,.int .u64 0,.bool false,.int .u64 0,.bool false,.int .u64 0,.bool false,.int .u64 0,.bool false,.int .u64 0]) ?_ 3 _ rfl; (with_reducible repeat (first | refine blk_drewN ?_ _ | refine blk_drew ?_ | refine blk_alloc ?_ _)); refine blk_put (cs:=#[.int .u64 0,.int .i64 0,.int .u64 0,.int .i64 0,.int .u64 0,.bool false,.int .u64 0,.bool false,.int .u64 0,.bool false,.int .u64 0,.bool false,.int .u64 0,.bool false,.int .u64 0]) ?_ 2 _ rfl; (with_reducible repeat (first | refine blk_drewN ?_ _ | refine blk_drew ?_ | refine blk_alloc ?_ _)); refine blk_put (cs:=#[.int .u64 0,.int .i64 0,.int .u64 0,.int .i64 0,.int .u64 0,.bool false,.int .u64 0,.bool false,.int .u64 0,.bool false,.int .u64 0,.bool false,.int .u64 0,.bool false,.int .u64 0]) ?_ 1 _ rfl; (with_reducible repeat (first | refine blk_drewN ?_ _ | refine blk_drew ?_ | refine blk_alloc ?_ _)); refine blk_put (cs:=#[.int .u64 0,.int .i64 0,.int .u64 0,.int .i64 0,.int .u64 0,.bool false,.int .u64 0,.bool false,.int .u64 0,.bool false,.int .u64 0,.bool false,.int .u64 0,.bool false,.int .u64 0]) ?_ 0 _ rfl; (with_reducible repeat (first | refine blk_drewN ?_ _ | refine blk_drew ?_ | refine blk_alloc ?_ _)); exact BK156.out) Tryd.underlying60 rfl (by kernel_rfl)) rfl ?_
  exact ⟨by first | rfl | (simp [errW_none,errW_some] <;> rfl) | (simp [*,errW_none,errW_some] <;> rfl),by repeat (first | (with_reducible first | exact HB.out | apply below_alloc | apply pw_below_drewN | apply below_drew1 | refine below_set ?_ GE155.out | refine below_set ?_ GE156.out) | exact HB.out)⟩
/-! This session's own: rearm.Again, walked. -/
theorem Rea.new2 (w:World)(o o':Obj):((w.alloc o).alloc o').heap[w.heap.size+1]?=some o':=by
 have h:=heap_alloc_new (w.alloc o) o'
 simpa using h
structure Rea.AW (w:World) (k p l:Int) (b0:Int) (s0:Bool) (b1:Int) (s1:Bool) (b2:Int) (s2:Bool) (b3:Int) (s3:Bool) (b4:Int) (s4:Bool) (W:World):Prop where
 p:Rea.Row W w.heap.size k p l b0 s0 b1 s1 b2 s2 b3 s3 b4 s4
 z:Rea.Row W (w.heap.size+1) 0 0 0 0 false 0 false 0 false 0 false 0 false
 b:Below w.heap.size w W
theorem Rea.aw_new (w:World)(k p l:Int)(b0:Int)(s0:Bool)(b1:Int)(s1:Bool)(b2:Int)(s2:Bool)(b3:Int)(s3:Bool)(b4:Int)(s4:Bool):Aside0 (Rea.AW w k p l b0 s0 b1 s1 b2 s2 b3 s3 b4 s4 ((w.alloc (.cells #[.int .i64 k,.int .u64 p,.int .i64 l,.int .u64 b0,.bool s0,.int .u64 b1,.bool s1,.int .u64 b2,.bool s2,.int .u64 b3,.bool s3,.int .u64 b4,.bool s4] 28)).alloc (.cells #[.int .i64 0,.int .u64 0,.int .i64 0,.int .u64 0,.bool false,.int .u64 0,.bool false,.int .u64 0,.bool false,.int .u64 0,.bool false,.int .u64 0,.bool false] 28))):=⟨⟨blk_alloc (blk_new w _) _,Rea.new2 w _ _,below_alloc (below_alloc (Below.refl _ _) _) _⟩⟩
theorem Rea.aw_step {w:World}{k p l:Int}{b0:Int}{s0:Bool}{b1:Int}{s1:Bool}{b2:Int}{s2:Bool}{b3:Int}{s3:Bool}{b4:Int}{s4:Bool}{W W':World}(q:Aside0 (Rea.AW w k p l b0 s0 b1 s1 b2 s2 b3 s3 b4 s4 W))(hb:Below W.heap.size W W'):Aside0 (Rea.AW w k p l b0 s0 b1 s1 b2 s2 b3 s3 b4 s4 W'):=⟨⟨blk_below q.out.p hb,blk_below q.out.z hb,below_step q.out.b hb⟩⟩
theorem Rea.aw_grown {w:World}{k p l:Int}{b0:Int}{s0:Bool}{b1:Int}{s1:Bool}{b2:Int}{s2:Bool}{b3:Int}{s3:Bool}{b4:Int}{s4:Bool}{W W':World}(q:Aside0 (Rea.AW w k p l b0 s0 b1 s1 b2 s2 b3 s3 b4 s4 W))(g:Nat)(hg:W.grownBy W' (some g))(h:w.heap.size+1 < g):Aside0 (Rea.AW w k p l b0 s0 b1 s1 b2 s2 b3 s3 b4 s4 W'):=
 ⟨⟨blk_grown q.out.p hg (fun e=>by injection e with e; omega),blk_grown q.out.z hg (fun e=>by injection e with e; omega),q.out.b.grown hg (by have:=q.out.b.size; exact this) (fun k hk=>by injection hk with hk; omega)⟩⟩
theorem Rea.below_setRow {B g:Nat}{w0 W:World}(hb:Below B w0 W)(hBg:B≤g)(hs:B≤W.heap.size)(cs:Array Value):Below B w0 (W.setRow g cs):=
 hb.grown (row:=some g) ⟨rfl,rfl,rfl,by simp,fun k _ hk=>setRow_other _ _ _ _ (fun e=>hk (by rw [e]))⟩ hs (fun k hk=>by injection hk with hk; omega)
section
variable {P:Program} {ops:Array Oper} {rest:List Oper} {o:Oper} {a:Act} {Q:Exit→Act→World→Prop} {W:World}
theorem Rea.st (hgd:o.guard=none)(hN:o.dst=none)(ty:TypeId)(x y:Operand)(ho:o.op=.store ty x y)(g:Nat)(cells old:Array Value)(t:TypeId)(hg:W.heap[g]?=some (.cells old t (0,0)))
  (hi:(P.info? ty).map (·.size)=some cells.size) (hold:old.size=cells.size) (h1:cells.all (·.oneCell')=true) (hx:a.eval x=.pointer (some ⟨g,0,none⟩)) (hy:a.eval y=.agg cells)
  (h:∀ w',w'.heap[g]?=some (.cells cells t (0,0))→W.grownBy w' (some g)→wpList P ops Q rest a w'):wpList P ops Q (o :: rest) a W:=by
 refine wpList_plain hgd fun K hK=>?_
 refine wp_store_row ty x y ho g cells hx hy t old hg hi hold h1 ?_
 rw [hN]
 exact hK _ _ (h _ (setRow_heap _ _ _ _ _ _ hg) ⟨rfl,rfl,rfl,by simp,fun k _ hk=>setRow_other _ _ _ _ (fun e=>hk (by rw [e]))⟩)
end
set_option maxHeartbeats 8000000 in
set_option maxRecDepth 100000 in
theorem Rea.Again_bad (k p l:Int)(b0:Int)(s0:Bool)(b1:Int)(s1:Bool)(b2:Int)(s2:Bool)(b3:Int)(s3:Bool)(b4:Int)(s4:Bool)(at0 now e:Int)(A:rearm_Check.f 100 k p l b0 s0 b1 s1 b2 s2 b3 s3 b4 s4=some e)(he:e≠0)(w:World) :
  Calls Tryd.prog 16 #[.agg #[.int .i64 k,.int .u64 p,.int .i64 l,.int .u64 b0,.bool s0,.int .u64 b1,.bool s1,.int .u64 b2,.bool s2,.int .u64 b3,.bool s3,.int .u64 b4,.bool s4],.int .u64 at0,.int .u64 now] w fun x w'=>x=.returned (.tuple #[.int .u64 0,.agg #[.int .i64 0,.int .u64 0,.int .i64 0,.int .u64 0,.bool false,.int .u64 0,.bool false,.int .u64 0,.bool false,.int .u64 0,.bool false,.int .u64 0,.bool false],.int .u64 0,.int .i64 e])∧Below w.heap.size w w':=by
 have he1:(e == 0)=false:=beq_eq_false_iff_ne.mpr he
 have he2:(e != 0)=true:=bne_iff_ne.mpr he
 have hu:=Tryd.underlying28
 have T0:=Rea.aw_new w k p l b0 s0 b1 s1 b2 s2 b3 s3 b4 s4
 obtain ⟨k0,k1,k2,k3,k4,k5,k6,k7,k8,k9,k10,k11,k12⟩ :=T0.out.p.cells
 replace A:=Lib.hid A
 go_enter Tryd.func16,Tryd.ntmps16
 go_wp2_with fail
 clear k0 k1 k2 k3 k4 k5 k6 k7 k8 k9 k10 k11 k12
 generalize (w.alloc (.cells #[.int .i64 k,.int .u64 p,.int .i64 l,.int .u64 b0,.bool s0,.int .u64 b1,.bool s1,.int .u64 b2,.bool s2,.int .u64 b3,.bool s3,.int .u64 b4,.bool s4] 28)).alloc (.cells #[.int .i64 0,.int .u64 0,.int .i64 0,.int .u64 0,.bool false,.int .u64 0,.bool false,.int .u64 0,.bool false,.int .u64 0,.bool false,.int .u64 0,.bool false] 28)=w1 at T0 ⊢
 refine (rearm_Check.calls _ _ _ _ _ _ _ _ _ _ _ _ _ _ _ _ A.out).mono ?_
 rintro x w2 ⟨rfl,hb⟩
 have T2:=Rea.aw_step T0 hb
 clear T0 hb A
 go_wp2_with (first | ((with_reducible refine gate_store (t:=28) (p:=7) (v:=.tmp 18) rfl ?_); refine Rea.st rfl rfl 28 _ _ rfl (w.heap.size+1) #[.int .i64 0,.int .u64 0,.int .i64 0,.int .u64 0,.bool false,.int .u64 0,.bool false,.int .u64 0,.bool false,.int .u64 0,.bool false,.int .u64 0,.bool false] #[.int .i64 0,.int .u64 0,.int .i64 0,.int .u64 0,.bool false,.int .u64 0,.bool false,.int .u64 0,.bool false,.int .u64 0,.bool false,.int .u64 0,.bool false] 28 T2.out.z (by kernel_rfl) rfl (by kernel_rfl) rfl rfl ?_; intro wS hS hgS))
 have hb:=T2.out.b.grown hgS T2.out.b.size (fun k hk=>by injection hk with hk; omega)
 clear T2
 go_wp2_with fail
 refine bodyPost_ret (results_list (rs:=[.tmp 6,.cell 7 28,.tmp 8,.tmp 9]) rfl (by simp) (.tmp (.cell (w.heap.size+1) 28 #[.int .i64 0,.int .u64 0,.int .i64 0,.int .u64 0,.bool false,.int .u64 0,.bool false,.int .u64 0,.bool false,.int .u64 0,.bool false,.int .u64 0,.bool false] (0,0) _ rfl hS Tryd.underlying28 rfl (by kernel_rfl) (.tmp (.tmp .nil))))) rfl ?_
 exact ⟨rfl,hb⟩
set_option maxHeartbeats 8000000 in
set_option maxRecDepth 100000 in
theorem Rea.Again_ends (k p l:Int)(b0:Int)(s0:Bool)(b1:Int)(s1:Bool)(b2:Int)(s2:Bool)(b3:Int)(s3:Bool)(b4:Int)(s4:Bool)(at0 now:Int)(A:rearm_Check.f 100 k p l b0 s0 b1 s1 b2 s2 b3 s3 b4 s4=some 0)(at1:Int)(q0:Int)(q1:Int)(q2:Int)(q3:Int)(q4:Bool)(q5:Int)(q6:Bool)(q7:Int)(q8:Bool)(q9:Int)(q10:Bool)(q11:Int)(q12:Bool)(ms er:Int)(hk:k=0)(w:World)(hT:Tab w)
  (B:∀ W:World,Tab W→Calls Tryd.prog 27 #[.agg #[.int .i64 k,.int .u64 p,.int .i64 l,.int .u64 b0,.bool s0,.int .u64 b1,.bool s1,.int .u64 b2,.bool s2,.int .u64 b3,.bool s3,.int .u64 b4,.bool s4],.int .u64 at0,.int .u64 now] W fun x w'=>x=.returned (.tuple #[.agg #[.int .u64 at1,.int .i64 q0,.int .u64 q1,.int .i64 q2,.int .u64 q3,.bool q4,.int .u64 q5,.bool q6,.int .u64 q7,.bool q8,.int .u64 q9,.bool q10,.int .u64 q11,.bool q12,.int .u64 ms],.int .i64 er])∧Below W.heap.size W w') :
  Calls Tryd.prog 16 #[.agg #[.int .i64 k,.int .u64 p,.int .i64 l,.int .u64 b0,.bool s0,.int .u64 b1,.bool s1,.int .u64 b2,.bool s2,.int .u64 b3,.bool s3,.int .u64 b4,.bool s4],.int .u64 at0,.int .u64 now] w fun x w'=>x=.returned (.tuple #[.int .u64 at1,.agg #[.int .i64 q0,.int .u64 q1,.int .i64 q2,.int .u64 q3,.bool q4,.int .u64 q5,.bool q6,.int .u64 q7,.bool q8,.int .u64 q9,.bool q10,.int .u64 q11,.bool q12],.int .u64 ms,.int .i64 er])∧Below w.heap.size w w':=by
 have hu:=Tryd.underlying28
 have T0:=Rea.aw_new w k p l b0 s0 b1 s1 b2 s2 b3 s3 b4 s4
 obtain ⟨k0,k1,k2,k3,k4,k5,k6,k7,k8,k9,k10,k11,k12⟩ :=T0.out.p.cells
 have hmm:=@run_makeMap Tryd.prog
 have hid_:=fun W=>Rea.fires (T:=58) (E:=56) (by kernel_rfl) (fun _=>by kernel_rfl) 27 28 29 W k 27 (.inl ⟨hk,rfl⟩)
 replace hid_:=Lib.hid hid_
 replace A:=Lib.hid A
 replace B:=Lib.hid B
 replace hT:=Lib.hid hT
 clear hk
 go_enter Tryd.func16,Tryd.ntmps16
 go_wp2_with fail
 clear k0 k1 k2 k3 k4 k5 k6 k7 k8 k9 k10 k11 k12
 generalize (w.alloc (.cells #[.int .i64 k,.int .u64 p,.int .i64 l,.int .u64 b0,.bool s0,.int .u64 b1,.bool s1,.int .u64 b2,.bool s2,.int .u64 b3,.bool s3,.int .u64 b4,.bool s4] 28)).alloc (.cells #[.int .i64 0,.int .u64 0,.int .i64 0,.int .u64 0,.bool false,.int .u64 0,.bool false,.int .u64 0,.bool false,.int .u64 0,.bool false,.int .u64 0,.bool false] 28)=w1 at T0 ⊢
 refine (rearm_Check.calls _ _ _ _ _ _ _ _ _ _ _ _ _ _ _ _ A.out).mono ?_
 rintro x w2 ⟨rfl,hb⟩
 have T2:=Rea.aw_step T0 hb
 clear T0 hb A
 obtain ⟨V1,V2,V3,r1_,r2_,r3_,rl_,hb⟩ :=hid_.out w2
 have T3:=Rea.aw_step T2 hb
 clear hid_ hb
 obtain ⟨k0,k1,k2,k3,k4,k5,k6,k7,k8,k9,k10,k11,k12⟩ :=T3.out.p.cells
 go_wp2_with fail
 clear k0 k1 k2 k3 k4 k5 k6 k7 k8 k9 k10 k11 k12 r1_ r2_ r3_ rl_ T2
 refine (B.out V3 (hT.out.keep T3.out.b)).mono ?_
 rintro x w4 ⟨rfl,hb⟩
 have T4:=Rea.aw_step T3 hb
 clear T3 hb B hT
 go_wp2_with (first | ((with_reducible refine gate_dst (N:=12) rfl ?_); refine box_event ?hg (N:=12) ?hd (cs:=#[.int .u64 0,.int .i64 0,.int .u64 0,.int .i64 0,.int .u64 0,.bool false,.int .u64 0,.bool false,.int .u64 0,.bool false,.int .u64 0,.bool false,.int .u64 0,.bool false,.int .u64 0]) (t:=60) ?hr ?_; (case hd=>rfl); (case hg=>rfl); (case hr=>first | (go_simp; done) | (go_simp; rfl)); intro gA hgA wA hA hbA; have T5:=Rea.aw_step T4 hbA; have hgt:=Aside0.mk (show w.heap.size+1 < gA from hgA ▸ blk_lt T4.out.z); clear T4 hbA hgA) | ((with_reducible refine gate_store (t:=60) (p:=12) (v:=.tmp 31) rfl ?_); refine Rea.st rfl rfl 60 _ _ rfl gA #[.int .u64 at1,.int .i64 q0,.int .u64 q1,.int .i64 q2,.int .u64 q3,.bool q4,.int .u64 q5,.bool q6,.int .u64 q7,.bool q8,.int .u64 q9,.bool q10,.int .u64 q11,.bool q12,.int .u64 ms] #[.int .u64 0,.int .i64 0,.int .u64 0,.int .i64 0,.int .u64 0,.bool false,.int .u64 0,.bool false,.int .u64 0,.bool false,.int .u64 0,.bool false,.int .u64 0,.bool false,.int .u64 0] 60 hA (by kernel_rfl) rfl (by kernel_rfl) rfl rfl ?_; intro wS hS hgS))
 have T6:=Rea.aw_grown T5 gA hgS hgt.out
 clear T5 hgS hA
 have hA:=blk_drew hS
 have hz:=blk_drew T6.out.z
 have hb6:=below_drew1 T6.out.b
 obtain ⟨c0,c1,c2,c3,c4,c5,c6,c7,c8,c9,c10,c11,c12,c13,c14⟩:wS.drew.cell? ⟨gA,0,none⟩=some (.int .u64 at1)∧wS.drew.cell? ⟨gA,1,none⟩=some (.int .i64 q0)∧wS.drew.cell? ⟨gA,2,none⟩=some (.int .u64 q1)∧wS.drew.cell? ⟨gA,3,none⟩=some (.int .i64 q2)∧wS.drew.cell? ⟨gA,4,none⟩=some (.int .u64 q3)∧wS.drew.cell? ⟨gA,5,none⟩=some (.bool q4)∧wS.drew.cell? ⟨gA,6,none⟩=some (.int .u64 q5)∧wS.drew.cell? ⟨gA,7,none⟩=some (.bool q6)∧wS.drew.cell? ⟨gA,8,none⟩=some (.int .u64 q7)∧wS.drew.cell? ⟨gA,9,none⟩=some (.bool q8)∧wS.drew.cell? ⟨gA,10,none⟩=some (.int .u64 q9)∧wS.drew.cell? ⟨gA,11,none⟩=some (.bool q10)∧wS.drew.cell? ⟨gA,12,none⟩=some (.int .u64 q11)∧wS.drew.cell? ⟨gA,13,none⟩=some (.bool q12)∧wS.drew.cell? ⟨gA,14,none⟩=some (.int .u64 ms):=⟨(blk_cell hA 0).trans rfl,(blk_cell hA 1).trans rfl,(blk_cell hA 2).trans rfl,(blk_cell hA 3).trans rfl,(blk_cell hA 4).trans rfl,(blk_cell hA 5).trans rfl,(blk_cell hA 6).trans rfl,(blk_cell hA 7).trans rfl,(blk_cell hA 8).trans rfl,(blk_cell hA 9).trans rfl,(blk_cell hA 10).trans rfl,(blk_cell hA 11).trans rfl,(blk_cell hA 12).trans rfl,(blk_cell hA 13).trans rfl,(blk_cell hA 14).trans rfl⟩
 replace hz:=Lib.hid hz
 replace hb6:=Lib.hid hb6
 clear T6 hA
 refine start_ (n:=11) (S:=fun w'=>w'.cell? ⟨gA,0,none⟩=some (.int .u64 at1)∧w'.cell? ⟨gA,1,none⟩=some (.int .i64 q0)∧w'.cell? ⟨gA,2,none⟩=some (.int .u64 q1)∧w'.cell? ⟨gA,3,none⟩=some (.int .i64 q2)∧w'.cell? ⟨gA,4,none⟩=some (.int .u64 q3)∧w'.cell? ⟨gA,5,none⟩=some (.bool q4)∧w'.cell? ⟨gA,6,none⟩=some (.int .u64 q5)∧w'.cell? ⟨gA,7,none⟩=some (.bool q6)∧w'.cell? ⟨gA,8,none⟩=some (.int .u64 q7)∧w'.cell? ⟨gA,9,none⟩=some (.bool q8)∧w'.cell? ⟨gA,10,none⟩=some (.int .u64 q9)∧w'.cell? ⟨gA,11,none⟩=some (.bool q10)∧w'.cell? ⟨gA,12,none⟩=some (.int .u64 q11)∧w'.cell? ⟨gA,13,none⟩=some (.bool q12)∧w'.cell? ⟨gA,14,none⟩=some (.int .u64 ms)) (ds:=[]) #[F_,F_,F_,F_,F_,F_,F_,F_,F_,F_,F_] (by kernel_rfl) rfl rfl ⟨c0,c1,c2,c3,c4,c5,c6,c7,c8,c9,c10,c11,c12,c13,c14⟩ (fun hHeld=>?_)
 refine pure_ (i:=0) (N:=some 33) (v:=?_) (a':=?_) #[T_,F_,F_,F_,F_,F_,F_,F_,F_,F_,F_] rfl rfl (by kernel_rfl) (fun _ _ _ h=>h) (Or.inl ⟨by rfl,?_⟩) ?_ ?_
 rotate_left
 ·intro w'
  go_simp
  with_reducible rfl
 rotate_left
 ·simp only [Act.put,List.setIfInBounds_toArray,List.set_cons_zero,List.set_cons_succ,i64_w,i32_w]
  rfl
 refine pure_ (i:=2) (N:=some 35) (v:=?_) (a':=?_) #[T_,F_,T_,F_,F_,F_,F_,F_,F_,F_,F_] rfl rfl (by kernel_rfl) (fun _ _ _ h=>h) (Or.inl ⟨by rfl,?_⟩) ?_ ?_
 rotate_left
 ·intro w'
  go_simp
  with_reducible rfl
 rotate_left
 ·simp only [Act.put,List.setIfInBounds_toArray,List.set_cons_zero,List.set_cons_succ,i64_w,i32_w]
  rfl
 refine pure_ (i:=4) (N:=some 37) (v:=?_) (a':=?_) #[T_,F_,T_,F_,T_,F_,F_,F_,F_,F_,F_] rfl rfl (by kernel_rfl) (fun _ _ _ h=>h) (Or.inl ⟨by rfl,?_⟩) ?_ ?_
 rotate_left
 ·intro w'
  go_simp
  with_reducible rfl
 rotate_left
 ·simp only [Act.put,List.setIfInBounds_toArray,List.set_cons_zero,List.set_cons_succ,i64_w,i32_w]
  rfl
 refine pure_ (i:=6) (N:=some 39) (v:=?_) (a':=?_) #[T_,F_,T_,F_,T_,F_,T_,F_,F_,F_,F_] rfl rfl (by kernel_rfl) (fun _ _ _ h=>h) (Or.inl ⟨by rfl,?_⟩) ?_ ?_
 rotate_left
 ·intro w'
  go_simp
  with_reducible rfl
 rotate_left
 ·simp only [Act.put,List.setIfInBounds_toArray,List.set_cons_zero,List.set_cons_succ,i64_w,i32_w]
  rfl
 refine take_ (i:=1) (N:=some 34) (v:=?_) (a':=?_) #[T_,T_,T_,F_,T_,F_,T_,F_,F_,F_,F_] rfl rfl (by kernel_rfl) (fun _ _ _ h=>h) (Or.inl ⟨by rfl,?_⟩) hHeld ?_ ?_
 rotate_left
 ·rintro w' ⟨s0,s1,s2,s3,s4,s5,s6,s7,s8,s9,s10,s11,s12,s13,s14⟩
  go_simp
  with_reducible rfl
 rotate_left
 ·simp only [Act.put,List.setIfInBounds_toArray,List.set_cons_zero,List.set_cons_succ,i64_w,i32_w]
  rfl
 refine pure_ (i:=7) (N:=some 6) (v:=?_) (a':=?_) #[T_,T_,T_,F_,T_,F_,T_,T_,F_,F_,F_] rfl rfl (by kernel_rfl) (fun _ _ _ h=>h) (Or.inl ⟨by rfl,?_⟩) ?_ ?_
 rotate_left
 ·intro w'
  go_simp
  with_reducible rfl
 rotate_left
 ·simp only [Act.put,List.setIfInBounds_toArray,List.set_cons_zero,List.set_cons_succ,i64_w,i32_w]
  rfl
 refine take_ (i:=3) (N:=some 36) (v:=?_) (a':=?_) #[T_,T_,T_,T_,T_,F_,T_,T_,F_,F_,F_] rfl rfl (by kernel_rfl) (fun _ _ _ h=>h) (Or.inl ⟨by rfl,?_⟩) hHeld ?_ ?_
 rotate_left
 ·rintro w' ⟨s0,s1,s2,s3,s4,s5,s6,s7,s8,s9,s10,s11,s12,s13,s14⟩
  go_simp
  with_reducible rfl
 rotate_left
 ·simp only [Act.put,List.setIfInBounds_toArray,List.set_cons_zero,List.set_cons_succ,i64_w,i32_w]
  rfl
 refine take_ (i:=5) (N:=some 38) (v:=?_) (a':=?_) #[T_,T_,T_,T_,T_,T_,T_,T_,F_,F_,F_] rfl rfl (by kernel_rfl) (fun _ _ _ h=>h) (Or.inl ⟨by rfl,?_⟩) hHeld ?_ ?_
 rotate_left
 ·rintro w' ⟨s0,s1,s2,s3,s4,s5,s6,s7,s8,s9,s10,s11,s12,s13,s14⟩
  go_simp
  with_reducible rfl
 rotate_left
 ·simp only [Act.put,List.setIfInBounds_toArray,List.set_cons_zero,List.set_cons_succ,i64_w,i32_w]
  rfl
 refine one_ (i:=8) (N:=none) #[T_,T_,T_,T_,T_,T_,T_,T_,T_,F_,F_] rfl rfl (by kernel_rfl) (by decide) (fun K hK=>?_)
 rw [if_pos (by rfl)]
 refine wp_store_row 28 _ _ rfl (w.heap.size+1) #[.int .i64 q0,.int .u64 q1,.int .i64 q2,.int .u64 q3,.bool q4,.int .u64 q5,.bool q6,.int .u64 q7,.bool q8,.int .u64 q9,.bool q10,.int .u64 q11,.bool q12] rfl rfl 28 #[.int .i64 0,.int .u64 0,.int .i64 0,.int .u64 0,.bool false,.int .u64 0,.bool false,.int .u64 0,.bool false,.int .u64 0,.bool false,.int .u64 0,.bool false] hz.out (by kernel_rfl) rfl (by kernel_rfl) ?_
 refine hK.out _ _ ⟨((cell_setRow_other _ _ _ _ (show gA≠w.heap.size+1 from Nat.ne_of_gt hgt.out)).trans c0),((cell_setRow_other _ _ _ _ (show gA≠w.heap.size+1 from Nat.ne_of_gt hgt.out)).trans c1),((cell_setRow_other _ _ _ _ (show gA≠w.heap.size+1 from Nat.ne_of_gt hgt.out)).trans c2),((cell_setRow_other _ _ _ _ (show gA≠w.heap.size+1 from Nat.ne_of_gt hgt.out)).trans c3),((cell_setRow_other _ _ _ _ (show gA≠w.heap.size+1 from Nat.ne_of_gt hgt.out)).trans c4),((cell_setRow_other _ _ _ _ (show gA≠w.heap.size+1 from Nat.ne_of_gt hgt.out)).trans c5),((cell_setRow_other _ _ _ _ (show gA≠w.heap.size+1 from Nat.ne_of_gt hgt.out)).trans c6),((cell_setRow_other _ _ _ _ (show gA≠w.heap.size+1 from Nat.ne_of_gt hgt.out)).trans c7),((cell_setRow_other _ _ _ _ (show gA≠w.heap.size+1 from Nat.ne_of_gt hgt.out)).trans c8),((cell_setRow_other _ _ _ _ (show gA≠w.heap.size+1 from Nat.ne_of_gt hgt.out)).trans c9),((cell_setRow_other _ _ _ _ (show gA≠w.heap.size+1 from Nat.ne_of_gt hgt.out)).trans c10),((cell_setRow_other _ _ _ _ (show gA≠w.heap.size+1 from Nat.ne_of_gt hgt.out)).trans c11),((cell_setRow_other _ _ _ _ (show gA≠w.heap.size+1 from Nat.ne_of_gt hgt.out)).trans c12),((cell_setRow_other _ _ _ _ (show gA≠w.heap.size+1 from Nat.ne_of_gt hgt.out)).trans c13),((cell_setRow_other _ _ _ _ (show gA≠w.heap.size+1 from Nat.ne_of_gt hgt.out)).trans c14)⟩ (fun hHeld=>?_)
 clear hK K
 refine pure_ (i:=9) (N:=some 8) (v:=?_) (a':=?_) #[T_,T_,T_,T_,T_,T_,T_,T_,T_,T_,F_] rfl rfl (by kernel_rfl) (fun _ _ _ h=>h) (Or.inl ⟨by rfl,?_⟩) ?_ ?_
 rotate_left
 ·intro w'
  go_simp
  with_reducible rfl
 rotate_left
 ·simp only [Act.put,List.setIfInBounds_toArray,List.set_cons_zero,List.set_cons_succ,i64_w,i32_w]
  rfl
 refine pure_ (i:=10) (N:=some 9) (v:=?_) (a':=?_) #[T_,T_,T_,T_,T_,T_,T_,T_,T_,T_,T_] rfl rfl (by kernel_rfl) (fun _ _ _ h=>h) (Or.inl ⟨by rfl,?_⟩) ?_ ?_
 rotate_left
 ·intro w'
  go_simp
  with_reducible rfl
 rotate_left
 ·simp only [Act.put,List.setIfInBounds_toArray,List.set_cons_zero,List.set_cons_succ,i64_w,i32_w]
  rfl
 refine done_ (by kernel_rfl) ?_
 replace hz:=setRow_heap _ _ _ #[.int .i64 q0,.int .u64 q1,.int .i64 q2,.int .u64 q3,.bool q4,.int .u64 q5,.bool q6,.int .u64 q7,.bool q8,.int .u64 q9,.bool q10,.int .u64 q11,.bool q12] _ _ hz.out
 replace hb6:=Rea.below_setRow hb6.out (Nat.le_succ _) hb6.out.size #[.int .i64 q0,.int .u64 q1,.int .i64 q2,.int .u64 q3,.bool q4,.int .u64 q5,.bool q6,.int .u64 q7,.bool q8,.int .u64 q9,.bool q10,.int .u64 q11,.bool q12]
 go_wp2_with fail
 refine bodyPost_ret (results_list (rs:=[.tmp 6,.cell 7 28,.tmp 8,.tmp 9]) rfl (by simp) (.tmp (.cell (w.heap.size+1) 28 #[.int .i64 q0,.int .u64 q1,.int .i64 q2,.int .u64 q3,.bool q4,.int .u64 q5,.bool q6,.int .u64 q7,.bool q8,.int .u64 q9,.bool q10,.int .u64 q11,.bool q12] (0,0) _ rfl hz Tryd.underlying28 rfl (by kernel_rfl) (.tmp (.tmp .nil))))) rfl ?_
 exact ⟨rfl,hb6⟩
set_option maxHeartbeats 8000000 in
set_option maxRecDepth 100000 in
theorem Rea.Again_goes (k p l:Int)(b0:Int)(s0:Bool)(b1:Int)(s1:Bool)(b2:Int)(s2:Bool)(b3:Int)(s3:Bool)(b4:Int)(s4:Bool)(at0 now:Int)(A:rearm_Check.f 100 k p l b0 s0 b1 s1 b2 s2 b3 s3 b4 s4=some 0)(at1:Int)(q0:Int)(q1:Int)(q2:Int)(q3:Int)(q4:Bool)(q5:Int)(q6:Bool)(q7:Int)(q8:Bool)(q9:Int)(q10:Bool)(q11:Int)(q12:Bool)(ms er:Int)(hk:k=1)(w:World)(hT:Tab w)
  (B:∀ W:World,Tab W→Calls Tryd.prog 28 #[.agg #[.int .i64 k,.int .u64 p,.int .i64 l,.int .u64 b0,.bool s0,.int .u64 b1,.bool s1,.int .u64 b2,.bool s2,.int .u64 b3,.bool s3,.int .u64 b4,.bool s4],.int .u64 at0,.int .u64 now] W fun x w'=>x=.returned (.tuple #[.agg #[.int .u64 at1,.int .i64 q0,.int .u64 q1,.int .i64 q2,.int .u64 q3,.bool q4,.int .u64 q5,.bool q6,.int .u64 q7,.bool q8,.int .u64 q9,.bool q10,.int .u64 q11,.bool q12,.int .u64 ms],.int .i64 er])∧Below W.heap.size W w') :
  Calls Tryd.prog 16 #[.agg #[.int .i64 k,.int .u64 p,.int .i64 l,.int .u64 b0,.bool s0,.int .u64 b1,.bool s1,.int .u64 b2,.bool s2,.int .u64 b3,.bool s3,.int .u64 b4,.bool s4],.int .u64 at0,.int .u64 now] w fun x w'=>x=.returned (.tuple #[.int .u64 at1,.agg #[.int .i64 q0,.int .u64 q1,.int .i64 q2,.int .u64 q3,.bool q4,.int .u64 q5,.bool q6,.int .u64 q7,.bool q8,.int .u64 q9,.bool q10,.int .u64 q11,.bool q12],.int .u64 ms,.int .i64 er])∧Below w.heap.size w w':=by
 have hu:=Tryd.underlying28
 have T0:=Rea.aw_new w k p l b0 s0 b1 s1 b2 s2 b3 s3 b4 s4
 obtain ⟨k0,k1,k2,k3,k4,k5,k6,k7,k8,k9,k10,k11,k12⟩ :=T0.out.p.cells
 have hmm:=@run_makeMap Tryd.prog
 have hid_:=fun W=>Rea.fires (T:=58) (E:=56) (by kernel_rfl) (fun _=>by kernel_rfl) 27 28 29 W k 28 (.inr (.inl ⟨hk,rfl⟩))
 replace hid_:=Lib.hid hid_
 replace A:=Lib.hid A
 replace B:=Lib.hid B
 replace hT:=Lib.hid hT
 clear hk
 go_enter Tryd.func16,Tryd.ntmps16
 go_wp2_with fail
 clear k0 k1 k2 k3 k4 k5 k6 k7 k8 k9 k10 k11 k12
 generalize (w.alloc (.cells #[.int .i64 k,.int .u64 p,.int .i64 l,.int .u64 b0,.bool s0,.int .u64 b1,.bool s1,.int .u64 b2,.bool s2,.int .u64 b3,.bool s3,.int .u64 b4,.bool s4] 28)).alloc (.cells #[.int .i64 0,.int .u64 0,.int .i64 0,.int .u64 0,.bool false,.int .u64 0,.bool false,.int .u64 0,.bool false,.int .u64 0,.bool false,.int .u64 0,.bool false] 28)=w1 at T0 ⊢
 refine (rearm_Check.calls _ _ _ _ _ _ _ _ _ _ _ _ _ _ _ _ A.out).mono ?_
 rintro x w2 ⟨rfl,hb⟩
 have T2:=Rea.aw_step T0 hb
 clear T0 hb A
 obtain ⟨V1,V2,V3,r1_,r2_,r3_,rl_,hb⟩ :=hid_.out w2
 have T3:=Rea.aw_step T2 hb
 clear hid_ hb
 obtain ⟨k0,k1,k2,k3,k4,k5,k6,k7,k8,k9,k10,k11,k12⟩ :=T3.out.p.cells
 go_wp2_with fail
 clear k0 k1 k2 k3 k4 k5 k6 k7 k8 k9 k10 k11 k12 r1_ r2_ r3_ rl_ T2
 refine (B.out V3 (hT.out.keep T3.out.b)).mono ?_
 rintro x w4 ⟨rfl,hb⟩
 have T4:=Rea.aw_step T3 hb
 clear T3 hb B hT
 go_wp2_with (first | ((with_reducible refine gate_dst (N:=12) rfl ?_); refine box_event ?hg (N:=12) ?hd (cs:=#[.int .u64 0,.int .i64 0,.int .u64 0,.int .i64 0,.int .u64 0,.bool false,.int .u64 0,.bool false,.int .u64 0,.bool false,.int .u64 0,.bool false,.int .u64 0,.bool false,.int .u64 0]) (t:=60) ?hr ?_; (case hd=>rfl); (case hg=>rfl); (case hr=>first | (go_simp; done) | (go_simp; rfl)); intro gA hgA wA hA hbA; have T5:=Rea.aw_step T4 hbA; have hgt:=Aside0.mk (show w.heap.size+1 < gA from hgA ▸ blk_lt T4.out.z); clear T4 hbA hgA) | ((with_reducible refine gate_store (t:=60) (p:=12) (v:=.tmp 31) rfl ?_); refine Rea.st rfl rfl 60 _ _ rfl gA #[.int .u64 at1,.int .i64 q0,.int .u64 q1,.int .i64 q2,.int .u64 q3,.bool q4,.int .u64 q5,.bool q6,.int .u64 q7,.bool q8,.int .u64 q9,.bool q10,.int .u64 q11,.bool q12,.int .u64 ms] #[.int .u64 0,.int .i64 0,.int .u64 0,.int .i64 0,.int .u64 0,.bool false,.int .u64 0,.bool false,.int .u64 0,.bool false,.int .u64 0,.bool false,.int .u64 0,.bool false,.int .u64 0] 60 hA (by kernel_rfl) rfl (by kernel_rfl) rfl rfl ?_; intro wS hS hgS))
 have T6:=Rea.aw_grown T5 gA hgS hgt.out
 clear T5 hgS hA
 have hA:=blk_drew hS
 have hz:=blk_drew T6.out.z
 have hb6:=below_drew1 T6.out.b
 obtain ⟨c0,c1,c2,c3,c4,c5,c6,c7,c8,c9,c10,c11,c12,c13,c14⟩:wS.drew.cell? ⟨gA,0,none⟩=some (.int .u64 at1)∧wS.drew.cell? ⟨gA,1,none⟩=some (.int .i64 q0)∧wS.drew.cell? ⟨gA,2,none⟩=some (.int .u64 q1)∧wS.drew.cell? ⟨gA,3,none⟩=some (.int .i64 q2)∧wS.drew.cell? ⟨gA,4,none⟩=some (.int .u64 q3)∧wS.drew.cell? ⟨gA,5,none⟩=some (.bool q4)∧wS.drew.cell? ⟨gA,6,none⟩=some (.int .u64 q5)∧wS.drew.cell? ⟨gA,7,none⟩=some (.bool q6)∧wS.drew.cell? ⟨gA,8,none⟩=some (.int .u64 q7)∧wS.drew.cell? ⟨gA,9,none⟩=some (.bool q8)∧wS.drew.cell? ⟨gA,10,none⟩=some (.int .u64 q9)∧wS.drew.cell? ⟨gA,11,none⟩=some (.bool q10)∧wS.drew.cell? ⟨gA,12,none⟩=some (.int .u64 q11)∧wS.drew.cell? ⟨gA,13,none⟩=some (.bool q12)∧wS.drew.cell? ⟨gA,14,none⟩=some (.int .u64 ms):=⟨(blk_cell hA 0).trans rfl,(blk_cell hA 1).trans rfl,(blk_cell hA 2).trans rfl,(blk_cell hA 3).trans rfl,(blk_cell hA 4).trans rfl,(blk_cell hA 5).trans rfl,(blk_cell hA 6).trans rfl,(blk_cell hA 7).trans rfl,(blk_cell hA 8).trans rfl,(blk_cell hA 9).trans rfl,(blk_cell hA 10).trans rfl,(blk_cell hA 11).trans rfl,(blk_cell hA 12).trans rfl,(blk_cell hA 13).trans rfl,(blk_cell hA 14).trans rfl⟩
 replace hz:=Lib.hid hz
 replace hb6:=Lib.hid hb6
 clear T6 hA
 refine start_ (n:=11) (S:=fun w'=>w'.cell? ⟨gA,0,none⟩=some (.int .u64 at1)∧w'.cell? ⟨gA,1,none⟩=some (.int .i64 q0)∧w'.cell? ⟨gA,2,none⟩=some (.int .u64 q1)∧w'.cell? ⟨gA,3,none⟩=some (.int .i64 q2)∧w'.cell? ⟨gA,4,none⟩=some (.int .u64 q3)∧w'.cell? ⟨gA,5,none⟩=some (.bool q4)∧w'.cell? ⟨gA,6,none⟩=some (.int .u64 q5)∧w'.cell? ⟨gA,7,none⟩=some (.bool q6)∧w'.cell? ⟨gA,8,none⟩=some (.int .u64 q7)∧w'.cell? ⟨gA,9,none⟩=some (.bool q8)∧w'.cell? ⟨gA,10,none⟩=some (.int .u64 q9)∧w'.cell? ⟨gA,11,none⟩=some (.bool q10)∧w'.cell? ⟨gA,12,none⟩=some (.int .u64 q11)∧w'.cell? ⟨gA,13,none⟩=some (.bool q12)∧w'.cell? ⟨gA,14,none⟩=some (.int .u64 ms)) (ds:=[]) #[F_,F_,F_,F_,F_,F_,F_,F_,F_,F_,F_] (by kernel_rfl) rfl rfl ⟨c0,c1,c2,c3,c4,c5,c6,c7,c8,c9,c10,c11,c12,c13,c14⟩ (fun hHeld=>?_)
 refine pure_ (i:=0) (N:=some 33) (v:=?_) (a':=?_) #[T_,F_,F_,F_,F_,F_,F_,F_,F_,F_,F_] rfl rfl (by kernel_rfl) (fun _ _ _ h=>h) (Or.inl ⟨by rfl,?_⟩) ?_ ?_
 rotate_left
 ·intro w'
  go_simp
  with_reducible rfl
 rotate_left
 ·simp only [Act.put,List.setIfInBounds_toArray,List.set_cons_zero,List.set_cons_succ,i64_w,i32_w]
  rfl
 refine pure_ (i:=2) (N:=some 35) (v:=?_) (a':=?_) #[T_,F_,T_,F_,F_,F_,F_,F_,F_,F_,F_] rfl rfl (by kernel_rfl) (fun _ _ _ h=>h) (Or.inl ⟨by rfl,?_⟩) ?_ ?_
 rotate_left
 ·intro w'
  go_simp
  with_reducible rfl
 rotate_left
 ·simp only [Act.put,List.setIfInBounds_toArray,List.set_cons_zero,List.set_cons_succ,i64_w,i32_w]
  rfl
 refine pure_ (i:=4) (N:=some 37) (v:=?_) (a':=?_) #[T_,F_,T_,F_,T_,F_,F_,F_,F_,F_,F_] rfl rfl (by kernel_rfl) (fun _ _ _ h=>h) (Or.inl ⟨by rfl,?_⟩) ?_ ?_
 rotate_left
 ·intro w'
  go_simp
  with_reducible rfl
 rotate_left
 ·simp only [Act.put,List.setIfInBounds_toArray,List.set_cons_zero,List.set_cons_succ,i64_w,i32_w]
  rfl
 refine pure_ (i:=6) (N:=some 39) (v:=?_) (a':=?_) #[T_,F_,T_,F_,T_,F_,T_,F_,F_,F_,F_] rfl rfl (by kernel_rfl) (fun _ _ _ h=>h) (Or.inl ⟨by rfl,?_⟩) ?_ ?_
 rotate_left
 ·intro w'
  go_simp
  with_reducible rfl
 rotate_left
 ·simp only [Act.put,List.setIfInBounds_toArray,List.set_cons_zero,List.set_cons_succ,i64_w,i32_w]
  rfl
 refine take_ (i:=1) (N:=some 34) (v:=?_) (a':=?_) #[T_,T_,T_,F_,T_,F_,T_,F_,F_,F_,F_] rfl rfl (by kernel_rfl) (fun _ _ _ h=>h) (Or.inl ⟨by rfl,?_⟩) hHeld ?_ ?_
 rotate_left
 ·rintro w' ⟨s0,s1,s2,s3,s4,s5,s6,s7,s8,s9,s10,s11,s12,s13,s14⟩
  go_simp
  with_reducible rfl
 rotate_left
 ·simp only [Act.put,List.setIfInBounds_toArray,List.set_cons_zero,List.set_cons_succ,i64_w,i32_w]
  rfl
 refine pure_ (i:=7) (N:=some 6) (v:=?_) (a':=?_) #[T_,T_,T_,F_,T_,F_,T_,T_,F_,F_,F_] rfl rfl (by kernel_rfl) (fun _ _ _ h=>h) (Or.inl ⟨by rfl,?_⟩) ?_ ?_
 rotate_left
 ·intro w'
  go_simp
  with_reducible rfl
 rotate_left
 ·simp only [Act.put,List.setIfInBounds_toArray,List.set_cons_zero,List.set_cons_succ,i64_w,i32_w]
  rfl
 refine take_ (i:=3) (N:=some 36) (v:=?_) (a':=?_) #[T_,T_,T_,T_,T_,F_,T_,T_,F_,F_,F_] rfl rfl (by kernel_rfl) (fun _ _ _ h=>h) (Or.inl ⟨by rfl,?_⟩) hHeld ?_ ?_
 rotate_left
 ·rintro w' ⟨s0,s1,s2,s3,s4,s5,s6,s7,s8,s9,s10,s11,s12,s13,s14⟩
  go_simp
  with_reducible rfl
 rotate_left
 ·simp only [Act.put,List.setIfInBounds_toArray,List.set_cons_zero,List.set_cons_succ,i64_w,i32_w]
  rfl
 refine take_ (i:=5) (N:=some 38) (v:=?_) (a':=?_) #[T_,T_,T_,T_,T_,T_,T_,T_,F_,F_,F_] rfl rfl (by kernel_rfl) (fun _ _ _ h=>h) (Or.inl ⟨by rfl,?_⟩) hHeld ?_ ?_
 rotate_left
 ·rintro w' ⟨s0,s1,s2,s3,s4,s5,s6,s7,s8,s9,s10,s11,s12,s13,s14⟩
  go_simp
  with_reducible rfl
 rotate_left
 ·simp only [Act.put,List.setIfInBounds_toArray,List.set_cons_zero,List.set_cons_succ,i64_w,i32_w]
  rfl
 refine one_ (i:=8) (N:=none) #[T_,T_,T_,T_,T_,T_,T_,T_,T_,F_,F_] rfl rfl (by kernel_rfl) (by decide) (fun K hK=>?_)
 rw [if_pos (by rfl)]
 refine wp_store_row 28 _ _ rfl (w.heap.size+1) #[.int .i64 q0,.int .u64 q1,.int .i64 q2,.int .u64 q3,.bool q4,.int .u64 q5,.bool q6,.int .u64 q7,.bool q8,.int .u64 q9,.bool q10,.int .u64 q11,.bool q12] rfl rfl 28 #[.int .i64 0,.int .u64 0,.int .i64 0,.int .u64 0,.bool false,.int .u64 0,.bool false,.int .u64 0,.bool false,.int .u64 0,.bool false,.int .u64 0,.bool false] hz.out (by kernel_rfl) rfl (by kernel_rfl) ?_
 refine hK.out _ _ ⟨((cell_setRow_other _ _ _ _ (show gA≠w.heap.size+1 from Nat.ne_of_gt hgt.out)).trans c0),((cell_setRow_other _ _ _ _ (show gA≠w.heap.size+1 from Nat.ne_of_gt hgt.out)).trans c1),((cell_setRow_other _ _ _ _ (show gA≠w.heap.size+1 from Nat.ne_of_gt hgt.out)).trans c2),((cell_setRow_other _ _ _ _ (show gA≠w.heap.size+1 from Nat.ne_of_gt hgt.out)).trans c3),((cell_setRow_other _ _ _ _ (show gA≠w.heap.size+1 from Nat.ne_of_gt hgt.out)).trans c4),((cell_setRow_other _ _ _ _ (show gA≠w.heap.size+1 from Nat.ne_of_gt hgt.out)).trans c5),((cell_setRow_other _ _ _ _ (show gA≠w.heap.size+1 from Nat.ne_of_gt hgt.out)).trans c6),((cell_setRow_other _ _ _ _ (show gA≠w.heap.size+1 from Nat.ne_of_gt hgt.out)).trans c7),((cell_setRow_other _ _ _ _ (show gA≠w.heap.size+1 from Nat.ne_of_gt hgt.out)).trans c8),((cell_setRow_other _ _ _ _ (show gA≠w.heap.size+1 from Nat.ne_of_gt hgt.out)).trans c9),((cell_setRow_other _ _ _ _ (show gA≠w.heap.size+1 from Nat.ne_of_gt hgt.out)).trans c10),((cell_setRow_other _ _ _ _ (show gA≠w.heap.size+1 from Nat.ne_of_gt hgt.out)).trans c11),((cell_setRow_other _ _ _ _ (show gA≠w.heap.size+1 from Nat.ne_of_gt hgt.out)).trans c12),((cell_setRow_other _ _ _ _ (show gA≠w.heap.size+1 from Nat.ne_of_gt hgt.out)).trans c13),((cell_setRow_other _ _ _ _ (show gA≠w.heap.size+1 from Nat.ne_of_gt hgt.out)).trans c14)⟩ (fun hHeld=>?_)
 clear hK K
 refine pure_ (i:=9) (N:=some 8) (v:=?_) (a':=?_) #[T_,T_,T_,T_,T_,T_,T_,T_,T_,T_,F_] rfl rfl (by kernel_rfl) (fun _ _ _ h=>h) (Or.inl ⟨by rfl,?_⟩) ?_ ?_
 rotate_left
 ·intro w'
  go_simp
  with_reducible rfl
 rotate_left
 ·simp only [Act.put,List.setIfInBounds_toArray,List.set_cons_zero,List.set_cons_succ,i64_w,i32_w]
  rfl
 refine pure_ (i:=10) (N:=some 9) (v:=?_) (a':=?_) #[T_,T_,T_,T_,T_,T_,T_,T_,T_,T_,T_] rfl rfl (by kernel_rfl) (fun _ _ _ h=>h) (Or.inl ⟨by rfl,?_⟩) ?_ ?_
 rotate_left
 ·intro w'
  go_simp
  with_reducible rfl
 rotate_left
 ·simp only [Act.put,List.setIfInBounds_toArray,List.set_cons_zero,List.set_cons_succ,i64_w,i32_w]
  rfl
 refine done_ (by kernel_rfl) ?_
 replace hz:=setRow_heap _ _ _ #[.int .i64 q0,.int .u64 q1,.int .i64 q2,.int .u64 q3,.bool q4,.int .u64 q5,.bool q6,.int .u64 q7,.bool q8,.int .u64 q9,.bool q10,.int .u64 q11,.bool q12] _ _ hz.out
 replace hb6:=Rea.below_setRow hb6.out (Nat.le_succ _) hb6.out.size #[.int .i64 q0,.int .u64 q1,.int .i64 q2,.int .u64 q3,.bool q4,.int .u64 q5,.bool q6,.int .u64 q7,.bool q8,.int .u64 q9,.bool q10,.int .u64 q11,.bool q12]
 go_wp2_with fail
 refine bodyPost_ret (results_list (rs:=[.tmp 6,.cell 7 28,.tmp 8,.tmp 9]) rfl (by simp) (.tmp (.cell (w.heap.size+1) 28 #[.int .i64 q0,.int .u64 q1,.int .i64 q2,.int .u64 q3,.bool q4,.int .u64 q5,.bool q6,.int .u64 q7,.bool q8,.int .u64 q9,.bool q10,.int .u64 q11,.bool q12] (0,0) _ rfl hz Tryd.underlying28 rfl (by kernel_rfl) (.tmp (.tmp .nil))))) rfl ?_
 exact ⟨rfl,hb6⟩
set_option maxHeartbeats 8000000 in
set_option maxRecDepth 100000 in
theorem Rea.Again_meets (k p l:Int)(b0:Int)(s0:Bool)(b1:Int)(s1:Bool)(b2:Int)(s2:Bool)(b3:Int)(s3:Bool)(b4:Int)(s4:Bool)(at0 now:Int)(A:rearm_Check.f 100 k p l b0 s0 b1 s1 b2 s2 b3 s3 b4 s4=some 0)(at1:Int)(q0:Int)(q1:Int)(q2:Int)(q3:Int)(q4:Bool)(q5:Int)(q6:Bool)(q7:Int)(q8:Bool)(q9:Int)(q10:Bool)(q11:Int)(q12:Bool)(ms er:Int)(hk:k=2)(w:World)(hT:Tab w)
  (B:∀ W:World,Tab W→Calls Tryd.prog 29 #[.agg #[.int .i64 k,.int .u64 p,.int .i64 l,.int .u64 b0,.bool s0,.int .u64 b1,.bool s1,.int .u64 b2,.bool s2,.int .u64 b3,.bool s3,.int .u64 b4,.bool s4],.int .u64 at0,.int .u64 now] W fun x w'=>x=.returned (.tuple #[.agg #[.int .u64 at1,.int .i64 q0,.int .u64 q1,.int .i64 q2,.int .u64 q3,.bool q4,.int .u64 q5,.bool q6,.int .u64 q7,.bool q8,.int .u64 q9,.bool q10,.int .u64 q11,.bool q12,.int .u64 ms],.int .i64 er])∧Below W.heap.size W w') :
  Calls Tryd.prog 16 #[.agg #[.int .i64 k,.int .u64 p,.int .i64 l,.int .u64 b0,.bool s0,.int .u64 b1,.bool s1,.int .u64 b2,.bool s2,.int .u64 b3,.bool s3,.int .u64 b4,.bool s4],.int .u64 at0,.int .u64 now] w fun x w'=>x=.returned (.tuple #[.int .u64 at1,.agg #[.int .i64 q0,.int .u64 q1,.int .i64 q2,.int .u64 q3,.bool q4,.int .u64 q5,.bool q6,.int .u64 q7,.bool q8,.int .u64 q9,.bool q10,.int .u64 q11,.bool q12],.int .u64 ms,.int .i64 er])∧Below w.heap.size w w':=by
 have hu:=Tryd.underlying28
 have T0:=Rea.aw_new w k p l b0 s0 b1 s1 b2 s2 b3 s3 b4 s4
 obtain ⟨k0,k1,k2,k3,k4,k5,k6,k7,k8,k9,k10,k11,k12⟩ :=T0.out.p.cells
 have hmm:=@run_makeMap Tryd.prog
 have hid_:=fun W=>Rea.fires (T:=58) (E:=56) (by kernel_rfl) (fun _=>by kernel_rfl) 27 28 29 W k 29 (.inr (.inr ⟨hk,rfl⟩))
 replace hid_:=Lib.hid hid_
 replace A:=Lib.hid A
 replace B:=Lib.hid B
 replace hT:=Lib.hid hT
 clear hk
 go_enter Tryd.func16,Tryd.ntmps16
 go_wp2_with fail
 clear k0 k1 k2 k3 k4 k5 k6 k7 k8 k9 k10 k11 k12
 generalize (w.alloc (.cells #[.int .i64 k,.int .u64 p,.int .i64 l,.int .u64 b0,.bool s0,.int .u64 b1,.bool s1,.int .u64 b2,.bool s2,.int .u64 b3,.bool s3,.int .u64 b4,.bool s4] 28)).alloc (.cells #[.int .i64 0,.int .u64 0,.int .i64 0,.int .u64 0,.bool false,.int .u64 0,.bool false,.int .u64 0,.bool false,.int .u64 0,.bool false,.int .u64 0,.bool false] 28)=w1 at T0 ⊢
 refine (rearm_Check.calls _ _ _ _ _ _ _ _ _ _ _ _ _ _ _ _ A.out).mono ?_
 rintro x w2 ⟨rfl,hb⟩
 have T2:=Rea.aw_step T0 hb
 clear T0 hb A
 obtain ⟨V1,V2,V3,r1_,r2_,r3_,rl_,hb⟩ :=hid_.out w2
 have T3:=Rea.aw_step T2 hb
 clear hid_ hb
 obtain ⟨k0,k1,k2,k3,k4,k5,k6,k7,k8,k9,k10,k11,k12⟩ :=T3.out.p.cells
 go_wp2_with fail
 clear k0 k1 k2 k3 k4 k5 k6 k7 k8 k9 k10 k11 k12 r1_ r2_ r3_ rl_ T2
 refine (B.out V3 (hT.out.keep T3.out.b)).mono ?_
 rintro x w4 ⟨rfl,hb⟩
 have T4:=Rea.aw_step T3 hb
 clear T3 hb B hT
 go_wp2_with (first | ((with_reducible refine gate_dst (N:=12) rfl ?_); refine box_event ?hg (N:=12) ?hd (cs:=#[.int .u64 0,.int .i64 0,.int .u64 0,.int .i64 0,.int .u64 0,.bool false,.int .u64 0,.bool false,.int .u64 0,.bool false,.int .u64 0,.bool false,.int .u64 0,.bool false,.int .u64 0]) (t:=60) ?hr ?_; (case hd=>rfl); (case hg=>rfl); (case hr=>first | (go_simp; done) | (go_simp; rfl)); intro gA hgA wA hA hbA; have T5:=Rea.aw_step T4 hbA; have hgt:=Aside0.mk (show w.heap.size+1 < gA from hgA ▸ blk_lt T4.out.z); clear T4 hbA hgA) | ((with_reducible refine gate_store (t:=60) (p:=12) (v:=.tmp 31) rfl ?_); refine Rea.st rfl rfl 60 _ _ rfl gA #[.int .u64 at1,.int .i64 q0,.int .u64 q1,.int .i64 q2,.int .u64 q3,.bool q4,.int .u64 q5,.bool q6,.int .u64 q7,.bool q8,.int .u64 q9,.bool q10,.int .u64 q11,.bool q12,.int .u64 ms] #[.int .u64 0,.int .i64 0,.int .u64 0,.int .i64 0,.int .u64 0,.bool false,.int .u64 0,.bool false,.int .u64 0,.bool false,.int .u64 0,.bool false,.int .u64 0,.bool false,.int .u64 0] 60 hA (by kernel_rfl) rfl (by kernel_rfl) rfl rfl ?_; intro wS hS hgS))
 have T6:=Rea.aw_grown T5 gA hgS hgt.out
 clear T5 hgS hA
 have hA:=blk_drew hS
 have hz:=blk_drew T6.out.z
 have hb6:=below_drew1 T6.out.b
 obtain ⟨c0,c1,c2,c3,c4,c5,c6,c7,c8,c9,c10,c11,c12,c13,c14⟩:wS.drew.cell? ⟨gA,0,none⟩=some (.int .u64 at1)∧wS.drew.cell? ⟨gA,1,none⟩=some (.int .i64 q0)∧wS.drew.cell? ⟨gA,2,none⟩=some (.int .u64 q1)∧wS.drew.cell? ⟨gA,3,none⟩=some (.int .i64 q2)∧wS.drew.cell? ⟨gA,4,none⟩=some (.int .u64 q3)∧wS.drew.cell? ⟨gA,5,none⟩=some (.bool q4)∧wS.drew.cell? ⟨gA,6,none⟩=some (.int .u64 q5)∧wS.drew.cell? ⟨gA,7,none⟩=some (.bool q6)∧wS.drew.cell? ⟨gA,8,none⟩=some (.int .u64 q7)∧wS.drew.cell? ⟨gA,9,none⟩=some (.bool q8)∧wS.drew.cell? ⟨gA,10,none⟩=some (.int .u64 q9)∧wS.drew.cell? ⟨gA,11,none⟩=some (.bool q10)∧wS.drew.cell? ⟨gA,12,none⟩=some (.int .u64 q11)∧wS.drew.cell? ⟨gA,13,none⟩=some (.bool q12)∧wS.drew.cell? ⟨gA,14,none⟩=some (.int .u64 ms):=⟨(blk_cell hA 0).trans rfl,(blk_cell hA 1).trans rfl,(blk_cell hA 2).trans rfl,(blk_cell hA 3).trans rfl,(blk_cell hA 4).trans rfl,(blk_cell hA 5).trans rfl,(blk_cell hA 6).trans rfl,(blk_cell hA 7).trans rfl,(blk_cell hA 8).trans rfl,(blk_cell hA 9).trans rfl,(blk_cell hA 10).trans rfl,(blk_cell hA 11).trans rfl,(blk_cell hA 12).trans rfl,(blk_cell hA 13).trans rfl,(blk_cell hA 14).trans rfl⟩
 replace hz:=Lib.hid hz
 replace hb6:=Lib.hid hb6
 clear T6 hA
 refine start_ (n:=11) (S:=fun w'=>w'.cell? ⟨gA,0,none⟩=some (.int .u64 at1)∧w'.cell? ⟨gA,1,none⟩=some (.int .i64 q0)∧w'.cell? ⟨gA,2,none⟩=some (.int .u64 q1)∧w'.cell? ⟨gA,3,none⟩=some (.int .i64 q2)∧w'.cell? ⟨gA,4,none⟩=some (.int .u64 q3)∧w'.cell? ⟨gA,5,none⟩=some (.bool q4)∧w'.cell? ⟨gA,6,none⟩=some (.int .u64 q5)∧w'.cell? ⟨gA,7,none⟩=some (.bool q6)∧w'.cell? ⟨gA,8,none⟩=some (.int .u64 q7)∧w'.cell? ⟨gA,9,none⟩=some (.bool q8)∧w'.cell? ⟨gA,10,none⟩=some (.int .u64 q9)∧w'.cell? ⟨gA,11,none⟩=some (.bool q10)∧w'.cell? ⟨gA,12,none⟩=some (.int .u64 q11)∧w'.cell? ⟨gA,13,none⟩=some (.bool q12)∧w'.cell? ⟨gA,14,none⟩=some (.int .u64 ms)) (ds:=[]) #[F_,F_,F_,F_,F_,F_,F_,F_,F_,F_,F_] (by kernel_rfl) rfl rfl ⟨c0,c1,c2,c3,c4,c5,c6,c7,c8,c9,c10,c11,c12,c13,c14⟩ (fun hHeld=>?_)
 refine pure_ (i:=0) (N:=some 33) (v:=?_) (a':=?_) #[T_,F_,F_,F_,F_,F_,F_,F_,F_,F_,F_] rfl rfl (by kernel_rfl) (fun _ _ _ h=>h) (Or.inl ⟨by rfl,?_⟩) ?_ ?_
 rotate_left
 ·intro w'
  go_simp
  with_reducible rfl
 rotate_left
 ·simp only [Act.put,List.setIfInBounds_toArray,List.set_cons_zero,List.set_cons_succ,i64_w,i32_w]
  rfl
 refine pure_ (i:=2) (N:=some 35) (v:=?_) (a':=?_) #[T_,F_,T_,F_,F_,F_,F_,F_,F_,F_,F_] rfl rfl (by kernel_rfl) (fun _ _ _ h=>h) (Or.inl ⟨by rfl,?_⟩) ?_ ?_
 rotate_left
 ·intro w'
  go_simp
  with_reducible rfl
 rotate_left
 ·simp only [Act.put,List.setIfInBounds_toArray,List.set_cons_zero,List.set_cons_succ,i64_w,i32_w]
  rfl
 refine pure_ (i:=4) (N:=some 37) (v:=?_) (a':=?_) #[T_,F_,T_,F_,T_,F_,F_,F_,F_,F_,F_] rfl rfl (by kernel_rfl) (fun _ _ _ h=>h) (Or.inl ⟨by rfl,?_⟩) ?_ ?_
 rotate_left
 ·intro w'
  go_simp
  with_reducible rfl
 rotate_left
 ·simp only [Act.put,List.setIfInBounds_toArray,List.set_cons_zero,List.set_cons_succ,i64_w,i32_w]
  rfl
 refine pure_ (i:=6) (N:=some 39) (v:=?_) (a':=?_) #[T_,F_,T_,F_,T_,F_,T_,F_,F_,F_,F_] rfl rfl (by kernel_rfl) (fun _ _ _ h=>h) (Or.inl ⟨by rfl,?_⟩) ?_ ?_
 rotate_left
 ·intro w'
  go_simp
  with_reducible rfl
 rotate_left
 ·simp only [Act.put,List.setIfInBounds_toArray,List.set_cons_zero,List.set_cons_succ,i64_w,i32_w]
  rfl
 refine take_ (i:=1) (N:=some 34) (v:=?_) (a':=?_) #[T_,T_,T_,F_,T_,F_,T_,F_,F_,F_,F_] rfl rfl (by kernel_rfl) (fun _ _ _ h=>h) (Or.inl ⟨by rfl,?_⟩) hHeld ?_ ?_
 rotate_left
 ·rintro w' ⟨s0,s1,s2,s3,s4,s5,s6,s7,s8,s9,s10,s11,s12,s13,s14⟩
  go_simp
  with_reducible rfl
 rotate_left
 ·simp only [Act.put,List.setIfInBounds_toArray,List.set_cons_zero,List.set_cons_succ,i64_w,i32_w]
  rfl
 refine pure_ (i:=7) (N:=some 6) (v:=?_) (a':=?_) #[T_,T_,T_,F_,T_,F_,T_,T_,F_,F_,F_] rfl rfl (by kernel_rfl) (fun _ _ _ h=>h) (Or.inl ⟨by rfl,?_⟩) ?_ ?_
 rotate_left
 ·intro w'
  go_simp
  with_reducible rfl
 rotate_left
 ·simp only [Act.put,List.setIfInBounds_toArray,List.set_cons_zero,List.set_cons_succ,i64_w,i32_w]
  rfl
 refine take_ (i:=3) (N:=some 36) (v:=?_) (a':=?_) #[T_,T_,T_,T_,T_,F_,T_,T_,F_,F_,F_] rfl rfl (by kernel_rfl) (fun _ _ _ h=>h) (Or.inl ⟨by rfl,?_⟩) hHeld ?_ ?_
 rotate_left
 ·rintro w' ⟨s0,s1,s2,s3,s4,s5,s6,s7,s8,s9,s10,s11,s12,s13,s14⟩
  go_simp
  with_reducible rfl
 rotate_left
 ·simp only [Act.put,List.setIfInBounds_toArray,List.set_cons_zero,List.set_cons_succ,i64_w,i32_w]
  rfl
 refine take_ (i:=5) (N:=some 38) (v:=?_) (a':=?_) #[T_,T_,T_,T_,T_,T_,T_,T_,F_,F_,F_] rfl rfl (by kernel_rfl) (fun _ _ _ h=>h) (Or.inl ⟨by rfl,?_⟩) hHeld ?_ ?_
 rotate_left
 ·rintro w' ⟨s0,s1,s2,s3,s4,s5,s6,s7,s8,s9,s10,s11,s12,s13,s14⟩
  go_simp
  with_reducible rfl
 rotate_left
 ·simp only [Act.put,List.setIfInBounds_toArray,List.set_cons_zero,List.set_cons_succ,i64_w,i32_w]
  rfl
 refine one_ (i:=8) (N:=none) #[T_,T_,T_,T_,T_,T_,T_,T_,T_,F_,F_] rfl rfl (by kernel_rfl) (by decide) (fun K hK=>?_)
 rw [if_pos (by rfl)]
 refine wp_store_row 28 _ _ rfl (w.heap.size+1) #[.int .i64 q0,.int .u64 q1,.int .i64 q2,.int .u64 q3,.bool q4,.int .u64 q5,.bool q6,.int .u64 q7,.bool q8,.int .u64 q9,.bool q10,.int .u64 q11,.bool q12] rfl rfl 28 #[.int .i64 0,.int .u64 0,.int .i64 0,.int .u64 0,.bool false,.int .u64 0,.bool false,.int .u64 0,.bool false,.int .u64 0,.bool false,.int .u64 0,.bool false] hz.out (by kernel_rfl) rfl (by kernel_rfl) ?_
 refine hK.out _ _ ⟨((cell_setRow_other _ _ _ _ (show gA≠w.heap.size+1 from Nat.ne_of_gt hgt.out)).trans c0),((cell_setRow_other _ _ _ _ (show gA≠w.heap.size+1 from Nat.ne_of_gt hgt.out)).trans c1),((cell_setRow_other _ _ _ _ (show gA≠w.heap.size+1 from Nat.ne_of_gt hgt.out)).trans c2),((cell_setRow_other _ _ _ _ (show gA≠w.heap.size+1 from Nat.ne_of_gt hgt.out)).trans c3),((cell_setRow_other _ _ _ _ (show gA≠w.heap.size+1 from Nat.ne_of_gt hgt.out)).trans c4),((cell_setRow_other _ _ _ _ (show gA≠w.heap.size+1 from Nat.ne_of_gt hgt.out)).trans c5),((cell_setRow_other _ _ _ _ (show gA≠w.heap.size+1 from Nat.ne_of_gt hgt.out)).trans c6),((cell_setRow_other _ _ _ _ (show gA≠w.heap.size+1 from Nat.ne_of_gt hgt.out)).trans c7),((cell_setRow_other _ _ _ _ (show gA≠w.heap.size+1 from Nat.ne_of_gt hgt.out)).trans c8),((cell_setRow_other _ _ _ _ (show gA≠w.heap.size+1 from Nat.ne_of_gt hgt.out)).trans c9),((cell_setRow_other _ _ _ _ (show gA≠w.heap.size+1 from Nat.ne_of_gt hgt.out)).trans c10),((cell_setRow_other _ _ _ _ (show gA≠w.heap.size+1 from Nat.ne_of_gt hgt.out)).trans c11),((cell_setRow_other _ _ _ _ (show gA≠w.heap.size+1 from Nat.ne_of_gt hgt.out)).trans c12),((cell_setRow_other _ _ _ _ (show gA≠w.heap.size+1 from Nat.ne_of_gt hgt.out)).trans c13),((cell_setRow_other _ _ _ _ (show gA≠w.heap.size+1 from Nat.ne_of_gt hgt.out)).trans c14)⟩ (fun hHeld=>?_)
 clear hK K
 refine pure_ (i:=9) (N:=some 8) (v:=?_) (a':=?_) #[T_,T_,T_,T_,T_,T_,T_,T_,T_,T_,F_] rfl rfl (by kernel_rfl) (fun _ _ _ h=>h) (Or.inl ⟨by rfl,?_⟩) ?_ ?_
 rotate_left
 ·intro w'
  go_simp
  with_reducible rfl
 rotate_left
 ·simp only [Act.put,List.setIfInBounds_toArray,List.set_cons_zero,List.set_cons_succ,i64_w,i32_w]
  rfl
 refine pure_ (i:=10) (N:=some 9) (v:=?_) (a':=?_) #[T_,T_,T_,T_,T_,T_,T_,T_,T_,T_,T_] rfl rfl (by kernel_rfl) (fun _ _ _ h=>h) (Or.inl ⟨by rfl,?_⟩) ?_ ?_
 rotate_left
 ·intro w'
  go_simp
  with_reducible rfl
 rotate_left
 ·simp only [Act.put,List.setIfInBounds_toArray,List.set_cons_zero,List.set_cons_succ,i64_w,i32_w]
  rfl
 refine done_ (by kernel_rfl) ?_
 replace hz:=setRow_heap _ _ _ #[.int .i64 q0,.int .u64 q1,.int .i64 q2,.int .u64 q3,.bool q4,.int .u64 q5,.bool q6,.int .u64 q7,.bool q8,.int .u64 q9,.bool q10,.int .u64 q11,.bool q12] _ _ hz.out
 replace hb6:=Rea.below_setRow hb6.out (Nat.le_succ _) hb6.out.size #[.int .i64 q0,.int .u64 q1,.int .i64 q2,.int .u64 q3,.bool q4,.int .u64 q5,.bool q6,.int .u64 q7,.bool q8,.int .u64 q9,.bool q10,.int .u64 q11,.bool q12]
 go_wp2_with fail
 refine bodyPost_ret (results_list (rs:=[.tmp 6,.cell 7 28,.tmp 8,.tmp 9]) rfl (by simp) (.tmp (.cell (w.heap.size+1) 28 #[.int .i64 q0,.int .u64 q1,.int .i64 q2,.int .u64 q3,.bool q4,.int .u64 q5,.bool q6,.int .u64 q7,.bool q8,.int .u64 q9,.bool q10,.int .u64 q11,.bool q12] (0,0) _ rfl hz Tryd.underlying28 rfl (by kernel_rfl) (.tmp (.tmp .nil))))) rfl ?_
 exact ⟨rfl,hb6⟩
def rearm_Again.f (a0_0:Int)(a0_1:Int)(a0_2:Int)(a0_3:Int)(a0_4:Bool)(a0_5:Int)(a0_6:Bool)(a0_7:Int)(a0_8:Bool)(a0_9:Int)(a0_10:Bool)(a0_11:Int)(a0_12:Bool)(a1:Int)(a2:Int):Option (Int × Int × Int × Int × Int × Bool × Int × Bool × Int × Bool × Int × Bool × Int × Bool × Int × Int):=(rearm_Check.f 100 a0_0 a0_1 a0_2 a0_3 a0_4 a0_5 a0_6 a0_7 a0_8 a0_9 a0_10 a0_11 a0_12).bind fun e=>if e≠0 then some (0,0,0,0,0,false,0,false,0,false,0,false,0,false,0,e) else if a0_0=0 then rearm_plan_ends.f a0_0 a0_1 a0_2 a0_3 a0_4 a0_5 a0_6 a0_7 a0_8 a0_9 a0_10 a0_11 a0_12 a1 a2 else if a0_0=1 then rearm_plan_goes.f a0_0 a0_1 a0_2 a0_3 a0_4 a0_5 a0_6 a0_7 a0_8 a0_9 a0_10 a0_11 a0_12 a1 a2 else if a0_0=2 then rearm_plan_meets.f a0_0 a0_1 a0_2 a0_3 a0_4 a0_5 a0_6 a0_7 a0_8 a0_9 a0_10 a0_11 a0_12 a1 a2 else none
set_option maxHeartbeats 8000000 in
set_option maxRecDepth 100000 in
theorem rearm_Again.calls (a0_0:Int)(a0_1:Int)(a0_2:Int)(a0_3:Int)(a0_4:Bool)(a0_5:Int)(a0_6:Bool)(a0_7:Int)(a0_8:Bool)(a0_9:Int)(a0_10:Bool)(a0_11:Int)(a0_12:Bool)(a1:Int)(a2:Int)(r1:Int)(r2:Int)(r3:Int)(r4:Int)(r5:Int)(r6:Bool)(r7:Int)(r8:Bool)(r9:Int)(r10:Bool)(r11:Int)(r12:Bool)(r13:Int)(r14:Bool)(r15:Int)(r16:Int)(w:World)(hT:Tab w)(h:rearm_Again.f a0_0 a0_1 a0_2 a0_3 a0_4 a0_5 a0_6 a0_7 a0_8 a0_9 a0_10 a0_11 a0_12 a1 a2=some (r1,r2,r3,r4,r5,r6,r7,r8,r9,r10,r11,r12,r13,r14,r15,r16)) :
  Calls Tryd.prog 16 #[.agg #[.int .i64 a0_0,.int .u64 a0_1,.int .i64 a0_2,.int .u64 a0_3,.bool a0_4,.int .u64 a0_5,.bool a0_6,.int .u64 a0_7,.bool a0_8,.int .u64 a0_9,.bool a0_10,.int .u64 a0_11,.bool a0_12],.int .u64 a1,.int .u64 a2] w fun e w'=>e=.returned (.tuple #[.int .u64 r1,.agg #[.int .i64 r2,.int .u64 r3,.int .i64 r4,.int .u64 r5,.bool r6,.int .u64 r7,.bool r8,.int .u64 r9,.bool r10,.int .u64 r11,.bool r12,.int .u64 r13,.bool r14],.int .u64 r15,.int .i64 r16])∧Below w.heap.size w w':=by
 have HB:=Aside0.mk (Below.refl w.heap.size w)
 have hh:((rearm_Check.f 100 a0_0 a0_1 a0_2 a0_3 a0_4 a0_5 a0_6 a0_7 a0_8 a0_9 a0_10 a0_11 a0_12).bind fun e=>if e≠0 then some (0,0,0,0,0,false,0,false,0,false,0,false,0,false,0,e) else if a0_0=0 then rearm_plan_ends.f a0_0 a0_1 a0_2 a0_3 a0_4 a0_5 a0_6 a0_7 a0_8 a0_9 a0_10 a0_11 a0_12 a1 a2 else if a0_0=1 then rearm_plan_goes.f a0_0 a0_1 a0_2 a0_3 a0_4 a0_5 a0_6 a0_7 a0_8 a0_9 a0_10 a0_11 a0_12 a1 a2 else if a0_0=2 then rearm_plan_meets.f a0_0 a0_1 a0_2 a0_3 a0_4 a0_5 a0_6 a0_7 a0_8 a0_9 a0_10 a0_11 a0_12 a1 a2 else none)=some (r1,r2,r3,r4,r5,r6,r7,r8,r9,r10,r11,r12,r13,r14,r15,r16):=h
 clear h HB
 obtain ⟨e,A,hh⟩ :=Option.bind_eq_some_iff.1 hh
 by_cases he:e=0
 ·subst he
  rw [if_neg (by decide)] at hh
  by_cases h0:a0_0=0
  ·rw [if_pos h0] at hh
   exact Rea.Again_ends a0_0 a0_1 a0_2 a0_3 a0_4 a0_5 a0_6 a0_7 a0_8 a0_9 a0_10 a0_11 a0_12 a1 a2 A r1 r2 r3 r4 r5 r6 r7 r8 r9 r10 r11 r12 r13 r14 r15 r16 h0 w hT (fun W hT=>rearm_plan_ends.calls _ _ _ _ _ _ _ _ _ _ _ _ _ _ _ _ _ _ _ _ _ _ _ _ _ _ _ _ _ _ _ W hh)
  ·rw [if_neg h0] at hh
   by_cases h1:a0_0=1
   ·rw [if_pos h1] at hh
    exact Rea.Again_goes a0_0 a0_1 a0_2 a0_3 a0_4 a0_5 a0_6 a0_7 a0_8 a0_9 a0_10 a0_11 a0_12 a1 a2 A r1 r2 r3 r4 r5 r6 r7 r8 r9 r10 r11 r12 r13 r14 r15 r16 h1 w hT (fun W hT=>rearm_plan_goes.calls _ _ _ _ _ _ _ _ _ _ _ _ _ _ _ _ _ _ _ _ _ _ _ _ _ _ _ _ _ _ _ W hh)
   ·rw [if_neg h1] at hh
    by_cases h2:a0_0=2
    ·rw [if_pos h2] at hh
     exact Rea.Again_meets a0_0 a0_1 a0_2 a0_3 a0_4 a0_5 a0_6 a0_7 a0_8 a0_9 a0_10 a0_11 a0_12 a1 a2 A r1 r2 r3 r4 r5 r6 r7 r8 r9 r10 r11 r12 r13 r14 r15 r16 h2 w hT (fun W hT=>rearm_plan_meets.calls _ _ _ _ _ _ _ _ _ _ _ _ _ _ _ _ _ _ _ _ _ _ _ _ _ _ _ _ _ _ _ W hT hh)
    ·rw [if_neg h2] at hh
     cases hh
 ·rw [if_pos he] at hh
  simp only [Option.some.injEq,Prod.mk.injEq] at hh
  obtain ⟨rfl,rfl,rfl,rfl,rfl,rfl,rfl,rfl,rfl,rfl,rfl,rfl,rfl,rfl,rfl,rfl⟩ :=hh
  exact Rea.Again_bad a0_0 a0_1 a0_2 a0_3 a0_4 a0_5 a0_6 a0_7 a0_8 a0_9 a0_10 a0_11 a0_12 a1 a2 _ A he w
def field_All.f (a0:Int):Option (Int × Bool × Int):=(field_limits.f a0).bind fun bt160=>(if bt160.2.2=0 then ((field_every.f bt160.1 bt160.2.1).bind fun t163=>(some (t163,true,0))) else (some (0,false,bt160.2.2)))
set_option maxHeartbeats 8000000 in
set_option maxRecDepth 100000 in
theorem field_All.calls (a0:Int)(r1:Int)(r2:Bool)(r3:Int)(w:World)(h:field_All.f a0=some (r1,r2,r3)) :
  Calls Tryd.prog 45 #[.int .i64 a0] w fun e w'=>e=.returned (.tuple #[.agg #[.int .u64 r1,.bool r2],.int .i64 r3])∧Below w.heap.size w w':=by
 have hu24:=Tryd.underlying24
 have HB:=Aside0.mk (Below.refl w.heap.size w)
 have H:((field_limits.f a0).bind fun bt160=>(if bt160.2.2=0 then ((field_every.f bt160.1 bt160.2.1).bind fun t163=>(some (t163,true,0))) else (some (0,false,bt160.2.2))))=some (r1,r2,r3):=h
 clear h
 replace H:=Option.bind_eq_some_iff.mp H
 obtain ⟨⟨t160,t161,t162⟩,A20,H⟩ :=H
 replace H:(if t162=0 then ((field_every.f t160 t161).bind fun t163=>(some (t163,true,0))) else (some (0,false,t162)))=some (r1,r2,r3):=H
 have A2:=Aside0.mk A20
 clear A20
 by_cases c3:t162=0
 ·rw [if_pos c3] at H
  have c3b0:(t162 == 0)=true:=beq_iff_eq.mpr c3
  have c3b1:(t162 != 0)=false:=bne_eq_false_iff_eq.mpr c3
  clear c3
  replace H:=Option.bind_eq_some_iff.mp H
  obtain ⟨t163,A40,H⟩ :=H
  replace H:(some (t163,true,0))=some (r1,r2,r3):=H
  have A4:=Aside0.mk A40
  clear A40
  simp only [Option.some.injEq,Prod.mk.injEq] at H
  obtain ⟨rfl,rfl,rfl⟩ :=H
  go_enter Tryd.func45,Tryd.ntmps45
  go_wp2_with (first | ((with_reducible refine gate_dst (N:=2) rfl ?_); refine box_event ?hg (N:=2) ?hd (cs:=#[.int .u64 0,.bool false]) (t:=24) ?hr ?_; (case hd=>rfl); (case hg=>rfl); (case hr=>first | (go_simp; done) | (go_simp; rfl)); intro gb159 hg w5 hbox hb; have n0_:=Aside0.mk (below_step (by repeat (first | (with_reducible first | exact HB.out | apply below_alloc | apply pw_below_drewN | apply below_drew1) | exact HB.out)) hb); have n1_:=Aside0.mk (hbox); have n2_:=Aside0.mk ((by rw [hg]; exact (below_size (by repeat (first | (with_reducible first | exact HB.out | apply below_alloc | apply pw_below_drewN | apply below_drew1) | exact HB.out))):w.heap.size≤gb159)); have n3_:=Aside0.mk ((by rw [hg]; exact (below_size (by repeat (first | (with_reducible first | exact HB.out | apply below_alloc | apply pw_below_drewN | apply below_drew1) | exact HB.out))):w.heap.size≤gb159)); clear HB; have HB:=n0_; have BK159:=n1_; have GW159:=n2_; have GE159:=n3_; clear n0_ n1_ n2_ n3_; clear hb hbox hg) | ((with_reducible refine gate_callee (f:=77) rfl ?_); refine goesL_ (some 9) rfl rfl Tryd.func77 (by kernel_rfl) rfl #[.int .i64 a0] rfl (by (try simp only [List.map_toArray,List.map_cons,List.map_nil]); first | done | rfl | (simp only [List.length_drop,List.length_take]; rfl)) ?_; (with_reducible refine (field_limits.calls a0 t160 t161 t162 _ A2.out).mono ?_); rintro e w' ⟨rfl,⟨nd,rfl⟩⟩; refine ⟨_,rfl,?_⟩; (try (rw [drewN_self w5]; generalize hq_:World.drewN w5 _=w5; have n0_:Aside0 (w5.heap[gb159]?=some (.cells #[.int .u64 0,.bool false] 24 (0,0))):=⟨by rw [← hq_]; exact (by (with_reducible repeat (first | refine blk_drewN ?_ _ | refine blk_drew ?_ | refine blk_alloc ?_ _)); exact BK159.out)⟩; have n1_:Aside0 (Below w.heap.size w w5):=⟨by rw [← hq_]; exact (by repeat (first | (with_reducible first | exact HB.out | apply below_alloc | apply pw_below_drewN | apply below_drew1 | refine below_set ?_ GE159.out) | exact HB.out))⟩; clear BK159 HB hq_; have BK159:=n0_; have HB:=n1_; clear n0_ n1_))) | ((with_reducible refine gate_callee (f:=78) rfl ?_); refine goesL_ (some 19) rfl rfl Tryd.func78 (by kernel_rfl) rfl #[.int .i64 t160,.int .i64 t161] rfl (by (try simp only [List.map_toArray,List.map_cons,List.map_nil]); first | done | rfl | (simp only [List.length_drop,List.length_take]; rfl)) ?_; (with_reducible refine (field_every.calls t160 t161 t163 _ A4.out).mono ?_); rintro e w' ⟨rfl,⟨nd,rfl⟩⟩; refine ⟨_,rfl,?_⟩; (try (rw [drewN_self w5]; generalize hq_:World.drewN w5 _=w5; have n0_:Aside0 (w5.heap[gb159]?=some (.cells #[.int .u64 0,.bool false] 24 (0,0))):=⟨by rw [← hq_]; exact (by (with_reducible repeat (first | refine blk_drewN ?_ _ | refine blk_drew ?_ | refine blk_alloc ?_ _)); exact BK159.out)⟩; have n1_:Aside0 (Below w.heap.size w w5):=⟨by rw [← hq_]; exact (by repeat (first | (with_reducible first | exact HB.out | apply below_alloc | apply pw_below_drewN | apply below_drew1 | refine below_set ?_ GE159.out) | exact HB.out))⟩; clear BK159 HB hq_; have BK159:=n0_; have HB:=n1_; clear n0_ n1_)); have hcz6_0:w5.cell? ⟨gb159,0,none⟩=some (.int .u64 0):=(blk_cell BK159.out 0).trans rfl; have hcz6_1:w5.cell? ⟨gb159,1,none⟩=some (.bool false):=(blk_cell BK159.out 1).trans rfl; have hfz6_0:=blk_frozen BK159.out 0; have hfz6_1:=blk_frozen BK159.out 1))
  refine bodyPost_ret (results_ct rfl _ _ gb159 24 #[.int .u64 t163,.bool true] (0,0) _ rfl (by (with_reducible repeat (first | refine blk_drewN ?_ _ | refine blk_drew ?_ | refine blk_alloc ?_ _)); refine blk_put (cs:=#[.int .u64 t163,.bool false]) ?_ 1 _ rfl; (with_reducible repeat (first | refine blk_drewN ?_ _ | refine blk_drew ?_ | refine blk_alloc ?_ _)); refine blk_put (cs:=#[.int .u64 0,.bool false]) ?_ 0 _ rfl; (with_reducible repeat (first | refine blk_drewN ?_ _ | refine blk_drew ?_ | refine blk_alloc ?_ _)); exact BK159.out) Tryd.underlying24 rfl (by kernel_rfl)) rfl ?_
  exact ⟨by first | rfl | (simp [errW_none,errW_some] <;> rfl) | (simp [*,errW_none,errW_some] <;> rfl),by repeat (first | (with_reducible first | exact HB.out | apply below_alloc | apply pw_below_drewN | apply below_drew1 | refine below_set ?_ GE159.out) | exact HB.out)⟩
 ·rw [if_neg c3] at H
  have c3b0:(t162 == 0)=false:=beq_eq_false_iff_ne.mpr c3
  have c3b1:(t162 != 0)=true:=bne_iff_ne.mpr c3
  simp only [Option.some.injEq,Prod.mk.injEq] at H
  obtain ⟨rfl,rfl,rfl⟩ :=H
  go_enter Tryd.func45,Tryd.ntmps45
  go_wp2_with (first | ((with_reducible refine gate_dst (N:=2) rfl ?_); refine box_event ?hg (N:=2) ?hd (cs:=#[.int .u64 0,.bool false]) (t:=24) ?hr ?_; (case hd=>rfl); (case hg=>rfl); (case hr=>first | (go_simp; done) | (go_simp; rfl)); intro gb159 hg w7 hbox hb; have n0_:=Aside0.mk (below_step (by repeat (first | (with_reducible first | exact HB.out | apply below_alloc | apply pw_below_drewN | apply below_drew1) | exact HB.out)) hb); have n1_:=Aside0.mk (hbox); have n2_:=Aside0.mk ((by rw [hg]; exact (below_size (by repeat (first | (with_reducible first | exact HB.out | apply below_alloc | apply pw_below_drewN | apply below_drew1) | exact HB.out))):w.heap.size≤gb159)); have n3_:=Aside0.mk ((by rw [hg]; exact (below_size (by repeat (first | (with_reducible first | exact HB.out | apply below_alloc | apply pw_below_drewN | apply below_drew1) | exact HB.out))):w.heap.size≤gb159)); clear HB; have HB:=n0_; have BK159:=n1_; have GW159:=n2_; have GE159:=n3_; clear n0_ n1_ n2_ n3_; clear hb hbox hg) | ((with_reducible refine gate_callee (f:=77) rfl ?_); refine goesL_ (some 9) rfl rfl Tryd.func77 (by kernel_rfl) rfl #[.int .i64 a0] rfl (by (try simp only [List.map_toArray,List.map_cons,List.map_nil]); first | done | rfl | (simp only [List.length_drop,List.length_take]; rfl)) ?_; (with_reducible refine (field_limits.calls a0 t160 t161 t162 _ A2.out).mono ?_); rintro e w' ⟨rfl,⟨nd,rfl⟩⟩; refine ⟨_,rfl,?_⟩; (try (rw [drewN_self w7]; generalize hq_:World.drewN w7 _=w7; have n0_:Aside0 (w7.heap[gb159]?=some (.cells #[.int .u64 0,.bool false] 24 (0,0))):=⟨by rw [← hq_]; exact (by (with_reducible repeat (first | refine blk_drewN ?_ _ | refine blk_drew ?_ | refine blk_alloc ?_ _)); exact BK159.out)⟩; have n1_:Aside0 (Below w.heap.size w w7):=⟨by rw [← hq_]; exact (by repeat (first | (with_reducible first | exact HB.out | apply below_alloc | apply pw_below_drewN | apply below_drew1 | refine below_set ?_ GE159.out) | exact HB.out))⟩; clear BK159 HB hq_; have BK159:=n0_; have HB:=n1_; clear n0_ n1_)); have hcz8_0:w7.cell? ⟨gb159,0,none⟩=some (.int .u64 0):=(blk_cell BK159.out 0).trans rfl; have hcz8_1:w7.cell? ⟨gb159,1,none⟩=some (.bool false):=(blk_cell BK159.out 1).trans rfl; have hfz8_0:=blk_frozen BK159.out 0; have hfz8_1:=blk_frozen BK159.out 1))
  refine bodyPost_ret (results_ct rfl _ _ gb159 24 #[.int .u64 0,.bool false] (0,0) _ rfl (by (with_reducible repeat (first | refine blk_drewN ?_ _ | refine blk_drew ?_ | refine blk_alloc ?_ _)); refine blk_put (cs:=#[.int .u64 0,.bool false]) ?_ 1 _ rfl; (with_reducible repeat (first | refine blk_drewN ?_ _ | refine blk_drew ?_ | refine blk_alloc ?_ _)); refine blk_put (cs:=#[.int .u64 0,.bool false]) ?_ 0 _ rfl; (with_reducible repeat (first | refine blk_drewN ?_ _ | refine blk_drew ?_ | refine blk_alloc ?_ _)); exact BK159.out) Tryd.underlying24 rfl (by kernel_rfl)) rfl ?_
  exact ⟨by first | rfl | (simp [errW_none,errW_some] <;> rfl) | (simp [*,errW_none,errW_some] <;> rfl),by repeat (first | (with_reducible first | exact HB.out | apply below_alloc | apply pw_below_drewN | apply below_drew1 | refine below_set ?_ GE159.out) | exact HB.out)⟩
end Go.Proofs.YtepflnfnkfkldaaDoor.PRea
