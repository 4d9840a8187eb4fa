-- Written by a program of this session (gprint.py) over the kit's print.
import Derived.Test.YtepflnfnkfkldaaDoorPReax0
import Derived.Test.YtepflnfnkfkldaaDoorPReax3
import Derived.Test.YtepflnfnkfkldaaDoorPReax5
import Derived.Test.YtepflnfnkfkldaaDoorPReax6
import Derived.Test.YtepflnfnkfkldaaDoorPReax7
import Derived.Test.YtepflnfnkfkldaaDoorPReax8
namespace Go.Proofs.YtepflnfnkfkldaaDoor.PRea
open Go.RowKit Go.Proofs.YtepflnfnkfkldaaDoorW.PrintWords Go.Proofs.YtepflnfnkfkldaaDoorW.PrintLast Go.Proofs.YtepflnfnkfkldaaDoorW.PrintMore
attribute [local go_sem] max2_int min2_int max_two min_two max_three min_three max_four min_four
set_option linter.unusedVariables false
set_option linter.unusedSimpArgs false
/-! This session's own: next's answers, as the program finds them. -/
def Nx.mons (mk:Int→Int→Int × Int)(by_:Int):Nat→Int→Int→Nat→List (Nat × Int × Int)
 | 0,_,_,_=>[]
 | f+1,y,m,n=>if 1970≤y∧y≤2999 then
   (if (mk (if m < 1∨12 < m then y+by_ else y) (if m < 1∨12 < m then (m+11) % 12+1 else m)).2=0∧(mk (if m < 1∨12 < m then y+by_ else y) (if m < 1∨12 < m then (m+11) % 12+1 else m)).1≠0
    then (n,(Civ.day (if m < 1∨12 < m then y+by_ else y) (if m < 1∨12 < m then (m+11) % 12+1 else m) 1).1,(mk (if m < 1∨12 < m then y+by_ else y) (if m < 1∨12 < m then (m+11) % 12+1 else m)).1) ::
     Nx.mons mk by_ f (if m < 1∨12 < m then y+by_ else y) ((if m < 1∨12 < m then (m+11) % 12+1 else m)+by_) (n+1)
    else Nx.mons mk by_ f (if m < 1∨12 < m then y+by_ else y) ((if m < 1∨12 < m then (m+11) % 12+1 else m)+by_) (n+1))
  else []
theorem Nx.mons_step (mk:Int→Int→Int × Int)(by_:Int)(f:Nat)(y m:Int)(n:Nat)(hy:1970≤y∧y≤2999)(y' m':Int)(hy':(if m < 1∨12 < m then y+by_ else y)=y')(hm':(if m < 1∨12 < m then (m+11) % 12+1 else m)=m') :
  Nx.mons mk by_ (f+1) y m n=if (mk y' m').2=0∧(mk y' m').1≠0 then (n,(Civ.day y' m' 1).1,(mk y' m').1) :: Nx.mons mk by_ f y' (m'+by_) (n+1) else Nx.mons mk by_ f y' (m'+by_) (n+1):=by
 rw [Nx.mons,if_pos hy,hy',hm']
theorem Nx.mons_end (mk:Int→Int→Int × Int)(by_:Int)(f:Nat)(y m:Int)(n:Nat)(hy:¬ (1970≤y∧y≤2999)):Nx.mons mk by_ f y m n=[]:=by
 cases f with
 | zero=>rfl
 | succ f=>rw [Nx.mons,if_neg hy]
/-! This session's own: next.months' closure, as an iterator. -/
section
open Go.Shelf
attribute [local go_sem] Oper.semAt_some
def Nx.encM (x:Nat × Int × Int):Array Value:=#[.int .i64 (x.1:Int),.agg #[.int .i64 x.2.1,.int .u32 x.2.2]]
def Nx.KpM (gc gb gx:Nat)(W W':World):Prop:=W'.heap[gc]?=W.heap[gc]?∧W'.heap[gb]?=W.heap[gb]?∧W'.heap[gx]?=W.heap[gx]?
def Nx.left (by_ y m:Int):Int:=if by_=1 then (2999 - y)*12+(13 - m) else (y - 1970)*12+m
theorem Nx.abide {β:Type}{J:β→World→Prop}{B:Nat}(hJ:AbidesFrom B J){s:β}{W W':World}(h:J s W)(hb:Below W.heap.size W W'):J s W':=
 hJ s W W' none h ⟨hb.os,hb.tape,hb.output,hb.size,fun k hk _=>hb.block k hk⟩ (fun r e=>by cases e)
/-- One step of the months: the year and the month that are looked at, and what is left. -/
theorem Nx.mon_next {by_ y m:Int}(hb:by_=1∨by_=-1)(h1:1970≤y)(h2:y≤2999)(h3:0≤m)(h4:m≤13){y' m':Int}(hy':(if m < 1∨12 < m then y+by_ else y)=y')(hm':(if m < 1∨12 < m then (m+11) % 12+1 else m)=m') :
  1969≤y'∧y'≤3000∧1≤m'∧m'≤12∧Nx.left by_ y' (m'+by_)+1≤Nx.left by_ y m:=by
 unfold Nx.left
 rcases hb with rfl | rfl
 ·rw [if_pos rfl,if_pos rfl]
  by_cases c:m < 1∨12 < m
  ·rw [if_pos c] at hy' hm'; omega
  ·rw [if_neg c] at hy' hm'; omega
 ·rw [if_neg (by decide),if_neg (by decide)]
  by_cases c:m < 1∨12 < m
  ·rw [if_pos c] at hy' hm'; omega
  ·rw [if_neg c] at hy' hm'; omega
set_option maxHeartbeats 8000000 in
set_option maxRecDepth 100000 in
theorem Nx.months_stopsG {α:Type}(emb:Nat × Int × Int→α)(encs:α→Array Value)(n:Nat)(hn:1≤n)(gc gb gx:Nat)(b0:Int)(s0:Bool)(b1:Int)(s1:Bool)(b2:Int)(s2:Bool)(b3:Int)(s3:Bool)(b4:Int)(s4:Bool)(hok:Dy.okS b0 b1 b2 b3 b4=true)(A:day_odd.f b0 s0 b1 s1 b2 s2 b3 s3 b4 s4=some false)
  (y0 m0 c2 c3 c4 c5 by_:Int) (w:World) (hC:w.heap[gc]?=some (.cells #[.int .i64 y0,.int .i64 m0,.int .i64 c2,.int .i64 c3,.int .i64 c4,.int .i64 c5] 66 (0,0))) (hB:w.heap[gb]?=some (.cells #[.int .i64 by_] 3 (0,0))) (hX:Spc.Row w gx b0 s0 b1 s1 b2 s2 b3 s3 b4 s4)
  (hy1:1970≤y0) (hy2:y0≤2999) (hm1:1≤m0) (hm2:m0≤12) (hby:by_=1∨by_=-1) (henc:∀ (k:Nat) (F y m:Int),encs (emb (k,F,(Dy.mask false b2 s2 b3 b4 s4 y m).1))=Nx.encM (k,F,(Dy.mask false b2 s2 b3 b4 s4 y m).1)) :
  SeqStopsK Fence.wide n Tryd.prog 63 #[.pointer (some ⟨gc,0,none⟩),.pointer (some ⟨gb,0,none⟩),.pointer (some ⟨gx,0,none⟩)] encs (Nx.KpM gc gb gx)
   (fun xs=>xs=(Nx.mons (Dy.mask false b2 s2 b3 b4 s4) by_ 20000 y0 m0 0).map emb) (fun pre=>pre <+: (Nx.mons (Dy.mask false b2 s2 b3 b4 s4) by_ 20000 y0 m0 0).map emb) ((Nx.mons (Dy.mask false b2 s2 b3 b4 s4) by_ 20000 y0 m0 0).map emb).length w:=by
 intro l J Jx W hbw hJ hJx hY hJ0
 obtain ⟨L,hL⟩:∃ L,(Nx.mons (Dy.mask false b2 s2 b3 b4 s4) by_ 20000 y0 m0 0).map emb=L:=⟨_,rfl⟩
 obtain ⟨mk,hmk⟩:∃ mk,Dy.mask false b2 s2 b3 b4 s4=mk:=⟨_,rfl⟩
 have hMask:∀ y m:Int,day_Mask.f b0 s0 b1 s1 b2 s2 b3 s3 b4 s4 y m=some ((mk y m).1,(mk y m).2):=by
  intro y m
  unfold day_Mask.f
  rw [if_pos hok,A,← hmk]
  rfl
 have hleft:Nx.left by_ y0 m0+2≤20000:=by unfold Nx.left; rcases hby with rfl | rfl <;> simp <;> omega
 rw [hL] at hY ⊢
 rw [hmk] at hL henc
 clear hmk A hok
 replace hC:=blk_below hC hbw
 replace hB:=blk_below hB hbw
 replace hX:Spc.Row W gx b0 s0 b1 s1 b2 s2 b3 s3 b4 s4:=blk_below hX hbw
 have hc0:W.cell? ⟨gc,0,none⟩=some (.int .i64 y0):=(blk_cell hC 0).trans rfl
 have hc1:W.cell? ⟨gc,1,none⟩=some (.int .i64 m0):=(blk_cell hC 1).trans rfl
 replace hY:=Lib.hid hY
 replace hL:=Lib.hid hL
 replace hMask:=Lib.hid hMask
 replace henc:=Lib.hid henc
 have hK:=Aside0.mk (show W.heap[gc]?=some (.cells #[.int .i64 y0,.int .i64 m0,.int .i64 c2,.int .i64 c3,.int .i64 c4,.int .i64 c5] 66 (0,0))∧W.heap[gb]?=some (.cells #[.int .i64 by_] 3 (0,0))∧Spc.Row W gx b0 s0 b1 s1 b2 s2 b3 s3 b4 s4 from ⟨hC,hB,hX⟩)
 clear hC hB hX hbw
 refine callsIn_of_wp Tryd.func63 rfl trivial ?_ rfl
 simp only [Tryd.ntmps63,List.size_toArray,List.length_cons,List.length_nil,Nat.reduceAdd,Nat.reduceSub,Array.replicate_succ,Array.replicate_zero,List.push_toArray,List.append_toArray,List.nil_append,List.cons_append]
 gi_wp2
 gi_region
 clear hc0 hc1
 replace hJ0:J [] W.drew:=Nx.abide hJ hJ0 (below_drew1 (Below.refl _ _))
 replace hK:=Aside0.mk (show W.drew.heap[gc]?=some (.cells #[.int .i64 y0,.int .i64 m0,.int .i64 c2,.int .i64 c3,.int .i64 c4,.int .i64 c5] 66 (0,0))∧W.drew.heap[gb]?=some (.cells #[.int .i64 by_] 3 (0,0))∧Spc.Row W.drew gx b0 s0 b1 s1 b2 s2 b3 s3 b4 s4 from ⟨blk_drew hK.out.1,blk_drew hK.out.2.1,blk_drew hK.out.2.2⟩)
 gi_wp2
 gi_loopw [5,6,7] (fun p5 p6 p7 wr=>∃ (pre:List α) (f k:Nat) (y m:Int),p5=.int .i64 (k:Int)∧p6=.int .i64 y∧p7=.int .i64 m∧Hid (L=pre ++ (Nx.mons mk by_ f y m k).map emb)∧Hid (f+k=20000)∧Hid (Nx.left by_ y m+2≤f)∧1969≤y∧y≤3000∧0≤m∧m≤13∧J pre wr∧Aside0 (wr.heap[gc]?=some (.cells #[.int .i64 y0,.int .i64 m0,.int .i64 c2,.int .i64 c3,.int .i64 c4,.int .i64 c5] 66 (0,0))∧wr.heap[gb]?=some (.cells #[.int .i64 by_] 3 (0,0))∧Spc.Row wr gx b0 s0 b1 s1 b2 s2 b3 s3 b4 s4))
  (fun p5 _ _ _=>(20000 - intOf p5).toNat)
 case atStart=>
  exact ⟨[],20000,0,y0,m0,rfl,rfl,rfl,Lib.hid hL.out.symm,Lib.hid rfl,Lib.hid hleft,by omega,by omega,by omega,by omega,hJ0,hK⟩
 case round=>
  clear hK hJ0 hleft hy1 hy2 hm1 hm2
  obtain ⟨pre,f,k,y,m,rfl,rfl,rfl,hx,hf,hl,y1,y2,m1,m2,hJs,hK⟩ :=hrel
  by_cases hle:1970≤y∧y≤2999
  ·have e1:decide (1970≤y)=true:=decide_eq_true hle.1
   have e2:decide (y≤2999)=true:=decide_eq_true hle.2
   have hfk:=hf.out
   have hl0:0≤Nx.left by_ y m:=by unfold Nx.left; rcases hby with rfl | rfl <;> simp <;> omega
   obtain ⟨f',rfl⟩:∃ f',f=f'+1:=⟨f - 1,by have:=hl.out; omega⟩
   clear hl0 hfk
   obtain ⟨y',hy'⟩:∃ y',(if m < 1∨12 < m then y+by_ else y)=y':=⟨_,rfl⟩
   obtain ⟨m',hm'⟩:∃ m',(if m < 1∨12 < m then (m+11) % 12+1 else m)=m':=⟨_,rfl⟩
   have hx2:Hid (L=pre ++ (if (mk y' m').2=0∧(mk y' m').1≠0 then (k,(Civ.day y' m' 1).1,(mk y' m').1) :: Nx.mons mk by_ f' y' (m'+by_) (k+1) else Nx.mons mk by_ f' y' (m'+by_) (k+1)).map emb):=Lib.hid (by rw [hx.out,Nx.mons_step mk by_ f' y m k hle y' m' hy' hm'])
   obtain ⟨g1,g2,g3,g4,g5⟩ :=Nx.mon_next hby hle.1 hle.2 m1 m2 hy' hm'
   replace g5:=Lib.hid g5
   clear hx
   have hb0:wr.cell? ⟨gb,0,none⟩=some (.int .i64 by_):=(blk_cell hK.out.2.1 0).trans rfl
   obtain ⟨k0,k1,k2,k3,k4,k5,k6,k7,k8,k9⟩ :=hK.out.2.2.cells
   have hkb:(k:Int)≤20000:=by have:=hf.out; omega
   rcases (by omega:m < 1∨(1≤m∧12 < m)∨(1≤m∧m≤12)) with c | c | c
   case' pos.inl=>
    have e3:decide (m < 1)=true:=decide_eq_true c
    rw [if_pos (.inl c)] at hy' hm'
    gi_wp2_with fail
    rw [show (m+12 - 1) % 12+1=m' by omega]
   case' pos.inr.inl=>
    have e3:decide (m < 1)=false:=decide_eq_false (by omega)
    have e4:decide (12 < m)=true:=decide_eq_true c.2
    rw [if_pos (.inr c.2)] at hy' hm'
    gi_wp2_with fail
    rw [show (m+12 - 1) % 12+1=m' by omega]
   case' pos.inr.inr=>
    have e3:decide (m < 1)=false:=decide_eq_false (by omega)
    have e4:decide (12 < m)=false:=decide_eq_false (by omega)
    rw [if_neg (by omega)] at hy' hm'
    gi_wp2_with fail
   all_goals
    refine ⟨trivial,?_⟩
    refine (callsIn_wide.2 (day_Mask.calls _ _ _ _ _ _ _ _ _ _ y' m' _ _ _ (hMask.out y' m'))).mono ?_
    rintro e W2 ⟨rfl,hb⟩
    have hJ2:J pre W2:=Nx.abide hJ hJs hb
    have hK2:Aside0 (W2.heap[gc]?=some (.cells #[.int .i64 y0,.int .i64 m0,.int .i64 c2,.int .i64 c3,.int .i64 c4,.int .i64 c5] 66 (0,0))∧W2.heap[gb]?=some (.cells #[.int .i64 by_] 3 (0,0))∧Spc.Row W2 gx b0 s0 b1 s1 b2 s2 b3 s3 b4 s4):=⟨⟨blk_below hK.out.1 hb,blk_below hK.out.2.1 hb,blk_below hK.out.2.2 hb⟩⟩
    clear hJs hK hb hb0 k0 k1 k2 k3 k4 k5 k6 k7 k8 k9 c
    have hb0:W2.cell? ⟨gb,0,none⟩=some (.int .i64 by_):=(blk_cell hK2.out.2.1 0).trans rfl
    obtain ⟨mv,hmv⟩:∃ v,(mk y' m').1=v:=⟨_,rfl⟩
    obtain ⟨me,hme⟩:∃ v,(mk y' m').2=v:=⟨_,rfl⟩
    have hencv:Hid (∀ F,encs (emb (k,F,mv))=Nx.encM (k,F,mv)):=Lib.hid (fun F=>by rw [← hmv]; exact henc.out k F y' m')
    rw [hmv,hme] at hx2 ⊢
    clear hmv hme
    by_cases he:me=0
    ·have q1:(me == 0)=true:=by simpa using he
     by_cases hz:mv=0
     ·have q2:(mv != 0)=false:=by simpa using hz
      replace hx2:Hid (L=pre ++ (Nx.mons mk by_ f' y' (m'+by_) (k+1)).map emb):=Lib.hid (by have:=hx2.out; rwa [if_neg (by omega)] at this)
      gi_wp2_with fail
      go_roundw
      case rel=>exact ⟨pre,f',k+1,y',m'+by_,rfl,rfl,rfl,hx2,Lib.hid (by have:=hf.out; omega),Lib.hid (by have:=g5.out; have:=hl.out; omega),g1,g2,by omega,by omega,hJ2,hK2⟩
      case measure=>have:=hf.out; simp only [intOf]; omega
     ·have q2:(mv != 0)=true:=by simpa using hz
      obtain ⟨F,FE,hFd⟩:∃ F FE,Civ.day y' m' 1=(F,FE):=⟨_,_,rfl⟩
      replace hx2:Hid (L=pre ++ ((k,(Civ.day y' m' 1).1,mv) :: Nx.mons mk by_ f' y' (m'+by_) (k+1)).map emb):=Lib.hid (by have:=hx2.out; rwa [if_pos ⟨he,hz⟩] at this)
      gi_wp2_with fail
      refine ⟨trivial,?_⟩
      rw [hFd] at hx2
      refine (callsIn_wide.2 (civil_Day.calls 100 y' m' 1 F FE _ (by rw [Civ.day_f y' m' 1 100 (by decide),hFd]))).mono ?_
      rintro e W3 ⟨rfl,hb⟩
      replace hb:=hb.below
      replace hJ2:J pre W3:=Nx.abide hJ hJ2 hb
      replace hK2:Aside0 (W3.heap[gc]?=some (.cells #[.int .i64 y0,.int .i64 m0,.int .i64 c2,.int .i64 c3,.int .i64 c4,.int .i64 c5] 66 (0,0))∧W3.heap[gb]?=some (.cells #[.int .i64 by_] 3 (0,0))∧Spc.Row W3 gx b0 s0 b1 s1 b2 s2 b3 s3 b4 s4):=⟨⟨blk_below hK2.out.1 hb,blk_below hK2.out.2.1 hb,blk_below hK2.out.2.2 hb⟩⟩
      clear hb hb0
      obtain ⟨fn,tmps,assign,body,hyl,hR⟩ :=hY.out pre (emb (k,F,mv)) W3 hJ2 (by rw [hx2.out]; simp)
      clear hFd
      rw [hencv.out F] at hyl
      simp only [Nx.encM] at hyl
      gi_wp2_with fail
      refine hR.mono ?_
      rintro e W4 (⟨rfl,hJ3,hk3⟩ | ⟨rfl,hJx3⟩)
      ·have hK3:Aside0 (W4.heap[gc]?=some (.cells #[.int .i64 y0,.int .i64 m0,.int .i64 c2,.int .i64 c3,.int .i64 c4,.int .i64 c5] 66 (0,0))∧W4.heap[gb]?=some (.cells #[.int .i64 by_] 3 (0,0))∧Spc.Row W4 gx b0 s0 b1 s1 b2 s2 b3 s3 b4 s4):=⟨⟨hk3.1.trans hK2.out.1,hk3.2.1.trans hK2.out.2.1,hk3.2.2.trans hK2.out.2.2⟩⟩
       clear hK2 hk3 hyl hR hJ2
       have hb0:W4.cell? ⟨gb,0,none⟩=some (.int .i64 by_):=(blk_cell hK3.out.2.1 0).trans rfl
       gi_wp2_with fail
       go_roundw
       case rel=>exact ⟨pre ++ [emb (k,F,mv)],f',k+1,y',m'+by_,rfl,rfl,rfl,Lib.hid (by rw [hx2.out]; simp),Lib.hid (by have:=hf.out; omega),Lib.hid (by have:=g5.out; have:=hl.out; omega),g1,g2,by omega,by omega,hJ3,hK3⟩
       case measure=>have:=hf.out; simp only [intOf]; omega
      ·gi_wp2_with fail
       refine bodyPost_ret (results_none rfl _ _ _) rfl ?_
       exact ⟨⟨_,rfl⟩,.inr ⟨pre ++ [emb (k,F,mv)],⟨(Nx.mons mk by_ f' y' (m'+by_) (k+1)).map emb,by rw [hx2.out]; simp⟩,hJx3⟩⟩
    ·have q1:(me == 0)=false:=by simpa using he
     replace hx2:Hid (L=pre ++ (Nx.mons mk by_ f' y' (m'+by_) (k+1)).map emb):=Lib.hid (by have:=hx2.out; rwa [if_neg (by omega)] at this)
     gi_wp2_with fail
     go_roundw
     case rel=>exact ⟨pre,f',k+1,y',m'+by_,rfl,rfl,rfl,hx2,Lib.hid (by have:=hf.out; omega),Lib.hid (by have:=g5.out; have:=hl.out; omega),g1,g2,by omega,by omega,hJ2,hK2⟩
     case measure=>have:=hf.out; simp only [intOf]; omega
  ·have hLp:L=pre:=by rw [hx.out,Nx.mons_end _ _ _ _ _ _ hle,List.map_nil,List.append_nil]
   replace hLp:=Lib.hid hLp
   clear hx
   rcases (by omega:y < 1970∨(1970≤y∧2999 < y)) with c | c
   ·have e1:decide (1970≤y)=false:=decide_eq_false (by omega)
    gi_wp2_with fail
    go_end0
    exact ⟨⟨_,rfl⟩,.inl ⟨_,hLp.out.symm,hJs⟩⟩
   ·have e1:decide (1970≤y)=true:=decide_eq_true c.1
    have e2:decide (y≤2999)=false:=decide_eq_false (by omega)
    gi_wp2_with fail
    go_end0
    exact ⟨⟨_,rfl⟩,.inl ⟨_,hLp.out.symm,hJs⟩⟩
theorem Nx.months_stops (n:Nat)(hn:1≤n)(gc gb gx:Nat)(b0:Int)(s0:Bool)(b1:Int)(s1:Bool)(b2:Int)(s2:Bool)(b3:Int)(s3:Bool)(b4:Int)(s4:Bool)(hok:Dy.okS b0 b1 b2 b3 b4=true)(A:day_odd.f b0 s0 b1 s1 b2 s2 b3 s3 b4 s4=some false)
  (y0 m0 c2 c3 c4 c5 by_:Int) (w:World) (hC:w.heap[gc]?=some (.cells #[.int .i64 y0,.int .i64 m0,.int .i64 c2,.int .i64 c3,.int .i64 c4,.int .i64 c5] 66 (0,0))) (hB:w.heap[gb]?=some (.cells #[.int .i64 by_] 3 (0,0))) (hX:Spc.Row w gx b0 s0 b1 s1 b2 s2 b3 s3 b4 s4)
  (hy1:1970≤y0) (hy2:y0≤2999) (hm1:1≤m0) (hm2:m0≤12) (hby:by_=1∨by_=-1) :
  SeqStopsK Fence.wide n Tryd.prog 63 #[.pointer (some ⟨gc,0,none⟩),.pointer (some ⟨gb,0,none⟩),.pointer (some ⟨gx,0,none⟩)] Nx.encM (Nx.KpM gc gb gx)
   (fun xs=>xs=Nx.mons (Dy.mask false b2 s2 b3 b4 s4) by_ 20000 y0 m0 0) (fun pre=>pre <+: Nx.mons (Dy.mask false b2 s2 b3 b4 s4) by_ 20000 y0 m0 0) (Nx.mons (Dy.mask false b2 s2 b3 b4 s4) by_ 20000 y0 m0 0).length w:=by
 have h:=Nx.months_stopsG id Nx.encM n hn gc gb gx b0 s0 b1 s1 b2 s2 b3 s3 b4 s4 hok A y0 m0 c2 c3 c4 c5 by_ w hC hB hX hy1 hy2 hm1 hm2 hby (fun _ _ _ _=>rfl)
 rw [List.map_id] at h
 exact h
end
/-- The marks of the ranges over functions that a frame has gone through: each block is there, the newer the higher. -/
def Fld.Marks (B:Nat)(w:World):Nat→List Deferred→Prop
 | _,[]=>True
 | U,d :: ds=>∃ D,d={ target:=.collected D,args:=#[] }∧B≤D∧D < U∧w.heap[D]?=some (.deferred (some []))∧Fld.Marks B w D ds
theorem Fld.Marks.step {B:Nat}{w w':World}:∀ {ds:List Deferred} {U U':Nat},Fld.Marks B w U ds→U≤U'→(∀ k,B≤k→k < U→w.heap[k]?=some (.deferred (some []))→w'.heap[k]?=some (.deferred (some [])))→Fld.Marks B w' U' ds
 | [],_,_,_,_,_=>trivial
 | d :: ds,U,U',⟨D,hd,hB,hU,hh,hr⟩,hle,hk=>⟨D,hd,hB,by omega,hk D hB hU hh,Fld.Marks.step hr (Nat.le_refl D) (fun k h1 h2 h3=>hk k h1 (by omega) h3)⟩
theorem Fld.leave {P:Program}{fn:Func}{tmps:Array Value}{R:Ending→World→Prop}{F:Fence}{n:Nat}(B:Nat):∀ (ds:List Deferred) (U:Nat) (w:World),Fld.Marks B w U ds→
  (∀ w',Below B w w'→(∀ (k:Nat) (cs:Array Value) (t:TypeId) (fr:Nat × Nat),w.heap[k]?=some (.cells cs t fr)→w'.heap[k]?=some (.cells cs t fr))→∃ v,(results fn tmps).run P w'=.ok v w'∧R (.returned v) w')→LeavesInM F n P fn tmps R ds .returning w
 | [],_,w,_,h=>h w (Below.refl _ _) (fun _ _ _ _ h=>h)
 | d :: ds,U,w,⟨D,hd,hB,hU,hh,hr⟩,h=>by
  subst hd
  refine ⟨by simp,.inl ⟨D,_,rfl,run_takeDeferred hh,?_⟩⟩
  have hg:=grownBy_putObj' w D (.deferred none)
  refine Fld.leave B ds D _ (Fld.Marks.step hr (Nat.le_refl _) (fun k _ h2 h3=>(hg.block k (by have:=(Array.getElem?_eq_some_iff.1 h3).1; omega) (fun e=>by injection e; omega)).trans h3)) ?_
  intro w' hb hc
  refine h w' ?_ ?_
  ·exact Below.trans ⟨hg.os,hg.tape,hg.output,hg.size,fun k hk=>World.putObj_heap_other (by omega)⟩ hb
  ·intro k cs t fr hk
   refine hc k cs t fr ?_
   have hne:k≠D:=by rintro rfl; rw [hh] at hk; cases hk
   exact (hg.block k (Array.getElem?_eq_some_iff.1 hk).1 (fun e=>hne (by injection e))).trans hk
/-! This session's own: next.Next. -/
def Nx.firstRange:Code→Option Code
 | .loop c=>Nx.firstRange c
 | .seq a b=>match Nx.firstRange a with
  | some c=>some c
  | none=>Nx.firstRange b
 | .block _ c=>Nx.firstRange c
 | .scope c=>Nx.firstRange c
 | .cond _ a b=>match Nx.firstRange a with
  | some c=>some c
  | none=>Nx.firstRange b
 | .rangeFunc a b c d=>some (.rangeFunc a b c d)
 | _=>none
noncomputable def Nx.nextRange:Code:=((Tryd.f47.body.bind Nx.firstRange).getD .skip)
def Nx.dayW (so:Int→Int × Bool)(cd ct:Int)(x:Nat × Int × Int):Nat→Int→Option Int
 | 0,_=>none
 | f+1,d=>if Go.bits .and .u32 (x.2.2 / 2 ^ d.toNat) 1=0∨((x.1:Int)=0∧d < cd) then Nx.dayW so cd ct x f (d+1) else
  if (so (if (x.1:Int)=0∧d=cd then ct else 0)).2=true then some (wrap64 (wrap64 (wrap64 (wrap64 (x.2.1+d) - 1)*1440)+(so (if (x.1:Int)=0∧d=cd then ct else 0)).1)) else Nx.dayW so cd ct x f (d+1)
/-- All but two blocks lie as they lay. -/
structure Nx.Only2 (g g':Nat) (w w':World):Prop where
 os:w'.os=w.os
 tape:w'.tape=w.tape
 output:w'.output=w.output
 size:w.heap.size≤w'.heap.size
 block:∀ k,k < w.heap.size→k≠g→k≠g'→w'.heap[k]?=w.heap[k]?
theorem Nx.Only2.below {g g' B:Nat}{w w':World}(h:Nx.Only2 g g' w w')(h1:B≤g)(h2:B≤g')(hw:B≤w.heap.size):Below B w w':=⟨h.os,h.tape,h.output,h.size,fun k hk=>h.block k (by omega) (by omega) (by omega)⟩
theorem Nx.Only2.of_below {g g':Nat}{w w':World}(h:Below w.heap.size w w'):Nx.Only2 g g' w w':=⟨h.os,h.tape,h.output,h.size,fun k hk _ _=>h.block k hk⟩
theorem Nx.Only2.grown {g g':Nat}{w w' w2:World}{row:Option Nat}(h:Nx.Only2 g g' w w')(hg:w'.grownBy w2 row)(hr:∀ r,row=some r→w.heap.size≤r∨r=g∨r=g'):Nx.Only2 g g' w w2:=
 ⟨hg.os.trans h.os,hg.tape.trans h.tape,hg.output.trans h.output,Nat.le_trans h.size hg.size,fun k hk n1 n2=>(hg.block k (Nat.lt_of_lt_of_le hk h.size) (fun e=>by rcases hr k e.symm with q | q | q <;> omega)).trans (h.block k hk n1 n2)⟩
theorem Nx.keeps_below {B:Nat}{w w':World}(h:Below w.heap.size w w'):KeepsFrom B w w':=KeepsFrom.of_grownBy (row:=none) ⟨h.os,h.tape,h.output,h.size,fun k hk _=>h.block k hk⟩ (fun j e=>by cases e)
section
open Go.Shelf
attribute [local go_sem] Oper.semAt_some
set_option maxHeartbeats 8000000 in
set_option maxRecDepth 1000000 in
theorem Nx.next_range (u0 u1 u3 u4 u5 u8 u11 u12 u13 u14 u15 u16 u17 u18 u19 u20 u21 u22 u23 u24 u25 u26 u27 u28 u29 u30 u32 u33 u34 u35 u36 u37 u38 u39 u40 u41 u42 u43 u44 u45 u46 u47 u48 u49 u50 u51 u52 u53 u54 u55 u56 u57 u58 u59 u60 u61 u62 u63 u64 u65 u66 u67 u68 u69 u70 u71 u72 u73 u74 u75 u76 u77 u78 u79 u80 u81:Value)(gx gs gc gf ge qc qb qx:Nat)(b0:Int)(s0:Bool)(b1:Int)(s1:Bool)(b2:Int)(s2:Bool)(b3:Int)(s3:Bool)(b4:Int)(s4:Bool)(hok:Dy.okS b0 b1 b2 b3 b4=true)(A:day_odd.f b0 s0 b1 s1 b2 s2 b3 s3 b4 s4=some false)
  (so:Int→Int × Bool) (hso:∀ t,next_soon.f b0 s0 b1 s1 b2 s2 b3 s3 b4 s4 t=some ((so t).1,(so t).2)) (st y0 m0 cd c3 c4 c5:Int) (ds:List Deferred) (W:World) (hT:Tab W)
  (hX:Spc.Row W gx b0 s0 b1 s1 b2 s2 b3 s3 b4 s4) (hS:W.heap[gs]?=some (.cells #[.int .i64 st] 3 (0,0))) (hC:W.heap[gc]?=some (.cells #[.int .i64 y0,.int .i64 m0,.int .i64 cd,.int .i64 c3,.int .i64 c4,.int .i64 c5] 66 (0,0)))
  (hF:W.heap[gf]?=some (.cells #[.int .i64 0] 3 (0,0))) (hE:W.heap[ge]?=some (.cells #[.int .i64 11] 30 (0,0)))
  (hQC:W.heap[qc]?=some (.cells #[.int .i64 y0,.int .i64 m0,.int .i64 cd,.int .i64 c3,.int .i64 c4,.int .i64 c5] 66 (0,0))) (hQB:W.heap[qb]?=some (.cells #[.int .i64 1] 3 (0,0))) (hQX:Spc.Row W qx b0 s0 b1 s1 b2 s2 b3 s3 b4 s4)
  (hfe:gf≠ge) (hst:0≤st) (hy1:1970≤y0) (hy2:y0≤2999) (hm1:1≤m0) (hm2:m0≤12) (Q:Exit→Act→World→Prop)
  (hdone:∀ (D:Nat) (W':World),W.heap.size≤D→Below W.heap.size W W'→(Nx.mons (Dy.mask false b2 s2 b3 b4 s4) 1 20000 y0 m0 0).findSome? (fun x=>Nx.dayW so cd (st % 1440) x 31 1)=none→W'.heap[D]?=some (.deferred (some []))→
   Q .normal { tmps:=#[u0,u1,.pointer (some ⟨gx,0,none⟩),u3,u4,u5,.pointer (some ⟨gs,0,none⟩),.pointer (some ⟨gc,0,none⟩),u8,.pointer (some ⟨gf,0,none⟩),.pointer (some ⟨ge,0,none⟩),u11,u12,u13,u14,u15,u16,u17,u18,u19,u20,u21,u22,u23,u24,u25,u26,u27,u28,u29,u30,.func (.func 63) #[] #[.pointer (some ⟨qc,0,none⟩),.pointer (some ⟨qb,0,none⟩),.pointer (some ⟨qx,0,none⟩)],u32,u33,u34,u35,u36,u37,u38,u39,u40,u41,u42,u43,u44,u45,u46,u47,u48,u49,u50,u51,u52,u53,u54,u55,u56,u57,u58,u59,u60,u61,u62,u63,u64,u65,u66,u67,u68,u69,u70,u71,u72,u73,u74,u75,u76,u77,u78,u79,u80,u81],defers:={ target:=.collected D,args:=#[] } :: ds } W')
  (hstop:∀ (D:Nat) (W':World) (r:Int),W.heap.size≤D→Nx.Only2 gf ge W W'→(Nx.mons (Dy.mask false b2 s2 b3 b4 s4) 1 20000 y0 m0 0).findSome? (fun x=>Nx.dayW so cd (st % 1440) x 31 1)=some r→
   W'.heap[gf]?=some (.cells #[.int .i64 r] 3 (0,0))→W'.heap[ge]?=some (.cells #[.int .i64 0] 30 (0,0))→W'.heap[D]?=some (.deferred (some []))→
   Q (.exit 0) { tmps:=#[u0,u1,.pointer (some ⟨gx,0,none⟩),u3,u4,u5,.pointer (some ⟨gs,0,none⟩),.pointer (some ⟨gc,0,none⟩),u8,.pointer (some ⟨gf,0,none⟩),.pointer (some ⟨ge,0,none⟩),u11,u12,u13,u14,u15,u16,u17,u18,u19,u20,u21,u22,u23,u24,u25,u26,u27,u28,u29,u30,.func (.func 63) #[] #[.pointer (some ⟨qc,0,none⟩),.pointer (some ⟨qb,0,none⟩),.pointer (some ⟨qx,0,none⟩)],u32,u33,u34,u35,u36,u37,u38,u39,u40,u41,u42,u43,u44,u45,u46,u47,u48,u49,u50,u51,u52,u53,u54,u55,u56,u57,u58,u59,u60,u61,u62,u63,u64,u65,u66,u67,u68,u69,u70,u71,u72,u73,u74,u75,u76,u77,u78,u79,u80,u81],defers:={ target:=.collected D,args:=#[] } :: ds } W') :
  Code.wpIn Fence.wide 6 Tryd.prog Nx.nextRange Q { tmps:=#[u0,u1,.pointer (some ⟨gx,0,none⟩),u3,u4,u5,.pointer (some ⟨gs,0,none⟩),.pointer (some ⟨gc,0,none⟩),u8,.pointer (some ⟨gf,0,none⟩),.pointer (some ⟨ge,0,none⟩),u11,u12,u13,u14,u15,u16,u17,u18,u19,u20,u21,u22,u23,u24,u25,u26,u27,u28,u29,u30,.func (.func 63) #[] #[.pointer (some ⟨qc,0,none⟩),.pointer (some ⟨qb,0,none⟩),.pointer (some ⟨qx,0,none⟩)],u32,u33,u34,u35,u36,u37,u38,u39,u40,u41,u42,u43,u44,u45,u46,u47,u48,u49,u50,u51,u52,u53,u54,u55,u56,u57,u58,u59,u60,u61,u62,u63,u64,u65,u66,u67,u68,u69,u70,u71,u72,u73,u74,u75,u76,u77,u78,u79,u80,u81],defers:=ds } W:=by
 conv=>arg 4; whnf
 have hfl:=blk_lt hF
 have hel:=blk_lt hE
 replace hdone:=Lib.hid hdone
 replace hstop:=Lib.hid hstop
 obtain ⟨L,hL⟩:∃ L,Nx.mons (Dy.mask false b2 s2 b3 b4 s4) 1 20000 y0 m0 0=L:=⟨_,rfl⟩
 have hseq:=Nx.months_stops (6 - 1) (by decide) qc qb qx b0 s0 b1 s1 b2 s2 b3 s3 b4 s4 hok A y0 m0 cd c3 c4 c5 1 W hQC hQB hQX hy1 hy2 hm1 hm2 (.inl rfl)
 rw [hL] at hseq hdone hstop
 refine wpIn_rangeFunc_ownH rfl (by decide) (gf:=63) (lb:=#[.pointer (some ⟨qc,0,none⟩),.pointer (some ⟨qb,0,none⟩),.pointer (some ⟨qx,0,none⟩)]) rfl trivial (enters_of Tryd.func63 (by kernel_rfl) rfl)
  hseq (fun h k=>⟨k.1.trans h.1,k.2.1.trans h.2.1,k.2.2.trans h.2.2⟩) (fun W' l o o' hl _ _ _=>⟨World.putObj_heap_other (by have:=blk_lt hQC; omega),World.putObj_heap_other (by have:=blk_lt hQB; omega),World.putObj_heap_other (by have:=blk_lt hQX; omega)⟩) (Below.refl _ _) (fun _=>rfl)
  (fun pre W'=>Below W.heap.size W W'∧∀ x ∈ pre,Nx.dayW so cd (st % 1440) x 31 1=none)
  (fun c pre W'=>c=.exit 0∧∃ p x r,pre=p ++ [x]∧(∀ y ∈ p,Nx.dayW so cd (st % 1440) y 31 1=none)∧Nx.dayW so cd (st % 1440) x 31 1=some r∧Nx.Only2 gf ge W W'∧W'.heap[gf]?=some (.cells #[.int .i64 r] 3 (0,0))∧W'.heap[ge]?=some (.cells #[.int .i64 0] 30 (0,0)))
  ?own ?ownx ⟨Below.refl _ _,fun x hx=>by cases hx⟩ (fun x a' W'=>∃ gm,a'={ tmps:=#[u0,u1,.pointer (some ⟨gx,0,none⟩),u3,u4,u5,.pointer (some ⟨gs,0,none⟩),.pointer (some ⟨gc,0,none⟩),u8,.pointer (some ⟨gf,0,none⟩),.pointer (some ⟨ge,0,none⟩),.int .i64 (x.1:Int),.pointer (some ⟨gm,0,none⟩),u13,u14,u15,u16,u17,u18,u19,u20,u21,u22,u23,u24,u25,u26,u27,u28,u29,u30,.func (.func 63) #[] #[.pointer (some ⟨qc,0,none⟩),.pointer (some ⟨qb,0,none⟩),.pointer (some ⟨qx,0,none⟩)],.int .i64 (x.1:Int),.agg #[.int .i64 x.2.1,.int .u32 x.2.2],u34,u35,u36,u37,u38,u39,u40,u41,u42,u43,u44,u45,u46,u47,u48,u49,u50,u51,u52,u53,u54,u55,u56,u57,u58,u59,u60,u61,u62,u63,u64,u65,u66,u67,u68,u69,u70,u71,u72,u73,u74,u75,u76,u77,u78,u79,u80,u81],defers:=[] }∧W'.heap[gm]?=some (.cells #[.int .i64 x.2.1,.int .u32 x.2.2] 75 (0,0)))
  ?ownA ?assign ?body ?done ?stop
 case own=>
  intro s W1 W2 row hs hg hr
  refine ⟨⟨hg.os.trans hs.1.os,hg.tape.trans hs.1.tape,hg.output.trans hs.1.output,Nat.le_trans hs.1.size hg.size,fun k hk=>(hg.block k (Nat.lt_of_lt_of_le hk hs.1.size) (fun e=>by have:=(hr k e.symm).1; omega)).trans (hs.1.block k hk)⟩,hs.2⟩
 case ownx=>
  rintro c s W1 W2 row ⟨h1,p,x,r,h2,h3,h4,h5,h6,h7⟩ hg hr
  refine ⟨h1,p,x,r,h2,h3,h4,h5.grown hg (fun k e=>.inl (hr k e).1),?_,?_⟩
  ·exact (hg.block gf (blk_lt h6) (fun e=>by have:=(hr gf e.symm).1; omega)).trans h6
  ·exact (hg.block ge (blk_lt h7) (fun e=>by have:=(hr ge e.symm).1; omega)).trans h7
 case ownA=>
  rintro x a' s W1 W2 row ⟨gm,rfl,hm⟩ hg hr
  refine ⟨gm,rfl,(hg.block gm (blk_lt hm) (fun e=>?_)).trans hm⟩
  obtain ⟨_,o,ho,hc⟩ :=hr gm e.symm
  rw [hm] at ho
  cases ho
  cases hc
 case assign=>
  intro l pre x W1 K hI hK
  dsimp only [Nx.encM]
  gi_wp2
  have hb:=below_alloc (Below.refl W1.heap.size W1) (.cells #[.int .i64 x.2.1,.int .u32 x.2.2] 75)
  have hle:=hI.1.size
  exact hK _ _ (Nx.keeps_below hb) ⟨hb.block qc (by have:=blk_lt hQC; omega),hb.block qb (by have:=blk_lt hQB; omega),hb.block qx (by have:=blk_lt hQX; omega)⟩ ⟨hI.1.trans (hb.mono hle),hI.2⟩ ⟨W1.heap.size,rfl,heap_alloc_new W1 _⟩
 case body=>
  rintro l pre ⟨n,F,N⟩ a' W1 hl hlr ⟨hb1,hall⟩ ⟨gm,rfl,hm⟩ hlen
  dsimp only at hm ⊢
  have hT1:=hT.keep hb1
  have hX1:Spc.Row W1 gx b0 s0 b1 s1 b2 s2 b3 s3 b4 s4:=blk_below hX hb1
  have hS1:=blk_below hS hb1
  have hC1:=blk_below hC hb1
  obtain ⟨R,hR⟩:∃ R,Nx.dayW so cd (st % 1440) (n,F,N) 31 1=R:=⟨_,rfl⟩
  have hG:=Aside0.mk (show Tab W1∧Spc.Row W1 gx b0 s0 b1 s1 b2 s2 b3 s3 b4 s4∧W1.heap[gs]?=some (.cells #[.int .i64 st] 3 (0,0))∧W1.heap[gc]?=some (.cells #[.int .i64 y0,.int .i64 m0,.int .i64 cd,.int .i64 c3,.int .i64 c4,.int .i64 c5] 66 (0,0))∧W1.heap[gm]?=some (.cells #[.int .i64 F,.int .u32 N] 75 (0,0)) from ⟨hT1,hX1,hS1,hC1,hm⟩)
  have hFE:=Aside0.mk (show gf < W.heap.size∧ge < W.heap.size∧W1.heap[gf]?=some (.cells #[.int .i64 0] 3 (0,0))∧W1.heap[ge]?=some (.cells #[.int .i64 11] 30 (0,0))∧qc < W.heap.size∧qb < W.heap.size∧qx < W.heap.size from ⟨hfl,hel,blk_below hF hb1,blk_below hE hb1,blk_lt hQC,blk_lt hQB,blk_lt hQX⟩)
  replace hb1:=Aside0.mk hb1
  replace hall:=Lib.hid hall
  replace hso:=Lib.hid hso
  clear hT hX hS hC hF hE hQC hQB hQX hdone hstop hseq hL hok A hT1 hX1 hS1 hC1 hm hfl hel
  gi_wp2
  gi_loopw [13] (fun p wr=>∃ (f:Nat) (d:Int),p=.int .i64 d∧Hid (Nx.dayW so cd (st % 1440) (n,F,N) f d=R)∧Hid ((f:Int)+d=32)∧1≤d∧d≤32∧Aside0 (Below W1.heap.size W1 wr)) (fun p _=>(32 - intOf p).toNat)
  case atStart=>
   exact ⟨31,1,rfl,Lib.hid hR,Lib.hid rfl,by decide,by decide,⟨Below.refl _ _⟩⟩
  case round=>
   replace hR:=Lib.hid hR
   obtain ⟨f,d,rfl,hx,hfd,d1,d2,hbr⟩ :=hrel
   by_cases hd:d≤31
   ·obtain ⟨f,rfl⟩:∃ g,f=g+1:=⟨f - 1,by have:=hfd.out; omega⟩
    obtain ⟨k0,k1,k2,k3,k4,k5,k6,k7,k8,k9⟩ :=(show Spc.Row wr gx b0 s0 b1 s1 b2 s2 b3 s3 b4 s4 from blk_below hG.out.2.1 hbr.out).cells
    have ks:wr.cell? ⟨gs,0,none⟩=some (.int .i64 st):=(blk_cell (blk_below hG.out.2.2.1 hbr.out) 0).trans rfl
    have kc:wr.cell? ⟨gc,2,none⟩=some (.int .i64 cd):=(blk_cell (blk_below hG.out.2.2.2.1 hbr.out) 2).trans rfl
    have km0:wr.cell? ⟨gm,0,none⟩=some (.int .i64 F):=(blk_cell (blk_below hG.out.2.2.2.2 hbr.out) 0).trans rfl
    have km1:wr.cell? ⟨gm,1,none⟩=some (.int .u32 N):=(blk_cell (blk_below hG.out.2.2.2.2 hbr.out) 1).trans rfl
    have ed:decide (d≤31)=true:=decide_eq_true hd
    by_cases hbit:Go.bits .and .u32 (N / 2 ^ d.toNat) 1=0
    ·have q1:(Go.bits .and .u32 (N / 2 ^ d.toNat) 1 == 0)=true:=by simpa using hbit
     replace hx:Hid (Nx.dayW so cd (st % 1440) (n,F,N) f (d+1)=R):=Lib.hid (by have:=hx.out; unfold Nx.dayW at this; rwa [if_pos (.inl hbit)] at this)
     gi_wp2_with fail
     go_roundw
     case rel=>exact ⟨f,d+1,rfl,hx,Lib.hid (by have:=hfd.out; omega),by omega,by omega,hbr⟩
     case measure=>simp only [intOf]; omega
    ·have q1:(Go.bits .and .u32 (N / 2 ^ d.toNat) 1 == 0)=false:=by simpa using hbit
     by_cases hn:(n:Int)=0
     ·have q2:((n:Int) == 0)=true:=by simpa using hn
      replace hn:=Lib.hid hn
      rcases (by omega:d < cd∨d=cd∨cd < d) with c | c | c
      ·have q3:decide (d < cd)=true:=decide_eq_true c
       replace hx:Hid (Nx.dayW so cd (st % 1440) (n,F,N) f (d+1)=R):=Lib.hid (by have:=hx.out; unfold Nx.dayW at this; rwa [if_pos (.inr ⟨hn.out,c⟩)] at this)
       gi_wp2_with fail
       go_roundw
       case rel=>exact ⟨f,d+1,rfl,hx,Lib.hid (by have:=hfd.out; omega),by omega,by omega,hbr⟩
       case measure=>simp only [intOf]; omega
      ·have q3:decide (d < cd)=false:=decide_eq_false (by omega)
       have q4:(d == cd)=true:=by simpa using c
       replace c:=Lib.hid c
       obtain ⟨⟨at_,ok⟩,hat⟩:∃ r,so (st % 1440)=r:=⟨_,rfl⟩
       have hs2:next_soon.f b0 s0 b1 s1 b2 s2 b3 s3 b4 s4 (st % 1440)=some (at_,ok):=by rw [hso.out,hat]
       replace hx:Hid ((if ok=true then some (wrap64 (wrap64 (wrap64 (wrap64 (F+d) - 1)*1440)+at_)) else Nx.dayW so cd (st % 1440) (n,F,N) f (d+1))=R):=Lib.hid (by have:=hx.out; unfold Nx.dayW at this; rw [if_neg (by rintro (q | q); exact hbit q; have:=c.out; omega)] at this; dsimp only at this; rwa [show (if (n:Int)=0∧d=cd then st % 1440 else 0)=st % 1440 from if_pos ⟨hn.out,c.out⟩,hat] at this)
       gi_wp2_with fail
       refine ⟨trivial,?_⟩
       refine (callsIn_wide.2 (next_soon.calls _ _ _ _ _ _ _ _ _ _ (st % 1440) _ _ _ (hG.out.1.keep hbr.out) hs2)).mono ?_
       rintro e W2 ⟨rfl,hb2⟩
       clear hs2 hat
       have hbr2:=Aside0.mk (hbr.out.trans (hb2.mono hbr.out.size))
       have km2:W2.cell? ⟨gm,0,none⟩=some (.int .i64 F):=(blk_cell (blk_below hG.out.2.2.2.2 hbr2.out) 0).trans rfl
       have kf:W2.cell? ⟨gf,0,none⟩=some (.int .i64 0):=(blk_cell (blk_below hFE.out.2.2.1 hbr2.out) 0).trans rfl
       have ke:W2.cell? ⟨ge,0,none⟩=some (.int .i64 11):=(blk_cell (blk_below hFE.out.2.2.2.1 hbr2.out) 0).trans rfl
       have ff:=blk_frozen (blk_below hFE.out.2.2.1 hbr2.out) 0
       have fe:=blk_frozen (blk_below hFE.out.2.2.2.1 hbr2.out) 0
       clear hbr hb2 k0 k1 k2 k3 k4 k5 k6 k7 k8 k9 ks kc km0 km1
       cases ok with
       | true=>
        replace hx:=Lib.hid (by have:=hx.out; rwa [if_pos rfl] at this)
        gi_wp2_with fail
        have hv:Nx.dayW so cd (st % 1440) (n,F,N) 31 1=some (wrap64 (wrap64 (wrap64 (wrap64 (F+d) - 1)*1440)+at_)):=by rw [hR.out,← hx.out]
        have g1:=grownBy_setCell' W2 gf (.int .i64 (wrap64 (wrap64 (wrap64 (wrap64 (F+d) - 1)*1440)+at_)))
        have g2:=grownBy_setCell' (W2.setCell ⟨gf,0,none⟩ (.int .i64 (wrap64 (wrap64 (wrap64 (wrap64 (F+d) - 1)*1440)+at_)))) ge (.int .i64 0)
        refine ⟨((Nx.keeps_below hbr2.out).trans (KeepsFrom.of_grownBy g1 (fun j e=>by cases e; exact hFE.out.1))).trans (KeepsFrom.of_grownBy g2 (fun j e=>by cases e; exact hFE.out.2.1)),rfl,pre,(n,F,N),_,rfl,hall.out,hv,?_,?_,?_⟩
        ·exact ((Nx.Only2.of_below (hb1.out.trans (hbr2.out.mono hb1.out.size))).grown g1 (fun r e=>by cases e; exact .inr (.inl rfl))).grown g2 (fun r e=>by cases e; exact .inr (.inr rfl))
        ·exact (Below.heap_setCell _ _ _ gf hfe).trans (blk_put (blk_below hFE.out.2.2.1 hbr2.out) 0 _ rfl)
        ·exact blk_put ((Below.heap_setCell _ _ _ ge (Ne.symm hfe)).trans (blk_below hFE.out.2.2.2.1 hbr2.out)) 0 _ rfl
       | false=>
        replace hx:Hid (Nx.dayW so cd (st % 1440) (n,F,N) f (d+1)=R):=Lib.hid (by have:=hx.out; rwa [if_neg (by decide)] at this)
        gi_wp2_with fail
        go_roundw
        case rel=>exact ⟨f,d+1,rfl,hx,Lib.hid (by have:=hfd.out; omega),by omega,by omega,hbr2⟩
        case measure=>simp only [intOf]; omega
      ·have q3:decide (d < cd)=false:=decide_eq_false (by omega)
       have q4:(d == cd)=false:=by
        have:¬ d=cd:=by omega
        simpa using this
       obtain ⟨⟨at_,ok⟩,hat⟩:∃ r,so (0)=r:=⟨_,rfl⟩
       have hs2:next_soon.f b0 s0 b1 s1 b2 s2 b3 s3 b4 s4 (0)=some (at_,ok):=by rw [hso.out,hat]
       replace hx:Hid ((if ok=true then some (wrap64 (wrap64 (wrap64 (wrap64 (F+d) - 1)*1440)+at_)) else Nx.dayW so cd (st % 1440) (n,F,N) f (d+1))=R):=Lib.hid (by have:=hx.out; unfold Nx.dayW at this; rw [if_neg (by rintro (q | q); exact hbit q; omega)] at this; dsimp only at this; rwa [show (if (n:Int)=0∧d=cd then st % 1440 else 0)=0 from if_neg (by omega),hat] at this)
       gi_wp2_with fail
       refine ⟨trivial,?_⟩
       refine (callsIn_wide.2 (next_soon.calls _ _ _ _ _ _ _ _ _ _ (0) _ _ _ (hG.out.1.keep hbr.out) hs2)).mono ?_
       rintro e W2 ⟨rfl,hb2⟩
       clear hs2 hat
       have hbr2:=Aside0.mk (hbr.out.trans (hb2.mono hbr.out.size))
       have km2:W2.cell? ⟨gm,0,none⟩=some (.int .i64 F):=(blk_cell (blk_below hG.out.2.2.2.2 hbr2.out) 0).trans rfl
       have kf:W2.cell? ⟨gf,0,none⟩=some (.int .i64 0):=(blk_cell (blk_below hFE.out.2.2.1 hbr2.out) 0).trans rfl
       have ke:W2.cell? ⟨ge,0,none⟩=some (.int .i64 11):=(blk_cell (blk_below hFE.out.2.2.2.1 hbr2.out) 0).trans rfl
       have ff:=blk_frozen (blk_below hFE.out.2.2.1 hbr2.out) 0
       have fe:=blk_frozen (blk_below hFE.out.2.2.2.1 hbr2.out) 0
       clear hbr hb2 k0 k1 k2 k3 k4 k5 k6 k7 k8 k9 ks kc km0 km1
       cases ok with
       | true=>
        replace hx:=Lib.hid (by have:=hx.out; rwa [if_pos rfl] at this)
        gi_wp2_with fail
        have hv:Nx.dayW so cd (st % 1440) (n,F,N) 31 1=some (wrap64 (wrap64 (wrap64 (wrap64 (F+d) - 1)*1440)+at_)):=by rw [hR.out,← hx.out]
        have g1:=grownBy_setCell' W2 gf (.int .i64 (wrap64 (wrap64 (wrap64 (wrap64 (F+d) - 1)*1440)+at_)))
        have g2:=grownBy_setCell' (W2.setCell ⟨gf,0,none⟩ (.int .i64 (wrap64 (wrap64 (wrap64 (wrap64 (F+d) - 1)*1440)+at_)))) ge (.int .i64 0)
        refine ⟨((Nx.keeps_below hbr2.out).trans (KeepsFrom.of_grownBy g1 (fun j e=>by cases e; exact hFE.out.1))).trans (KeepsFrom.of_grownBy g2 (fun j e=>by cases e; exact hFE.out.2.1)),rfl,pre,(n,F,N),_,rfl,hall.out,hv,?_,?_,?_⟩
        ·exact ((Nx.Only2.of_below (hb1.out.trans (hbr2.out.mono hb1.out.size))).grown g1 (fun r e=>by cases e; exact .inr (.inl rfl))).grown g2 (fun r e=>by cases e; exact .inr (.inr rfl))
        ·exact (Below.heap_setCell _ _ _ gf hfe).trans (blk_put (blk_below hFE.out.2.2.1 hbr2.out) 0 _ rfl)
        ·exact blk_put ((Below.heap_setCell _ _ _ ge (Ne.symm hfe)).trans (blk_below hFE.out.2.2.2.1 hbr2.out)) 0 _ rfl
       | false=>
        replace hx:Hid (Nx.dayW so cd (st % 1440) (n,F,N) f (d+1)=R):=Lib.hid (by have:=hx.out; rwa [if_neg (by decide)] at this)
        gi_wp2_with fail
        go_roundw
        case rel=>exact ⟨f,d+1,rfl,hx,Lib.hid (by have:=hfd.out; omega),by omega,by omega,hbr2⟩
        case measure=>simp only [intOf]; omega
     ·have q2:((n:Int) == 0)=false:=by simpa using hn
      obtain ⟨⟨at_,ok⟩,hat⟩:∃ r,so (0)=r:=⟨_,rfl⟩
      have hs2:next_soon.f b0 s0 b1 s1 b2 s2 b3 s3 b4 s4 (0)=some (at_,ok):=by rw [hso.out,hat]
      replace hx:Hid ((if ok=true then some (wrap64 (wrap64 (wrap64 (wrap64 (F+d) - 1)*1440)+at_)) else Nx.dayW so cd (st % 1440) (n,F,N) f (d+1))=R):=Lib.hid (by have:=hx.out; unfold Nx.dayW at this; rw [if_neg (by rintro (q | q); exact hbit q; exact hn q.1)] at this; dsimp only at this; rwa [show (if (n:Int)=0∧d=cd then st % 1440 else 0)=0 from if_neg (fun q=>hn q.1),hat] at this)
      gi_wp2_with fail
      refine ⟨trivial,?_⟩
      refine (callsIn_wide.2 (next_soon.calls _ _ _ _ _ _ _ _ _ _ (0) _ _ _ (hG.out.1.keep hbr.out) hs2)).mono ?_
      rintro e W2 ⟨rfl,hb2⟩
      clear hs2 hat
      have hbr2:=Aside0.mk (hbr.out.trans (hb2.mono hbr.out.size))
      have km2:W2.cell? ⟨gm,0,none⟩=some (.int .i64 F):=(blk_cell (blk_below hG.out.2.2.2.2 hbr2.out) 0).trans rfl
      have kf:W2.cell? ⟨gf,0,none⟩=some (.int .i64 0):=(blk_cell (blk_below hFE.out.2.2.1 hbr2.out) 0).trans rfl
      have ke:W2.cell? ⟨ge,0,none⟩=some (.int .i64 11):=(blk_cell (blk_below hFE.out.2.2.2.1 hbr2.out) 0).trans rfl
      have ff:=blk_frozen (blk_below hFE.out.2.2.1 hbr2.out) 0
      have fe:=blk_frozen (blk_below hFE.out.2.2.2.1 hbr2.out) 0
      clear hbr hb2 k0 k1 k2 k3 k4 k5 k6 k7 k8 k9 ks kc km0 km1
      cases ok with
      | true=>
       replace hx:=Lib.hid (by have:=hx.out; rwa [if_pos rfl] at this)
       gi_wp2_with fail
       have hv:Nx.dayW so cd (st % 1440) (n,F,N) 31 1=some (wrap64 (wrap64 (wrap64 (wrap64 (F+d) - 1)*1440)+at_)):=by rw [hR.out,← hx.out]
       have g1:=grownBy_setCell' W2 gf (.int .i64 (wrap64 (wrap64 (wrap64 (wrap64 (F+d) - 1)*1440)+at_)))
       have g2:=grownBy_setCell' (W2.setCell ⟨gf,0,none⟩ (.int .i64 (wrap64 (wrap64 (wrap64 (wrap64 (F+d) - 1)*1440)+at_)))) ge (.int .i64 0)
       refine ⟨((Nx.keeps_below hbr2.out).trans (KeepsFrom.of_grownBy g1 (fun j e=>by cases e; exact hFE.out.1))).trans (KeepsFrom.of_grownBy g2 (fun j e=>by cases e; exact hFE.out.2.1)),rfl,pre,(n,F,N),_,rfl,hall.out,hv,?_,?_,?_⟩
       ·exact ((Nx.Only2.of_below (hb1.out.trans (hbr2.out.mono hb1.out.size))).grown g1 (fun r e=>by cases e; exact .inr (.inl rfl))).grown g2 (fun r e=>by cases e; exact .inr (.inr rfl))
       ·exact (Below.heap_setCell _ _ _ gf hfe).trans (blk_put (blk_below hFE.out.2.2.1 hbr2.out) 0 _ rfl)
       ·exact blk_put ((Below.heap_setCell _ _ _ ge (Ne.symm hfe)).trans (blk_below hFE.out.2.2.2.1 hbr2.out)) 0 _ rfl
      | false=>
       replace hx:Hid (Nx.dayW so cd (st % 1440) (n,F,N) f (d+1)=R):=Lib.hid (by have:=hx.out; rwa [if_neg (by decide)] at this)
       gi_wp2_with fail
       go_roundw
       case rel=>exact ⟨f,d+1,rfl,hx,Lib.hid (by have:=hfd.out; omega),by omega,by omega,hbr2⟩
       case measure=>simp only [intOf]; omega
   ·have hf0:f=0:=by have:=hfd.out; omega
    subst hf0
    have hnone:Nx.dayW so cd (st % 1440) (n,F,N) 31 1=none:=by rw [hR.out,← hx.out]; rfl
    have ed:decide (d≤31)=false:=decide_eq_false hd
    gi_wp2_with fail
    refine ⟨Nx.keeps_below hbr.out,⟨hbr.out.block qc (by have:=hFE.out; have:=hb1.out.size; omega),hbr.out.block qb (by have:=hFE.out; have:=hb1.out.size; omega),hbr.out.block qx (by have:=hFE.out; have:=hb1.out.size; omega)⟩,hb1.out.trans (hbr.out.mono hb1.out.size),?_⟩
    intro xa xb xc hx
    rcases List.mem_append.1 (show (xa,xb,xc) ∈ pre ++ [(n,F,N)] by simpa using hx) with h | h
    ·exact hall.out (xa,xb,xc) h
    ·rw [List.mem_singleton.1 h]
     exact hnone
 case done=>
  rintro D xs W' hD rfl ⟨hb,hall⟩ hK
  refine hdone.out D W' hD hb ?_ hK
  rw [List.findSome?_eq_none_iff]
  exact hall
 case stop=>
  rintro D c pre W' hD hpre ⟨rfl,p,x,r,rfl,h3,h4,h5,h6,h7⟩ hK
  obtain ⟨tl,htl⟩ :=hpre
  have hfs:L.findSome? (fun x=>Nx.dayW so cd (st % 1440) x 31 1)=some r:=by
   rw [← htl,List.append_assoc,List.findSome?_append,List.findSome?_eq_none_iff.2 h3]
   simp [h4]
  have:=hstop.out D W' r hD h5 hfs h6 h7 hK
  gi_wp2
  exact this
end
/-! This session's own: next.months, next.odd's ways, next.Next. -/
section
open Go.Shelf
attribute [local go_sem] Oper.semAt_some
set_option maxHeartbeats 8000000 in
set_option maxRecDepth 100000 in
theorem Nx.months_box (b0:Int)(s0:Bool)(b1:Int)(s1:Bool)(b2:Int)(s2:Bool)(b3:Int)(s3:Bool)(b4:Int)(s4:Bool)(y m d c3 c4 c5 by_:Int)(W:World) :
  Calls Tryd.prog 35 #[.agg #[.int .u64 b0,.bool s0,.int .u64 b1,.bool s1,.int .u64 b2,.bool s2,.int .u64 b3,.bool s3,.int .u64 b4,.bool s4],.agg #[.int .i64 y,.int .i64 m,.int .i64 d,.int .i64 c3,.int .i64 c4,.int .i64 c5],.int .i64 by_] W fun e w'=>
   e=.returned (.func (.func 63) #[] #[.pointer (some ⟨W.heap.size+1,0,none⟩),.pointer (some ⟨W.heap.size+2,0,none⟩),.pointer (some ⟨W.heap.size,0,none⟩)])∧Below W.heap.size W w'∧w'.heap.size=W.heap.size+3∧
    w'.heap[W.heap.size+1]?=some (.cells #[.int .i64 y,.int .i64 m,.int .i64 d,.int .i64 c3,.int .i64 c4,.int .i64 c5] 66 (0,0))∧w'.heap[W.heap.size+2]?=some (.cells #[.int .i64 by_] 3 (0,0))∧Spc.Row w' W.heap.size b0 s0 b1 s1 b2 s2 b3 s3 b4 s4:=by
 have HW:Aside0 (Below W.heap.size W (((W.alloc (.cells #[.int .u64 b0,.bool s0,.int .u64 b1,.bool s1,.int .u64 b2,.bool s2,.int .u64 b3,.bool s3,.int .u64 b4,.bool s4] 26)).alloc (.cells #[.int .i64 y,.int .i64 m,.int .i64 d,.int .i64 c3,.int .i64 c4,.int .i64 c5] 66)).alloc (.cells #[.int .i64 by_] 3))∧
   (((W.alloc (.cells #[.int .u64 b0,.bool s0,.int .u64 b1,.bool s1,.int .u64 b2,.bool s2,.int .u64 b3,.bool s3,.int .u64 b4,.bool s4] 26)).alloc (.cells #[.int .i64 y,.int .i64 m,.int .i64 d,.int .i64 c3,.int .i64 c4,.int .i64 c5] 66)).alloc (.cells #[.int .i64 by_] 3)).heap.size=W.heap.size+3∧
   (((W.alloc (.cells #[.int .u64 b0,.bool s0,.int .u64 b1,.bool s1,.int .u64 b2,.bool s2,.int .u64 b3,.bool s3,.int .u64 b4,.bool s4] 26)).alloc (.cells #[.int .i64 y,.int .i64 m,.int .i64 d,.int .i64 c3,.int .i64 c4,.int .i64 c5] 66)).alloc (.cells #[.int .i64 by_] 3)).heap[W.heap.size+1]?=some (.cells #[.int .i64 y,.int .i64 m,.int .i64 d,.int .i64 c3,.int .i64 c4,.int .i64 c5] 66 (0,0))∧
   (((W.alloc (.cells #[.int .u64 b0,.bool s0,.int .u64 b1,.bool s1,.int .u64 b2,.bool s2,.int .u64 b3,.bool s3,.int .u64 b4,.bool s4] 26)).alloc (.cells #[.int .i64 y,.int .i64 m,.int .i64 d,.int .i64 c3,.int .i64 c4,.int .i64 c5] 66)).alloc (.cells #[.int .i64 by_] 3)).heap[W.heap.size+2]?=some (.cells #[.int .i64 by_] 3 (0,0))∧
   Spc.Row (((W.alloc (.cells #[.int .u64 b0,.bool s0,.int .u64 b1,.bool s1,.int .u64 b2,.bool s2,.int .u64 b3,.bool s3,.int .u64 b4,.bool s4] 26)).alloc (.cells #[.int .i64 y,.int .i64 m,.int .i64 d,.int .i64 c3,.int .i64 c4,.int .i64 c5] 66)).alloc (.cells #[.int .i64 by_] 3)) W.heap.size b0 s0 b1 s1 b2 s2 b3 s3 b4 s4):=by
  refine ⟨⟨below_alloc (below_alloc (below_alloc (Below.refl _ _) _) _) _,by simp,?_,?_,blk_alloc (blk_alloc (blk_new W _) _) _⟩⟩
  ·have h:=blk_alloc (heap_alloc_new (W.alloc (.cells #[.int .u64 b0,.bool s0,.int .u64 b1,.bool s1,.int .u64 b2,.bool s2,.int .u64 b3,.bool s3,.int .u64 b4,.bool s4] 26)) (.cells #[.int .i64 y,.int .i64 m,.int .i64 d,.int .i64 c3,.int .i64 c4,.int .i64 c5] 66)) (.cells #[.int .i64 by_] 3)
   simpa using h
  ·have h:=heap_alloc_new ((W.alloc (.cells #[.int .u64 b0,.bool s0,.int .u64 b1,.bool s1,.int .u64 b2,.bool s2,.int .u64 b3,.bool s3,.int .u64 b4,.bool s4] 26)).alloc (.cells #[.int .i64 y,.int .i64 m,.int .i64 d,.int .i64 c3,.int .i64 c4,.int .i64 c5] 66)) (.cells #[.int .i64 by_] 3)
   simpa using h
 go_enter Tryd.func35,Tryd.ntmps35
 go_wp2
 go_ret
 exact ⟨rfl,HW.out⟩
end
/-! This session's own: next.Next as a whole. -/
def Nx.nextS (so:Int→Int × Bool)(mk:Int→Int→Int × Int)(m:Int):Int × Int:=
 match (Nx.mons mk 1 20000 (Civ.of (mx m (-1)+1)).1 (Civ.of (mx m (-1)+1)).2.1 0).findSome? (fun x=>Nx.dayW so (Civ.of (mx m (-1)+1)).2.2.1 ((mx m (-1)+1) % 1440) x 31 1) with
 | some r=>(r,0)
 | none=>(0,11)
theorem Nx.alloc3 (w:World)(g:Nat)(hg:w.heap.size=g)(o1 o2 o3:Obj):(((w.alloc o1).alloc o2).alloc o3).heap.size=g+1+1+1∧(((w.alloc o1).alloc o2).alloc o3).heap[g]?=some o1∧(((w.alloc o1).alloc o2).alloc o3).heap[g+1]?=some o2∧(((w.alloc o1).alloc o2).alloc o3).heap[g+1+1]?=some o3:=by
 subst hg
 have e1:(w.alloc o1).heap.size=w.heap.size+1:=by simp
 have e2:((w.alloc o1).alloc o2).heap.size=w.heap.size+1+1:=by simp
 refine ⟨by simp,?_,?_,?_⟩
 ·exact (Below.heap_alloc _ _ _ (by omega)).trans ((Below.heap_alloc _ _ _ (by omega)).trans (heap_alloc_new w o1))
 ·refine (Below.heap_alloc _ _ _ (by omega)).trans ?_
  rw [← e1]; exact heap_alloc_new (w.alloc o1) o2
 ·rw [← e2]; exact heap_alloc_new ((w.alloc o1).alloc o2) o3
section
open Go.Shelf
attribute [local go_sem] Oper.semAt_some
set_option maxHeartbeats 8000000 in
set_option maxRecDepth 1000000 in
theorem Nx.next_good (b0:Int)(s0:Bool)(b1:Int)(s1:Bool)(b2:Int)(s2:Bool)(b3:Int)(s3:Bool)(b4:Int)(s4:Bool)(hok:Dy.okS b0 b1 b2 b3 b4=true)(A:next_odd.f b0 s0 b1 s1 b2 s2 b3 s3 b4 s4=some false)
  (so:Int→Int × Bool) (hso:∀ t,next_soon.f b0 s0 b1 s1 b2 s2 b3 s3 b4 s4 t=some ((so t).1,(so t).2)) (m:Int) (hm:m < 541727999) (w:World) (hT:Tab w) :
  CallsIn Fence.wide 6 Tryd.prog 47 #[.agg #[.int .u64 b0,.bool s0,.int .u64 b1,.bool s1,.int .u64 b2,.bool s2,.int .u64 b3,.bool s3,.int .u64 b4,.bool s4],.int .i64 m] w fun e w'=>
   e=.returned (.tuple #[.int .i64 (Nx.nextS so (Dy.mask false b2 s2 b3 b4 s4) m).1,.int .i64 (Nx.nextS so (Dy.mask false b2 s2 b3 b4 s4) m).2])∧Below w.heap.size w w':=by
 have hx1:-1≤mx m (-1):=by unfold mx; split <;> omega
 have hx2:mx m (-1) < 541727999:=by unfold mx; split <;> omega
 obtain ⟨S,hS⟩:∃ S,Nx.nextS so (Dy.mask false b2 s2 b3 b4 s4) m=S:=⟨_,rfl⟩
 rw [hS]
 unfold Nx.nextS at hS
 have hd1:decide (541727999≤m)=false:=decide_eq_false (by omega)
 obtain ⟨X,hX⟩:∃ X,mx m (-1)=X:=⟨_,rfl⟩
 rw [hX] at hx1 hx2 hS
 have hif:(if m < -1 then (-1:Int) else m)=X:=by rw [← hX]; rfl
 obtain ⟨y0,m0,cd,c3,c4,c5,ce,hO⟩:∃ y0 m0 cd c3 c4 c5 ce,Civ.of (X+1)=(y0,m0,cd,c3,c4,c5,ce):=⟨_,_,_,_,_,_,_,rfl⟩
 obtain ⟨hy1,hy2,hm1,hm2⟩:1970≤y0∧y0≤2999∧1≤m0∧m0≤12:=by
  unfold Civ.of at hO
  rw [if_neg (by omega)] at hO
  obtain ⟨ok,-⟩ :=Civ.date_ok (d:=(X+1) / 1440) (by omega) (by omega)
  injection hO with e1 e
  injection e with e2 e
  obtain ⟨q1,q2,q3,q4,-,-⟩ :=ok
  omega
 rw [hO] at hS
 dsimp only at hS
 have B:day_odd.f b0 s0 b1 s1 b2 s2 b3 s3 b4 s4=some false:=A
 have HB:=Aside0.mk (show Spc.Row (w.alloc (.cells #[.int .u64 b0,.bool s0,.int .u64 b1,.bool s1,.int .u64 b2,.bool s2,.int .u64 b3,.bool s3,.int .u64 b4,.bool s4] 26)) w.heap.size b0 s0 b1 s1 b2 s2 b3 s3 b4 s4∧Below w.heap.size w (w.alloc (.cells #[.int .u64 b0,.bool s0,.int .u64 b1,.bool s1,.int .u64 b2,.bool s2,.int .u64 b3,.bool s3,.int .u64 b4,.bool s4] 26)) from ⟨blk_new w _,below_alloc (Below.refl _ _) _⟩)
 replace hO:=Lib.hid hO
 replace hS:=Lib.hid hS
 replace hso:=Lib.hid hso
 replace A:=Lib.hid A
 replace B:=Lib.hid B
 replace hok:=Lib.hid hok
 refine callsIn_of_wp_marks Tryd.func47 rfl trivial ?_ rfl
 simp only [Tryd.ntmps47,List.size_toArray,List.length_cons,List.length_nil,Nat.reduceAdd,Nat.reduceSub,Array.replicate_succ,Array.replicate_zero,List.push_toArray,List.append_toArray,List.nil_append,List.cons_append]
 gi_wp2_with fail
 refine wpIn_wide.2 (wp_scope_straight ((wpIn_wide (n:=6)).1 ?_))
 gi_wp2_with fail
 refine ⟨trivial,?_⟩
 generalize w.alloc (.cells #[.int .u64 b0,.bool s0,.int .u64 b1,.bool s1,.int .u64 b2,.bool s2,.int .u64 b3,.bool s3,.int .u64 b4,.bool s4] 26)=w1 at HB ⊢
 refine (callsIn_wide.2 (next_odd.calls _ _ _ _ _ _ _ _ _ _ _ _ A.out)).mono ?_
 rintro e w2 ⟨rfl,hb⟩
 have H2:=Aside0.mk (show Spc.Row w2 w.heap.size b0 s0 b1 s1 b2 s2 b3 s3 b4 s4∧Below w.heap.size w w2 from ⟨blk_below HB.out.1 hb,below_step HB.out.2 hb⟩)
 clear HB hb A
 obtain ⟨k0,k1,k2,k3,k4,k5,k6,k7,k8,k9⟩ :=H2.out.1.cells
 gi_wp2_with fail
 refine ⟨trivial,?_⟩
 have H3:=Aside0.mk (show Spc.Row (w2.alloc (.cells #[.int .i64 (X+1)] 3)) w.heap.size b0 s0 b1 s1 b2 s2 b3 s3 b4 s4∧Below w.heap.size w (w2.alloc (.cells #[.int .i64 (X+1)] 3))∧(w2.alloc (.cells #[.int .i64 (X+1)] 3)).heap[w2.heap.size]?=some (.cells #[.int .i64 (X+1)] 3 (0,0)) from ⟨blk_alloc H2.out.1 _,below_alloc H2.out.2 _,heap_alloc_new _ _⟩)
 obtain ⟨gs,hgs⟩:∃ g,w2.heap.size=g:=⟨_,rfl⟩
 have hgs1:w.heap.size < gs:=by rw [← hgs]; exact blk_lt H2.out.1
 rw [hgs] at H3 ⊢
 generalize w2.alloc (.cells #[.int .i64 (X+1)] 3)=w3 at H3 ⊢
 clear H2 k0 k1 k2 k3 k4 k5 k6 k7 k8 k9 hgs
 refine (callsIn_wide.2 (civil_Of.calls 2 (X+1) y0 m0 cd c3 c4 c5 ce _ (by rw [Civ.of_f (X+1) 2 (by decide),hO.out]))).mono ?_
 rintro e w4 ⟨rfl,hb⟩
 have H4:=Aside0.mk (show Spc.Row w4 w.heap.size b0 s0 b1 s1 b2 s2 b3 s3 b4 s4∧Below w.heap.size w w4∧w4.heap[gs]?=some (.cells #[.int .i64 (X+1)] 3 (0,0)) from ⟨blk_below H3.out.1 hb,below_step H3.out.2.1 hb,blk_below H3.out.2.2 hb⟩)
 clear H3 hb
 obtain ⟨k0,k1,k2,k3,k4,k5,k6,k7,k8,k9⟩ :=H4.out.1.cells
 gi_wp2_with fail
 refine wpIn_label ?_
 obtain ⟨g,hg⟩:∃ g,w4.heap.size=g:=⟨_,rfl⟩
 have hg1:gs < g:=by rw [← hg]; exact blk_lt H4.out.2.2
 have hal:=Nx.alloc3 w4 g hg (.cells #[.int .i64 y0,.int .i64 m0,.int .i64 cd,.int .i64 c3,.int .i64 c4,.int .i64 c5] 66) (.cells #[.int .i64 0] 3) (.cells #[.int .i64 11] 30)
 have hbl:=below_alloc (below_alloc (below_alloc (Below.refl w4.heap.size w4) (.cells #[.int .i64 y0,.int .i64 m0,.int .i64 cd,.int .i64 c3,.int .i64 c4,.int .i64 c5] 66)) (.cells #[.int .i64 0] 3)) (.cells #[.int .i64 11] 30)
 generalize (((w4.alloc (.cells #[.int .i64 y0,.int .i64 m0,.int .i64 cd,.int .i64 c3,.int .i64 c4,.int .i64 c5] 66)).alloc (.cells #[.int .i64 0] 3)).alloc (.cells #[.int .i64 11] 30))=w5 at hal hbl ⊢
 rw [hg]
 clear k0 k1 k2 k3 k4 k5 k6 k7 k8 k9
 have H5:=Aside0.mk (show Spc.Row w5 w.heap.size b0 s0 b1 s1 b2 s2 b3 s3 b4 s4∧Below w.heap.size w w5∧w5.heap[gs]?=some (.cells #[.int .i64 (X+1)] 3 (0,0)) from ⟨blk_below H4.out.1 hbl,below_step H4.out.2.1 hbl,blk_below H4.out.2.2 hbl⟩)
 clear H4 hbl hg
 have hal2:=Aside0.mk hal
 obtain ⟨k0,k1,k2,k3,k4,k5,k6,k7,k8,k9⟩ :=H5.out.1.cells
 have v0:w5.cell? ⟨g,0,none⟩=some (.int .i64 y0):=(blk_cell hal.2.1 0).trans rfl
 have v1:w5.cell? ⟨g,1,none⟩=some (.int .i64 m0):=(blk_cell hal.2.1 1).trans rfl
 have v2:w5.cell? ⟨g,2,none⟩=some (.int .i64 cd):=(blk_cell hal.2.1 2).trans rfl
 have v3:w5.cell? ⟨g,3,none⟩=some (.int .i64 c3):=(blk_cell hal.2.1 3).trans rfl
 have v4:w5.cell? ⟨g,4,none⟩=some (.int .i64 c4):=(blk_cell hal.2.1 4).trans rfl
 have v5:w5.cell? ⟨g,5,none⟩=some (.int .i64 c5):=(blk_cell hal.2.1 5).trans rfl
 clear hal
 gi_wp2_with fail
 refine ⟨trivial,?_⟩
 refine (callsIn_wide.2 (Nx.months_box b0 s0 b1 s1 b2 s2 b3 s3 b4 s4 y0 m0 cd c3 c4 c5 1 w5)).mono ?_
 rintro e w6 ⟨rfl,hb,hz,hqc,hqb,hqx⟩
 have hsz:=hal2.out.1
 have H6:=Aside0.mk (show Spc.Row w6 w.heap.size b0 s0 b1 s1 b2 s2 b3 s3 b4 s4∧Below w.heap.size w w6∧w6.heap[gs]?=some (.cells #[.int .i64 (X+1)] 3 (0,0))∧w6.heap[g]?=some (.cells #[.int .i64 y0,.int .i64 m0,.int .i64 cd,.int .i64 c3,.int .i64 c4,.int .i64 c5] 66 (0,0))∧w6.heap[g+1]?=some (.cells #[.int .i64 0] 3 (0,0))∧w6.heap[g+1+1]?=some (.cells #[.int .i64 11] 30 (0,0)) from
  ⟨blk_below H5.out.1 hb,below_step H5.out.2.1 hb,blk_below H5.out.2.2 hb,blk_below hal2.out.2.1 hb,blk_below hal2.out.2.2.1 hb,blk_below hal2.out.2.2.2 hb⟩)
 rw [hsz] at hz hqc hqb hqx ⊢
 clear H5 hal2 hb hsz k0 k1 k2 k3 k4 k5 k6 k7 k8 k9 v0 v1 v2 v3 v4 v5
 replace hqc:=Aside0.mk hqc
 replace hqb:=Aside0.mk hqb
 replace hqx:=Aside0.mk hqx
 gi_wp2_with fail
 refine Nx.next_range _ _ _ _ _ _ _ _ _ _ _ _ _ _ _ _ _ _ _ _ _ _ _ _ _ _ _ _ _ _ _ _ _ _ _ _ _ _ _ _ _ _ _ _ _ _ _ _ _ _ _ _ _ _ _ _ _ _ _ _ _ _ _ _ _ _ _ _ _ _ _ _ _ _ _ _ w.heap.size gs g (g+1) (g+1+1) (g+1+1+1+1) (g+1+1+1+2) (g+1+1+1) b0 s0 b1 s1 b2 s2 b3 s3 b4 s4 hok.out B.out so hso.out (X+1) y0 m0 cd c3 c4 c5 [] w6 (hT.keep H6.out.2.1) H6.out.1 H6.out.2.2.1 H6.out.2.2.2.1 H6.out.2.2.2.2.1 H6.out.2.2.2.2.2 hqc.out hqb.out hqx.out (by omega) (by omega) hy1 hy2 hm1 hm2 _ ?_ ?_
 ·intro D W' hD hb hfs hK
  have hv:S=(0,11):=by rw [← hS.out,hfs]
  have hg0:W'.heap[g+1]?=some (.cells #[.int .i64 0] 3 (0,0)):=blk_below H6.out.2.2.2.2.1 hb
  have hg1':W'.heap[g+1+1]?=some (.cells #[.int .i64 11] 30 (0,0)):=blk_below H6.out.2.2.2.2.2 hb
  have a0:W'.cell? ⟨g+1,0,none⟩=some (.int .i64 0):=(blk_cell hg0 0).trans rfl
  have a1:W'.cell? ⟨g+1+1,0,none⟩=some (.int .i64 11):=(blk_cell hg1' 0).trans rfl
  have HB2:Below w.heap.size w W':=H6.out.2.1.trans (hb.mono H6.out.2.1.size)
  replace hv:=Lib.hid hv
  gi_wp2_with fail
  gi_region
  gi_wp2_with fail
  dsimp only [Exit.noGoto]
  have hKb:=below_drew1 (Below.refl W'.heap.size W')
  refine Fld.leave w.heap.size _ (D+1) _ ⟨D,rfl,by have:=H6.out.2.1.size; omega,by omega,(hKb.block D (Array.getElem?_eq_some_iff.1 hK).1).trans hK,trivial⟩ ?_
  intro W2 hb2 hc
  refine ⟨.tuple #[.int .i64 0,.int .i64 11],by simp [results,Tryd.results47,go_sem],by rw [hv.out],?_⟩
  exact ((HB2.trans (hKb.mono (by have:=HB2.size; omega))).trans hb2)
 ·intro D W' r hD hO2 hfs hf he hK
  have hv:S=(r,0):=by rw [← hS.out,hfs]
  have a0:W'.cell? ⟨g+1,0,none⟩=some (.int .i64 r):=(blk_cell hf 0).trans rfl
  have a1:W'.cell? ⟨g+1+1,0,none⟩=some (.int .i64 0):=(blk_cell he 0).trans rfl
  have HB2:Below w.heap.size w W':=H6.out.2.1.trans (hO2.below (by omega) (by omega) H6.out.2.1.size)
  replace hv:=Lib.hid hv
  gi_wp2_with fail
  gi_region
  gi_wp2_with fail
  dsimp only [Exit.noGoto]
  have hKb:=below_drew1 (Below.refl W'.heap.size W')
  refine Fld.leave w.heap.size _ (D+1) _ ⟨D,rfl,by have:=H6.out.2.1.size; omega,by omega,(hKb.block D (Array.getElem?_eq_some_iff.1 hK).1).trans hK,trivial⟩ ?_
  intro W2 hb2 hc
  refine ⟨.tuple #[.int .i64 r,.int .i64 0],by simp [results,Tryd.results47,go_sem],by rw [hv.out],?_⟩
  exact ((HB2.trans (hKb.mono (by have:=HB2.size; omega))).trans hb2)
set_option maxHeartbeats 8000000 in
set_option maxRecDepth 1000000 in
theorem Nx.next_odd (b0:Int)(s0:Bool)(b1:Int)(s1:Bool)(b2:Int)(s2:Bool)(b3:Int)(s3:Bool)(b4:Int)(s4:Bool)(A:next_odd.f b0 s0 b1 s1 b2 s2 b3 s3 b4 s4=some true)(m:Int)(w:World) :
  CallsIn Fence.wide 6 Tryd.prog 47 #[.agg #[.int .u64 b0,.bool s0,.int .u64 b1,.bool s1,.int .u64 b2,.bool s2,.int .u64 b3,.bool s3,.int .u64 b4,.bool s4],.int .i64 m] w fun e w'=>
   e=.returned (.tuple #[.int .i64 0,.int .i64 2])∧Below w.heap.size w w':=by
 have HB:=Aside0.mk (show Spc.Row (w.alloc (.cells #[.int .u64 b0,.bool s0,.int .u64 b1,.bool s1,.int .u64 b2,.bool s2,.int .u64 b3,.bool s3,.int .u64 b4,.bool s4] 26)) w.heap.size b0 s0 b1 s1 b2 s2 b3 s3 b4 s4∧Below w.heap.size w (w.alloc (.cells #[.int .u64 b0,.bool s0,.int .u64 b1,.bool s1,.int .u64 b2,.bool s2,.int .u64 b3,.bool s3,.int .u64 b4,.bool s4] 26)) from ⟨blk_new w _,below_alloc (Below.refl _ _) _⟩)
 replace A:=Lib.hid A
 refine callsIn_of_wp_marks Tryd.func47 rfl trivial ?_ rfl
 simp only [Tryd.ntmps47,List.size_toArray,List.length_cons,List.length_nil,Nat.reduceAdd,Nat.reduceSub,Array.replicate_succ,Array.replicate_zero,List.push_toArray,List.append_toArray,List.nil_append,List.cons_append]
 gi_wp2_with fail
 refine wpIn_wide.2 (wp_scope_straight ((wpIn_wide (n:=6)).1 ?_))
 gi_wp2_with fail
 refine ⟨trivial,?_⟩
 generalize w.alloc (.cells #[.int .u64 b0,.bool s0,.int .u64 b1,.bool s1,.int .u64 b2,.bool s2,.int .u64 b3,.bool s3,.int .u64 b4,.bool s4] 26)=w1 at HB ⊢
 refine (callsIn_wide.2 (next_odd.calls _ _ _ _ _ _ _ _ _ _ _ _ A.out)).mono ?_
 rintro e w2 ⟨rfl,hb⟩
 have H2:=Aside0.mk (below_step HB.out.2 hb)
 clear HB hb A
 gi_wp2_with fail
 dsimp only [Exit.noGoto]
 refine Fld.leave w.heap.size _ 0 _ trivial ?_
 intro W2 hb2 hc
 refine ⟨.tuple #[.int .i64 0,.int .i64 2],by simp [results,Tryd.results47,go_sem],rfl,?_⟩
 exact H2.out.trans hb2
set_option maxHeartbeats 8000000 in
set_option maxRecDepth 1000000 in
theorem Nx.next_late (b0:Int)(s0:Bool)(b1:Int)(s1:Bool)(b2:Int)(s2:Bool)(b3:Int)(s3:Bool)(b4:Int)(s4:Bool)(A:next_odd.f b0 s0 b1 s1 b2 s2 b3 s3 b4 s4=some false)(m:Int)(hm:541727999≤m)(w:World) :
  CallsIn Fence.wide 6 Tryd.prog 47 #[.agg #[.int .u64 b0,.bool s0,.int .u64 b1,.bool s1,.int .u64 b2,.bool s2,.int .u64 b3,.bool s3,.int .u64 b4,.bool s4],.int .i64 m] w fun e w'=>
   e=.returned (.tuple #[.int .i64 0,.int .i64 11])∧Below w.heap.size w w':=by
 have HB:=Aside0.mk (show Spc.Row (w.alloc (.cells #[.int .u64 b0,.bool s0,.int .u64 b1,.bool s1,.int .u64 b2,.bool s2,.int .u64 b3,.bool s3,.int .u64 b4,.bool s4] 26)) w.heap.size b0 s0 b1 s1 b2 s2 b3 s3 b4 s4∧Below w.heap.size w (w.alloc (.cells #[.int .u64 b0,.bool s0,.int .u64 b1,.bool s1,.int .u64 b2,.bool s2,.int .u64 b3,.bool s3,.int .u64 b4,.bool s4] 26)) from ⟨blk_new w _,below_alloc (Below.refl _ _) _⟩)
 replace A:=Lib.hid A
 have hd1:decide (541727999≤m)=true:=decide_eq_true hm
 refine callsIn_of_wp_marks Tryd.func47 rfl trivial ?_ rfl
 simp only [Tryd.ntmps47,List.size_toArray,List.length_cons,List.length_nil,Nat.reduceAdd,Nat.reduceSub,Array.replicate_succ,Array.replicate_zero,List.push_toArray,List.append_toArray,List.nil_append,List.cons_append]
 gi_wp2_with fail
 refine wpIn_wide.2 (wp_scope_straight ((wpIn_wide (n:=6)).1 ?_))
 gi_wp2_with fail
 refine ⟨trivial,?_⟩
 generalize w.alloc (.cells #[.int .u64 b0,.bool s0,.int .u64 b1,.bool s1,.int .u64 b2,.bool s2,.int .u64 b3,.bool s3,.int .u64 b4,.bool s4] 26)=w1 at HB ⊢
 refine (callsIn_wide.2 (next_odd.calls _ _ _ _ _ _ _ _ _ _ _ _ A.out)).mono ?_
 rintro e w2 ⟨rfl,hb⟩
 have H2:=Aside0.mk (below_step HB.out.2 hb)
 clear HB hb A
 gi_wp2_with fail
 dsimp only [Exit.noGoto]
 refine Fld.leave w.heap.size _ 0 _ trivial ?_
 intro W2 hb2 hc
 refine ⟨.tuple #[.int .i64 0,.int .i64 11],by simp [results,Tryd.results47,go_sem],rfl,?_⟩
 exact H2.out.trans hb2
end
/-! This session's own: field.First and next.soon answer at every field that is a u64. -/
theorem Nx.first_tot (b:Int)(s:Bool)(v:Int):∃ r,field_First.f b s v=some r:=by
 unfold field_First.f
 split
 ·exact ⟨_,rfl⟩
 ·have hw:0≤IntKind.u64.wrap (mx v 0):=by simp [IntKind.wrap,IntKind.bits,IntKind.signed]; omega
  rw [if_pos hw]
  split
  ·exact ⟨_,rfl⟩
  ·unfold bits_TrailingZeros64.f
   have hs:∀ x y:Int,0≤shl .u64 x y∧shl .u64 x y < 18446744073709551616:=by
    intro x y
    unfold shl
    simp only [IntKind.wrap,IntKind.bits,IntKind.signed]
    constructor
    ·simp; omega
    ·simp; omega
   rw [if_pos (hs _ _)]
   exact ⟨_,rfl⟩
theorem Nx.soon_tot (b0:Int)(s0:Bool)(b1:Int)(s1:Bool)(b2:Int)(s2:Bool)(b3:Int)(s3:Bool)(b4:Int)(s4:Bool)(h1:Dy.InU b1)(t:Int):∃ r,next_soon.f b0 s0 b1 s1 b2 s2 b3 s3 b4 s4 t=some r:=by
 unfold next_soon.f
 obtain ⟨⟨m,ok⟩,A⟩ :=Nx.first_tot b0 s0 (Int.tmod t 60)
 rw [A]
 simp only [Option.bind_some]
 obtain ⟨q,hq⟩:∃ q,(if ok=true then field_Has.f b1 s1 (wrap64 (Int.tdiv t 60)) else some false)=some q:=by
  split
  ·exact ⟨_,Dy.has_f b1 s1 _ h1⟩
  ·exact ⟨_,rfl⟩
 rw [hq]
 simp only [Option.bind_some]
 split
 ·exact ⟨_,rfl⟩
 ·obtain ⟨⟨x,ox⟩,C⟩ :=Nx.first_tot b1 s1 (wrap64 (wrap64 (Int.tdiv t 60)+1))
  rw [C]
  simp only [Option.bind_some]
  split
  ·obtain ⟨⟨u,ou⟩,D⟩ :=Nx.first_tot b0 s0 0
   rw [D]
   exact ⟨_,rfl⟩
  ·exact ⟨_,rfl⟩
def next_Next.f (a0_0:Int)(a0_1:Bool)(a0_2:Int)(a0_3:Bool)(a0_4:Int)(a0_5:Bool)(a0_6:Int)(a0_7:Bool)(a0_8:Int)(a0_9:Bool)(a1:Int):Option (Int × Int):=if Dy.okS a0_0 a0_2 a0_4 a0_6 a0_8=true then (next_odd.f a0_0 a0_1 a0_2 a0_3 a0_4 a0_5 a0_6 a0_7 a0_8 a0_9).bind fun o=>some (if o=true then ((0:Int),(2:Int)) else if 541727999≤a1 then (0,11) else Nx.nextS (fun t=>(next_soon.f a0_0 a0_1 a0_2 a0_3 a0_4 a0_5 a0_6 a0_7 a0_8 a0_9 t).getD (0,false)) (Dy.mask false a0_4 a0_5 a0_6 a0_8 a0_9) a1) else none
set_option maxHeartbeats 8000000 in
set_option maxRecDepth 100000 in
theorem next_Next.calls (a0_0:Int)(a0_1:Bool)(a0_2:Int)(a0_3:Bool)(a0_4:Int)(a0_5:Bool)(a0_6:Int)(a0_7:Bool)(a0_8:Int)(a0_9:Bool)(a1:Int)(r1:Int)(r2:Int)(w:World)(hT:Tab w)(h:next_Next.f a0_0 a0_1 a0_2 a0_3 a0_4 a0_5 a0_6 a0_7 a0_8 a0_9 a1=some (r1,r2)) :
  Calls Tryd.prog 47 #[.agg #[.int .u64 a0_0,.bool a0_1,.int .u64 a0_2,.bool a0_3,.int .u64 a0_4,.bool a0_5,.int .u64 a0_6,.bool a0_7,.int .u64 a0_8,.bool a0_9],.int .i64 a1] w fun e w'=>e=.returned (.tuple #[.int .i64 r1,.int .i64 r2])∧Below w.heap.size w w':=by
 have HB:=Aside0.mk (Below.refl w.heap.size w)
 have hh:(if Dy.okS a0_0 a0_2 a0_4 a0_6 a0_8=true then (next_odd.f a0_0 a0_1 a0_2 a0_3 a0_4 a0_5 a0_6 a0_7 a0_8 a0_9).bind fun o=>some (if o=true then ((0:Int),(2:Int)) else if 541727999≤a1 then (0,11) else Nx.nextS (fun t=>(next_soon.f a0_0 a0_1 a0_2 a0_3 a0_4 a0_5 a0_6 a0_7 a0_8 a0_9 t).getD (0,false)) (Dy.mask false a0_4 a0_5 a0_6 a0_8 a0_9) a1) else none)=some (r1,r2):=h
 clear h
 by_cases hok:Dy.okS a0_0 a0_2 a0_4 a0_6 a0_8=true
 ·rw [if_pos hok] at hh
  obtain ⟨o,A,hm⟩ :=Option.bind_eq_some_iff.1 hh
  cases o with
  | true=>
   rw [if_pos rfl] at hm
   obtain ⟨rfl,rfl⟩ :=Prod.mk.inj (Option.some.inj hm)
   exact callsIn_wide.1 (Nx.next_odd a0_0 a0_1 a0_2 a0_3 a0_4 a0_5 a0_6 a0_7 a0_8 a0_9 A a1 w)
  | false=>
   rw [if_neg (by decide)] at hm
   by_cases hl:541727999≤a1
   ·rw [if_pos hl] at hm
    obtain ⟨rfl,rfl⟩ :=Prod.mk.inj (Option.some.inj hm)
    exact callsIn_wide.1 (Nx.next_late a0_0 a0_1 a0_2 a0_3 a0_4 a0_5 a0_6 a0_7 a0_8 a0_9 A a1 hl w)
   ·rw [if_neg hl] at hm
    have k:=Nx.next_good a0_0 a0_1 a0_2 a0_3 a0_4 a0_5 a0_6 a0_7 a0_8 a0_9 hok A (fun t=>(next_soon.f a0_0 a0_1 a0_2 a0_3 a0_4 a0_5 a0_6 a0_7 a0_8 a0_9 t).getD (0,false)) (fun t=>by
     obtain ⟨-,h1,-⟩ :=of_decide_eq_true hok
     obtain ⟨r,hr⟩ :=Nx.soon_tot a0_0 a0_1 a0_2 a0_3 a0_4 a0_5 a0_6 a0_7 a0_8 a0_9 h1 t
     rw [hr]; rfl) a1 (by omega) w hT
    rw [Option.some.inj hm] at k
    exact callsIn_wide.1 k
 ·rw [if_neg hok] at hh
  cases hh
def rearm_plan_matched.f (a0_0:Int)(a0_1:Int)(a0_2:Int)(a0_3:Int)(a0_4:Bool)(a0_5:Int)(a0_6:Bool)(a0_7:Int)(a0_8:Bool)(a0_9:Int)(a0_10:Bool)(a0_11:Int)(a0_12:Bool)(a1:Int)(a2:Int):Option (Int × Int):=(rearm_Minute.f a1).bind fun bt142=>(if bt142.2=true then ((next_Next.f a0_3 a0_4 a0_5 a0_6 a0_7 a0_8 a0_9 a0_10 a0_11 a0_12 bt142.1).bind fun bt144=>(some (IntKind.u64.wrap ((IntKind.u64.wrap (bt144.1))*60),bt144.2))) else (some (0,11)))
set_option maxHeartbeats 8000000 in
set_option maxRecDepth 100000 in
theorem rearm_plan_matched.calls (a0_0:Int)(a0_1:Int)(a0_2:Int)(a0_3:Int)(a0_4:Bool)(a0_5:Int)(a0_6:Bool)(a0_7:Int)(a0_8:Bool)(a0_9:Int)(a0_10:Bool)(a0_11:Int)(a0_12:Bool)(a1:Int)(a2:Int)(r1:Int)(r2:Int)(w:World)(hT:Tab w)(h:rearm_plan_matched.f a0_0 a0_1 a0_2 a0_3 a0_4 a0_5 a0_6 a0_7 a0_8 a0_9 a0_10 a0_11 a0_12 a1 a2=some (r1,r2)) :
  Calls Tryd.prog 22 #[.agg #[.int .i64 a0_0,.int .u64 a0_1,.int .i64 a0_2,.int .u64 a0_3,.bool a0_4,.int .u64 a0_5,.bool a0_6,.int .u64 a0_7,.bool a0_8,.int .u64 a0_9,.bool a0_10,.int .u64 a0_11,.bool a0_12],.int .u64 a1,.int .u64 a2] w fun e w'=>e=.returned (.tuple #[.int .u64 r1,.int .i64 r2])∧Below w.heap.size w w':=by
 have hu50:=Tryd.underlying50
 have hu26:=Tryd.underlying26
 have HB:=Aside0.mk (Below.refl w.heap.size w)
 have H:((rearm_Minute.f a1).bind fun bt142=>(if bt142.2=true then ((next_Next.f a0_3 a0_4 a0_5 a0_6 a0_7 a0_8 a0_9 a0_10 a0_11 a0_12 bt142.1).bind fun bt144=>(some (IntKind.u64.wrap ((IntKind.u64.wrap (bt144.1))*60),bt144.2))) else (some (0,11))))=some (r1,r2):=h
 clear h
 replace H:=Option.bind_eq_some_iff.mp H
 obtain ⟨⟨t142,t143⟩,A40,H⟩ :=H
 replace H:(if t143=true then ((next_Next.f a0_3 a0_4 a0_5 a0_6 a0_7 a0_8 a0_9 a0_10 a0_11 a0_12 t142).bind fun bt144=>(some (IntKind.u64.wrap ((IntKind.u64.wrap (bt144.1))*60),bt144.2))) else (some (0,11)))=some (r1,r2):=H
 have A4:=Aside0.mk A40
 clear A40
 by_cases c5:t143=true
 ·subst c5
  have H1:((next_Next.f a0_3 a0_4 a0_5 a0_6 a0_7 a0_8 a0_9 a0_10 a0_11 a0_12 t142).bind fun bt144=>(some (IntKind.u64.wrap ((IntKind.u64.wrap (bt144.1))*60),bt144.2)))=some (r1,r2):=by rw [if_pos rfl] at H; exact H
  clear H
  have H:=H1
  clear H1
  replace H:=Option.bind_eq_some_iff.mp H
  obtain ⟨⟨t144,t145⟩,A60,H⟩ :=H
  replace H:(some (IntKind.u64.wrap ((IntKind.u64.wrap (t144))*60),t145))=some (r1,r2):=H
  have A6:=Aside0.mk A60
  clear A60
  simp only [Option.some.injEq,Prod.mk.injEq] at H
  obtain ⟨rfl,rfl⟩ :=H
  go_enter Tryd.func22,Tryd.ntmps22
  go_wp2_with (first | ((with_reducible refine gate_dst (N:=3) rfl ?_); refine box_event ?hg (N:=3) ?hd (cs:=#[.int .i64 a0_0,.int .u64 a0_1,.int .i64 a0_2,.int .u64 a0_3,.bool a0_4,.int .u64 a0_5,.bool a0_6,.int .u64 a0_7,.bool a0_8,.int .u64 a0_9,.bool a0_10,.int .u64 a0_11,.bool a0_12]) (t:=50) ?hr ?_; (case hd=>rfl); (case hg=>rfl); (case hr=>first | (go_simp; done) | (go_simp; rfl)); intro gb141 hg w7 hbox hb; have n0_:=Aside0.mk (below_step (by repeat (first | (with_reducible first | exact HB.out | apply below_alloc | apply pw_below_drewN | apply below_drew1) | exact HB.out)) hb); have n1_:=Aside0.mk (hbox); have n2_:=Aside0.mk ((by rw [hg]; exact (below_size (by repeat (first | (with_reducible first | exact HB.out | apply below_alloc | apply pw_below_drewN | apply below_drew1) | exact HB.out))):w.heap.size≤gb141)); have n3_:=Aside0.mk ((by rw [hg]; exact (below_size (by repeat (first | (with_reducible first | exact HB.out | apply below_alloc | apply pw_below_drewN | apply below_drew1) | exact HB.out))):w.heap.size≤gb141)); clear HB; have HB:=n0_; have BK141:=n1_; have GW141:=n2_; have GE141:=n3_; clear n0_ n1_ n2_ n3_; clear hb hbox hg) | ((with_reducible refine gate_callee (f:=12) rfl ?_); refine goesL_ (some 14) rfl rfl Tryd.func12 (by kernel_rfl) rfl #[.int .u64 a1] rfl (by (try simp only [List.map_toArray,List.map_cons,List.map_nil]); first | done | rfl | (simp only [List.length_drop,List.length_take]; rfl)) ?_; (with_reducible refine (rearm_Minute.calls a1 t142 true _ A4.out).mono ?_); rintro e w' ⟨rfl,⟨nd,rfl⟩⟩; refine ⟨_,rfl,?_⟩; have hcz8_0:w7.cell? ⟨gb141,0,none⟩=some (.int .i64 a0_0):=(blk_cell BK141.out 0).trans rfl; have hcz8_1:w7.cell? ⟨gb141,1,none⟩=some (.int .u64 a0_1):=(blk_cell BK141.out 1).trans rfl; have hcz8_2:w7.cell? ⟨gb141,2,none⟩=some (.int .i64 a0_2):=(blk_cell BK141.out 2).trans rfl; have hcz8_3:w7.cell? ⟨gb141,3,none⟩=some (.int .u64 a0_3):=(blk_cell BK141.out 3).trans rfl; have hcz8_4:w7.cell? ⟨gb141,4,none⟩=some (.bool a0_4):=(blk_cell BK141.out 4).trans rfl; have hcz8_5:w7.cell? ⟨gb141,5,none⟩=some (.int .u64 a0_5):=(blk_cell BK141.out 5).trans rfl; have hcz8_6:w7.cell? ⟨gb141,6,none⟩=some (.bool a0_6):=(blk_cell BK141.out 6).trans rfl; have hcz8_7:w7.cell? ⟨gb141,7,none⟩=some (.int .u64 a0_7):=(blk_cell BK141.out 7).trans rfl; have hcz8_8:w7.cell? ⟨gb141,8,none⟩=some (.bool a0_8):=(blk_cell BK141.out 8).trans rfl; have hcz8_9:w7.cell? ⟨gb141,9,none⟩=some (.int .u64 a0_9):=(blk_cell BK141.out 9).trans rfl; have hcz8_10:w7.cell? ⟨gb141,10,none⟩=some (.bool a0_10):=(blk_cell BK141.out 10).trans rfl; have hcz8_11:w7.cell? ⟨gb141,11,none⟩=some (.int .u64 a0_11):=(blk_cell BK141.out 11).trans rfl; have hcz8_12:w7.cell? ⟨gb141,12,none⟩=some (.bool a0_12):=(blk_cell BK141.out 12).trans rfl; have hfz8_0:=blk_frozen BK141.out 0; have hfz8_1:=blk_frozen BK141.out 1; have hfz8_2:=blk_frozen BK141.out 2; have hfz8_3:=blk_frozen BK141.out 3; have hfz8_4:=blk_frozen BK141.out 4; have hfz8_5:=blk_frozen BK141.out 5; have hfz8_6:=blk_frozen BK141.out 6; have hfz8_7:=blk_frozen BK141.out 7; have hfz8_8:=blk_frozen BK141.out 8; have hfz8_9:=blk_frozen BK141.out 9; have hfz8_10:=blk_frozen BK141.out 10; have hfz8_11:=blk_frozen BK141.out 11; have hfz8_12:=blk_frozen BK141.out 12) | ((with_reducible refine gate_callee (f:=47) rfl ?_); refine goesL_ (some 23) rfl rfl Tryd.func47 (by kernel_rfl) rfl #[.agg #[.int .u64 a0_3,.bool a0_4,.int .u64 a0_5,.bool a0_6,.int .u64 a0_7,.bool a0_8,.int .u64 a0_9,.bool a0_10,.int .u64 a0_11,.bool a0_12],.int .i64 t142] rfl (by (try simp only [List.map_toArray,List.map_cons,List.map_nil]); first | done | rfl | (simp only [List.length_drop,List.length_take]; rfl)) ?_; (with_reducible refine (next_Next.calls a0_3 a0_4 a0_5 a0_6 a0_7 a0_8 a0_9 a0_10 a0_11 a0_12 t142 t144 t145 _ (hT.keep (by repeat (first | (with_reducible first | exact HB.out | apply below_alloc | apply pw_below_drewN | apply below_drew1 | refine below_set ?_ GE141.out) | exact HB.out))) A6.out).mono ?_); rintro e w9 ⟨rfl,hb⟩; refine ⟨_,rfl,?_⟩; have n0_:=Aside0.mk (blk_below (g:=gb141) (o:=.cells #[.int .i64 a0_0,.int .u64 a0_1,.int .i64 a0_2,.int .u64 a0_3,.bool a0_4,.int .u64 a0_5,.bool a0_6,.int .u64 a0_7,.bool a0_8,.int .u64 a0_9,.bool a0_10,.int .u64 a0_11,.bool a0_12] 50 (0,0)) (by (with_reducible repeat (first | refine blk_drewN ?_ _ | refine blk_drew ?_ | refine blk_alloc ?_ _)); exact BK141.out) hb); have n1_:=Aside0.mk (below_step (by repeat (first | (with_reducible first | exact HB.out | apply below_alloc | apply pw_below_drewN | apply below_drew1 | refine below_set ?_ GE141.out) | exact HB.out)) hb); clear BK141; clear HB; have BK141:=n0_; have HB:=n1_; clear n0_ n1_; (try clear hb); (try clear hb2); (try clear hk); (try clear hi)))
  go_ret2
  exact ⟨by first | rfl | (simp [errW_none,errW_some] <;> rfl) | (simp [*,errW_none,errW_some] <;> rfl),by repeat (first | (with_reducible first | exact HB.out | apply below_alloc | apply pw_below_drewN | apply below_drew1 | refine below_set ?_ GE141.out) | exact HB.out)⟩
 ·replace c5:=Bool.eq_false_iff.mpr c5
  subst c5
  have H1:(some (0,11))=some (r1,r2):=by rw [if_neg (show ¬ (false=true) by decide)] at H; exact H
  clear H
  have H:=H1
  clear H1
  simp only [Option.some.injEq,Prod.mk.injEq] at H
  obtain ⟨rfl,rfl⟩ :=H
  go_enter Tryd.func22,Tryd.ntmps22
  go_wp2_with (first | ((with_reducible refine gate_dst (N:=3) rfl ?_); refine box_event ?hg (N:=3) ?hd (cs:=#[.int .i64 a0_0,.int .u64 a0_1,.int .i64 a0_2,.int .u64 a0_3,.bool a0_4,.int .u64 a0_5,.bool a0_6,.int .u64 a0_7,.bool a0_8,.int .u64 a0_9,.bool a0_10,.int .u64 a0_11,.bool a0_12]) (t:=50) ?hr ?_; (case hd=>rfl); (case hg=>rfl); (case hr=>first | (go_simp; done) | (go_simp; rfl)); intro gb141 hg w10 hbox hb; have n0_:=Aside0.mk (below_step (by repeat (first | (with_reducible first | exact HB.out | apply below_alloc | apply pw_below_drewN | apply below_drew1) | exact HB.out)) hb); have n1_:=Aside0.mk (hbox); have n2_:=Aside0.mk ((by rw [hg]; exact (below_size (by repeat (first | (with_reducible first | exact HB.out | apply below_alloc | apply pw_below_drewN | apply below_drew1) | exact HB.out))):w.heap.size≤gb141)); have n3_:=Aside0.mk ((by rw [hg]; exact (below_size (by repeat (first | (with_reducible first | exact HB.out | apply below_alloc | apply pw_below_drewN | apply below_drew1) | exact HB.out))):w.heap.size≤gb141)); clear HB; have HB:=n0_; have BK141:=n1_; have GW141:=n2_; have GE141:=n3_; clear n0_ n1_ n2_ n3_; clear hb hbox hg) | ((with_reducible refine gate_callee (f:=12) rfl ?_); refine goesL_ (some 14) rfl rfl Tryd.func12 (by kernel_rfl) rfl #[.int .u64 a1] rfl (by (try simp only [List.map_toArray,List.map_cons,List.map_nil]); first | done | rfl | (simp only [List.length_drop,List.length_take]; rfl)) ?_; (with_reducible refine (rearm_Minute.calls a1 t142 false _ A4.out).mono ?_); rintro e w' ⟨rfl,⟨nd,rfl⟩⟩; refine ⟨_,rfl,?_⟩))
  go_ret2
  exact ⟨by first | rfl | (simp [errW_none,errW_some] <;> rfl) | (simp [*,errW_none,errW_some] <;> rfl),by repeat (first | (with_reducible first | exact HB.out | apply below_alloc | apply pw_below_drewN | apply below_drew1 | refine below_set ?_ GE141.out) | exact HB.out)⟩
end Go.Proofs.YtepflnfnkfkldaaDoor.PRea
