-- Written by a program of this session (gprint.py) over the kit's print.
import Derived.Test.YtabhfcoljgcpeaaGreatDoorPNexx0
import Derived.Test.YtabhfcoljgcpeaaGreatDoorPNexx1
import Derived.Test.YtabhfcoljgcpeaaGreatDoorPNexx2
namespace Go.Proofs.YtabhfcoljgcpeaaGreatDoor.PNex
open Go.RowKit Go.Proofs.YtabhfcoljgcpeaaGreatDoorW.PrintWords Go.Proofs.YtabhfcoljgcpeaaGreatDoorW.PrintLast Go.Proofs.YtabhfcoljgcpeaaGreatDoorW.PrintMore
attribute [local go_sem] max2_int min2_int max_two min_two max_three min_three max_four min_four
set_option linter.unusedVariables false
set_option linter.unusedSimpArgs false
/-! This session's own: what the walks want of the package variables. -/
/-- What start-up lays in the package variables that are read: the table of math/bits, the handle of the type 'error', some number in MaxLen. -/
def Tab (w:World):Prop:=
 ((∀ i:Nat,i < 64→w.cell? ⟨0,i,none⟩=some (.int .u8 ([0,1,56,2,57,49,28,3,61,58,42,50,38,29,17,4,62,47,59,36,45,43,51,22,53,39,33,30,24,18,12,5,63,55,48,27,60,41,37,16,46,35,44,21,52,32,23,11,54,26,40,15,34,20,31,10,25,14,19,9,13,8,7,6].getD i 0))))∧
 w.cell? ⟨1,0,none⟩=some (.iface 159 (.agg #[.pointer (some ⟨5,110,none⟩)]))∧
 ∃ m,w.cell? ⟨2,0,none⟩=some (.int .i64 m)
theorem Tab.keep {w W:World}(h:Tab w)(hb:Below w.heap.size w W):Tab W:=by
 obtain ⟨h1,h2,m,h3⟩ :=h
 have k:∀ (a:Addr) (v:Value),w.cell? a=some v→W.cell? a=some v:=fun a v ha=>(hb.cell (World.block_lt_of_cell? _ _ ha)).trans ha
 exact ⟨fun i hi=>k _ _ (h1 i hi),k _ _ h2,m,k _ _ h3⟩
/-! This session's own: bits.TrailingZeros64. -/
def Fld.ntzN:Nat→Nat→Nat
 | 0,_=>0
 | f+1,x=>if x % 2=1 then 0 else 1+Fld.ntzN f (x / 2)
def Fld.ntz (x:Int):Int:=(Fld.ntzN 64 x.toNat:Nat)
def Fld.dbTab:List Int:=[0,1,56,2,57,49,28,3,61,58,42,50,38,29,17,4,62,47,59,36,45,43,51,22,53,39,33,30,24,18,12,5,63,55,48,27,60,41,37,16,46,35,44,21,52,32,23,11,54,26,40,15,34,20,31,10,25,14,19,9,13,8,7,6]
theorem Fld.and_split (a b r s:Nat)(hr:r < 2)(hs:s < 2):(2*a+r) &&& (2*b+s)=2*(a &&& b)+(r &&& s):=by
 apply Nat.eq_of_testBit_eq
 intro i
 rw [Nat.testBit_and]
 cases i with
 | zero=>
  simp only [Nat.testBit_zero]
  have hr':r=0∨r=1:=by omega
  have hs':s=0∨s=1:=by omega
  rcases hr' with rfl | rfl <;> rcases hs' with rfl | rfl <;> simp <;> omega
 | succ i=>
  simp only [Nat.testBit_succ]
  rw [show (2*a+r) / 2=a by omega,show (2*b+s) / 2=b by omega,← Nat.testBit_and]
  congr 1
  have:r &&& s < 2:=by
   have hr':r=0∨r=1:=by omega
   have hs':s=0∨s=1:=by omega
   rcases hr' with rfl | rfl <;> rcases hs' with rfl | rfl <;> decide
  omega
theorem Fld.and_compl:∀ (n y:Nat),y < 2 ^ n→y &&& (2 ^ n - 1 - y)=0
 | 0,y,h=>by
  have:y=0:=by simpa using h
  subst this; rfl
 | n+1,y,h=>by
  have e:2 ^ (n+1)=2*2 ^ n:=by rw [Nat.pow_succ]; omega
  have hp:0 < 2 ^ n:=Nat.two_pow_pos n
  have e1:y=2*(y / 2)+y % 2:=by omega
  have e2:2 ^ (n+1) - 1 - y=2*(2 ^ n - 1 - y / 2)+(1 - y % 2):=by omega
  rw [e2]
  conv=>lhs; lhs; rw [e1]
  rw [Fld.and_split _ _ _ _ (by omega) (by omega),Fld.and_compl n (y / 2) (by omega)]
  have:y % 2=0∨y % 2=1:=by omega
  rcases this with h | h <;> rw [h] <;> rfl
theorem Fld.low_bit:∀ (n x:Nat),x≠0→x < 2 ^ n→x &&& (2 ^ n - x)=2 ^ Fld.ntzN n x∧Fld.ntzN n x < n
 | 0,x,h0,h=>by
  have:x=0:=by simpa using h
  exact absurd this h0
 | n+1,x,h0,h=>by
  have e:2 ^ (n+1)=2*2 ^ n:=by rw [Nat.pow_succ]; omega
  have e1:x=2*(x / 2)+x % 2:=by omega
  by_cases hx:x % 2=1
  ·have e2:2 ^ (n+1) - x=2*(2 ^ n - 1 - x / 2)+1:=by omega
   have e3:Fld.ntzN (n+1) x=0:=by simp [Fld.ntzN,hx]
   rw [e2,e3]
   conv=>lhs; lhs; lhs; rw [e1]
   rw [hx,Fld.and_split _ _ _ _ (by omega) (by omega),Fld.and_compl n (x / 2) (by omega)]
   exact ⟨rfl,by omega⟩
  ·have e2:2 ^ (n+1) - x=2*(2 ^ n - x / 2)+0:=by omega
   have e3:Fld.ntzN (n+1) x=1+Fld.ntzN n (x / 2):=by simp [Fld.ntzN,hx]
   obtain ⟨h1,h2⟩ :=Fld.low_bit n (x / 2) (by omega) (by omega)
   rw [e2,e3]
   conv=>lhs; lhs; lhs; rw [e1]
   rw [show x % 2=0 by omega,Fld.and_split _ _ _ _ (by omega) (by omega),h1]
   exact ⟨by rw [Nat.add_comm 1,Nat.pow_succ]; simp; omega,by omega⟩
theorem Fld.db_idx:∀ k:Fin 64,(2 ^ k.val*285870213051353865 % 18446744073709551616) / 288230376151711744 < 64∧Fld.dbTab.getD ((2 ^ k.val*285870213051353865 % 18446744073709551616) / 288230376151711744) 0=(k.val:Int):=by decide +kernel
theorem Fld.low_int (x:Int)(h0:0≤x)(h1:x < 18446744073709551616)(hx:x≠0):Go.bits .and .u64 x (IntKind.u64.wrap (-x))=((2 ^ Fld.ntzN 64 x.toNat:Nat):Int)∧Fld.ntzN 64 x.toNat < 64:=by
 obtain ⟨n,rfl⟩ :=Int.eq_ofNat_of_zero_le h0
 have hn:n < 2 ^ 64:=by omega
 have hn0:n≠0:=by omega
 have hw:IntKind.u64.wrap (-(n:Int))=((2 ^ 64 - n:Nat):Int):=by
  have e:IntKind.u64.wrap (-(n:Int))=(-(n:Int)) % 18446744073709551616:=by simp [IntKind.wrap,IntKind.bits,IntKind.signed]
  rw [e]; omega
 obtain ⟨q1,q2⟩ :=Fld.low_bit 64 n hn0 hn
 rw [hw,(bits_nat .u64 64 (by decide) (fun z h0 h1=>IntWalk.u64_in z ⟨h0,by omega⟩) n _ hn (by omega)).1,Int.toNat_natCast,q1]
 exact ⟨rfl,q2⟩
set_option maxHeartbeats 4000000 in
theorem Fld.ntz_calls (x:Int)(h0:0≤x)(h1:x < 18446744073709551616)(w:World)(hT:Tab w) :
  Calls Tryz.prog 92 #[.int .u64 x] w fun e w'=>e=.returned (.int .i64 (Fld.ntz x))∧Drawn0 w w':=by
 by_cases hx:x=0
 ·subst hx
  have hv:Hid (Fld.ntz 0=64):=Lib.hid (by decide)
  go_enter Tryz.func92,Tryz.ntmps92
  go_wp2
  go_ret
  exact ⟨congrArg (fun z=>Ending.returned (.int .i64 z)) hv.out.symm,Drawn0.refl _⟩
 ·obtain ⟨q1,q2⟩ :=Fld.low_int x h0 h1 hx
  have e5:(x == 0)=false:=by simpa using hx
  have hv:Hid (Fld.ntz x=(Fld.ntzN 64 x.toNat:Int)):=Lib.hid rfl
  obtain ⟨k,hk⟩:∃ k,Fld.ntzN 64 x.toNat=k:=⟨_,rfl⟩
  rw [hk] at q1 q2 hv
  obtain ⟨d1,d2⟩ :=Fld.db_idx ⟨k,q2⟩
  dsimp only at d1 d2
  have hc:=hT.1 _ d1
  rw [show ([0,1,56,2,57,49,28,3,61,58,42,50,38,29,17,4,62,47,59,36,45,43,51,22,53,39,33,30,24,18,12,5,63,55,48,27,60,41,37,16,46,35,44,21,52,32,23,11,54,26,40,15,34,20,31,10,25,14,19,9,13,8,7,6]:List Int)=Fld.dbTab from rfl,d2] at hc
  have hm:IntKind.u64.wrap (((2 ^ k:Nat):Int)*285870213051353865)=((2 ^ k*285870213051353865 % 18446744073709551616:Nat):Int):=by
   have e:∀ z:Int,IntKind.u64.wrap z=z % 18446744073709551616:=fun z=>by simp [IntKind.wrap,IntKind.bits,IntKind.signed]
   rw [e]; omega
  obtain ⟨P,hP⟩:∃ P:Nat,2 ^ k=P:=⟨_,rfl⟩
  rw [hP] at q1 hm d1 hc
  obtain ⟨M,hM⟩:∃ M:Nat,P*285870213051353865 % 18446744073709551616=M:=⟨_,rfl⟩
  have hMb:M < 18446744073709551616:=by omega
  rw [hM] at hm d1 hc
  obtain ⟨I,hI⟩:∃ I:Nat,M / 288230376151711744=I:=⟨_,rfl⟩
  have hdiv:(M:Int) / 288230376151711744=(I:Int):=by omega
  rw [hI] at d1 hc
  replace hx:=Lib.hid hx; replace hP:=Lib.hid hP; replace hM:=Lib.hid hM; replace hI:=Lib.hid hI; replace hk:=Lib.hid hk; replace d2:=Lib.hid d2
  clear hT
  go_enter Tryz.func92,Tryz.ntmps92
  go_wp2
  go_ret
  exact ⟨congrArg (fun z=>Ending.returned (.int .i64 z)) hv.out.symm,Drawn0.refl _⟩
def bits_TrailingZeros64.f (a0:Int):Option (Int):=if 0≤a0∧a0 < 18446744073709551616 then some (Fld.ntz a0) else none
set_option maxHeartbeats 8000000 in
set_option maxRecDepth 100000 in
theorem bits_TrailingZeros64.calls (a0:Int)(r:Int)(w:World)(hT:Tab w)(h:bits_TrailingZeros64.f a0=some r) :
  Calls Tryz.prog 92 #[.int .u64 a0] w fun e w'=>e=.returned (.int .i64 r)∧Drawn0 w w':=by
 have HB:=Aside0.mk (Below.refl w.heap.size w)
 unfold bits_TrailingZeros64.f at h
 split at h
 ·rename_i hb
  obtain rfl:=Option.some.inj h
  exact Fld.ntz_calls a0 hb.1 hb.2 w hT
 ·cases h
def field_First.f (a0_0:Int)(a0_1:Bool)(a1:Int):Option (Int × Bool):=if (mx a1 0) > 63 then (some (0,false)) else (if 0≤(IntKind.u64.wrap (mx a1 0)) then (if (shl .u64 (shr .u64 a0_0 (IntKind.u64.wrap (mx a1 0))) (IntKind.u64.wrap (mx a1 0)))=0 then (some (0,false)) else ((bits_TrailingZeros64.f (shl .u64 (shr .u64 a0_0 (IntKind.u64.wrap (mx a1 0))) (IntKind.u64.wrap (mx a1 0)))).bind fun t125=>(some (t125,true)))) else (none))
set_option maxHeartbeats 8000000 in
set_option maxRecDepth 100000 in
theorem field_First.calls (a0_0:Int)(a0_1:Bool)(a1:Int)(r1:Int)(r2:Bool)(w:World)(hT:Tab w)(h:field_First.f a0_0 a0_1 a1=some (r1,r2)) :
  Calls Tryz.prog 52 #[.agg #[.int .u64 a0_0,.bool a0_1],.int .i64 a1] w fun e w'=>e=.returned (.tuple #[.int .i64 r1,.bool r2])∧Below w.heap.size w w':=by
 have hu24:=Tryz.underlying24
 have HB:=Aside0.mk (Below.refl w.heap.size w)
 have H:(if (mx a1 0) > 63 then (some (0,false)) else (if 0≤(IntKind.u64.wrap (mx a1 0)) then (if (shl .u64 (shr .u64 a0_0 (IntKind.u64.wrap (mx a1 0))) (IntKind.u64.wrap (mx a1 0)))=0 then (some (0,false)) else ((bits_TrailingZeros64.f (shl .u64 (shr .u64 a0_0 (IntKind.u64.wrap (mx a1 0))) (IntKind.u64.wrap (mx a1 0)))).bind fun t125=>(some (t125,true)))) else (none)))=some (r1,r2):=h
 clear h
 obtain ⟨ji3,hji3⟩:∃ j_:Int,(mx a1 0)=j_:=⟨_,rfl⟩
 replace H:(if (ji3) > 63 then (some (0,false)) else (if 0≤(IntKind.u64.wrap (ji3)) then (if (shl .u64 (shr .u64 a0_0 (IntKind.u64.wrap (ji3))) (IntKind.u64.wrap (ji3)))=0 then (some (0,false)) else ((bits_TrailingZeros64.f (shl .u64 (shr .u64 a0_0 (IntKind.u64.wrap (ji3))) (IntKind.u64.wrap (ji3)))).bind fun t125=>(some (t125,true)))) else (none)))=some (r1,r2):=by first | (rw [hji3] at H; exact H) | (simp only [hji3] at H ⊢; exact H)
 (try (have hji3l:0≤ji3:=by (rw [← hji3]; unfold mx; (repeat' split) <;> omega)))
 (try (have hji3m:0≤ji3:=by omega))
 have hji3_:(if a1 < 0 then 0 else a1)=ji3:=hji3
 by_cases c4:(ji3) > 63
 ·rw [if_pos c4] at H
  have c4b0:decide (63 < (ji3))=true:=decide_eq_true c4
  clear c4
  simp only [Option.some.injEq,Prod.mk.injEq] at H
  obtain ⟨rfl,rfl⟩ :=H
  go_enter Tryz.func52,Tryz.ntmps52
  go_wp2_with (first | ((with_reducible refine gate_dst (N:=2) rfl ?_); refine box_event ?hg (N:=2) ?hd (cs:=#[.int .u64 a0_0,.bool a0_1]) (t:=24) ?hr ?_; (case hd=>rfl); (case hg=>rfl); (case hr=>first | (go_simp; done) | (go_simp; rfl)); intro gb124 hg w5 hbox hb; have n0_:=Aside0.mk (below_step (by repeat (first | (with_reducible first | exact HB.out | apply below_alloc | apply pw_below_drewN | apply below_drew1) | exact HB.out)) hb); have n1_:=Aside0.mk (hbox); have n2_:=Aside0.mk ((by rw [hg]; exact (below_size (by repeat (first | (with_reducible first | exact HB.out | apply below_alloc | apply pw_below_drewN | apply below_drew1) | exact HB.out))):w.heap.size≤gb124)); have n3_:=Aside0.mk ((by rw [hg]; exact (below_size (by repeat (first | (with_reducible first | exact HB.out | apply below_alloc | apply pw_below_drewN | apply below_drew1) | exact HB.out))):w.heap.size≤gb124)); clear HB; have HB:=n0_; have BK124:=n1_; have GW124:=n2_; have GE124:=n3_; clear n0_ n1_ n2_ n3_; clear hb hbox hg))
  go_ret2
  exact ⟨by first | rfl | (simp [errW_none,errW_some] <;> rfl) | (simp only [← hji3]; first | rfl | (simp [errW_none,errW_some] <;> rfl)) | (simp [*,errW_none,errW_some] <;> rfl),by repeat (first | (with_reducible first | exact HB.out | apply below_alloc | apply pw_below_drewN | apply below_drew1 | refine below_set ?_ GE124.out) | exact HB.out)⟩
 ·rw [if_neg c4] at H
  have c4b0:decide (63 < (ji3))=false:=decide_eq_false c4
  clear c4
  obtain ⟨ji6,hji6⟩:∃ j_:Int,(IntKind.u64.wrap (ji3))=j_:=⟨_,rfl⟩
  replace H:(if 0≤(ji6) then (if (shl .u64 (shr .u64 a0_0 (ji6)) (ji6))=0 then (some (0,false)) else ((bits_TrailingZeros64.f (shl .u64 (shr .u64 a0_0 (ji6)) (ji6))).bind fun t125=>(some (t125,true)))) else (none))=some (r1,r2):=by first | (rw [hji6] at H; exact H) | (simp only [hji6] at H ⊢; exact H)
  by_cases c7:0≤(ji6)
  ·rw [if_pos c7] at H
   have c7b0:=eq_true c7
   have c7b1:decide (0≤(ji6))=true:=decide_eq_true c7
   clear c7
   obtain ⟨ji8,hji8⟩:∃ j_:Int,(shr .u64 a0_0 (ji6))=j_:=⟨_,rfl⟩
   replace H:(if (shl .u64 (ji8) (ji6))=0 then (some (0,false)) else ((bits_TrailingZeros64.f (shl .u64 (ji8) (ji6))).bind fun t125=>(some (t125,true))))=some (r1,r2):=by first | (rw [hji8] at H; exact H) | (simp only [hji8] at H ⊢; exact H)
   have hji8_:(a0_0 / 2 ^ min (ji6).toNat 64)=ji8:=hji8
   have hji8z:(ji6)≤64→(a0_0 / 2 ^ (ji6).toNat)=ji8:=shr_small hji8
   have c9b0:=eq_true (of_decide_eq_true (by first | (with_reducible assumption) | assumption):0≤(ji6))
   obtain ⟨ji10,hji10⟩:∃ j_:Int,(shl .u64 (ji8) (ji6))=j_:=⟨_,rfl⟩
   replace H:(if (ji10)=0 then (some (0,false)) else ((bits_TrailingZeros64.f (ji10)).bind fun t125=>(some (t125,true))))=some (r1,r2):=by first | (rw [hji10] at H; exact H) | (simp only [hji10] at H ⊢; exact H)
   have hji10_:(IntKind.u64.wrap ((ji8)*2 ^ min (ji6).toNat 64))=ji10:=hji10
   have hji10z:(ji6)≤64→(IntKind.u64.wrap ((ji8)*2 ^ (ji6).toNat))=ji10:=shl_small hji10
   by_cases c11:(ji10)=0
   ·rw [if_pos c11] at H
    have c11b0:((ji10) == 0)=true:=beq_iff_eq.mpr c11
    have c11b1:((ji10) != 0)=false:=bne_eq_false_iff_eq.mpr c11
    clear c11
    simp only [Option.some.injEq,Prod.mk.injEq] at H
    obtain ⟨rfl,rfl⟩ :=H
    go_enter Tryz.func52,Tryz.ntmps52
    go_wp2_with (first | ((with_reducible refine gate_dst (N:=2) rfl ?_); refine box_event ?hg (N:=2) ?hd (cs:=#[.int .u64 a0_0,.bool a0_1]) (t:=24) ?hr ?_; (case hd=>rfl); (case hg=>rfl); (case hr=>first | (go_simp; done) | (go_simp; rfl)); intro gb124 hg w12 hbox hb; have n0_:=Aside0.mk (below_step (by repeat (first | (with_reducible first | exact HB.out | apply below_alloc | apply pw_below_drewN | apply below_drew1) | exact HB.out)) hb); have n1_:=Aside0.mk (hbox); have n2_:=Aside0.mk ((by rw [hg]; exact (below_size (by repeat (first | (with_reducible first | exact HB.out | apply below_alloc | apply pw_below_drewN | apply below_drew1) | exact HB.out))):w.heap.size≤gb124)); have n3_:=Aside0.mk ((by rw [hg]; exact (below_size (by repeat (first | (with_reducible first | exact HB.out | apply below_alloc | apply pw_below_drewN | apply below_drew1) | exact HB.out))):w.heap.size≤gb124)); clear HB; have HB:=n0_; have BK124:=n1_; have GW124:=n2_; have GE124:=n3_; clear n0_ n1_ n2_ n3_; clear hb hbox hg; have hcz13_0:w12.cell? ⟨gb124,0,none⟩=some (.int .u64 a0_0):=(blk_cell BK124.out 0).trans rfl; have hcz13_1:w12.cell? ⟨gb124,1,none⟩=some (.bool a0_1):=(blk_cell BK124.out 1).trans rfl; have hfz13_0:=blk_frozen BK124.out 0; have hfz13_1:=blk_frozen BK124.out 1))
    go_ret2
    exact ⟨by first | rfl | (simp [errW_none,errW_some] <;> rfl) | (simp only [← hji3,← hji6,← hji8,← hji10]; first | rfl | (simp [errW_none,errW_some] <;> rfl)) | (simp [*,errW_none,errW_some] <;> rfl),by repeat (first | (with_reducible first | exact HB.out | apply below_alloc | apply pw_below_drewN | apply below_drew1 | refine below_set ?_ GE124.out) | exact HB.out)⟩
   ·rw [if_neg c11] at H
    have c11b0:((ji10) == 0)=false:=beq_eq_false_iff_ne.mpr c11
    have c11b1:((ji10) != 0)=true:=bne_iff_ne.mpr c11
    replace H:=Option.bind_eq_some_iff.mp H
    obtain ⟨t125,A140,H⟩ :=H
    replace H:(some (t125,true))=some (r1,r2):=H
    have A14:=Aside0.mk A140
    clear A140
    simp only [Option.some.injEq,Prod.mk.injEq] at H
    obtain ⟨rfl,rfl⟩ :=H
    go_enter Tryz.func52,Tryz.ntmps52
    go_wp2_with (first | ((with_reducible refine gate_dst (N:=2) rfl ?_); refine box_event ?hg (N:=2) ?hd (cs:=#[.int .u64 a0_0,.bool a0_1]) (t:=24) ?hr ?_; (case hd=>rfl); (case hg=>rfl); (case hr=>first | (go_simp; done) | (go_simp; rfl)); intro gb124 hg w15 hbox hb; have n0_:=Aside0.mk (below_step (by repeat (first | (with_reducible first | exact HB.out | apply below_alloc | apply pw_below_drewN | apply below_drew1) | exact HB.out)) hb); have n1_:=Aside0.mk (hbox); have n2_:=Aside0.mk ((by rw [hg]; exact (below_size (by repeat (first | (with_reducible first | exact HB.out | apply below_alloc | apply pw_below_drewN | apply below_drew1) | exact HB.out))):w.heap.size≤gb124)); have n3_:=Aside0.mk ((by rw [hg]; exact (below_size (by repeat (first | (with_reducible first | exact HB.out | apply below_alloc | apply pw_below_drewN | apply below_drew1) | exact HB.out))):w.heap.size≤gb124)); clear HB; have HB:=n0_; have BK124:=n1_; have GW124:=n2_; have GE124:=n3_; clear n0_ n1_ n2_ n3_; clear hb hbox hg; have hcz16_0:w15.cell? ⟨gb124,0,none⟩=some (.int .u64 a0_0):=(blk_cell BK124.out 0).trans rfl; have hcz16_1:w15.cell? ⟨gb124,1,none⟩=some (.bool a0_1):=(blk_cell BK124.out 1).trans rfl; have hfz16_0:=blk_frozen BK124.out 0; have hfz16_1:=blk_frozen BK124.out 1) | ((with_reducible refine gate_callee (f:=92) rfl ?_); refine goesL_ (some 22) rfl rfl Tryz.func92 (by kernel_rfl) rfl #[.int .u64 ji10] rfl (by (try simp only [List.map_toArray,List.map_cons,List.map_nil]); first | done | (simp only [hji10]; rfl) | rfl | (simp only [List.length_drop,List.length_take]; rfl)) ?_; (with_reducible refine (bits_TrailingZeros64.calls ji10 t125 _ (hT.keep (by repeat (first | (with_reducible first | exact HB.out | apply below_alloc | apply pw_below_drewN | apply below_drew1 | refine below_set ?_ GE124.out) | exact HB.out))) A14.out).mono ?_); rintro e w' ⟨rfl,⟨nd,rfl⟩⟩; refine ⟨_,rfl,?_⟩))
    go_ret2
    exact ⟨by first | rfl | (simp [errW_none,errW_some] <;> rfl) | (simp only [← hji3,← hji6,← hji8,← hji10]; first | rfl | (simp [errW_none,errW_some] <;> rfl)) | (simp [*,errW_none,errW_some] <;> rfl),by repeat (first | (with_reducible first | exact HB.out | apply below_alloc | apply pw_below_drewN | apply below_drew1 | refine below_set ?_ GE124.out) | exact HB.out)⟩
  ·rw [if_neg c7] at H
   exact absurd H (by simp)
/-! This session's own: next.soon. -/
set_option maxHeartbeats 8000000 in
set_option maxRecDepth 100000 in
theorem Nx.soon1 (gx:Nat)(b0:Int)(s0:Bool)(b1:Int)(s1:Bool)(b2:Int)(s2:Bool)(b3:Int)(s3:Bool)(b4:Int)(s4:Bool)(h m:Int)(ok:Bool)(A:field_First.f b0 s0 0=some (m,ok))(W:World)(hT:Tab W)(hR:Spc.Row W gx b0 s0 b1 s1 b2 s2 b3 s3 b4 s4) :
  Calls Tryz.prog 51 #[.int .i64 h,.pointer (some ⟨gx,0,none⟩)] W fun e w'=>e=.returned (.tuple #[.int .i64 (wrap64 (wrap64 (h*60)+m)),.bool true])∧Below W.heap.size W w':=by
 replace A:=Lib.hid A
 obtain ⟨k0,k1,k2,k3,k4,k5,k6,k7,k8,k9⟩ :=hR.cells
 go_enter Tryz.func51,Tryz.ntmps51
 go_wp2_with (go_at_call 52; refine (field_First.calls _ _ _ _ _ _ hT A.out).mono ?_; rintro e w' ⟨rfl,hb⟩)
 go_ret2
 exact ⟨rfl,hb⟩
set_option maxHeartbeats 8000000 in
set_option maxRecDepth 100000 in
theorem Nx.soon_calls (b0:Int)(s0:Bool)(b1:Int)(s1:Bool)(b2:Int)(s2:Bool)(b3:Int)(s3:Bool)(b4:Int)(s4:Bool)(t m:Int)(ok:Bool)(A:field_First.f b0 s0 (Int.tmod t 60)=some (m,ok))(q:Bool)(B:(if ok=true then field_Has.f b1 s1 (wrap64 (Int.tdiv t 60)) else some false)=some q)
  (h:Int) (oh:Bool) (C:q=false→field_First.f b1 s1 (wrap64 (wrap64 (Int.tdiv t 60)+1))=some (h,oh)) (u:Int) (ou:Bool) (D:q=false→oh=true→field_First.f b0 s0 0=some (u,ou)) (W:World) (hT:Tab W) :
  Calls Tryz.prog 23 #[.agg #[.int .u64 b0,.bool s0,.int .u64 b1,.bool s1,.int .u64 b2,.bool s2,.int .u64 b3,.bool s3,.int .u64 b4,.bool s4],.int .i64 t] W fun e w'=>
   e=.returned (.tuple #[.int .i64 (if q=true then wrap64 (wrap64 (wrap64 (Int.tdiv t 60)*60)+m) else if oh=true then wrap64 (wrap64 (h*60)+u) else 0),.bool (q || oh)])∧Below W.heap.size W w':=by
 replace A:=Lib.hid A
 replace B:=Lib.hid B
 replace C:=Lib.hid C
 replace D:=Lib.hid D
 have HR:Aside0 (Spc.Row (W.alloc (.cells #[.int .u64 b0,.bool s0,.int .u64 b1,.bool s1,.int .u64 b2,.bool s2,.int .u64 b3,.bool s3,.int .u64 b4,.bool s4] 26)) W.heap.size b0 s0 b1 s1 b2 s2 b3 s3 b4 s4∧Below W.heap.size W (W.alloc (.cells #[.int .u64 b0,.bool s0,.int .u64 b1,.bool s1,.int .u64 b2,.bool s2,.int .u64 b3,.bool s3,.int .u64 b4,.bool s4] 26))):=⟨⟨blk_new W _,below_alloc (Below.refl _ _) _⟩⟩
 go_enter Tryz.func23,Tryz.ntmps23
 go_wp2_with fail
 generalize W.alloc (.cells #[.int .u64 b0,.bool s0,.int .u64 b1,.bool s1,.int .u64 b2,.bool s2,.int .u64 b3,.bool s3,.int .u64 b4,.bool s4] 26)=W1 at HR ⊢
 have HT1:=Aside0.mk (hT.keep HR.out.2)
 clear hT
 refine (field_First.calls _ _ _ _ _ _ HT1.out A.out).mono ?_
 rintro e W2 ⟨rfl,hb⟩
 have HR2:Aside0 (Spc.Row W2 W.heap.size b0 s0 b1 s1 b2 s2 b3 s3 b4 s4∧Below W.heap.size W W2):=⟨⟨blk_below HR.out.1 hb,below_step HR.out.2 hb⟩⟩
 have HT2:=Aside0.mk (HT1.out.keep hb)
 clear HR hb A HT1
 obtain ⟨k0,k1,k2,k3,k4,k5,k6,k7,k8,k9⟩ :=HR2.out.1.cells
 cases ok with
 | true=>
  replace B:Hid (field_Has.f b1 s1 (wrap64 (Int.tdiv t 60))=some q):=Lib.hid (by have:=B.out; rwa [if_pos rfl] at this)
  go_wp2_with fail
  refine (field_Has.calls _ _ _ _ _ B.out).mono ?_
  rintro e W2b ⟨rfl,hb⟩
  have HR:Aside0 (Spc.Row W2b W.heap.size b0 s0 b1 s1 b2 s2 b3 s3 b4 s4∧Below W.heap.size W W2b):=⟨⟨blk_below HR2.out.1 hb,below_step HR2.out.2 hb⟩⟩
  have HT:=Aside0.mk (HT2.out.keep hb)
  clear HR2 hb B HT2 k0 k1 k2 k3 k4 k5 k6 k7 k8 k9
  obtain ⟨k0,k1,k2,k3,k4,k5,k6,k7,k8,k9⟩ :=HR.out.1.cells
  cases q with
  | true=>
   go_wp2_with fail
   go_ret2
   exact ⟨rfl,HR.out.2⟩
  | false=>
   replace C:=Lib.hid (C.out rfl)
   replace D:=Lib.hid (D.out rfl)
   go_wp2_with fail
   refine (field_First.calls _ _ _ _ _ _ HT.out C.out).mono ?_
   rintro e W3 ⟨rfl,hb⟩
   have HR3:Aside0 (Spc.Row W3 W.heap.size b0 s0 b1 s1 b2 s2 b3 s3 b4 s4∧Below W.heap.size W W3):=⟨⟨blk_below HR.out.1 hb,below_step HR.out.2 hb⟩⟩
   have HT3:=Aside0.mk (HT.out.keep hb)
   clear HR hb C HT k0 k1 k2 k3 k4 k5 k6 k7 k8 k9
   obtain ⟨k0,k1,k2,k3,k4,k5,k6,k7,k8,k9⟩ :=HR3.out.1.cells
   cases oh with
   | true=>
    replace D:=Lib.hid (D.out rfl)
    go_wp2_with fail
    refine (Nx.soon1 W.heap.size b0 s0 b1 s1 b2 s2 b3 s3 b4 s4 h u ou D.out _ HT3.out HR3.out.1).mono ?_
    rintro e W4 ⟨rfl,hb⟩
    go_wp2_with fail
    go_ret2
    exact ⟨rfl,below_step HR3.out.2 hb⟩
   | false=>
    go_wp2_with fail
    go_ret2
    exact ⟨rfl,HR3.out.2⟩
 | false=>
  obtain rfl:false=q:=Option.some.inj (by have:=B.out; rwa [if_neg (by decide)] at this)
  have HR:=HR2
  have HT:=HT2
  clear HR2 HT2
  replace C:=Lib.hid (C.out rfl)
  replace D:=Lib.hid (D.out rfl)
  go_wp2_with fail
  refine (field_First.calls _ _ _ _ _ _ HT.out C.out).mono ?_
  rintro e W3 ⟨rfl,hb⟩
  have HR3:Aside0 (Spc.Row W3 W.heap.size b0 s0 b1 s1 b2 s2 b3 s3 b4 s4∧Below W.heap.size W W3):=⟨⟨blk_below HR.out.1 hb,below_step HR.out.2 hb⟩⟩
  have HT3:=Aside0.mk (HT.out.keep hb)
  clear HR hb C HT k0 k1 k2 k3 k4 k5 k6 k7 k8 k9
  obtain ⟨k0,k1,k2,k3,k4,k5,k6,k7,k8,k9⟩ :=HR3.out.1.cells
  cases oh with
  | true=>
   replace D:=Lib.hid (D.out rfl)
   go_wp2_with fail
   refine (Nx.soon1 W.heap.size b0 s0 b1 s1 b2 s2 b3 s3 b4 s4 h u ou D.out _ HT3.out HR3.out.1).mono ?_
   rintro e W4 ⟨rfl,hb⟩
   go_wp2_with fail
   go_ret2
   exact ⟨rfl,below_step HR3.out.2 hb⟩
  | false=>
   go_wp2_with fail
   go_ret2
   exact ⟨rfl,HR3.out.2⟩
def next_soon.f (a0_0:Int)(a0_1:Bool)(a0_2:Int)(a0_3:Bool)(a0_4:Int)(a0_5:Bool)(a0_6:Int)(a0_7:Bool)(a0_8:Int)(a0_9:Bool)(a1:Int):Option (Int × Bool):=(field_First.f a0_0 a0_1 (Int.tmod a1 60)).bind fun p=>(if p.2=true then field_Has.f a0_2 a0_3 (wrap64 (Int.tdiv a1 60)) else some false).bind fun q=>if q=true then some (wrap64 (wrap64 (wrap64 (Int.tdiv a1 60)*60)+p.1),true) else (field_First.f a0_2 a0_3 (wrap64 (wrap64 (Int.tdiv a1 60)+1))).bind fun r=>if r.2=true then (field_First.f a0_0 a0_1 0).bind fun u=>some (wrap64 (wrap64 (r.1*60)+u.1),true) else some (0,false)
set_option maxHeartbeats 8000000 in
set_option maxRecDepth 100000 in
theorem next_soon.calls (a0_0:Int)(a0_1:Bool)(a0_2:Int)(a0_3:Bool)(a0_4:Int)(a0_5:Bool)(a0_6:Int)(a0_7:Bool)(a0_8:Int)(a0_9:Bool)(a1:Int)(r1:Int)(r2:Bool)(w:World)(hT:Tab w)(h:next_soon.f a0_0 a0_1 a0_2 a0_3 a0_4 a0_5 a0_6 a0_7 a0_8 a0_9 a1=some (r1,r2)) :
  Calls Tryz.prog 23 #[.agg #[.int .u64 a0_0,.bool a0_1,.int .u64 a0_2,.bool a0_3,.int .u64 a0_4,.bool a0_5,.int .u64 a0_6,.bool a0_7,.int .u64 a0_8,.bool a0_9],.int .i64 a1] w fun e w'=>e=.returned (.tuple #[.int .i64 r1,.bool r2])∧Below w.heap.size w w':=by
 have HB:=Aside0.mk (Below.refl w.heap.size w)
 have hh:((field_First.f a0_0 a0_1 (Int.tmod a1 60)).bind fun p=>(if p.2=true then field_Has.f a0_2 a0_3 (wrap64 (Int.tdiv a1 60)) else some false).bind fun q=>if q=true then some (wrap64 (wrap64 (wrap64 (Int.tdiv a1 60)*60)+p.1),true) else (field_First.f a0_2 a0_3 (wrap64 (wrap64 (Int.tdiv a1 60)+1))).bind fun r=>if r.2=true then (field_First.f a0_0 a0_1 0).bind fun u=>some (wrap64 (wrap64 (r.1*60)+u.1),true) else some (0,false))=some (r1,r2):=h
 clear h
 obtain ⟨⟨m,ok⟩,A,hh⟩ :=Option.bind_eq_some_iff.1 hh
 obtain ⟨q,B,hh⟩ :=Option.bind_eq_some_iff.1 hh
 dsimp only at B hh
 cases q with
 | true=>
  rw [if_pos rfl] at hh
  have k:=Nx.soon_calls a0_0 a0_1 a0_2 a0_3 a0_4 a0_5 a0_6 a0_7 a0_8 a0_9 a1 m ok A true B 0 true (fun e=>by cases e) 0 true (fun e=>by cases e) w hT
  rw [if_pos rfl] at k
  obtain ⟨rfl,rfl⟩ :=Prod.mk.inj (Option.some.inj hh)
  exact k
 | false=>
  rw [if_neg (by decide)] at hh
  obtain ⟨⟨x,ox⟩,C,hh⟩ :=Option.bind_eq_some_iff.1 hh
  dsimp only at hh
  cases ox with
  | true=>
   rw [if_pos rfl] at hh
   obtain ⟨⟨u,ou⟩,D,hh⟩ :=Option.bind_eq_some_iff.1 hh
   have k:=Nx.soon_calls a0_0 a0_1 a0_2 a0_3 a0_4 a0_5 a0_6 a0_7 a0_8 a0_9 a1 m ok A false B x true (fun _=>C) u ou (fun _ _=>D) w hT
   rw [if_neg (by decide),if_pos rfl] at k
   obtain ⟨rfl,rfl⟩ :=Prod.mk.inj (Option.some.inj hh)
   exact k
  | false=>
   rw [if_neg (by decide)] at hh
   have k:=Nx.soon_calls a0_0 a0_1 a0_2 a0_3 a0_4 a0_5 a0_6 a0_7 a0_8 a0_9 a1 m ok A false B x false (fun _=>C) 0 true (fun _ e=>by cases e) w hT
   rw [if_neg (by decide),if_neg (by decide)] at k
   obtain ⟨rfl,rfl⟩ :=Prod.mk.inj (Option.some.inj hh)
   exact k
def day_odd.f (a0_0:Int)(a0_1:Bool)(a0_2:Int)(a0_3:Bool)(a0_4:Int)(a0_5:Bool)(a0_6:Int)(a0_7:Bool)(a0_8:Int)(a0_9:Bool):Option (Bool):=(spec_Check.f a0_0 a0_1 a0_2 a0_3 a0_4 a0_5 a0_6 a0_7 a0_8 a0_9).bind fun bt127=>(some (bt127.2 != 0))
set_option maxHeartbeats 8000000 in
set_option maxRecDepth 100000 in
theorem day_odd.calls (a0_0:Int)(a0_1:Bool)(a0_2:Int)(a0_3:Bool)(a0_4:Int)(a0_5:Bool)(a0_6:Int)(a0_7:Bool)(a0_8:Int)(a0_9:Bool)(r:Bool)(w:World)(h:day_odd.f a0_0 a0_1 a0_2 a0_3 a0_4 a0_5 a0_6 a0_7 a0_8 a0_9=some r) :
  Calls Tryz.prog 37 #[.agg #[.int .u64 a0_0,.bool a0_1,.int .u64 a0_2,.bool a0_3,.int .u64 a0_4,.bool a0_5,.int .u64 a0_6,.bool a0_7,.int .u64 a0_8,.bool a0_9]] w fun e w'=>e=.returned (.bool r)∧Below w.heap.size w w':=by
 have hu26:=Tryz.underlying26
 have HB:=Aside0.mk (Below.refl w.heap.size w)
 have H:((spec_Check.f a0_0 a0_1 a0_2 a0_3 a0_4 a0_5 a0_6 a0_7 a0_8 a0_9).bind fun bt127=>(some (bt127.2 != 0)))=some r:=h
 clear h
 replace H:=Option.bind_eq_some_iff.mp H
 obtain ⟨⟨t127,t128⟩,A20,H⟩ :=H
 replace H:(some (t128 != 0))=some r:=H
 have A2:=Aside0.mk A20
 clear A20
 obtain rfl:=Option.some.inj H
 go_enter Tryz.func37,Tryz.ntmps37
 go_wp2_with (first | ((with_reducible refine gate_dst (N:=1) rfl ?_); refine box_event ?hg (N:=1) ?hd (cs:=#[.int .u64 a0_0,.bool a0_1,.int .u64 a0_2,.bool a0_3,.int .u64 a0_4,.bool a0_5,.int .u64 a0_6,.bool a0_7,.int .u64 a0_8,.bool a0_9]) (t:=26) ?hr ?_; (case hd=>rfl); (case hg=>rfl); (case hr=>first | (go_simp; done) | (go_simp; rfl)); intro gb126 hg w3 hbox hb; have n0_:=Aside0.mk (below_step (by repeat (first | (with_reducible first | exact HB.out | apply below_alloc | apply pw_below_drewN | apply below_drew1) | exact HB.out)) hb); have n1_:=Aside0.mk (hbox); have n2_:=Aside0.mk ((by rw [hg]; exact (below_size (by repeat (first | (with_reducible first | exact HB.out | apply below_alloc | apply pw_below_drewN | apply below_drew1) | exact HB.out))):w.heap.size≤gb126)); have n3_:=Aside0.mk ((by rw [hg]; exact (below_size (by repeat (first | (with_reducible first | exact HB.out | apply below_alloc | apply pw_below_drewN | apply below_drew1) | exact HB.out))):w.heap.size≤gb126)); clear HB; have HB:=n0_; have BK126:=n1_; have GW126:=n2_; have GE126:=n3_; clear n0_ n1_ n2_ n3_; clear hb hbox hg; have hcz4_0:w3.cell? ⟨gb126,0,none⟩=some (.int .u64 a0_0):=(blk_cell BK126.out 0).trans rfl; have hcz4_1:w3.cell? ⟨gb126,1,none⟩=some (.bool a0_1):=(blk_cell BK126.out 1).trans rfl; have hcz4_2:w3.cell? ⟨gb126,2,none⟩=some (.int .u64 a0_2):=(blk_cell BK126.out 2).trans rfl; have hcz4_3:w3.cell? ⟨gb126,3,none⟩=some (.bool a0_3):=(blk_cell BK126.out 3).trans rfl; have hcz4_4:w3.cell? ⟨gb126,4,none⟩=some (.int .u64 a0_4):=(blk_cell BK126.out 4).trans rfl; have hcz4_5:w3.cell? ⟨gb126,5,none⟩=some (.bool a0_5):=(blk_cell BK126.out 5).trans rfl; have hcz4_6:w3.cell? ⟨gb126,6,none⟩=some (.int .u64 a0_6):=(blk_cell BK126.out 6).trans rfl; have hcz4_7:w3.cell? ⟨gb126,7,none⟩=some (.bool a0_7):=(blk_cell BK126.out 7).trans rfl; have hcz4_8:w3.cell? ⟨gb126,8,none⟩=some (.int .u64 a0_8):=(blk_cell BK126.out 8).trans rfl; have hcz4_9:w3.cell? ⟨gb126,9,none⟩=some (.bool a0_9):=(blk_cell BK126.out 9).trans rfl; have hfz4_0:=blk_frozen BK126.out 0; have hfz4_1:=blk_frozen BK126.out 1; have hfz4_2:=blk_frozen BK126.out 2; have hfz4_3:=blk_frozen BK126.out 3; have hfz4_4:=blk_frozen BK126.out 4; have hfz4_5:=blk_frozen BK126.out 5; have hfz4_6:=blk_frozen BK126.out 6; have hfz4_7:=blk_frozen BK126.out 7; have hfz4_8:=blk_frozen BK126.out 8; have hfz4_9:=blk_frozen BK126.out 9) | ((with_reducible refine gate_callee (f:=46) rfl ?_); refine goesL_ (some 7) rfl rfl Tryz.func46 (by kernel_rfl) rfl #[.agg #[.int .u64 a0_0,.bool a0_1,.int .u64 a0_2,.bool a0_3,.int .u64 a0_4,.bool a0_5,.int .u64 a0_6,.bool a0_7,.int .u64 a0_8,.bool a0_9]] rfl (by (try simp only [List.map_toArray,List.map_cons,List.map_nil]); first | done | rfl | (simp only [List.length_drop,List.length_take]; rfl)) ?_; (with_reducible refine (spec_Check.calls a0_0 a0_1 a0_2 a0_3 a0_4 a0_5 a0_6 a0_7 a0_8 a0_9 t127 t128 _ A2.out).mono ?_); rintro e w5 ⟨rfl,hb⟩; refine ⟨_,rfl,?_⟩; have n0_:=Aside0.mk (blk_below (g:=gb126) (o:=.cells #[.int .u64 a0_0,.bool a0_1,.int .u64 a0_2,.bool a0_3,.int .u64 a0_4,.bool a0_5,.int .u64 a0_6,.bool a0_7,.int .u64 a0_8,.bool a0_9] 26 (0,0)) (by (with_reducible repeat (first | refine blk_drewN ?_ _ | refine blk_drew ?_ | refine blk_alloc ?_ _)); exact BK126.out) hb); have n1_:=Aside0.mk (below_step (by repeat (first | (with_reducible first | exact HB.out | apply below_alloc | apply pw_below_drewN | apply below_drew1 | refine below_set ?_ GE126.out) | exact HB.out)) hb); clear BK126; clear HB; have BK126:=n0_; have HB:=n1_; clear n0_ n1_; (try clear hb); (try clear hb2); (try clear hk); (try clear hi)))
 go_ret
 exact ⟨by first | rfl | (simp [errW_none,errW_some] <;> rfl) | (simp [*,errW_none,errW_some] <;> rfl),by repeat (first | (with_reducible first | exact HB.out | apply below_alloc | apply pw_below_drewN | apply below_drew1 | refine below_set ?_ GE126.out) | exact HB.out)⟩
def civil_Day.j0:Nat→Int→Int→Int→Bool→Option (Int × Int)
 | 0,_,_,_,_=>none
 | k+1,x0,x1,x2,x24=>if x24=true then (some (0,1)) else ((civil_ahead.f x0).bind fun t130=>((civil_gone.f k x0 x1).bind fun t131=>(some (wrap64 ((wrap64 ((wrap64 (t130+t131))+x2)) - 1),0))))
def civil_Day.f (k:Nat)(a0:Int)(a1:Int)(a2:Int):Option (Int × Int):=if a0 < 1970 then (civil_Day.j0 k a0 a1 a2 true) else (if a0 > 2999 then (civil_Day.j0 k a0 a1 a2 true) else (if a2 < 1 then (civil_Day.j0 k a0 a1 a2 true) else ((civil_Length.f a0 a1).bind fun t129=>(civil_Day.j0 k a0 a1 a2 (decide (a2 > t129))))))
set_option maxHeartbeats 8000000 in
set_option maxRecDepth 100000 in
theorem civil_Day.calls (k:Nat)(a0:Int)(a1:Int)(a2:Int)(r1:Int)(r2:Int)(w:World)(h:civil_Day.f k a0 a1 a2=some (r1,r2)) :
  Calls Tryz.prog 50 #[.int .i64 a0,.int .i64 a1,.int .i64 a2] w fun e w'=>e=.returned (.tuple #[.int .i64 r1,.int .i64 r2])∧Drawn0 w w':=by
 have H:(if a0 < 1970 then (civil_Day.j0 k a0 a1 a2 true) else (if a0 > 2999 then (civil_Day.j0 k a0 a1 a2 true) else (if a2 < 1 then (civil_Day.j0 k a0 a1 a2 true) else ((civil_Length.f a0 a1).bind fun t129=>(civil_Day.j0 k a0 a1 a2 (decide (a2 > t129)))))))=some (r1,r2):=h
 clear h
 have HC4:=Aside0.mk H
 clear H
 go_enter Tryz.func50,Tryz.ntmps50
 go_upto_region 1 with (fail)
 go_cut [24] (fun v24 wc=>∃ (kq:Nat) (x24_3:Bool),v24=.bool x24_3∧Aside0 (civil_Day.j0 kq a0 a1 a2 x24_3=some (r1,r2))∧Aside0 (kq≤k)∧Drawn0 w wc)
 case first=>
  have H:=HC4.out
  clear HC4
  by_cases c5:a0 < 1970
  ·rw [if_pos c5] at H
   have c5b0:decide (a0 < 1970)=true:=decide_eq_true c5
   clear c5
   (first | rw [c5b0] | (simp only [i64_w,i32_w]; rw [c5b0]) | skip)
   have H':=Aside0.mk H
   clear H
   go_wp2
   go_meet
   case rel=>exact ⟨_,(true),(by first | rfl | (simp; done) | (simp [*]; done)),H',⟨by first | omega | exact Nat.le_refl _⟩,by repeat (first | exact Drawn0.refl _ | apply Drawn0.step)⟩
  ·rw [if_neg c5] at H
   have c5b0:decide (a0 < 1970)=false:=decide_eq_false c5
   clear c5
   (first | rw [c5b0] | (simp only [i64_w,i32_w]; rw [c5b0]) | skip)
   by_cases c6:a0 > 2999
   ·rw [if_pos c6] at H
    have c6b0:decide (2999 < a0)=true:=decide_eq_true c6
    clear c6
    have H':=Aside0.mk H
    clear H
    go_wp2
    go_meet
    case rel=>exact ⟨_,(true),(by first | rfl | (simp; done) | (simp [*]; done)),H',⟨by first | omega | exact Nat.le_refl _⟩,by repeat (first | exact Drawn0.refl _ | apply Drawn0.step)⟩
   ·rw [if_neg c6] at H
    have c6b0:decide (2999 < a0)=false:=decide_eq_false c6
    clear c6
    by_cases c7:a2 < 1
    ·rw [if_pos c7] at H
     have c7b0:decide (a2 < 1)=true:=decide_eq_true c7
     clear c7
     have H':=Aside0.mk H
     clear H
     go_wp2
     go_meet
     case rel=>exact ⟨_,(true),(by first | rfl | (simp; done) | (simp [*]; done)),H',⟨by first | omega | exact Nat.le_refl _⟩,by repeat (first | exact Drawn0.refl _ | apply Drawn0.step)⟩
    ·rw [if_neg c7] at H
     have c7b0:decide (a2 < 1)=false:=decide_eq_false c7
     clear c7
     replace H:=Option.bind_eq_some_iff.mp H
     obtain ⟨t129,A80,H⟩ :=H
     replace H:(civil_Day.j0 k a0 a1 a2 (decide (a2 > t129)))=some (r1,r2):=H
     have A8:=Aside0.mk A80
     clear A80
     have H':=Aside0.mk H
     clear H
     go_wp2_with (first | (go_at_call 91; (with_reducible refine (civil_Length.calls a0 a1 t129 _ A8.out).mono ?_); rintro e w' ⟨rfl,⟨nd,rfl⟩⟩))
     go_meet
     case rel=>exact ⟨_,(decide (a2 > t129)),(by first | rfl | (simp; done) | (simp [*]; done)),H',⟨by first | omega | exact Nat.le_refl _⟩,by repeat (first | exact Drawn0.refl _ | apply Drawn0.step)⟩
 case rest=>
  clear HC4
  try clear p2
  try clear c5
  try clear c5b0
  try clear c6
  try clear c6b0
  try clear c7
  try clear c7b0
  obtain ⟨kq,x24_3,rfl,HA,HJ3,⟨mc3,rfl⟩⟩ :=hcut
  cases kq with
  | zero=>exact absurd HA.out (by simp [civil_Day.j0])
  | succ kj3=>
   have H:=HA.out
   clear HA
   simp only [civil_Day.j0] at H
   by_cases c9:x24_3=true
   ·subst c9
    have H1:(some (0,1))=some (r1,r2):=by rw [if_pos rfl] at H; exact H
    clear H
    have H:=H1
    clear H1
    simp only [Option.some.injEq,Prod.mk.injEq] at H
    obtain ⟨rfl,rfl⟩ :=H
    go_wp2
    go_ret2
    exact ⟨by first | rfl | (simp; done) | (simp [*]; done),by repeat (first | exact Drawn0.refl _ | apply Drawn0.step)⟩
   ·replace c9:=Bool.eq_false_iff.mpr c9
    subst c9
    have H1:((civil_ahead.f a0).bind fun t130=>((civil_gone.f kj3 a0 a1).bind fun t131=>(some (wrap64 ((wrap64 ((wrap64 (t130+t131))+a2)) - 1),0))))=some (r1,r2):=by rw [if_neg (show ¬ (false=true) by decide)] at H; exact H
    clear H
    have H:=H1
    clear H1
    replace H:=Option.bind_eq_some_iff.mp H
    obtain ⟨t130,A100,H⟩ :=H
    replace H:((civil_gone.f kj3 a0 a1).bind fun t131=>(some (wrap64 ((wrap64 ((wrap64 (t130+t131))+a2)) - 1),0)))=some (r1,r2):=H
    have A10:=Aside0.mk A100
    clear A100
    replace H:=Option.bind_eq_some_iff.mp H
    obtain ⟨t131,A110,H⟩ :=H
    replace H:(some (wrap64 ((wrap64 ((wrap64 (t130+t131))+a2)) - 1),0))=some (r1,r2):=H
    have A11:=Aside0.mk A110
    clear A110
    simp only [Option.some.injEq,Prod.mk.injEq] at H
    obtain ⟨rfl,rfl⟩ :=H
    go_wp2_with (first | ((with_reducible refine gate_callee (f:=65) rfl ?_); refine goesL_ (some 26) rfl rfl Tryz.func65 (by kernel_rfl) rfl #[.int .i64 a0] rfl (by (try simp only [List.map_toArray,List.map_cons,List.map_nil]); first | done | rfl | (simp only [List.length_drop,List.length_take]; rfl)) ?_; (with_reducible refine (civil_ahead.calls a0 t130 _ A10.out).mono ?_); rintro e w' ⟨rfl,⟨nd,rfl⟩⟩; refine ⟨_,rfl,?_⟩) | ((with_reducible refine gate_callee (f:=67) rfl ?_); refine goesL_ (some 29) rfl rfl Tryz.func67 (by kernel_rfl) rfl #[.int .i64 a0,.int .i64 a1] rfl (by (try simp only [List.map_toArray,List.map_cons,List.map_nil]); first | done | rfl | (simp only [List.length_drop,List.length_take]; rfl)) ?_; (with_reducible refine (civil_gone.calls kj3 a0 a1 t131 _ A11.out).mono ?_); rintro e w' ⟨rfl,⟨nd,rfl⟩⟩; refine ⟨_,rfl,?_⟩))
    go_ret2
    exact ⟨by first | rfl | (simp; done) | (simp [*]; done),by repeat (first | exact Drawn0.refl _ | apply Drawn0.step)⟩
def bits_OnesCount64.f (a0:Int):Option (Int):=some (Go.bits .and .i64 (wrap64 (IntKind.u64.wrap ((IntKind.u64.wrap ((IntKind.u64.wrap ((Go.bits .and .u64 (IntKind.u64.wrap (((IntKind.u64.wrap ((Go.bits .and .u64 ((IntKind.u64.wrap ((Go.bits .and .u64 (a0 / 2) 6148914691236517205)+(Go.bits .and .u64 a0 6148914691236517205))) / 4) 3689348814741910323)+(Go.bits .and .u64 (IntKind.u64.wrap ((Go.bits .and .u64 (a0 / 2) 6148914691236517205)+(Go.bits .and .u64 a0 6148914691236517205))) 3689348814741910323))) / 16)+(IntKind.u64.wrap ((Go.bits .and .u64 ((IntKind.u64.wrap ((Go.bits .and .u64 (a0 / 2) 6148914691236517205)+(Go.bits .and .u64 a0 6148914691236517205))) / 4) 3689348814741910323)+(Go.bits .and .u64 (IntKind.u64.wrap ((Go.bits .and .u64 (a0 / 2) 6148914691236517205)+(Go.bits .and .u64 a0 6148914691236517205))) 3689348814741910323))))) 1085102592571150095)+((Go.bits .and .u64 (IntKind.u64.wrap (((IntKind.u64.wrap ((Go.bits .and .u64 ((IntKind.u64.wrap ((Go.bits .and .u64 (a0 / 2) 6148914691236517205)+(Go.bits .and .u64 a0 6148914691236517205))) / 4) 3689348814741910323)+(Go.bits .and .u64 (IntKind.u64.wrap ((Go.bits .and .u64 (a0 / 2) 6148914691236517205)+(Go.bits .and .u64 a0 6148914691236517205))) 3689348814741910323))) / 16)+(IntKind.u64.wrap ((Go.bits .and .u64 ((IntKind.u64.wrap ((Go.bits .and .u64 (a0 / 2) 6148914691236517205)+(Go.bits .and .u64 a0 6148914691236517205))) / 4) 3689348814741910323)+(Go.bits .and .u64 (IntKind.u64.wrap ((Go.bits .and .u64 (a0 / 2) 6148914691236517205)+(Go.bits .and .u64 a0 6148914691236517205))) 3689348814741910323))))) 1085102592571150095) / 256)))+((IntKind.u64.wrap ((Go.bits .and .u64 (IntKind.u64.wrap (((IntKind.u64.wrap ((Go.bits .and .u64 ((IntKind.u64.wrap ((Go.bits .and .u64 (a0 / 2) 6148914691236517205)+(Go.bits .and .u64 a0 6148914691236517205))) / 4) 3689348814741910323)+(Go.bits .and .u64 (IntKind.u64.wrap ((Go.bits .and .u64 (a0 / 2) 6148914691236517205)+(Go.bits .and .u64 a0 6148914691236517205))) 3689348814741910323))) / 16)+(IntKind.u64.wrap ((Go.bits .and .u64 ((IntKind.u64.wrap ((Go.bits .and .u64 (a0 / 2) 6148914691236517205)+(Go.bits .and .u64 a0 6148914691236517205))) / 4) 3689348814741910323)+(Go.bits .and .u64 (IntKind.u64.wrap ((Go.bits .and .u64 (a0 / 2) 6148914691236517205)+(Go.bits .and .u64 a0 6148914691236517205))) 3689348814741910323))))) 1085102592571150095)+((Go.bits .and .u64 (IntKind.u64.wrap (((IntKind.u64.wrap ((Go.bits .and .u64 ((IntKind.u64.wrap ((Go.bits .and .u64 (a0 / 2) 6148914691236517205)+(Go.bits .and .u64 a0 6148914691236517205))) / 4) 3689348814741910323)+(Go.bits .and .u64 (IntKind.u64.wrap ((Go.bits .and .u64 (a0 / 2) 6148914691236517205)+(Go.bits .and .u64 a0 6148914691236517205))) 3689348814741910323))) / 16)+(IntKind.u64.wrap ((Go.bits .and .u64 ((IntKind.u64.wrap ((Go.bits .and .u64 (a0 / 2) 6148914691236517205)+(Go.bits .and .u64 a0 6148914691236517205))) / 4) 3689348814741910323)+(Go.bits .and .u64 (IntKind.u64.wrap ((Go.bits .and .u64 (a0 / 2) 6148914691236517205)+(Go.bits .and .u64 a0 6148914691236517205))) 3689348814741910323))))) 1085102592571150095) / 256))) / 65536)))+((IntKind.u64.wrap ((IntKind.u64.wrap ((Go.bits .and .u64 (IntKind.u64.wrap (((IntKind.u64.wrap ((Go.bits .and .u64 ((IntKind.u64.wrap ((Go.bits .and .u64 (a0 / 2) 6148914691236517205)+(Go.bits .and .u64 a0 6148914691236517205))) / 4) 3689348814741910323)+(Go.bits .and .u64 (IntKind.u64.wrap ((Go.bits .and .u64 (a0 / 2) 6148914691236517205)+(Go.bits .and .u64 a0 6148914691236517205))) 3689348814741910323))) / 16)+(IntKind.u64.wrap ((Go.bits .and .u64 ((IntKind.u64.wrap ((Go.bits .and .u64 (a0 / 2) 6148914691236517205)+(Go.bits .and .u64 a0 6148914691236517205))) / 4) 3689348814741910323)+(Go.bits .and .u64 (IntKind.u64.wrap ((Go.bits .and .u64 (a0 / 2) 6148914691236517205)+(Go.bits .and .u64 a0 6148914691236517205))) 3689348814741910323))))) 1085102592571150095)+((Go.bits .and .u64 (IntKind.u64.wrap (((IntKind.u64.wrap ((Go.bits .and .u64 ((IntKind.u64.wrap ((Go.bits .and .u64 (a0 / 2) 6148914691236517205)+(Go.bits .and .u64 a0 6148914691236517205))) / 4) 3689348814741910323)+(Go.bits .and .u64 (IntKind.u64.wrap ((Go.bits .and .u64 (a0 / 2) 6148914691236517205)+(Go.bits .and .u64 a0 6148914691236517205))) 3689348814741910323))) / 16)+(IntKind.u64.wrap ((Go.bits .and .u64 ((IntKind.u64.wrap ((Go.bits .and .u64 (a0 / 2) 6148914691236517205)+(Go.bits .and .u64 a0 6148914691236517205))) / 4) 3689348814741910323)+(Go.bits .and .u64 (IntKind.u64.wrap ((Go.bits .and .u64 (a0 / 2) 6148914691236517205)+(Go.bits .and .u64 a0 6148914691236517205))) 3689348814741910323))))) 1085102592571150095) / 256)))+((IntKind.u64.wrap ((Go.bits .and .u64 (IntKind.u64.wrap (((IntKind.u64.wrap ((Go.bits .and .u64 ((IntKind.u64.wrap ((Go.bits .and .u64 (a0 / 2) 6148914691236517205)+(Go.bits .and .u64 a0 6148914691236517205))) / 4) 3689348814741910323)+(Go.bits .and .u64 (IntKind.u64.wrap ((Go.bits .and .u64 (a0 / 2) 6148914691236517205)+(Go.bits .and .u64 a0 6148914691236517205))) 3689348814741910323))) / 16)+(IntKind.u64.wrap ((Go.bits .and .u64 ((IntKind.u64.wrap ((Go.bits .and .u64 (a0 / 2) 6148914691236517205)+(Go.bits .and .u64 a0 6148914691236517205))) / 4) 3689348814741910323)+(Go.bits .and .u64 (IntKind.u64.wrap ((Go.bits .and .u64 (a0 / 2) 6148914691236517205)+(Go.bits .and .u64 a0 6148914691236517205))) 3689348814741910323))))) 1085102592571150095)+((Go.bits .and .u64 (IntKind.u64.wrap (((IntKind.u64.wrap ((Go.bits .and .u64 ((IntKind.u64.wrap ((Go.bits .and .u64 (a0 / 2) 6148914691236517205)+(Go.bits .and .u64 a0 6148914691236517205))) / 4) 3689348814741910323)+(Go.bits .and .u64 (IntKind.u64.wrap ((Go.bits .and .u64 (a0 / 2) 6148914691236517205)+(Go.bits .and .u64 a0 6148914691236517205))) 3689348814741910323))) / 16)+(IntKind.u64.wrap ((Go.bits .and .u64 ((IntKind.u64.wrap ((Go.bits .and .u64 (a0 / 2) 6148914691236517205)+(Go.bits .and .u64 a0 6148914691236517205))) / 4) 3689348814741910323)+(Go.bits .and .u64 (IntKind.u64.wrap ((Go.bits .and .u64 (a0 / 2) 6148914691236517205)+(Go.bits .and .u64 a0 6148914691236517205))) 3689348814741910323))))) 1085102592571150095) / 256))) / 65536))) / 4294967296)))) 127)
set_option maxHeartbeats 8000000 in
set_option maxRecDepth 100000 in
theorem bits_OnesCount64.calls (a0:Int)(r:Int)(w:World)(h:bits_OnesCount64.f a0=some r) :
  Calls Tryz.prog 98 #[.int .u64 a0] w fun e w'=>e=.returned (.int .i64 r)∧Drawn0 w w':=by
 have H:(some (Go.bits .and .i64 (wrap64 (IntKind.u64.wrap ((IntKind.u64.wrap ((IntKind.u64.wrap ((Go.bits .and .u64 (IntKind.u64.wrap (((IntKind.u64.wrap ((Go.bits .and .u64 ((IntKind.u64.wrap ((Go.bits .and .u64 (a0 / 2) 6148914691236517205)+(Go.bits .and .u64 a0 6148914691236517205))) / 4) 3689348814741910323)+(Go.bits .and .u64 (IntKind.u64.wrap ((Go.bits .and .u64 (a0 / 2) 6148914691236517205)+(Go.bits .and .u64 a0 6148914691236517205))) 3689348814741910323))) / 16)+(IntKind.u64.wrap ((Go.bits .and .u64 ((IntKind.u64.wrap ((Go.bits .and .u64 (a0 / 2) 6148914691236517205)+(Go.bits .and .u64 a0 6148914691236517205))) / 4) 3689348814741910323)+(Go.bits .and .u64 (IntKind.u64.wrap ((Go.bits .and .u64 (a0 / 2) 6148914691236517205)+(Go.bits .and .u64 a0 6148914691236517205))) 3689348814741910323))))) 1085102592571150095)+((Go.bits .and .u64 (IntKind.u64.wrap (((IntKind.u64.wrap ((Go.bits .and .u64 ((IntKind.u64.wrap ((Go.bits .and .u64 (a0 / 2) 6148914691236517205)+(Go.bits .and .u64 a0 6148914691236517205))) / 4) 3689348814741910323)+(Go.bits .and .u64 (IntKind.u64.wrap ((Go.bits .and .u64 (a0 / 2) 6148914691236517205)+(Go.bits .and .u64 a0 6148914691236517205))) 3689348814741910323))) / 16)+(IntKind.u64.wrap ((Go.bits .and .u64 ((IntKind.u64.wrap ((Go.bits .and .u64 (a0 / 2) 6148914691236517205)+(Go.bits .and .u64 a0 6148914691236517205))) / 4) 3689348814741910323)+(Go.bits .and .u64 (IntKind.u64.wrap ((Go.bits .and .u64 (a0 / 2) 6148914691236517205)+(Go.bits .and .u64 a0 6148914691236517205))) 3689348814741910323))))) 1085102592571150095) / 256)))+((IntKind.u64.wrap ((Go.bits .and .u64 (IntKind.u64.wrap (((IntKind.u64.wrap ((Go.bits .and .u64 ((IntKind.u64.wrap ((Go.bits .and .u64 (a0 / 2) 6148914691236517205)+(Go.bits .and .u64 a0 6148914691236517205))) / 4) 3689348814741910323)+(Go.bits .and .u64 (IntKind.u64.wrap ((Go.bits .and .u64 (a0 / 2) 6148914691236517205)+(Go.bits .and .u64 a0 6148914691236517205))) 3689348814741910323))) / 16)+(IntKind.u64.wrap ((Go.bits .and .u64 ((IntKind.u64.wrap ((Go.bits .and .u64 (a0 / 2) 6148914691236517205)+(Go.bits .and .u64 a0 6148914691236517205))) / 4) 3689348814741910323)+(Go.bits .and .u64 (IntKind.u64.wrap ((Go.bits .and .u64 (a0 / 2) 6148914691236517205)+(Go.bits .and .u64 a0 6148914691236517205))) 3689348814741910323))))) 1085102592571150095)+((Go.bits .and .u64 (IntKind.u64.wrap (((IntKind.u64.wrap ((Go.bits .and .u64 ((IntKind.u64.wrap ((Go.bits .and .u64 (a0 / 2) 6148914691236517205)+(Go.bits .and .u64 a0 6148914691236517205))) / 4) 3689348814741910323)+(Go.bits .and .u64 (IntKind.u64.wrap ((Go.bits .and .u64 (a0 / 2) 6148914691236517205)+(Go.bits .and .u64 a0 6148914691236517205))) 3689348814741910323))) / 16)+(IntKind.u64.wrap ((Go.bits .and .u64 ((IntKind.u64.wrap ((Go.bits .and .u64 (a0 / 2) 6148914691236517205)+(Go.bits .and .u64 a0 6148914691236517205))) / 4) 3689348814741910323)+(Go.bits .and .u64 (IntKind.u64.wrap ((Go.bits .and .u64 (a0 / 2) 6148914691236517205)+(Go.bits .and .u64 a0 6148914691236517205))) 3689348814741910323))))) 1085102592571150095) / 256))) / 65536)))+((IntKind.u64.wrap ((IntKind.u64.wrap ((Go.bits .and .u64 (IntKind.u64.wrap (((IntKind.u64.wrap ((Go.bits .and .u64 ((IntKind.u64.wrap ((Go.bits .and .u64 (a0 / 2) 6148914691236517205)+(Go.bits .and .u64 a0 6148914691236517205))) / 4) 3689348814741910323)+(Go.bits .and .u64 (IntKind.u64.wrap ((Go.bits .and .u64 (a0 / 2) 6148914691236517205)+(Go.bits .and .u64 a0 6148914691236517205))) 3689348814741910323))) / 16)+(IntKind.u64.wrap ((Go.bits .and .u64 ((IntKind.u64.wrap ((Go.bits .and .u64 (a0 / 2) 6148914691236517205)+(Go.bits .and .u64 a0 6148914691236517205))) / 4) 3689348814741910323)+(Go.bits .and .u64 (IntKind.u64.wrap ((Go.bits .and .u64 (a0 / 2) 6148914691236517205)+(Go.bits .and .u64 a0 6148914691236517205))) 3689348814741910323))))) 1085102592571150095)+((Go.bits .and .u64 (IntKind.u64.wrap (((IntKind.u64.wrap ((Go.bits .and .u64 ((IntKind.u64.wrap ((Go.bits .and .u64 (a0 / 2) 6148914691236517205)+(Go.bits .and .u64 a0 6148914691236517205))) / 4) 3689348814741910323)+(Go.bits .and .u64 (IntKind.u64.wrap ((Go.bits .and .u64 (a0 / 2) 6148914691236517205)+(Go.bits .and .u64 a0 6148914691236517205))) 3689348814741910323))) / 16)+(IntKind.u64.wrap ((Go.bits .and .u64 ((IntKind.u64.wrap ((Go.bits .and .u64 (a0 / 2) 6148914691236517205)+(Go.bits .and .u64 a0 6148914691236517205))) / 4) 3689348814741910323)+(Go.bits .and .u64 (IntKind.u64.wrap ((Go.bits .and .u64 (a0 / 2) 6148914691236517205)+(Go.bits .and .u64 a0 6148914691236517205))) 3689348814741910323))))) 1085102592571150095) / 256)))+((IntKind.u64.wrap ((Go.bits .and .u64 (IntKind.u64.wrap (((IntKind.u64.wrap ((Go.bits .and .u64 ((IntKind.u64.wrap ((Go.bits .and .u64 (a0 / 2) 6148914691236517205)+(Go.bits .and .u64 a0 6148914691236517205))) / 4) 3689348814741910323)+(Go.bits .and .u64 (IntKind.u64.wrap ((Go.bits .and .u64 (a0 / 2) 6148914691236517205)+(Go.bits .and .u64 a0 6148914691236517205))) 3689348814741910323))) / 16)+(IntKind.u64.wrap ((Go.bits .and .u64 ((IntKind.u64.wrap ((Go.bits .and .u64 (a0 / 2) 6148914691236517205)+(Go.bits .and .u64 a0 6148914691236517205))) / 4) 3689348814741910323)+(Go.bits .and .u64 (IntKind.u64.wrap ((Go.bits .and .u64 (a0 / 2) 6148914691236517205)+(Go.bits .and .u64 a0 6148914691236517205))) 3689348814741910323))))) 1085102592571150095)+((Go.bits .and .u64 (IntKind.u64.wrap (((IntKind.u64.wrap ((Go.bits .and .u64 ((IntKind.u64.wrap ((Go.bits .and .u64 (a0 / 2) 6148914691236517205)+(Go.bits .and .u64 a0 6148914691236517205))) / 4) 3689348814741910323)+(Go.bits .and .u64 (IntKind.u64.wrap ((Go.bits .and .u64 (a0 / 2) 6148914691236517205)+(Go.bits .and .u64 a0 6148914691236517205))) 3689348814741910323))) / 16)+(IntKind.u64.wrap ((Go.bits .and .u64 ((IntKind.u64.wrap ((Go.bits .and .u64 (a0 / 2) 6148914691236517205)+(Go.bits .and .u64 a0 6148914691236517205))) / 4) 3689348814741910323)+(Go.bits .and .u64 (IntKind.u64.wrap ((Go.bits .and .u64 (a0 / 2) 6148914691236517205)+(Go.bits .and .u64 a0 6148914691236517205))) 3689348814741910323))))) 1085102592571150095) / 256))) / 65536))) / 4294967296)))) 127))=some r:=h
 clear h
 obtain rfl:=Option.some.inj H
 go_enter Tryz.func98,Tryz.ntmps98
 go_wp2
 go_ret
 exact ⟨by first | rfl | (simp; done) | (simp [*]; done),by repeat (first | exact Drawn0.refl _ | apply Drawn0.step)⟩
def field_Count.f (a0_0:Int)(a0_1:Bool):Option (Int):=(bits_OnesCount64.f a0_0).bind fun t133=>(some t133)
set_option maxHeartbeats 8000000 in
set_option maxRecDepth 100000 in
theorem field_Count.calls (a0_0:Int)(a0_1:Bool)(r:Int)(w:World)(h:field_Count.f a0_0 a0_1=some r) :
  Calls Tryz.prog 61 #[.agg #[.int .u64 a0_0,.bool a0_1]] w fun e w'=>e=.returned (.int .i64 r)∧Below w.heap.size w w':=by
 have hu24:=Tryz.underlying24
 have HB:=Aside0.mk (Below.refl w.heap.size w)
 have H:((bits_OnesCount64.f a0_0).bind fun t133=>(some t133))=some r:=h
 clear h
 replace H:=Option.bind_eq_some_iff.mp H
 obtain ⟨t133,A20,H⟩ :=H
 replace H:(some t133)=some r:=H
 have A2:=Aside0.mk A20
 clear A20
 obtain rfl:=Option.some.inj H
 go_enter Tryz.func61,Tryz.ntmps61
 go_wp2_with (first | ((with_reducible refine gate_dst (N:=1) rfl ?_); refine box_event ?hg (N:=1) ?hd (cs:=#[.int .u64 a0_0,.bool a0_1]) (t:=24) ?hr ?_; (case hd=>rfl); (case hg=>rfl); (case hr=>first | (go_simp; done) | (go_simp; rfl)); intro gb132 hg w3 hbox hb; have n0_:=Aside0.mk (below_step (by repeat (first | (with_reducible first | exact HB.out | apply below_alloc | apply pw_below_drewN | apply below_drew1) | exact HB.out)) hb); have n1_:=Aside0.mk (hbox); have n2_:=Aside0.mk ((by rw [hg]; exact (below_size (by repeat (first | (with_reducible first | exact HB.out | apply below_alloc | apply pw_below_drewN | apply below_drew1) | exact HB.out))):w.heap.size≤gb132)); have n3_:=Aside0.mk ((by rw [hg]; exact (below_size (by repeat (first | (with_reducible first | exact HB.out | apply below_alloc | apply pw_below_drewN | apply below_drew1) | exact HB.out))):w.heap.size≤gb132)); clear HB; have HB:=n0_; have BK132:=n1_; have GW132:=n2_; have GE132:=n3_; clear n0_ n1_ n2_ n3_; clear hb hbox hg; have hcz4_0:w3.cell? ⟨gb132,0,none⟩=some (.int .u64 a0_0):=(blk_cell BK132.out 0).trans rfl; have hcz4_1:w3.cell? ⟨gb132,1,none⟩=some (.bool a0_1):=(blk_cell BK132.out 1).trans rfl; have hfz4_0:=blk_frozen BK132.out 0; have hfz4_1:=blk_frozen BK132.out 1) | ((with_reducible refine gate_callee (f:=98) rfl ?_); refine goesL_ (some 5) rfl rfl Tryz.func98 (by kernel_rfl) rfl #[.int .u64 a0_0] rfl (by (try simp only [List.map_toArray,List.map_cons,List.map_nil]); first | done | rfl | (simp only [List.length_drop,List.length_take]; rfl)) ?_; (with_reducible refine (bits_OnesCount64.calls a0_0 t133 _ A2.out).mono ?_); rintro e w' ⟨rfl,⟨nd,rfl⟩⟩; refine ⟨_,rfl,?_⟩))
 go_ret
 exact ⟨by first | rfl | (simp [errW_none,errW_some] <;> rfl) | (simp [*,errW_none,errW_some] <;> rfl),by repeat (first | (with_reducible first | exact HB.out | apply below_alloc | apply pw_below_drewN | apply below_drew1 | refine below_set ?_ GE132.out) | exact HB.out)⟩
end Go.Proofs.YtabhfcoljgcpeaaGreatDoor.PNex
