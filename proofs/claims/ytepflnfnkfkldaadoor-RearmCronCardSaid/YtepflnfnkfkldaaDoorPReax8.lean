-- Written by a program of this session (gprint.py) over the kit's print.
import Derived.Test.YtepflnfnkfkldaaDoorPReax0
import Derived.Test.YtepflnfnkfkldaaDoorPReax3
import Derived.Test.YtepflnfnkfkldaaDoorPReax6
namespace Go.Proofs.YtepflnfnkfkldaaDoor.PRea
open Go.RowKit Go.Proofs.YtepflnfnkfkldaaDoorW.PrintWords Go.Proofs.YtepflnfnkfkldaaDoorW.PrintLast Go.Proofs.YtepflnfnkfkldaaDoorW.PrintMore
attribute [local go_sem] max2_int min2_int max_two min_two max_three min_three max_four min_four
set_option linter.unusedVariables false
set_option linter.unusedSimpArgs false
/-! This session's own: what the walks want of the package variables: the table of math/bits alone. -/
def Tab (w:World):Prop:=
 (∀ i:Nat,i < 64→w.cell? ⟨0,i,none⟩=some (.int .u8 ([0,1,56,2,57,49,28,3,61,58,42,50,38,29,17,4,62,47,59,36,45,43,51,22,53,39,33,30,24,18,12,5,63,55,48,27,60,41,37,16,46,35,44,21,52,32,23,11,54,26,40,15,34,20,31,10,25,14,19,9,13,8,7,6].getD i 0)))∧True
theorem Tab.keep {w W:World}(h:Tab w)(hb:Below w.heap.size w W):Tab W:=by
 have k:∀ (a:Addr) (v:Value),w.cell? a=some v→W.cell? a=some v:=fun a v ha=>(hb.cell (World.block_lt_of_cell? _ _ ha)).trans ha
 exact ⟨fun i hi=>k _ _ (h.1 i hi),trivial⟩
/-! This session's own: bits.TrailingZeros64. -/
def Fld.ntzN:Nat→Nat→Nat
 | 0,_=>0
 | f+1,x=>if x % 2=1 then 0 else 1+Fld.ntzN f (x / 2)
def Fld.ntz (x:Int):Int:=(Fld.ntzN 64 x.toNat:Nat)
def Fld.dbTab:List Int:=[0,1,56,2,57,49,28,3,61,58,42,50,38,29,17,4,62,47,59,36,45,43,51,22,53,39,33,30,24,18,12,5,63,55,48,27,60,41,37,16,46,35,44,21,52,32,23,11,54,26,40,15,34,20,31,10,25,14,19,9,13,8,7,6]
theorem Fld.and_split (a b r s:Nat)(hr:r < 2)(hs:s < 2):(2*a+r) &&& (2*b+s)=2*(a &&& b)+(r &&& s):=by
 apply Nat.eq_of_testBit_eq
 intro i
 rw [Nat.testBit_and]
 cases i with
 | zero=>
  simp only [Nat.testBit_zero]
  have hr':r=0∨r=1:=by omega
  have hs':s=0∨s=1:=by omega
  rcases hr' with rfl | rfl <;> rcases hs' with rfl | rfl <;> simp <;> omega
 | succ i=>
  simp only [Nat.testBit_succ]
  rw [show (2*a+r) / 2=a by omega,show (2*b+s) / 2=b by omega,← Nat.testBit_and]
  congr 1
  have:r &&& s < 2:=by
   have hr':r=0∨r=1:=by omega
   have hs':s=0∨s=1:=by omega
   rcases hr' with rfl | rfl <;> rcases hs' with rfl | rfl <;> decide
  omega
theorem Fld.and_compl:∀ (n y:Nat),y < 2 ^ n→y &&& (2 ^ n - 1 - y)=0
 | 0,y,h=>by
  have:y=0:=by simpa using h
  subst this; rfl
 | n+1,y,h=>by
  have e:2 ^ (n+1)=2*2 ^ n:=by rw [Nat.pow_succ]; omega
  have hp:0 < 2 ^ n:=Nat.two_pow_pos n
  have e1:y=2*(y / 2)+y % 2:=by omega
  have e2:2 ^ (n+1) - 1 - y=2*(2 ^ n - 1 - y / 2)+(1 - y % 2):=by omega
  rw [e2]
  conv=>lhs; lhs; rw [e1]
  rw [Fld.and_split _ _ _ _ (by omega) (by omega),Fld.and_compl n (y / 2) (by omega)]
  have:y % 2=0∨y % 2=1:=by omega
  rcases this with h | h <;> rw [h] <;> rfl
theorem Fld.low_bit:∀ (n x:Nat),x≠0→x < 2 ^ n→x &&& (2 ^ n - x)=2 ^ Fld.ntzN n x∧Fld.ntzN n x < n
 | 0,x,h0,h=>by
  have:x=0:=by simpa using h
  exact absurd this h0
 | n+1,x,h0,h=>by
  have e:2 ^ (n+1)=2*2 ^ n:=by rw [Nat.pow_succ]; omega
  have e1:x=2*(x / 2)+x % 2:=by omega
  by_cases hx:x % 2=1
  ·have e2:2 ^ (n+1) - x=2*(2 ^ n - 1 - x / 2)+1:=by omega
   have e3:Fld.ntzN (n+1) x=0:=by simp [Fld.ntzN,hx]
   rw [e2,e3]
   conv=>lhs; lhs; lhs; rw [e1]
   rw [hx,Fld.and_split _ _ _ _ (by omega) (by omega),Fld.and_compl n (x / 2) (by omega)]
   exact ⟨rfl,by omega⟩
  ·have e2:2 ^ (n+1) - x=2*(2 ^ n - x / 2)+0:=by omega
   have e3:Fld.ntzN (n+1) x=1+Fld.ntzN n (x / 2):=by simp [Fld.ntzN,hx]
   obtain ⟨h1,h2⟩ :=Fld.low_bit n (x / 2) (by omega) (by omega)
   rw [e2,e3]
   conv=>lhs; lhs; lhs; rw [e1]
   rw [show x % 2=0 by omega,Fld.and_split _ _ _ _ (by omega) (by omega),h1]
   exact ⟨by rw [Nat.add_comm 1,Nat.pow_succ]; simp; omega,by omega⟩
theorem Fld.db_idx:∀ k:Fin 64,(2 ^ k.val*285870213051353865 % 18446744073709551616) / 288230376151711744 < 64∧Fld.dbTab.getD ((2 ^ k.val*285870213051353865 % 18446744073709551616) / 288230376151711744) 0=(k.val:Int):=by decide +kernel
theorem Fld.low_int (x:Int)(h0:0≤x)(h1:x < 18446744073709551616)(hx:x≠0):Go.bits .and .u64 x (IntKind.u64.wrap (-x))=((2 ^ Fld.ntzN 64 x.toNat:Nat):Int)∧Fld.ntzN 64 x.toNat < 64:=by
 obtain ⟨n,rfl⟩ :=Int.eq_ofNat_of_zero_le h0
 have hn:n < 2 ^ 64:=by omega
 have hn0:n≠0:=by omega
 have hw:IntKind.u64.wrap (-(n:Int))=((2 ^ 64 - n:Nat):Int):=by
  have e:IntKind.u64.wrap (-(n:Int))=(-(n:Int)) % 18446744073709551616:=by simp [IntKind.wrap,IntKind.bits,IntKind.signed]
  rw [e]; omega
 obtain ⟨q1,q2⟩ :=Fld.low_bit 64 n hn0 hn
 rw [hw,(bits_nat .u64 64 (by decide) (fun z h0 h1=>IntWalk.u64_in z ⟨h0,by omega⟩) n _ hn (by omega)).1,Int.toNat_natCast,q1]
 exact ⟨rfl,q2⟩
set_option maxHeartbeats 4000000 in
theorem Fld.ntz_calls (x:Int)(h0:0≤x)(h1:x < 18446744073709551616)(w:World)(hT:Tab w) :
  Calls Tryd.prog 101 #[.int .u64 x] w fun e w'=>e=.returned (.int .i64 (Fld.ntz x))∧Drawn0 w w':=by
 by_cases hx:x=0
 ·subst hx
  have hv:Hid (Fld.ntz 0=64):=Lib.hid (by decide)
  go_enter Tryd.func101,Tryd.ntmps101
  go_wp2
  go_ret
  exact ⟨congrArg (fun z=>Ending.returned (.int .i64 z)) hv.out.symm,Drawn0.refl _⟩
 ·obtain ⟨q1,q2⟩ :=Fld.low_int x h0 h1 hx
  have e5:(x == 0)=false:=by simpa using hx
  have hv:Hid (Fld.ntz x=(Fld.ntzN 64 x.toNat:Int)):=Lib.hid rfl
  obtain ⟨k,hk⟩:∃ k,Fld.ntzN 64 x.toNat=k:=⟨_,rfl⟩
  rw [hk] at q1 q2 hv
  obtain ⟨d1,d2⟩ :=Fld.db_idx ⟨k,q2⟩
  dsimp only at d1 d2
  have hc:=hT.1 _ d1
  rw [show ([0,1,56,2,57,49,28,3,61,58,42,50,38,29,17,4,62,47,59,36,45,43,51,22,53,39,33,30,24,18,12,5,63,55,48,27,60,41,37,16,46,35,44,21,52,32,23,11,54,26,40,15,34,20,31,10,25,14,19,9,13,8,7,6]:List Int)=Fld.dbTab from rfl,d2] at hc
  have hm:IntKind.u64.wrap (((2 ^ k:Nat):Int)*285870213051353865)=((2 ^ k*285870213051353865 % 18446744073709551616:Nat):Int):=by
   have e:∀ z:Int,IntKind.u64.wrap z=z % 18446744073709551616:=fun z=>by simp [IntKind.wrap,IntKind.bits,IntKind.signed]
   rw [e]; omega
  obtain ⟨P,hP⟩:∃ P:Nat,2 ^ k=P:=⟨_,rfl⟩
  rw [hP] at q1 hm d1 hc
  obtain ⟨M,hM⟩:∃ M:Nat,P*285870213051353865 % 18446744073709551616=M:=⟨_,rfl⟩
  have hMb:M < 18446744073709551616:=by omega
  rw [hM] at hm d1 hc
  obtain ⟨I,hI⟩:∃ I:Nat,M / 288230376151711744=I:=⟨_,rfl⟩
  have hdiv:(M:Int) / 288230376151711744=(I:Int):=by omega
  rw [hI] at d1 hc
  replace hx:=Lib.hid hx; replace hP:=Lib.hid hP; replace hM:=Lib.hid hM; replace hI:=Lib.hid hI; replace hk:=Lib.hid hk; replace d2:=Lib.hid d2
  clear hT
  go_enter Tryd.func101,Tryd.ntmps101
  go_wp2
  go_ret
  exact ⟨congrArg (fun z=>Ending.returned (.int .i64 z)) hv.out.symm,Drawn0.refl _⟩
def bits_TrailingZeros64.f (a0:Int):Option (Int):=if 0≤a0∧a0 < 18446744073709551616 then some (Fld.ntz a0) else none
set_option maxHeartbeats 8000000 in
set_option maxRecDepth 100000 in
theorem bits_TrailingZeros64.calls (a0:Int)(r:Int)(w:World)(hT:Tab w)(h:bits_TrailingZeros64.f a0=some r) :
  Calls Tryd.prog 101 #[.int .u64 a0] w fun e w'=>e=.returned (.int .i64 r)∧Drawn0 w w':=by
 have HB:=Aside0.mk (Below.refl w.heap.size w)
 unfold bits_TrailingZeros64.f at h
 split at h
 ·rename_i hb
  obtain rfl:=Option.some.inj h
  exact Fld.ntz_calls a0 hb.1 hb.2 w hT
 ·cases h
def field_First.f (a0_0:Int)(a0_1:Bool)(a1:Int):Option (Int × Bool):=if (mx a1 0) > 63 then (some (0,false)) else (if 0≤(IntKind.u64.wrap (mx a1 0)) then (if (shl .u64 (shr .u64 a0_0 (IntKind.u64.wrap (mx a1 0))) (IntKind.u64.wrap (mx a1 0)))=0 then (some (0,false)) else ((bits_TrailingZeros64.f (shl .u64 (shr .u64 a0_0 (IntKind.u64.wrap (mx a1 0))) (IntKind.u64.wrap (mx a1 0)))).bind fun t140=>(some (t140,true)))) else (none))
set_option maxHeartbeats 8000000 in
set_option maxRecDepth 100000 in
theorem field_First.calls (a0_0:Int)(a0_1:Bool)(a1:Int)(r1:Int)(r2:Bool)(w:World)(hT:Tab w)(h:field_First.f a0_0 a0_1 a1=some (r1,r2)) :
  Calls Tryd.prog 92 #[.agg #[.int .u64 a0_0,.bool a0_1],.int .i64 a1] w fun e w'=>e=.returned (.tuple #[.int .i64 r1,.bool r2])∧Below w.heap.size w w':=by
 have hu24:=Tryd.underlying24
 have HB:=Aside0.mk (Below.refl w.heap.size w)
 have H:(if (mx a1 0) > 63 then (some (0,false)) else (if 0≤(IntKind.u64.wrap (mx a1 0)) then (if (shl .u64 (shr .u64 a0_0 (IntKind.u64.wrap (mx a1 0))) (IntKind.u64.wrap (mx a1 0)))=0 then (some (0,false)) else ((bits_TrailingZeros64.f (shl .u64 (shr .u64 a0_0 (IntKind.u64.wrap (mx a1 0))) (IntKind.u64.wrap (mx a1 0)))).bind fun t140=>(some (t140,true)))) else (none)))=some (r1,r2):=h
 clear h
 obtain ⟨ji3,hji3⟩:∃ j_:Int,(mx a1 0)=j_:=⟨_,rfl⟩
 replace H:(if (ji3) > 63 then (some (0,false)) else (if 0≤(IntKind.u64.wrap (ji3)) then (if (shl .u64 (shr .u64 a0_0 (IntKind.u64.wrap (ji3))) (IntKind.u64.wrap (ji3)))=0 then (some (0,false)) else ((bits_TrailingZeros64.f (shl .u64 (shr .u64 a0_0 (IntKind.u64.wrap (ji3))) (IntKind.u64.wrap (ji3)))).bind fun t140=>(some (t140,true)))) else (none)))=some (r1,r2):=by first | (rw [hji3] at H; exact H) | (simp only [hji3] at H ⊢; exact H)
 (try (have hji3l:0≤ji3:=by (rw [← hji3]; unfold mx; (repeat' split) <;> omega)))
 (try (have hji3m:0≤ji3:=by omega))
 have hji3_:(if a1 < 0 then 0 else a1)=ji3:=hji3
 by_cases c4:(ji3) > 63
 ·rw [if_pos c4] at H
  have c4b0:decide (63 < (ji3))=true:=decide_eq_true c4
  clear c4
  simp only [Option.some.injEq,Prod.mk.injEq] at H
  obtain ⟨rfl,rfl⟩ :=H
  go_enter Tryd.func92,Tryd.ntmps92
  go_wp2_with (first | ((with_reducible refine gate_dst (N:=2) rfl ?_); refine box_event ?hg (N:=2) ?hd (cs:=#[.int .u64 a0_0,.bool a0_1]) (t:=24) ?hr ?_; (case hd=>rfl); (case hg=>rfl); (case hr=>first | (go_simp; done) | (go_simp; rfl)); intro gb139 hg w5 hbox hb; have n0_:=Aside0.mk (below_step (by repeat (first | (with_reducible first | exact HB.out | apply below_alloc | apply pw_below_drewN | apply below_drew1) | exact HB.out)) hb); have n1_:=Aside0.mk (hbox); have n2_:=Aside0.mk ((by rw [hg]; exact (below_size (by repeat (first | (with_reducible first | exact HB.out | apply below_alloc | apply pw_below_drewN | apply below_drew1) | exact HB.out))):w.heap.size≤gb139)); have n3_:=Aside0.mk ((by rw [hg]; exact (below_size (by repeat (first | (with_reducible first | exact HB.out | apply below_alloc | apply pw_below_drewN | apply below_drew1) | exact HB.out))):w.heap.size≤gb139)); clear HB; have HB:=n0_; have BK139:=n1_; have GW139:=n2_; have GE139:=n3_; clear n0_ n1_ n2_ n3_; clear hb hbox hg))
  go_ret2
  exact ⟨by first | rfl | (simp [errW_none,errW_some] <;> rfl) | (simp only [← hji3]; first | rfl | (simp [errW_none,errW_some] <;> rfl)) | (simp [*,errW_none,errW_some] <;> rfl),by repeat (first | (with_reducible first | exact HB.out | apply below_alloc | apply pw_below_drewN | apply below_drew1 | refine below_set ?_ GE139.out) | exact HB.out)⟩
 ·rw [if_neg c4] at H
  have c4b0:decide (63 < (ji3))=false:=decide_eq_false c4
  clear c4
  obtain ⟨ji6,hji6⟩:∃ j_:Int,(IntKind.u64.wrap (ji3))=j_:=⟨_,rfl⟩
  replace H:(if 0≤(ji6) then (if (shl .u64 (shr .u64 a0_0 (ji6)) (ji6))=0 then (some (0,false)) else ((bits_TrailingZeros64.f (shl .u64 (shr .u64 a0_0 (ji6)) (ji6))).bind fun t140=>(some (t140,true)))) else (none))=some (r1,r2):=by first | (rw [hji6] at H; exact H) | (simp only [hji6] at H ⊢; exact H)
  by_cases c7:0≤(ji6)
  ·rw [if_pos c7] at H
   have c7b0:=eq_true c7
   have c7b1:decide (0≤(ji6))=true:=decide_eq_true c7
   clear c7
   obtain ⟨ji8,hji8⟩:∃ j_:Int,(shr .u64 a0_0 (ji6))=j_:=⟨_,rfl⟩
   replace H:(if (shl .u64 (ji8) (ji6))=0 then (some (0,false)) else ((bits_TrailingZeros64.f (shl .u64 (ji8) (ji6))).bind fun t140=>(some (t140,true))))=some (r1,r2):=by first | (rw [hji8] at H; exact H) | (simp only [hji8] at H ⊢; exact H)
   have hji8_:(a0_0 / 2 ^ min (ji6).toNat 64)=ji8:=hji8
   have hji8z:(ji6)≤64→(a0_0 / 2 ^ (ji6).toNat)=ji8:=shr_small hji8
   have c9b0:=eq_true (of_decide_eq_true (by first | (with_reducible assumption) | assumption):0≤(ji6))
   obtain ⟨ji10,hji10⟩:∃ j_:Int,(shl .u64 (ji8) (ji6))=j_:=⟨_,rfl⟩
   replace H:(if (ji10)=0 then (some (0,false)) else ((bits_TrailingZeros64.f (ji10)).bind fun t140=>(some (t140,true))))=some (r1,r2):=by first | (rw [hji10] at H; exact H) | (simp only [hji10] at H ⊢; exact H)
   have hji10_:(IntKind.u64.wrap ((ji8)*2 ^ min (ji6).toNat 64))=ji10:=hji10
   have hji10z:(ji6)≤64→(IntKind.u64.wrap ((ji8)*2 ^ (ji6).toNat))=ji10:=shl_small hji10
   by_cases c11:(ji10)=0
   ·rw [if_pos c11] at H
    have c11b0:((ji10) == 0)=true:=beq_iff_eq.mpr c11
    have c11b1:((ji10) != 0)=false:=bne_eq_false_iff_eq.mpr c11
    clear c11
    simp only [Option.some.injEq,Prod.mk.injEq] at H
    obtain ⟨rfl,rfl⟩ :=H
    go_enter Tryd.func92,Tryd.ntmps92
    go_wp2_with (first | ((with_reducible refine gate_dst (N:=2) rfl ?_); refine box_event ?hg (N:=2) ?hd (cs:=#[.int .u64 a0_0,.bool a0_1]) (t:=24) ?hr ?_; (case hd=>rfl); (case hg=>rfl); (case hr=>first | (go_simp; done) | (go_simp; rfl)); intro gb139 hg w12 hbox hb; have n0_:=Aside0.mk (below_step (by repeat (first | (with_reducible first | exact HB.out | apply below_alloc | apply pw_below_drewN | apply below_drew1) | exact HB.out)) hb); have n1_:=Aside0.mk (hbox); have n2_:=Aside0.mk ((by rw [hg]; exact (below_size (by repeat (first | (with_reducible first | exact HB.out | apply below_alloc | apply pw_below_drewN | apply below_drew1) | exact HB.out))):w.heap.size≤gb139)); have n3_:=Aside0.mk ((by rw [hg]; exact (below_size (by repeat (first | (with_reducible first | exact HB.out | apply below_alloc | apply pw_below_drewN | apply below_drew1) | exact HB.out))):w.heap.size≤gb139)); clear HB; have HB:=n0_; have BK139:=n1_; have GW139:=n2_; have GE139:=n3_; clear n0_ n1_ n2_ n3_; clear hb hbox hg; have hcz13_0:w12.cell? ⟨gb139,0,none⟩=some (.int .u64 a0_0):=(blk_cell BK139.out 0).trans rfl; have hcz13_1:w12.cell? ⟨gb139,1,none⟩=some (.bool a0_1):=(blk_cell BK139.out 1).trans rfl; have hfz13_0:=blk_frozen BK139.out 0; have hfz13_1:=blk_frozen BK139.out 1))
    go_ret2
    exact ⟨by first | rfl | (simp [errW_none,errW_some] <;> rfl) | (simp only [← hji3,← hji6,← hji8,← hji10]; first | rfl | (simp [errW_none,errW_some] <;> rfl)) | (simp [*,errW_none,errW_some] <;> rfl),by repeat (first | (with_reducible first | exact HB.out | apply below_alloc | apply pw_below_drewN | apply below_drew1 | refine below_set ?_ GE139.out) | exact HB.out)⟩
   ·rw [if_neg c11] at H
    have c11b0:((ji10) == 0)=false:=beq_eq_false_iff_ne.mpr c11
    have c11b1:((ji10) != 0)=true:=bne_iff_ne.mpr c11
    replace H:=Option.bind_eq_some_iff.mp H
    obtain ⟨t140,A140,H⟩ :=H
    replace H:(some (t140,true))=some (r1,r2):=H
    have A14:=Aside0.mk A140
    clear A140
    simp only [Option.some.injEq,Prod.mk.injEq] at H
    obtain ⟨rfl,rfl⟩ :=H
    go_enter Tryd.func92,Tryd.ntmps92
    go_wp2_with (first | ((with_reducible refine gate_dst (N:=2) rfl ?_); refine box_event ?hg (N:=2) ?hd (cs:=#[.int .u64 a0_0,.bool a0_1]) (t:=24) ?hr ?_; (case hd=>rfl); (case hg=>rfl); (case hr=>first | (go_simp; done) | (go_simp; rfl)); intro gb139 hg w15 hbox hb; have n0_:=Aside0.mk (below_step (by repeat (first | (with_reducible first | exact HB.out | apply below_alloc | apply pw_below_drewN | apply below_drew1) | exact HB.out)) hb); have n1_:=Aside0.mk (hbox); have n2_:=Aside0.mk ((by rw [hg]; exact (below_size (by repeat (first | (with_reducible first | exact HB.out | apply below_alloc | apply pw_below_drewN | apply below_drew1) | exact HB.out))):w.heap.size≤gb139)); have n3_:=Aside0.mk ((by rw [hg]; exact (below_size (by repeat (first | (with_reducible first | exact HB.out | apply below_alloc | apply pw_below_drewN | apply below_drew1) | exact HB.out))):w.heap.size≤gb139)); clear HB; have HB:=n0_; have BK139:=n1_; have GW139:=n2_; have GE139:=n3_; clear n0_ n1_ n2_ n3_; clear hb hbox hg; have hcz16_0:w15.cell? ⟨gb139,0,none⟩=some (.int .u64 a0_0):=(blk_cell BK139.out 0).trans rfl; have hcz16_1:w15.cell? ⟨gb139,1,none⟩=some (.bool a0_1):=(blk_cell BK139.out 1).trans rfl; have hfz16_0:=blk_frozen BK139.out 0; have hfz16_1:=blk_frozen BK139.out 1) | ((with_reducible refine gate_callee (f:=101) rfl ?_); refine goesL_ (some 22) rfl rfl Tryd.func101 (by kernel_rfl) rfl #[.int .u64 ji10] rfl (by (try simp only [List.map_toArray,List.map_cons,List.map_nil]); first | done | (simp only [hji10]; rfl) | rfl | (simp only [List.length_drop,List.length_take]; rfl)) ?_; (with_reducible refine (bits_TrailingZeros64.calls ji10 t140 _ (hT.keep (by repeat (first | (with_reducible first | exact HB.out | apply below_alloc | apply pw_below_drewN | apply below_drew1 | refine below_set ?_ GE139.out) | exact HB.out))) A14.out).mono ?_); rintro e w' ⟨rfl,⟨nd,rfl⟩⟩; refine ⟨_,rfl,?_⟩))
    go_ret2
    exact ⟨by first | rfl | (simp [errW_none,errW_some] <;> rfl) | (simp only [← hji3,← hji6,← hji8,← hji10]; first | rfl | (simp [errW_none,errW_some] <;> rfl)) | (simp [*,errW_none,errW_some] <;> rfl),by repeat (first | (with_reducible first | exact HB.out | apply below_alloc | apply pw_below_drewN | apply below_drew1 | refine below_set ?_ GE139.out) | exact HB.out)⟩
  ·rw [if_neg c7] at H
   exact absurd H (by simp)
/-! This session's own: next.soon. -/
set_option maxHeartbeats 8000000 in
set_option maxRecDepth 100000 in
theorem Nx.soon1 (gx:Nat)(b0:Int)(s0:Bool)(b1:Int)(s1:Bool)(b2:Int)(s2:Bool)(b3:Int)(s3:Bool)(b4:Int)(s4:Bool)(h m:Int)(ok:Bool)(A:field_First.f b0 s0 0=some (m,ok))(W:World)(hT:Tab W)(hR:Spc.Row W gx b0 s0 b1 s1 b2 s2 b3 s3 b4 s4) :
  Calls Tryd.prog 95 #[.int .i64 h,.pointer (some ⟨gx,0,none⟩)] W fun e w'=>e=.returned (.tuple #[.int .i64 (wrap64 (wrap64 (h*60)+m)),.bool true])∧Below W.heap.size W w':=by
 replace A:=Lib.hid A
 obtain ⟨k0,k1,k2,k3,k4,k5,k6,k7,k8,k9⟩ :=hR.cells
 go_enter Tryd.func95,Tryd.ntmps95
 go_wp2_with (go_at_call 92; refine (field_First.calls _ _ _ _ _ _ hT A.out).mono ?_; rintro e w' ⟨rfl,hb⟩)
 go_ret2
 exact ⟨rfl,hb⟩
set_option maxHeartbeats 8000000 in
set_option maxRecDepth 100000 in
theorem Nx.soon_calls (b0:Int)(s0:Bool)(b1:Int)(s1:Bool)(b2:Int)(s2:Bool)(b3:Int)(s3:Bool)(b4:Int)(s4:Bool)(t m:Int)(ok:Bool)(A:field_First.f b0 s0 (Int.tmod t 60)=some (m,ok))(q:Bool)(B:(if ok=true then field_Has.f b1 s1 (wrap64 (Int.tdiv t 60)) else some false)=some q)
  (h:Int) (oh:Bool) (C:q=false→field_First.f b1 s1 (wrap64 (wrap64 (Int.tdiv t 60)+1))=some (h,oh)) (u:Int) (ou:Bool) (D:q=false→oh=true→field_First.f b0 s0 0=some (u,ou)) (W:World) (hT:Tab W) :
  Calls Tryd.prog 80 #[.agg #[.int .u64 b0,.bool s0,.int .u64 b1,.bool s1,.int .u64 b2,.bool s2,.int .u64 b3,.bool s3,.int .u64 b4,.bool s4],.int .i64 t] W fun e w'=>
   e=.returned (.tuple #[.int .i64 (if q=true then wrap64 (wrap64 (wrap64 (Int.tdiv t 60)*60)+m) else if oh=true then wrap64 (wrap64 (h*60)+u) else 0),.bool (q || oh)])∧Below W.heap.size W w':=by
 replace A:=Lib.hid A
 replace B:=Lib.hid B
 replace C:=Lib.hid C
 replace D:=Lib.hid D
 have HR:Aside0 (Spc.Row (W.alloc (.cells #[.int .u64 b0,.bool s0,.int .u64 b1,.bool s1,.int .u64 b2,.bool s2,.int .u64 b3,.bool s3,.int .u64 b4,.bool s4] 26)) W.heap.size b0 s0 b1 s1 b2 s2 b3 s3 b4 s4∧Below W.heap.size W (W.alloc (.cells #[.int .u64 b0,.bool s0,.int .u64 b1,.bool s1,.int .u64 b2,.bool s2,.int .u64 b3,.bool s3,.int .u64 b4,.bool s4] 26))):=⟨⟨blk_new W _,below_alloc (Below.refl _ _) _⟩⟩
 go_enter Tryd.func80,Tryd.ntmps80
 go_wp2_with fail
 generalize W.alloc (.cells #[.int .u64 b0,.bool s0,.int .u64 b1,.bool s1,.int .u64 b2,.bool s2,.int .u64 b3,.bool s3,.int .u64 b4,.bool s4] 26)=W1 at HR ⊢
 have HT1:=Aside0.mk (hT.keep HR.out.2)
 clear hT
 refine (field_First.calls _ _ _ _ _ _ HT1.out A.out).mono ?_
 rintro e W2 ⟨rfl,hb⟩
 have HR2:Aside0 (Spc.Row W2 W.heap.size b0 s0 b1 s1 b2 s2 b3 s3 b4 s4∧Below W.heap.size W W2):=⟨⟨blk_below HR.out.1 hb,below_step HR.out.2 hb⟩⟩
 have HT2:=Aside0.mk (HT1.out.keep hb)
 clear HR hb A HT1
 obtain ⟨k0,k1,k2,k3,k4,k5,k6,k7,k8,k9⟩ :=HR2.out.1.cells
 cases ok with
 | true=>
  replace B:Hid (field_Has.f b1 s1 (wrap64 (Int.tdiv t 60))=some q):=Lib.hid (by have:=B.out; rwa [if_pos rfl] at this)
  go_wp2_with fail
  refine (field_Has.calls _ _ _ _ _ B.out).mono ?_
  rintro e W2b ⟨rfl,hb⟩
  have HR:Aside0 (Spc.Row W2b W.heap.size b0 s0 b1 s1 b2 s2 b3 s3 b4 s4∧Below W.heap.size W W2b):=⟨⟨blk_below HR2.out.1 hb,below_step HR2.out.2 hb⟩⟩
  have HT:=Aside0.mk (HT2.out.keep hb)
  clear HR2 hb B HT2 k0 k1 k2 k3 k4 k5 k6 k7 k8 k9
  obtain ⟨k0,k1,k2,k3,k4,k5,k6,k7,k8,k9⟩ :=HR.out.1.cells
  cases q with
  | true=>
   go_wp2_with fail
   go_ret2
   exact ⟨rfl,HR.out.2⟩
  | false=>
   replace C:=Lib.hid (C.out rfl)
   replace D:=Lib.hid (D.out rfl)
   go_wp2_with fail
   refine (field_First.calls _ _ _ _ _ _ HT.out C.out).mono ?_
   rintro e W3 ⟨rfl,hb⟩
   have HR3:Aside0 (Spc.Row W3 W.heap.size b0 s0 b1 s1 b2 s2 b3 s3 b4 s4∧Below W.heap.size W W3):=⟨⟨blk_below HR.out.1 hb,below_step HR.out.2 hb⟩⟩
   have HT3:=Aside0.mk (HT.out.keep hb)
   clear HR hb C HT k0 k1 k2 k3 k4 k5 k6 k7 k8 k9
   obtain ⟨k0,k1,k2,k3,k4,k5,k6,k7,k8,k9⟩ :=HR3.out.1.cells
   cases oh with
   | true=>
    replace D:=Lib.hid (D.out rfl)
    go_wp2_with fail
    refine (Nx.soon1 W.heap.size b0 s0 b1 s1 b2 s2 b3 s3 b4 s4 h u ou D.out _ HT3.out HR3.out.1).mono ?_
    rintro e W4 ⟨rfl,hb⟩
    go_wp2_with fail
    go_ret2
    exact ⟨rfl,below_step HR3.out.2 hb⟩
   | false=>
    go_wp2_with fail
    go_ret2
    exact ⟨rfl,HR3.out.2⟩
 | false=>
  obtain rfl:false=q:=Option.some.inj (by have:=B.out; rwa [if_neg (by decide)] at this)
  have HR:=HR2
  have HT:=HT2
  clear HR2 HT2
  replace C:=Lib.hid (C.out rfl)
  replace D:=Lib.hid (D.out rfl)
  go_wp2_with fail
  refine (field_First.calls _ _ _ _ _ _ HT.out C.out).mono ?_
  rintro e W3 ⟨rfl,hb⟩
  have HR3:Aside0 (Spc.Row W3 W.heap.size b0 s0 b1 s1 b2 s2 b3 s3 b4 s4∧Below W.heap.size W W3):=⟨⟨blk_below HR.out.1 hb,below_step HR.out.2 hb⟩⟩
  have HT3:=Aside0.mk (HT.out.keep hb)
  clear HR hb C HT k0 k1 k2 k3 k4 k5 k6 k7 k8 k9
  obtain ⟨k0,k1,k2,k3,k4,k5,k6,k7,k8,k9⟩ :=HR3.out.1.cells
  cases oh with
  | true=>
   replace D:=Lib.hid (D.out rfl)
   go_wp2_with fail
   refine (Nx.soon1 W.heap.size b0 s0 b1 s1 b2 s2 b3 s3 b4 s4 h u ou D.out _ HT3.out HR3.out.1).mono ?_
   rintro e W4 ⟨rfl,hb⟩
   go_wp2_with fail
   go_ret2
   exact ⟨rfl,below_step HR3.out.2 hb⟩
  | false=>
   go_wp2_with fail
   go_ret2
   exact ⟨rfl,HR3.out.2⟩
def next_soon.f (a0_0:Int)(a0_1:Bool)(a0_2:Int)(a0_3:Bool)(a0_4:Int)(a0_5:Bool)(a0_6:Int)(a0_7:Bool)(a0_8:Int)(a0_9:Bool)(a1:Int):Option (Int × Bool):=(field_First.f a0_0 a0_1 (Int.tmod a1 60)).bind fun p=>(if p.2=true then field_Has.f a0_2 a0_3 (wrap64 (Int.tdiv a1 60)) else some false).bind fun q=>if q=true then some (wrap64 (wrap64 (wrap64 (Int.tdiv a1 60)*60)+p.1),true) else (field_First.f a0_2 a0_3 (wrap64 (wrap64 (Int.tdiv a1 60)+1))).bind fun r=>if r.2=true then (field_First.f a0_0 a0_1 0).bind fun u=>some (wrap64 (wrap64 (r.1*60)+u.1),true) else some (0,false)
set_option maxHeartbeats 8000000 in
set_option maxRecDepth 100000 in
theorem next_soon.calls (a0_0:Int)(a0_1:Bool)(a0_2:Int)(a0_3:Bool)(a0_4:Int)(a0_5:Bool)(a0_6:Int)(a0_7:Bool)(a0_8:Int)(a0_9:Bool)(a1:Int)(r1:Int)(r2:Bool)(w:World)(hT:Tab w)(h:next_soon.f a0_0 a0_1 a0_2 a0_3 a0_4 a0_5 a0_6 a0_7 a0_8 a0_9 a1=some (r1,r2)) :
  Calls Tryd.prog 80 #[.agg #[.int .u64 a0_0,.bool a0_1,.int .u64 a0_2,.bool a0_3,.int .u64 a0_4,.bool a0_5,.int .u64 a0_6,.bool a0_7,.int .u64 a0_8,.bool a0_9],.int .i64 a1] w fun e w'=>e=.returned (.tuple #[.int .i64 r1,.bool r2])∧Below w.heap.size w w':=by
 have HB:=Aside0.mk (Below.refl w.heap.size w)
 have hh:((field_First.f a0_0 a0_1 (Int.tmod a1 60)).bind fun p=>(if p.2=true then field_Has.f a0_2 a0_3 (wrap64 (Int.tdiv a1 60)) else some false).bind fun q=>if q=true then some (wrap64 (wrap64 (wrap64 (Int.tdiv a1 60)*60)+p.1),true) else (field_First.f a0_2 a0_3 (wrap64 (wrap64 (Int.tdiv a1 60)+1))).bind fun r=>if r.2=true then (field_First.f a0_0 a0_1 0).bind fun u=>some (wrap64 (wrap64 (r.1*60)+u.1),true) else some (0,false))=some (r1,r2):=h
 clear h
 obtain ⟨⟨m,ok⟩,A,hh⟩ :=Option.bind_eq_some_iff.1 hh
 obtain ⟨q,B,hh⟩ :=Option.bind_eq_some_iff.1 hh
 dsimp only at B hh
 cases q with
 | true=>
  rw [if_pos rfl] at hh
  have k:=Nx.soon_calls a0_0 a0_1 a0_2 a0_3 a0_4 a0_5 a0_6 a0_7 a0_8 a0_9 a1 m ok A true B 0 true (fun e=>by cases e) 0 true (fun e=>by cases e) w hT
  rw [if_pos rfl] at k
  obtain ⟨rfl,rfl⟩ :=Prod.mk.inj (Option.some.inj hh)
  exact k
 | false=>
  rw [if_neg (by decide)] at hh
  obtain ⟨⟨x,ox⟩,C,hh⟩ :=Option.bind_eq_some_iff.1 hh
  dsimp only at hh
  cases ox with
  | true=>
   rw [if_pos rfl] at hh
   obtain ⟨⟨u,ou⟩,D,hh⟩ :=Option.bind_eq_some_iff.1 hh
   have k:=Nx.soon_calls a0_0 a0_1 a0_2 a0_3 a0_4 a0_5 a0_6 a0_7 a0_8 a0_9 a1 m ok A false B x true (fun _=>C) u ou (fun _ _=>D) w hT
   rw [if_neg (by decide),if_pos rfl] at k
   obtain ⟨rfl,rfl⟩ :=Prod.mk.inj (Option.some.inj hh)
   exact k
  | false=>
   rw [if_neg (by decide)] at hh
   have k:=Nx.soon_calls a0_0 a0_1 a0_2 a0_3 a0_4 a0_5 a0_6 a0_7 a0_8 a0_9 a1 m ok A false B x false (fun _=>C) 0 true (fun _ e=>by cases e) w hT
   rw [if_neg (by decide),if_neg (by decide)] at k
   obtain ⟨rfl,rfl⟩ :=Prod.mk.inj (Option.some.inj hh)
   exact k
end Go.Proofs.YtepflnfnkfkldaaDoor.PRea
