-- Written by a program of this session (gprint.py) over the kit's print.
import Derived.Test.YtepflnfnkfkldaaDoorPReax0
import Derived.Test.YtepflnfnkfkldaaDoorPReax6
import Derived.Test.YtepflnfnkfkldaaDoorPReax7
import Derived.Test.YtepflnfnkfkldaaDoorPReax8
import Derived.Test.YtepflnfnkfkldaaDoorPReax21
namespace Go.Proofs.YtepflnfnkfkldaaDoor.PRea
open Go.RowKit Go.Proofs.YtepflnfnkfkldaaDoorW.PrintWords Go.Proofs.YtepflnfnkfkldaaDoorW.PrintLast Go.Proofs.YtepflnfnkfkldaaDoorW.PrintMore
attribute [local go_sem] max2_int min2_int max_two min_two max_three min_three max_four min_four
set_option linter.unusedVariables false
set_option linter.unusedSimpArgs false
/-! This session's own: bits.OnesCount32. -/
theorem Nx.and255 (y:Int)(h0:0≤y)(h1:y < 4294967296):Go.bits .and .u32 y 255=y % 256:=by
 obtain ⟨n,rfl⟩ :=Int.eq_ofNat_of_zero_le h0
 rw [show (255:Int)=((255:Nat):Int) from rfl,(bits_nat .u32 32 (by decide) (fun z q0 q1=>by simp [IntKind.wrap,IntKind.bits,IntKind.signed]; omega) n 255 (by omega) (by decide)).1]
 rw [show (255:Nat)=2 ^ 8 - 1 from rfl,Nat.and_two_pow_sub_one_eq_mod]
 omega
theorem Nx.popA_zero:∀ f,Lib.popAux f 0=0
 | 0=>rfl
 | f+1=>by rw [Lib.popAux,show (0:Nat) / 2=0 from rfl,Nx.popA_zero f]
theorem Nx.popA_split:∀ (k f x:Nat),Lib.popAux (k+f) x=Lib.popAux k x+Lib.popAux f (x / 2 ^ k)
 | 0,f,x=>by rw [Nat.zero_add,Nat.pow_zero,Nat.div_one]; exact (Nat.zero_add _).symm
 | k+1,f,x=>by
  rw [show k+1+f=(k+f)+1 by omega,Lib.popAux,Nx.popA_split k f (x / 2),Lib.popAux,Nat.div_div_eq_div_mul,← Nat.pow_succ',Nat.add_assoc]
theorem Nx.popA_mod:∀ (k x:Nat),Lib.popAux k (x % 2 ^ k)=Lib.popAux k x
 | 0,x=>rfl
 | k+1,x=>by
  have e:x % 2 ^ (k+1)=2*(x / 2 % 2 ^ k)+x % 2:=by
   rw [Nat.pow_succ',Nat.mod_mul]
   omega
  rw [Lib.popAux,Lib.popAux,e,show (2*(x / 2 % 2 ^ k)+x % 2) % 2=x % 2 by omega,show (2*(x / 2 % 2 ^ k)+x % 2) / 2=x / 2 % 2 ^ k by omega,Nx.popA_mod k (x / 2)]
theorem Nx.popA_le:∀ (k x:Nat),Lib.popAux k x≤k
 | 0,_=>Nat.le_refl _
 | k+1,x=>by have:=Nx.popA_le k (x / 2); rw [Lib.popAux]; omega
theorem Nx.pop8_of (b:Int)(h0:0≤b)(h1:b≤255):Lib.pop8 b=(Lib.popAux 8 b.toNat:Int):=by
 have e:=Lib.pop8_eq ⟨b.toNat,by omega⟩
 simp only [Int.toNat_of_nonneg h0] at e
 rw [e]
 unfold Lib.onesCount
 rw [show (64:Nat)=8+56 from rfl,Nx.popA_split,show b.toNat / 2 ^ 8=0 by omega,Nx.popA_zero,Nat.add_zero]
theorem Nx.pop_sum (x:Int)(h0:0≤x)(h1:x < 4294967296):(Lib.pop8 (x / 16777216)+Lib.pop8 (x / 65536 % 256)+Lib.pop8 (x / 256 % 256)+Lib.pop8 (x % 256)) % 256=(Lib.onesCount x.toNat:Int):=by
 obtain ⟨n,rfl⟩ :=Int.eq_ofNat_of_zero_le h0
 rw [Nx.pop8_of _ (by omega) (by omega),Nx.pop8_of _ (by omega) (by omega),Nx.pop8_of _ (by omega) (by omega),Nx.pop8_of _ (by omega) (by omega)]
 rw [show ((n:Int) / 16777216).toNat=n / 2 ^ 24 by omega,show ((n:Int) / 65536 % 256).toNat=n / 2 ^ 16 % 2 ^ 8 by omega,show ((n:Int) / 256 % 256).toNat=n / 2 ^ 8 % 2 ^ 8 by omega,show ((n:Int) % 256).toNat=n % 2 ^ 8 by omega,Nx.popA_mod,Nx.popA_mod,Nx.popA_mod]
 have e:Lib.onesCount n=Lib.popAux 8 n+(Lib.popAux 8 (n / 2 ^ 8)+(Lib.popAux 8 (n / 2 ^ 16)+Lib.popAux 8 (n / 2 ^ 24))):=by
  unfold Lib.onesCount
  rw [show (64:Nat)=8+(8+(8+(8+32))) from rfl,Nx.popA_split,Nx.popA_split,Nx.popA_split,Nx.popA_split,Nat.div_div_eq_div_mul,Nat.div_div_eq_div_mul,Nat.div_div_eq_div_mul,← Nat.pow_add,← Nat.pow_add,← Nat.pow_add,show n / 2 ^ (8+(8+(8+8)))=0 by omega,Nx.popA_zero]
  rfl
 have l1:=Nx.popA_le 8 n
 have l2:=Nx.popA_le 8 (n / 2 ^ 8)
 have l3:=Nx.popA_le 8 (n / 2 ^ 16)
 have l4:=Nx.popA_le 8 (n / 2 ^ 24)
 rw [Int.toNat_natCast,e]
 omega
theorem Nx.pop8_get (y:Int)(h:y.toNat < Lib.pop8tab.size):((Lib.pop8tab[y.toNat]'h).toNat:Int)=Lib.pop8 y:=by
 unfold Lib.pop8
 rw [getElem?_pos Lib.pop8tab y.toNat h]
 rfl
section
attribute [local go_sem] List.append_eq List.cons_append List.nil_append
set_option maxHeartbeats 4000000 in
set_option maxRecDepth 100000 in
theorem Nx.ones32_calls (x:Int)(h0:0≤x)(h1:x < 4294967296)(w:World) :
  Calls Tryd.prog 37 #[.int .u32 x] w fun e w'=>e=.returned (.int .i64 (Lib.onesCount x.toNat))∧Drawn0 w w':=by
 have s:(Lib.pop8tab.size:Int)=256:=by rw [Lib.pop8tab_size]; rfl
 have e16:=Nx.and255 (x / 65536) (by omega) (by omega)
 have e8:=Nx.and255 (x / 256) (by omega) (by omega)
 have e0:=Nx.and255 x h0 h1
 have r24:0≤x / 16777216∧x / 16777216 < (Lib.pop8tab.size:Int):=by omega
 have r16:0≤x / 65536 % 256∧x / 65536 % 256 < (Lib.pop8tab.size:Int):=by omega
 have r8:0≤x / 256 % 256∧x / 256 % 256 < (Lib.pop8tab.size:Int):=by omega
 have r0:0≤x % 256∧x % 256 < (Lib.pop8tab.size:Int):=by omega
 clear s
 go_enter Tryd.func37,Tryd.ntmps37
 go_wp2
 go_region
 go_wp2
 go_ret
 refine ⟨congrArg (fun z=>Ending.returned (.int .i64 z)) ?_,(Drawn0.refl w).step 1⟩
 rw [Nx.pop8_get]
 exact Nx.pop_sum x h0 h1
end
def bits_OnesCount32.f (a0:Int):Option (Int):=if 0≤a0∧a0 < 4294967296 then some ((Lib.onesCount a0.toNat:Nat):Int) else none
set_option maxHeartbeats 8000000 in
set_option maxRecDepth 100000 in
theorem bits_OnesCount32.calls (a0:Int)(r:Int)(w:World)(h:bits_OnesCount32.f a0=some r) :
  Calls Tryd.prog 37 #[.int .u32 a0] w fun e w'=>e=.returned (.int .i64 r)∧Drawn0 w w':=by
 unfold bits_OnesCount32.f at h
 split at h
 ·rename_i hb
  obtain rfl:=Option.some.inj h
  exact Nx.ones32_calls a0 hb.1 hb.2 w
 ·cases h
mutual
def next_ahead.l0:Nat→Int→Int→Int→Int→Bool→Int→Bool→Int→Bool→Int→Bool→Int→Bool→Int→Bool→Option (Int)
 | 0,_,_,_,_,_,_,_,_,_,_,_,_,_,_,_=>none
 | k+1,x1,x5,x6,x7,x8,x349000,x349001,x349002,x349003,x349004,x349005,x349006,x349007,x349008,x349009=>if x8=true then (next_ahead.j1 k x1 x5 x6 x7 (decide ((wrap64 (x7*60)) < x1)) x349000 x349001 x349002 x349003 x349004 x349005 x349006 x349007 x349008 x349009) else (next_ahead.j1 k x1 x5 x6 x7 false x349000 x349001 x349002 x349003 x349004 x349005 x349006 x349007 x349008 x349009)
def next_ahead.j1:Nat→Int→Int→Int→Int→Bool→Int→Bool→Int→Bool→Int→Bool→Int→Bool→Int→Bool→Option (Int)
 | 0,_,_,_,_,_,_,_,_,_,_,_,_,_,_,_=>none
 | k+1,x1,x5,x6,x7,x24,x349000,x349001,x349002,x349003,x349004,x349005,x349006,x349007,x349008,x349009=>if x24=true then (if (wrap64 ((wrap64 (x7+1))*60))≤x1 then ((field_First.f x349002 x349003 (wrap64 (x7+1))).bind fun bt352=>(next_ahead.l0 k x1 (wrap64 (x5+x6)) x6 bt352.1 bt352.2 x349000 x349001 x349002 x349003 x349004 x349005 x349006 x349007 x349008 x349009)) else (if 0≤(IntKind.u64.wrap (Int.tmod x1 60)) then ((bits_OnesCount64.f (Go.bits .and .u64 x349000 (IntKind.u64.wrap ((shl .u64 1 (IntKind.u64.wrap (Int.tmod x1 60))) - 1)))).bind fun t354=>((field_First.f x349002 x349003 (wrap64 (x7+1))).bind fun bt355=>(next_ahead.l0 k x1 (wrap64 (x5+t354)) x6 bt355.1 bt355.2 x349000 x349001 x349002 x349003 x349004 x349005 x349006 x349007 x349008 x349009))) else (none))) else (some x5)
end
def next_ahead.f (k:Nat)(a0_0:Int)(a0_1:Bool)(a0_2:Int)(a0_3:Bool)(a0_4:Int)(a0_5:Bool)(a0_6:Int)(a0_7:Bool)(a0_8:Int)(a0_9:Bool)(a1:Int):Option (Int):=(field_Count.f a0_0 a0_1).bind fun t349=>((field_First.f a0_2 a0_3 0).bind fun bt350=>(next_ahead.l0 k a1 0 t349 bt350.1 bt350.2 a0_0 a0_1 a0_2 a0_3 a0_4 a0_5 a0_6 a0_7 a0_8 a0_9))
set_option maxHeartbeats 8000000 in
set_option maxRecDepth 100000 in
theorem next_ahead.calls (k:Nat)(a0_0:Int)(a0_1:Bool)(a0_2:Int)(a0_3:Bool)(a0_4:Int)(a0_5:Bool)(a0_6:Int)(a0_7:Bool)(a0_8:Int)(a0_9:Bool)(a1:Int)(r:Int)(w:World)(hT:Tab w)(h:next_ahead.f k a0_0 a0_1 a0_2 a0_3 a0_4 a0_5 a0_6 a0_7 a0_8 a0_9 a1=some r) :
  Calls Tryd.prog 62 #[.agg #[.int .u64 a0_0,.bool a0_1,.int .u64 a0_2,.bool a0_3,.int .u64 a0_4,.bool a0_5,.int .u64 a0_6,.bool a0_7,.int .u64 a0_8,.bool a0_9],.int .i64 a1] w fun e w'=>e=.returned (.int .i64 r)∧Below w.heap.size w w':=by
 have hu26:=Tryd.underlying26
 have hu24:=Tryd.underlying24
 have HB:=Aside0.mk (Below.refl w.heap.size w)
 have H:((field_Count.f a0_0 a0_1).bind fun t349=>((field_First.f a0_2 a0_3 0).bind fun bt350=>(next_ahead.l0 k a1 0 t349 bt350.1 bt350.2 a0_0 a0_1 a0_2 a0_3 a0_4 a0_5 a0_6 a0_7 a0_8 a0_9)))=some r:=h
 clear h
 replace H:=Option.bind_eq_some_iff.mp H
 obtain ⟨t349,A30,H⟩ :=H
 replace H:((field_First.f a0_2 a0_3 0).bind fun bt350=>(next_ahead.l0 k a1 0 t349 bt350.1 bt350.2 a0_0 a0_1 a0_2 a0_3 a0_4 a0_5 a0_6 a0_7 a0_8 a0_9))=some r:=H
 have A3:=Aside0.mk A30
 clear A30
 replace H:=Option.bind_eq_some_iff.mp H
 obtain ⟨⟨t350,t351⟩,A40,H⟩ :=H
 replace H:(next_ahead.l0 k a1 0 t349 t350 t351 a0_0 a0_1 a0_2 a0_3 a0_4 a0_5 a0_6 a0_7 a0_8 a0_9)=some r:=H
 have A4:=Aside0.mk A40
 clear A40
 have H':=Aside0.mk H
 clear H
 go_enter Tryd.func62,Tryd.ntmps62
 go_wp2_with (first | ((with_reducible refine gate_dst (N:=2) rfl ?_); refine box_event ?hg (N:=2) ?hd (cs:=#[.int .u64 a0_0,.bool a0_1,.int .u64 a0_2,.bool a0_3,.int .u64 a0_4,.bool a0_5,.int .u64 a0_6,.bool a0_7,.int .u64 a0_8,.bool a0_9]) (t:=26) ?hr ?_; (case hd=>rfl); (case hg=>rfl); (case hr=>first | (go_simp; done) | (go_simp; rfl)); intro gb348 hg w5 hbox hb; have n0_:=Aside0.mk (below_step (by repeat (first | (with_reducible first | exact HB.out | apply below_alloc | apply pw_below_drewN | apply below_drew1) | exact HB.out)) hb); have n1_:=Aside0.mk (hbox); have n2_:=Aside0.mk ((by rw [hg]; exact (below_size (by repeat (first | (with_reducible first | exact HB.out | apply below_alloc | apply pw_below_drewN | apply below_drew1) | exact HB.out))):w.heap.size≤gb348)); have n3_:=Aside0.mk ((by rw [hg]; exact (below_size (by repeat (first | (with_reducible first | exact HB.out | apply below_alloc | apply pw_below_drewN | apply below_drew1) | exact HB.out))):w.heap.size≤gb348)); clear HB; have HB:=n0_; have BK348:=n1_; have GW348:=n2_; have GE348:=n3_; clear n0_ n1_ n2_ n3_; clear hb hbox hg; have hcz6_0:w5.cell? ⟨gb348,0,none⟩=some (.int .u64 a0_0):=(blk_cell BK348.out 0).trans rfl; have hcz6_1:w5.cell? ⟨gb348,1,none⟩=some (.bool a0_1):=(blk_cell BK348.out 1).trans rfl; have hcz6_2:w5.cell? ⟨gb348,2,none⟩=some (.int .u64 a0_2):=(blk_cell BK348.out 2).trans rfl; have hcz6_3:w5.cell? ⟨gb348,3,none⟩=some (.bool a0_3):=(blk_cell BK348.out 3).trans rfl; have hcz6_4:w5.cell? ⟨gb348,4,none⟩=some (.int .u64 a0_4):=(blk_cell BK348.out 4).trans rfl; have hcz6_5:w5.cell? ⟨gb348,5,none⟩=some (.bool a0_5):=(blk_cell BK348.out 5).trans rfl; have hcz6_6:w5.cell? ⟨gb348,6,none⟩=some (.int .u64 a0_6):=(blk_cell BK348.out 6).trans rfl; have hcz6_7:w5.cell? ⟨gb348,7,none⟩=some (.bool a0_7):=(blk_cell BK348.out 7).trans rfl; have hcz6_8:w5.cell? ⟨gb348,8,none⟩=some (.int .u64 a0_8):=(blk_cell BK348.out 8).trans rfl; have hcz6_9:w5.cell? ⟨gb348,9,none⟩=some (.bool a0_9):=(blk_cell BK348.out 9).trans rfl; have hfz6_0:=blk_frozen BK348.out 0; have hfz6_1:=blk_frozen BK348.out 1; have hfz6_2:=blk_frozen BK348.out 2; have hfz6_3:=blk_frozen BK348.out 3; have hfz6_4:=blk_frozen BK348.out 4; have hfz6_5:=blk_frozen BK348.out 5; have hfz6_6:=blk_frozen BK348.out 6; have hfz6_7:=blk_frozen BK348.out 7; have hfz6_8:=blk_frozen BK348.out 8; have hfz6_9:=blk_frozen BK348.out 9) | ((with_reducible refine gate_callee (f:=60) rfl ?_); refine goesL_ (some 11) rfl rfl Tryd.func60 (by kernel_rfl) rfl #[.agg #[.int .u64 a0_0,.bool a0_1]] rfl (by (try simp only [List.map_toArray,List.map_cons,List.map_nil]); first | done | rfl | (simp only [List.length_drop,List.length_take]; rfl)) ?_; (with_reducible refine (field_Count.calls a0_0 a0_1 t349 _ A3.out).mono ?_); rintro e w7 ⟨rfl,hb⟩; refine ⟨_,rfl,?_⟩; have n0_:=Aside0.mk (blk_below (g:=gb348) (o:=.cells #[.int .u64 a0_0,.bool a0_1,.int .u64 a0_2,.bool a0_3,.int .u64 a0_4,.bool a0_5,.int .u64 a0_6,.bool a0_7,.int .u64 a0_8,.bool a0_9] 26 (0,0)) (by (with_reducible repeat (first | refine blk_drewN ?_ _ | refine blk_drew ?_ | refine blk_alloc ?_ _)); exact BK348.out) hb); have n1_:=Aside0.mk (below_step (by repeat (first | (with_reducible first | exact HB.out | apply below_alloc | apply pw_below_drewN | apply below_drew1 | refine below_set ?_ GE348.out) | exact HB.out)) hb); clear BK348; clear HB; have BK348:=n0_; have HB:=n1_; clear n0_ n1_; (try clear hb); (try clear hb2); (try clear hk); (try clear hi); have hcz8_0:w7.cell? ⟨gb348,0,none⟩=some (.int .u64 a0_0):=(blk_cell BK348.out 0).trans rfl; have hcz8_1:w7.cell? ⟨gb348,1,none⟩=some (.bool a0_1):=(blk_cell BK348.out 1).trans rfl; have hcz8_2:w7.cell? ⟨gb348,2,none⟩=some (.int .u64 a0_2):=(blk_cell BK348.out 2).trans rfl; have hcz8_3:w7.cell? ⟨gb348,3,none⟩=some (.bool a0_3):=(blk_cell BK348.out 3).trans rfl; have hcz8_4:w7.cell? ⟨gb348,4,none⟩=some (.int .u64 a0_4):=(blk_cell BK348.out 4).trans rfl; have hcz8_5:w7.cell? ⟨gb348,5,none⟩=some (.bool a0_5):=(blk_cell BK348.out 5).trans rfl; have hcz8_6:w7.cell? ⟨gb348,6,none⟩=some (.int .u64 a0_6):=(blk_cell BK348.out 6).trans rfl; have hcz8_7:w7.cell? ⟨gb348,7,none⟩=some (.bool a0_7):=(blk_cell BK348.out 7).trans rfl; have hcz8_8:w7.cell? ⟨gb348,8,none⟩=some (.int .u64 a0_8):=(blk_cell BK348.out 8).trans rfl; have hcz8_9:w7.cell? ⟨gb348,9,none⟩=some (.bool a0_9):=(blk_cell BK348.out 9).trans rfl; have hfz8_0:=blk_frozen BK348.out 0; have hfz8_1:=blk_frozen BK348.out 1; have hfz8_2:=blk_frozen BK348.out 2; have hfz8_3:=blk_frozen BK348.out 3; have hfz8_4:=blk_frozen BK348.out 4; have hfz8_5:=blk_frozen BK348.out 5; have hfz8_6:=blk_frozen BK348.out 6; have hfz8_7:=blk_frozen BK348.out 7; have hfz8_8:=blk_frozen BK348.out 8; have hfz8_9:=blk_frozen BK348.out 9) | ((with_reducible refine gate_callee (f:=92) rfl ?_); refine goesL_ (some 15) rfl rfl Tryd.func92 (by kernel_rfl) rfl #[.agg #[.int .u64 a0_2,.bool a0_3],.int .i64 0] rfl (by (try simp only [List.map_toArray,List.map_cons,List.map_nil]); first | done | rfl | (simp only [List.length_drop,List.length_take]; rfl)) ?_; (with_reducible refine (field_First.calls a0_2 a0_3 0 t350 t351 _ (hT.keep (by repeat (first | (with_reducible first | exact HB.out | apply below_alloc | apply pw_below_drewN | apply below_drew1 | refine below_set ?_ GE348.out) | exact HB.out))) A4.out).mono ?_); rintro e w9 ⟨rfl,hb⟩; refine ⟨_,rfl,?_⟩; have n0_:=Aside0.mk (blk_below (g:=gb348) (o:=.cells #[.int .u64 a0_0,.bool a0_1,.int .u64 a0_2,.bool a0_3,.int .u64 a0_4,.bool a0_5,.int .u64 a0_6,.bool a0_7,.int .u64 a0_8,.bool a0_9] 26 (0,0)) (by (with_reducible repeat (first | refine blk_drewN ?_ _ | refine blk_drew ?_ | refine blk_alloc ?_ _)); exact BK348.out) hb); have n1_:=Aside0.mk (below_step (by repeat (first | (with_reducible first | exact HB.out | apply below_alloc | apply pw_below_drewN | apply below_drew1 | refine below_set ?_ GE348.out) | exact HB.out)) hb); clear BK348; clear HB; have BK348:=n0_; have HB:=n1_; clear n0_ n1_; (try clear hb); (try clear hb2); (try clear hk); (try clear hi)))
 go_loopg [5,7,8] k (fun kq v5 v7 v8 w'=>∃ (x5_1:Int) (x7_1:Int) (x8_1:Bool),v5=.int .i64 x5_1∧v7=.int .i64 x7_1∧v8=.bool x8_1∧Aside0 (next_ahead.l0 kq a1 x5_1 t349 x7_1 x8_1 a0_0 a0_1 a0_2 a0_3 a0_4 a0_5 a0_6 a0_7 a0_8 a0_9=some r)∧Aside0 (kq≤k)∧Aside0 (w'.heap[gb348]?=some (.cells #[.int .u64 a0_0,.bool a0_1,.int .u64 a0_2,.bool a0_3,.int .u64 a0_4,.bool a0_5,.int .u64 a0_6,.bool a0_7,.int .u64 a0_8,.bool a0_9] 26 (0,0)))∧Aside0 (Below w.heap.size w w'))
 case atStart=>exact ⟨(0),(t350),(t351),(by first | rfl | (simp; done) | (simp [*]; done)),(by first | rfl | (simp; done) | (simp [*]; done)),(by first | rfl | (simp; done) | (simp [*]; done)),H',⟨Nat.le_refl _⟩,⟨by (with_reducible repeat (first | refine blk_drewN ?_ _ | refine blk_drew ?_ | refine blk_alloc ?_ _)); exact BK348.out⟩,⟨by repeat (first | (with_reducible first | exact HB.out | apply below_alloc | apply pw_below_drewN | apply below_drew1 | refine below_set ?_ GE348.out) | exact HB.out)⟩⟩
 case round=>
  clear H'
  try clear p2
  try clear c6
  try clear c9
  try clear hcz6_0
  try clear hcz6_1
  try clear hcz6_2
  try clear hcz6_3
  try clear hcz6_4
  try clear hcz6_5
  try clear hcz6_6
  try clear hcz6_7
  try clear hcz6_8
  try clear hcz6_9
  try clear hcz8_0
  try clear hcz8_1
  try clear hcz8_2
  try clear hcz8_3
  try clear hcz8_4
  try clear hcz8_5
  try clear hcz8_6
  try clear hcz8_7
  try clear hcz8_8
  try clear hcz8_9
  try clear hfz6_0
  try clear hfz6_1
  try clear hfz6_2
  try clear hfz6_3
  try clear hfz6_4
  try clear hfz6_5
  try clear hfz6_6
  try clear hfz6_7
  try clear hfz6_8
  try clear hfz6_9
  try clear hfz8_0
  try clear hfz8_1
  try clear hfz8_2
  try clear hfz8_3
  try clear hfz8_4
  try clear hfz8_5
  try clear hfz8_6
  try clear hfz8_7
  try clear hfz8_8
  try clear hfz8_9
  obtain ⟨x5_1,x7_1,x8_1,rfl,rfl,rfl,HA,HK1,BK348,HB⟩ :=hrel
  cases gk with
  | zero=>exact absurd HA.out (by simp [next_ahead.l0])
  | succ k1=>
   have H:=HA.out
   clear HA
   simp only [next_ahead.l0] at H
   have HC10:=Aside0.mk H
   clear H
   go_upto_region 3 with (fail)
   go_cut [24] (fun v24 wc=>∃ (kq:Nat) (x24_9:Bool),v24=.bool x24_9∧Aside0 (next_ahead.j1 kq a1 x5_1 t349 x7_1 x24_9 a0_0 a0_1 a0_2 a0_3 a0_4 a0_5 a0_6 a0_7 a0_8 a0_9=some r)∧Aside0 (kq≤k1)∧Aside0 (wc.heap[gb348]?=some (.cells #[.int .u64 a0_0,.bool a0_1,.int .u64 a0_2,.bool a0_3,.int .u64 a0_4,.bool a0_5,.int .u64 a0_6,.bool a0_7,.int .u64 a0_8,.bool a0_9] 26 (0,0)))∧Aside0 (Below w.heap.size w wc))
   case first=>
    have H:=HC10.out
    clear HC10
    by_cases c11:x8_1=true
    ·subst c11
     have H1:(next_ahead.j1 k1 a1 x5_1 t349 x7_1 (decide ((wrap64 (x7_1*60)) < a1)) a0_0 a0_1 a0_2 a0_3 a0_4 a0_5 a0_6 a0_7 a0_8 a0_9)=some r:=by rw [if_pos rfl] at H; exact H
     clear H
     have H:=H1
     clear H1
     have H':=Aside0.mk H
     clear H
     go_wp2
     go_meet
     case rel=>exact ⟨_,(decide ((wrap64 (x7_1*60)) < a1)),(by first | rfl | (simp; done) | (simp [*]; done)),H',⟨by have:=HK1.out; first | omega | exact Nat.le_refl _⟩,⟨by (with_reducible repeat (first | refine blk_drewN ?_ _ | refine blk_drew ?_ | refine blk_alloc ?_ _)); exact BK348.out⟩,⟨by repeat (first | (with_reducible first | exact HB.out | apply below_alloc | apply pw_below_drewN | apply below_drew1 | refine below_set ?_ GE348.out) | exact HB.out)⟩⟩
    ·replace c11:=Bool.eq_false_iff.mpr c11
     subst c11
     have H1:(next_ahead.j1 k1 a1 x5_1 t349 x7_1 false a0_0 a0_1 a0_2 a0_3 a0_4 a0_5 a0_6 a0_7 a0_8 a0_9)=some r:=by rw [if_neg (show ¬ (false=true) by decide)] at H; exact H
     clear H
     have H:=H1
     clear H1
     have H':=Aside0.mk H
     clear H
     go_wp2
     go_meet
     case rel=>exact ⟨_,(false),(by first | rfl | (simp; done) | (simp [*]; done)),H',⟨by have:=HK1.out; first | omega | exact Nat.le_refl _⟩,⟨by (with_reducible repeat (first | refine blk_drewN ?_ _ | refine blk_drew ?_ | refine blk_alloc ?_ _)); exact BK348.out⟩,⟨by repeat (first | (with_reducible first | exact HB.out | apply below_alloc | apply pw_below_drewN | apply below_drew1 | refine below_set ?_ GE348.out) | exact HB.out)⟩⟩
   case rest=>
    clear HC10
    try clear c1
    try clear p2
    try clear c6
    try clear p6
    try clear c9
    try clear c11
    try clear hcz6_0
    try clear hcz6_1
    try clear hcz6_2
    try clear hcz6_3
    try clear hcz6_4
    try clear hcz6_5
    try clear hcz6_6
    try clear hcz6_7
    try clear hcz6_8
    try clear hcz6_9
    try clear hcz8_0
    try clear hcz8_1
    try clear hcz8_2
    try clear hcz8_3
    try clear hcz8_4
    try clear hcz8_5
    try clear hcz8_6
    try clear hcz8_7
    try clear hcz8_8
    try clear hcz8_9
    try clear hfz6_0
    try clear hfz6_1
    try clear hfz6_2
    try clear hfz6_3
    try clear hfz6_4
    try clear hfz6_5
    try clear hfz6_6
    try clear hfz6_7
    try clear hfz6_8
    try clear hfz6_9
    try clear hfz8_0
    try clear hfz8_1
    try clear hfz8_2
    try clear hfz8_3
    try clear hfz8_4
    try clear hfz8_5
    try clear hfz8_6
    try clear hfz8_7
    try clear hfz8_8
    try clear hfz8_9
    try clear p2
    obtain ⟨kq,x24_9,rfl,HA,HJ9,BK348,HB⟩ :=hcut
    cases kq with
    | zero=>exact absurd HA.out (by simp [next_ahead.j1])
    | succ kj9=>
     have H:=HA.out
     clear HA
     simp only [next_ahead.j1] at H
     by_cases c12:x24_9=true
     ·subst c12
      have H1:(if (wrap64 ((wrap64 (x7_1+1))*60))≤a1 then ((field_First.f a0_2 a0_3 (wrap64 (x7_1+1))).bind fun bt352=>(next_ahead.l0 kj9 a1 (wrap64 (x5_1+t349)) t349 bt352.1 bt352.2 a0_0 a0_1 a0_2 a0_3 a0_4 a0_5 a0_6 a0_7 a0_8 a0_9)) else (if 0≤(IntKind.u64.wrap (Int.tmod a1 60)) then ((bits_OnesCount64.f (Go.bits .and .u64 a0_0 (IntKind.u64.wrap ((shl .u64 1 (IntKind.u64.wrap (Int.tmod a1 60))) - 1)))).bind fun t354=>((field_First.f a0_2 a0_3 (wrap64 (x7_1+1))).bind fun bt355=>(next_ahead.l0 kj9 a1 (wrap64 (x5_1+t354)) t349 bt355.1 bt355.2 a0_0 a0_1 a0_2 a0_3 a0_4 a0_5 a0_6 a0_7 a0_8 a0_9))) else (none)))=some r:=by rw [if_pos rfl] at H; exact H
      clear H
      have H:=H1
      clear H1
      by_cases c13:(wrap64 ((wrap64 (x7_1+1))*60))≤a1
      ·rw [if_pos c13] at H
       have c13b0:decide ((wrap64 ((wrap64 (x7_1+1))*60))≤a1)=true:=decide_eq_true c13
       clear c13
       replace H:=Option.bind_eq_some_iff.mp H
       obtain ⟨⟨t352,t353⟩,A140,H⟩ :=H
       replace H:(next_ahead.l0 kj9 a1 (wrap64 (x5_1+t349)) t349 t352 t353 a0_0 a0_1 a0_2 a0_3 a0_4 a0_5 a0_6 a0_7 a0_8 a0_9)=some r:=H
       have A14:=Aside0.mk A140
       clear A140
       have H':=Aside0.mk H
       clear H
       have hcz15_0:wc.cell? ⟨gb348,0,none⟩=some (.int .u64 a0_0):=(blk_cell BK348.out 0).trans rfl
       have hcz15_1:wc.cell? ⟨gb348,1,none⟩=some (.bool a0_1):=(blk_cell BK348.out 1).trans rfl
       have hcz15_2:wc.cell? ⟨gb348,2,none⟩=some (.int .u64 a0_2):=(blk_cell BK348.out 2).trans rfl
       have hcz15_3:wc.cell? ⟨gb348,3,none⟩=some (.bool a0_3):=(blk_cell BK348.out 3).trans rfl
       have hcz15_4:wc.cell? ⟨gb348,4,none⟩=some (.int .u64 a0_4):=(blk_cell BK348.out 4).trans rfl
       have hcz15_5:wc.cell? ⟨gb348,5,none⟩=some (.bool a0_5):=(blk_cell BK348.out 5).trans rfl
       have hcz15_6:wc.cell? ⟨gb348,6,none⟩=some (.int .u64 a0_6):=(blk_cell BK348.out 6).trans rfl
       have hcz15_7:wc.cell? ⟨gb348,7,none⟩=some (.bool a0_7):=(blk_cell BK348.out 7).trans rfl
       have hcz15_8:wc.cell? ⟨gb348,8,none⟩=some (.int .u64 a0_8):=(blk_cell BK348.out 8).trans rfl
       have hcz15_9:wc.cell? ⟨gb348,9,none⟩=some (.bool a0_9):=(blk_cell BK348.out 9).trans rfl
       have hfz15_0:=blk_frozen BK348.out 0
       have hfz15_1:=blk_frozen BK348.out 1
       have hfz15_2:=blk_frozen BK348.out 2
       have hfz15_3:=blk_frozen BK348.out 3
       have hfz15_4:=blk_frozen BK348.out 4
       have hfz15_5:=blk_frozen BK348.out 5
       have hfz15_6:=blk_frozen BK348.out 6
       have hfz15_7:=blk_frozen BK348.out 7
       have hfz15_8:=blk_frozen BK348.out 8
       have hfz15_9:=blk_frozen BK348.out 9
       go_wp2_with (first | ((with_reducible refine gate_callee (f:=92) rfl ?_); refine goesL_ (some 30) rfl rfl Tryd.func92 (by kernel_rfl) rfl #[.agg #[.int .u64 a0_2,.bool a0_3],.int .i64 (wrap64 (x7_1+1))] rfl (by (try simp only [List.map_toArray,List.map_cons,List.map_nil]); first | done | rfl | (simp only [List.length_drop,List.length_take]; rfl)) ?_; (with_reducible refine (field_First.calls a0_2 a0_3 (wrap64 (x7_1+1)) t352 t353 _ (hT.keep (by repeat (first | (with_reducible first | exact HB.out | apply below_alloc | apply pw_below_drewN | apply below_drew1 | refine below_set ?_ GE348.out) | exact HB.out))) A14.out).mono ?_); rintro e w16 ⟨rfl,hb⟩; refine ⟨_,rfl,?_⟩; have n0_:=Aside0.mk (blk_below (g:=gb348) (o:=.cells #[.int .u64 a0_0,.bool a0_1,.int .u64 a0_2,.bool a0_3,.int .u64 a0_4,.bool a0_5,.int .u64 a0_6,.bool a0_7,.int .u64 a0_8,.bool a0_9] 26 (0,0)) (by (with_reducible repeat (first | refine blk_drewN ?_ _ | refine blk_drew ?_ | refine blk_alloc ?_ _)); exact BK348.out) hb); have n1_:=Aside0.mk (below_step (by repeat (first | (with_reducible first | exact HB.out | apply below_alloc | apply pw_below_drewN | apply below_drew1 | refine below_set ?_ GE348.out) | exact HB.out)) hb); clear BK348; clear HB; have BK348:=n0_; have HB:=n1_; clear n0_ n1_; (try clear hb); (try clear hb2); (try clear hk); (try clear hi)))
       go_roundg kj9
       case measure=>have:=HK1.out; have:=HJ9.out; omega
       case rel=>exact ⟨(wrap64 (x5_1+t349)),(t352),(t353),(by first | rfl | (simp; done) | (simp [*]; done)),(by first | rfl | (simp; done) | (simp [*]; done)),(by first | rfl | (simp; done) | (simp [*]; done)),H',⟨by have:=HK1.out; have:=HJ9.out; omega⟩,⟨by (with_reducible repeat (first | refine blk_drewN ?_ _ | refine blk_drew ?_ | refine blk_alloc ?_ _)); exact BK348.out⟩,⟨by repeat (first | (with_reducible first | exact HB.out | apply below_alloc | apply pw_below_drewN | apply below_drew1 | refine below_set ?_ GE348.out) | exact HB.out)⟩⟩
      ·rw [if_neg c13] at H
       have c13b0:decide ((wrap64 ((wrap64 (x7_1+1))*60))≤a1)=false:=decide_eq_false c13
       clear c13
       obtain ⟨ji17,hji17⟩:∃ j_:Int,(IntKind.u64.wrap (Int.tmod a1 60))=j_:=⟨_,rfl⟩
       replace H:(if 0≤(ji17) then ((bits_OnesCount64.f (Go.bits .and .u64 a0_0 (IntKind.u64.wrap ((shl .u64 1 (ji17)) - 1)))).bind fun t354=>((field_First.f a0_2 a0_3 (wrap64 (x7_1+1))).bind fun bt355=>(next_ahead.l0 kj9 a1 (wrap64 (x5_1+t354)) t349 bt355.1 bt355.2 a0_0 a0_1 a0_2 a0_3 a0_4 a0_5 a0_6 a0_7 a0_8 a0_9))) else (none))=some r:=by first | (rw [hji17] at H; exact H) | (simp only [hji17] at H ⊢; exact H)
       by_cases c18:0≤(ji17)
       ·rw [if_pos c18] at H
        have c18b0:=eq_true c18
        have c18b1:decide (0≤(ji17))=true:=decide_eq_true c18
        clear c18
        obtain ⟨ji19,hji19⟩:∃ j_:Int,(shl .u64 1 (ji17))=j_:=⟨_,rfl⟩
        replace H:((bits_OnesCount64.f (Go.bits .and .u64 a0_0 (IntKind.u64.wrap ((ji19) - 1)))).bind fun t354=>((field_First.f a0_2 a0_3 (wrap64 (x7_1+1))).bind fun bt355=>(next_ahead.l0 kj9 a1 (wrap64 (x5_1+t354)) t349 bt355.1 bt355.2 a0_0 a0_1 a0_2 a0_3 a0_4 a0_5 a0_6 a0_7 a0_8 a0_9)))=some r:=by first | (rw [hji19] at H; exact H) | (simp only [hji19] at H ⊢; exact H)
        have hji19_:(IntKind.u64.wrap (1*2 ^ min (ji17).toNat 64))=ji19:=hji19
        have hji19z:(ji17)≤64→(IntKind.u64.wrap (1*2 ^ (ji17).toNat))=ji19:=shl_small hji19
        have hji19u:(IntKind.u64.wrap (2 ^ min (ji17).toNat 64))=ji19:=by have h_:=hji19_; rw [Int.one_mul] at h_; exact h_
        have hji19v:(ji17)≤64→(IntKind.u64.wrap (2 ^ (ji17).toNat))=ji19:=fun hle_=>by have h_:=hji19z hle_; rw [Int.one_mul] at h_; exact h_
        replace H:=Option.bind_eq_some_iff.mp H
        obtain ⟨t354,A200,H⟩ :=H
        replace H:((field_First.f a0_2 a0_3 (wrap64 (x7_1+1))).bind fun bt355=>(next_ahead.l0 kj9 a1 (wrap64 (x5_1+t354)) t349 bt355.1 bt355.2 a0_0 a0_1 a0_2 a0_3 a0_4 a0_5 a0_6 a0_7 a0_8 a0_9))=some r:=H
        have A20:=Aside0.mk A200
        clear A200
        replace H:=Option.bind_eq_some_iff.mp H
        obtain ⟨⟨t355,t356⟩,A210,H⟩ :=H
        replace H:(next_ahead.l0 kj9 a1 (wrap64 (x5_1+t354)) t349 t355 t356 a0_0 a0_1 a0_2 a0_3 a0_4 a0_5 a0_6 a0_7 a0_8 a0_9)=some r:=H
        have A21:=Aside0.mk A210
        clear A210
        have H':=Aside0.mk H
        clear H
        have hcz22_0:wc.cell? ⟨gb348,0,none⟩=some (.int .u64 a0_0):=(blk_cell BK348.out 0).trans rfl
        have hcz22_1:wc.cell? ⟨gb348,1,none⟩=some (.bool a0_1):=(blk_cell BK348.out 1).trans rfl
        have hcz22_2:wc.cell? ⟨gb348,2,none⟩=some (.int .u64 a0_2):=(blk_cell BK348.out 2).trans rfl
        have hcz22_3:wc.cell? ⟨gb348,3,none⟩=some (.bool a0_3):=(blk_cell BK348.out 3).trans rfl
        have hcz22_4:wc.cell? ⟨gb348,4,none⟩=some (.int .u64 a0_4):=(blk_cell BK348.out 4).trans rfl
        have hcz22_5:wc.cell? ⟨gb348,5,none⟩=some (.bool a0_5):=(blk_cell BK348.out 5).trans rfl
        have hcz22_6:wc.cell? ⟨gb348,6,none⟩=some (.int .u64 a0_6):=(blk_cell BK348.out 6).trans rfl
        have hcz22_7:wc.cell? ⟨gb348,7,none⟩=some (.bool a0_7):=(blk_cell BK348.out 7).trans rfl
        have hcz22_8:wc.cell? ⟨gb348,8,none⟩=some (.int .u64 a0_8):=(blk_cell BK348.out 8).trans rfl
        have hcz22_9:wc.cell? ⟨gb348,9,none⟩=some (.bool a0_9):=(blk_cell BK348.out 9).trans rfl
        have hfz22_0:=blk_frozen BK348.out 0
        have hfz22_1:=blk_frozen BK348.out 1
        have hfz22_2:=blk_frozen BK348.out 2
        have hfz22_3:=blk_frozen BK348.out 3
        have hfz22_4:=blk_frozen BK348.out 4
        have hfz22_5:=blk_frozen BK348.out 5
        have hfz22_6:=blk_frozen BK348.out 6
        have hfz22_7:=blk_frozen BK348.out 7
        have hfz22_8:=blk_frozen BK348.out 8
        have hfz22_9:=blk_frozen BK348.out 9
        go_wp2_with (first | ((with_reducible refine gate_callee (f:=87) rfl ?_); refine goesL_ (some 51) rfl rfl Tryd.func87 (by kernel_rfl) rfl #[.int .u64 (Go.bits .and .u64 a0_0 (IntKind.u64.wrap ((ji19) - 1)))] rfl (by (try simp only [List.map_toArray,List.map_cons,List.map_nil]); first | done | (simp only [hji19]; rfl) | rfl | (simp only [List.length_drop,List.length_take]; rfl)) ?_; (with_reducible refine (bits_OnesCount64.calls (Go.bits .and .u64 a0_0 (IntKind.u64.wrap ((ji19) - 1))) t354 _ A20.out).mono ?_); rintro e w' ⟨rfl,⟨nd,rfl⟩⟩; refine ⟨_,rfl,?_⟩) | ((with_reducible refine gate_callee (f:=92) rfl ?_); refine goesL_ (some 30) rfl rfl Tryd.func92 (by kernel_rfl) rfl #[.agg #[.int .u64 a0_2,.bool a0_3],.int .i64 (wrap64 (x7_1+1))] rfl (by (try simp only [List.map_toArray,List.map_cons,List.map_nil]); first | done | rfl | (simp only [List.length_drop,List.length_take]; rfl)) ?_; (with_reducible refine (field_First.calls a0_2 a0_3 (wrap64 (x7_1+1)) t355 t356 _ (hT.keep (by repeat (first | (with_reducible first | exact HB.out | apply below_alloc | apply pw_below_drewN | apply below_drew1 | refine below_set ?_ GE348.out) | exact HB.out))) A21.out).mono ?_); rintro e w23 ⟨rfl,hb⟩; refine ⟨_,rfl,?_⟩; have n0_:=Aside0.mk (blk_below (g:=gb348) (o:=.cells #[.int .u64 a0_0,.bool a0_1,.int .u64 a0_2,.bool a0_3,.int .u64 a0_4,.bool a0_5,.int .u64 a0_6,.bool a0_7,.int .u64 a0_8,.bool a0_9] 26 (0,0)) (by (with_reducible repeat (first | refine blk_drewN ?_ _ | refine blk_drew ?_ | refine blk_alloc ?_ _)); exact BK348.out) hb); have n1_:=Aside0.mk (below_step (by repeat (first | (with_reducible first | exact HB.out | apply below_alloc | apply pw_below_drewN | apply below_drew1 | refine below_set ?_ GE348.out) | exact HB.out)) hb); clear BK348; clear HB; have BK348:=n0_; have HB:=n1_; clear n0_ n1_; (try clear hb); (try clear hb2); (try clear hk); (try clear hi)))
        go_roundg kj9
        case measure=>have:=HK1.out; have:=HJ9.out; omega
        case rel=>exact ⟨(wrap64 (x5_1+t354)),(t355),(t356),(by first | rfl | (simp; done) | (simp [*]; done)),(by first | rfl | (simp; done) | (simp [*]; done)),(by first | rfl | (simp; done) | (simp [*]; done)),H',⟨by have:=HK1.out; have:=HJ9.out; omega⟩,⟨by (with_reducible repeat (first | refine blk_drewN ?_ _ | refine blk_drew ?_ | refine blk_alloc ?_ _)); exact BK348.out⟩,⟨by repeat (first | (with_reducible first | exact HB.out | apply below_alloc | apply pw_below_drewN | apply below_drew1 | refine below_set ?_ GE348.out) | exact HB.out)⟩⟩
       ·rw [if_neg c18] at H
        exact absurd H (by simp)
     ·replace c12:=Bool.eq_false_iff.mpr c12
      subst c12
      have H1:(some x5_1)=some r:=by rw [if_neg (show ¬ (false=true) by decide)] at H; exact H
      clear H
      have H:=H1
      clear H1
      obtain rfl:=Option.some.inj H
      go_wp2
      go_ret
      exact ⟨by first | rfl | (simp [errW_none,errW_some] <;> rfl) | (simp [*,errW_none,errW_some] <;> rfl),by repeat (first | (with_reducible first | exact HB.out | apply below_alloc | apply pw_below_drewN | apply below_drew1 | refine below_set ?_ GE348.out) | exact HB.out)⟩
def next_upTo.f (k:Nat)(a0_0:Int)(a0_1:Bool)(a0_2:Int)(a0_3:Bool)(a0_4:Int)(a0_5:Bool)(a0_6:Int)(a0_7:Bool)(a0_8:Int)(a0_9:Bool)(a1_0:Int)(a1_1:Int)(a1_2:Int)(a1_3:Int)(a1_4:Int)(a1_5:Int):Option (Int):=(day_Mask.f a0_0 a0_1 a0_2 a0_3 a0_4 a0_5 a0_6 a0_7 a0_8 a0_9 a1_0 a1_1).bind fun bt359=>((day_Minutes.f a0_0 a0_1 a0_2 a0_3 a0_4 a0_5 a0_6 a0_7 a0_8 a0_9).bind fun bt361=>(if 0≤(IntKind.u64.wrap (a1_2)) then ((bits_OnesCount32.f (Go.bits .and .u32 bt359.1 (((shl .u32 1 (IntKind.u64.wrap (a1_2))) - 1) % 4294967296))).bind fun t363=>(if (Go.bits .and .u32 (shr .u32 bt359.1 (IntKind.u64.wrap (a1_2))) 1)=1 then ((next_ahead.f k a0_0 a0_1 a0_2 a0_3 a0_4 a0_5 a0_6 a0_7 a0_8 a0_9 (wrap64 ((wrap64 (a1_3*60))+a1_4))).bind fun t364=>(some (wrap64 ((wrap64 (t363*bt361.1))+t364)))) else (some (wrap64 (t363*bt361.1))))) else (none)))
set_option maxHeartbeats 8000000 in
set_option maxRecDepth 100000 in
theorem next_upTo.calls (k:Nat)(a0_0:Int)(a0_1:Bool)(a0_2:Int)(a0_3:Bool)(a0_4:Int)(a0_5:Bool)(a0_6:Int)(a0_7:Bool)(a0_8:Int)(a0_9:Bool)(a1_0:Int)(a1_1:Int)(a1_2:Int)(a1_3:Int)(a1_4:Int)(a1_5:Int)(r:Int)(w:World)(hT:Tab w)(h:next_upTo.f k a0_0 a0_1 a0_2 a0_3 a0_4 a0_5 a0_6 a0_7 a0_8 a0_9 a1_0 a1_1 a1_2 a1_3 a1_4 a1_5=some r) :
  Calls Tryd.prog 34 #[.agg #[.int .u64 a0_0,.bool a0_1,.int .u64 a0_2,.bool a0_3,.int .u64 a0_4,.bool a0_5,.int .u64 a0_6,.bool a0_7,.int .u64 a0_8,.bool a0_9],.agg #[.int .i64 a1_0,.int .i64 a1_1,.int .i64 a1_2,.int .i64 a1_3,.int .i64 a1_4,.int .i64 a1_5]] w fun e w'=>e=.returned (.int .i64 r)∧Below w.heap.size w w':=by
 have hu26:=Tryd.underlying26
 have hu66:=Tryd.underlying66
 have HB:=Aside0.mk (Below.refl w.heap.size w)
 have H:((day_Mask.f a0_0 a0_1 a0_2 a0_3 a0_4 a0_5 a0_6 a0_7 a0_8 a0_9 a1_0 a1_1).bind fun bt359=>((day_Minutes.f a0_0 a0_1 a0_2 a0_3 a0_4 a0_5 a0_6 a0_7 a0_8 a0_9).bind fun bt361=>(if 0≤(IntKind.u64.wrap (a1_2)) then ((bits_OnesCount32.f (Go.bits .and .u32 bt359.1 (((shl .u32 1 (IntKind.u64.wrap (a1_2))) - 1) % 4294967296))).bind fun t363=>(if (Go.bits .and .u32 (shr .u32 bt359.1 (IntKind.u64.wrap (a1_2))) 1)=1 then ((next_ahead.f k a0_0 a0_1 a0_2 a0_3 a0_4 a0_5 a0_6 a0_7 a0_8 a0_9 (wrap64 ((wrap64 (a1_3*60))+a1_4))).bind fun t364=>(some (wrap64 ((wrap64 (t363*bt361.1))+t364)))) else (some (wrap64 (t363*bt361.1))))) else (none))))=some r:=h
 clear h
 replace H:=Option.bind_eq_some_iff.mp H
 obtain ⟨⟨t359,t360⟩,A30,H⟩ :=H
 replace H:((day_Minutes.f a0_0 a0_1 a0_2 a0_3 a0_4 a0_5 a0_6 a0_7 a0_8 a0_9).bind fun bt361=>(if 0≤(IntKind.u64.wrap (a1_2)) then ((bits_OnesCount32.f (Go.bits .and .u32 t359 (((shl .u32 1 (IntKind.u64.wrap (a1_2))) - 1) % 4294967296))).bind fun t363=>(if (Go.bits .and .u32 (shr .u32 t359 (IntKind.u64.wrap (a1_2))) 1)=1 then ((next_ahead.f k a0_0 a0_1 a0_2 a0_3 a0_4 a0_5 a0_6 a0_7 a0_8 a0_9 (wrap64 ((wrap64 (a1_3*60))+a1_4))).bind fun t364=>(some (wrap64 ((wrap64 (t363*bt361.1))+t364)))) else (some (wrap64 (t363*bt361.1))))) else (none)))=some r:=H
 have A3:=Aside0.mk A30
 clear A30
 replace H:=Option.bind_eq_some_iff.mp H
 obtain ⟨⟨t361,t362⟩,A40,H⟩ :=H
 replace H:(if 0≤(IntKind.u64.wrap (a1_2)) then ((bits_OnesCount32.f (Go.bits .and .u32 t359 (((shl .u32 1 (IntKind.u64.wrap (a1_2))) - 1) % 4294967296))).bind fun t363=>(if (Go.bits .and .u32 (shr .u32 t359 (IntKind.u64.wrap (a1_2))) 1)=1 then ((next_ahead.f k a0_0 a0_1 a0_2 a0_3 a0_4 a0_5 a0_6 a0_7 a0_8 a0_9 (wrap64 ((wrap64 (a1_3*60))+a1_4))).bind fun t364=>(some (wrap64 ((wrap64 (t363*t361))+t364)))) else (some (wrap64 (t363*t361))))) else (none))=some r:=H
 have A4:=Aside0.mk A40
 clear A40
 obtain ⟨ji5,hji5⟩:∃ j_:Int,(IntKind.u64.wrap (a1_2))=j_:=⟨_,rfl⟩
 replace H:(if 0≤(ji5) then ((bits_OnesCount32.f (Go.bits .and .u32 t359 (((shl .u32 1 (ji5)) - 1) % 4294967296))).bind fun t363=>(if (Go.bits .and .u32 (shr .u32 t359 (ji5)) 1)=1 then ((next_ahead.f k a0_0 a0_1 a0_2 a0_3 a0_4 a0_5 a0_6 a0_7 a0_8 a0_9 (wrap64 ((wrap64 (a1_3*60))+a1_4))).bind fun t364=>(some (wrap64 ((wrap64 (t363*t361))+t364)))) else (some (wrap64 (t363*t361))))) else (none))=some r:=by first | (rw [hji5] at H; exact H) | (simp only [hji5] at H ⊢; exact H)
 (try rw [hji5] at A3)
 (try rw [hji5] at A4)
 by_cases c6:0≤(ji5)
 ·rw [if_pos c6] at H
  have c6b0:=eq_true c6
  have c6b1:decide (0≤(ji5))=true:=decide_eq_true c6
  clear c6
  obtain ⟨ji7,hji7⟩:∃ j_:Int,(shl .u32 1 (ji5))=j_:=⟨_,rfl⟩
  replace H:((bits_OnesCount32.f (Go.bits .and .u32 t359 (((ji7) - 1) % 4294967296))).bind fun t363=>(if (Go.bits .and .u32 (shr .u32 t359 (ji5)) 1)=1 then ((next_ahead.f k a0_0 a0_1 a0_2 a0_3 a0_4 a0_5 a0_6 a0_7 a0_8 a0_9 (wrap64 ((wrap64 (a1_3*60))+a1_4))).bind fun t364=>(some (wrap64 ((wrap64 (t363*t361))+t364)))) else (some (wrap64 (t363*t361)))))=some r:=by first | (rw [hji7] at H; exact H) | (simp only [hji7] at H ⊢; exact H)
  (try rw [hji7] at A3)
  (try rw [hji7] at A4)
  have hji7_:(IntKind.u32.wrap (1*2 ^ min (ji5).toNat 32))=ji7:=hji7
  have hji7z:(ji5)≤32→(IntKind.u32.wrap (1*2 ^ (ji5).toNat))=ji7:=shl_small hji7
  have hji7u:(IntKind.u32.wrap (2 ^ min (ji5).toNat 32))=ji7:=by have h_:=hji7_; rw [Int.one_mul] at h_; exact h_
  have hji7v:(ji5)≤32→(IntKind.u32.wrap (2 ^ (ji5).toNat))=ji7:=fun hle_=>by have h_:=hji7z hle_; rw [Int.one_mul] at h_; exact h_
  replace H:=Option.bind_eq_some_iff.mp H
  obtain ⟨t363,A80,H⟩ :=H
  replace H:(if (Go.bits .and .u32 (shr .u32 t359 (ji5)) 1)=1 then ((next_ahead.f k a0_0 a0_1 a0_2 a0_3 a0_4 a0_5 a0_6 a0_7 a0_8 a0_9 (wrap64 ((wrap64 (a1_3*60))+a1_4))).bind fun t364=>(some (wrap64 ((wrap64 (t363*t361))+t364)))) else (some (wrap64 (t363*t361))))=some r:=H
  have A8:=Aside0.mk A80
  clear A80
  have c9b0:=eq_true (of_decide_eq_true (by first | (with_reducible assumption) | assumption):0≤(ji5))
  obtain ⟨ji10,hji10⟩:∃ j_:Int,(shr .u32 t359 (ji5))=j_:=⟨_,rfl⟩
  replace H:(if (Go.bits .and .u32 (ji10) 1)=1 then ((next_ahead.f k a0_0 a0_1 a0_2 a0_3 a0_4 a0_5 a0_6 a0_7 a0_8 a0_9 (wrap64 ((wrap64 (a1_3*60))+a1_4))).bind fun t364=>(some (wrap64 ((wrap64 (t363*t361))+t364)))) else (some (wrap64 (t363*t361))))=some r:=by first | (rw [hji10] at H; exact H) | (simp only [hji10] at H ⊢; exact H)
  (try rw [hji10] at A3)
  (try rw [hji10] at A4)
  (try rw [hji10] at A8)
  have hji10_:(t359 / 2 ^ min (ji5).toNat 32)=ji10:=hji10
  have hji10z:(ji5)≤32→(t359 / 2 ^ (ji5).toNat)=ji10:=shr_small hji10
  by_cases c11:(Go.bits .and .u32 (ji10) 1)=1
  ·rw [if_pos c11] at H
   have c11b0:((Go.bits .and .u32 (ji10) 1) == 1)=true:=beq_iff_eq.mpr c11
   have c11b1:((Go.bits .and .u32 (ji10) 1) != 1)=false:=bne_eq_false_iff_eq.mpr c11
   clear c11
   replace H:=Option.bind_eq_some_iff.mp H
   obtain ⟨t364,A120,H⟩ :=H
   replace H:(some (wrap64 ((wrap64 (t363*t361))+t364)))=some r:=H
   have A12:=Aside0.mk A120
   clear A120
   obtain rfl:=Option.some.inj H
   go_enter Tryd.func34,Tryd.ntmps34
   go_wp2_with (first | ((with_reducible refine gate_dst (N:=2) rfl ?_); refine box_event ?hg (N:=2) ?hd (cs:=#[.int .u64 a0_0,.bool a0_1,.int .u64 a0_2,.bool a0_3,.int .u64 a0_4,.bool a0_5,.int .u64 a0_6,.bool a0_7,.int .u64 a0_8,.bool a0_9]) (t:=26) ?hr ?_; (case hd=>rfl); (case hg=>rfl); (case hr=>first | (go_simp; done) | (go_simp; rfl)); intro gb357 hg w13 hbox hb; have n0_:=Aside0.mk (below_step (by repeat (first | (with_reducible first | exact HB.out | apply below_alloc | apply pw_below_drewN | apply below_drew1) | exact HB.out)) hb); have n1_:=Aside0.mk (hbox); have n2_:=Aside0.mk ((by rw [hg]; exact (below_size (by repeat (first | (with_reducible first | exact HB.out | apply below_alloc | apply pw_below_drewN | apply below_drew1) | exact HB.out))):w.heap.size≤gb357)); have n3_:=Aside0.mk ((by rw [hg]; exact (below_size (by repeat (first | (with_reducible first | exact HB.out | apply below_alloc | apply pw_below_drewN | apply below_drew1) | exact HB.out))):w.heap.size≤gb357)); clear HB; have HB:=n0_; have BK357:=n1_; have GW357:=n2_; have GE357:=n3_; clear n0_ n1_ n2_ n3_; clear hb hbox hg) | ((with_reducible refine gate_dst (N:=3) rfl ?_); refine box_event ?hg (N:=3) ?hd (cs:=#[.int .i64 a1_0,.int .i64 a1_1,.int .i64 a1_2,.int .i64 a1_3,.int .i64 a1_4,.int .i64 a1_5]) (t:=66) ?hr ?_; (case hd=>rfl); (case hg=>rfl); (case hr=>first | (go_simp; done) | (go_simp; rfl)); intro gb358 hg w14 hbox hb; have n0_:=Aside0.mk (blk_below (g:=gb357) (o:=.cells #[.int .u64 a0_0,.bool a0_1,.int .u64 a0_2,.bool a0_3,.int .u64 a0_4,.bool a0_5,.int .u64 a0_6,.bool a0_7,.int .u64 a0_8,.bool a0_9] 26 (0,0)) (by (with_reducible repeat (first | refine blk_drewN ?_ _ | refine blk_drew ?_ | refine blk_alloc ?_ _)); exact BK357.out) hb); have n1_:=Aside0.mk (below_step (by repeat (first | (with_reducible first | exact HB.out | apply below_alloc | apply pw_below_drewN | apply below_drew1 | refine below_set ?_ GE357.out) | exact HB.out)) hb); have n2_:=Aside0.mk (hbox); have n3_:=Aside0.mk ((by rw [hg]; exact (below_size (by repeat (first | (with_reducible first | exact HB.out | apply below_alloc | apply pw_below_drewN | apply below_drew1 | refine below_set ?_ GE357.out) | exact HB.out))):w.heap.size≤gb358)); have n4_:=Aside0.mk ((by rw [hg]; exact (below_size (by repeat (first | (with_reducible first | exact HB.out | apply below_alloc | apply pw_below_drewN | apply below_drew1 | refine below_set ?_ GE357.out) | exact HB.out))):w.heap.size≤gb358)); have n5_:=Aside0.mk ((by rw [hg]; exact Nat.ne_of_lt (blk_lt (g:=gb357) (o:=.cells #[.int .u64 a0_0,.bool a0_1,.int .u64 a0_2,.bool a0_3,.int .u64 a0_4,.bool a0_5,.int .u64 a0_6,.bool a0_7,.int .u64 a0_8,.bool a0_9] 26 (0,0)) (by (with_reducible repeat (first | refine blk_drewN ?_ _ | refine blk_drew ?_ | refine blk_alloc ?_ _)); exact BK357.out)):gb357≠gb358)); have n6_:=Aside0.mk ((by rw [hg]; exact Nat.ne_of_gt (blk_lt (g:=gb357) (o:=.cells #[.int .u64 a0_0,.bool a0_1,.int .u64 a0_2,.bool a0_3,.int .u64 a0_4,.bool a0_5,.int .u64 a0_6,.bool a0_7,.int .u64 a0_8,.bool a0_9] 26 (0,0)) (by (with_reducible repeat (first | refine blk_drewN ?_ _ | refine blk_drew ?_ | refine blk_alloc ?_ _)); exact BK357.out)):gb358≠gb357)); clear BK357; clear HB; have BK357:=n0_; have HB:=n1_; have BK358:=n2_; have GW358:=n3_; have GE358:=n4_; have NB357_358:=n5_; have NB358_357:=n6_; clear n0_ n1_ n2_ n3_ n4_ n5_ n6_; clear hb hbox hg; have hnb15:=NB357_358.out; have hnc15:=NB358_357.out; have hcz16_0:w14.cell? ⟨gb357,0,none⟩=some (.int .u64 a0_0):=(blk_cell BK357.out 0).trans rfl; have hcz16_1:w14.cell? ⟨gb357,1,none⟩=some (.bool a0_1):=(blk_cell BK357.out 1).trans rfl; have hcz16_2:w14.cell? ⟨gb357,2,none⟩=some (.int .u64 a0_2):=(blk_cell BK357.out 2).trans rfl; have hcz16_3:w14.cell? ⟨gb357,3,none⟩=some (.bool a0_3):=(blk_cell BK357.out 3).trans rfl; have hcz16_4:w14.cell? ⟨gb357,4,none⟩=some (.int .u64 a0_4):=(blk_cell BK357.out 4).trans rfl; have hcz16_5:w14.cell? ⟨gb357,5,none⟩=some (.bool a0_5):=(blk_cell BK357.out 5).trans rfl; have hcz16_6:w14.cell? ⟨gb357,6,none⟩=some (.int .u64 a0_6):=(blk_cell BK357.out 6).trans rfl; have hcz16_7:w14.cell? ⟨gb357,7,none⟩=some (.bool a0_7):=(blk_cell BK357.out 7).trans rfl; have hcz16_8:w14.cell? ⟨gb357,8,none⟩=some (.int .u64 a0_8):=(blk_cell BK357.out 8).trans rfl; have hcz16_9:w14.cell? ⟨gb357,9,none⟩=some (.bool a0_9):=(blk_cell BK357.out 9).trans rfl; have hfz16_0:=blk_frozen BK357.out 0; have hfz16_1:=blk_frozen BK357.out 1; have hfz16_2:=blk_frozen BK357.out 2; have hfz16_3:=blk_frozen BK357.out 3; have hfz16_4:=blk_frozen BK357.out 4; have hfz16_5:=blk_frozen BK357.out 5; have hfz16_6:=blk_frozen BK357.out 6; have hfz16_7:=blk_frozen BK357.out 7; have hfz16_8:=blk_frozen BK357.out 8; have hfz16_9:=blk_frozen BK357.out 9; have hcz17_0:w14.cell? ⟨gb358,0,none⟩=some (.int .i64 a1_0):=(blk_cell BK358.out 0).trans rfl; have hcz17_1:w14.cell? ⟨gb358,1,none⟩=some (.int .i64 a1_1):=(blk_cell BK358.out 1).trans rfl; have hcz17_2:w14.cell? ⟨gb358,2,none⟩=some (.int .i64 a1_2):=(blk_cell BK358.out 2).trans rfl; have hcz17_3:w14.cell? ⟨gb358,3,none⟩=some (.int .i64 a1_3):=(blk_cell BK358.out 3).trans rfl; have hcz17_4:w14.cell? ⟨gb358,4,none⟩=some (.int .i64 a1_4):=(blk_cell BK358.out 4).trans rfl; have hcz17_5:w14.cell? ⟨gb358,5,none⟩=some (.int .i64 a1_5):=(blk_cell BK358.out 5).trans rfl; have hfz17_0:=blk_frozen BK358.out 0; have hfz17_1:=blk_frozen BK358.out 1; have hfz17_2:=blk_frozen BK358.out 2; have hfz17_3:=blk_frozen BK358.out 3; have hfz17_4:=blk_frozen BK358.out 4; have hfz17_5:=blk_frozen BK358.out 5) | ((with_reducible refine gate_callee (f:=61) rfl ?_); refine goesL_ (some 16) rfl rfl Tryd.func61 (by kernel_rfl) rfl #[.agg #[.int .u64 a0_0,.bool a0_1,.int .u64 a0_2,.bool a0_3,.int .u64 a0_4,.bool a0_5,.int .u64 a0_6,.bool a0_7,.int .u64 a0_8,.bool a0_9],.int .i64 a1_0,.int .i64 a1_1] rfl (by (try simp only [List.map_toArray,List.map_cons,List.map_nil]); first | done | rfl | (simp only [List.length_drop,List.length_take]; rfl)) ?_; (with_reducible refine (day_Mask.calls a0_0 a0_1 a0_2 a0_3 a0_4 a0_5 a0_6 a0_7 a0_8 a0_9 a1_0 a1_1 t359 t360 _ A3.out).mono ?_); rintro e w18 ⟨rfl,hb⟩; refine ⟨_,rfl,?_⟩; have n0_:=Aside0.mk (blk_below (g:=gb357) (o:=.cells #[.int .u64 a0_0,.bool a0_1,.int .u64 a0_2,.bool a0_3,.int .u64 a0_4,.bool a0_5,.int .u64 a0_6,.bool a0_7,.int .u64 a0_8,.bool a0_9] 26 (0,0)) (by (with_reducible repeat (first | refine blk_drewN ?_ _ | refine blk_drew ?_ | refine blk_alloc ?_ _)); exact BK357.out) hb); have n1_:=Aside0.mk (blk_below (g:=gb358) (o:=.cells #[.int .i64 a1_0,.int .i64 a1_1,.int .i64 a1_2,.int .i64 a1_3,.int .i64 a1_4,.int .i64 a1_5] 66 (0,0)) (by (with_reducible repeat (first | refine blk_drewN ?_ _ | refine blk_drew ?_ | refine blk_alloc ?_ _)); exact BK358.out) hb); have n2_:=Aside0.mk (below_step (by repeat (first | (with_reducible first | exact HB.out | apply below_alloc | apply pw_below_drewN | apply below_drew1 | refine below_set ?_ GE357.out | refine below_set ?_ GE358.out) | exact HB.out)) hb); clear BK357; clear BK358; clear HB; have BK357:=n0_; have BK358:=n1_; have HB:=n2_; clear n0_ n1_ n2_; (try clear hb); (try clear hb2); (try clear hk); (try clear hi); have hcz19_0:w18.cell? ⟨gb357,0,none⟩=some (.int .u64 a0_0):=(blk_cell BK357.out 0).trans rfl; have hcz19_1:w18.cell? ⟨gb357,1,none⟩=some (.bool a0_1):=(blk_cell BK357.out 1).trans rfl; have hcz19_2:w18.cell? ⟨gb357,2,none⟩=some (.int .u64 a0_2):=(blk_cell BK357.out 2).trans rfl; have hcz19_3:w18.cell? ⟨gb357,3,none⟩=some (.bool a0_3):=(blk_cell BK357.out 3).trans rfl; have hcz19_4:w18.cell? ⟨gb357,4,none⟩=some (.int .u64 a0_4):=(blk_cell BK357.out 4).trans rfl; have hcz19_5:w18.cell? ⟨gb357,5,none⟩=some (.bool a0_5):=(blk_cell BK357.out 5).trans rfl; have hcz19_6:w18.cell? ⟨gb357,6,none⟩=some (.int .u64 a0_6):=(blk_cell BK357.out 6).trans rfl; have hcz19_7:w18.cell? ⟨gb357,7,none⟩=some (.bool a0_7):=(blk_cell BK357.out 7).trans rfl; have hcz19_8:w18.cell? ⟨gb357,8,none⟩=some (.int .u64 a0_8):=(blk_cell BK357.out 8).trans rfl; have hcz19_9:w18.cell? ⟨gb357,9,none⟩=some (.bool a0_9):=(blk_cell BK357.out 9).trans rfl; have hfz19_0:=blk_frozen BK357.out 0; have hfz19_1:=blk_frozen BK357.out 1; have hfz19_2:=blk_frozen BK357.out 2; have hfz19_3:=blk_frozen BK357.out 3; have hfz19_4:=blk_frozen BK357.out 4; have hfz19_5:=blk_frozen BK357.out 5; have hfz19_6:=blk_frozen BK357.out 6; have hfz19_7:=blk_frozen BK357.out 7; have hfz19_8:=blk_frozen BK357.out 8; have hfz19_9:=blk_frozen BK357.out 9) | ((with_reducible refine gate_callee (f:=33) rfl ?_); refine goesL_ (some 21) rfl rfl Tryd.func33 (by kernel_rfl) rfl #[.agg #[.int .u64 a0_0,.bool a0_1,.int .u64 a0_2,.bool a0_3,.int .u64 a0_4,.bool a0_5,.int .u64 a0_6,.bool a0_7,.int .u64 a0_8,.bool a0_9]] rfl (by (try simp only [List.map_toArray,List.map_cons,List.map_nil]); first | done | rfl | (simp only [List.length_drop,List.length_take]; rfl)) ?_; (with_reducible refine (day_Minutes.calls a0_0 a0_1 a0_2 a0_3 a0_4 a0_5 a0_6 a0_7 a0_8 a0_9 t361 t362 _ A4.out).mono ?_); rintro e w20 ⟨rfl,hb⟩; refine ⟨_,rfl,?_⟩; have n0_:=Aside0.mk (blk_below (g:=gb357) (o:=.cells #[.int .u64 a0_0,.bool a0_1,.int .u64 a0_2,.bool a0_3,.int .u64 a0_4,.bool a0_5,.int .u64 a0_6,.bool a0_7,.int .u64 a0_8,.bool a0_9] 26 (0,0)) (by (with_reducible repeat (first | refine blk_drewN ?_ _ | refine blk_drew ?_ | refine blk_alloc ?_ _)); exact BK357.out) hb); have n1_:=Aside0.mk (blk_below (g:=gb358) (o:=.cells #[.int .i64 a1_0,.int .i64 a1_1,.int .i64 a1_2,.int .i64 a1_3,.int .i64 a1_4,.int .i64 a1_5] 66 (0,0)) (by (with_reducible repeat (first | refine blk_drewN ?_ _ | refine blk_drew ?_ | refine blk_alloc ?_ _)); exact BK358.out) hb); have n2_:=Aside0.mk (below_step (by repeat (first | (with_reducible first | exact HB.out | apply below_alloc | apply pw_below_drewN | apply below_drew1 | refine below_set ?_ GE357.out | refine below_set ?_ GE358.out) | exact HB.out)) hb); clear BK357; clear BK358; clear HB; have BK357:=n0_; have BK358:=n1_; have HB:=n2_; clear n0_ n1_ n2_; (try clear hb); (try clear hb2); (try clear hk); (try clear hi); have hcz21_0:w20.cell? ⟨gb358,0,none⟩=some (.int .i64 a1_0):=(blk_cell BK358.out 0).trans rfl; have hcz21_1:w20.cell? ⟨gb358,1,none⟩=some (.int .i64 a1_1):=(blk_cell BK358.out 1).trans rfl; have hcz21_2:w20.cell? ⟨gb358,2,none⟩=some (.int .i64 a1_2):=(blk_cell BK358.out 2).trans rfl; have hcz21_3:w20.cell? ⟨gb358,3,none⟩=some (.int .i64 a1_3):=(blk_cell BK358.out 3).trans rfl; have hcz21_4:w20.cell? ⟨gb358,4,none⟩=some (.int .i64 a1_4):=(blk_cell BK358.out 4).trans rfl; have hcz21_5:w20.cell? ⟨gb358,5,none⟩=some (.int .i64 a1_5):=(blk_cell BK358.out 5).trans rfl; have hfz21_0:=blk_frozen BK358.out 0; have hfz21_1:=blk_frozen BK358.out 1; have hfz21_2:=blk_frozen BK358.out 2; have hfz21_3:=blk_frozen BK358.out 3; have hfz21_4:=blk_frozen BK358.out 4; have hfz21_5:=blk_frozen BK358.out 5) | ((with_reducible refine gate_callee (f:=37) rfl ?_); refine goesL_ (some 31) rfl rfl Tryd.func37 (by kernel_rfl) rfl #[.int .u32 (Go.bits .and .u32 t359 (((ji7) - 1) % 4294967296))] rfl (by (try simp only [List.map_toArray,List.map_cons,List.map_nil]); first | done | (simp only [hji7]; rfl) | rfl | (simp only [List.length_drop,List.length_take]; rfl)) ?_; (with_reducible refine (bits_OnesCount32.calls (Go.bits .and .u32 t359 (((ji7) - 1) % 4294967296)) t363 _ A8.out).mono ?_); rintro e w' ⟨rfl,⟨nd,rfl⟩⟩; refine ⟨_,rfl,?_⟩; have hcz22_0:w20.cell? ⟨gb357,0,none⟩=some (.int .u64 a0_0):=(blk_cell BK357.out 0).trans rfl; have hcz22_1:w20.cell? ⟨gb357,1,none⟩=some (.bool a0_1):=(blk_cell BK357.out 1).trans rfl; have hcz22_2:w20.cell? ⟨gb357,2,none⟩=some (.int .u64 a0_2):=(blk_cell BK357.out 2).trans rfl; have hcz22_3:w20.cell? ⟨gb357,3,none⟩=some (.bool a0_3):=(blk_cell BK357.out 3).trans rfl; have hcz22_4:w20.cell? ⟨gb357,4,none⟩=some (.int .u64 a0_4):=(blk_cell BK357.out 4).trans rfl; have hcz22_5:w20.cell? ⟨gb357,5,none⟩=some (.bool a0_5):=(blk_cell BK357.out 5).trans rfl; have hcz22_6:w20.cell? ⟨gb357,6,none⟩=some (.int .u64 a0_6):=(blk_cell BK357.out 6).trans rfl; have hcz22_7:w20.cell? ⟨gb357,7,none⟩=some (.bool a0_7):=(blk_cell BK357.out 7).trans rfl; have hcz22_8:w20.cell? ⟨gb357,8,none⟩=some (.int .u64 a0_8):=(blk_cell BK357.out 8).trans rfl; have hcz22_9:w20.cell? ⟨gb357,9,none⟩=some (.bool a0_9):=(blk_cell BK357.out 9).trans rfl; have hfz22_0:=blk_frozen BK357.out 0; have hfz22_1:=blk_frozen BK357.out 1; have hfz22_2:=blk_frozen BK357.out 2; have hfz22_3:=blk_frozen BK357.out 3; have hfz22_4:=blk_frozen BK357.out 4; have hfz22_5:=blk_frozen BK357.out 5; have hfz22_6:=blk_frozen BK357.out 6; have hfz22_7:=blk_frozen BK357.out 7; have hfz22_8:=blk_frozen BK357.out 8; have hfz22_9:=blk_frozen BK357.out 9) | ((with_reducible refine gate_callee (f:=62) rfl ?_); refine goesL_ (some 49) rfl rfl Tryd.func62 (by kernel_rfl) rfl #[.agg #[.int .u64 a0_0,.bool a0_1,.int .u64 a0_2,.bool a0_3,.int .u64 a0_4,.bool a0_5,.int .u64 a0_6,.bool a0_7,.int .u64 a0_8,.bool a0_9],.int .i64 (wrap64 ((wrap64 (a1_3*60))+a1_4))] rfl (by (try simp only [List.map_toArray,List.map_cons,List.map_nil]); first | done | rfl | (simp only [List.length_drop,List.length_take]; rfl)) ?_; (with_reducible refine (next_ahead.calls k a0_0 a0_1 a0_2 a0_3 a0_4 a0_5 a0_6 a0_7 a0_8 a0_9 (wrap64 ((wrap64 (a1_3*60))+a1_4)) t364 _ (hT.keep (by repeat (first | (with_reducible first | exact HB.out | apply below_alloc | apply pw_below_drewN | apply below_drew1 | refine below_set ?_ GE357.out | refine below_set ?_ GE358.out) | exact HB.out))) A12.out).mono ?_); rintro e w23 ⟨rfl,hb⟩; refine ⟨_,rfl,?_⟩; have n0_:=Aside0.mk (blk_below (g:=gb357) (o:=.cells #[.int .u64 a0_0,.bool a0_1,.int .u64 a0_2,.bool a0_3,.int .u64 a0_4,.bool a0_5,.int .u64 a0_6,.bool a0_7,.int .u64 a0_8,.bool a0_9] 26 (0,0)) (by (with_reducible repeat (first | refine blk_drewN ?_ _ | refine blk_drew ?_ | refine blk_alloc ?_ _)); exact BK357.out) hb); have n1_:=Aside0.mk (blk_below (g:=gb358) (o:=.cells #[.int .i64 a1_0,.int .i64 a1_1,.int .i64 a1_2,.int .i64 a1_3,.int .i64 a1_4,.int .i64 a1_5] 66 (0,0)) (by (with_reducible repeat (first | refine blk_drewN ?_ _ | refine blk_drew ?_ | refine blk_alloc ?_ _)); exact BK358.out) hb); have n2_:=Aside0.mk (below_step (by repeat (first | (with_reducible first | exact HB.out | apply below_alloc | apply pw_below_drewN | apply below_drew1 | refine below_set ?_ GE357.out | refine below_set ?_ GE358.out) | exact HB.out)) hb); clear BK357; clear BK358; clear HB; have BK357:=n0_; have BK358:=n1_; have HB:=n2_; clear n0_ n1_ n2_; (try clear hb); (try clear hb2); (try clear hk); (try clear hi)))
   go_ret
   exact ⟨by first | rfl | (simp [errW_none,errW_some] <;> rfl) | (simp only [← hji5,← hji7,← hji10]; first | rfl | (simp [errW_none,errW_some] <;> rfl)) | (simp [*,errW_none,errW_some] <;> rfl),by repeat (first | (with_reducible first | exact HB.out | apply below_alloc | apply pw_below_drewN | apply below_drew1 | refine below_set ?_ GE357.out | refine below_set ?_ GE358.out) | exact HB.out)⟩
  ·rw [if_neg c11] at H
   have c11b0:((Go.bits .and .u32 (ji10) 1) == 1)=false:=beq_eq_false_iff_ne.mpr c11
   have c11b1:((Go.bits .and .u32 (ji10) 1) != 1)=true:=bne_iff_ne.mpr c11
   obtain rfl:=Option.some.inj H
   go_enter Tryd.func34,Tryd.ntmps34
   go_wp2_with (first | ((with_reducible refine gate_dst (N:=2) rfl ?_); refine box_event ?hg (N:=2) ?hd (cs:=#[.int .u64 a0_0,.bool a0_1,.int .u64 a0_2,.bool a0_3,.int .u64 a0_4,.bool a0_5,.int .u64 a0_6,.bool a0_7,.int .u64 a0_8,.bool a0_9]) (t:=26) ?hr ?_; (case hd=>rfl); (case hg=>rfl); (case hr=>first | (go_simp; done) | (go_simp; rfl)); intro gb357 hg w24 hbox hb; have n0_:=Aside0.mk (below_step (by repeat (first | (with_reducible first | exact HB.out | apply below_alloc | apply pw_below_drewN | apply below_drew1) | exact HB.out)) hb); have n1_:=Aside0.mk (hbox); have n2_:=Aside0.mk ((by rw [hg]; exact (below_size (by repeat (first | (with_reducible first | exact HB.out | apply below_alloc | apply pw_below_drewN | apply below_drew1) | exact HB.out))):w.heap.size≤gb357)); have n3_:=Aside0.mk ((by rw [hg]; exact (below_size (by repeat (first | (with_reducible first | exact HB.out | apply below_alloc | apply pw_below_drewN | apply below_drew1) | exact HB.out))):w.heap.size≤gb357)); clear HB; have HB:=n0_; have BK357:=n1_; have GW357:=n2_; have GE357:=n3_; clear n0_ n1_ n2_ n3_; clear hb hbox hg) | ((with_reducible refine gate_dst (N:=3) rfl ?_); refine box_event ?hg (N:=3) ?hd (cs:=#[.int .i64 a1_0,.int .i64 a1_1,.int .i64 a1_2,.int .i64 a1_3,.int .i64 a1_4,.int .i64 a1_5]) (t:=66) ?hr ?_; (case hd=>rfl); (case hg=>rfl); (case hr=>first | (go_simp; done) | (go_simp; rfl)); intro gb358 hg w25 hbox hb; have n0_:=Aside0.mk (blk_below (g:=gb357) (o:=.cells #[.int .u64 a0_0,.bool a0_1,.int .u64 a0_2,.bool a0_3,.int .u64 a0_4,.bool a0_5,.int .u64 a0_6,.bool a0_7,.int .u64 a0_8,.bool a0_9] 26 (0,0)) (by (with_reducible repeat (first | refine blk_drewN ?_ _ | refine blk_drew ?_ | refine blk_alloc ?_ _)); exact BK357.out) hb); have n1_:=Aside0.mk (below_step (by repeat (first | (with_reducible first | exact HB.out | apply below_alloc | apply pw_below_drewN | apply below_drew1 | refine below_set ?_ GE357.out) | exact HB.out)) hb); have n2_:=Aside0.mk (hbox); have n3_:=Aside0.mk ((by rw [hg]; exact (below_size (by repeat (first | (with_reducible first | exact HB.out | apply below_alloc | apply pw_below_drewN | apply below_drew1 | refine below_set ?_ GE357.out) | exact HB.out))):w.heap.size≤gb358)); have n4_:=Aside0.mk ((by rw [hg]; exact (below_size (by repeat (first | (with_reducible first | exact HB.out | apply below_alloc | apply pw_below_drewN | apply below_drew1 | refine below_set ?_ GE357.out) | exact HB.out))):w.heap.size≤gb358)); have n5_:=Aside0.mk ((by rw [hg]; exact Nat.ne_of_lt (blk_lt (g:=gb357) (o:=.cells #[.int .u64 a0_0,.bool a0_1,.int .u64 a0_2,.bool a0_3,.int .u64 a0_4,.bool a0_5,.int .u64 a0_6,.bool a0_7,.int .u64 a0_8,.bool a0_9] 26 (0,0)) (by (with_reducible repeat (first | refine blk_drewN ?_ _ | refine blk_drew ?_ | refine blk_alloc ?_ _)); exact BK357.out)):gb357≠gb358)); have n6_:=Aside0.mk ((by rw [hg]; exact Nat.ne_of_gt (blk_lt (g:=gb357) (o:=.cells #[.int .u64 a0_0,.bool a0_1,.int .u64 a0_2,.bool a0_3,.int .u64 a0_4,.bool a0_5,.int .u64 a0_6,.bool a0_7,.int .u64 a0_8,.bool a0_9] 26 (0,0)) (by (with_reducible repeat (first | refine blk_drewN ?_ _ | refine blk_drew ?_ | refine blk_alloc ?_ _)); exact BK357.out)):gb358≠gb357)); clear BK357; clear HB; have BK357:=n0_; have HB:=n1_; have BK358:=n2_; have GW358:=n3_; have GE358:=n4_; have NB357_358:=n5_; have NB358_357:=n6_; clear n0_ n1_ n2_ n3_ n4_ n5_ n6_; clear hb hbox hg; have hnb26:=NB357_358.out; have hnc26:=NB358_357.out; have hcz27_0:w25.cell? ⟨gb357,0,none⟩=some (.int .u64 a0_0):=(blk_cell BK357.out 0).trans rfl; have hcz27_1:w25.cell? ⟨gb357,1,none⟩=some (.bool a0_1):=(blk_cell BK357.out 1).trans rfl; have hcz27_2:w25.cell? ⟨gb357,2,none⟩=some (.int .u64 a0_2):=(blk_cell BK357.out 2).trans rfl; have hcz27_3:w25.cell? ⟨gb357,3,none⟩=some (.bool a0_3):=(blk_cell BK357.out 3).trans rfl; have hcz27_4:w25.cell? ⟨gb357,4,none⟩=some (.int .u64 a0_4):=(blk_cell BK357.out 4).trans rfl; have hcz27_5:w25.cell? ⟨gb357,5,none⟩=some (.bool a0_5):=(blk_cell BK357.out 5).trans rfl; have hcz27_6:w25.cell? ⟨gb357,6,none⟩=some (.int .u64 a0_6):=(blk_cell BK357.out 6).trans rfl; have hcz27_7:w25.cell? ⟨gb357,7,none⟩=some (.bool a0_7):=(blk_cell BK357.out 7).trans rfl; have hcz27_8:w25.cell? ⟨gb357,8,none⟩=some (.int .u64 a0_8):=(blk_cell BK357.out 8).trans rfl; have hcz27_9:w25.cell? ⟨gb357,9,none⟩=some (.bool a0_9):=(blk_cell BK357.out 9).trans rfl; have hfz27_0:=blk_frozen BK357.out 0; have hfz27_1:=blk_frozen BK357.out 1; have hfz27_2:=blk_frozen BK357.out 2; have hfz27_3:=blk_frozen BK357.out 3; have hfz27_4:=blk_frozen BK357.out 4; have hfz27_5:=blk_frozen BK357.out 5; have hfz27_6:=blk_frozen BK357.out 6; have hfz27_7:=blk_frozen BK357.out 7; have hfz27_8:=blk_frozen BK357.out 8; have hfz27_9:=blk_frozen BK357.out 9; have hcz28_0:w25.cell? ⟨gb358,0,none⟩=some (.int .i64 a1_0):=(blk_cell BK358.out 0).trans rfl; have hcz28_1:w25.cell? ⟨gb358,1,none⟩=some (.int .i64 a1_1):=(blk_cell BK358.out 1).trans rfl; have hcz28_2:w25.cell? ⟨gb358,2,none⟩=some (.int .i64 a1_2):=(blk_cell BK358.out 2).trans rfl; have hcz28_3:w25.cell? ⟨gb358,3,none⟩=some (.int .i64 a1_3):=(blk_cell BK358.out 3).trans rfl; have hcz28_4:w25.cell? ⟨gb358,4,none⟩=some (.int .i64 a1_4):=(blk_cell BK358.out 4).trans rfl; have hcz28_5:w25.cell? ⟨gb358,5,none⟩=some (.int .i64 a1_5):=(blk_cell BK358.out 5).trans rfl; have hfz28_0:=blk_frozen BK358.out 0; have hfz28_1:=blk_frozen BK358.out 1; have hfz28_2:=blk_frozen BK358.out 2; have hfz28_3:=blk_frozen BK358.out 3; have hfz28_4:=blk_frozen BK358.out 4; have hfz28_5:=blk_frozen BK358.out 5) | ((with_reducible refine gate_callee (f:=61) rfl ?_); refine goesL_ (some 16) rfl rfl Tryd.func61 (by kernel_rfl) rfl #[.agg #[.int .u64 a0_0,.bool a0_1,.int .u64 a0_2,.bool a0_3,.int .u64 a0_4,.bool a0_5,.int .u64 a0_6,.bool a0_7,.int .u64 a0_8,.bool a0_9],.int .i64 a1_0,.int .i64 a1_1] rfl (by (try simp only [List.map_toArray,List.map_cons,List.map_nil]); first | done | rfl | (simp only [List.length_drop,List.length_take]; rfl)) ?_; (with_reducible refine (day_Mask.calls a0_0 a0_1 a0_2 a0_3 a0_4 a0_5 a0_6 a0_7 a0_8 a0_9 a1_0 a1_1 t359 t360 _ A3.out).mono ?_); rintro e w29 ⟨rfl,hb⟩; refine ⟨_,rfl,?_⟩; have n0_:=Aside0.mk (blk_below (g:=gb357) (o:=.cells #[.int .u64 a0_0,.bool a0_1,.int .u64 a0_2,.bool a0_3,.int .u64 a0_4,.bool a0_5,.int .u64 a0_6,.bool a0_7,.int .u64 a0_8,.bool a0_9] 26 (0,0)) (by (with_reducible repeat (first | refine blk_drewN ?_ _ | refine blk_drew ?_ | refine blk_alloc ?_ _)); exact BK357.out) hb); have n1_:=Aside0.mk (blk_below (g:=gb358) (o:=.cells #[.int .i64 a1_0,.int .i64 a1_1,.int .i64 a1_2,.int .i64 a1_3,.int .i64 a1_4,.int .i64 a1_5] 66 (0,0)) (by (with_reducible repeat (first | refine blk_drewN ?_ _ | refine blk_drew ?_ | refine blk_alloc ?_ _)); exact BK358.out) hb); have n2_:=Aside0.mk (below_step (by repeat (first | (with_reducible first | exact HB.out | apply below_alloc | apply pw_below_drewN | apply below_drew1 | refine below_set ?_ GE357.out | refine below_set ?_ GE358.out) | exact HB.out)) hb); clear BK357; clear BK358; clear HB; have BK357:=n0_; have BK358:=n1_; have HB:=n2_; clear n0_ n1_ n2_; (try clear hb); (try clear hb2); (try clear hk); (try clear hi); have hcz30_0:w29.cell? ⟨gb357,0,none⟩=some (.int .u64 a0_0):=(blk_cell BK357.out 0).trans rfl; have hcz30_1:w29.cell? ⟨gb357,1,none⟩=some (.bool a0_1):=(blk_cell BK357.out 1).trans rfl; have hcz30_2:w29.cell? ⟨gb357,2,none⟩=some (.int .u64 a0_2):=(blk_cell BK357.out 2).trans rfl; have hcz30_3:w29.cell? ⟨gb357,3,none⟩=some (.bool a0_3):=(blk_cell BK357.out 3).trans rfl; have hcz30_4:w29.cell? ⟨gb357,4,none⟩=some (.int .u64 a0_4):=(blk_cell BK357.out 4).trans rfl; have hcz30_5:w29.cell? ⟨gb357,5,none⟩=some (.bool a0_5):=(blk_cell BK357.out 5).trans rfl; have hcz30_6:w29.cell? ⟨gb357,6,none⟩=some (.int .u64 a0_6):=(blk_cell BK357.out 6).trans rfl; have hcz30_7:w29.cell? ⟨gb357,7,none⟩=some (.bool a0_7):=(blk_cell BK357.out 7).trans rfl; have hcz30_8:w29.cell? ⟨gb357,8,none⟩=some (.int .u64 a0_8):=(blk_cell BK357.out 8).trans rfl; have hcz30_9:w29.cell? ⟨gb357,9,none⟩=some (.bool a0_9):=(blk_cell BK357.out 9).trans rfl; have hfz30_0:=blk_frozen BK357.out 0; have hfz30_1:=blk_frozen BK357.out 1; have hfz30_2:=blk_frozen BK357.out 2; have hfz30_3:=blk_frozen BK357.out 3; have hfz30_4:=blk_frozen BK357.out 4; have hfz30_5:=blk_frozen BK357.out 5; have hfz30_6:=blk_frozen BK357.out 6; have hfz30_7:=blk_frozen BK357.out 7; have hfz30_8:=blk_frozen BK357.out 8; have hfz30_9:=blk_frozen BK357.out 9) | ((with_reducible refine gate_callee (f:=33) rfl ?_); refine goesL_ (some 21) rfl rfl Tryd.func33 (by kernel_rfl) rfl #[.agg #[.int .u64 a0_0,.bool a0_1,.int .u64 a0_2,.bool a0_3,.int .u64 a0_4,.bool a0_5,.int .u64 a0_6,.bool a0_7,.int .u64 a0_8,.bool a0_9]] rfl (by (try simp only [List.map_toArray,List.map_cons,List.map_nil]); first | done | rfl | (simp only [List.length_drop,List.length_take]; rfl)) ?_; (with_reducible refine (day_Minutes.calls a0_0 a0_1 a0_2 a0_3 a0_4 a0_5 a0_6 a0_7 a0_8 a0_9 t361 t362 _ A4.out).mono ?_); rintro e w31 ⟨rfl,hb⟩; refine ⟨_,rfl,?_⟩; have n0_:=Aside0.mk (blk_below (g:=gb357) (o:=.cells #[.int .u64 a0_0,.bool a0_1,.int .u64 a0_2,.bool a0_3,.int .u64 a0_4,.bool a0_5,.int .u64 a0_6,.bool a0_7,.int .u64 a0_8,.bool a0_9] 26 (0,0)) (by (with_reducible repeat (first | refine blk_drewN ?_ _ | refine blk_drew ?_ | refine blk_alloc ?_ _)); exact BK357.out) hb); have n1_:=Aside0.mk (blk_below (g:=gb358) (o:=.cells #[.int .i64 a1_0,.int .i64 a1_1,.int .i64 a1_2,.int .i64 a1_3,.int .i64 a1_4,.int .i64 a1_5] 66 (0,0)) (by (with_reducible repeat (first | refine blk_drewN ?_ _ | refine blk_drew ?_ | refine blk_alloc ?_ _)); exact BK358.out) hb); have n2_:=Aside0.mk (below_step (by repeat (first | (with_reducible first | exact HB.out | apply below_alloc | apply pw_below_drewN | apply below_drew1 | refine below_set ?_ GE357.out | refine below_set ?_ GE358.out) | exact HB.out)) hb); clear BK357; clear BK358; clear HB; have BK357:=n0_; have BK358:=n1_; have HB:=n2_; clear n0_ n1_ n2_; (try clear hb); (try clear hb2); (try clear hk); (try clear hi); have hcz32_0:w31.cell? ⟨gb358,0,none⟩=some (.int .i64 a1_0):=(blk_cell BK358.out 0).trans rfl; have hcz32_1:w31.cell? ⟨gb358,1,none⟩=some (.int .i64 a1_1):=(blk_cell BK358.out 1).trans rfl; have hcz32_2:w31.cell? ⟨gb358,2,none⟩=some (.int .i64 a1_2):=(blk_cell BK358.out 2).trans rfl; have hcz32_3:w31.cell? ⟨gb358,3,none⟩=some (.int .i64 a1_3):=(blk_cell BK358.out 3).trans rfl; have hcz32_4:w31.cell? ⟨gb358,4,none⟩=some (.int .i64 a1_4):=(blk_cell BK358.out 4).trans rfl; have hcz32_5:w31.cell? ⟨gb358,5,none⟩=some (.int .i64 a1_5):=(blk_cell BK358.out 5).trans rfl; have hfz32_0:=blk_frozen BK358.out 0; have hfz32_1:=blk_frozen BK358.out 1; have hfz32_2:=blk_frozen BK358.out 2; have hfz32_3:=blk_frozen BK358.out 3; have hfz32_4:=blk_frozen BK358.out 4; have hfz32_5:=blk_frozen BK358.out 5) | ((with_reducible refine gate_callee (f:=37) rfl ?_); refine goesL_ (some 31) rfl rfl Tryd.func37 (by kernel_rfl) rfl #[.int .u32 (Go.bits .and .u32 t359 (((ji7) - 1) % 4294967296))] rfl (by (try simp only [List.map_toArray,List.map_cons,List.map_nil]); first | done | (simp only [hji7]; rfl) | rfl | (simp only [List.length_drop,List.length_take]; rfl)) ?_; (with_reducible refine (bits_OnesCount32.calls (Go.bits .and .u32 t359 (((ji7) - 1) % 4294967296)) t363 _ A8.out).mono ?_); rintro e w' ⟨rfl,⟨nd,rfl⟩⟩; refine ⟨_,rfl,?_⟩))
   go_ret
   exact ⟨by first | rfl | (simp [errW_none,errW_some] <;> rfl) | (simp only [← hji5,← hji7,← hji10]; first | rfl | (simp [errW_none,errW_some] <;> rfl)) | (simp [*,errW_none,errW_some] <;> rfl),by repeat (first | (with_reducible first | exact HB.out | apply below_alloc | apply pw_below_drewN | apply below_drew1 | refine below_set ?_ GE357.out | refine below_set ?_ GE358.out) | exact HB.out)⟩
 ·rw [if_neg c6] at H
  exact absurd H (by simp)
end Go.Proofs.YtepflnfnkfkldaaDoor.PRea
