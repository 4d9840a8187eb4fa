-- Written by a program of this session (gprint.py) over the kit's print.
import Derived.Test.YtepflnfnkfkldaaDoorPReax0
import Derived.Test.YtepflnfnkfkldaaDoorPReax3
import Derived.Test.YtepflnfnkfkldaaDoorPReax5
import Derived.Test.YtepflnfnkfkldaaDoorPReax6
import Derived.Test.YtepflnfnkfkldaaDoorPReax7
import Derived.Test.YtepflnfnkfkldaaDoorPReax8
import Derived.Test.YtepflnfnkfkldaaDoorPReax9
import Derived.Test.YtepflnfnkfkldaaDoorPReax21
import Derived.Test.YtepflnfnkfkldaaDoorPReax22
namespace Go.Proofs.YtepflnfnkfkldaaDoor.PRea
open Go.RowKit Go.Proofs.YtepflnfnkfkldaaDoorW.PrintWords Go.Proofs.YtepflnfnkfkldaaDoorW.PrintLast Go.Proofs.YtepflnfnkfkldaaDoorW.PrintMore
attribute [local go_sem] max2_int min2_int max_two min_two max_three min_three max_four min_four
set_option linter.unusedVariables false
set_option linter.unusedSimpArgs false
/-! This session's own: next.Count's range. -/
noncomputable def Nx.countRange:Code:=((Tryd.f18.body.bind Nx.firstRange).getD .skip)
abbrev Nx.MF:=Nat × Int × Fin 4294967296
def Nx.embF (x:Nat × Int × Int):Nx.MF:=(x.1,x.2.1,Fin.ofNat 4294967296 x.2.2.toNat)
def Nx.encF (x:Nx.MF):Array Value:=#[.int .i64 (x.1:Int),.agg #[.int .i64 x.2.1,.int .u32 (x.2.2.val:Int)]]
def Nx.stopC (yb mb:Int)(x:Nx.MF):Bool:=decide ((Civ.date x.2.1).1 > yb) || (decide ((Civ.date x.2.1).1=yb) && decide ((Civ.date x.2.1).2.1≥mb))
def Nx.addW (wh n:Int)(x:Nx.MF):Int:=wrap64 (n+wrap64 ((Lib.onesCount x.2.2.val:Int)*wh))
def Nx.sumW (wh yb mb:Int):List Nx.MF→Int→Int
 | [],n=>n
 | x :: l,n=>if Nx.stopC yb mb x=true then n else Nx.sumW wh yb mb l (Nx.addW wh n x)
theorem Nx.sumW_app (wh yb mb:Int):∀ (p l:List Nx.MF) (n:Int),(∀ y ∈ p,Nx.stopC yb mb y=false)→Nx.sumW wh yb mb (p ++ l) n=Nx.sumW wh yb mb l (p.foldl (Nx.addW wh) n)
 | [],l,n,_=>rfl
 | x :: p,l,n,h=>by
  show (if Nx.stopC yb mb x=true then n else Nx.sumW wh yb mb (p ++ l) (Nx.addW wh n x))=_
  rw [if_neg (by rw [h x (List.mem_cons_self ..)]; decide),Nx.sumW_app wh yb mb p l _ (fun y hy=>h y (List.mem_cons_of_mem _ hy))]
  rfl
theorem Nx.mask_bd (b2:Int)(s2:Bool)(b3 b4:Int)(s4:Bool)(y m:Int):0≤(Dy.mask false b2 s2 b3 b4 s4 y m).1∧(Dy.mask false b2 s2 b3 b4 s4 y m).1 < 4294967296:=by
 unfold Dy.mask
 rw [if_neg (by decide)]
 split
 ·exact ⟨by decide,by decide⟩
 split
 ·have hb:=Civ.len_bd y m
  have h:=Dy.maskN_lt (Dy.dayP b2 s2 b4 s4 (Civ.day y m 1).1) (Civ.len y m).toNat
  have h2:2 ^ ((Civ.len y m).toNat+1)≤2 ^ 32:=Nat.pow_le_pow_right (by decide) (by omega)
  refine ⟨by omega,?_⟩
  show ((Dy.maskN _ _:Nat):Int) < 4294967296
  omega
 ·exact ⟨by decide,by decide⟩
section
open Go.Shelf
attribute [local go_sem] Oper.semAt_some
set_option maxHeartbeats 8000000 in
set_option maxRecDepth 1000000 in
theorem Nx.count_range (u0 u1 u2 u4 u5 u6 u7 u9 u11 u13 u15 u16 u17 u18 u19 u20 u21 u22 u23 u24 u25 u26 u27 u28 u29 u30 u31 u32 u33 u34 u35 u36 u37 u38 u39 u40 u41 u42 u43 u44 u45 u46 u47 u48 u49 u50 u51 u52 u53 u54 u55 u56 u57 u58 u59 u60 u61 u62 u63 u64 u65 u66 u67 u68 u69 u70 u71 u72 u73 u75 u76 u77 u78 u79 u80 u81 u82 u83 u84 u85 u86 u87 u88 u89 u90 u91 u92 u93 u94 u95 u96 u97 u98 u99 u100 u101 u102 u103 u104 u105 u106 u107 u108:Value)(gx ga gb gw gn qc qb qx:Nat)(b0:Int)(s0:Bool)(b1:Int)(s1:Bool)(b2:Int)(s2:Bool)(b3:Int)(s3:Bool)(b4:Int)(s4:Bool)(hok:Dy.okS b0 b1 b2 b3 b4=true)(A:day_odd.f b0 s0 b1 s1 b2 s2 b3 s3 b4 s4=some false)
  (y0 m0 c2 c3 c4 c5 yb mb d2 d3 d4 d5 wh n0:Int) (ds:List Deferred) (W:World)
  (hBb:W.heap[gb]?=some (.cells #[.int .i64 yb,.int .i64 mb,.int .i64 d2,.int .i64 d3,.int .i64 d4,.int .i64 d5] 66 (0,0))) (hWh:W.heap[gw]?=some (.cells #[.int .i64 wh] 3 (0,0))) (hN:W.heap[gn]?=some (.cells #[.int .i64 n0] 3 (0,0)))
  (hQC:W.heap[qc]?=some (.cells #[.int .i64 y0,.int .i64 m0,.int .i64 c2,.int .i64 c3,.int .i64 c4,.int .i64 c5] 66 (0,0))) (hQB:W.heap[qb]?=some (.cells #[.int .i64 1] 3 (0,0))) (hQX:Spc.Row W qx b0 s0 b1 s1 b2 s2 b3 s3 b4 s4)
  (hn1:gb≠gn) (hn2:gw≠gn) (hn3:qc≠gn) (hn4:qb≠gn) (hn5:qx≠gn) (hy1:1970≤y0) (hy2:y0≤2999) (hm1:1≤m0) (hm2:m0≤12) (Q:Exit→Act→World→Prop)
  (hend:∀ (D:Nat) (W':World),W.heap.size≤D→Nx.Only2 gn gn W W'→
   W'.heap[gn]?=some (.cells #[.int .i64 (Nx.sumW wh yb mb ((Nx.mons (Dy.mask false b2 s2 b3 b4 s4) 1 20000 y0 m0 0).map Nx.embF) n0)] 3 (0,0))→W'.heap[D]?=some (.deferred (some []))→
   Q .normal { tmps:=#[u0,u1,u2,.pointer (some ⟨gx,0,none⟩),u4,u5,u6,u7,.pointer (some ⟨ga,0,none⟩),u9,.pointer (some ⟨gb,0,none⟩),u11,.pointer (some ⟨gw,0,none⟩),u13,.pointer (some ⟨gn,0,none⟩),u15,u16,u17,u18,u19,u20,u21,u22,u23,u24,u25,u26,u27,u28,u29,u30,u31,u32,u33,u34,u35,u36,u37,u38,u39,u40,u41,u42,u43,u44,u45,u46,u47,u48,u49,u50,u51,u52,u53,u54,u55,u56,u57,u58,u59,u60,u61,u62,u63,u64,u65,u66,u67,u68,u69,u70,u71,u72,u73,.func (.func 63) #[] #[.pointer (some ⟨qc,0,none⟩),.pointer (some ⟨qb,0,none⟩),.pointer (some ⟨qx,0,none⟩)],u75,u76,u77,u78,u79,u80,u81,u82,u83,u84,u85,u86,u87,u88,u89,u90,u91,u92,u93,u94,u95,u96,u97,u98,u99,u100,u101,u102,u103,u104,u105,u106,u107,u108],defers:={ target:=.collected D,args:=#[] } :: ds } W'∧Q (.exit 0) { tmps:=#[u0,u1,u2,.pointer (some ⟨gx,0,none⟩),u4,u5,u6,u7,.pointer (some ⟨ga,0,none⟩),u9,.pointer (some ⟨gb,0,none⟩),u11,.pointer (some ⟨gw,0,none⟩),u13,.pointer (some ⟨gn,0,none⟩),u15,u16,u17,u18,u19,u20,u21,u22,u23,u24,u25,u26,u27,u28,u29,u30,u31,u32,u33,u34,u35,u36,u37,u38,u39,u40,u41,u42,u43,u44,u45,u46,u47,u48,u49,u50,u51,u52,u53,u54,u55,u56,u57,u58,u59,u60,u61,u62,u63,u64,u65,u66,u67,u68,u69,u70,u71,u72,u73,.func (.func 63) #[] #[.pointer (some ⟨qc,0,none⟩),.pointer (some ⟨qb,0,none⟩),.pointer (some ⟨qx,0,none⟩)],u75,u76,u77,u78,u79,u80,u81,u82,u83,u84,u85,u86,u87,u88,u89,u90,u91,u92,u93,u94,u95,u96,u97,u98,u99,u100,u101,u102,u103,u104,u105,u106,u107,u108],defers:={ target:=.collected D,args:=#[] } :: ds } W') :
  Code.wpIn Fence.wide 6 Tryd.prog Nx.countRange Q { tmps:=#[u0,u1,u2,.pointer (some ⟨gx,0,none⟩),u4,u5,u6,u7,.pointer (some ⟨ga,0,none⟩),u9,.pointer (some ⟨gb,0,none⟩),u11,.pointer (some ⟨gw,0,none⟩),u13,.pointer (some ⟨gn,0,none⟩),u15,u16,u17,u18,u19,u20,u21,u22,u23,u24,u25,u26,u27,u28,u29,u30,u31,u32,u33,u34,u35,u36,u37,u38,u39,u40,u41,u42,u43,u44,u45,u46,u47,u48,u49,u50,u51,u52,u53,u54,u55,u56,u57,u58,u59,u60,u61,u62,u63,u64,u65,u66,u67,u68,u69,u70,u71,u72,u73,.func (.func 63) #[] #[.pointer (some ⟨qc,0,none⟩),.pointer (some ⟨qb,0,none⟩),.pointer (some ⟨qx,0,none⟩)],u75,u76,u77,u78,u79,u80,u81,u82,u83,u84,u85,u86,u87,u88,u89,u90,u91,u92,u93,u94,u95,u96,u97,u98,u99,u100,u101,u102,u103,u104,u105,u106,u107,u108],defers:=ds } W:=by
 conv=>arg 4; whnf
 have hnl:=blk_lt hN
 replace hend:=Lib.hid hend
 obtain ⟨L,hL⟩:∃ L,(Nx.mons (Dy.mask false b2 s2 b3 b4 s4) 1 20000 y0 m0 0).map Nx.embF=L:=⟨_,rfl⟩
 have hseq:=Nx.months_stopsG Nx.embF Nx.encF (6 - 1) (by decide) qc qb qx b0 s0 b1 s1 b2 s2 b3 s3 b4 s4 hok A y0 m0 c2 c3 c4 c5 1 W hQC hQB hQX hy1 hy2 hm1 hm2 (.inl rfl) (fun k F y m=>by
  have:=Nx.mask_bd b2 s2 b3 b4 s4 y m
  have e:(((Fin.ofNat 4294967296 ((Dy.mask false b2 s2 b3 b4 s4 y m).1).toNat).val:Nat):Int)=(Dy.mask false b2 s2 b3 b4 s4 y m).1:=by
   show (((((Dy.mask false b2 s2 b3 b4 s4 y m).1).toNat % 4294967296:Nat)):Int)=_
   omega
  simp only [Nx.encF,Nx.embF,Nx.encM,e])
 rw [hL] at hseq hend
 refine wpIn_rangeFunc_ownH rfl (by decide) (gf:=63) (lb:=#[.pointer (some ⟨qc,0,none⟩),.pointer (some ⟨qb,0,none⟩),.pointer (some ⟨qx,0,none⟩)]) rfl trivial (enters_of Tryd.func63 (by kernel_rfl) rfl)
  hseq (fun h k=>⟨k.1.trans h.1,k.2.1.trans h.2.1,k.2.2.trans h.2.2⟩) (fun W' l o o' hl _ _ _=>⟨World.putObj_heap_other (by have:=blk_lt hQC; omega),World.putObj_heap_other (by have:=blk_lt hQB; omega),World.putObj_heap_other (by have:=blk_lt hQX; omega)⟩) (Below.refl _ _) (fun _=>rfl)
  (fun pre W'=>Nx.Only2 gn gn W W'∧W'.heap[gn]?=some (.cells #[.int .i64 (pre.foldl (Nx.addW wh) n0)] 3 (0,0))∧∀ x ∈ pre,Nx.stopC yb mb x=false)
  (fun c pre W'=>c=.exit 0∧∃ p x,pre=p ++ [x]∧(∀ y ∈ p,Nx.stopC yb mb y=false)∧Nx.stopC yb mb x=true∧Nx.Only2 gn gn W W'∧W'.heap[gn]?=some (.cells #[.int .i64 (p.foldl (Nx.addW wh) n0)] 3 (0,0)))
  ?own ?ownx ⟨Nx.Only2.of_below (Below.refl _ _),hN,fun x hx=>by cases hx⟩ (fun x a' W'=>∃ gm,a'={ tmps:=#[u0,u1,u2,.pointer (some ⟨gx,0,none⟩),u4,u5,u6,u7,.pointer (some ⟨ga,0,none⟩),u9,.pointer (some ⟨gb,0,none⟩),u11,.pointer (some ⟨gw,0,none⟩),u13,.pointer (some ⟨gn,0,none⟩),u15,u16,u17,.pointer (some ⟨gm,0,none⟩),u19,u20,u21,u22,u23,u24,u25,u26,u27,u28,u29,u30,u31,u32,u33,u34,u35,u36,u37,u38,u39,u40,u41,u42,u43,u44,u45,u46,u47,u48,u49,u50,u51,u52,u53,u54,u55,u56,u57,u58,u59,u60,u61,u62,u63,u64,u65,u66,u67,u68,u69,u70,u71,u72,u73,.func (.func 63) #[] #[.pointer (some ⟨qc,0,none⟩),.pointer (some ⟨qb,0,none⟩),.pointer (some ⟨qx,0,none⟩)],.int .i64 (x.1:Int),.agg #[.int .i64 x.2.1,.int .u32 (x.2.2.val:Int)],u77,u78,u79,u80,u81,u82,u83,u84,u85,u86,u87,u88,u89,u90,u91,u92,u93,u94,u95,u96,u97,u98,u99,u100,u101,u102,u103,u104,u105,u106,u107,u108],defers:=[] }∧W.heap.size≤gm∧W'.heap[gm]?=some (.cells #[.int .i64 x.2.1,.int .u32 (x.2.2.val:Int)] 75 (0,0)))
  ?ownA ?assign ?body ?done ?stop
 case own=>
  rintro s W1 W2 row ⟨h1,h2,h3⟩ hg hr
  exact ⟨h1.grown hg (fun k e=>.inl (hr k e).1),(hg.block gn (blk_lt h2) (fun e=>by have:=(hr gn e.symm).1; omega)).trans h2,h3⟩
 case ownx=>
  rintro c s W1 W2 row ⟨h1,p,x,h2,h3,h4,h5,h6⟩ hg hr
  exact ⟨h1,p,x,h2,h3,h4,h5.grown hg (fun k e=>.inl (hr k e).1),(hg.block gn (blk_lt h6) (fun e=>by have:=(hr gn e.symm).1; omega)).trans h6⟩
 case ownA=>
  rintro x a' s W1 W2 row ⟨gm,rfl,hgm,hm⟩ hg hr
  refine ⟨gm,rfl,hgm,(hg.block gm (blk_lt hm) (fun e=>?_)).trans hm⟩
  obtain ⟨_,o,ho,hc⟩ :=hr gm e.symm
  rw [hm] at ho
  cases ho
  cases hc
 case assign=>
  intro l pre x W1 K hI hK
  dsimp only [Nx.encF]
  gi_wp2
  have hb:=below_alloc (Below.refl W1.heap.size W1) (.cells #[.int .i64 x.2.1,.int .u32 (x.2.2.val:Int)] 75)
  have hle:=hI.1.size
  exact hK _ _ (Nx.keeps_below hb) ⟨hb.block qc (by have:=blk_lt hQC; omega),hb.block qb (by have:=blk_lt hQB; omega),hb.block qx (by have:=blk_lt hQX; omega)⟩ ⟨hI.1.grown ⟨hb.os,hb.tape,hb.output,hb.size,fun k hk _=>hb.block k hk⟩ (row:=none) (fun k e=>by cases e),(hb.block gn (by omega)).trans hI.2.1,hI.2.2⟩ ⟨W1.heap.size,rfl,hle,heap_alloc_new W1 _⟩
 case body=>
  rintro l pre ⟨n,F,N⟩ a' W1 hl hlr ⟨hO,hn,hall⟩ ⟨gm,rfl,hgm,hm⟩ hlen
  dsimp only at hm ⊢
  obtain ⟨y,k,dd,de,hdt⟩:∃ y k dd de,Civ.date F=(y,k,dd,de):=⟨_,_,_,_,rfl⟩
  obtain ⟨z,hz⟩:∃ z,pre.foldl (Nx.addW wh) n0=z:=⟨_,rfl⟩
  rw [hz] at hn
  have hb1:W1.heap[gb]?=some (.cells #[.int .i64 yb,.int .i64 mb,.int .i64 d2,.int .i64 d3,.int .i64 d4,.int .i64 d5] 66 (0,0)):=(hO.block gb (blk_lt hBb) hn1 hn1).trans hBb
  have hw1:W1.heap[gw]?=some (.cells #[.int .i64 wh] 3 (0,0)):=(hO.block gw (blk_lt hWh) hn2 hn2).trans hWh
  have km0:W1.cell? ⟨gm,0,none⟩=some (.int .i64 F):=(blk_cell hm 0).trans rfl
  have hones:Hid (bits_OnesCount32.f (N.val:Int)=some ((Lib.onesCount N.val:Nat):Int)):=Lib.hid (by
   unfold bits_OnesCount32.f
   rw [if_pos ⟨by omega,by have:=N.isLt; omega⟩]
   rfl)
  have hKQ:=Aside0.mk (show qc < W.heap.size∧qb < W.heap.size∧qx < W.heap.size∧gb < W.heap.size∧gw < W.heap.size∧W.heap.size≤W1.heap.size from ⟨blk_lt hQC,blk_lt hQB,blk_lt hQX,blk_lt hBb,blk_lt hWh,hO.size⟩)
  replace hall:=Lib.hid hall
  replace hz:=Lib.hid hz
  clear hend hseq hL hok A hBb hWh hN hQC hQB hQX
  gi_wp2_with fail
  refine ⟨trivial,?_⟩
  refine (callsIn_wide.2 (civil_Date.calls F y k dd de _ (by show some (Civ.date F)=_; rw [hdt]))).mono ?_
  rintro e W2 ⟨rfl,hb⟩
  have hb2:=Aside0.mk hb
  have hO2:=Aside0.mk (hO.grown (row:=none) ⟨hb.os,hb.tape,hb.output,hb.size,fun k hk _=>hb.block k hk⟩ (fun k e=>by cases e))
  have hn2:=Aside0.mk (show W2.heap[gn]?=some (.cells #[.int .i64 z] 3 (0,0)) from blk_below hn hb)
  have hm2:=Aside0.mk (show W2.heap[gm]?=some (.cells #[.int .i64 F,.int .u32 (N.val:Int)] 75 (0,0)) from blk_below hm hb)
  have hw2:=Aside0.mk (show W2.heap[gw]?=some (.cells #[.int .i64 wh] 3 (0,0)) from blk_below hw1 hb)
  have kb0:W2.cell? ⟨gb,0,none⟩=some (.int .i64 yb):=(blk_cell (blk_below hb1 hb) 0).trans rfl
  have kb1:W2.cell? ⟨gb,1,none⟩=some (.int .i64 mb):=(blk_cell (blk_below hb1 hb) 1).trans rfl
  replace hdt:=Lib.hid hdt
  clear hb hO hn hm hb1 hw1 km0
  by_cases c1:yb < y
  ·have e1:decide (yb < y)=true:=decide_eq_true c1
   gi_wp2_with fail
   have hs:Nx.stopC yb mb (n,F,N)=true:=by unfold Nx.stopC; simp only [hdt.out]; simp; omega
   exact ⟨Nx.keeps_below hb2.out,rfl,pre,(n,F,N),rfl,hall.out,hs,hO2.out,by rw [hz.out]; exact hn2.out⟩
  ·have e1:decide (yb < y)=false:=decide_eq_false c1
   by_cases c2:y=yb
   ·have e2:(y == yb)=true:=by simpa using c2
    by_cases c3:mb≤k
    ·have e3:decide (mb≤k)=true:=decide_eq_true c3
     gi_wp2_with fail
     have hs:Nx.stopC yb mb (n,F,N)=true:=by unfold Nx.stopC; simp only [hdt.out]; simp; omega
     exact ⟨Nx.keeps_below hb2.out,rfl,pre,(n,F,N),rfl,hall.out,hs,hO2.out,by rw [hz.out]; exact hn2.out⟩
    ·have e3:decide (mb≤k)=false:=decide_eq_false c3
     have hs:Nx.stopC yb mb (n,F,N)=false:=by unfold Nx.stopC; simp only [hdt.out]; simp; omega
     have fin:Hid (∀ V,Below W2.heap.size W2 V→KeepsFrom W.heap.size W1 (V.setCell ⟨gn,0,none⟩ (.int .i64 (IntKind.i64.wrap (z+IntKind.i64.wrap ((Lib.onesCount N.val:Int)*wh)))))∧Nx.KpM qc qb qx W1 (V.setCell ⟨gn,0,none⟩ (.int .i64 (IntKind.i64.wrap (z+IntKind.i64.wrap ((Lib.onesCount N.val:Int)*wh)))))∧Nx.Only2 gn gn W (V.setCell ⟨gn,0,none⟩ (.int .i64 (IntKind.i64.wrap (z+IntKind.i64.wrap ((Lib.onesCount N.val:Int)*wh)))))∧(V.setCell ⟨gn,0,none⟩ (.int .i64 (IntKind.i64.wrap (z+IntKind.i64.wrap ((Lib.onesCount N.val:Int)*wh))))).heap[gn]?=some (.cells #[.int .i64 ((pre ++ [(n,F,N)]).foldl (Nx.addW wh) n0)] 3 (0,0))∧∀ x ∈ pre ++ [(n,F,N)],Nx.stopC yb mb x=false):=Lib.hid (by
      intro V hV
      have hg:=grownBy_setCell' V gn (.int .i64 (IntKind.i64.wrap (z+IntKind.i64.wrap ((Lib.onesCount N.val:Int)*wh))))
      have hV1:Below W1.heap.size W1 V:=hb2.out.trans (hV.mono hb2.out.size)
      have q:=hKQ.out
      have ew:Nx.addW wh z (n,F,N)=IntKind.i64.wrap (z+IntKind.i64.wrap ((Lib.onesCount N.val:Int)*wh)):=by unfold Nx.addW; rw [i64_w,i64_w]
      refine ⟨(Nx.keeps_below hV1).trans (KeepsFrom.of_grownBy hg (fun j e=>by cases e; exact hnl)),⟨(Below.heap_setCell _ _ _ qc hn3).trans (hV1.block qc (by omega)),(Below.heap_setCell _ _ _ qb hn4).trans (hV1.block qb (by omega)),(Below.heap_setCell _ _ _ qx hn5).trans (hV1.block qx (by omega))⟩,?_,?_,?_⟩
      ·exact (hO2.out.grown (row:=none) ⟨hV.os,hV.tape,hV.output,hV.size,fun k hk _=>hV.block k hk⟩ (fun k e=>by cases e)).grown hg (fun r e=>by cases e; exact .inr (.inl rfl))
      ·rw [List.foldl_append,hz.out,List.foldl_cons,List.foldl_nil,ew]
       exact blk_put (blk_below hn2.out hV) 0 _ rfl
      ·intro x hx
       rcases List.mem_append.1 hx with h | h
       ·exact hall.out x h
       ·rw [List.mem_singleton.1 h]
        exact hs)
     gi_wp2_with fail
     have HB3:=Aside0.mk (below_drew1 (Below.refl W2.heap.size W2))
     have j0:W2.drew.cell? ⟨gm,0,none⟩=some (.int .i64 F):=(blk_cell (blk_below hm2.out HB3.out) 0).trans rfl
     have j1:W2.drew.cell? ⟨gm,1,none⟩=some (.int .u32 (N.val:Int)):=(blk_cell (blk_below hm2.out HB3.out) 1).trans rfl
     have j2:W2.drew.cell? ⟨gw,0,none⟩=some (.int .i64 wh):=(blk_cell (blk_below hw2.out HB3.out) 0).trans rfl
     have j3:W2.drew.cell? ⟨gn,0,none⟩=some (.int .i64 z):=(blk_cell (blk_below hn2.out HB3.out) 0).trans rfl
     have j4:=blk_frozen (blk_below hn2.out HB3.out) 0
     gi_region_with (refine ⟨trivial,?_⟩; gi_at_call 37; refine (callsIn_wide.2 (bits_OnesCount32.calls _ _ _ hones.out)).mono ?_; rintro e w' ⟨rfl,hd⟩; have B_:Aside0 (Below W2.heap.size W2 w'):=Dy.stepB (by assumption) hd.below; clear hd; have j0:w'.cell? ⟨gm,0,none⟩=some (.int .i64 F):=(blk_cell (blk_below hm2.out B_.out) 0).trans rfl; have j1:w'.cell? ⟨gm,1,none⟩=some (.int .u32 (N.val:Int)):=(blk_cell (blk_below hm2.out B_.out) 1).trans rfl; have j2:w'.cell? ⟨gw,0,none⟩=some (.int .i64 wh):=(blk_cell (blk_below hw2.out B_.out) 0).trans rfl; have j3:w'.cell? ⟨gn,0,none⟩=some (.int .i64 z):=(blk_cell (blk_below hn2.out B_.out) 0).trans rfl; have j4:=blk_frozen (blk_below hn2.out B_.out) 0)
     all_goals exact fin.out _ (by assumption:Aside0 (Below W2.heap.size W2 _)).out
   ·have e2:(y == yb)=false:=by simpa using c2
    have hs:Nx.stopC yb mb (n,F,N)=false:=by unfold Nx.stopC; simp only [hdt.out]; simp; omega
    have fin:Hid (∀ V,Below W2.heap.size W2 V→KeepsFrom W.heap.size W1 (V.setCell ⟨gn,0,none⟩ (.int .i64 (IntKind.i64.wrap (z+IntKind.i64.wrap ((Lib.onesCount N.val:Int)*wh)))))∧Nx.KpM qc qb qx W1 (V.setCell ⟨gn,0,none⟩ (.int .i64 (IntKind.i64.wrap (z+IntKind.i64.wrap ((Lib.onesCount N.val:Int)*wh)))))∧Nx.Only2 gn gn W (V.setCell ⟨gn,0,none⟩ (.int .i64 (IntKind.i64.wrap (z+IntKind.i64.wrap ((Lib.onesCount N.val:Int)*wh)))))∧(V.setCell ⟨gn,0,none⟩ (.int .i64 (IntKind.i64.wrap (z+IntKind.i64.wrap ((Lib.onesCount N.val:Int)*wh))))).heap[gn]?=some (.cells #[.int .i64 ((pre ++ [(n,F,N)]).foldl (Nx.addW wh) n0)] 3 (0,0))∧∀ x ∈ pre ++ [(n,F,N)],Nx.stopC yb mb x=false):=Lib.hid (by
     intro V hV
     have hg:=grownBy_setCell' V gn (.int .i64 (IntKind.i64.wrap (z+IntKind.i64.wrap ((Lib.onesCount N.val:Int)*wh))))
     have hV1:Below W1.heap.size W1 V:=hb2.out.trans (hV.mono hb2.out.size)
     have q:=hKQ.out
     have ew:Nx.addW wh z (n,F,N)=IntKind.i64.wrap (z+IntKind.i64.wrap ((Lib.onesCount N.val:Int)*wh)):=by unfold Nx.addW; rw [i64_w,i64_w]
     refine ⟨(Nx.keeps_below hV1).trans (KeepsFrom.of_grownBy hg (fun j e=>by cases e; exact hnl)),⟨(Below.heap_setCell _ _ _ qc hn3).trans (hV1.block qc (by omega)),(Below.heap_setCell _ _ _ qb hn4).trans (hV1.block qb (by omega)),(Below.heap_setCell _ _ _ qx hn5).trans (hV1.block qx (by omega))⟩,?_,?_,?_⟩
     ·exact (hO2.out.grown (row:=none) ⟨hV.os,hV.tape,hV.output,hV.size,fun k hk _=>hV.block k hk⟩ (fun k e=>by cases e)).grown hg (fun r e=>by cases e; exact .inr (.inl rfl))
     ·rw [List.foldl_append,hz.out,List.foldl_cons,List.foldl_nil,ew]
      exact blk_put (blk_below hn2.out hV) 0 _ rfl
     ·intro x hx
      rcases List.mem_append.1 hx with h | h
      ·exact hall.out x h
      ·rw [List.mem_singleton.1 h]
       exact hs)
    gi_wp2_with fail
    have HB3:=Aside0.mk (below_drew1 (Below.refl W2.heap.size W2))
    have j0:W2.drew.cell? ⟨gm,0,none⟩=some (.int .i64 F):=(blk_cell (blk_below hm2.out HB3.out) 0).trans rfl
    have j1:W2.drew.cell? ⟨gm,1,none⟩=some (.int .u32 (N.val:Int)):=(blk_cell (blk_below hm2.out HB3.out) 1).trans rfl
    have j2:W2.drew.cell? ⟨gw,0,none⟩=some (.int .i64 wh):=(blk_cell (blk_below hw2.out HB3.out) 0).trans rfl
    have j3:W2.drew.cell? ⟨gn,0,none⟩=some (.int .i64 z):=(blk_cell (blk_below hn2.out HB3.out) 0).trans rfl
    have j4:=blk_frozen (blk_below hn2.out HB3.out) 0
    gi_region_with (refine ⟨trivial,?_⟩; gi_at_call 37; refine (callsIn_wide.2 (bits_OnesCount32.calls _ _ _ hones.out)).mono ?_; rintro e w' ⟨rfl,hd⟩; have B_:Aside0 (Below W2.heap.size W2 w'):=Dy.stepB (by assumption) hd.below; clear hd; have j0:w'.cell? ⟨gm,0,none⟩=some (.int .i64 F):=(blk_cell (blk_below hm2.out B_.out) 0).trans rfl; have j1:w'.cell? ⟨gm,1,none⟩=some (.int .u32 (N.val:Int)):=(blk_cell (blk_below hm2.out B_.out) 1).trans rfl; have j2:w'.cell? ⟨gw,0,none⟩=some (.int .i64 wh):=(blk_cell (blk_below hw2.out B_.out) 0).trans rfl; have j3:w'.cell? ⟨gn,0,none⟩=some (.int .i64 z):=(blk_cell (blk_below hn2.out B_.out) 0).trans rfl; have j4:=blk_frozen (blk_below hn2.out B_.out) 0)
    all_goals exact fin.out _ (by assumption:Aside0 (Below W2.heap.size W2 _)).out
 case done=>
  rintro D xs W' hD rfl ⟨h1,h2,h3⟩ hK
  refine (hend.out D W' hD h1 ?_ hK).1
  have:=Nx.sumW_app wh yb mb xs [] n0 h3
  rw [List.append_nil] at this
  rw [this]
  exact h2
 case stop=>
  rintro D c pre W' hD hpre ⟨rfl,p,x,rfl,h3,h4,h5,h6⟩ hK
  obtain ⟨tl,htl⟩ :=hpre
  have hv:Nx.sumW wh yb mb L n0=p.foldl (Nx.addW wh) n0:=by
   rw [← htl,List.append_assoc,Nx.sumW_app wh yb mb p _ n0 h3]
   exact if_pos h4
  have:=(hend.out D W' hD h5 (by rw [hv]; exact h6) hK).2
  gi_wp2
  exact this
end
/-! This session's own: next.Count. -/
section
open Go.Shelf
attribute [local go_sem] Oper.semAt_some
def Nx.NoP (Q:Exit→Act→World→Prop)(e:Exit)(a:Act)(w:World):Prop:=match e with
 | .panic _=>False
 | e=>Q e a w
theorem Nx.nop_out {Q:Exit→Act→World→Prop}{e:Exit}{a:Act}{w:World}(h:Nx.NoP Q e a w):Q e a w:=by
 cases e <;> first | exact h | exact absurd h (by unfold Nx.NoP; exact id)
theorem Nx.nop_normal {Q:Exit→Act→World→Prop}{a:Act}{w:World}(h:Q .normal a w):Nx.NoP Q .normal a w:=h
structure Nx.CF (w8:World) (gx ga gb:Nat) (b0:Int) (s0:Bool) (b1:Int) (s1:Bool) (b2:Int) (s2:Bool) (b3:Int) (s3:Bool) (b4:Int) (s4:Bool) (y0 m0 c2 c3 c4 c5 yb mb d2 d3 d4 d5:Int) (W:World):Prop where
 row:Spc.Row W gx b0 s0 b1 s1 b2 s2 b3 s3 b4 s4
 a:W.heap[ga]?=some (.cells #[.int .i64 y0,.int .i64 m0,.int .i64 c2,.int .i64 c3,.int .i64 c4,.int .i64 c5] 66 (0,0))
 b:W.heap[gb]?=some (.cells #[.int .i64 yb,.int .i64 mb,.int .i64 d2,.int .i64 d3,.int .i64 d4,.int .i64 d5] 66 (0,0))
 tab:Tab W
 below:Below w8.heap.size w8 W
structure Nx.NF (w8:World) (g:Nat) (W:World):Prop where
 cell:W.heap[g]?=some (.cells #[.int .i64 0] 3 (0,0))
 new:w8.heap.size≤g
theorem Nx.cf_tab {w8:World}{gx ga gb:Nat}{b0:Int}{s0:Bool}{b1:Int}{s1:Bool}{b2:Int}{s2:Bool}{b3:Int}{s3:Bool}{b4:Int}{s4:Bool}{y0 m0 c2 c3 c4 c5 yb mb d2 d3 d4 d5:Int}{W:World}(h:Aside0 (Nx.CF w8 gx ga gb b0 s0 b1 s1 b2 s2 b3 s3 b4 s4 y0 m0 c2 c3 c4 c5 yb mb d2 d3 d4 d5 W)):Tab W:=h.out.tab
theorem Nx.cf_step {w8:World}{gx ga gb:Nat}{b0:Int}{s0:Bool}{b1:Int}{s1:Bool}{b2:Int}{s2:Bool}{b3:Int}{s3:Bool}{b4:Int}{s4:Bool}{y0 m0 c2 c3 c4 c5 yb mb d2 d3 d4 d5:Int}{W:World}{W':World}(h:Aside0 (Nx.CF w8 gx ga gb b0 s0 b1 s1 b2 s2 b3 s3 b4 s4 y0 m0 c2 c3 c4 c5 yb mb d2 d3 d4 d5 W))(hb:Below W.heap.size W W'):Aside0 (Nx.CF w8 gx ga gb b0 s0 b1 s1 b2 s2 b3 s3 b4 s4 y0 m0 c2 c3 c4 c5 yb mb d2 d3 d4 d5 W'):=⟨⟨blk_below h.out.row hb,blk_below h.out.a hb,blk_below h.out.b hb,h.out.tab.keep hb,below_step h.out.below hb⟩⟩
theorem Nx.cf_alloc {w8:World}{gx ga gb:Nat}{b0:Int}{s0:Bool}{b1:Int}{s1:Bool}{b2:Int}{s2:Bool}{b3:Int}{s3:Bool}{b4:Int}{s4:Bool}{y0 m0 c2 c3 c4 c5 yb mb d2 d3 d4 d5:Int}{W:World}(h:Aside0 (Nx.CF w8 gx ga gb b0 s0 b1 s1 b2 s2 b3 s3 b4 s4 y0 m0 c2 c3 c4 c5 yb mb d2 d3 d4 d5 W))(o:Obj):Aside0 (Nx.CF w8 gx ga gb b0 s0 b1 s1 b2 s2 b3 s3 b4 s4 y0 m0 c2 c3 c4 c5 yb mb d2 d3 d4 d5 (W.alloc o)):=Nx.cf_step h (below_alloc (Below.refl _ _) o)
theorem Nx.cf_drew {w8:World}{gx ga gb:Nat}{b0:Int}{s0:Bool}{b1:Int}{s1:Bool}{b2:Int}{s2:Bool}{b3:Int}{s3:Bool}{b4:Int}{s4:Bool}{y0 m0 c2 c3 c4 c5 yb mb d2 d3 d4 d5:Int}{W:World}(h:Nx.CF w8 gx ga gb b0 s0 b1 s1 b2 s2 b3 s3 b4 s4 y0 m0 c2 c3 c4 c5 yb mb d2 d3 d4 d5 W):Aside0 (Nx.CF w8 gx ga gb b0 s0 b1 s1 b2 s2 b3 s3 b4 s4 y0 m0 c2 c3 c4 c5 yb mb d2 d3 d4 d5 W.drew):=Nx.cf_step ⟨h⟩ (below_drew1 (Below.refl _ _))
theorem Nx.nf_step {w8:World}{g:Nat}{W W':World}(h:Aside0 (Nx.NF w8 g W))(hb:Below W.heap.size W W'):Aside0 (Nx.NF w8 g W'):=⟨⟨blk_below h.out.cell hb,h.out.new⟩⟩
theorem Nx.nf_new {w8:World}{gx ga gb:Nat}{b0:Int}{s0:Bool}{b1:Int}{s1:Bool}{b2:Int}{s2:Bool}{b3:Int}{s3:Bool}{b4:Int}{s4:Bool}{y0 m0 c2 c3 c4 c5 yb mb d2 d3 d4 d5:Int}{W:World}(h:Aside0 (Nx.CF w8 gx ga gb b0 s0 b1 s1 b2 s2 b3 s3 b4 s4 y0 m0 c2 c3 c4 c5 yb mb d2 d3 d4 d5 W)):Aside0 (Nx.NF w8 W.heap.size (W.alloc (.cells #[.int .i64 0] 3))):=⟨⟨heap_alloc_new _ _,h.out.below.size⟩⟩
theorem Nx.cf_cells {w8:World}{gx ga gb:Nat}{b0:Int}{s0:Bool}{b1:Int}{s1:Bool}{b2:Int}{s2:Bool}{b3:Int}{s3:Bool}{b4:Int}{s4:Bool}{y0 m0 c2 c3 c4 c5 yb mb d2 d3 d4 d5:Int}{W:World}(h:Aside0 (Nx.CF w8 gx ga gb b0 s0 b1 s1 b2 s2 b3 s3 b4 s4 y0 m0 c2 c3 c4 c5 yb mb d2 d3 d4 d5 W)):W.cell? ⟨gx,0,none⟩=some (.int .u64 b0)∧W.cell? ⟨gx,1,none⟩=some (.bool s0)∧W.cell? ⟨gx,2,none⟩=some (.int .u64 b1)∧W.cell? ⟨gx,3,none⟩=some (.bool s1)∧W.cell? ⟨gx,4,none⟩=some (.int .u64 b2)∧W.cell? ⟨gx,5,none⟩=some (.bool s2)∧W.cell? ⟨gx,6,none⟩=some (.int .u64 b3)∧W.cell? ⟨gx,7,none⟩=some (.bool s3)∧W.cell? ⟨gx,8,none⟩=some (.int .u64 b4)∧W.cell? ⟨gx,9,none⟩=some (.bool s4)∧W.cell? ⟨ga,0,none⟩=some (.int .i64 y0)∧W.cell? ⟨ga,1,none⟩=some (.int .i64 m0)∧W.cell? ⟨ga,2,none⟩=some (.int .i64 c2)∧W.cell? ⟨ga,3,none⟩=some (.int .i64 c3)∧W.cell? ⟨ga,4,none⟩=some (.int .i64 c4)∧W.cell? ⟨ga,5,none⟩=some (.int .i64 c5)∧W.cell? ⟨gb,0,none⟩=some (.int .i64 yb)∧W.cell? ⟨gb,1,none⟩=some (.int .i64 mb)∧W.cell? ⟨gb,2,none⟩=some (.int .i64 d2)∧W.cell? ⟨gb,3,none⟩=some (.int .i64 d3)∧W.cell? ⟨gb,4,none⟩=some (.int .i64 d4)∧W.cell? ⟨gb,5,none⟩=some (.int .i64 d5):=by
 obtain ⟨k0,k1,k2,k3,k4,k5,k6,k7,k8,k9⟩ :=h.out.row.cells
 exact ⟨k0,k1,k2,k3,k4,k5,k6,k7,k8,k9,(blk_cell h.out.a 0).trans rfl,(blk_cell h.out.a 1).trans rfl,(blk_cell h.out.a 2).trans rfl,(blk_cell h.out.a 3).trans rfl,(blk_cell h.out.a 4).trans rfl,(blk_cell h.out.a 5).trans rfl,(blk_cell h.out.b 0).trans rfl,(blk_cell h.out.b 1).trans rfl,(blk_cell h.out.b 2).trans rfl,(blk_cell h.out.b 3).trans rfl,(blk_cell h.out.b 4).trans rfl,(blk_cell h.out.b 5).trans rfl⟩
set_option maxHeartbeats 8000000 in
set_option maxRecDepth 1000000 in
theorem Nx.count_odd (b0:Int)(s0:Bool)(b1:Int)(s1:Bool)(b2:Int)(s2:Bool)(b3:Int)(s3:Bool)(b4:Int)(s4:Bool)(A:next_odd.f b0 s0 b1 s1 b2 s2 b3 s3 b4 s4=some true)(fr tu:Int)  (w:World) :
  CallsIn Fence.wide 6 Tryd.prog 18 #[.agg #[.int .u64 b0,.bool s0,.int .u64 b1,.bool s1,.int .u64 b2,.bool s2,.int .u64 b3,.bool s3,.int .u64 b4,.bool s4],.int .i64 fr,.int .i64 tu] w fun e w'=>
   e=.returned (.tuple #[.int .i64 0,.int .i64 2])∧Below w.heap.size w w':=by
 have HB:=Aside0.mk (show Spc.Row (w.alloc (.cells #[.int .u64 b0,.bool s0,.int .u64 b1,.bool s1,.int .u64 b2,.bool s2,.int .u64 b3,.bool s3,.int .u64 b4,.bool s4] 26)) w.heap.size b0 s0 b1 s1 b2 s2 b3 s3 b4 s4∧Below w.heap.size w (w.alloc (.cells #[.int .u64 b0,.bool s0,.int .u64 b1,.bool s1,.int .u64 b2,.bool s2,.int .u64 b3,.bool s3,.int .u64 b4,.bool s4] 26)) from ⟨blk_new w _,below_alloc (Below.refl _ _) _⟩)
 replace A:=Lib.hid A
 refine callsIn_of_wp_marks Tryd.func18 rfl trivial ?_ rfl
 simp only [Tryd.ntmps18,List.size_toArray,List.length_cons,List.length_nil,Nat.reduceAdd,Nat.reduceSub,Array.replicate_succ,Array.replicate_zero,List.push_toArray,List.append_toArray,List.nil_append,List.cons_append]
 refine wpIn_wide.2 ?_
 go_wp2_with fail
 generalize w.alloc (.cells #[.int .u64 b0,.bool s0,.int .u64 b1,.bool s1,.int .u64 b2,.bool s2,.int .u64 b3,.bool s3,.int .u64 b4,.bool s4] 26)=w1 at HB ⊢
 refine (next_odd.calls _ _ _ _ _ _ _ _ _ _ _ _ A.out).mono ?_
 rintro e w2 ⟨rfl,hb⟩
 have H2:=Aside0.mk (below_step HB.out.2 hb)
 clear HB hb A
 go_wp2_with fail
 refine Fld.leave w.heap.size _ 0 _ trivial ?_
 intro W2 hb2 hc
 exact ⟨.tuple #[.int .i64 0,.int .i64 2],by simp [results,Tryd.results18,go_sem],rfl,H2.out.trans hb2⟩
set_option maxHeartbeats 8000000 in
set_option maxRecDepth 1000000 in
theorem Nx.count_arga (b0:Int)(s0:Bool)(b1:Int)(s1:Bool)(b2:Int)(s2:Bool)(b3:Int)(s3:Bool)(b4:Int)(s4:Bool)(A:next_odd.f b0 s0 b1 s1 b2 s2 b3 s3 b4 s4=some false)(fr tu:Int)(hm:fr < 0)(w:World) :
  CallsIn Fence.wide 6 Tryd.prog 18 #[.agg #[.int .u64 b0,.bool s0,.int .u64 b1,.bool s1,.int .u64 b2,.bool s2,.int .u64 b3,.bool s3,.int .u64 b4,.bool s4],.int .i64 fr,.int .i64 tu] w fun e w'=>
   e=.returned (.tuple #[.int .i64 0,.int .i64 1])∧Below w.heap.size w w':=by
 have HB:=Aside0.mk (show Spc.Row (w.alloc (.cells #[.int .u64 b0,.bool s0,.int .u64 b1,.bool s1,.int .u64 b2,.bool s2,.int .u64 b3,.bool s3,.int .u64 b4,.bool s4] 26)) w.heap.size b0 s0 b1 s1 b2 s2 b3 s3 b4 s4∧Below w.heap.size w (w.alloc (.cells #[.int .u64 b0,.bool s0,.int .u64 b1,.bool s1,.int .u64 b2,.bool s2,.int .u64 b3,.bool s3,.int .u64 b4,.bool s4] 26)) from ⟨blk_new w _,below_alloc (Below.refl _ _) _⟩)
 replace A:=Lib.hid A
 have q1:decide (fr < 0)=true:=decide_eq_true hm
 refine callsIn_of_wp_marks Tryd.func18 rfl trivial ?_ rfl
 simp only [Tryd.ntmps18,List.size_toArray,List.length_cons,List.length_nil,Nat.reduceAdd,Nat.reduceSub,Array.replicate_succ,Array.replicate_zero,List.push_toArray,List.append_toArray,List.nil_append,List.cons_append]
 refine wpIn_wide.2 ?_
 go_wp2_with fail
 generalize w.alloc (.cells #[.int .u64 b0,.bool s0,.int .u64 b1,.bool s1,.int .u64 b2,.bool s2,.int .u64 b3,.bool s3,.int .u64 b4,.bool s4] 26)=w1 at HB ⊢
 refine (next_odd.calls _ _ _ _ _ _ _ _ _ _ _ _ A.out).mono ?_
 rintro e w2 ⟨rfl,hb⟩
 have H2:=Aside0.mk (below_step HB.out.2 hb)
 clear HB hb A
 go_wp2_with fail
 refine Fld.leave w.heap.size _ 0 _ trivial ?_
 intro W2 hb2 hc
 exact ⟨.tuple #[.int .i64 0,.int .i64 1],by simp [results,Tryd.results18,go_sem],rfl,H2.out.trans hb2⟩
set_option maxHeartbeats 8000000 in
set_option maxRecDepth 1000000 in
theorem Nx.count_argb (b0:Int)(s0:Bool)(b1:Int)(s1:Bool)(b2:Int)(s2:Bool)(b3:Int)(s3:Bool)(b4:Int)(s4:Bool)(A:next_odd.f b0 s0 b1 s1 b2 s2 b3 s3 b4 s4=some false)(fr tu:Int)(hm:0≤fr∧tu < fr)(w:World) :
  CallsIn Fence.wide 6 Tryd.prog 18 #[.agg #[.int .u64 b0,.bool s0,.int .u64 b1,.bool s1,.int .u64 b2,.bool s2,.int .u64 b3,.bool s3,.int .u64 b4,.bool s4],.int .i64 fr,.int .i64 tu] w fun e w'=>
   e=.returned (.tuple #[.int .i64 0,.int .i64 1])∧Below w.heap.size w w':=by
 have HB:=Aside0.mk (show Spc.Row (w.alloc (.cells #[.int .u64 b0,.bool s0,.int .u64 b1,.bool s1,.int .u64 b2,.bool s2,.int .u64 b3,.bool s3,.int .u64 b4,.bool s4] 26)) w.heap.size b0 s0 b1 s1 b2 s2 b3 s3 b4 s4∧Below w.heap.size w (w.alloc (.cells #[.int .u64 b0,.bool s0,.int .u64 b1,.bool s1,.int .u64 b2,.bool s2,.int .u64 b3,.bool s3,.int .u64 b4,.bool s4] 26)) from ⟨blk_new w _,below_alloc (Below.refl _ _) _⟩)
 replace A:=Lib.hid A
 have q1:decide (fr < 0)=false:=decide_eq_false (by omega)
 have q2:decide (tu < fr)=true:=decide_eq_true hm.2
 refine callsIn_of_wp_marks Tryd.func18 rfl trivial ?_ rfl
 simp only [Tryd.ntmps18,List.size_toArray,List.length_cons,List.length_nil,Nat.reduceAdd,Nat.reduceSub,Array.replicate_succ,Array.replicate_zero,List.push_toArray,List.append_toArray,List.nil_append,List.cons_append]
 refine wpIn_wide.2 ?_
 go_wp2_with fail
 generalize w.alloc (.cells #[.int .u64 b0,.bool s0,.int .u64 b1,.bool s1,.int .u64 b2,.bool s2,.int .u64 b3,.bool s3,.int .u64 b4,.bool s4] 26)=w1 at HB ⊢
 refine (next_odd.calls _ _ _ _ _ _ _ _ _ _ _ _ A.out).mono ?_
 rintro e w2 ⟨rfl,hb⟩
 have H2:=Aside0.mk (below_step HB.out.2 hb)
 clear HB hb A
 go_wp2_with fail
 refine Fld.leave w.heap.size _ 0 _ trivial ?_
 intro W2 hb2 hc
 exact ⟨.tuple #[.int .i64 0,.int .i64 1],by simp [results,Tryd.results18,go_sem],rfl,H2.out.trans hb2⟩
set_option maxHeartbeats 8000000 in
set_option maxRecDepth 1000000 in
theorem Nx.count_argc (b0:Int)(s0:Bool)(b1:Int)(s1:Bool)(b2:Int)(s2:Bool)(b3:Int)(s3:Bool)(b4:Int)(s4:Bool)(A:next_odd.f b0 s0 b1 s1 b2 s2 b3 s3 b4 s4=some false)(fr tu:Int)(hm:0≤fr∧fr≤tu∧541728000 < tu)(w:World) :
  CallsIn Fence.wide 6 Tryd.prog 18 #[.agg #[.int .u64 b0,.bool s0,.int .u64 b1,.bool s1,.int .u64 b2,.bool s2,.int .u64 b3,.bool s3,.int .u64 b4,.bool s4],.int .i64 fr,.int .i64 tu] w fun e w'=>
   e=.returned (.tuple #[.int .i64 0,.int .i64 1])∧Below w.heap.size w w':=by
 have HB:=Aside0.mk (show Spc.Row (w.alloc (.cells #[.int .u64 b0,.bool s0,.int .u64 b1,.bool s1,.int .u64 b2,.bool s2,.int .u64 b3,.bool s3,.int .u64 b4,.bool s4] 26)) w.heap.size b0 s0 b1 s1 b2 s2 b3 s3 b4 s4∧Below w.heap.size w (w.alloc (.cells #[.int .u64 b0,.bool s0,.int .u64 b1,.bool s1,.int .u64 b2,.bool s2,.int .u64 b3,.bool s3,.int .u64 b4,.bool s4] 26)) from ⟨blk_new w _,below_alloc (Below.refl _ _) _⟩)
 replace A:=Lib.hid A
 have q1:decide (fr < 0)=false:=decide_eq_false (by omega)
 have q2:decide (tu < fr)=false:=decide_eq_false (by omega)
 have q3:decide (541728000 < tu)=true:=decide_eq_true hm.2.2
 refine callsIn_of_wp_marks Tryd.func18 rfl trivial ?_ rfl
 simp only [Tryd.ntmps18,List.size_toArray,List.length_cons,List.length_nil,Nat.reduceAdd,Nat.reduceSub,Array.replicate_succ,Array.replicate_zero,List.push_toArray,List.append_toArray,List.nil_append,List.cons_append]
 refine wpIn_wide.2 ?_
 go_wp2_with fail
 generalize w.alloc (.cells #[.int .u64 b0,.bool s0,.int .u64 b1,.bool s1,.int .u64 b2,.bool s2,.int .u64 b3,.bool s3,.int .u64 b4,.bool s4] 26)=w1 at HB ⊢
 refine (next_odd.calls _ _ _ _ _ _ _ _ _ _ _ _ A.out).mono ?_
 rintro e w2 ⟨rfl,hb⟩
 have H2:=Aside0.mk (below_step HB.out.2 hb)
 clear HB hb A
 go_wp2_with fail
 refine Fld.leave w.heap.size _ 0 _ trivial ?_
 intro W2 hb2 hc
 exact ⟨.tuple #[.int .i64 0,.int .i64 1],by simp [results,Tryd.results18,go_sem],rfl,H2.out.trans hb2⟩
set_option maxHeartbeats 8000000 in
set_option maxRecDepth 1000000 in
theorem Nx.count_eq (b0:Int)(s0:Bool)(b1:Int)(s1:Bool)(b2:Int)(s2:Bool)(b3:Int)(s3:Bool)(b4:Int)(s4:Bool)(A:next_odd.f b0 s0 b1 s1 b2 s2 b3 s3 b4 s4=some false)(fr tu:Int)(hm:0≤fr∧fr=tu∧tu≤541728000)(w:World) :
  CallsIn Fence.wide 6 Tryd.prog 18 #[.agg #[.int .u64 b0,.bool s0,.int .u64 b1,.bool s1,.int .u64 b2,.bool s2,.int .u64 b3,.bool s3,.int .u64 b4,.bool s4],.int .i64 fr,.int .i64 tu] w fun e w'=>
   e=.returned (.tuple #[.int .i64 0,.int .i64 0])∧Below w.heap.size w w':=by
 have HB:=Aside0.mk (show Spc.Row (w.alloc (.cells #[.int .u64 b0,.bool s0,.int .u64 b1,.bool s1,.int .u64 b2,.bool s2,.int .u64 b3,.bool s3,.int .u64 b4,.bool s4] 26)) w.heap.size b0 s0 b1 s1 b2 s2 b3 s3 b4 s4∧Below w.heap.size w (w.alloc (.cells #[.int .u64 b0,.bool s0,.int .u64 b1,.bool s1,.int .u64 b2,.bool s2,.int .u64 b3,.bool s3,.int .u64 b4,.bool s4] 26)) from ⟨blk_new w _,below_alloc (Below.refl _ _) _⟩)
 replace A:=Lib.hid A
 have q1:decide (fr < 0)=false:=decide_eq_false (by omega)
 have q2:decide (tu < fr)=false:=decide_eq_false (by omega)
 have q3:decide (541728000 < tu)=false:=decide_eq_false (by omega)
 have q4:(fr == tu)=true:=by simpa using hm.2.1
 replace hm:=Lib.hid hm
 refine callsIn_of_wp_marks Tryd.func18 rfl trivial ?_ rfl
 simp only [Tryd.ntmps18,List.size_toArray,List.length_cons,List.length_nil,Nat.reduceAdd,Nat.reduceSub,Array.replicate_succ,Array.replicate_zero,List.push_toArray,List.append_toArray,List.nil_append,List.cons_append]
 refine wpIn_wide.2 ?_
 go_wp2_with fail
 generalize w.alloc (.cells #[.int .u64 b0,.bool s0,.int .u64 b1,.bool s1,.int .u64 b2,.bool s2,.int .u64 b3,.bool s3,.int .u64 b4,.bool s4] 26)=w1 at HB ⊢
 refine (next_odd.calls _ _ _ _ _ _ _ _ _ _ _ _ A.out).mono ?_
 rintro e w2 ⟨rfl,hb⟩
 have H2:=Aside0.mk (below_step HB.out.2 hb)
 clear HB hb A
 go_wp2_with fail
 refine Fld.leave w.heap.size _ 0 _ trivial ?_
 intro W2 hb2 hc
 exact ⟨.tuple #[.int .i64 0,.int .i64 0],by simp [results,Tryd.results18,go_sem],rfl,H2.out.trans hb2⟩
set_option maxHeartbeats 8000000 in
set_option maxRecDepth 1000000 in
theorem Nx.count_good (b0:Int)(s0:Bool)(b1:Int)(s1:Bool)(b2:Int)(s2:Bool)(b3:Int)(s3:Bool)(b4:Int)(s4:Bool)(hok:Dy.okS b0 b1 b2 b3 b4=true)(A:next_odd.f b0 s0 b1 s1 b2 s2 b3 s3 b4 s4=some false)(fr tu wh we ub ua:Int)(on:Bool)(oe:Int)(y0 m0 c2 c3 c4 c5 ce yb mb d2 d3 d4 d5 de:Int)
  (h0:0≤fr) (h1:fr < tu) (h2:tu≤541728000) (hOa:Civ.of fr=(y0,m0,c2,c3,c4,c5,ce)) (hOb:Civ.of (tu - 1)=(yb,mb,d2,d3,d4,d5,de)) (hMin:day_Minutes.f b0 s0 b1 s1 b2 s2 b3 s3 b4 s4=some (wh,we)) (hUb:next_upTo.f 1000 b0 s0 b1 s1 b2 s2 b3 s3 b4 s4 yb mb d2 d3 d4 d5=some ub) (hUa:next_upTo.f 1000 b0 s0 b1 s1 b2 s2 b3 s3 b4 s4 y0 m0 c2 c3 c4 c5=some ua) (hOn:day_Match.f b0 s0 b1 s1 b2 s2 b3 s3 b4 s4 (tu - 1)=some (on,oe)) (w:World) (hT:Tab w) :
  CallsIn Fence.wide 6 Tryd.prog 18 #[.agg #[.int .u64 b0,.bool s0,.int .u64 b1,.bool s1,.int .u64 b2,.bool s2,.int .u64 b3,.bool s3,.int .u64 b4,.bool s4],.int .i64 fr,.int .i64 tu] w fun e w'=>
   e=.returned (.tuple #[.int .i64 (Nx.sumW wh yb mb ((Nx.mons (Dy.mask false b2 s2 b3 b4 s4) 1 20000 y0 m0 0).map Nx.embF) (if on=true then wrap64 (wrap64 (ub - ua)+1) else wrap64 (ub - ua))),.int .i64 0])∧Below w.heap.size w w':=by
 obtain ⟨hy1,hy2,hm1,hm2⟩:1970≤y0∧y0≤2999∧1≤m0∧m0≤12:=by
  have hO:=hOa
  unfold Civ.of at hO
  rw [if_neg (by omega)] at hO
  obtain ⟨ok,-⟩ :=Civ.date_ok (d:=fr / 1440) (by omega) (by omega)
  injection hO with e1 e
  injection e with e2 e
  obtain ⟨q1,q2,q3,q4,-,-⟩ :=ok
  omega
 have B:day_odd.f b0 s0 b1 s1 b2 s2 b3 s3 b4 s4=some false:=A
 have e1:decide (fr < 0)=false:=decide_eq_false (by omega)
 have e2:decide (tu < fr)=false:=decide_eq_false (by omega)
 have e3:decide (541728000 < tu)=false:=decide_eq_false (by omega)
 have e4:(fr == tu)=false:=by simpa using (show fr≠tu by omega)
 obtain ⟨nv,hnv⟩:∃ z,(if on=true then wrap64 (wrap64 (ub - ua)+1) else wrap64 (ub - ua))=z:=⟨_,rfl⟩
 rw [hnv]
 replace hnv:=Lib.hid hnv
 obtain ⟨sv,hsv⟩:∃ z,Nx.sumW wh yb mb ((Nx.mons (Dy.mask false b2 s2 b3 b4 s4) 1 20000 y0 m0 0).map Nx.embF) nv=z:=⟨_,rfl⟩
 rw [hsv]
 replace hsv:=Lib.hid hsv
 have HB:=Aside0.mk (show Spc.Row (w.alloc (.cells #[.int .u64 b0,.bool s0,.int .u64 b1,.bool s1,.int .u64 b2,.bool s2,.int .u64 b3,.bool s3,.int .u64 b4,.bool s4] 26)) w.heap.size b0 s0 b1 s1 b2 s2 b3 s3 b4 s4∧Below w.heap.size w (w.alloc (.cells #[.int .u64 b0,.bool s0,.int .u64 b1,.bool s1,.int .u64 b2,.bool s2,.int .u64 b3,.bool s3,.int .u64 b4,.bool s4] 26)) from ⟨blk_new w _,below_alloc (Below.refl _ _) _⟩)
 replace hOa:=Lib.hid hOa
 replace hOb:=Lib.hid hOb
 replace hMin:=Lib.hid hMin
 replace hUb:=Lib.hid hUb
 replace hUa:=Lib.hid hUa
 replace hOn:=Lib.hid hOn
 replace A:=Lib.hid A
 replace B:=Lib.hid B
 replace hok:=Lib.hid hok
 refine callsIn_of_wp_marks Tryd.func18 rfl trivial ?_ rfl
 simp only [Tryd.ntmps18,List.size_toArray,List.length_cons,List.length_nil,Nat.reduceAdd,Nat.reduceSub,Array.replicate_succ,Array.replicate_zero,List.push_toArray,List.append_toArray,List.nil_append,List.cons_append]
 refine wpIn_wide.2 ?_
 go_wp2_with fail
 generalize w.alloc (.cells #[.int .u64 b0,.bool s0,.int .u64 b1,.bool s1,.int .u64 b2,.bool s2,.int .u64 b3,.bool s3,.int .u64 b4,.bool s4] 26)=w1 at HB ⊢
 refine (next_odd.calls _ _ _ _ _ _ _ _ _ _ _ _ A.out).mono ?_
 rintro e w2 ⟨rfl,hb⟩
 have H2:=Aside0.mk (show Spc.Row w2 w.heap.size b0 s0 b1 s1 b2 s2 b3 s3 b4 s4∧Below w.heap.size w w2 from ⟨blk_below HB.out.1 hb,below_step HB.out.2 hb⟩)
 clear HB hb A
 go_wp2_with fail
 refine (civil_Of.calls 2 fr y0 m0 c2 c3 c4 c5 ce _ (by rw [Civ.of_f fr 2 (by decide),hOa.out])).mono ?_
 rintro e w3 ⟨rfl,hb⟩
 have H3:=Aside0.mk (show Spc.Row w3 w.heap.size b0 s0 b1 s1 b2 s2 b3 s3 b4 s4∧Below w.heap.size w w3 from ⟨blk_below H2.out.1 hb,below_step H2.out.2 hb⟩)
 clear H2 hb
 go_wp2_with fail
 obtain ⟨ga,hga⟩:∃ g,w3.heap.size=g:=⟨_,rfl⟩
 have gl1:w.heap.size < ga:=by rw [← hga]; exact blk_lt H3.out.1
 have H4:=Aside0.mk (show Spc.Row (w3.alloc (.cells #[.int .i64 y0,.int .i64 m0,.int .i64 c2,.int .i64 c3,.int .i64 c4,.int .i64 c5] 66)) w.heap.size b0 s0 b1 s1 b2 s2 b3 s3 b4 s4∧Below w.heap.size w (w3.alloc (.cells #[.int .i64 y0,.int .i64 m0,.int .i64 c2,.int .i64 c3,.int .i64 c4,.int .i64 c5] 66))∧(w3.alloc (.cells #[.int .i64 y0,.int .i64 m0,.int .i64 c2,.int .i64 c3,.int .i64 c4,.int .i64 c5] 66)).heap[ga]?=some (.cells #[.int .i64 y0,.int .i64 m0,.int .i64 c2,.int .i64 c3,.int .i64 c4,.int .i64 c5] 66 (0,0)) from ⟨blk_alloc H3.out.1 _,below_alloc H3.out.2 _,(by rw [← hga]; exact heap_alloc_new _ _)⟩)
 rw [hga] at ⊢
 generalize w3.alloc (.cells #[.int .i64 y0,.int .i64 m0,.int .i64 c2,.int .i64 c3,.int .i64 c4,.int .i64 c5] 66)=w4 at H4 ⊢
 clear H3 hga
 refine (civil_Of.calls 2 (tu - 1) yb mb d2 d3 d4 d5 de _ (by rw [Civ.of_f (tu - 1) 2 (by decide),hOb.out])).mono ?_
 rintro e w5 ⟨rfl,hb⟩
 have H5:=Aside0.mk (show Spc.Row w5 w.heap.size b0 s0 b1 s1 b2 s2 b3 s3 b4 s4∧Below w.heap.size w w5∧w5.heap[ga]?=some (.cells #[.int .i64 y0,.int .i64 m0,.int .i64 c2,.int .i64 c3,.int .i64 c4,.int .i64 c5] 66 (0,0)) from ⟨blk_below H4.out.1 hb,below_step H4.out.2.1 hb,blk_below H4.out.2.2 hb⟩)
 clear H4 hb
 have jr:Spc.Row (w5.alloc (.cells #[.int .i64 yb,.int .i64 mb,.int .i64 d2,.int .i64 d3,.int .i64 d4,.int .i64 d5] 66)) w.heap.size b0 s0 b1 s1 b2 s2 b3 s3 b4 s4:=blk_alloc H5.out.1 _
 obtain ⟨k0,k1,k2,k3,k4,k5,k6,k7,k8,k9⟩ :=jr.cells
 clear jr
 go_wp2_with fail
 obtain ⟨gb,hgb⟩:∃ g,w5.heap.size=g:=⟨_,rfl⟩
 have gl2:ga < gb:=by rw [← hgb]; exact blk_lt H5.out.2.2
 clear k0 k1 k2 k3 k4 k5 k6 k7 k8 k9
 have H6:=Aside0.mk (show Spc.Row (w5.alloc (.cells #[.int .i64 yb,.int .i64 mb,.int .i64 d2,.int .i64 d3,.int .i64 d4,.int .i64 d5] 66)) w.heap.size b0 s0 b1 s1 b2 s2 b3 s3 b4 s4∧Below w.heap.size w (w5.alloc (.cells #[.int .i64 yb,.int .i64 mb,.int .i64 d2,.int .i64 d3,.int .i64 d4,.int .i64 d5] 66))∧(w5.alloc (.cells #[.int .i64 yb,.int .i64 mb,.int .i64 d2,.int .i64 d3,.int .i64 d4,.int .i64 d5] 66)).heap[ga]?=some (.cells #[.int .i64 y0,.int .i64 m0,.int .i64 c2,.int .i64 c3,.int .i64 c4,.int .i64 c5] 66 (0,0))∧(w5.alloc (.cells #[.int .i64 yb,.int .i64 mb,.int .i64 d2,.int .i64 d3,.int .i64 d4,.int .i64 d5] 66)).heap[gb]?=some (.cells #[.int .i64 yb,.int .i64 mb,.int .i64 d2,.int .i64 d3,.int .i64 d4,.int .i64 d5] 66 (0,0)) from ⟨blk_alloc H5.out.1 _,below_alloc H5.out.2.1 _,blk_alloc H5.out.2.2 _,(by rw [← hgb]; exact heap_alloc_new _ _)⟩)
 rw [hgb] at ⊢
 generalize w5.alloc (.cells #[.int .i64 yb,.int .i64 mb,.int .i64 d2,.int .i64 d3,.int .i64 d4,.int .i64 d5] 66)=w6 at H6 ⊢
 clear H5 hgb
 refine (day_Minutes.calls _ _ _ _ _ _ _ _ _ _ _ _ _ hMin.out).mono ?_
 rintro e w7 ⟨rfl,hb⟩
 have H7:=Aside0.mk (show Spc.Row w7 w.heap.size b0 s0 b1 s1 b2 s2 b3 s3 b4 s4∧Below w.heap.size w w7∧w7.heap[ga]?=some (.cells #[.int .i64 y0,.int .i64 m0,.int .i64 c2,.int .i64 c3,.int .i64 c4,.int .i64 c5] 66 (0,0))∧w7.heap[gb]?=some (.cells #[.int .i64 yb,.int .i64 mb,.int .i64 d2,.int .i64 d3,.int .i64 d4,.int .i64 d5] 66 (0,0)) from ⟨blk_below H6.out.1 hb,below_step H6.out.2.1 hb,blk_below H6.out.2.2.1 hb,blk_below H6.out.2.2.2 hb⟩)
 clear H6 hb
 go_wp2_with fail
 obtain ⟨gw,hgw⟩:∃ g,w7.heap.size=g:=⟨_,rfl⟩
 have gl3:gb < gw:=by rw [← hgw]; exact blk_lt H7.out.2.2.2
 have H8:=Aside0.mk (show Spc.Row (w7.alloc (.cells #[.int .i64 wh] 3)) w.heap.size b0 s0 b1 s1 b2 s2 b3 s3 b4 s4∧Below w.heap.size w (w7.alloc (.cells #[.int .i64 wh] 3))∧(w7.alloc (.cells #[.int .i64 wh] 3)).heap[ga]?=some (.cells #[.int .i64 y0,.int .i64 m0,.int .i64 c2,.int .i64 c3,.int .i64 c4,.int .i64 c5] 66 (0,0))∧(w7.alloc (.cells #[.int .i64 wh] 3)).heap[gb]?=some (.cells #[.int .i64 yb,.int .i64 mb,.int .i64 d2,.int .i64 d3,.int .i64 d4,.int .i64 d5] 66 (0,0))∧(w7.alloc (.cells #[.int .i64 wh] 3)).heap[gw]?=some (.cells #[.int .i64 wh] 3 (0,0)) from ⟨blk_alloc H7.out.1 _,below_alloc H7.out.2.1 _,blk_alloc H7.out.2.2.1 _,blk_alloc H7.out.2.2.2 _,(by rw [← hgw]; exact heap_alloc_new _ _)⟩)
 rw [hgw] at ⊢
 generalize w7.alloc (.cells #[.int .i64 wh] 3)=w8 at H8 ⊢
 clear H7 hgw
 have C_:Aside0 (Nx.CF w8 w.heap.size ga gb b0 s0 b1 s1 b2 s2 b3 s3 b4 s4 y0 m0 c2 c3 c4 c5 yb mb d2 d3 d4 d5 w8.drew):=Nx.cf_drew ⟨H8.out.1,H8.out.2.2.1,H8.out.2.2.2.1,hT.keep H8.out.2.1,Below.refl _ _⟩
 obtain ⟨k0,k1,k2,k3,k4,k5,k6,k7,k8,k9,ja0,ja1,ja2,ja3,ja4,ja5,jb0,jb1,jb2,jb3,jb4,jb5⟩ :=Nx.cf_cells C_
 refine wp_mono (Q:=Nx.NoP _) ?_ (fun e a w h=>Nx.nop_out h)
 refine start_ (n:=9) (S:=fun w'=>w'.cell? ⟨w.heap.size,0,none⟩=some (.int .u64 b0)∧w'.cell? ⟨w.heap.size,1,none⟩=some (.bool s0)∧w'.cell? ⟨w.heap.size,2,none⟩=some (.int .u64 b1)∧w'.cell? ⟨w.heap.size,3,none⟩=some (.bool s1)∧w'.cell? ⟨w.heap.size,4,none⟩=some (.int .u64 b2)∧w'.cell? ⟨w.heap.size,5,none⟩=some (.bool s2)∧w'.cell? ⟨w.heap.size,6,none⟩=some (.int .u64 b3)∧w'.cell? ⟨w.heap.size,7,none⟩=some (.bool s3)∧w'.cell? ⟨w.heap.size,8,none⟩=some (.int .u64 b4)∧w'.cell? ⟨w.heap.size,9,none⟩=some (.bool s4)∧w'.cell? ⟨ga,0,none⟩=some (.int .i64 y0)∧w'.cell? ⟨ga,1,none⟩=some (.int .i64 m0)∧w'.cell? ⟨ga,2,none⟩=some (.int .i64 c2)∧w'.cell? ⟨ga,3,none⟩=some (.int .i64 c3)∧w'.cell? ⟨ga,4,none⟩=some (.int .i64 c4)∧w'.cell? ⟨ga,5,none⟩=some (.int .i64 c5)∧w'.cell? ⟨gb,0,none⟩=some (.int .i64 yb)∧w'.cell? ⟨gb,1,none⟩=some (.int .i64 mb)∧w'.cell? ⟨gb,2,none⟩=some (.int .i64 d2)∧w'.cell? ⟨gb,3,none⟩=some (.int .i64 d3)∧w'.cell? ⟨gb,4,none⟩=some (.int .i64 d4)∧w'.cell? ⟨gb,5,none⟩=some (.int .i64 d5)) (ds:=[8]) #[F_,F_,F_,F_,F_,F_,F_,F_,F_] (by kernel_rfl) rfl rfl ⟨k0,k1,k2,k3,k4,k5,k6,k7,k8,k9,ja0,ja1,ja2,ja3,ja4,ja5,jb0,jb1,jb2,jb3,jb4,jb5⟩ (fun hHeld=>?_)
 refine take_ (i:=0) (N:=some 55) (v:=?_) (a':=?_) #[T_,F_,F_,F_,F_,F_,F_,F_,F_] rfl rfl (by kernel_rfl) (fun _ _ _ h=>h) (Or.inl ⟨by rfl,?_⟩) hHeld ?_ ?_
 rotate_left
 ·rintro w' ⟨s0,s1,s2,s3,s4,s5,s6,s7,s8,s9,s10,s11,s12,s13,s14,s15,s16,s17,s18,s19,s20,s21⟩
  go_simp
  with_reducible rfl
 rotate_left
 ·simp only [Act.put,List.setIfInBounds_toArray,List.set_cons_zero,List.set_cons_succ,i64_w,i32_w]
  rfl
 refine take_ (i:=1) (N:=some 56) (v:=?_) (a':=?_) #[T_,T_,F_,F_,F_,F_,F_,F_,F_] rfl rfl (by kernel_rfl) (fun _ _ _ h=>h) (Or.inl ⟨by rfl,?_⟩) hHeld ?_ ?_
 rotate_left
 ·rintro w' ⟨s0,s1,s2,s3,s4,s5,s6,s7,s8,s9,s10,s11,s12,s13,s14,s15,s16,s17,s18,s19,s20,s21⟩
  go_simp
  with_reducible rfl
 rotate_left
 ·simp only [Act.put,List.setIfInBounds_toArray,List.set_cons_zero,List.set_cons_succ,i64_w,i32_w]
  rfl
 refine take_ (i:=3) (N:=some 58) (v:=?_) (a':=?_) #[T_,T_,F_,T_,F_,F_,F_,F_,F_] rfl rfl (by kernel_rfl) (fun _ _ _ h=>h) (Or.inl ⟨by rfl,?_⟩) hHeld ?_ ?_
 rotate_left
 ·rintro w' ⟨s0,s1,s2,s3,s4,s5,s6,s7,s8,s9,s10,s11,s12,s13,s14,s15,s16,s17,s18,s19,s20,s21⟩
  go_simp
  with_reducible rfl
 rotate_left
 ·simp only [Act.put,List.setIfInBounds_toArray,List.set_cons_zero,List.set_cons_succ,i64_w,i32_w]
  rfl
 refine take_ (i:=4) (N:=some 59) (v:=?_) (a':=?_) #[T_,T_,F_,T_,T_,F_,F_,F_,F_] rfl rfl (by kernel_rfl) (fun _ _ _ h=>h) (Or.inl ⟨by rfl,?_⟩) hHeld ?_ ?_
 rotate_left
 ·rintro w' ⟨s0,s1,s2,s3,s4,s5,s6,s7,s8,s9,s10,s11,s12,s13,s14,s15,s16,s17,s18,s19,s20,s21⟩
  go_simp
  with_reducible rfl
 rotate_left
 ·simp only [Act.put,List.setIfInBounds_toArray,List.set_cons_zero,List.set_cons_succ,i64_w,i32_w]
  rfl
 refine join_ (σ:=Nat) 1 #[T_,T_,T_,T_,T_,T_,T_,T_,F_] (fun s_=>[(57,.int .i64 ub),(60,.int .i64 ua),(14,.pointer (some ⟨s_,0,none⟩)),(61,.int .i64 (wrap64 (ub - ua)))]) (fun s_ w'=>(w'.cell? ⟨w.heap.size,0,none⟩=some (.int .u64 b0)∧w'.cell? ⟨w.heap.size,1,none⟩=some (.bool s0)∧w'.cell? ⟨w.heap.size,2,none⟩=some (.int .u64 b1)∧w'.cell? ⟨w.heap.size,3,none⟩=some (.bool s1)∧w'.cell? ⟨w.heap.size,4,none⟩=some (.int .u64 b2)∧w'.cell? ⟨w.heap.size,5,none⟩=some (.bool s2)∧w'.cell? ⟨w.heap.size,6,none⟩=some (.int .u64 b3)∧w'.cell? ⟨w.heap.size,7,none⟩=some (.bool s3)∧w'.cell? ⟨w.heap.size,8,none⟩=some (.int .u64 b4)∧w'.cell? ⟨w.heap.size,9,none⟩=some (.bool s4)∧w'.cell? ⟨ga,0,none⟩=some (.int .i64 y0)∧w'.cell? ⟨ga,1,none⟩=some (.int .i64 m0)∧w'.cell? ⟨ga,2,none⟩=some (.int .i64 c2)∧w'.cell? ⟨ga,3,none⟩=some (.int .i64 c3)∧w'.cell? ⟨ga,4,none⟩=some (.int .i64 c4)∧w'.cell? ⟨ga,5,none⟩=some (.int .i64 c5)∧w'.cell? ⟨gb,0,none⟩=some (.int .i64 yb)∧w'.cell? ⟨gb,1,none⟩=some (.int .i64 mb)∧w'.cell? ⟨gb,2,none⟩=some (.int .i64 d2)∧w'.cell? ⟨gb,3,none⟩=some (.int .i64 d3)∧w'.cell? ⟨gb,4,none⟩=some (.int .i64 d4)∧w'.cell? ⟨gb,5,none⟩=some (.int .i64 d5))∧Aside0 (Nx.CF w8 w.heap.size ga gb b0 s0 b1 s1 b2 s2 b3 s3 b4 s4 y0 m0 c2 c3 c4 c5 yb mb d2 d3 d4 d5 w')∧Aside0 (Nx.NF w8 s_ w')) ?_ ?_
 rotate_left
 ·intro hCont
  refine two_ (i:=2) (j:=7) (Ni:=some 57) (Nj:=some 14) #[T_,T_,T_,T_,T_,F_,F_,F_,F_] #[T_,T_,F_,T_,T_,F_,F_,T_,F_] rfl rfl rfl rfl (by kernel_rfl) (by decide) (by decide) (fun K hK=>?_) (fun K hK=>?_)
  ·skip
   refine goes_ Tryd.func34 (by kernel_rfl) rfl #[.agg #[.int .u64 b0,.bool s0,.int .u64 b1,.bool s1,.int .u64 b2,.bool s2,.int .u64 b3,.bool s3,.int .u64 b4,.bool s4],.agg #[.int .i64 yb,.int .i64 mb,.int .i64 d2,.int .i64 d3,.int .i64 d4,.int .i64 d5]] (by rfl) rfl rfl (by simp only [List.map_toArray,List.map_cons,List.map_nil]; rfl) ?_
   with_reducible refine (next_upTo.calls 1000 b0 s0 b1 s1 b2 s2 b3 s3 b4 s4 yb mb d2 d3 d4 d5 ub _ (Nx.cf_tab (by assumption:Aside0 (Nx.CF w8 w.heap.size ga gb b0 s0 b1 s1 b2 s2 b3 s3 b4 s4 y0 m0 c2 c3 c4 c5 yb mb d2 d3 d4 d5 w8.drew))) hUb.out).mono ?_
   rintro e wa ⟨rfl,hb⟩
   refine ⟨_,rfl,?_⟩
   have C_:Aside0 (Nx.CF w8 w.heap.size ga gb b0 s0 b1 s1 b2 s2 b3 s3 b4 s4 y0 m0 c2 c3 c4 c5 yb mb d2 d3 d4 d5 wa):=Nx.cf_step (by assumption) hb
   clear hb
   obtain ⟨k0,k1,k2,k3,k4,k5,k6,k7,k8,k9,ja0,ja1,ja2,ja3,ja4,ja5,jb0,jb1,jb2,jb3,jb4,jb5⟩ :=Nx.cf_cells C_
   refine hK.out _ _ ⟨k0,k1,k2,k3,k4,k5,k6,k7,k8,k9,ja0,ja1,ja2,ja3,ja4,ja5,jb0,jb1,jb2,jb3,jb4,jb5⟩ (fun hHeld=>?_)
   clear hK K
   refine norm_ (a':=?_) ?_ ?_
   rotate_left
   ·show Act.put _ (some 57) _=_
    simp only [Act.put,List.setIfInBounds_toArray,List.set_cons_zero,List.set_cons_succ,i64_w,i32_w]
    rfl
   refine two_ (i:=5) (j:=7) (Ni:=some 60) (Nj:=some 14) #[T_,T_,T_,T_,T_,T_,F_,F_,F_] #[T_,T_,T_,T_,T_,F_,F_,T_,F_] rfl rfl rfl rfl (by kernel_rfl) (by decide) (by decide) (fun K hK=>?_) (fun K hK=>?_)
   ·skip
    refine goes_ Tryd.func34 (by kernel_rfl) rfl #[.agg #[.int .u64 b0,.bool s0,.int .u64 b1,.bool s1,.int .u64 b2,.bool s2,.int .u64 b3,.bool s3,.int .u64 b4,.bool s4],.agg #[.int .i64 y0,.int .i64 m0,.int .i64 c2,.int .i64 c3,.int .i64 c4,.int .i64 c5]] (by rfl) rfl rfl (by simp only [List.map_toArray,List.map_cons,List.map_nil]; rfl) ?_
    with_reducible refine (next_upTo.calls 1000 b0 s0 b1 s1 b2 s2 b3 s3 b4 s4 y0 m0 c2 c3 c4 c5 ua _ (Nx.cf_tab (by assumption:Aside0 (Nx.CF w8 w.heap.size ga gb b0 s0 b1 s1 b2 s2 b3 s3 b4 s4 y0 m0 c2 c3 c4 c5 yb mb d2 d3 d4 d5 wa))) hUa.out).mono ?_
    rintro e wb ⟨rfl,hb⟩
    refine ⟨_,rfl,?_⟩
    have C_:Aside0 (Nx.CF w8 w.heap.size ga gb b0 s0 b1 s1 b2 s2 b3 s3 b4 s4 y0 m0 c2 c3 c4 c5 yb mb d2 d3 d4 d5 wb):=Nx.cf_step (by assumption) hb
    clear hb
    obtain ⟨k0,k1,k2,k3,k4,k5,k6,k7,k8,k9,ja0,ja1,ja2,ja3,ja4,ja5,jb0,jb1,jb2,jb3,jb4,jb5⟩ :=Nx.cf_cells C_
    refine hK.out _ _ ⟨k0,k1,k2,k3,k4,k5,k6,k7,k8,k9,ja0,ja1,ja2,ja3,ja4,ja5,jb0,jb1,jb2,jb3,jb4,jb5⟩ (fun hHeld=>?_)
    clear hK K
    refine norm_ (a':=?_) ?_ ?_
    rotate_left
    ·show Act.put _ (some 60) _=_
     simp only [Act.put,List.setIfInBounds_toArray,List.set_cons_zero,List.set_cons_succ,i64_w,i32_w]
     rfl
    refine pure_ (i:=6) (N:=some 61) (v:=?_) (a':=?_) #[T_,T_,T_,T_,T_,T_,T_,F_,F_] rfl rfl (by kernel_rfl) (fun _ _ _ h=>h) (Or.inl ⟨by rfl,?_⟩) ?_ ?_
    rotate_left
    ·intro w'
     go_simp
     with_reducible rfl
    rotate_left
    ·simp only [Act.put,List.setIfInBounds_toArray,List.set_cons_zero,List.set_cons_succ,i64_w,i32_w]
     rfl
    refine one_ (i:=7) (N:=some 14) #[T_,T_,T_,T_,T_,T_,T_,T_,F_] rfl rfl (by kernel_rfl) (by decide) (fun K hK=>?_)
    refine value_ (w1:=?_) (v:=?_) (by rfl) rfl ?_ ?_
    rotate_left 2
    ·go_simp
     constructor
     ·rfl
     ·rfl
    have N_:Aside0 (Nx.NF w8 wb.heap.size (wb.alloc (.cells #[.int .i64 0] 3))):=Nx.nf_new (by assumption:Aside0 (Nx.CF w8 w.heap.size ga gb b0 s0 b1 s1 b2 s2 b3 s3 b4 s4 y0 m0 c2 c3 c4 c5 yb mb d2 d3 d4 d5 wb))
    have C_:Aside0 (Nx.CF w8 w.heap.size ga gb b0 s0 b1 s1 b2 s2 b3 s3 b4 s4 y0 m0 c2 c3 c4 c5 yb mb d2 d3 d4 d5 (wb.alloc (.cells #[.int .i64 0] 3))):=Nx.cf_alloc (by assumption) _
    obtain ⟨k0,k1,k2,k3,k4,k5,k6,k7,k8,k9,ja0,ja1,ja2,ja3,ja4,ja5,jb0,jb1,jb2,jb3,jb4,jb5⟩ :=Nx.cf_cells C_
    refine hK.out _ _ ⟨k0,k1,k2,k3,k4,k5,k6,k7,k8,k9,ja0,ja1,ja2,ja3,ja4,ja5,jb0,jb1,jb2,jb3,jb4,jb5⟩ (fun hHeld=>?_)
    clear hK K
    refine norm_ (a':=?_) ?_ ?_
    rotate_left
    ·show Act.put _ (some 14) _=_
     simp only [Act.put,List.setIfInBounds_toArray,List.set_cons_zero,List.set_cons_succ,i64_w,i32_w]
     rfl
    exact norm_ (by simp only [putAll,Act.put,List.setIfInBounds_toArray,List.set_cons_zero,List.set_cons_succ]) (hCont wb.heap.size _ ⟨hHeld,by assumption,by assumption⟩)
   ·skip
    refine value_ (w1:=?_) (v:=?_) (by rfl) rfl ?_ ?_
    rotate_left 2
    ·go_simp
     constructor
     ·rfl
     ·rfl
    have N_:Aside0 (Nx.NF w8 wa.heap.size (wa.alloc (.cells #[.int .i64 0] 3))):=Nx.nf_new (by assumption:Aside0 (Nx.CF w8 w.heap.size ga gb b0 s0 b1 s1 b2 s2 b3 s3 b4 s4 y0 m0 c2 c3 c4 c5 yb mb d2 d3 d4 d5 wa))
    have C_:Aside0 (Nx.CF w8 w.heap.size ga gb b0 s0 b1 s1 b2 s2 b3 s3 b4 s4 y0 m0 c2 c3 c4 c5 yb mb d2 d3 d4 d5 (wa.alloc (.cells #[.int .i64 0] 3))):=Nx.cf_alloc (by assumption) _
    obtain ⟨k0,k1,k2,k3,k4,k5,k6,k7,k8,k9,ja0,ja1,ja2,ja3,ja4,ja5,jb0,jb1,jb2,jb3,jb4,jb5⟩ :=Nx.cf_cells C_
    refine hK.out _ _ ⟨k0,k1,k2,k3,k4,k5,k6,k7,k8,k9,ja0,ja1,ja2,ja3,ja4,ja5,jb0,jb1,jb2,jb3,jb4,jb5⟩ (fun hHeld=>?_)
    clear hK K
    refine norm_ (a':=?_) ?_ ?_
    rotate_left
    ·show Act.put _ (some 14) _=_
     simp only [Act.put,List.setIfInBounds_toArray,List.set_cons_zero,List.set_cons_succ,i64_w,i32_w]
     rfl
    refine one_ (i:=5) (N:=some 60) #[T_,T_,T_,T_,T_,T_,F_,T_,F_] rfl rfl (by kernel_rfl) (by decide) (fun K hK=>?_)
    refine goes_ Tryd.func34 (by kernel_rfl) rfl #[.agg #[.int .u64 b0,.bool s0,.int .u64 b1,.bool s1,.int .u64 b2,.bool s2,.int .u64 b3,.bool s3,.int .u64 b4,.bool s4],.agg #[.int .i64 y0,.int .i64 m0,.int .i64 c2,.int .i64 c3,.int .i64 c4,.int .i64 c5]] (by rfl) rfl rfl (by simp only [List.map_toArray,List.map_cons,List.map_nil]; rfl) ?_
    with_reducible refine (next_upTo.calls 1000 b0 s0 b1 s1 b2 s2 b3 s3 b4 s4 y0 m0 c2 c3 c4 c5 ua _ (Nx.cf_tab (by assumption:Aside0 (Nx.CF w8 w.heap.size ga gb b0 s0 b1 s1 b2 s2 b3 s3 b4 s4 y0 m0 c2 c3 c4 c5 yb mb d2 d3 d4 d5 (wa.alloc (.cells #[.int .i64 0] 3))))) hUa.out).mono ?_
    rintro e wb ⟨rfl,hb⟩
    refine ⟨_,rfl,?_⟩
    have C_:Aside0 (Nx.CF w8 w.heap.size ga gb b0 s0 b1 s1 b2 s2 b3 s3 b4 s4 y0 m0 c2 c3 c4 c5 yb mb d2 d3 d4 d5 wb):=Nx.cf_step (by assumption) hb
    have N_:Aside0 (Nx.NF w8 wa.heap.size wb):=Nx.nf_step (by assumption) hb
    clear hb
    obtain ⟨k0,k1,k2,k3,k4,k5,k6,k7,k8,k9,ja0,ja1,ja2,ja3,ja4,ja5,jb0,jb1,jb2,jb3,jb4,jb5⟩ :=Nx.cf_cells C_
    refine hK.out _ _ ⟨k0,k1,k2,k3,k4,k5,k6,k7,k8,k9,ja0,ja1,ja2,ja3,ja4,ja5,jb0,jb1,jb2,jb3,jb4,jb5⟩ (fun hHeld=>?_)
    clear hK K
    refine norm_ (a':=?_) ?_ ?_
    rotate_left
    ·show Act.put _ (some 60) _=_
     simp only [Act.put,List.setIfInBounds_toArray,List.set_cons_zero,List.set_cons_succ,i64_w,i32_w]
     rfl
    refine pure_ (i:=6) (N:=some 61) (v:=?_) (a':=?_) #[T_,T_,T_,T_,T_,T_,T_,T_,F_] rfl rfl (by kernel_rfl) (fun _ _ _ h=>h) (Or.inl ⟨by rfl,?_⟩) ?_ ?_
    rotate_left
    ·intro w'
     go_simp
     with_reducible rfl
    rotate_left
    ·simp only [Act.put,List.setIfInBounds_toArray,List.set_cons_zero,List.set_cons_succ,i64_w,i32_w]
     rfl
    exact norm_ (by simp only [putAll,Act.put,List.setIfInBounds_toArray,List.set_cons_zero,List.set_cons_succ]) (hCont wa.heap.size _ ⟨hHeld,by assumption,by assumption⟩)
  ·skip
   refine value_ (w1:=?_) (v:=?_) (by rfl) rfl ?_ ?_
   rotate_left 2
   ·go_simp
    constructor
    ·rfl
    ·rfl
   have N_:Aside0 (Nx.NF w8 w8.heap.size (w8.alloc (.cells #[.int .i64 0] 3)).drew):=Nx.nf_new (by assumption:Aside0 (Nx.CF w8 w.heap.size ga gb b0 s0 b1 s1 b2 s2 b3 s3 b4 s4 y0 m0 c2 c3 c4 c5 yb mb d2 d3 d4 d5 w8.drew))
   have C_:Aside0 (Nx.CF w8 w.heap.size ga gb b0 s0 b1 s1 b2 s2 b3 s3 b4 s4 y0 m0 c2 c3 c4 c5 yb mb d2 d3 d4 d5 (w8.alloc (.cells #[.int .i64 0] 3)).drew):=Nx.cf_alloc (by assumption) _
   obtain ⟨k0,k1,k2,k3,k4,k5,k6,k7,k8,k9,ja0,ja1,ja2,ja3,ja4,ja5,jb0,jb1,jb2,jb3,jb4,jb5⟩ :=Nx.cf_cells C_
   refine hK.out _ _ ⟨k0,k1,k2,k3,k4,k5,k6,k7,k8,k9,ja0,ja1,ja2,ja3,ja4,ja5,jb0,jb1,jb2,jb3,jb4,jb5⟩ (fun hHeld=>?_)
   clear hK K
   refine norm_ (a':=?_) ?_ ?_
   rotate_left
   ·show Act.put _ (some 14) _=_
    simp only [Act.put,List.setIfInBounds_toArray,List.set_cons_zero,List.set_cons_succ,i64_w,i32_w]
    rfl
   refine one_ (i:=2) (N:=some 57) #[T_,T_,T_,T_,T_,F_,F_,T_,F_] rfl rfl (by kernel_rfl) (by decide) (fun K hK=>?_)
   refine goes_ Tryd.func34 (by kernel_rfl) rfl #[.agg #[.int .u64 b0,.bool s0,.int .u64 b1,.bool s1,.int .u64 b2,.bool s2,.int .u64 b3,.bool s3,.int .u64 b4,.bool s4],.agg #[.int .i64 yb,.int .i64 mb,.int .i64 d2,.int .i64 d3,.int .i64 d4,.int .i64 d5]] (by rfl) rfl rfl (by simp only [List.map_toArray,List.map_cons,List.map_nil]; rfl) ?_
   with_reducible refine (next_upTo.calls 1000 b0 s0 b1 s1 b2 s2 b3 s3 b4 s4 yb mb d2 d3 d4 d5 ub _ (Nx.cf_tab (by assumption:Aside0 (Nx.CF w8 w.heap.size ga gb b0 s0 b1 s1 b2 s2 b3 s3 b4 s4 y0 m0 c2 c3 c4 c5 yb mb d2 d3 d4 d5 (w8.alloc (.cells #[.int .i64 0] 3)).drew))) hUb.out).mono ?_
   rintro e wa ⟨rfl,hb⟩
   refine ⟨_,rfl,?_⟩
   have C_:Aside0 (Nx.CF w8 w.heap.size ga gb b0 s0 b1 s1 b2 s2 b3 s3 b4 s4 y0 m0 c2 c3 c4 c5 yb mb d2 d3 d4 d5 wa):=Nx.cf_step (by assumption) hb
   have N_:Aside0 (Nx.NF w8 w8.heap.size wa):=Nx.nf_step (by assumption) hb
   clear hb
   obtain ⟨k0,k1,k2,k3,k4,k5,k6,k7,k8,k9,ja0,ja1,ja2,ja3,ja4,ja5,jb0,jb1,jb2,jb3,jb4,jb5⟩ :=Nx.cf_cells C_
   refine hK.out _ _ ⟨k0,k1,k2,k3,k4,k5,k6,k7,k8,k9,ja0,ja1,ja2,ja3,ja4,ja5,jb0,jb1,jb2,jb3,jb4,jb5⟩ (fun hHeld=>?_)
   clear hK K
   refine norm_ (a':=?_) ?_ ?_
   rotate_left
   ·show Act.put _ (some 57) _=_
    simp only [Act.put,List.setIfInBounds_toArray,List.set_cons_zero,List.set_cons_succ,i64_w,i32_w]
    rfl
   refine one_ (i:=5) (N:=some 60) #[T_,T_,T_,T_,T_,T_,F_,T_,F_] rfl rfl (by kernel_rfl) (by decide) (fun K hK=>?_)
   refine goes_ Tryd.func34 (by kernel_rfl) rfl #[.agg #[.int .u64 b0,.bool s0,.int .u64 b1,.bool s1,.int .u64 b2,.bool s2,.int .u64 b3,.bool s3,.int .u64 b4,.bool s4],.agg #[.int .i64 y0,.int .i64 m0,.int .i64 c2,.int .i64 c3,.int .i64 c4,.int .i64 c5]] (by rfl) rfl rfl (by simp only [List.map_toArray,List.map_cons,List.map_nil]; rfl) ?_
   with_reducible refine (next_upTo.calls 1000 b0 s0 b1 s1 b2 s2 b3 s3 b4 s4 y0 m0 c2 c3 c4 c5 ua _ (Nx.cf_tab (by assumption:Aside0 (Nx.CF w8 w.heap.size ga gb b0 s0 b1 s1 b2 s2 b3 s3 b4 s4 y0 m0 c2 c3 c4 c5 yb mb d2 d3 d4 d5 wa))) hUa.out).mono ?_
   rintro e wb ⟨rfl,hb⟩
   refine ⟨_,rfl,?_⟩
   have C_:Aside0 (Nx.CF w8 w.heap.size ga gb b0 s0 b1 s1 b2 s2 b3 s3 b4 s4 y0 m0 c2 c3 c4 c5 yb mb d2 d3 d4 d5 wb):=Nx.cf_step (by assumption) hb
   have N_:Aside0 (Nx.NF w8 w8.heap.size wb):=Nx.nf_step (by assumption) hb
   clear hb
   obtain ⟨k0,k1,k2,k3,k4,k5,k6,k7,k8,k9,ja0,ja1,ja2,ja3,ja4,ja5,jb0,jb1,jb2,jb3,jb4,jb5⟩ :=Nx.cf_cells C_
   refine hK.out _ _ ⟨k0,k1,k2,k3,k4,k5,k6,k7,k8,k9,ja0,ja1,ja2,ja3,ja4,ja5,jb0,jb1,jb2,jb3,jb4,jb5⟩ (fun hHeld=>?_)
   clear hK K
   refine norm_ (a':=?_) ?_ ?_
   rotate_left
   ·show Act.put _ (some 60) _=_
    simp only [Act.put,List.setIfInBounds_toArray,List.set_cons_zero,List.set_cons_succ,i64_w,i32_w]
    rfl
   refine pure_ (i:=6) (N:=some 61) (v:=?_) (a':=?_) #[T_,T_,T_,T_,T_,T_,T_,T_,F_] rfl rfl (by kernel_rfl) (fun _ _ _ h=>h) (Or.inl ⟨by rfl,?_⟩) ?_ ?_
   rotate_left
   ·intro w'
    go_simp
    with_reducible rfl
   rotate_left
   ·simp only [Act.put,List.setIfInBounds_toArray,List.set_cons_zero,List.set_cons_succ,i64_w,i32_w]
    rfl
   exact norm_ (by simp only [putAll,Act.put,List.setIfInBounds_toArray,List.set_cons_zero,List.set_cons_succ]) (hCont w8.heap.size _ ⟨hHeld,by assumption,by assumption⟩)
 rintro gn wj ⟨hHeld,CJ,NJ⟩
 have z0:wj.cell? ⟨gn,0,none⟩=some (.int .i64 0):=(blk_cell NJ.out.1 0).trans rfl
 have zf:=blk_frozen NJ.out.1 0
 refine norm_ (a':=?_) ?_ ?_
 rotate_left
 ·simp only [putAll,Act.put,List.setIfInBounds_toArray,List.set_cons_zero,List.set_cons_succ]
  rfl
 refine last_ (i:=8) (N:=none) #[T_,T_,T_,T_,T_,T_,T_,T_,T_] rfl rfl (by kernel_rfl) (by decide) (fun K hK=>?_)
 refine skip_ (w1:=?_) (by rfl) rfl ?_ ?_
 rotate_left
 ·go_simp
  rfl
 refine hK.out _ _ ?_
 clear hK K
 refine done_ (by kernel_rfl) ?_
 refine Nx.nop_normal ?_
 have hgn:=NJ.out.new
 have hgx:=blk_lt H8.out.1
 have hgwl:=blk_lt H8.out.2.2.2.2
 have n0:w.heap.size≠gn:=by omega
 have n1:ga≠gn:=by omega
 have n2:gb≠gn:=by omega
 have n3:gw≠gn:=by omega
 have HJ:=Aside0.mk (show Spc.Row (wj.setCell ⟨gn,0,none⟩ (.int .i64 (wrap64 (ub - ua)))) w.heap.size b0 s0 b1 s1 b2 s2 b3 s3 b4 s4∧Below w.heap.size w (wj.setCell ⟨gn,0,none⟩ (.int .i64 (wrap64 (ub - ua))))∧(wj.setCell ⟨gn,0,none⟩ (.int .i64 (wrap64 (ub - ua)))).heap[ga]?=some (.cells #[.int .i64 y0,.int .i64 m0,.int .i64 c2,.int .i64 c3,.int .i64 c4,.int .i64 c5] 66 (0,0))∧(wj.setCell ⟨gn,0,none⟩ (.int .i64 (wrap64 (ub - ua)))).heap[gb]?=some (.cells #[.int .i64 yb,.int .i64 mb,.int .i64 d2,.int .i64 d3,.int .i64 d4,.int .i64 d5] 66 (0,0))∧(wj.setCell ⟨gn,0,none⟩ (.int .i64 (wrap64 (ub - ua)))).heap[gw]?=some (.cells #[.int .i64 wh] 3 (0,0))∧(wj.setCell ⟨gn,0,none⟩ (.int .i64 (wrap64 (ub - ua)))).heap[gn]?=some (.cells #[.int .i64 (wrap64 (ub - ua))] 3 (0,0)) from ⟨(Below.heap_setCell _ _ _ _ n0).trans CJ.out.row,below_set (H8.out.2.1.trans (CJ.out.below.mono H8.out.2.1.size)) (by omega),(Below.heap_setCell _ _ _ _ n1).trans CJ.out.a,(Below.heap_setCell _ _ _ _ n2).trans CJ.out.b,(Below.heap_setCell _ _ _ _ n3).trans (blk_below H8.out.2.2.2.2 CJ.out.below),blk_put NJ.out.cell 0 _ rfl⟩)
 generalize wj.setCell ⟨gn,0,none⟩ (.int .i64 (wrap64 (ub - ua)))=w9 at HJ ⊢
 clear CJ NJ H8 hHeld C_ z0 zf k0 k1 k2 k3 k4 k5 k6 k7 k8 k9 ja0 ja1 ja2 ja3 ja4 ja5 jb0 jb1 jb2 jb3 jb4 jb5
 obtain ⟨k0,k1,k2,k3,k4,k5,k6,k7,k8,k9⟩ :=HJ.out.1.cells
 go_wp2_with fail
 refine (day_Match.calls _ _ _ _ _ _ _ _ _ _ _ _ _ _ hOn.out).mono ?_
 rintro e w10 ⟨rfl,hb⟩
 have H10:=Aside0.mk (show Spc.Row w10 w.heap.size b0 s0 b1 s1 b2 s2 b3 s3 b4 s4∧Below w.heap.size w w10∧w10.heap[ga]?=some (.cells #[.int .i64 y0,.int .i64 m0,.int .i64 c2,.int .i64 c3,.int .i64 c4,.int .i64 c5] 66 (0,0))∧w10.heap[gb]?=some (.cells #[.int .i64 yb,.int .i64 mb,.int .i64 d2,.int .i64 d3,.int .i64 d4,.int .i64 d5] 66 (0,0))∧w10.heap[gw]?=some (.cells #[.int .i64 wh] 3 (0,0))∧w10.heap[gn]?=some (.cells #[.int .i64 (wrap64 (ub - ua))] 3 (0,0)) from ⟨blk_below HJ.out.1 hb,below_step HJ.out.2.1 hb,blk_below HJ.out.2.2.1 hb,blk_below HJ.out.2.2.2.1 hb,blk_below HJ.out.2.2.2.2.1 hb,blk_below HJ.out.2.2.2.2.2 hb⟩)
 clear HJ hb k0 k1 k2 k3 k4 k5 k6 k7 k8 k9
 cases on with
 | true=>
  have nvv:wrap64 (wrap64 (ub - ua)+1)=nv:=by have:=hnv.out; rwa [if_pos rfl] at this
  have zc:w10.cell? ⟨gn,0,none⟩=some (.int .i64 (wrap64 (ub - ua))):=(blk_cell H10.out.2.2.2.2.2 0).trans rfl
  have zf:=blk_frozen H10.out.2.2.2.2.2 0
  have H11:=Aside0.mk (show Spc.Row (w10.setCell ⟨gn,0,none⟩ (.int .i64 (wrap64 (wrap64 (ub - ua)+1)))) w.heap.size b0 s0 b1 s1 b2 s2 b3 s3 b4 s4∧Below w.heap.size w (w10.setCell ⟨gn,0,none⟩ (.int .i64 (wrap64 (wrap64 (ub - ua)+1))))∧(w10.setCell ⟨gn,0,none⟩ (.int .i64 (wrap64 (wrap64 (ub - ua)+1)))).heap[ga]?=some (.cells #[.int .i64 y0,.int .i64 m0,.int .i64 c2,.int .i64 c3,.int .i64 c4,.int .i64 c5] 66 (0,0))∧(w10.setCell ⟨gn,0,none⟩ (.int .i64 (wrap64 (wrap64 (ub - ua)+1)))).heap[gb]?=some (.cells #[.int .i64 yb,.int .i64 mb,.int .i64 d2,.int .i64 d3,.int .i64 d4,.int .i64 d5] 66 (0,0))∧(w10.setCell ⟨gn,0,none⟩ (.int .i64 (wrap64 (wrap64 (ub - ua)+1)))).heap[gw]?=some (.cells #[.int .i64 wh] 3 (0,0))∧(w10.setCell ⟨gn,0,none⟩ (.int .i64 (wrap64 (wrap64 (ub - ua)+1)))).heap[gn]?=some (.cells #[.int .i64 (nv)] 3 (0,0)) from ⟨(Below.heap_setCell _ _ _ _ n0).trans H10.out.1,below_set H10.out.2.1 (by omega),(Below.heap_setCell _ _ _ _ n1).trans H10.out.2.2.1,(Below.heap_setCell _ _ _ _ n2).trans H10.out.2.2.2.1,(Below.heap_setCell _ _ _ _ n3).trans H10.out.2.2.2.2.1,blk_put H10.out.2.2.2.2.2 0 _ (by rw [← nvv]; rfl)⟩)
  clear H10 hnv nvv
  obtain ⟨k0,k1,k2,k3,k4,k5,k6,k7,k8,k9⟩ :=H11.out.1.cells
  have ja0:(w10.setCell ⟨gn,0,none⟩ (.int .i64 (wrap64 (wrap64 (ub - ua)+1)))).cell? ⟨ga,0,none⟩=some (.int .i64 y0):=(blk_cell H11.out.2.2.1 0).trans rfl
  have ja1:(w10.setCell ⟨gn,0,none⟩ (.int .i64 (wrap64 (wrap64 (ub - ua)+1)))).cell? ⟨ga,1,none⟩=some (.int .i64 m0):=(blk_cell H11.out.2.2.1 1).trans rfl
  have ja2:(w10.setCell ⟨gn,0,none⟩ (.int .i64 (wrap64 (wrap64 (ub - ua)+1)))).cell? ⟨ga,2,none⟩=some (.int .i64 c2):=(blk_cell H11.out.2.2.1 2).trans rfl
  have ja3:(w10.setCell ⟨gn,0,none⟩ (.int .i64 (wrap64 (wrap64 (ub - ua)+1)))).cell? ⟨ga,3,none⟩=some (.int .i64 c3):=(blk_cell H11.out.2.2.1 3).trans rfl
  have ja4:(w10.setCell ⟨gn,0,none⟩ (.int .i64 (wrap64 (wrap64 (ub - ua)+1)))).cell? ⟨ga,4,none⟩=some (.int .i64 c4):=(blk_cell H11.out.2.2.1 4).trans rfl
  have ja5:(w10.setCell ⟨gn,0,none⟩ (.int .i64 (wrap64 (wrap64 (ub - ua)+1)))).cell? ⟨ga,5,none⟩=some (.int .i64 c5):=(blk_cell H11.out.2.2.1 5).trans rfl
  go_wp2_with fail
  clear zc zf
  clear k0 k1 k2 k3 k4 k5 k6 k7 k8 k9 ja0 ja1 ja2 ja3 ja4 ja5
  generalize w10.setCell ⟨gn,0,none⟩ (.int .i64 (wrap64 (wrap64 (ub - ua)+1)))=w11 at H11 ⊢
  obtain ⟨k0,k1,k2,k3,k4,k5,k6,k7,k8,k9⟩ :=H11.out.1.cells
  have ja0:w11.cell? ⟨ga,0,none⟩=some (.int .i64 y0):=(blk_cell H11.out.2.2.1 0).trans rfl
  have ja1:w11.cell? ⟨ga,1,none⟩=some (.int .i64 m0):=(blk_cell H11.out.2.2.1 1).trans rfl
  have ja2:w11.cell? ⟨ga,2,none⟩=some (.int .i64 c2):=(blk_cell H11.out.2.2.1 2).trans rfl
  have ja3:w11.cell? ⟨ga,3,none⟩=some (.int .i64 c3):=(blk_cell H11.out.2.2.1 3).trans rfl
  have ja4:w11.cell? ⟨ga,4,none⟩=some (.int .i64 c4):=(blk_cell H11.out.2.2.1 4).trans rfl
  have ja5:w11.cell? ⟨ga,5,none⟩=some (.int .i64 c5):=(blk_cell H11.out.2.2.1 5).trans rfl
  obtain ⟨g,hg⟩:∃ g,w11.heap.size=g:=⟨_,rfl⟩
  have hgg:gn < g:=by rw [← hg]; exact blk_lt H11.out.2.2.2.2.2
  refine (Nx.months_box b0 s0 b1 s1 b2 s2 b3 s3 b4 s4 y0 m0 c2 c3 c4 c5 1 w11).mono ?_
  rintro e w12 ⟨rfl,hb,hz,hqc,hqb,hqx⟩
  have H12:=Aside0.mk (show Spc.Row w12 w.heap.size b0 s0 b1 s1 b2 s2 b3 s3 b4 s4∧Below w.heap.size w w12∧w12.heap[ga]?=some (.cells #[.int .i64 y0,.int .i64 m0,.int .i64 c2,.int .i64 c3,.int .i64 c4,.int .i64 c5] 66 (0,0))∧w12.heap[gb]?=some (.cells #[.int .i64 yb,.int .i64 mb,.int .i64 d2,.int .i64 d3,.int .i64 d4,.int .i64 d5] 66 (0,0))∧w12.heap[gw]?=some (.cells #[.int .i64 wh] 3 (0,0))∧w12.heap[gn]?=some (.cells #[.int .i64 (nv)] 3 (0,0)) from ⟨blk_below H11.out.1 hb,below_step H11.out.2.1 hb,blk_below H11.out.2.2.1 hb,blk_below H11.out.2.2.2.1 hb,blk_below H11.out.2.2.2.2.1 hb,blk_below H11.out.2.2.2.2.2 hb⟩)
  clear H11 hb k0 k1 k2 k3 k4 k5 k6 k7 k8 k9 ja0 ja1 ja2 ja3 ja4 ja5
  rw [hg] at hz hqc hqb hqx ⊢
  replace hqc:=Aside0.mk hqc
  replace hqb:=Aside0.mk hqb
  replace hqx:=Aside0.mk hqx
  go_wp2_with fail
  refine (wpIn_wide (n:=6)).1 ?_
  refine Nx.count_range _ _ _ _ _ _ _ _ _ _ _ _ _ _ _ _ _ _ _ _ _ _ _ _ _ _ _ _ _ _ _ _ _ _ _ _ _ _ _ _ _ _ _ _ _ _ _ _ _ _ _ _ _ _ _ _ _ _ _ _ _ _ _ _ _ _ _ _ _ _ _ _ _ _ _ _ _ _ _ _ _ _ _ _ _ _ _ _ _ _ _ _ _ _ _ _ _ _ _ _ _ _ _ w.heap.size ga gb gw gn (g+1) (g+2) g b0 s0 b1 s1 b2 s2 b3 s3 b4 s4 hok.out B.out y0 m0 c2 c3 c4 c5 yb mb d2 d3 d4 d5 wh nv [] w12 H12.out.2.2.2.1 H12.out.2.2.2.2.1 H12.out.2.2.2.2.2 hqc.out hqb.out hqx.out n2 n3 (by omega) (by omega) (by omega) hy1 hy2 hm1 hm2 _ ?_
  intro D W' hD hO hn hK
  have HB2:Below w.heap.size w W':=H12.out.2.1.trans (hO.below (by omega) (by omega) H12.out.2.1.size)
  rw [hsv.out] at hn
  have a0:W'.cell? ⟨gn,0,none⟩=some (.int .i64 sv):=(blk_cell hn 0).trans rfl
  replace hO:=Aside0.mk hO
  have hsz:=H12.out.2.1.size
  refine ⟨?_,?_⟩
  all_goals
   go_wp2_with fail
   refine Fld.leave w.heap.size _ (D+1) _ ⟨D,rfl,by omega,by omega,hK,trivial⟩ ?_
   intro W2 hb2 hc
   exact ⟨.tuple #[.int .i64 sv,.int .i64 0],by simp [results,Tryd.results18,go_sem],rfl,HB2.trans hb2⟩
 | false=>
  obtain rfl:wrap64 (ub - ua)=nv:=by have:=hnv.out; rwa [if_neg (by decide)] at this
  obtain ⟨w11,hw⟩:∃ W,w10=W:=⟨_,rfl⟩
  subst hw
  have H11:=H10
  clear H10 hnv
  obtain ⟨k0,k1,k2,k3,k4,k5,k6,k7,k8,k9⟩ :=H11.out.1.cells
  have ja0:w10.cell? ⟨ga,0,none⟩=some (.int .i64 y0):=(blk_cell H11.out.2.2.1 0).trans rfl
  have ja1:w10.cell? ⟨ga,1,none⟩=some (.int .i64 m0):=(blk_cell H11.out.2.2.1 1).trans rfl
  have ja2:w10.cell? ⟨ga,2,none⟩=some (.int .i64 c2):=(blk_cell H11.out.2.2.1 2).trans rfl
  have ja3:w10.cell? ⟨ga,3,none⟩=some (.int .i64 c3):=(blk_cell H11.out.2.2.1 3).trans rfl
  have ja4:w10.cell? ⟨ga,4,none⟩=some (.int .i64 c4):=(blk_cell H11.out.2.2.1 4).trans rfl
  have ja5:w10.cell? ⟨ga,5,none⟩=some (.int .i64 c5):=(blk_cell H11.out.2.2.1 5).trans rfl
  go_wp2_with fail
  obtain ⟨g,hg⟩:∃ g,w10.heap.size=g:=⟨_,rfl⟩
  have hgg:gn < g:=by rw [← hg]; exact blk_lt H11.out.2.2.2.2.2
  refine (Nx.months_box b0 s0 b1 s1 b2 s2 b3 s3 b4 s4 y0 m0 c2 c3 c4 c5 1 w10).mono ?_
  rintro e w12 ⟨rfl,hb,hz,hqc,hqb,hqx⟩
  have H12:=Aside0.mk (show Spc.Row w12 w.heap.size b0 s0 b1 s1 b2 s2 b3 s3 b4 s4∧Below w.heap.size w w12∧w12.heap[ga]?=some (.cells #[.int .i64 y0,.int .i64 m0,.int .i64 c2,.int .i64 c3,.int .i64 c4,.int .i64 c5] 66 (0,0))∧w12.heap[gb]?=some (.cells #[.int .i64 yb,.int .i64 mb,.int .i64 d2,.int .i64 d3,.int .i64 d4,.int .i64 d5] 66 (0,0))∧w12.heap[gw]?=some (.cells #[.int .i64 wh] 3 (0,0))∧w12.heap[gn]?=some (.cells #[.int .i64 ((wrap64 (ub - ua)))] 3 (0,0)) from ⟨blk_below H11.out.1 hb,below_step H11.out.2.1 hb,blk_below H11.out.2.2.1 hb,blk_below H11.out.2.2.2.1 hb,blk_below H11.out.2.2.2.2.1 hb,blk_below H11.out.2.2.2.2.2 hb⟩)
  clear H11 hb k0 k1 k2 k3 k4 k5 k6 k7 k8 k9 ja0 ja1 ja2 ja3 ja4 ja5
  rw [hg] at hz hqc hqb hqx ⊢
  replace hqc:=Aside0.mk hqc
  replace hqb:=Aside0.mk hqb
  replace hqx:=Aside0.mk hqx
  go_wp2_with fail
  refine (wpIn_wide (n:=6)).1 ?_
  refine Nx.count_range _ _ _ _ _ _ _ _ _ _ _ _ _ _ _ _ _ _ _ _ _ _ _ _ _ _ _ _ _ _ _ _ _ _ _ _ _ _ _ _ _ _ _ _ _ _ _ _ _ _ _ _ _ _ _ _ _ _ _ _ _ _ _ _ _ _ _ _ _ _ _ _ _ _ _ _ _ _ _ _ _ _ _ _ _ _ _ _ _ _ _ _ _ _ _ _ _ _ _ _ _ _ _ w.heap.size ga gb gw gn (g+1) (g+2) g b0 s0 b1 s1 b2 s2 b3 s3 b4 s4 hok.out B.out y0 m0 c2 c3 c4 c5 yb mb d2 d3 d4 d5 wh (wrap64 (ub - ua)) [] w12 H12.out.2.2.2.1 H12.out.2.2.2.2.1 H12.out.2.2.2.2.2 hqc.out hqb.out hqx.out n2 n3 (by omega) (by omega) (by omega) hy1 hy2 hm1 hm2 _ ?_
  intro D W' hD hO hn hK
  have HB2:Below w.heap.size w W':=H12.out.2.1.trans (hO.below (by omega) (by omega) H12.out.2.1.size)
  rw [hsv.out] at hn
  have a0:W'.cell? ⟨gn,0,none⟩=some (.int .i64 sv):=(blk_cell hn 0).trans rfl
  replace hO:=Aside0.mk hO
  have hsz:=H12.out.2.1.size
  refine ⟨?_,?_⟩
  all_goals
   go_wp2_with fail
   refine Fld.leave w.heap.size _ (D+1) _ ⟨D,rfl,by omega,by omega,hK,trivial⟩ ?_
   intro W2 hb2 hc
   exact ⟨.tuple #[.int .i64 sv,.int .i64 0],by simp [results,Tryd.results18,go_sem],rfl,HB2.trans hb2⟩
end
def next_Count.f (a0_0:Int)(a0_1:Bool)(a0_2:Int)(a0_3:Bool)(a0_4:Int)(a0_5:Bool)(a0_6:Int)(a0_7:Bool)(a0_8:Int)(a0_9:Bool)(a1:Int)(a2:Int):Option (Int × Int):=if Dy.okS a0_0 a0_2 a0_4 a0_6 a0_8=true then (next_odd.f a0_0 a0_1 a0_2 a0_3 a0_4 a0_5 a0_6 a0_7 a0_8 a0_9).bind fun o=>if o=true then some ((0:Int),(2:Int)) else if a1 < 0∨a2 < a1∨541728000 < a2 then some (0,1) else if a1=a2 then some (0,0) else (day_Minutes.f a0_0 a0_1 a0_2 a0_3 a0_4 a0_5 a0_6 a0_7 a0_8 a0_9).bind fun q=>(next_upTo.f 1000 a0_0 a0_1 a0_2 a0_3 a0_4 a0_5 a0_6 a0_7 a0_8 a0_9 (Civ.of (a2 - 1)).1 (Civ.of (a2 - 1)).2.1 (Civ.of (a2 - 1)).2.2.1 (Civ.of (a2 - 1)).2.2.2.1 (Civ.of (a2 - 1)).2.2.2.2.1 (Civ.of (a2 - 1)).2.2.2.2.2.1).bind fun u=>(next_upTo.f 1000 a0_0 a0_1 a0_2 a0_3 a0_4 a0_5 a0_6 a0_7 a0_8 a0_9 (Civ.of (a1)).1 (Civ.of (a1)).2.1 (Civ.of (a1)).2.2.1 (Civ.of (a1)).2.2.2.1 (Civ.of (a1)).2.2.2.2.1 (Civ.of (a1)).2.2.2.2.2.1).bind fun v=>some (Nx.sumW q.1 (Civ.of (a2 - 1)).1 (Civ.of (a2 - 1)).2.1 ((Nx.mons (Dy.mask false a0_4 a0_5 a0_6 a0_8 a0_9) 1 20000 (Civ.of a1).1 (Civ.of a1).2.1 0).map Nx.embF) (if (Dy.match_ false a0_0 a0_2 a0_4 a0_5 a0_6 a0_8 a0_9 (a2 - 1)).1=true then wrap64 (wrap64 (u - v)+1) else wrap64 (u - v)),0) else none
set_option maxHeartbeats 8000000 in
set_option maxRecDepth 100000 in
theorem next_Count.calls (a0_0:Int)(a0_1:Bool)(a0_2:Int)(a0_3:Bool)(a0_4:Int)(a0_5:Bool)(a0_6:Int)(a0_7:Bool)(a0_8:Int)(a0_9:Bool)(a1:Int)(a2:Int)(r1:Int)(r2:Int)(w:World)(hT:Tab w)(h:next_Count.f a0_0 a0_1 a0_2 a0_3 a0_4 a0_5 a0_6 a0_7 a0_8 a0_9 a1 a2=some (r1,r2)) :
  Calls Tryd.prog 18 #[.agg #[.int .u64 a0_0,.bool a0_1,.int .u64 a0_2,.bool a0_3,.int .u64 a0_4,.bool a0_5,.int .u64 a0_6,.bool a0_7,.int .u64 a0_8,.bool a0_9],.int .i64 a1,.int .i64 a2] w fun e w'=>e=.returned (.tuple #[.int .i64 r1,.int .i64 r2])∧Below w.heap.size w w':=by
 have HB:=Aside0.mk (Below.refl w.heap.size w)
 have hh:(if Dy.okS a0_0 a0_2 a0_4 a0_6 a0_8=true then (next_odd.f a0_0 a0_1 a0_2 a0_3 a0_4 a0_5 a0_6 a0_7 a0_8 a0_9).bind fun o=>if o=true then some ((0:Int),(2:Int)) else if a1 < 0∨a2 < a1∨541728000 < a2 then some (0,1) else if a1=a2 then some (0,0) else (day_Minutes.f a0_0 a0_1 a0_2 a0_3 a0_4 a0_5 a0_6 a0_7 a0_8 a0_9).bind fun q=>(next_upTo.f 1000 a0_0 a0_1 a0_2 a0_3 a0_4 a0_5 a0_6 a0_7 a0_8 a0_9 (Civ.of (a2 - 1)).1 (Civ.of (a2 - 1)).2.1 (Civ.of (a2 - 1)).2.2.1 (Civ.of (a2 - 1)).2.2.2.1 (Civ.of (a2 - 1)).2.2.2.2.1 (Civ.of (a2 - 1)).2.2.2.2.2.1).bind fun u=>(next_upTo.f 1000 a0_0 a0_1 a0_2 a0_3 a0_4 a0_5 a0_6 a0_7 a0_8 a0_9 (Civ.of (a1)).1 (Civ.of (a1)).2.1 (Civ.of (a1)).2.2.1 (Civ.of (a1)).2.2.2.1 (Civ.of (a1)).2.2.2.2.1 (Civ.of (a1)).2.2.2.2.2.1).bind fun v=>some (Nx.sumW q.1 (Civ.of (a2 - 1)).1 (Civ.of (a2 - 1)).2.1 ((Nx.mons (Dy.mask false a0_4 a0_5 a0_6 a0_8 a0_9) 1 20000 (Civ.of a1).1 (Civ.of a1).2.1 0).map Nx.embF) (if (Dy.match_ false a0_0 a0_2 a0_4 a0_5 a0_6 a0_8 a0_9 (a2 - 1)).1=true then wrap64 (wrap64 (u - v)+1) else wrap64 (u - v)),0) else none)=some (r1,r2):=h
 clear h
 by_cases hok:Dy.okS a0_0 a0_2 a0_4 a0_6 a0_8=true
 ·rw [if_pos hok] at hh
  obtain ⟨o,A,hm⟩ :=Option.bind_eq_some_iff.1 hh
  cases o with
  | true=>
   rw [if_pos rfl] at hm
   obtain ⟨rfl,rfl⟩ :=Prod.mk.inj (Option.some.inj hm)
   exact callsIn_wide.1 (Nx.count_odd a0_0 a0_1 a0_2 a0_3 a0_4 a0_5 a0_6 a0_7 a0_8 a0_9 A a1 a2 w)
  | false=>
   rw [if_neg (by decide)] at hm
   by_cases hl:a1 < 0∨a2 < a1∨541728000 < a2
   ·rw [if_pos hl] at hm
    obtain ⟨rfl,rfl⟩ :=Prod.mk.inj (Option.some.inj hm)
    rcases (by omega:a1 < 0∨(0≤a1∧a2 < a1)∨(0≤a1∧a1≤a2∧541728000 < a2)) with h | h | h
    ·exact callsIn_wide.1 (Nx.count_arga a0_0 a0_1 a0_2 a0_3 a0_4 a0_5 a0_6 a0_7 a0_8 a0_9 A a1 a2 h w)
    ·exact callsIn_wide.1 (Nx.count_argb a0_0 a0_1 a0_2 a0_3 a0_4 a0_5 a0_6 a0_7 a0_8 a0_9 A a1 a2 h w)
    ·exact callsIn_wide.1 (Nx.count_argc a0_0 a0_1 a0_2 a0_3 a0_4 a0_5 a0_6 a0_7 a0_8 a0_9 A a1 a2 h w)
   ·rw [if_neg hl] at hm
    by_cases he:a1=a2
    ·rw [if_pos he] at hm
     obtain ⟨rfl,rfl⟩ :=Prod.mk.inj (Option.some.inj hm)
     exact callsIn_wide.1 (Nx.count_eq a0_0 a0_1 a0_2 a0_3 a0_4 a0_5 a0_6 a0_7 a0_8 a0_9 A a1 a2 ⟨by omega,he,by omega⟩ w)
    ·rw [if_neg he] at hm
     obtain ⟨⟨wh,we⟩,hMin,hm⟩ :=Option.bind_eq_some_iff.1 hm
     obtain ⟨ub,hUb,hm⟩ :=Option.bind_eq_some_iff.1 hm
     obtain ⟨ua,hUa,hm⟩ :=Option.bind_eq_some_iff.1 hm
     obtain ⟨rfl,rfl⟩ :=Prod.mk.inj (Option.some.inj hm)
     have B:day_odd.f a0_0 a0_1 a0_2 a0_3 a0_4 a0_5 a0_6 a0_7 a0_8 a0_9=some false:=A
     have hOn:day_Match.f a0_0 a0_1 a0_2 a0_3 a0_4 a0_5 a0_6 a0_7 a0_8 a0_9 (a2 - 1)=some ((Dy.match_ false a0_0 a0_2 a0_4 a0_5 a0_6 a0_8 a0_9 (a2 - 1)).1,(Dy.match_ false a0_0 a0_2 a0_4 a0_5 a0_6 a0_8 a0_9 (a2 - 1)).2):=by
      unfold day_Match.f
      rw [if_pos hok,B]
      rfl
     exact callsIn_wide.1 (Nx.count_good a0_0 a0_1 a0_2 a0_3 a0_4 a0_5 a0_6 a0_7 a0_8 a0_9 hok A a1 a2 wh we ub ua _ _ _ _ _ _ _ _ _ _ _ _ _ _ _ _ (by omega) (by omega) (by omega) rfl rfl hMin hUb hUa hOn w hT)
 ·rw [if_neg hok] at hh
  cases hh
end Go.Proofs.YtepflnfnkfkldaaDoor.PRea
