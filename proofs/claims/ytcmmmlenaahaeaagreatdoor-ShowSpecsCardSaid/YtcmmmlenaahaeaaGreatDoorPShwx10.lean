-- Written by a program of this session (gprint.py) over the kit's print.
import Derived.Test.YtcmmmlenaahaeaaGreatDoorPShwx0
import Derived.Test.YtcmmmlenaahaeaaGreatDoorPShwx3
import Derived.Test.YtcmmmlenaahaeaaGreatDoorPShwx5
import Derived.Test.YtcmmmlenaahaeaaGreatDoorPShwx8
import Derived.Test.YtcmmmlenaahaeaaGreatDoorPShwx9
namespace Go.Proofs.YtcmmmlenaahaeaaGreatDoor.PShw
open Go.RowKit Go.Proofs.YtcmmmlenaahaeaaGreatDoorW.PrintWords Go.Proofs.YtcmmmlenaahaeaaGreatDoorW.PrintLast Go.Proofs.YtcmmmlenaahaeaaGreatDoorW.PrintMore
attribute [local go_sem] max2_int min2_int max_two min_two max_three min_three max_four min_four
set_option linter.unusedVariables false
set_option linter.unusedSimpArgs false
/-! This session's own: spec.Parse. -/
def Spc.word (l:List ByteArray)(k:Nat):ByteArray:=l.getD k ⟨#[]⟩
theorem Spc.fields_len (s:ByteArray)(h:(Lex.fields s).2=0):(Lex.fields s).1.length=5:=by
 unfold Lex.fields at h ⊢
 split
 ·rename_i h1; rw [if_pos h1] at h; exact absurd h (by decide)
 ·rename_i h1
  rw [if_neg h1] at h
  split
  ·rename_i h2; rw [if_pos h2] at h; exact absurd h (by decide)
  ·rename_i h2
   rw [if_neg h2] at h
   split
   ·rename_i h3; rw [if_pos h3] at h; exact absurd h (by decide)
   ·rename_i h3; simpa using h3
set_option maxHeartbeats 8000000 in
set_option maxRecDepth 100000 in
theorem Spc.parse_no (s:ByteArray)(l:List ByteArray)(e0:Int)(hf:lex_Fields.f s=some (l,e0))(he:e0≠0)(w:World):Calls Tryz.prog 18 #[.string s] w fun e w'=>e=.returned (.tuple #[.agg #[.int .u64 0,.bool false,.int .u64 0,.bool false,.int .u64 0,.bool false,.int .u64 0,.bool false,.int .u64 0,.bool false],.int .i64 0,.int .i64 e0])∧Below w.heap.size w w':=by
 have q1:(e0 == 0)=false:=by simpa using he
 have q2:(e0 != 0)=true:=by simpa using he
 replace he:=Lib.hid he
 replace hf:=Lib.hid hf
 have HT:=Aside0.mk (blk_new w (.cells #[.int .u64 0,.bool false,.int .u64 0,.bool false,.int .u64 0,.bool false,.int .u64 0,.bool false,.int .u64 0,.bool false] 31))
 have HB:=Aside0.mk (below_alloc (Below.refl _ _) (.cells #[.int .u64 0,.bool false,.int .u64 0,.bool false,.int .u64 0,.bool false,.int .u64 0,.bool false,.int .u64 0,.bool false] 31) (w:=w))
 go_enter Tryz.func18,Tryz.ntmps18
 go_wp2_with fail
 refine (lex_Fields.calls _ _ _ _ hf.out).mono ?_
 rintro e V ⟨v0,rfl,hR,hb⟩
 have HB2:=Aside0.mk (below_step HB.out hb)
 have HT2:=blk_below HT.out hb
 clear HB HT hb hR
 have t0:V.cell? ⟨w.heap.size,0,none⟩=some (.int .u64 0):=(blk_cell HT2 0).trans rfl
 have t1:V.cell? ⟨w.heap.size,1,none⟩=some (.bool false):=(blk_cell HT2 1).trans rfl
 have t2:V.cell? ⟨w.heap.size,2,none⟩=some (.int .u64 0):=(blk_cell HT2 2).trans rfl
 have t3:V.cell? ⟨w.heap.size,3,none⟩=some (.bool false):=(blk_cell HT2 3).trans rfl
 have t4:V.cell? ⟨w.heap.size,4,none⟩=some (.int .u64 0):=(blk_cell HT2 4).trans rfl
 have t5:V.cell? ⟨w.heap.size,5,none⟩=some (.bool false):=(blk_cell HT2 5).trans rfl
 have t6:V.cell? ⟨w.heap.size,6,none⟩=some (.int .u64 0):=(blk_cell HT2 6).trans rfl
 have t7:V.cell? ⟨w.heap.size,7,none⟩=some (.bool false):=(blk_cell HT2 7).trans rfl
 have t8:V.cell? ⟨w.heap.size,8,none⟩=some (.int .u64 0):=(blk_cell HT2 8).trans rfl
 have t9:V.cell? ⟨w.heap.size,9,none⟩=some (.bool false):=(blk_cell HT2 9).trans rfl
 have zT:∀ j,V.frozen? ⟨w.heap.size,j,none⟩=false:=fun j=>blk_frozen HT2 j
 clear HT2
 go_wp2_with fail
 refine bodyPost_ret (v:=.tuple #[.agg #[.int .u64 0,.bool false,.int .u64 0,.bool false,.int .u64 0,.bool false,.int .u64 0,.bool false,.int .u64 0,.bool false],.int .i64 0,.int .i64 e0]) (by simp [results,Tryz.results18,go_sem, *]) rfl ⟨rfl,?_⟩
 repeat (first | (with_reducible first | exact HB2.out | (refine below_set ?_ (by omega))) | exact HB2.out)
set_option maxHeartbeats 8000000 in
set_option maxRecDepth 100000 in
theorem Spc.parse0 (s:ByteArray)(l:List ByteArray)(hf:lex_Fields.f s=some (l,0))(hl:l.length=5)  (bx:Int) (sx:Bool) (E0:Int) (he:E0≠0) (A0:field_Parse.f (Spc.word l 0) 0=some (bx,sx,E0)) (w:World) (hT:Tab w):Calls Tryz.prog 18 #[.string s] w fun e w'=>e=.returned (.tuple #[.agg #[.int .u64 0,.bool false,.int .u64 0,.bool false,.int .u64 0,.bool false,.int .u64 0,.bool false,.int .u64 0,.bool false],.int .i64 1,.int .i64 E0])∧Below w.heap.size w w':=by
 have q1:(E0 == 0)=false:=by simpa using he
 have q2:(E0 != 0)=true:=by simpa using he
 replace he:=Lib.hid he
 replace A0:=Lib.hid A0
 replace hf:=Lib.hid hf
 have HT:=Aside0.mk (blk_new w (.cells #[.int .u64 0,.bool false,.int .u64 0,.bool false,.int .u64 0,.bool false,.int .u64 0,.bool false,.int .u64 0,.bool false] 31))
 have HB:=Aside0.mk (below_alloc (Below.refl _ _) (.cells #[.int .u64 0,.bool false,.int .u64 0,.bool false,.int .u64 0,.bool false,.int .u64 0,.bool false,.int .u64 0,.bool false] 31) (w:=w))
 replace hl:=Lib.hid hl
 replace hT:=Aside0.mk hT
 go_enter Tryz.func18,Tryz.ntmps18
 go_wp2_with fail
 refine (lex_Fields.calls _ _ _ _ hf.out).mono ?_
 rintro e V ⟨v0,rfl,hR,hb⟩
 obtain ⟨gs,cap,rfl,hgb,hgl,cells,hcs⟩ :=Kd.R_form hR (by rw [hl.out]; decide)
 have hw:∀ k:Nat,k < 5→cells[k]?=some (.string (Spc.word l k)):=by
  intro k hk
  have h1:=(Kd.R_cell (d:=(⟨#[]⟩:ByteArray)) hR (k:Int) (by omega) (by rw [hl.out]; omega)).1
  rw [Int.toNat_natCast] at h1
  have h2:=(blk_cell hcs k).symm.trans h1
  rw [h2]
  congr 2
 rw [hl.out]
 have HB2:=below_step HB.out hb
 have HT2:=blk_below HT.out hb
 have hgb':w.heap.size+1≤gs:=by simpa using hgb
 clear HB HT hb hR hgb
 have HB3:=Aside0.mk (below_alloc HB2 (.cells #[.int .u64 0,.bool false,.int .u64 0,.bool false,.int .u64 0,.bool false,.int .u64 0,.bool false,.int .u64 0,.bool false] 31))
 have HT3:=Aside0.mk (blk_alloc HT2 (.cells #[.int .u64 0,.bool false,.int .u64 0,.bool false,.int .u64 0,.bool false,.int .u64 0,.bool false,.int .u64 0,.bool false] 31))
 have HR3:Spc.Row (V.alloc (.cells #[.int .u64 0,.bool false,.int .u64 0,.bool false,.int .u64 0,.bool false,.int .u64 0,.bool false,.int .u64 0,.bool false] 31)) V.heap.size 0 false 0 false 0 false 0 false 0 false:=blk_new V _
 replace HR3:=Aside0.mk HR3
 have hcs3:=Aside0.mk (blk_alloc hcs (.cells #[.int .u64 0,.bool false,.int .u64 0,.bool false,.int .u64 0,.bool false,.int .u64 0,.bool false,.int .u64 0,.bool false] 31))
 have hzV:=HB2.size
 clear HB2 HT2 hcs
 obtain ⟨G,hG⟩:∃ G,V.heap.size=G:=⟨_,rfl⟩
 replace hw:=Lib.hid hw
 go_wp2_with fail
 rw [hG] at HR3 hgl hzV
 refine (Spc.fields_calls _ _).mono ?_
 rintro e V2 ⟨rfl,hX,hb⟩
 obtain ⟨X,hX0⟩:∃ X,(V.alloc (.cells #[.int .u64 0,.bool false,.int .u64 0,.bool false,.int .u64 0,.bool false,.int .u64 0,.bool false,.int .u64 0,.bool false] 31)).heap.size=X:=⟨_,rfl⟩
 have hXn:X=G+1:=by rw [← hX0,← hG]; simp
 rw [hX0] at hX ⊢
 have HB2:=below_step HB3.out hb
 have HT2:=blk_below HT3.out hb
 have HR2:Spc.Row V2 G 0 false 0 false 0 false 0 false 0 false:=blk_below HR3.out hb
 have hcs2:=blk_below hcs3.out hb
 clear HB3 HT3 HR3 hcs3 hb hX0
 have hGw:w.heap.size < G:=by omega
 have hXG:G < X:=by omega
 clear hXn hzV hG
 replace HB2:=Aside0.mk HB2
 replace HT2:=Aside0.mk HT2
 replace HR2:=Aside0.mk HR2
 replace hX:=Aside0.mk hX
 replace hcs2:=Aside0.mk hcs2
 go_wp2_with fail
 refine wp_loop_rounds 1 ?_
 refine Fld.genR (fun W=>Below w.heap.size w W∧W.heap[w.heap.size]?=some (.cells #[.int .u64 0,.bool false,.int .u64 0,.bool false,.int .u64 0,.bool false,.int .u64 0,.bool false,.int .u64 0,.bool false] 31 (0,0))∧Spc.Row W G 0 false 0 false 0 false 0 false 0 false∧Spc.Bx W X G∧W.heap[gs]?=some (.cells cells 9 (0,0))) ⟨HB2.out,HT2.out,HR2.out,hX.out,hcs2.out⟩ ?_
 clear HB2 HT2 HR2 hX hcs2
 rintro W0 ⟨HB2,HT2,HR2,hX,hcs2⟩
 have hTj:=hT.out.keep HB2
 have cw:W0.cell? ⟨gs,0,none⟩=some (.string (Spc.word l 0)):=(blk_cell hcs2 0).trans (hw.out 0 (by decide))
 replace HB2:=Aside0.mk HB2
 replace HT2:=Aside0.mk HT2
 replace HR2:=Aside0.mk HR2
 replace hX:=Aside0.mk hX
 replace hcs2:=Aside0.mk hcs2
 replace hTj:=Aside0.mk hTj
 rw [rounds_succ]
 have ix:=Spc.ix0 X
 go_wp2_with fail
 clear ix cw
 refine (field_Parse.calls _ 0 bx sx E0 _ hTj.out A0.out).mono ?_
 rintro e V3 ⟨rfl,hb⟩
 have HB3:=Aside0.mk (below_step HB2.out hb)
 have HT3:=Aside0.mk (blk_below HT2.out hb)
 have HR3:Aside0 (Spc.Row V3 G 0 false 0 false 0 false 0 false 0 false):=⟨blk_below HR2.out hb⟩
 have hX3:Aside0 (Spc.Bx V3 X G):=⟨blk_below hX.out hb⟩
 have hcs3:=Aside0.mk (blk_below hcs2.out hb)
 clear HB2 HT2 HR2 hX hcs2 hb hTj
 have HTc:=HT3.out
 have lt:=blk_lt HTc
 have t0:V3.cell? ⟨w.heap.size,0,none⟩=some (.int .u64 0):=(blk_cell HTc 0).trans rfl
 have t1:V3.cell? ⟨w.heap.size,1,none⟩=some (.bool false):=(blk_cell HTc 1).trans rfl
 have t2:V3.cell? ⟨w.heap.size,2,none⟩=some (.int .u64 0):=(blk_cell HTc 2).trans rfl
 have t3:V3.cell? ⟨w.heap.size,3,none⟩=some (.bool false):=(blk_cell HTc 3).trans rfl
 have t4:V3.cell? ⟨w.heap.size,4,none⟩=some (.int .u64 0):=(blk_cell HTc 4).trans rfl
 have t5:V3.cell? ⟨w.heap.size,5,none⟩=some (.bool false):=(blk_cell HTc 5).trans rfl
 have t6:V3.cell? ⟨w.heap.size,6,none⟩=some (.int .u64 0):=(blk_cell HTc 6).trans rfl
 have t7:V3.cell? ⟨w.heap.size,7,none⟩=some (.bool false):=(blk_cell HTc 7).trans rfl
 have t8:V3.cell? ⟨w.heap.size,8,none⟩=some (.int .u64 0):=(blk_cell HTc 8).trans rfl
 have t9:V3.cell? ⟨w.heap.size,9,none⟩=some (.bool false):=(blk_cell HTc 9).trans rfl
 have zT:∀ j,V3.frozen? ⟨w.heap.size,j,none⟩=false:=fun j=>blk_frozen HTc j
 clear HTc
 go_wp2_with fail
 refine bodyPost_ret (v:=.tuple #[.agg #[.int .u64 0,.bool false,.int .u64 0,.bool false,.int .u64 0,.bool false,.int .u64 0,.bool false,.int .u64 0,.bool false],.int .i64 1,.int .i64 E0]) (by simp [results,Tryz.results18,go_sem, *]) rfl ⟨rfl,?_⟩
 repeat (first | (with_reducible first | exact HB3.out | apply below_alloc | (refine below_set ?_ (by omega))) | exact HB3.out)
set_option maxHeartbeats 8000000 in
set_option maxRecDepth 100000 in
theorem Spc.parse1 (s:ByteArray)(l:List ByteArray)(hf:lex_Fields.f s=some (l,0))(hl:l.length=5)(b0:Int)(s0:Bool)(A0:field_Parse.f (Spc.word l 0) 0=some (b0,s0,0))(bx:Int)(sx:Bool)(E0:Int)(he:E0≠0)(A1:field_Parse.f (Spc.word l 1) 1=some (bx,sx,E0))(w:World)(hT:Tab w):Calls Tryz.prog 18 #[.string s] w fun e w'=>e=.returned (.tuple #[.agg #[.int .u64 0,.bool false,.int .u64 0,.bool false,.int .u64 0,.bool false,.int .u64 0,.bool false,.int .u64 0,.bool false],.int .i64 2,.int .i64 E0])∧Below w.heap.size w w':=by
 have q1:(E0 == 0)=false:=by simpa using he
 have q2:(E0 != 0)=true:=by simpa using he
 replace he:=Lib.hid he
 replace A0:=Lib.hid A0
 replace A1:=Lib.hid A1
 replace hf:=Lib.hid hf
 have HT:=Aside0.mk (blk_new w (.cells #[.int .u64 0,.bool false,.int .u64 0,.bool false,.int .u64 0,.bool false,.int .u64 0,.bool false,.int .u64 0,.bool false] 31))
 have HB:=Aside0.mk (below_alloc (Below.refl _ _) (.cells #[.int .u64 0,.bool false,.int .u64 0,.bool false,.int .u64 0,.bool false,.int .u64 0,.bool false,.int .u64 0,.bool false] 31) (w:=w))
 replace hl:=Lib.hid hl
 replace hT:=Aside0.mk hT
 go_enter Tryz.func18,Tryz.ntmps18
 go_wp2_with fail
 refine (lex_Fields.calls _ _ _ _ hf.out).mono ?_
 rintro e V ⟨v0,rfl,hR,hb⟩
 obtain ⟨gs,cap,rfl,hgb,hgl,cells,hcs⟩ :=Kd.R_form hR (by rw [hl.out]; decide)
 have hw:∀ k:Nat,k < 5→cells[k]?=some (.string (Spc.word l k)):=by
  intro k hk
  have h1:=(Kd.R_cell (d:=(⟨#[]⟩:ByteArray)) hR (k:Int) (by omega) (by rw [hl.out]; omega)).1
  rw [Int.toNat_natCast] at h1
  have h2:=(blk_cell hcs k).symm.trans h1
  rw [h2]
  congr 2
 rw [hl.out]
 have HB2:=below_step HB.out hb
 have HT2:=blk_below HT.out hb
 have hgb':w.heap.size+1≤gs:=by simpa using hgb
 clear HB HT hb hR hgb
 have HB3:=Aside0.mk (below_alloc HB2 (.cells #[.int .u64 0,.bool false,.int .u64 0,.bool false,.int .u64 0,.bool false,.int .u64 0,.bool false,.int .u64 0,.bool false] 31))
 have HT3:=Aside0.mk (blk_alloc HT2 (.cells #[.int .u64 0,.bool false,.int .u64 0,.bool false,.int .u64 0,.bool false,.int .u64 0,.bool false,.int .u64 0,.bool false] 31))
 have HR3:Spc.Row (V.alloc (.cells #[.int .u64 0,.bool false,.int .u64 0,.bool false,.int .u64 0,.bool false,.int .u64 0,.bool false,.int .u64 0,.bool false] 31)) V.heap.size 0 false 0 false 0 false 0 false 0 false:=blk_new V _
 replace HR3:=Aside0.mk HR3
 have hcs3:=Aside0.mk (blk_alloc hcs (.cells #[.int .u64 0,.bool false,.int .u64 0,.bool false,.int .u64 0,.bool false,.int .u64 0,.bool false,.int .u64 0,.bool false] 31))
 have hzV:=HB2.size
 clear HB2 HT2 hcs
 obtain ⟨G,hG⟩:∃ G,V.heap.size=G:=⟨_,rfl⟩
 replace hw:=Lib.hid hw
 go_wp2_with fail
 rw [hG] at HR3 hgl hzV
 refine (Spc.fields_calls _ _).mono ?_
 rintro e V2 ⟨rfl,hX,hb⟩
 obtain ⟨X,hX0⟩:∃ X,(V.alloc (.cells #[.int .u64 0,.bool false,.int .u64 0,.bool false,.int .u64 0,.bool false,.int .u64 0,.bool false,.int .u64 0,.bool false] 31)).heap.size=X:=⟨_,rfl⟩
 have hXn:X=G+1:=by rw [← hX0,← hG]; simp
 rw [hX0] at hX ⊢
 have HB2:=below_step HB3.out hb
 have HT2:=blk_below HT3.out hb
 have HR2:Spc.Row V2 G 0 false 0 false 0 false 0 false 0 false:=blk_below HR3.out hb
 have hcs2:=blk_below hcs3.out hb
 clear HB3 HT3 HR3 hcs3 hb hX0
 have hGw:w.heap.size < G:=by omega
 have hXG:G < X:=by omega
 clear hXn hzV hG
 replace HB2:=Aside0.mk HB2
 replace HT2:=Aside0.mk HT2
 replace HR2:=Aside0.mk HR2
 replace hX:=Aside0.mk hX
 replace hcs2:=Aside0.mk hcs2
 go_wp2_with fail
 refine wp_loop_rounds 2 ?_
 refine Fld.genR (fun W=>Below w.heap.size w W∧W.heap[w.heap.size]?=some (.cells #[.int .u64 0,.bool false,.int .u64 0,.bool false,.int .u64 0,.bool false,.int .u64 0,.bool false,.int .u64 0,.bool false] 31 (0,0))∧Spc.Row W G 0 false 0 false 0 false 0 false 0 false∧Spc.Bx W X G∧W.heap[gs]?=some (.cells cells 9 (0,0))) ⟨HB2.out,HT2.out,HR2.out,hX.out,hcs2.out⟩ ?_
 clear HB2 HT2 HR2 hX hcs2
 rintro W0 ⟨HB2,HT2,HR2,hX,hcs2⟩
 have hTj:=hT.out.keep HB2
 have cw:W0.cell? ⟨gs,0,none⟩=some (.string (Spc.word l 0)):=(blk_cell hcs2 0).trans (hw.out 0 (by decide))
 replace HB2:=Aside0.mk HB2
 replace HT2:=Aside0.mk HT2
 replace HR2:=Aside0.mk HR2
 replace hX:=Aside0.mk hX
 replace hcs2:=Aside0.mk hcs2
 replace hTj:=Aside0.mk hTj
 rw [rounds_succ]
 have ix:=Spc.ix0 X
 go_upto_block 1 with (fail)
 go_cut [] (fun wx=>Below w.heap.size w wx∧wx.heap[w.heap.size]?=some (.cells #[.int .u64 0,.bool false,.int .u64 0,.bool false,.int .u64 0,.bool false,.int .u64 0,.bool false,.int .u64 0,.bool false] 31 (0,0))∧Spc.Row wx G b0 s0 0 false 0 false 0 false 0 false∧Spc.Bx wx X G∧wx.heap[gs]?=some (.cells cells 9 (0,0)))
 case first=>
  go_wp2_with fail
  clear ix cw
  refine (field_Parse.calls _ 0 b0 s0 0 _ hTj.out A0.out).mono ?_
  rintro e V3 ⟨rfl,hb⟩
  have HB3:=Aside0.mk (below_step HB2.out hb)
  have HT3:=Aside0.mk (blk_below HT2.out hb)
  have HR3:Aside0 (Spc.Row V3 G 0 false 0 false 0 false 0 false 0 false):=⟨blk_below HR2.out hb⟩
  have hX3:Aside0 (Spc.Bx V3 X G):=⟨blk_below hX.out hb⟩
  have hcs3:=Aside0.mk (blk_below hcs2.out hb)
  clear HB2 HT2 HR2 hX hcs2 hb hTj
  go_upto_region 11 with (fail)
  have HB4:=Aside0.mk (below_alloc HB3.out (.cells #[.int .u64 b0,.bool s0] 24))
  have HT4:=Aside0.mk (blk_alloc HT3.out (.cells #[.int .u64 b0,.bool s0] 24))
  have HR4:=Aside0.mk (blk_alloc HR3.out (.cells #[.int .u64 b0,.bool s0] 24))
  have hX4:=Aside0.mk (blk_alloc hX3.out (.cells #[.int .u64 b0,.bool s0] 24))
  have hcs4:=Aside0.mk (blk_alloc hcs3.out (.cells #[.int .u64 b0,.bool s0] 24))
  have hF4:=Aside0.mk (blk_new V3 (.cells #[.int .u64 b0,.bool s0] 24))
  clear HB3 HT3 HR3 hX3 hcs3
  obtain ⟨W,hW⟩:∃ W,V3.alloc (.cells #[.int .u64 b0,.bool s0] 24)=W:=⟨_,rfl⟩
  rw [hW] at HB4 HT4 HR4 hX4 hcs4 hF4 ⊢
  obtain ⟨fb,hfb⟩:∃ fb,V3.heap.size=fb:=⟨_,rfl⟩
  rw [hfb] at hF4 ⊢
  clear hW hfb
  have f0:W.cell? ⟨fb,0,none⟩=some (.int .u64 b0):=(blk_cell hF4.out 0).trans rfl
  have f1:W.cell? ⟨fb,1,none⟩=some (.bool s0):=(blk_cell hF4.out 1).trans rfl
  have c0:W.cell? ⟨G,0,none⟩=some (.int .u64 0):=(blk_cell HR4.out 0).trans rfl
  have c1:W.cell? ⟨G,1,none⟩=some (.bool false):=(blk_cell HR4.out 1).trans rfl
  have z0:=blk_frozen HR4.out 0
  have z1:=blk_frozen HR4.out 1
  go_region_with (go_at_call 71; refine (Spc.at0 _ G _ (by exact hX4.out)).mono ?_; rintro e w' ⟨rfl,rfl⟩)
  all_goals (go_wp2_with fail; go_meet; refine ⟨?_,Spc.far HT4.out (by omega) _ _ _ _,blk_put (blk_put HR4.out 0 _ rfl) 1 _ rfl,Spc.far hX4.out (by omega) _ _ _ _,Spc.far hcs4.out (by omega) _ _ _ _⟩; repeat (with_reducible first | exact HB4.out | apply below_drew1 | (refine below_set ?_ (by omega))))
 case rest=>
 obtain ⟨HB2,HT2,HR2,hX,hcs2⟩ :=hcut
 clear ix cw hTj
 replace HB2:=Aside0.mk HB2
 replace HT2:=Aside0.mk HT2
 replace HR2:=Aside0.mk HR2
 replace hX:=Aside0.mk hX
 replace hcs2:=Aside0.mk hcs2
 go_wp2_with fail
 refine Fld.genR (fun W=>Below w.heap.size w W∧W.heap[w.heap.size]?=some (.cells #[.int .u64 0,.bool false,.int .u64 0,.bool false,.int .u64 0,.bool false,.int .u64 0,.bool false,.int .u64 0,.bool false] 31 (0,0))∧Spc.Row W G b0 s0 0 false 0 false 0 false 0 false∧Spc.Bx W X G∧W.heap[gs]?=some (.cells cells 9 (0,0))) ⟨HB2.out,HT2.out,HR2.out,hX.out,hcs2.out⟩ ?_
 clear HB2 HT2 HR2 hX hcs2
 rintro W1 ⟨HB2,HT2,HR2,hX,hcs2⟩
 have hTj:=hT.out.keep HB2
 have cw:W1.cell? ⟨gs,1,none⟩=some (.string (Spc.word l 1)):=(blk_cell hcs2 1).trans (hw.out 1 (by decide))
 replace HB2:=Aside0.mk HB2
 replace HT2:=Aside0.mk HT2
 replace HR2:=Aside0.mk HR2
 replace hX:=Aside0.mk hX
 replace hcs2:=Aside0.mk hcs2
 replace hTj:=Aside0.mk hTj
 rw [rounds_succ]
 have ix:=Spc.ix1 X
 go_wp2_with fail
 clear ix cw
 refine (field_Parse.calls _ 1 bx sx E0 _ hTj.out A1.out).mono ?_
 rintro e V4 ⟨rfl,hb⟩
 have HB3:=Aside0.mk (below_step HB2.out hb)
 have HT3:=Aside0.mk (blk_below HT2.out hb)
 have HR3:Aside0 (Spc.Row V4 G b0 s0 0 false 0 false 0 false 0 false):=⟨blk_below HR2.out hb⟩
 have hX3:Aside0 (Spc.Bx V4 X G):=⟨blk_below hX.out hb⟩
 have hcs3:=Aside0.mk (blk_below hcs2.out hb)
 clear HB2 HT2 HR2 hX hcs2 hb hTj
 have HTc:=HT3.out
 have lt:=blk_lt HTc
 have t0:V4.cell? ⟨w.heap.size,0,none⟩=some (.int .u64 0):=(blk_cell HTc 0).trans rfl
 have t1:V4.cell? ⟨w.heap.size,1,none⟩=some (.bool false):=(blk_cell HTc 1).trans rfl
 have t2:V4.cell? ⟨w.heap.size,2,none⟩=some (.int .u64 0):=(blk_cell HTc 2).trans rfl
 have t3:V4.cell? ⟨w.heap.size,3,none⟩=some (.bool false):=(blk_cell HTc 3).trans rfl
 have t4:V4.cell? ⟨w.heap.size,4,none⟩=some (.int .u64 0):=(blk_cell HTc 4).trans rfl
 have t5:V4.cell? ⟨w.heap.size,5,none⟩=some (.bool false):=(blk_cell HTc 5).trans rfl
 have t6:V4.cell? ⟨w.heap.size,6,none⟩=some (.int .u64 0):=(blk_cell HTc 6).trans rfl
 have t7:V4.cell? ⟨w.heap.size,7,none⟩=some (.bool false):=(blk_cell HTc 7).trans rfl
 have t8:V4.cell? ⟨w.heap.size,8,none⟩=some (.int .u64 0):=(blk_cell HTc 8).trans rfl
 have t9:V4.cell? ⟨w.heap.size,9,none⟩=some (.bool false):=(blk_cell HTc 9).trans rfl
 have zT:∀ j,V4.frozen? ⟨w.heap.size,j,none⟩=false:=fun j=>blk_frozen HTc j
 clear HTc
 go_wp2_with fail
 refine bodyPost_ret (v:=.tuple #[.agg #[.int .u64 0,.bool false,.int .u64 0,.bool false,.int .u64 0,.bool false,.int .u64 0,.bool false,.int .u64 0,.bool false],.int .i64 2,.int .i64 E0]) (by simp [results,Tryz.results18,go_sem, *]) rfl ⟨rfl,?_⟩
 repeat (first | (with_reducible first | exact HB3.out | apply below_alloc | (refine below_set ?_ (by omega))) | exact HB3.out)
set_option maxHeartbeats 8000000 in
set_option maxRecDepth 100000 in
theorem Spc.parse2 (s:ByteArray)(l:List ByteArray)(hf:lex_Fields.f s=some (l,0))(hl:l.length=5)(b0:Int)(s0:Bool)(A0:field_Parse.f (Spc.word l 0) 0=some (b0,s0,0))(b1:Int)(s1:Bool)(A1:field_Parse.f (Spc.word l 1) 1=some (b1,s1,0))(bx:Int)(sx:Bool)(E0:Int)(he:E0≠0)(A2:field_Parse.f (Spc.word l 2) 2=some (bx,sx,E0))(w:World)(hT:Tab w):Calls Tryz.prog 18 #[.string s] w fun e w'=>e=.returned (.tuple #[.agg #[.int .u64 0,.bool false,.int .u64 0,.bool false,.int .u64 0,.bool false,.int .u64 0,.bool false,.int .u64 0,.bool false],.int .i64 3,.int .i64 E0])∧Below w.heap.size w w':=by
 have q1:(E0 == 0)=false:=by simpa using he
 have q2:(E0 != 0)=true:=by simpa using he
 replace he:=Lib.hid he
 replace A0:=Lib.hid A0
 replace A1:=Lib.hid A1
 replace A2:=Lib.hid A2
 replace hf:=Lib.hid hf
 have HT:=Aside0.mk (blk_new w (.cells #[.int .u64 0,.bool false,.int .u64 0,.bool false,.int .u64 0,.bool false,.int .u64 0,.bool false,.int .u64 0,.bool false] 31))
 have HB:=Aside0.mk (below_alloc (Below.refl _ _) (.cells #[.int .u64 0,.bool false,.int .u64 0,.bool false,.int .u64 0,.bool false,.int .u64 0,.bool false,.int .u64 0,.bool false] 31) (w:=w))
 replace hl:=Lib.hid hl
 replace hT:=Aside0.mk hT
 go_enter Tryz.func18,Tryz.ntmps18
 go_wp2_with fail
 refine (lex_Fields.calls _ _ _ _ hf.out).mono ?_
 rintro e V ⟨v0,rfl,hR,hb⟩
 obtain ⟨gs,cap,rfl,hgb,hgl,cells,hcs⟩ :=Kd.R_form hR (by rw [hl.out]; decide)
 have hw:∀ k:Nat,k < 5→cells[k]?=some (.string (Spc.word l k)):=by
  intro k hk
  have h1:=(Kd.R_cell (d:=(⟨#[]⟩:ByteArray)) hR (k:Int) (by omega) (by rw [hl.out]; omega)).1
  rw [Int.toNat_natCast] at h1
  have h2:=(blk_cell hcs k).symm.trans h1
  rw [h2]
  congr 2
 rw [hl.out]
 have HB2:=below_step HB.out hb
 have HT2:=blk_below HT.out hb
 have hgb':w.heap.size+1≤gs:=by simpa using hgb
 clear HB HT hb hR hgb
 have HB3:=Aside0.mk (below_alloc HB2 (.cells #[.int .u64 0,.bool false,.int .u64 0,.bool false,.int .u64 0,.bool false,.int .u64 0,.bool false,.int .u64 0,.bool false] 31))
 have HT3:=Aside0.mk (blk_alloc HT2 (.cells #[.int .u64 0,.bool false,.int .u64 0,.bool false,.int .u64 0,.bool false,.int .u64 0,.bool false,.int .u64 0,.bool false] 31))
 have HR3:Spc.Row (V.alloc (.cells #[.int .u64 0,.bool false,.int .u64 0,.bool false,.int .u64 0,.bool false,.int .u64 0,.bool false,.int .u64 0,.bool false] 31)) V.heap.size 0 false 0 false 0 false 0 false 0 false:=blk_new V _
 replace HR3:=Aside0.mk HR3
 have hcs3:=Aside0.mk (blk_alloc hcs (.cells #[.int .u64 0,.bool false,.int .u64 0,.bool false,.int .u64 0,.bool false,.int .u64 0,.bool false,.int .u64 0,.bool false] 31))
 have hzV:=HB2.size
 clear HB2 HT2 hcs
 obtain ⟨G,hG⟩:∃ G,V.heap.size=G:=⟨_,rfl⟩
 replace hw:=Lib.hid hw
 go_wp2_with fail
 rw [hG] at HR3 hgl hzV
 refine (Spc.fields_calls _ _).mono ?_
 rintro e V2 ⟨rfl,hX,hb⟩
 obtain ⟨X,hX0⟩:∃ X,(V.alloc (.cells #[.int .u64 0,.bool false,.int .u64 0,.bool false,.int .u64 0,.bool false,.int .u64 0,.bool false,.int .u64 0,.bool false] 31)).heap.size=X:=⟨_,rfl⟩
 have hXn:X=G+1:=by rw [← hX0,← hG]; simp
 rw [hX0] at hX ⊢
 have HB2:=below_step HB3.out hb
 have HT2:=blk_below HT3.out hb
 have HR2:Spc.Row V2 G 0 false 0 false 0 false 0 false 0 false:=blk_below HR3.out hb
 have hcs2:=blk_below hcs3.out hb
 clear HB3 HT3 HR3 hcs3 hb hX0
 have hGw:w.heap.size < G:=by omega
 have hXG:G < X:=by omega
 clear hXn hzV hG
 replace HB2:=Aside0.mk HB2
 replace HT2:=Aside0.mk HT2
 replace HR2:=Aside0.mk HR2
 replace hX:=Aside0.mk hX
 replace hcs2:=Aside0.mk hcs2
 go_wp2_with fail
 refine wp_loop_rounds 3 ?_
 refine Fld.genR (fun W=>Below w.heap.size w W∧W.heap[w.heap.size]?=some (.cells #[.int .u64 0,.bool false,.int .u64 0,.bool false,.int .u64 0,.bool false,.int .u64 0,.bool false,.int .u64 0,.bool false] 31 (0,0))∧Spc.Row W G 0 false 0 false 0 false 0 false 0 false∧Spc.Bx W X G∧W.heap[gs]?=some (.cells cells 9 (0,0))) ⟨HB2.out,HT2.out,HR2.out,hX.out,hcs2.out⟩ ?_
 clear HB2 HT2 HR2 hX hcs2
 rintro W0 ⟨HB2,HT2,HR2,hX,hcs2⟩
 have hTj:=hT.out.keep HB2
 have cw:W0.cell? ⟨gs,0,none⟩=some (.string (Spc.word l 0)):=(blk_cell hcs2 0).trans (hw.out 0 (by decide))
 replace HB2:=Aside0.mk HB2
 replace HT2:=Aside0.mk HT2
 replace HR2:=Aside0.mk HR2
 replace hX:=Aside0.mk hX
 replace hcs2:=Aside0.mk hcs2
 replace hTj:=Aside0.mk hTj
 rw [rounds_succ]
 have ix:=Spc.ix0 X
 go_upto_block 1 with (fail)
 go_cut [] (fun wx=>Below w.heap.size w wx∧wx.heap[w.heap.size]?=some (.cells #[.int .u64 0,.bool false,.int .u64 0,.bool false,.int .u64 0,.bool false,.int .u64 0,.bool false,.int .u64 0,.bool false] 31 (0,0))∧Spc.Row wx G b0 s0 0 false 0 false 0 false 0 false∧Spc.Bx wx X G∧wx.heap[gs]?=some (.cells cells 9 (0,0)))
 case first=>
  go_wp2_with fail
  clear ix cw
  refine (field_Parse.calls _ 0 b0 s0 0 _ hTj.out A0.out).mono ?_
  rintro e V3 ⟨rfl,hb⟩
  have HB3:=Aside0.mk (below_step HB2.out hb)
  have HT3:=Aside0.mk (blk_below HT2.out hb)
  have HR3:Aside0 (Spc.Row V3 G 0 false 0 false 0 false 0 false 0 false):=⟨blk_below HR2.out hb⟩
  have hX3:Aside0 (Spc.Bx V3 X G):=⟨blk_below hX.out hb⟩
  have hcs3:=Aside0.mk (blk_below hcs2.out hb)
  clear HB2 HT2 HR2 hX hcs2 hb hTj
  go_upto_region 11 with (fail)
  have HB4:=Aside0.mk (below_alloc HB3.out (.cells #[.int .u64 b0,.bool s0] 24))
  have HT4:=Aside0.mk (blk_alloc HT3.out (.cells #[.int .u64 b0,.bool s0] 24))
  have HR4:=Aside0.mk (blk_alloc HR3.out (.cells #[.int .u64 b0,.bool s0] 24))
  have hX4:=Aside0.mk (blk_alloc hX3.out (.cells #[.int .u64 b0,.bool s0] 24))
  have hcs4:=Aside0.mk (blk_alloc hcs3.out (.cells #[.int .u64 b0,.bool s0] 24))
  have hF4:=Aside0.mk (blk_new V3 (.cells #[.int .u64 b0,.bool s0] 24))
  clear HB3 HT3 HR3 hX3 hcs3
  obtain ⟨W,hW⟩:∃ W,V3.alloc (.cells #[.int .u64 b0,.bool s0] 24)=W:=⟨_,rfl⟩
  rw [hW] at HB4 HT4 HR4 hX4 hcs4 hF4 ⊢
  obtain ⟨fb,hfb⟩:∃ fb,V3.heap.size=fb:=⟨_,rfl⟩
  rw [hfb] at hF4 ⊢
  clear hW hfb
  have f0:W.cell? ⟨fb,0,none⟩=some (.int .u64 b0):=(blk_cell hF4.out 0).trans rfl
  have f1:W.cell? ⟨fb,1,none⟩=some (.bool s0):=(blk_cell hF4.out 1).trans rfl
  have c0:W.cell? ⟨G,0,none⟩=some (.int .u64 0):=(blk_cell HR4.out 0).trans rfl
  have c1:W.cell? ⟨G,1,none⟩=some (.bool false):=(blk_cell HR4.out 1).trans rfl
  have z0:=blk_frozen HR4.out 0
  have z1:=blk_frozen HR4.out 1
  go_region_with (go_at_call 71; refine (Spc.at0 _ G _ (by exact hX4.out)).mono ?_; rintro e w' ⟨rfl,rfl⟩)
  all_goals (go_wp2_with fail; go_meet; refine ⟨?_,Spc.far HT4.out (by omega) _ _ _ _,blk_put (blk_put HR4.out 0 _ rfl) 1 _ rfl,Spc.far hX4.out (by omega) _ _ _ _,Spc.far hcs4.out (by omega) _ _ _ _⟩; repeat (with_reducible first | exact HB4.out | apply below_drew1 | (refine below_set ?_ (by omega))))
 case rest=>
 obtain ⟨HB2,HT2,HR2,hX,hcs2⟩ :=hcut
 clear ix cw hTj
 replace HB2:=Aside0.mk HB2
 replace HT2:=Aside0.mk HT2
 replace HR2:=Aside0.mk HR2
 replace hX:=Aside0.mk hX
 replace hcs2:=Aside0.mk hcs2
 go_wp2_with fail
 refine Fld.genR (fun W=>Below w.heap.size w W∧W.heap[w.heap.size]?=some (.cells #[.int .u64 0,.bool false,.int .u64 0,.bool false,.int .u64 0,.bool false,.int .u64 0,.bool false,.int .u64 0,.bool false] 31 (0,0))∧Spc.Row W G b0 s0 0 false 0 false 0 false 0 false∧Spc.Bx W X G∧W.heap[gs]?=some (.cells cells 9 (0,0))) ⟨HB2.out,HT2.out,HR2.out,hX.out,hcs2.out⟩ ?_
 clear HB2 HT2 HR2 hX hcs2
 rintro W1 ⟨HB2,HT2,HR2,hX,hcs2⟩
 have hTj:=hT.out.keep HB2
 have cw:W1.cell? ⟨gs,1,none⟩=some (.string (Spc.word l 1)):=(blk_cell hcs2 1).trans (hw.out 1 (by decide))
 replace HB2:=Aside0.mk HB2
 replace HT2:=Aside0.mk HT2
 replace HR2:=Aside0.mk HR2
 replace hX:=Aside0.mk hX
 replace hcs2:=Aside0.mk hcs2
 replace hTj:=Aside0.mk hTj
 rw [rounds_succ]
 have ix:=Spc.ix1 X
 go_upto_block 1 with (fail)
 go_cut [] (fun wx=>Below w.heap.size w wx∧wx.heap[w.heap.size]?=some (.cells #[.int .u64 0,.bool false,.int .u64 0,.bool false,.int .u64 0,.bool false,.int .u64 0,.bool false,.int .u64 0,.bool false] 31 (0,0))∧Spc.Row wx G b0 s0 b1 s1 0 false 0 false 0 false∧Spc.Bx wx X G∧wx.heap[gs]?=some (.cells cells 9 (0,0)))
 case first=>
  go_wp2_with fail
  clear ix cw
  refine (field_Parse.calls _ 1 b1 s1 0 _ hTj.out A1.out).mono ?_
  rintro e V4 ⟨rfl,hb⟩
  have HB3:=Aside0.mk (below_step HB2.out hb)
  have HT3:=Aside0.mk (blk_below HT2.out hb)
  have HR3:Aside0 (Spc.Row V4 G b0 s0 0 false 0 false 0 false 0 false):=⟨blk_below HR2.out hb⟩
  have hX3:Aside0 (Spc.Bx V4 X G):=⟨blk_below hX.out hb⟩
  have hcs3:=Aside0.mk (blk_below hcs2.out hb)
  clear HB2 HT2 HR2 hX hcs2 hb hTj
  go_upto_region 11 with (fail)
  have HB4:=Aside0.mk (below_alloc HB3.out (.cells #[.int .u64 b1,.bool s1] 24))
  have HT4:=Aside0.mk (blk_alloc HT3.out (.cells #[.int .u64 b1,.bool s1] 24))
  have HR4:=Aside0.mk (blk_alloc HR3.out (.cells #[.int .u64 b1,.bool s1] 24))
  have hX4:=Aside0.mk (blk_alloc hX3.out (.cells #[.int .u64 b1,.bool s1] 24))
  have hcs4:=Aside0.mk (blk_alloc hcs3.out (.cells #[.int .u64 b1,.bool s1] 24))
  have hF4:=Aside0.mk (blk_new V4 (.cells #[.int .u64 b1,.bool s1] 24))
  clear HB3 HT3 HR3 hX3 hcs3
  obtain ⟨W,hW⟩:∃ W,V4.alloc (.cells #[.int .u64 b1,.bool s1] 24)=W:=⟨_,rfl⟩
  rw [hW] at HB4 HT4 HR4 hX4 hcs4 hF4 ⊢
  obtain ⟨fb,hfb⟩:∃ fb,V4.heap.size=fb:=⟨_,rfl⟩
  rw [hfb] at hF4 ⊢
  clear hW hfb
  have f0:W.cell? ⟨fb,0,none⟩=some (.int .u64 b1):=(blk_cell hF4.out 0).trans rfl
  have f1:W.cell? ⟨fb,1,none⟩=some (.bool s1):=(blk_cell hF4.out 1).trans rfl
  have c0:W.cell? ⟨G,2,none⟩=some (.int .u64 0):=(blk_cell HR4.out 2).trans rfl
  have c1:W.cell? ⟨G,3,none⟩=some (.bool false):=(blk_cell HR4.out 3).trans rfl
  have z0:=blk_frozen HR4.out 2
  have z1:=blk_frozen HR4.out 3
  go_region_with (go_at_call 72; refine (Spc.at1 _ G _ (by exact hX4.out)).mono ?_; rintro e w' ⟨rfl,rfl⟩)
  all_goals (go_wp2_with fail; go_meet; refine ⟨?_,Spc.far HT4.out (by omega) _ _ _ _,blk_put (blk_put HR4.out 2 _ rfl) 3 _ rfl,Spc.far hX4.out (by omega) _ _ _ _,Spc.far hcs4.out (by omega) _ _ _ _⟩; repeat (with_reducible first | exact HB4.out | apply below_drew1 | (refine below_set ?_ (by omega))))
 case rest=>
 obtain ⟨HB2,HT2,HR2,hX,hcs2⟩ :=hcut
 clear ix cw hTj
 replace HB2:=Aside0.mk HB2
 replace HT2:=Aside0.mk HT2
 replace HR2:=Aside0.mk HR2
 replace hX:=Aside0.mk hX
 replace hcs2:=Aside0.mk hcs2
 go_wp2_with fail
 refine Fld.genR (fun W=>Below w.heap.size w W∧W.heap[w.heap.size]?=some (.cells #[.int .u64 0,.bool false,.int .u64 0,.bool false,.int .u64 0,.bool false,.int .u64 0,.bool false,.int .u64 0,.bool false] 31 (0,0))∧Spc.Row W G b0 s0 b1 s1 0 false 0 false 0 false∧Spc.Bx W X G∧W.heap[gs]?=some (.cells cells 9 (0,0))) ⟨HB2.out,HT2.out,HR2.out,hX.out,hcs2.out⟩ ?_
 clear HB2 HT2 HR2 hX hcs2
 rintro W2 ⟨HB2,HT2,HR2,hX,hcs2⟩
 have hTj:=hT.out.keep HB2
 have cw:W2.cell? ⟨gs,2,none⟩=some (.string (Spc.word l 2)):=(blk_cell hcs2 2).trans (hw.out 2 (by decide))
 replace HB2:=Aside0.mk HB2
 replace HT2:=Aside0.mk HT2
 replace HR2:=Aside0.mk HR2
 replace hX:=Aside0.mk hX
 replace hcs2:=Aside0.mk hcs2
 replace hTj:=Aside0.mk hTj
 rw [rounds_succ]
 have ix:=Spc.ix2 X
 go_wp2_with fail
 clear ix cw
 refine (field_Parse.calls _ 2 bx sx E0 _ hTj.out A2.out).mono ?_
 rintro e V5 ⟨rfl,hb⟩
 have HB3:=Aside0.mk (below_step HB2.out hb)
 have HT3:=Aside0.mk (blk_below HT2.out hb)
 have HR3:Aside0 (Spc.Row V5 G b0 s0 b1 s1 0 false 0 false 0 false):=⟨blk_below HR2.out hb⟩
 have hX3:Aside0 (Spc.Bx V5 X G):=⟨blk_below hX.out hb⟩
 have hcs3:=Aside0.mk (blk_below hcs2.out hb)
 clear HB2 HT2 HR2 hX hcs2 hb hTj
 have HTc:=HT3.out
 have lt:=blk_lt HTc
 have t0:V5.cell? ⟨w.heap.size,0,none⟩=some (.int .u64 0):=(blk_cell HTc 0).trans rfl
 have t1:V5.cell? ⟨w.heap.size,1,none⟩=some (.bool false):=(blk_cell HTc 1).trans rfl
 have t2:V5.cell? ⟨w.heap.size,2,none⟩=some (.int .u64 0):=(blk_cell HTc 2).trans rfl
 have t3:V5.cell? ⟨w.heap.size,3,none⟩=some (.bool false):=(blk_cell HTc 3).trans rfl
 have t4:V5.cell? ⟨w.heap.size,4,none⟩=some (.int .u64 0):=(blk_cell HTc 4).trans rfl
 have t5:V5.cell? ⟨w.heap.size,5,none⟩=some (.bool false):=(blk_cell HTc 5).trans rfl
 have t6:V5.cell? ⟨w.heap.size,6,none⟩=some (.int .u64 0):=(blk_cell HTc 6).trans rfl
 have t7:V5.cell? ⟨w.heap.size,7,none⟩=some (.bool false):=(blk_cell HTc 7).trans rfl
 have t8:V5.cell? ⟨w.heap.size,8,none⟩=some (.int .u64 0):=(blk_cell HTc 8).trans rfl
 have t9:V5.cell? ⟨w.heap.size,9,none⟩=some (.bool false):=(blk_cell HTc 9).trans rfl
 have zT:∀ j,V5.frozen? ⟨w.heap.size,j,none⟩=false:=fun j=>blk_frozen HTc j
 clear HTc
 go_wp2_with fail
 refine bodyPost_ret (v:=.tuple #[.agg #[.int .u64 0,.bool false,.int .u64 0,.bool false,.int .u64 0,.bool false,.int .u64 0,.bool false,.int .u64 0,.bool false],.int .i64 3,.int .i64 E0]) (by simp [results,Tryz.results18,go_sem, *]) rfl ⟨rfl,?_⟩
 repeat (first | (with_reducible first | exact HB3.out | apply below_alloc | (refine below_set ?_ (by omega))) | exact HB3.out)
set_option maxHeartbeats 8000000 in
set_option maxRecDepth 100000 in
theorem Spc.parse3 (s:ByteArray)(l:List ByteArray)(hf:lex_Fields.f s=some (l,0))(hl:l.length=5)(b0:Int)(s0:Bool)(A0:field_Parse.f (Spc.word l 0) 0=some (b0,s0,0))(b1:Int)(s1:Bool)(A1:field_Parse.f (Spc.word l 1) 1=some (b1,s1,0))(b2:Int)(s2:Bool)(A2:field_Parse.f (Spc.word l 2) 2=some (b2,s2,0))(bx:Int)(sx:Bool)(E0:Int)(he:E0≠0)(A3:field_Parse.f (Spc.word l 3) 3=some (bx,sx,E0))(w:World)(hT:Tab w):Calls Tryz.prog 18 #[.string s] w fun e w'=>e=.returned (.tuple #[.agg #[.int .u64 0,.bool false,.int .u64 0,.bool false,.int .u64 0,.bool false,.int .u64 0,.bool false,.int .u64 0,.bool false],.int .i64 4,.int .i64 E0])∧Below w.heap.size w w':=by
 have q1:(E0 == 0)=false:=by simpa using he
 have q2:(E0 != 0)=true:=by simpa using he
 replace he:=Lib.hid he
 replace A0:=Lib.hid A0
 replace A1:=Lib.hid A1
 replace A2:=Lib.hid A2
 replace A3:=Lib.hid A3
 replace hf:=Lib.hid hf
 have HT:=Aside0.mk (blk_new w (.cells #[.int .u64 0,.bool false,.int .u64 0,.bool false,.int .u64 0,.bool false,.int .u64 0,.bool false,.int .u64 0,.bool false] 31))
 have HB:=Aside0.mk (below_alloc (Below.refl _ _) (.cells #[.int .u64 0,.bool false,.int .u64 0,.bool false,.int .u64 0,.bool false,.int .u64 0,.bool false,.int .u64 0,.bool false] 31) (w:=w))
 replace hl:=Lib.hid hl
 replace hT:=Aside0.mk hT
 go_enter Tryz.func18,Tryz.ntmps18
 go_wp2_with fail
 refine (lex_Fields.calls _ _ _ _ hf.out).mono ?_
 rintro e V ⟨v0,rfl,hR,hb⟩
 obtain ⟨gs,cap,rfl,hgb,hgl,cells,hcs⟩ :=Kd.R_form hR (by rw [hl.out]; decide)
 have hw:∀ k:Nat,k < 5→cells[k]?=some (.string (Spc.word l k)):=by
  intro k hk
  have h1:=(Kd.R_cell (d:=(⟨#[]⟩:ByteArray)) hR (k:Int) (by omega) (by rw [hl.out]; omega)).1
  rw [Int.toNat_natCast] at h1
  have h2:=(blk_cell hcs k).symm.trans h1
  rw [h2]
  congr 2
 rw [hl.out]
 have HB2:=below_step HB.out hb
 have HT2:=blk_below HT.out hb
 have hgb':w.heap.size+1≤gs:=by simpa using hgb
 clear HB HT hb hR hgb
 have HB3:=Aside0.mk (below_alloc HB2 (.cells #[.int .u64 0,.bool false,.int .u64 0,.bool false,.int .u64 0,.bool false,.int .u64 0,.bool false,.int .u64 0,.bool false] 31))
 have HT3:=Aside0.mk (blk_alloc HT2 (.cells #[.int .u64 0,.bool false,.int .u64 0,.bool false,.int .u64 0,.bool false,.int .u64 0,.bool false,.int .u64 0,.bool false] 31))
 have HR3:Spc.Row (V.alloc (.cells #[.int .u64 0,.bool false,.int .u64 0,.bool false,.int .u64 0,.bool false,.int .u64 0,.bool false,.int .u64 0,.bool false] 31)) V.heap.size 0 false 0 false 0 false 0 false 0 false:=blk_new V _
 replace HR3:=Aside0.mk HR3
 have hcs3:=Aside0.mk (blk_alloc hcs (.cells #[.int .u64 0,.bool false,.int .u64 0,.bool false,.int .u64 0,.bool false,.int .u64 0,.bool false,.int .u64 0,.bool false] 31))
 have hzV:=HB2.size
 clear HB2 HT2 hcs
 obtain ⟨G,hG⟩:∃ G,V.heap.size=G:=⟨_,rfl⟩
 replace hw:=Lib.hid hw
 go_wp2_with fail
 rw [hG] at HR3 hgl hzV
 refine (Spc.fields_calls _ _).mono ?_
 rintro e V2 ⟨rfl,hX,hb⟩
 obtain ⟨X,hX0⟩:∃ X,(V.alloc (.cells #[.int .u64 0,.bool false,.int .u64 0,.bool false,.int .u64 0,.bool false,.int .u64 0,.bool false,.int .u64 0,.bool false] 31)).heap.size=X:=⟨_,rfl⟩
 have hXn:X=G+1:=by rw [← hX0,← hG]; simp
 rw [hX0] at hX ⊢
 have HB2:=below_step HB3.out hb
 have HT2:=blk_below HT3.out hb
 have HR2:Spc.Row V2 G 0 false 0 false 0 false 0 false 0 false:=blk_below HR3.out hb
 have hcs2:=blk_below hcs3.out hb
 clear HB3 HT3 HR3 hcs3 hb hX0
 have hGw:w.heap.size < G:=by omega
 have hXG:G < X:=by omega
 clear hXn hzV hG
 replace HB2:=Aside0.mk HB2
 replace HT2:=Aside0.mk HT2
 replace HR2:=Aside0.mk HR2
 replace hX:=Aside0.mk hX
 replace hcs2:=Aside0.mk hcs2
 go_wp2_with fail
 refine wp_loop_rounds 4 ?_
 refine Fld.genR (fun W=>Below w.heap.size w W∧W.heap[w.heap.size]?=some (.cells #[.int .u64 0,.bool false,.int .u64 0,.bool false,.int .u64 0,.bool false,.int .u64 0,.bool false,.int .u64 0,.bool false] 31 (0,0))∧Spc.Row W G 0 false 0 false 0 false 0 false 0 false∧Spc.Bx W X G∧W.heap[gs]?=some (.cells cells 9 (0,0))) ⟨HB2.out,HT2.out,HR2.out,hX.out,hcs2.out⟩ ?_
 clear HB2 HT2 HR2 hX hcs2
 rintro W0 ⟨HB2,HT2,HR2,hX,hcs2⟩
 have hTj:=hT.out.keep HB2
 have cw:W0.cell? ⟨gs,0,none⟩=some (.string (Spc.word l 0)):=(blk_cell hcs2 0).trans (hw.out 0 (by decide))
 replace HB2:=Aside0.mk HB2
 replace HT2:=Aside0.mk HT2
 replace HR2:=Aside0.mk HR2
 replace hX:=Aside0.mk hX
 replace hcs2:=Aside0.mk hcs2
 replace hTj:=Aside0.mk hTj
 rw [rounds_succ]
 have ix:=Spc.ix0 X
 go_upto_block 1 with (fail)
 go_cut [] (fun wx=>Below w.heap.size w wx∧wx.heap[w.heap.size]?=some (.cells #[.int .u64 0,.bool false,.int .u64 0,.bool false,.int .u64 0,.bool false,.int .u64 0,.bool false,.int .u64 0,.bool false] 31 (0,0))∧Spc.Row wx G b0 s0 0 false 0 false 0 false 0 false∧Spc.Bx wx X G∧wx.heap[gs]?=some (.cells cells 9 (0,0)))
 case first=>
  go_wp2_with fail
  clear ix cw
  refine (field_Parse.calls _ 0 b0 s0 0 _ hTj.out A0.out).mono ?_
  rintro e V3 ⟨rfl,hb⟩
  have HB3:=Aside0.mk (below_step HB2.out hb)
  have HT3:=Aside0.mk (blk_below HT2.out hb)
  have HR3:Aside0 (Spc.Row V3 G 0 false 0 false 0 false 0 false 0 false):=⟨blk_below HR2.out hb⟩
  have hX3:Aside0 (Spc.Bx V3 X G):=⟨blk_below hX.out hb⟩
  have hcs3:=Aside0.mk (blk_below hcs2.out hb)
  clear HB2 HT2 HR2 hX hcs2 hb hTj
  go_upto_region 11 with (fail)
  have HB4:=Aside0.mk (below_alloc HB3.out (.cells #[.int .u64 b0,.bool s0] 24))
  have HT4:=Aside0.mk (blk_alloc HT3.out (.cells #[.int .u64 b0,.bool s0] 24))
  have HR4:=Aside0.mk (blk_alloc HR3.out (.cells #[.int .u64 b0,.bool s0] 24))
  have hX4:=Aside0.mk (blk_alloc hX3.out (.cells #[.int .u64 b0,.bool s0] 24))
  have hcs4:=Aside0.mk (blk_alloc hcs3.out (.cells #[.int .u64 b0,.bool s0] 24))
  have hF4:=Aside0.mk (blk_new V3 (.cells #[.int .u64 b0,.bool s0] 24))
  clear HB3 HT3 HR3 hX3 hcs3
  obtain ⟨W,hW⟩:∃ W,V3.alloc (.cells #[.int .u64 b0,.bool s0] 24)=W:=⟨_,rfl⟩
  rw [hW] at HB4 HT4 HR4 hX4 hcs4 hF4 ⊢
  obtain ⟨fb,hfb⟩:∃ fb,V3.heap.size=fb:=⟨_,rfl⟩
  rw [hfb] at hF4 ⊢
  clear hW hfb
  have f0:W.cell? ⟨fb,0,none⟩=some (.int .u64 b0):=(blk_cell hF4.out 0).trans rfl
  have f1:W.cell? ⟨fb,1,none⟩=some (.bool s0):=(blk_cell hF4.out 1).trans rfl
  have c0:W.cell? ⟨G,0,none⟩=some (.int .u64 0):=(blk_cell HR4.out 0).trans rfl
  have c1:W.cell? ⟨G,1,none⟩=some (.bool false):=(blk_cell HR4.out 1).trans rfl
  have z0:=blk_frozen HR4.out 0
  have z1:=blk_frozen HR4.out 1
  go_region_with (go_at_call 71; refine (Spc.at0 _ G _ (by exact hX4.out)).mono ?_; rintro e w' ⟨rfl,rfl⟩)
  all_goals (go_wp2_with fail; go_meet; refine ⟨?_,Spc.far HT4.out (by omega) _ _ _ _,blk_put (blk_put HR4.out 0 _ rfl) 1 _ rfl,Spc.far hX4.out (by omega) _ _ _ _,Spc.far hcs4.out (by omega) _ _ _ _⟩; repeat (with_reducible first | exact HB4.out | apply below_drew1 | (refine below_set ?_ (by omega))))
 case rest=>
 obtain ⟨HB2,HT2,HR2,hX,hcs2⟩ :=hcut
 clear ix cw hTj
 replace HB2:=Aside0.mk HB2
 replace HT2:=Aside0.mk HT2
 replace HR2:=Aside0.mk HR2
 replace hX:=Aside0.mk hX
 replace hcs2:=Aside0.mk hcs2
 go_wp2_with fail
 refine Fld.genR (fun W=>Below w.heap.size w W∧W.heap[w.heap.size]?=some (.cells #[.int .u64 0,.bool false,.int .u64 0,.bool false,.int .u64 0,.bool false,.int .u64 0,.bool false,.int .u64 0,.bool false] 31 (0,0))∧Spc.Row W G b0 s0 0 false 0 false 0 false 0 false∧Spc.Bx W X G∧W.heap[gs]?=some (.cells cells 9 (0,0))) ⟨HB2.out,HT2.out,HR2.out,hX.out,hcs2.out⟩ ?_
 clear HB2 HT2 HR2 hX hcs2
 rintro W1 ⟨HB2,HT2,HR2,hX,hcs2⟩
 have hTj:=hT.out.keep HB2
 have cw:W1.cell? ⟨gs,1,none⟩=some (.string (Spc.word l 1)):=(blk_cell hcs2 1).trans (hw.out 1 (by decide))
 replace HB2:=Aside0.mk HB2
 replace HT2:=Aside0.mk HT2
 replace HR2:=Aside0.mk HR2
 replace hX:=Aside0.mk hX
 replace hcs2:=Aside0.mk hcs2
 replace hTj:=Aside0.mk hTj
 rw [rounds_succ]
 have ix:=Spc.ix1 X
 go_upto_block 1 with (fail)
 go_cut [] (fun wx=>Below w.heap.size w wx∧wx.heap[w.heap.size]?=some (.cells #[.int .u64 0,.bool false,.int .u64 0,.bool false,.int .u64 0,.bool false,.int .u64 0,.bool false,.int .u64 0,.bool false] 31 (0,0))∧Spc.Row wx G b0 s0 b1 s1 0 false 0 false 0 false∧Spc.Bx wx X G∧wx.heap[gs]?=some (.cells cells 9 (0,0)))
 case first=>
  go_wp2_with fail
  clear ix cw
  refine (field_Parse.calls _ 1 b1 s1 0 _ hTj.out A1.out).mono ?_
  rintro e V4 ⟨rfl,hb⟩
  have HB3:=Aside0.mk (below_step HB2.out hb)
  have HT3:=Aside0.mk (blk_below HT2.out hb)
  have HR3:Aside0 (Spc.Row V4 G b0 s0 0 false 0 false 0 false 0 false):=⟨blk_below HR2.out hb⟩
  have hX3:Aside0 (Spc.Bx V4 X G):=⟨blk_below hX.out hb⟩
  have hcs3:=Aside0.mk (blk_below hcs2.out hb)
  clear HB2 HT2 HR2 hX hcs2 hb hTj
  go_upto_region 11 with (fail)
  have HB4:=Aside0.mk (below_alloc HB3.out (.cells #[.int .u64 b1,.bool s1] 24))
  have HT4:=Aside0.mk (blk_alloc HT3.out (.cells #[.int .u64 b1,.bool s1] 24))
  have HR4:=Aside0.mk (blk_alloc HR3.out (.cells #[.int .u64 b1,.bool s1] 24))
  have hX4:=Aside0.mk (blk_alloc hX3.out (.cells #[.int .u64 b1,.bool s1] 24))
  have hcs4:=Aside0.mk (blk_alloc hcs3.out (.cells #[.int .u64 b1,.bool s1] 24))
  have hF4:=Aside0.mk (blk_new V4 (.cells #[.int .u64 b1,.bool s1] 24))
  clear HB3 HT3 HR3 hX3 hcs3
  obtain ⟨W,hW⟩:∃ W,V4.alloc (.cells #[.int .u64 b1,.bool s1] 24)=W:=⟨_,rfl⟩
  rw [hW] at HB4 HT4 HR4 hX4 hcs4 hF4 ⊢
  obtain ⟨fb,hfb⟩:∃ fb,V4.heap.size=fb:=⟨_,rfl⟩
  rw [hfb] at hF4 ⊢
  clear hW hfb
  have f0:W.cell? ⟨fb,0,none⟩=some (.int .u64 b1):=(blk_cell hF4.out 0).trans rfl
  have f1:W.cell? ⟨fb,1,none⟩=some (.bool s1):=(blk_cell hF4.out 1).trans rfl
  have c0:W.cell? ⟨G,2,none⟩=some (.int .u64 0):=(blk_cell HR4.out 2).trans rfl
  have c1:W.cell? ⟨G,3,none⟩=some (.bool false):=(blk_cell HR4.out 3).trans rfl
  have z0:=blk_frozen HR4.out 2
  have z1:=blk_frozen HR4.out 3
  go_region_with (go_at_call 72; refine (Spc.at1 _ G _ (by exact hX4.out)).mono ?_; rintro e w' ⟨rfl,rfl⟩)
  all_goals (go_wp2_with fail; go_meet; refine ⟨?_,Spc.far HT4.out (by omega) _ _ _ _,blk_put (blk_put HR4.out 2 _ rfl) 3 _ rfl,Spc.far hX4.out (by omega) _ _ _ _,Spc.far hcs4.out (by omega) _ _ _ _⟩; repeat (with_reducible first | exact HB4.out | apply below_drew1 | (refine below_set ?_ (by omega))))
 case rest=>
 obtain ⟨HB2,HT2,HR2,hX,hcs2⟩ :=hcut
 clear ix cw hTj
 replace HB2:=Aside0.mk HB2
 replace HT2:=Aside0.mk HT2
 replace HR2:=Aside0.mk HR2
 replace hX:=Aside0.mk hX
 replace hcs2:=Aside0.mk hcs2
 go_wp2_with fail
 refine Fld.genR (fun W=>Below w.heap.size w W∧W.heap[w.heap.size]?=some (.cells #[.int .u64 0,.bool false,.int .u64 0,.bool false,.int .u64 0,.bool false,.int .u64 0,.bool false,.int .u64 0,.bool false] 31 (0,0))∧Spc.Row W G b0 s0 b1 s1 0 false 0 false 0 false∧Spc.Bx W X G∧W.heap[gs]?=some (.cells cells 9 (0,0))) ⟨HB2.out,HT2.out,HR2.out,hX.out,hcs2.out⟩ ?_
 clear HB2 HT2 HR2 hX hcs2
 rintro W2 ⟨HB2,HT2,HR2,hX,hcs2⟩
 have hTj:=hT.out.keep HB2
 have cw:W2.cell? ⟨gs,2,none⟩=some (.string (Spc.word l 2)):=(blk_cell hcs2 2).trans (hw.out 2 (by decide))
 replace HB2:=Aside0.mk HB2
 replace HT2:=Aside0.mk HT2
 replace HR2:=Aside0.mk HR2
 replace hX:=Aside0.mk hX
 replace hcs2:=Aside0.mk hcs2
 replace hTj:=Aside0.mk hTj
 rw [rounds_succ]
 have ix:=Spc.ix2 X
 go_upto_block 1 with (fail)
 go_cut [] (fun wx=>Below w.heap.size w wx∧wx.heap[w.heap.size]?=some (.cells #[.int .u64 0,.bool false,.int .u64 0,.bool false,.int .u64 0,.bool false,.int .u64 0,.bool false,.int .u64 0,.bool false] 31 (0,0))∧Spc.Row wx G b0 s0 b1 s1 b2 s2 0 false 0 false∧Spc.Bx wx X G∧wx.heap[gs]?=some (.cells cells 9 (0,0)))
 case first=>
  go_wp2_with fail
  clear ix cw
  refine (field_Parse.calls _ 2 b2 s2 0 _ hTj.out A2.out).mono ?_
  rintro e V5 ⟨rfl,hb⟩
  have HB3:=Aside0.mk (below_step HB2.out hb)
  have HT3:=Aside0.mk (blk_below HT2.out hb)
  have HR3:Aside0 (Spc.Row V5 G b0 s0 b1 s1 0 false 0 false 0 false):=⟨blk_below HR2.out hb⟩
  have hX3:Aside0 (Spc.Bx V5 X G):=⟨blk_below hX.out hb⟩
  have hcs3:=Aside0.mk (blk_below hcs2.out hb)
  clear HB2 HT2 HR2 hX hcs2 hb hTj
  go_upto_region 11 with (fail)
  have HB4:=Aside0.mk (below_alloc HB3.out (.cells #[.int .u64 b2,.bool s2] 24))
  have HT4:=Aside0.mk (blk_alloc HT3.out (.cells #[.int .u64 b2,.bool s2] 24))
  have HR4:=Aside0.mk (blk_alloc HR3.out (.cells #[.int .u64 b2,.bool s2] 24))
  have hX4:=Aside0.mk (blk_alloc hX3.out (.cells #[.int .u64 b2,.bool s2] 24))
  have hcs4:=Aside0.mk (blk_alloc hcs3.out (.cells #[.int .u64 b2,.bool s2] 24))
  have hF4:=Aside0.mk (blk_new V5 (.cells #[.int .u64 b2,.bool s2] 24))
  clear HB3 HT3 HR3 hX3 hcs3
  obtain ⟨W,hW⟩:∃ W,V5.alloc (.cells #[.int .u64 b2,.bool s2] 24)=W:=⟨_,rfl⟩
  rw [hW] at HB4 HT4 HR4 hX4 hcs4 hF4 ⊢
  obtain ⟨fb,hfb⟩:∃ fb,V5.heap.size=fb:=⟨_,rfl⟩
  rw [hfb] at hF4 ⊢
  clear hW hfb
  have f0:W.cell? ⟨fb,0,none⟩=some (.int .u64 b2):=(blk_cell hF4.out 0).trans rfl
  have f1:W.cell? ⟨fb,1,none⟩=some (.bool s2):=(blk_cell hF4.out 1).trans rfl
  have c0:W.cell? ⟨G,4,none⟩=some (.int .u64 0):=(blk_cell HR4.out 4).trans rfl
  have c1:W.cell? ⟨G,5,none⟩=some (.bool false):=(blk_cell HR4.out 5).trans rfl
  have z0:=blk_frozen HR4.out 4
  have z1:=blk_frozen HR4.out 5
  go_region_with (go_at_call 73; refine (Spc.at2 _ G _ (by exact hX4.out)).mono ?_; rintro e w' ⟨rfl,rfl⟩)
  all_goals (go_wp2_with fail; go_meet; refine ⟨?_,Spc.far HT4.out (by omega) _ _ _ _,blk_put (blk_put HR4.out 4 _ rfl) 5 _ rfl,Spc.far hX4.out (by omega) _ _ _ _,Spc.far hcs4.out (by omega) _ _ _ _⟩; repeat (with_reducible first | exact HB4.out | apply below_drew1 | (refine below_set ?_ (by omega))))
 case rest=>
 obtain ⟨HB2,HT2,HR2,hX,hcs2⟩ :=hcut
 clear ix cw hTj
 replace HB2:=Aside0.mk HB2
 replace HT2:=Aside0.mk HT2
 replace HR2:=Aside0.mk HR2
 replace hX:=Aside0.mk hX
 replace hcs2:=Aside0.mk hcs2
 go_wp2_with fail
 refine Fld.genR (fun W=>Below w.heap.size w W∧W.heap[w.heap.size]?=some (.cells #[.int .u64 0,.bool false,.int .u64 0,.bool false,.int .u64 0,.bool false,.int .u64 0,.bool false,.int .u64 0,.bool false] 31 (0,0))∧Spc.Row W G b0 s0 b1 s1 b2 s2 0 false 0 false∧Spc.Bx W X G∧W.heap[gs]?=some (.cells cells 9 (0,0))) ⟨HB2.out,HT2.out,HR2.out,hX.out,hcs2.out⟩ ?_
 clear HB2 HT2 HR2 hX hcs2
 rintro W3 ⟨HB2,HT2,HR2,hX,hcs2⟩
 have hTj:=hT.out.keep HB2
 have cw:W3.cell? ⟨gs,3,none⟩=some (.string (Spc.word l 3)):=(blk_cell hcs2 3).trans (hw.out 3 (by decide))
 replace HB2:=Aside0.mk HB2
 replace HT2:=Aside0.mk HT2
 replace HR2:=Aside0.mk HR2
 replace hX:=Aside0.mk hX
 replace hcs2:=Aside0.mk hcs2
 replace hTj:=Aside0.mk hTj
 rw [rounds_succ]
 have ix:=Spc.ix3 X
 go_wp2_with fail
 clear ix cw
 refine (field_Parse.calls _ 3 bx sx E0 _ hTj.out A3.out).mono ?_
 rintro e V6 ⟨rfl,hb⟩
 have HB3:=Aside0.mk (below_step HB2.out hb)
 have HT3:=Aside0.mk (blk_below HT2.out hb)
 have HR3:Aside0 (Spc.Row V6 G b0 s0 b1 s1 b2 s2 0 false 0 false):=⟨blk_below HR2.out hb⟩
 have hX3:Aside0 (Spc.Bx V6 X G):=⟨blk_below hX.out hb⟩
 have hcs3:=Aside0.mk (blk_below hcs2.out hb)
 clear HB2 HT2 HR2 hX hcs2 hb hTj
 have HTc:=HT3.out
 have lt:=blk_lt HTc
 have t0:V6.cell? ⟨w.heap.size,0,none⟩=some (.int .u64 0):=(blk_cell HTc 0).trans rfl
 have t1:V6.cell? ⟨w.heap.size,1,none⟩=some (.bool false):=(blk_cell HTc 1).trans rfl
 have t2:V6.cell? ⟨w.heap.size,2,none⟩=some (.int .u64 0):=(blk_cell HTc 2).trans rfl
 have t3:V6.cell? ⟨w.heap.size,3,none⟩=some (.bool false):=(blk_cell HTc 3).trans rfl
 have t4:V6.cell? ⟨w.heap.size,4,none⟩=some (.int .u64 0):=(blk_cell HTc 4).trans rfl
 have t5:V6.cell? ⟨w.heap.size,5,none⟩=some (.bool false):=(blk_cell HTc 5).trans rfl
 have t6:V6.cell? ⟨w.heap.size,6,none⟩=some (.int .u64 0):=(blk_cell HTc 6).trans rfl
 have t7:V6.cell? ⟨w.heap.size,7,none⟩=some (.bool false):=(blk_cell HTc 7).trans rfl
 have t8:V6.cell? ⟨w.heap.size,8,none⟩=some (.int .u64 0):=(blk_cell HTc 8).trans rfl
 have t9:V6.cell? ⟨w.heap.size,9,none⟩=some (.bool false):=(blk_cell HTc 9).trans rfl
 have zT:∀ j,V6.frozen? ⟨w.heap.size,j,none⟩=false:=fun j=>blk_frozen HTc j
 clear HTc
 go_wp2_with fail
 refine bodyPost_ret (v:=.tuple #[.agg #[.int .u64 0,.bool false,.int .u64 0,.bool false,.int .u64 0,.bool false,.int .u64 0,.bool false,.int .u64 0,.bool false],.int .i64 4,.int .i64 E0]) (by simp [results,Tryz.results18,go_sem, *]) rfl ⟨rfl,?_⟩
 repeat (first | (with_reducible first | exact HB3.out | apply below_alloc | (refine below_set ?_ (by omega))) | exact HB3.out)
set_option maxHeartbeats 8000000 in
set_option maxRecDepth 100000 in
theorem Spc.parse4 (s:ByteArray)(l:List ByteArray)(hf:lex_Fields.f s=some (l,0))(hl:l.length=5)(b0:Int)(s0:Bool)(A0:field_Parse.f (Spc.word l 0) 0=some (b0,s0,0))(b1:Int)(s1:Bool)(A1:field_Parse.f (Spc.word l 1) 1=some (b1,s1,0))(b2:Int)(s2:Bool)(A2:field_Parse.f (Spc.word l 2) 2=some (b2,s2,0))(b3:Int)(s3:Bool)(A3:field_Parse.f (Spc.word l 3) 3=some (b3,s3,0))(bx:Int)(sx:Bool)(E0:Int)(he:E0≠0)(A4:field_Parse.f (Spc.word l 4) 4=some (bx,sx,E0))(w:World)(hT:Tab w):Calls Tryz.prog 18 #[.string s] w fun e w'=>e=.returned (.tuple #[.agg #[.int .u64 0,.bool false,.int .u64 0,.bool false,.int .u64 0,.bool false,.int .u64 0,.bool false,.int .u64 0,.bool false],.int .i64 5,.int .i64 E0])∧Below w.heap.size w w':=by
 have q1:(E0 == 0)=false:=by simpa using he
 have q2:(E0 != 0)=true:=by simpa using he
 replace he:=Lib.hid he
 replace A0:=Lib.hid A0
 replace A1:=Lib.hid A1
 replace A2:=Lib.hid A2
 replace A3:=Lib.hid A3
 replace A4:=Lib.hid A4
 replace hf:=Lib.hid hf
 have HT:=Aside0.mk (blk_new w (.cells #[.int .u64 0,.bool false,.int .u64 0,.bool false,.int .u64 0,.bool false,.int .u64 0,.bool false,.int .u64 0,.bool false] 31))
 have HB:=Aside0.mk (below_alloc (Below.refl _ _) (.cells #[.int .u64 0,.bool false,.int .u64 0,.bool false,.int .u64 0,.bool false,.int .u64 0,.bool false,.int .u64 0,.bool false] 31) (w:=w))
 replace hl:=Lib.hid hl
 replace hT:=Aside0.mk hT
 go_enter Tryz.func18,Tryz.ntmps18
 go_wp2_with fail
 refine (lex_Fields.calls _ _ _ _ hf.out).mono ?_
 rintro e V ⟨v0,rfl,hR,hb⟩
 obtain ⟨gs,cap,rfl,hgb,hgl,cells,hcs⟩ :=Kd.R_form hR (by rw [hl.out]; decide)
 have hw:∀ k:Nat,k < 5→cells[k]?=some (.string (Spc.word l k)):=by
  intro k hk
  have h1:=(Kd.R_cell (d:=(⟨#[]⟩:ByteArray)) hR (k:Int) (by omega) (by rw [hl.out]; omega)).1
  rw [Int.toNat_natCast] at h1
  have h2:=(blk_cell hcs k).symm.trans h1
  rw [h2]
  congr 2
 rw [hl.out]
 have HB2:=below_step HB.out hb
 have HT2:=blk_below HT.out hb
 have hgb':w.heap.size+1≤gs:=by simpa using hgb
 clear HB HT hb hR hgb
 have HB3:=Aside0.mk (below_alloc HB2 (.cells #[.int .u64 0,.bool false,.int .u64 0,.bool false,.int .u64 0,.bool false,.int .u64 0,.bool false,.int .u64 0,.bool false] 31))
 have HT3:=Aside0.mk (blk_alloc HT2 (.cells #[.int .u64 0,.bool false,.int .u64 0,.bool false,.int .u64 0,.bool false,.int .u64 0,.bool false,.int .u64 0,.bool false] 31))
 have HR3:Spc.Row (V.alloc (.cells #[.int .u64 0,.bool false,.int .u64 0,.bool false,.int .u64 0,.bool false,.int .u64 0,.bool false,.int .u64 0,.bool false] 31)) V.heap.size 0 false 0 false 0 false 0 false 0 false:=blk_new V _
 replace HR3:=Aside0.mk HR3
 have hcs3:=Aside0.mk (blk_alloc hcs (.cells #[.int .u64 0,.bool false,.int .u64 0,.bool false,.int .u64 0,.bool false,.int .u64 0,.bool false,.int .u64 0,.bool false] 31))
 have hzV:=HB2.size
 clear HB2 HT2 hcs
 obtain ⟨G,hG⟩:∃ G,V.heap.size=G:=⟨_,rfl⟩
 replace hw:=Lib.hid hw
 go_wp2_with fail
 rw [hG] at HR3 hgl hzV
 refine (Spc.fields_calls _ _).mono ?_
 rintro e V2 ⟨rfl,hX,hb⟩
 obtain ⟨X,hX0⟩:∃ X,(V.alloc (.cells #[.int .u64 0,.bool false,.int .u64 0,.bool false,.int .u64 0,.bool false,.int .u64 0,.bool false,.int .u64 0,.bool false] 31)).heap.size=X:=⟨_,rfl⟩
 have hXn:X=G+1:=by rw [← hX0,← hG]; simp
 rw [hX0] at hX ⊢
 have HB2:=below_step HB3.out hb
 have HT2:=blk_below HT3.out hb
 have HR2:Spc.Row V2 G 0 false 0 false 0 false 0 false 0 false:=blk_below HR3.out hb
 have hcs2:=blk_below hcs3.out hb
 clear HB3 HT3 HR3 hcs3 hb hX0
 have hGw:w.heap.size < G:=by omega
 have hXG:G < X:=by omega
 clear hXn hzV hG
 replace HB2:=Aside0.mk HB2
 replace HT2:=Aside0.mk HT2
 replace HR2:=Aside0.mk HR2
 replace hX:=Aside0.mk hX
 replace hcs2:=Aside0.mk hcs2
 go_wp2_with fail
 refine wp_loop_rounds 5 ?_
 refine Fld.genR (fun W=>Below w.heap.size w W∧W.heap[w.heap.size]?=some (.cells #[.int .u64 0,.bool false,.int .u64 0,.bool false,.int .u64 0,.bool false,.int .u64 0,.bool false,.int .u64 0,.bool false] 31 (0,0))∧Spc.Row W G 0 false 0 false 0 false 0 false 0 false∧Spc.Bx W X G∧W.heap[gs]?=some (.cells cells 9 (0,0))) ⟨HB2.out,HT2.out,HR2.out,hX.out,hcs2.out⟩ ?_
 clear HB2 HT2 HR2 hX hcs2
 rintro W0 ⟨HB2,HT2,HR2,hX,hcs2⟩
 have hTj:=hT.out.keep HB2
 have cw:W0.cell? ⟨gs,0,none⟩=some (.string (Spc.word l 0)):=(blk_cell hcs2 0).trans (hw.out 0 (by decide))
 replace HB2:=Aside0.mk HB2
 replace HT2:=Aside0.mk HT2
 replace HR2:=Aside0.mk HR2
 replace hX:=Aside0.mk hX
 replace hcs2:=Aside0.mk hcs2
 replace hTj:=Aside0.mk hTj
 rw [rounds_succ]
 have ix:=Spc.ix0 X
 go_upto_block 1 with (fail)
 go_cut [] (fun wx=>Below w.heap.size w wx∧wx.heap[w.heap.size]?=some (.cells #[.int .u64 0,.bool false,.int .u64 0,.bool false,.int .u64 0,.bool false,.int .u64 0,.bool false,.int .u64 0,.bool false] 31 (0,0))∧Spc.Row wx G b0 s0 0 false 0 false 0 false 0 false∧Spc.Bx wx X G∧wx.heap[gs]?=some (.cells cells 9 (0,0)))
 case first=>
  go_wp2_with fail
  clear ix cw
  refine (field_Parse.calls _ 0 b0 s0 0 _ hTj.out A0.out).mono ?_
  rintro e V3 ⟨rfl,hb⟩
  have HB3:=Aside0.mk (below_step HB2.out hb)
  have HT3:=Aside0.mk (blk_below HT2.out hb)
  have HR3:Aside0 (Spc.Row V3 G 0 false 0 false 0 false 0 false 0 false):=⟨blk_below HR2.out hb⟩
  have hX3:Aside0 (Spc.Bx V3 X G):=⟨blk_below hX.out hb⟩
  have hcs3:=Aside0.mk (blk_below hcs2.out hb)
  clear HB2 HT2 HR2 hX hcs2 hb hTj
  go_upto_region 11 with (fail)
  have HB4:=Aside0.mk (below_alloc HB3.out (.cells #[.int .u64 b0,.bool s0] 24))
  have HT4:=Aside0.mk (blk_alloc HT3.out (.cells #[.int .u64 b0,.bool s0] 24))
  have HR4:=Aside0.mk (blk_alloc HR3.out (.cells #[.int .u64 b0,.bool s0] 24))
  have hX4:=Aside0.mk (blk_alloc hX3.out (.cells #[.int .u64 b0,.bool s0] 24))
  have hcs4:=Aside0.mk (blk_alloc hcs3.out (.cells #[.int .u64 b0,.bool s0] 24))
  have hF4:=Aside0.mk (blk_new V3 (.cells #[.int .u64 b0,.bool s0] 24))
  clear HB3 HT3 HR3 hX3 hcs3
  obtain ⟨W,hW⟩:∃ W,V3.alloc (.cells #[.int .u64 b0,.bool s0] 24)=W:=⟨_,rfl⟩
  rw [hW] at HB4 HT4 HR4 hX4 hcs4 hF4 ⊢
  obtain ⟨fb,hfb⟩:∃ fb,V3.heap.size=fb:=⟨_,rfl⟩
  rw [hfb] at hF4 ⊢
  clear hW hfb
  have f0:W.cell? ⟨fb,0,none⟩=some (.int .u64 b0):=(blk_cell hF4.out 0).trans rfl
  have f1:W.cell? ⟨fb,1,none⟩=some (.bool s0):=(blk_cell hF4.out 1).trans rfl
  have c0:W.cell? ⟨G,0,none⟩=some (.int .u64 0):=(blk_cell HR4.out 0).trans rfl
  have c1:W.cell? ⟨G,1,none⟩=some (.bool false):=(blk_cell HR4.out 1).trans rfl
  have z0:=blk_frozen HR4.out 0
  have z1:=blk_frozen HR4.out 1
  go_region_with (go_at_call 71; refine (Spc.at0 _ G _ (by exact hX4.out)).mono ?_; rintro e w' ⟨rfl,rfl⟩)
  all_goals (go_wp2_with fail; go_meet; refine ⟨?_,Spc.far HT4.out (by omega) _ _ _ _,blk_put (blk_put HR4.out 0 _ rfl) 1 _ rfl,Spc.far hX4.out (by omega) _ _ _ _,Spc.far hcs4.out (by omega) _ _ _ _⟩; repeat (with_reducible first | exact HB4.out | apply below_drew1 | (refine below_set ?_ (by omega))))
 case rest=>
 obtain ⟨HB2,HT2,HR2,hX,hcs2⟩ :=hcut
 clear ix cw hTj
 replace HB2:=Aside0.mk HB2
 replace HT2:=Aside0.mk HT2
 replace HR2:=Aside0.mk HR2
 replace hX:=Aside0.mk hX
 replace hcs2:=Aside0.mk hcs2
 go_wp2_with fail
 refine Fld.genR (fun W=>Below w.heap.size w W∧W.heap[w.heap.size]?=some (.cells #[.int .u64 0,.bool false,.int .u64 0,.bool false,.int .u64 0,.bool false,.int .u64 0,.bool false,.int .u64 0,.bool false] 31 (0,0))∧Spc.Row W G b0 s0 0 false 0 false 0 false 0 false∧Spc.Bx W X G∧W.heap[gs]?=some (.cells cells 9 (0,0))) ⟨HB2.out,HT2.out,HR2.out,hX.out,hcs2.out⟩ ?_
 clear HB2 HT2 HR2 hX hcs2
 rintro W1 ⟨HB2,HT2,HR2,hX,hcs2⟩
 have hTj:=hT.out.keep HB2
 have cw:W1.cell? ⟨gs,1,none⟩=some (.string (Spc.word l 1)):=(blk_cell hcs2 1).trans (hw.out 1 (by decide))
 replace HB2:=Aside0.mk HB2
 replace HT2:=Aside0.mk HT2
 replace HR2:=Aside0.mk HR2
 replace hX:=Aside0.mk hX
 replace hcs2:=Aside0.mk hcs2
 replace hTj:=Aside0.mk hTj
 rw [rounds_succ]
 have ix:=Spc.ix1 X
 go_upto_block 1 with (fail)
 go_cut [] (fun wx=>Below w.heap.size w wx∧wx.heap[w.heap.size]?=some (.cells #[.int .u64 0,.bool false,.int .u64 0,.bool false,.int .u64 0,.bool false,.int .u64 0,.bool false,.int .u64 0,.bool false] 31 (0,0))∧Spc.Row wx G b0 s0 b1 s1 0 false 0 false 0 false∧Spc.Bx wx X G∧wx.heap[gs]?=some (.cells cells 9 (0,0)))
 case first=>
  go_wp2_with fail
  clear ix cw
  refine (field_Parse.calls _ 1 b1 s1 0 _ hTj.out A1.out).mono ?_
  rintro e V4 ⟨rfl,hb⟩
  have HB3:=Aside0.mk (below_step HB2.out hb)
  have HT3:=Aside0.mk (blk_below HT2.out hb)
  have HR3:Aside0 (Spc.Row V4 G b0 s0 0 false 0 false 0 false 0 false):=⟨blk_below HR2.out hb⟩
  have hX3:Aside0 (Spc.Bx V4 X G):=⟨blk_below hX.out hb⟩
  have hcs3:=Aside0.mk (blk_below hcs2.out hb)
  clear HB2 HT2 HR2 hX hcs2 hb hTj
  go_upto_region 11 with (fail)
  have HB4:=Aside0.mk (below_alloc HB3.out (.cells #[.int .u64 b1,.bool s1] 24))
  have HT4:=Aside0.mk (blk_alloc HT3.out (.cells #[.int .u64 b1,.bool s1] 24))
  have HR4:=Aside0.mk (blk_alloc HR3.out (.cells #[.int .u64 b1,.bool s1] 24))
  have hX4:=Aside0.mk (blk_alloc hX3.out (.cells #[.int .u64 b1,.bool s1] 24))
  have hcs4:=Aside0.mk (blk_alloc hcs3.out (.cells #[.int .u64 b1,.bool s1] 24))
  have hF4:=Aside0.mk (blk_new V4 (.cells #[.int .u64 b1,.bool s1] 24))
  clear HB3 HT3 HR3 hX3 hcs3
  obtain ⟨W,hW⟩:∃ W,V4.alloc (.cells #[.int .u64 b1,.bool s1] 24)=W:=⟨_,rfl⟩
  rw [hW] at HB4 HT4 HR4 hX4 hcs4 hF4 ⊢
  obtain ⟨fb,hfb⟩:∃ fb,V4.heap.size=fb:=⟨_,rfl⟩
  rw [hfb] at hF4 ⊢
  clear hW hfb
  have f0:W.cell? ⟨fb,0,none⟩=some (.int .u64 b1):=(blk_cell hF4.out 0).trans rfl
  have f1:W.cell? ⟨fb,1,none⟩=some (.bool s1):=(blk_cell hF4.out 1).trans rfl
  have c0:W.cell? ⟨G,2,none⟩=some (.int .u64 0):=(blk_cell HR4.out 2).trans rfl
  have c1:W.cell? ⟨G,3,none⟩=some (.bool false):=(blk_cell HR4.out 3).trans rfl
  have z0:=blk_frozen HR4.out 2
  have z1:=blk_frozen HR4.out 3
  go_region_with (go_at_call 72; refine (Spc.at1 _ G _ (by exact hX4.out)).mono ?_; rintro e w' ⟨rfl,rfl⟩)
  all_goals (go_wp2_with fail; go_meet; refine ⟨?_,Spc.far HT4.out (by omega) _ _ _ _,blk_put (blk_put HR4.out 2 _ rfl) 3 _ rfl,Spc.far hX4.out (by omega) _ _ _ _,Spc.far hcs4.out (by omega) _ _ _ _⟩; repeat (with_reducible first | exact HB4.out | apply below_drew1 | (refine below_set ?_ (by omega))))
 case rest=>
 obtain ⟨HB2,HT2,HR2,hX,hcs2⟩ :=hcut
 clear ix cw hTj
 replace HB2:=Aside0.mk HB2
 replace HT2:=Aside0.mk HT2
 replace HR2:=Aside0.mk HR2
 replace hX:=Aside0.mk hX
 replace hcs2:=Aside0.mk hcs2
 go_wp2_with fail
 refine Fld.genR (fun W=>Below w.heap.size w W∧W.heap[w.heap.size]?=some (.cells #[.int .u64 0,.bool false,.int .u64 0,.bool false,.int .u64 0,.bool false,.int .u64 0,.bool false,.int .u64 0,.bool false] 31 (0,0))∧Spc.Row W G b0 s0 b1 s1 0 false 0 false 0 false∧Spc.Bx W X G∧W.heap[gs]?=some (.cells cells 9 (0,0))) ⟨HB2.out,HT2.out,HR2.out,hX.out,hcs2.out⟩ ?_
 clear HB2 HT2 HR2 hX hcs2
 rintro W2 ⟨HB2,HT2,HR2,hX,hcs2⟩
 have hTj:=hT.out.keep HB2
 have cw:W2.cell? ⟨gs,2,none⟩=some (.string (Spc.word l 2)):=(blk_cell hcs2 2).trans (hw.out 2 (by decide))
 replace HB2:=Aside0.mk HB2
 replace HT2:=Aside0.mk HT2
 replace HR2:=Aside0.mk HR2
 replace hX:=Aside0.mk hX
 replace hcs2:=Aside0.mk hcs2
 replace hTj:=Aside0.mk hTj
 rw [rounds_succ]
 have ix:=Spc.ix2 X
 go_upto_block 1 with (fail)
 go_cut [] (fun wx=>Below w.heap.size w wx∧wx.heap[w.heap.size]?=some (.cells #[.int .u64 0,.bool false,.int .u64 0,.bool false,.int .u64 0,.bool false,.int .u64 0,.bool false,.int .u64 0,.bool false] 31 (0,0))∧Spc.Row wx G b0 s0 b1 s1 b2 s2 0 false 0 false∧Spc.Bx wx X G∧wx.heap[gs]?=some (.cells cells 9 (0,0)))
 case first=>
  go_wp2_with fail
  clear ix cw
  refine (field_Parse.calls _ 2 b2 s2 0 _ hTj.out A2.out).mono ?_
  rintro e V5 ⟨rfl,hb⟩
  have HB3:=Aside0.mk (below_step HB2.out hb)
  have HT3:=Aside0.mk (blk_below HT2.out hb)
  have HR3:Aside0 (Spc.Row V5 G b0 s0 b1 s1 0 false 0 false 0 false):=⟨blk_below HR2.out hb⟩
  have hX3:Aside0 (Spc.Bx V5 X G):=⟨blk_below hX.out hb⟩
  have hcs3:=Aside0.mk (blk_below hcs2.out hb)
  clear HB2 HT2 HR2 hX hcs2 hb hTj
  go_upto_region 11 with (fail)
  have HB4:=Aside0.mk (below_alloc HB3.out (.cells #[.int .u64 b2,.bool s2] 24))
  have HT4:=Aside0.mk (blk_alloc HT3.out (.cells #[.int .u64 b2,.bool s2] 24))
  have HR4:=Aside0.mk (blk_alloc HR3.out (.cells #[.int .u64 b2,.bool s2] 24))
  have hX4:=Aside0.mk (blk_alloc hX3.out (.cells #[.int .u64 b2,.bool s2] 24))
  have hcs4:=Aside0.mk (blk_alloc hcs3.out (.cells #[.int .u64 b2,.bool s2] 24))
  have hF4:=Aside0.mk (blk_new V5 (.cells #[.int .u64 b2,.bool s2] 24))
  clear HB3 HT3 HR3 hX3 hcs3
  obtain ⟨W,hW⟩:∃ W,V5.alloc (.cells #[.int .u64 b2,.bool s2] 24)=W:=⟨_,rfl⟩
  rw [hW] at HB4 HT4 HR4 hX4 hcs4 hF4 ⊢
  obtain ⟨fb,hfb⟩:∃ fb,V5.heap.size=fb:=⟨_,rfl⟩
  rw [hfb] at hF4 ⊢
  clear hW hfb
  have f0:W.cell? ⟨fb,0,none⟩=some (.int .u64 b2):=(blk_cell hF4.out 0).trans rfl
  have f1:W.cell? ⟨fb,1,none⟩=some (.bool s2):=(blk_cell hF4.out 1).trans rfl
  have c0:W.cell? ⟨G,4,none⟩=some (.int .u64 0):=(blk_cell HR4.out 4).trans rfl
  have c1:W.cell? ⟨G,5,none⟩=some (.bool false):=(blk_cell HR4.out 5).trans rfl
  have z0:=blk_frozen HR4.out 4
  have z1:=blk_frozen HR4.out 5
  go_region_with (go_at_call 73; refine (Spc.at2 _ G _ (by exact hX4.out)).mono ?_; rintro e w' ⟨rfl,rfl⟩)
  all_goals (go_wp2_with fail; go_meet; refine ⟨?_,Spc.far HT4.out (by omega) _ _ _ _,blk_put (blk_put HR4.out 4 _ rfl) 5 _ rfl,Spc.far hX4.out (by omega) _ _ _ _,Spc.far hcs4.out (by omega) _ _ _ _⟩; repeat (with_reducible first | exact HB4.out | apply below_drew1 | (refine below_set ?_ (by omega))))
 case rest=>
 obtain ⟨HB2,HT2,HR2,hX,hcs2⟩ :=hcut
 clear ix cw hTj
 replace HB2:=Aside0.mk HB2
 replace HT2:=Aside0.mk HT2
 replace HR2:=Aside0.mk HR2
 replace hX:=Aside0.mk hX
 replace hcs2:=Aside0.mk hcs2
 go_wp2_with fail
 refine Fld.genR (fun W=>Below w.heap.size w W∧W.heap[w.heap.size]?=some (.cells #[.int .u64 0,.bool false,.int .u64 0,.bool false,.int .u64 0,.bool false,.int .u64 0,.bool false,.int .u64 0,.bool false] 31 (0,0))∧Spc.Row W G b0 s0 b1 s1 b2 s2 0 false 0 false∧Spc.Bx W X G∧W.heap[gs]?=some (.cells cells 9 (0,0))) ⟨HB2.out,HT2.out,HR2.out,hX.out,hcs2.out⟩ ?_
 clear HB2 HT2 HR2 hX hcs2
 rintro W3 ⟨HB2,HT2,HR2,hX,hcs2⟩
 have hTj:=hT.out.keep HB2
 have cw:W3.cell? ⟨gs,3,none⟩=some (.string (Spc.word l 3)):=(blk_cell hcs2 3).trans (hw.out 3 (by decide))
 replace HB2:=Aside0.mk HB2
 replace HT2:=Aside0.mk HT2
 replace HR2:=Aside0.mk HR2
 replace hX:=Aside0.mk hX
 replace hcs2:=Aside0.mk hcs2
 replace hTj:=Aside0.mk hTj
 rw [rounds_succ]
 have ix:=Spc.ix3 X
 go_upto_block 1 with (fail)
 go_cut [] (fun wx=>Below w.heap.size w wx∧wx.heap[w.heap.size]?=some (.cells #[.int .u64 0,.bool false,.int .u64 0,.bool false,.int .u64 0,.bool false,.int .u64 0,.bool false,.int .u64 0,.bool false] 31 (0,0))∧Spc.Row wx G b0 s0 b1 s1 b2 s2 b3 s3 0 false∧Spc.Bx wx X G∧wx.heap[gs]?=some (.cells cells 9 (0,0)))
 case first=>
  go_wp2_with fail
  clear ix cw
  refine (field_Parse.calls _ 3 b3 s3 0 _ hTj.out A3.out).mono ?_
  rintro e V6 ⟨rfl,hb⟩
  have HB3:=Aside0.mk (below_step HB2.out hb)
  have HT3:=Aside0.mk (blk_below HT2.out hb)
  have HR3:Aside0 (Spc.Row V6 G b0 s0 b1 s1 b2 s2 0 false 0 false):=⟨blk_below HR2.out hb⟩
  have hX3:Aside0 (Spc.Bx V6 X G):=⟨blk_below hX.out hb⟩
  have hcs3:=Aside0.mk (blk_below hcs2.out hb)
  clear HB2 HT2 HR2 hX hcs2 hb hTj
  go_upto_region 11 with (fail)
  have HB4:=Aside0.mk (below_alloc HB3.out (.cells #[.int .u64 b3,.bool s3] 24))
  have HT4:=Aside0.mk (blk_alloc HT3.out (.cells #[.int .u64 b3,.bool s3] 24))
  have HR4:=Aside0.mk (blk_alloc HR3.out (.cells #[.int .u64 b3,.bool s3] 24))
  have hX4:=Aside0.mk (blk_alloc hX3.out (.cells #[.int .u64 b3,.bool s3] 24))
  have hcs4:=Aside0.mk (blk_alloc hcs3.out (.cells #[.int .u64 b3,.bool s3] 24))
  have hF4:=Aside0.mk (blk_new V6 (.cells #[.int .u64 b3,.bool s3] 24))
  clear HB3 HT3 HR3 hX3 hcs3
  obtain ⟨W,hW⟩:∃ W,V6.alloc (.cells #[.int .u64 b3,.bool s3] 24)=W:=⟨_,rfl⟩
  rw [hW] at HB4 HT4 HR4 hX4 hcs4 hF4 ⊢
  obtain ⟨fb,hfb⟩:∃ fb,V6.heap.size=fb:=⟨_,rfl⟩
  rw [hfb] at hF4 ⊢
  clear hW hfb
  have f0:W.cell? ⟨fb,0,none⟩=some (.int .u64 b3):=(blk_cell hF4.out 0).trans rfl
  have f1:W.cell? ⟨fb,1,none⟩=some (.bool s3):=(blk_cell hF4.out 1).trans rfl
  have c0:W.cell? ⟨G,6,none⟩=some (.int .u64 0):=(blk_cell HR4.out 6).trans rfl
  have c1:W.cell? ⟨G,7,none⟩=some (.bool false):=(blk_cell HR4.out 7).trans rfl
  have z0:=blk_frozen HR4.out 6
  have z1:=blk_frozen HR4.out 7
  go_region_with (go_at_call 74; refine (Spc.at3 _ G _ (by exact hX4.out)).mono ?_; rintro e w' ⟨rfl,rfl⟩)
  all_goals (go_wp2_with fail; go_meet; refine ⟨?_,Spc.far HT4.out (by omega) _ _ _ _,blk_put (blk_put HR4.out 6 _ rfl) 7 _ rfl,Spc.far hX4.out (by omega) _ _ _ _,Spc.far hcs4.out (by omega) _ _ _ _⟩; repeat (with_reducible first | exact HB4.out | apply below_drew1 | (refine below_set ?_ (by omega))))
 case rest=>
 obtain ⟨HB2,HT2,HR2,hX,hcs2⟩ :=hcut
 clear ix cw hTj
 replace HB2:=Aside0.mk HB2
 replace HT2:=Aside0.mk HT2
 replace HR2:=Aside0.mk HR2
 replace hX:=Aside0.mk hX
 replace hcs2:=Aside0.mk hcs2
 go_wp2_with fail
 refine Fld.genR (fun W=>Below w.heap.size w W∧W.heap[w.heap.size]?=some (.cells #[.int .u64 0,.bool false,.int .u64 0,.bool false,.int .u64 0,.bool false,.int .u64 0,.bool false,.int .u64 0,.bool false] 31 (0,0))∧Spc.Row W G b0 s0 b1 s1 b2 s2 b3 s3 0 false∧Spc.Bx W X G∧W.heap[gs]?=some (.cells cells 9 (0,0))) ⟨HB2.out,HT2.out,HR2.out,hX.out,hcs2.out⟩ ?_
 clear HB2 HT2 HR2 hX hcs2
 rintro W4 ⟨HB2,HT2,HR2,hX,hcs2⟩
 have hTj:=hT.out.keep HB2
 have cw:W4.cell? ⟨gs,4,none⟩=some (.string (Spc.word l 4)):=(blk_cell hcs2 4).trans (hw.out 4 (by decide))
 replace HB2:=Aside0.mk HB2
 replace HT2:=Aside0.mk HT2
 replace HR2:=Aside0.mk HR2
 replace hX:=Aside0.mk hX
 replace hcs2:=Aside0.mk hcs2
 replace hTj:=Aside0.mk hTj
 rw [rounds_succ]
 have ix:=Spc.ix4 X
 go_wp2_with fail
 clear ix cw
 refine (field_Parse.calls _ 4 bx sx E0 _ hTj.out A4.out).mono ?_
 rintro e V7 ⟨rfl,hb⟩
 have HB3:=Aside0.mk (below_step HB2.out hb)
 have HT3:=Aside0.mk (blk_below HT2.out hb)
 have HR3:Aside0 (Spc.Row V7 G b0 s0 b1 s1 b2 s2 b3 s3 0 false):=⟨blk_below HR2.out hb⟩
 have hX3:Aside0 (Spc.Bx V7 X G):=⟨blk_below hX.out hb⟩
 have hcs3:=Aside0.mk (blk_below hcs2.out hb)
 clear HB2 HT2 HR2 hX hcs2 hb hTj
 have HTc:=HT3.out
 have lt:=blk_lt HTc
 have t0:V7.cell? ⟨w.heap.size,0,none⟩=some (.int .u64 0):=(blk_cell HTc 0).trans rfl
 have t1:V7.cell? ⟨w.heap.size,1,none⟩=some (.bool false):=(blk_cell HTc 1).trans rfl
 have t2:V7.cell? ⟨w.heap.size,2,none⟩=some (.int .u64 0):=(blk_cell HTc 2).trans rfl
 have t3:V7.cell? ⟨w.heap.size,3,none⟩=some (.bool false):=(blk_cell HTc 3).trans rfl
 have t4:V7.cell? ⟨w.heap.size,4,none⟩=some (.int .u64 0):=(blk_cell HTc 4).trans rfl
 have t5:V7.cell? ⟨w.heap.size,5,none⟩=some (.bool false):=(blk_cell HTc 5).trans rfl
 have t6:V7.cell? ⟨w.heap.size,6,none⟩=some (.int .u64 0):=(blk_cell HTc 6).trans rfl
 have t7:V7.cell? ⟨w.heap.size,7,none⟩=some (.bool false):=(blk_cell HTc 7).trans rfl
 have t8:V7.cell? ⟨w.heap.size,8,none⟩=some (.int .u64 0):=(blk_cell HTc 8).trans rfl
 have t9:V7.cell? ⟨w.heap.size,9,none⟩=some (.bool false):=(blk_cell HTc 9).trans rfl
 have zT:∀ j,V7.frozen? ⟨w.heap.size,j,none⟩=false:=fun j=>blk_frozen HTc j
 clear HTc
 go_wp2_with fail
 refine bodyPost_ret (v:=.tuple #[.agg #[.int .u64 0,.bool false,.int .u64 0,.bool false,.int .u64 0,.bool false,.int .u64 0,.bool false,.int .u64 0,.bool false],.int .i64 5,.int .i64 E0]) (by simp [results,Tryz.results18,go_sem, *]) rfl ⟨rfl,?_⟩
 repeat (first | (with_reducible first | exact HB3.out | apply below_alloc | (refine below_set ?_ (by omega))) | exact HB3.out)
set_option maxHeartbeats 8000000 in
set_option maxRecDepth 100000 in
theorem Spc.parse5 (s:ByteArray)(l:List ByteArray)(hf:lex_Fields.f s=some (l,0))(hl:l.length=5)(b0:Int)(s0:Bool)(A0:field_Parse.f (Spc.word l 0) 0=some (b0,s0,0))(b1:Int)(s1:Bool)(A1:field_Parse.f (Spc.word l 1) 1=some (b1,s1,0))(b2:Int)(s2:Bool)(A2:field_Parse.f (Spc.word l 2) 2=some (b2,s2,0))(b3:Int)(s3:Bool)(A3:field_Parse.f (Spc.word l 3) 3=some (b3,s3,0))(b4:Int)(s4:Bool)(A4:field_Parse.f (Spc.word l 4) 4=some (b4,s4,0))(w:World)(hT:Tab w):Calls Tryz.prog 18 #[.string s] w fun e w'=>e=.returned (.tuple #[.agg #[.int .u64 b0,.bool s0,.int .u64 b1,.bool s1,.int .u64 b2,.bool s2,.int .u64 b3,.bool s3,.int .u64 b4,.bool s4],.int .i64 0,.int .i64 0])∧Below w.heap.size w w':=by
 replace A0:=Lib.hid A0
 replace A1:=Lib.hid A1
 replace A2:=Lib.hid A2
 replace A3:=Lib.hid A3
 replace A4:=Lib.hid A4
 replace hf:=Lib.hid hf
 have HT:=Aside0.mk (blk_new w (.cells #[.int .u64 0,.bool false,.int .u64 0,.bool false,.int .u64 0,.bool false,.int .u64 0,.bool false,.int .u64 0,.bool false] 31))
 have HB:=Aside0.mk (below_alloc (Below.refl _ _) (.cells #[.int .u64 0,.bool false,.int .u64 0,.bool false,.int .u64 0,.bool false,.int .u64 0,.bool false,.int .u64 0,.bool false] 31) (w:=w))
 replace hl:=Lib.hid hl
 replace hT:=Aside0.mk hT
 go_enter Tryz.func18,Tryz.ntmps18
 go_wp2_with fail
 refine (lex_Fields.calls _ _ _ _ hf.out).mono ?_
 rintro e V ⟨v0,rfl,hR,hb⟩
 obtain ⟨gs,cap,rfl,hgb,hgl,cells,hcs⟩ :=Kd.R_form hR (by rw [hl.out]; decide)
 have hw:∀ k:Nat,k < 5→cells[k]?=some (.string (Spc.word l k)):=by
  intro k hk
  have h1:=(Kd.R_cell (d:=(⟨#[]⟩:ByteArray)) hR (k:Int) (by omega) (by rw [hl.out]; omega)).1
  rw [Int.toNat_natCast] at h1
  have h2:=(blk_cell hcs k).symm.trans h1
  rw [h2]
  congr 2
 rw [hl.out]
 have HB2:=below_step HB.out hb
 have HT2:=blk_below HT.out hb
 have hgb':w.heap.size+1≤gs:=by simpa using hgb
 clear HB HT hb hR hgb
 have HB3:=Aside0.mk (below_alloc HB2 (.cells #[.int .u64 0,.bool false,.int .u64 0,.bool false,.int .u64 0,.bool false,.int .u64 0,.bool false,.int .u64 0,.bool false] 31))
 have HT3:=Aside0.mk (blk_alloc HT2 (.cells #[.int .u64 0,.bool false,.int .u64 0,.bool false,.int .u64 0,.bool false,.int .u64 0,.bool false,.int .u64 0,.bool false] 31))
 have HR3:Spc.Row (V.alloc (.cells #[.int .u64 0,.bool false,.int .u64 0,.bool false,.int .u64 0,.bool false,.int .u64 0,.bool false,.int .u64 0,.bool false] 31)) V.heap.size 0 false 0 false 0 false 0 false 0 false:=blk_new V _
 replace HR3:=Aside0.mk HR3
 have hcs3:=Aside0.mk (blk_alloc hcs (.cells #[.int .u64 0,.bool false,.int .u64 0,.bool false,.int .u64 0,.bool false,.int .u64 0,.bool false,.int .u64 0,.bool false] 31))
 have hzV:=HB2.size
 clear HB2 HT2 hcs
 obtain ⟨G,hG⟩:∃ G,V.heap.size=G:=⟨_,rfl⟩
 replace hw:=Lib.hid hw
 go_wp2_with fail
 rw [hG] at HR3 hgl hzV
 refine (Spc.fields_calls _ _).mono ?_
 rintro e V2 ⟨rfl,hX,hb⟩
 obtain ⟨X,hX0⟩:∃ X,(V.alloc (.cells #[.int .u64 0,.bool false,.int .u64 0,.bool false,.int .u64 0,.bool false,.int .u64 0,.bool false,.int .u64 0,.bool false] 31)).heap.size=X:=⟨_,rfl⟩
 have hXn:X=G+1:=by rw [← hX0,← hG]; simp
 rw [hX0] at hX ⊢
 have HB2:=below_step HB3.out hb
 have HT2:=blk_below HT3.out hb
 have HR2:Spc.Row V2 G 0 false 0 false 0 false 0 false 0 false:=blk_below HR3.out hb
 have hcs2:=blk_below hcs3.out hb
 clear HB3 HT3 HR3 hcs3 hb hX0
 have hGw:w.heap.size < G:=by omega
 have hXG:G < X:=by omega
 clear hXn hzV hG
 replace HB2:=Aside0.mk HB2
 replace HT2:=Aside0.mk HT2
 replace HR2:=Aside0.mk HR2
 replace hX:=Aside0.mk hX
 replace hcs2:=Aside0.mk hcs2
 go_wp2_with fail
 refine wp_loop_rounds 6 ?_
 refine Fld.genR (fun W=>Below w.heap.size w W∧W.heap[w.heap.size]?=some (.cells #[.int .u64 0,.bool false,.int .u64 0,.bool false,.int .u64 0,.bool false,.int .u64 0,.bool false,.int .u64 0,.bool false] 31 (0,0))∧Spc.Row W G 0 false 0 false 0 false 0 false 0 false∧Spc.Bx W X G∧W.heap[gs]?=some (.cells cells 9 (0,0))) ⟨HB2.out,HT2.out,HR2.out,hX.out,hcs2.out⟩ ?_
 clear HB2 HT2 HR2 hX hcs2
 rintro W0 ⟨HB2,HT2,HR2,hX,hcs2⟩
 have hTj:=hT.out.keep HB2
 have cw:W0.cell? ⟨gs,0,none⟩=some (.string (Spc.word l 0)):=(blk_cell hcs2 0).trans (hw.out 0 (by decide))
 replace HB2:=Aside0.mk HB2
 replace HT2:=Aside0.mk HT2
 replace HR2:=Aside0.mk HR2
 replace hX:=Aside0.mk hX
 replace hcs2:=Aside0.mk hcs2
 replace hTj:=Aside0.mk hTj
 rw [rounds_succ]
 have ix:=Spc.ix0 X
 go_upto_block 1 with (fail)
 go_cut [] (fun wx=>Below w.heap.size w wx∧wx.heap[w.heap.size]?=some (.cells #[.int .u64 0,.bool false,.int .u64 0,.bool false,.int .u64 0,.bool false,.int .u64 0,.bool false,.int .u64 0,.bool false] 31 (0,0))∧Spc.Row wx G b0 s0 0 false 0 false 0 false 0 false∧Spc.Bx wx X G∧wx.heap[gs]?=some (.cells cells 9 (0,0)))
 case first=>
  go_wp2_with fail
  clear ix cw
  refine (field_Parse.calls _ 0 b0 s0 0 _ hTj.out A0.out).mono ?_
  rintro e V3 ⟨rfl,hb⟩
  have HB3:=Aside0.mk (below_step HB2.out hb)
  have HT3:=Aside0.mk (blk_below HT2.out hb)
  have HR3:Aside0 (Spc.Row V3 G 0 false 0 false 0 false 0 false 0 false):=⟨blk_below HR2.out hb⟩
  have hX3:Aside0 (Spc.Bx V3 X G):=⟨blk_below hX.out hb⟩
  have hcs3:=Aside0.mk (blk_below hcs2.out hb)
  clear HB2 HT2 HR2 hX hcs2 hb hTj
  go_upto_region 11 with (fail)
  have HB4:=Aside0.mk (below_alloc HB3.out (.cells #[.int .u64 b0,.bool s0] 24))
  have HT4:=Aside0.mk (blk_alloc HT3.out (.cells #[.int .u64 b0,.bool s0] 24))
  have HR4:=Aside0.mk (blk_alloc HR3.out (.cells #[.int .u64 b0,.bool s0] 24))
  have hX4:=Aside0.mk (blk_alloc hX3.out (.cells #[.int .u64 b0,.bool s0] 24))
  have hcs4:=Aside0.mk (blk_alloc hcs3.out (.cells #[.int .u64 b0,.bool s0] 24))
  have hF4:=Aside0.mk (blk_new V3 (.cells #[.int .u64 b0,.bool s0] 24))
  clear HB3 HT3 HR3 hX3 hcs3
  obtain ⟨W,hW⟩:∃ W,V3.alloc (.cells #[.int .u64 b0,.bool s0] 24)=W:=⟨_,rfl⟩
  rw [hW] at HB4 HT4 HR4 hX4 hcs4 hF4 ⊢
  obtain ⟨fb,hfb⟩:∃ fb,V3.heap.size=fb:=⟨_,rfl⟩
  rw [hfb] at hF4 ⊢
  clear hW hfb
  have f0:W.cell? ⟨fb,0,none⟩=some (.int .u64 b0):=(blk_cell hF4.out 0).trans rfl
  have f1:W.cell? ⟨fb,1,none⟩=some (.bool s0):=(blk_cell hF4.out 1).trans rfl
  have c0:W.cell? ⟨G,0,none⟩=some (.int .u64 0):=(blk_cell HR4.out 0).trans rfl
  have c1:W.cell? ⟨G,1,none⟩=some (.bool false):=(blk_cell HR4.out 1).trans rfl
  have z0:=blk_frozen HR4.out 0
  have z1:=blk_frozen HR4.out 1
  go_region_with (go_at_call 71; refine (Spc.at0 _ G _ (by exact hX4.out)).mono ?_; rintro e w' ⟨rfl,rfl⟩)
  all_goals (go_wp2_with fail; go_meet; refine ⟨?_,Spc.far HT4.out (by omega) _ _ _ _,blk_put (blk_put HR4.out 0 _ rfl) 1 _ rfl,Spc.far hX4.out (by omega) _ _ _ _,Spc.far hcs4.out (by omega) _ _ _ _⟩; repeat (with_reducible first | exact HB4.out | apply below_drew1 | (refine below_set ?_ (by omega))))
 case rest=>
 obtain ⟨HB2,HT2,HR2,hX,hcs2⟩ :=hcut
 clear ix cw hTj
 replace HB2:=Aside0.mk HB2
 replace HT2:=Aside0.mk HT2
 replace HR2:=Aside0.mk HR2
 replace hX:=Aside0.mk hX
 replace hcs2:=Aside0.mk hcs2
 go_wp2_with fail
 refine Fld.genR (fun W=>Below w.heap.size w W∧W.heap[w.heap.size]?=some (.cells #[.int .u64 0,.bool false,.int .u64 0,.bool false,.int .u64 0,.bool false,.int .u64 0,.bool false,.int .u64 0,.bool false] 31 (0,0))∧Spc.Row W G b0 s0 0 false 0 false 0 false 0 false∧Spc.Bx W X G∧W.heap[gs]?=some (.cells cells 9 (0,0))) ⟨HB2.out,HT2.out,HR2.out,hX.out,hcs2.out⟩ ?_
 clear HB2 HT2 HR2 hX hcs2
 rintro W1 ⟨HB2,HT2,HR2,hX,hcs2⟩
 have hTj:=hT.out.keep HB2
 have cw:W1.cell? ⟨gs,1,none⟩=some (.string (Spc.word l 1)):=(blk_cell hcs2 1).trans (hw.out 1 (by decide))
 replace HB2:=Aside0.mk HB2
 replace HT2:=Aside0.mk HT2
 replace HR2:=Aside0.mk HR2
 replace hX:=Aside0.mk hX
 replace hcs2:=Aside0.mk hcs2
 replace hTj:=Aside0.mk hTj
 rw [rounds_succ]
 have ix:=Spc.ix1 X
 go_upto_block 1 with (fail)
 go_cut [] (fun wx=>Below w.heap.size w wx∧wx.heap[w.heap.size]?=some (.cells #[.int .u64 0,.bool false,.int .u64 0,.bool false,.int .u64 0,.bool false,.int .u64 0,.bool false,.int .u64 0,.bool false] 31 (0,0))∧Spc.Row wx G b0 s0 b1 s1 0 false 0 false 0 false∧Spc.Bx wx X G∧wx.heap[gs]?=some (.cells cells 9 (0,0)))
 case first=>
  go_wp2_with fail
  clear ix cw
  refine (field_Parse.calls _ 1 b1 s1 0 _ hTj.out A1.out).mono ?_
  rintro e V4 ⟨rfl,hb⟩
  have HB3:=Aside0.mk (below_step HB2.out hb)
  have HT3:=Aside0.mk (blk_below HT2.out hb)
  have HR3:Aside0 (Spc.Row V4 G b0 s0 0 false 0 false 0 false 0 false):=⟨blk_below HR2.out hb⟩
  have hX3:Aside0 (Spc.Bx V4 X G):=⟨blk_below hX.out hb⟩
  have hcs3:=Aside0.mk (blk_below hcs2.out hb)
  clear HB2 HT2 HR2 hX hcs2 hb hTj
  go_upto_region 11 with (fail)
  have HB4:=Aside0.mk (below_alloc HB3.out (.cells #[.int .u64 b1,.bool s1] 24))
  have HT4:=Aside0.mk (blk_alloc HT3.out (.cells #[.int .u64 b1,.bool s1] 24))
  have HR4:=Aside0.mk (blk_alloc HR3.out (.cells #[.int .u64 b1,.bool s1] 24))
  have hX4:=Aside0.mk (blk_alloc hX3.out (.cells #[.int .u64 b1,.bool s1] 24))
  have hcs4:=Aside0.mk (blk_alloc hcs3.out (.cells #[.int .u64 b1,.bool s1] 24))
  have hF4:=Aside0.mk (blk_new V4 (.cells #[.int .u64 b1,.bool s1] 24))
  clear HB3 HT3 HR3 hX3 hcs3
  obtain ⟨W,hW⟩:∃ W,V4.alloc (.cells #[.int .u64 b1,.bool s1] 24)=W:=⟨_,rfl⟩
  rw [hW] at HB4 HT4 HR4 hX4 hcs4 hF4 ⊢
  obtain ⟨fb,hfb⟩:∃ fb,V4.heap.size=fb:=⟨_,rfl⟩
  rw [hfb] at hF4 ⊢
  clear hW hfb
  have f0:W.cell? ⟨fb,0,none⟩=some (.int .u64 b1):=(blk_cell hF4.out 0).trans rfl
  have f1:W.cell? ⟨fb,1,none⟩=some (.bool s1):=(blk_cell hF4.out 1).trans rfl
  have c0:W.cell? ⟨G,2,none⟩=some (.int .u64 0):=(blk_cell HR4.out 2).trans rfl
  have c1:W.cell? ⟨G,3,none⟩=some (.bool false):=(blk_cell HR4.out 3).trans rfl
  have z0:=blk_frozen HR4.out 2
  have z1:=blk_frozen HR4.out 3
  go_region_with (go_at_call 72; refine (Spc.at1 _ G _ (by exact hX4.out)).mono ?_; rintro e w' ⟨rfl,rfl⟩)
  all_goals (go_wp2_with fail; go_meet; refine ⟨?_,Spc.far HT4.out (by omega) _ _ _ _,blk_put (blk_put HR4.out 2 _ rfl) 3 _ rfl,Spc.far hX4.out (by omega) _ _ _ _,Spc.far hcs4.out (by omega) _ _ _ _⟩; repeat (with_reducible first | exact HB4.out | apply below_drew1 | (refine below_set ?_ (by omega))))
 case rest=>
 obtain ⟨HB2,HT2,HR2,hX,hcs2⟩ :=hcut
 clear ix cw hTj
 replace HB2:=Aside0.mk HB2
 replace HT2:=Aside0.mk HT2
 replace HR2:=Aside0.mk HR2
 replace hX:=Aside0.mk hX
 replace hcs2:=Aside0.mk hcs2
 go_wp2_with fail
 refine Fld.genR (fun W=>Below w.heap.size w W∧W.heap[w.heap.size]?=some (.cells #[.int .u64 0,.bool false,.int .u64 0,.bool false,.int .u64 0,.bool false,.int .u64 0,.bool false,.int .u64 0,.bool false] 31 (0,0))∧Spc.Row W G b0 s0 b1 s1 0 false 0 false 0 false∧Spc.Bx W X G∧W.heap[gs]?=some (.cells cells 9 (0,0))) ⟨HB2.out,HT2.out,HR2.out,hX.out,hcs2.out⟩ ?_
 clear HB2 HT2 HR2 hX hcs2
 rintro W2 ⟨HB2,HT2,HR2,hX,hcs2⟩
 have hTj:=hT.out.keep HB2
 have cw:W2.cell? ⟨gs,2,none⟩=some (.string (Spc.word l 2)):=(blk_cell hcs2 2).trans (hw.out 2 (by decide))
 replace HB2:=Aside0.mk HB2
 replace HT2:=Aside0.mk HT2
 replace HR2:=Aside0.mk HR2
 replace hX:=Aside0.mk hX
 replace hcs2:=Aside0.mk hcs2
 replace hTj:=Aside0.mk hTj
 rw [rounds_succ]
 have ix:=Spc.ix2 X
 go_upto_block 1 with (fail)
 go_cut [] (fun wx=>Below w.heap.size w wx∧wx.heap[w.heap.size]?=some (.cells #[.int .u64 0,.bool false,.int .u64 0,.bool false,.int .u64 0,.bool false,.int .u64 0,.bool false,.int .u64 0,.bool false] 31 (0,0))∧Spc.Row wx G b0 s0 b1 s1 b2 s2 0 false 0 false∧Spc.Bx wx X G∧wx.heap[gs]?=some (.cells cells 9 (0,0)))
 case first=>
  go_wp2_with fail
  clear ix cw
  refine (field_Parse.calls _ 2 b2 s2 0 _ hTj.out A2.out).mono ?_
  rintro e V5 ⟨rfl,hb⟩
  have HB3:=Aside0.mk (below_step HB2.out hb)
  have HT3:=Aside0.mk (blk_below HT2.out hb)
  have HR3:Aside0 (Spc.Row V5 G b0 s0 b1 s1 0 false 0 false 0 false):=⟨blk_below HR2.out hb⟩
  have hX3:Aside0 (Spc.Bx V5 X G):=⟨blk_below hX.out hb⟩
  have hcs3:=Aside0.mk (blk_below hcs2.out hb)
  clear HB2 HT2 HR2 hX hcs2 hb hTj
  go_upto_region 11 with (fail)
  have HB4:=Aside0.mk (below_alloc HB3.out (.cells #[.int .u64 b2,.bool s2] 24))
  have HT4:=Aside0.mk (blk_alloc HT3.out (.cells #[.int .u64 b2,.bool s2] 24))
  have HR4:=Aside0.mk (blk_alloc HR3.out (.cells #[.int .u64 b2,.bool s2] 24))
  have hX4:=Aside0.mk (blk_alloc hX3.out (.cells #[.int .u64 b2,.bool s2] 24))
  have hcs4:=Aside0.mk (blk_alloc hcs3.out (.cells #[.int .u64 b2,.bool s2] 24))
  have hF4:=Aside0.mk (blk_new V5 (.cells #[.int .u64 b2,.bool s2] 24))
  clear HB3 HT3 HR3 hX3 hcs3
  obtain ⟨W,hW⟩:∃ W,V5.alloc (.cells #[.int .u64 b2,.bool s2] 24)=W:=⟨_,rfl⟩
  rw [hW] at HB4 HT4 HR4 hX4 hcs4 hF4 ⊢
  obtain ⟨fb,hfb⟩:∃ fb,V5.heap.size=fb:=⟨_,rfl⟩
  rw [hfb] at hF4 ⊢
  clear hW hfb
  have f0:W.cell? ⟨fb,0,none⟩=some (.int .u64 b2):=(blk_cell hF4.out 0).trans rfl
  have f1:W.cell? ⟨fb,1,none⟩=some (.bool s2):=(blk_cell hF4.out 1).trans rfl
  have c0:W.cell? ⟨G,4,none⟩=some (.int .u64 0):=(blk_cell HR4.out 4).trans rfl
  have c1:W.cell? ⟨G,5,none⟩=some (.bool false):=(blk_cell HR4.out 5).trans rfl
  have z0:=blk_frozen HR4.out 4
  have z1:=blk_frozen HR4.out 5
  go_region_with (go_at_call 73; refine (Spc.at2 _ G _ (by exact hX4.out)).mono ?_; rintro e w' ⟨rfl,rfl⟩)
  all_goals (go_wp2_with fail; go_meet; refine ⟨?_,Spc.far HT4.out (by omega) _ _ _ _,blk_put (blk_put HR4.out 4 _ rfl) 5 _ rfl,Spc.far hX4.out (by omega) _ _ _ _,Spc.far hcs4.out (by omega) _ _ _ _⟩; repeat (with_reducible first | exact HB4.out | apply below_drew1 | (refine below_set ?_ (by omega))))
 case rest=>
 obtain ⟨HB2,HT2,HR2,hX,hcs2⟩ :=hcut
 clear ix cw hTj
 replace HB2:=Aside0.mk HB2
 replace HT2:=Aside0.mk HT2
 replace HR2:=Aside0.mk HR2
 replace hX:=Aside0.mk hX
 replace hcs2:=Aside0.mk hcs2
 go_wp2_with fail
 refine Fld.genR (fun W=>Below w.heap.size w W∧W.heap[w.heap.size]?=some (.cells #[.int .u64 0,.bool false,.int .u64 0,.bool false,.int .u64 0,.bool false,.int .u64 0,.bool false,.int .u64 0,.bool false] 31 (0,0))∧Spc.Row W G b0 s0 b1 s1 b2 s2 0 false 0 false∧Spc.Bx W X G∧W.heap[gs]?=some (.cells cells 9 (0,0))) ⟨HB2.out,HT2.out,HR2.out,hX.out,hcs2.out⟩ ?_
 clear HB2 HT2 HR2 hX hcs2
 rintro W3 ⟨HB2,HT2,HR2,hX,hcs2⟩
 have hTj:=hT.out.keep HB2
 have cw:W3.cell? ⟨gs,3,none⟩=some (.string (Spc.word l 3)):=(blk_cell hcs2 3).trans (hw.out 3 (by decide))
 replace HB2:=Aside0.mk HB2
 replace HT2:=Aside0.mk HT2
 replace HR2:=Aside0.mk HR2
 replace hX:=Aside0.mk hX
 replace hcs2:=Aside0.mk hcs2
 replace hTj:=Aside0.mk hTj
 rw [rounds_succ]
 have ix:=Spc.ix3 X
 go_upto_block 1 with (fail)
 go_cut [] (fun wx=>Below w.heap.size w wx∧wx.heap[w.heap.size]?=some (.cells #[.int .u64 0,.bool false,.int .u64 0,.bool false,.int .u64 0,.bool false,.int .u64 0,.bool false,.int .u64 0,.bool false] 31 (0,0))∧Spc.Row wx G b0 s0 b1 s1 b2 s2 b3 s3 0 false∧Spc.Bx wx X G∧wx.heap[gs]?=some (.cells cells 9 (0,0)))
 case first=>
  go_wp2_with fail
  clear ix cw
  refine (field_Parse.calls _ 3 b3 s3 0 _ hTj.out A3.out).mono ?_
  rintro e V6 ⟨rfl,hb⟩
  have HB3:=Aside0.mk (below_step HB2.out hb)
  have HT3:=Aside0.mk (blk_below HT2.out hb)
  have HR3:Aside0 (Spc.Row V6 G b0 s0 b1 s1 b2 s2 0 false 0 false):=⟨blk_below HR2.out hb⟩
  have hX3:Aside0 (Spc.Bx V6 X G):=⟨blk_below hX.out hb⟩
  have hcs3:=Aside0.mk (blk_below hcs2.out hb)
  clear HB2 HT2 HR2 hX hcs2 hb hTj
  go_upto_region 11 with (fail)
  have HB4:=Aside0.mk (below_alloc HB3.out (.cells #[.int .u64 b3,.bool s3] 24))
  have HT4:=Aside0.mk (blk_alloc HT3.out (.cells #[.int .u64 b3,.bool s3] 24))
  have HR4:=Aside0.mk (blk_alloc HR3.out (.cells #[.int .u64 b3,.bool s3] 24))
  have hX4:=Aside0.mk (blk_alloc hX3.out (.cells #[.int .u64 b3,.bool s3] 24))
  have hcs4:=Aside0.mk (blk_alloc hcs3.out (.cells #[.int .u64 b3,.bool s3] 24))
  have hF4:=Aside0.mk (blk_new V6 (.cells #[.int .u64 b3,.bool s3] 24))
  clear HB3 HT3 HR3 hX3 hcs3
  obtain ⟨W,hW⟩:∃ W,V6.alloc (.cells #[.int .u64 b3,.bool s3] 24)=W:=⟨_,rfl⟩
  rw [hW] at HB4 HT4 HR4 hX4 hcs4 hF4 ⊢
  obtain ⟨fb,hfb⟩:∃ fb,V6.heap.size=fb:=⟨_,rfl⟩
  rw [hfb] at hF4 ⊢
  clear hW hfb
  have f0:W.cell? ⟨fb,0,none⟩=some (.int .u64 b3):=(blk_cell hF4.out 0).trans rfl
  have f1:W.cell? ⟨fb,1,none⟩=some (.bool s3):=(blk_cell hF4.out 1).trans rfl
  have c0:W.cell? ⟨G,6,none⟩=some (.int .u64 0):=(blk_cell HR4.out 6).trans rfl
  have c1:W.cell? ⟨G,7,none⟩=some (.bool false):=(blk_cell HR4.out 7).trans rfl
  have z0:=blk_frozen HR4.out 6
  have z1:=blk_frozen HR4.out 7
  go_region_with (go_at_call 74; refine (Spc.at3 _ G _ (by exact hX4.out)).mono ?_; rintro e w' ⟨rfl,rfl⟩)
  all_goals (go_wp2_with fail; go_meet; refine ⟨?_,Spc.far HT4.out (by omega) _ _ _ _,blk_put (blk_put HR4.out 6 _ rfl) 7 _ rfl,Spc.far hX4.out (by omega) _ _ _ _,Spc.far hcs4.out (by omega) _ _ _ _⟩; repeat (with_reducible first | exact HB4.out | apply below_drew1 | (refine below_set ?_ (by omega))))
 case rest=>
 obtain ⟨HB2,HT2,HR2,hX,hcs2⟩ :=hcut
 clear ix cw hTj
 replace HB2:=Aside0.mk HB2
 replace HT2:=Aside0.mk HT2
 replace HR2:=Aside0.mk HR2
 replace hX:=Aside0.mk hX
 replace hcs2:=Aside0.mk hcs2
 go_wp2_with fail
 refine Fld.genR (fun W=>Below w.heap.size w W∧W.heap[w.heap.size]?=some (.cells #[.int .u64 0,.bool false,.int .u64 0,.bool false,.int .u64 0,.bool false,.int .u64 0,.bool false,.int .u64 0,.bool false] 31 (0,0))∧Spc.Row W G b0 s0 b1 s1 b2 s2 b3 s3 0 false∧Spc.Bx W X G∧W.heap[gs]?=some (.cells cells 9 (0,0))) ⟨HB2.out,HT2.out,HR2.out,hX.out,hcs2.out⟩ ?_
 clear HB2 HT2 HR2 hX hcs2
 rintro W4 ⟨HB2,HT2,HR2,hX,hcs2⟩
 have hTj:=hT.out.keep HB2
 have cw:W4.cell? ⟨gs,4,none⟩=some (.string (Spc.word l 4)):=(blk_cell hcs2 4).trans (hw.out 4 (by decide))
 replace HB2:=Aside0.mk HB2
 replace HT2:=Aside0.mk HT2
 replace HR2:=Aside0.mk HR2
 replace hX:=Aside0.mk hX
 replace hcs2:=Aside0.mk hcs2
 replace hTj:=Aside0.mk hTj
 rw [rounds_succ]
 have ix:=Spc.ix4 X
 go_upto_block 1 with (fail)
 go_cut [] (fun wx=>Below w.heap.size w wx∧wx.heap[w.heap.size]?=some (.cells #[.int .u64 0,.bool false,.int .u64 0,.bool false,.int .u64 0,.bool false,.int .u64 0,.bool false,.int .u64 0,.bool false] 31 (0,0))∧Spc.Row wx G b0 s0 b1 s1 b2 s2 b3 s3 b4 s4∧Spc.Bx wx X G∧wx.heap[gs]?=some (.cells cells 9 (0,0)))
 case first=>
  go_wp2_with fail
  clear ix cw
  refine (field_Parse.calls _ 4 b4 s4 0 _ hTj.out A4.out).mono ?_
  rintro e V7 ⟨rfl,hb⟩
  have HB3:=Aside0.mk (below_step HB2.out hb)
  have HT3:=Aside0.mk (blk_below HT2.out hb)
  have HR3:Aside0 (Spc.Row V7 G b0 s0 b1 s1 b2 s2 b3 s3 0 false):=⟨blk_below HR2.out hb⟩
  have hX3:Aside0 (Spc.Bx V7 X G):=⟨blk_below hX.out hb⟩
  have hcs3:=Aside0.mk (blk_below hcs2.out hb)
  clear HB2 HT2 HR2 hX hcs2 hb hTj
  go_upto_region 11 with (fail)
  have HB4:=Aside0.mk (below_alloc HB3.out (.cells #[.int .u64 b4,.bool s4] 24))
  have HT4:=Aside0.mk (blk_alloc HT3.out (.cells #[.int .u64 b4,.bool s4] 24))
  have HR4:=Aside0.mk (blk_alloc HR3.out (.cells #[.int .u64 b4,.bool s4] 24))
  have hX4:=Aside0.mk (blk_alloc hX3.out (.cells #[.int .u64 b4,.bool s4] 24))
  have hcs4:=Aside0.mk (blk_alloc hcs3.out (.cells #[.int .u64 b4,.bool s4] 24))
  have hF4:=Aside0.mk (blk_new V7 (.cells #[.int .u64 b4,.bool s4] 24))
  clear HB3 HT3 HR3 hX3 hcs3
  obtain ⟨W,hW⟩:∃ W,V7.alloc (.cells #[.int .u64 b4,.bool s4] 24)=W:=⟨_,rfl⟩
  rw [hW] at HB4 HT4 HR4 hX4 hcs4 hF4 ⊢
  obtain ⟨fb,hfb⟩:∃ fb,V7.heap.size=fb:=⟨_,rfl⟩
  rw [hfb] at hF4 ⊢
  clear hW hfb
  have f0:W.cell? ⟨fb,0,none⟩=some (.int .u64 b4):=(blk_cell hF4.out 0).trans rfl
  have f1:W.cell? ⟨fb,1,none⟩=some (.bool s4):=(blk_cell hF4.out 1).trans rfl
  have c0:W.cell? ⟨G,8,none⟩=some (.int .u64 0):=(blk_cell HR4.out 8).trans rfl
  have c1:W.cell? ⟨G,9,none⟩=some (.bool false):=(blk_cell HR4.out 9).trans rfl
  have z0:=blk_frozen HR4.out 8
  have z1:=blk_frozen HR4.out 9
  go_region_with (go_at_call 75; refine (Spc.at4 _ G _ (by exact hX4.out)).mono ?_; rintro e w' ⟨rfl,rfl⟩)
  all_goals (go_wp2_with fail; go_meet; refine ⟨?_,Spc.far HT4.out (by omega) _ _ _ _,blk_put (blk_put HR4.out 8 _ rfl) 9 _ rfl,Spc.far hX4.out (by omega) _ _ _ _,Spc.far hcs4.out (by omega) _ _ _ _⟩; repeat (with_reducible first | exact HB4.out | apply below_drew1 | (refine below_set ?_ (by omega))))
 case rest=>
 obtain ⟨HB2,HT2,HR2,hX,hcs2⟩ :=hcut
 clear ix cw hTj
 replace HB2:=Aside0.mk HB2
 replace HT2:=Aside0.mk HT2
 replace HR2:=Aside0.mk HR2
 replace hX:=Aside0.mk hX
 replace hcs2:=Aside0.mk hcs2
 go_wp2_with fail
 refine Fld.genR (fun W=>Below w.heap.size w W∧W.heap[w.heap.size]?=some (.cells #[.int .u64 0,.bool false,.int .u64 0,.bool false,.int .u64 0,.bool false,.int .u64 0,.bool false,.int .u64 0,.bool false] 31 (0,0))∧Spc.Row W G b0 s0 b1 s1 b2 s2 b3 s3 b4 s4∧Spc.Bx W X G∧W.heap[gs]?=some (.cells cells 9 (0,0))) ⟨HB2.out,HT2.out,HR2.out,hX.out,hcs2.out⟩ ?_
 clear HB2 HT2 HR2 hX hcs2
 rintro W5 ⟨HB2,HT2,HR2,hX,hcs2⟩
 rw [rounds_succ]
 have d0:W5.cell? ⟨G,0,none⟩=some (.int .u64 b0):=(blk_cell HR2 0).trans rfl
 have d1:W5.cell? ⟨G,1,none⟩=some (.bool s0):=(blk_cell HR2 1).trans rfl
 have d2:W5.cell? ⟨G,2,none⟩=some (.int .u64 b1):=(blk_cell HR2 2).trans rfl
 have d3:W5.cell? ⟨G,3,none⟩=some (.bool s1):=(blk_cell HR2 3).trans rfl
 have d4:W5.cell? ⟨G,4,none⟩=some (.int .u64 b2):=(blk_cell HR2 4).trans rfl
 have d5:W5.cell? ⟨G,5,none⟩=some (.bool s2):=(blk_cell HR2 5).trans rfl
 have d6:W5.cell? ⟨G,6,none⟩=some (.int .u64 b3):=(blk_cell HR2 6).trans rfl
 have d7:W5.cell? ⟨G,7,none⟩=some (.bool s3):=(blk_cell HR2 7).trans rfl
 have d8:W5.cell? ⟨G,8,none⟩=some (.int .u64 b4):=(blk_cell HR2 8).trans rfl
 have d9:W5.cell? ⟨G,9,none⟩=some (.bool s4):=(blk_cell HR2 9).trans rfl
 have t0:W5.cell? ⟨w.heap.size,0,none⟩=some (.int .u64 0):=(blk_cell HT2 0).trans rfl
 have t1:W5.cell? ⟨w.heap.size,1,none⟩=some (.bool false):=(blk_cell HT2 1).trans rfl
 have t2:W5.cell? ⟨w.heap.size,2,none⟩=some (.int .u64 0):=(blk_cell HT2 2).trans rfl
 have t3:W5.cell? ⟨w.heap.size,3,none⟩=some (.bool false):=(blk_cell HT2 3).trans rfl
 have t4:W5.cell? ⟨w.heap.size,4,none⟩=some (.int .u64 0):=(blk_cell HT2 4).trans rfl
 have t5:W5.cell? ⟨w.heap.size,5,none⟩=some (.bool false):=(blk_cell HT2 5).trans rfl
 have t6:W5.cell? ⟨w.heap.size,6,none⟩=some (.int .u64 0):=(blk_cell HT2 6).trans rfl
 have t7:W5.cell? ⟨w.heap.size,7,none⟩=some (.bool false):=(blk_cell HT2 7).trans rfl
 have t8:W5.cell? ⟨w.heap.size,8,none⟩=some (.int .u64 0):=(blk_cell HT2 8).trans rfl
 have t9:W5.cell? ⟨w.heap.size,9,none⟩=some (.bool false):=(blk_cell HT2 9).trans rfl
 have zT:∀ j,W5.frozen? ⟨w.heap.size,j,none⟩=false:=fun j=>blk_frozen HT2 j
 replace HB2:=Aside0.mk HB2
 clear HT2 HR2 hX hcs2
 go_wp2_with fail
 refine bodyPost_ret (v:=.tuple #[.agg #[.int .u64 b0,.bool s0,.int .u64 b1,.bool s1,.int .u64 b2,.bool s2,.int .u64 b3,.bool s3,.int .u64 b4,.bool s4],.int .i64 0,.int .i64 0]) (by simp [results,Tryz.results18,go_sem, *]) rfl ⟨rfl,?_⟩
 repeat (first | (with_reducible first | exact HB2.out | (refine below_set ?_ (by omega))) | exact HB2.out)
def spec_Parse.f (a0:ByteArray):Option (Int × Bool × Int × Bool × Int × Bool × Int × Bool × Int × Bool × Int × Int):=(lex_Fields.f a0).bind fun bt=>if bt.2≠0 then some (0,false,0,false,0,false,0,false,0,false,0,bt.2) else (field_Parse.f (Spc.word bt.1 0) 0).bind fun p0=>if p0.2.2≠0 then some (0,false,0,false,0,false,0,false,0,false,1,p0.2.2) else (field_Parse.f (Spc.word bt.1 1) 1).bind fun p1=>if p1.2.2≠0 then some (0,false,0,false,0,false,0,false,0,false,2,p1.2.2) else (field_Parse.f (Spc.word bt.1 2) 2).bind fun p2=>if p2.2.2≠0 then some (0,false,0,false,0,false,0,false,0,false,3,p2.2.2) else (field_Parse.f (Spc.word bt.1 3) 3).bind fun p3=>if p3.2.2≠0 then some (0,false,0,false,0,false,0,false,0,false,4,p3.2.2) else (field_Parse.f (Spc.word bt.1 4) 4).bind fun p4=>if p4.2.2≠0 then some (0,false,0,false,0,false,0,false,0,false,5,p4.2.2) else some (p0.1,p0.2.1,p1.1,p1.2.1,p2.1,p2.2.1,p3.1,p3.2.1,p4.1,p4.2.1,0,0)
set_option maxHeartbeats 8000000 in
set_option maxRecDepth 100000 in
theorem spec_Parse.calls (a0:ByteArray)(r1:Int)(r2:Bool)(r3:Int)(r4:Bool)(r5:Int)(r6:Bool)(r7:Int)(r8:Bool)(r9:Int)(r10:Bool)(r11:Int)(r12:Int)(w:World)(hT:Tab w)(h:spec_Parse.f a0=some (r1,r2,r3,r4,r5,r6,r7,r8,r9,r10,r11,r12)) :
  Calls Tryz.prog 18 #[.string a0] w fun e w'=>e=.returned (.tuple #[.agg #[.int .u64 r1,.bool r2,.int .u64 r3,.bool r4,.int .u64 r5,.bool r6,.int .u64 r7,.bool r8,.int .u64 r9,.bool r10],.int .i64 r11,.int .i64 r12])∧Below w.heap.size w w':=by
 have HB:=Aside0.mk (Below.refl w.heap.size w)
 have H:_=some _:=h
 clear h
 obtain ⟨⟨l,e0⟩,hf,H⟩ :=Option.bind_eq_some_iff.1 H
 dsimp only at H
 by_cases c:e0≠0
 ·rw [if_pos c] at H
  simp only [Option.some.injEq,Prod.mk.injEq] at H
  obtain ⟨rfl,rfl,rfl,rfl,rfl,rfl,rfl,rfl,rfl,rfl,rfl,rfl⟩ :=H
  exact Spc.parse_no a0 l e0 hf c w
 rw [if_neg c] at H
 obtain rfl:e0=0:=by simpa using c
 have hl:l.length=5:=by have e:=Option.some.inj hf; have:=Spc.fields_len a0 (by rw [e]); rw [e] at this; exact this
 obtain ⟨⟨b0,s0,e0⟩,A0,H⟩ :=Option.bind_eq_some_iff.1 H
 dsimp only at H
 by_cases c0:e0≠0
 ·rw [if_pos c0] at H
  simp only [Option.some.injEq,Prod.mk.injEq] at H
  obtain ⟨rfl,rfl,rfl,rfl,rfl,rfl,rfl,rfl,rfl,rfl,rfl,rfl⟩ :=H
  exact Spc.parse0 a0 l hf hl  _ _ _ c0 A0 w hT
 rw [if_neg c0] at H
 obtain rfl:e0=0:=by simpa using c0
 obtain ⟨⟨b1,s1,e1⟩,A1,H⟩ :=Option.bind_eq_some_iff.1 H
 dsimp only at H
 by_cases c1:e1≠0
 ·rw [if_pos c1] at H
  simp only [Option.some.injEq,Prod.mk.injEq] at H
  obtain ⟨rfl,rfl,rfl,rfl,rfl,rfl,rfl,rfl,rfl,rfl,rfl,rfl⟩ :=H
  exact Spc.parse1 a0 l hf hl _ _ A0 _ _ _ c1 A1 w hT
 rw [if_neg c1] at H
 obtain rfl:e1=0:=by simpa using c1
 obtain ⟨⟨b2,s2,e2⟩,A2,H⟩ :=Option.bind_eq_some_iff.1 H
 dsimp only at H
 by_cases c2:e2≠0
 ·rw [if_pos c2] at H
  simp only [Option.some.injEq,Prod.mk.injEq] at H
  obtain ⟨rfl,rfl,rfl,rfl,rfl,rfl,rfl,rfl,rfl,rfl,rfl,rfl⟩ :=H
  exact Spc.parse2 a0 l hf hl _ _ A0 _ _ A1 _ _ _ c2 A2 w hT
 rw [if_neg c2] at H
 obtain rfl:e2=0:=by simpa using c2
 obtain ⟨⟨b3,s3,e3⟩,A3,H⟩ :=Option.bind_eq_some_iff.1 H
 dsimp only at H
 by_cases c3:e3≠0
 ·rw [if_pos c3] at H
  simp only [Option.some.injEq,Prod.mk.injEq] at H
  obtain ⟨rfl,rfl,rfl,rfl,rfl,rfl,rfl,rfl,rfl,rfl,rfl,rfl⟩ :=H
  exact Spc.parse3 a0 l hf hl _ _ A0 _ _ A1 _ _ A2 _ _ _ c3 A3 w hT
 rw [if_neg c3] at H
 obtain rfl:e3=0:=by simpa using c3
 obtain ⟨⟨b4,s4,e4⟩,A4,H⟩ :=Option.bind_eq_some_iff.1 H
 dsimp only at H
 by_cases c4:e4≠0
 ·rw [if_pos c4] at H
  simp only [Option.some.injEq,Prod.mk.injEq] at H
  obtain ⟨rfl,rfl,rfl,rfl,rfl,rfl,rfl,rfl,rfl,rfl,rfl,rfl⟩ :=H
  exact Spc.parse4 a0 l hf hl _ _ A0 _ _ A1 _ _ A2 _ _ A3 _ _ _ c4 A4 w hT
 rw [if_neg c4] at H
 obtain rfl:e4=0:=by simpa using c4
 simp only [Option.some.injEq,Prod.mk.injEq] at H
 obtain ⟨rfl,rfl,rfl,rfl,rfl,rfl,rfl,rfl,rfl,rfl,rfl,rfl⟩ :=H
 exact Spc.parse5 a0 l hf hl _ _ A0 _ _ A1 _ _ A2 _ _ A3 _ _ A4 w hT
end Go.Proofs.YtcmmmlenaahaeaaGreatDoor.PShw
