-- Written by a program of this session (gprint.py) over the kit's print.
import Derived.Test.YtabhfcoljgcpeaaGreatDoorPNexx0
import Derived.Test.YtabhfcoljgcpeaaGreatDoorPNexx1
import Derived.Test.YtabhfcoljgcpeaaGreatDoorPNexx9
namespace Go.Proofs.YtabhfcoljgcpeaaGreatDoor.PNex
open Go.RowKit Go.Proofs.YtabhfcoljgcpeaaGreatDoorW.PrintWords Go.Proofs.YtabhfcoljgcpeaaGreatDoorW.PrintLast Go.Proofs.YtabhfcoljgcpeaaGreatDoorW.PrintMore
attribute [local go_sem] max2_int min2_int max_two min_two max_three min_three max_four min_four
set_option linter.unusedVariables false
set_option linter.unusedSimpArgs false
theorem Lex.digit_f (c:Int):lex_sign_digit.f c=some (decide (48≤c) && decide (c≤57)):=by
 unfold lex_sign_digit.f
 by_cases h:c≥48
 ·rw [if_pos h,decide_eq_true h]; rfl
 ·rw [if_neg h,decide_eq_false h]; rfl
/-! This session's own: lex.Number, by its own pure function. -/
def Lex.dig (b:UInt8):Bool:=decide (48≤b.toNat) && decide (b.toNat≤57)
def Lex.digs:List UInt8→Int→Option Int
 | [],n=>some n
 | c :: l,n=>if Lex.dig c then Lex.digs l (10*n+c.toNat - 48) else none
def Lex.number (s:ByteArray):Int × Int:=
 if s.size=0∨4 < s.size then (0,2) else match Lex.digs s.data.toList 0 with
  | some n=>(n,0)
  | none=>(0,2)
def Lex.top:Nat→Int | 0=>0 | 1=>9 | 2=>99 | 3=>999 | _=>9999
theorem Lex.drop_at (s:ByteArray)(pos:Nat)(h:pos < s.size):s.data.toList.drop pos=(s[pos]'h) :: s.data.toList.drop (pos+1):=by
 rw [List.drop_eq_getElem_cons (by simpa using h)]; rfl
set_option maxHeartbeats 8000000 in
set_option maxRecDepth 100000 in
theorem number_calls (s : ByteArray) (w : World) (h1 : ¬ s.size = 0) (h2 : s.size ≤ 4) :
    Calls Tryz.prog 107 #[.string s] w fun e w'=>e=.returned (.tuple #[.int .i64 (Lex.number s).1,.int .i64 (Lex.number s).2])∧Below w.heap.size w w':=by
  have hN:Hid (Lex.number s=match Lex.digs s.data.toList 0 with | some n=>(n,0) | none=>(0,2)):=Lib.hid (by unfold Lex.number; rw [if_neg (by omega)])
  have e0:s.toList.isEmpty=false:=by
    rw [ByteArray.toList_eq]
    cases hl:s.data.toList with
    | nil => have : s.data.toList.length = s.size := by rw [Array.length_toList]; rfl
             rw [hl] at this; exact absurd this.symm h1
    | cons _ _=>rfl
  have e1:(s.toList == ([]:List UInt8))=false:=by
    cases hl:s.toList with
    | nil=>rw [hl] at e0; exact absurd e0 (by simp)
    | cons _ _=>rfl
  have e2:decide (4 < (s.size:Int))=false:=decide_eq_false (by omega)
  have e3:decide (4 < s.size)=false:=decide_eq_false (by omega)
  go_enter Tryz.func107,Tryz.ntmps107
  go_wp2
  go_loopg [4] s.size (fun gf n wr => ∃ (pos : Nat) (z : Int), n = .int .i64 z ∧ pos + gf = s.size ∧ 0 ≤ z ∧ Hid (z ≤ Lex.top pos) ∧ Hid (Lex.digs (s.data.toList.drop pos) z = Lex.digs s.data.toList 0) ∧
      wr.heap[w.heap.size]?=some (.stringIter s pos)∧Below w.heap.size w wr)
  case atStart=>
    exact ⟨0,0,rfl,by omega,by omega,Lib.hid (by decide),Lib.hid rfl,World.iter_heap w s 0,(Below.refl _ _).alloc (Nat.le_refl _) _⟩
  case round=>
    obtain ⟨pos,z,rfl,hg,hz0,hz1,hD,hit,hb⟩ :=hrel
    by_cases hlt:pos < s.size
    · obtain ⟨g',rfl⟩:∃ g',gk=g'+1:=⟨gk - 1,by omega⟩
      have hnx:∀ ty,(Instr.next (.pointer (some ⟨w.heap.size,0,none⟩)) true ty).run Tryz.prog wr=_:=fun ty=>Lib.run_next_any_at wr w.heap.size s pos ty hit hlt
      have hr:=Lex.rune_at s pos hlt
      have hstep:Lex.digs (s.data.toList.drop pos) z=if Lex.dig (s[pos]'hlt) then Lex.digs (s.data.toList.drop (pos+1)) (10*z+(s[pos]'hlt).toNat - 48) else none:=by
        rw [Lex.drop_at s pos hlt]; rfl
      have hd:=hD.out
      rw [hstep] at hd
      replace hd:=Lib.hid hd
      clear hstep hD
      have hzb:z≤999∧10*Lex.top pos+9≤Lex.top (pos+1):=by
        have:=hz1.out
        have h4:pos=0∨pos=1∨pos=2∨pos=3:=by omega
        rcases h4 with rfl | rfl | rfl | rfl <;> (simp only [Lex.top] at *; omega)
      have hzt:=Lib.hid hzb.2
      have hzb:=hzb.1
      by_cases hdg:Lex.dig (s[pos]'hlt)=true
      · have hdb:48≤(s[pos]'hlt).toNat∧(s[pos]'hlt).toNat≤57:=by simpa [Lex.dig] using hdg
        obtain ⟨B,hB⟩:∃ B,(s[pos]'hlt).toNat=B:=⟨_,rfl⟩
        have hr2:Utf8.decode s pos=(B,1):=by
          rcases hr with ⟨_,h⟩ | ⟨h,_⟩
          · rw [h,hB]
          · omega
        rw [hr2] at hnx
        rw [hB] at hdb
        have hd2:=hd.out
        rw [if_pos hdg,hB] at hd2
        have hd:=Lib.hid hd2
        clear hd2 hr hr2
        have hcall:=Lib.hid (show lex_sign_digit.f (B:Int)=some true by rw [Lex.digit_f,decide_eq_true (by omega),decide_eq_true (by omega)]; rfl)
        have hit2:=Lib.iterAt_heap wr w.heap.size s pos (pos+1) hit
        have hb2:=Lex.below_it hb (k:=w.heap.size) (Nat.le_refl _) s (pos+1)
        replace hB:=Lib.hid hB
        obtain ⟨W,hW⟩:∃ W,wr.iterAt w.heap.size s (pos+1)=W:=⟨_,rfl⟩
        rw [hW] at hnx hit2 hb2
        replace hW:=Lib.hid hW
        clear hit hb
        go_wp2_with (go_at_call 101; refine (lex_sign_digit.calls _ _ _ hcall.out).mono ?_; rintro e w' ⟨rfl,⟨nd,rfl⟩⟩)
        go_roundg g'
        case measure=>omega
        case rel=>
          refine ⟨pos+1,10*z+B - 48,by first | rfl | (congr 1; omega),by omega,by omega,Lib.hid ?_,hd,hit2,pw_below_drewN hb2 _⟩
          have:=hz1.out; have:=hzt.out; omega
      · have hdn:Lex.dig (s[pos]'hlt)=false:=by simpa using hdg
        have hd2:=hd.out
        rw [hdn,if_neg (by simp)] at hd2
        have hv:Lex.number s=(0,2):=by rw [hN.out,← hd2]
        replace hv:=Lib.hid hv
        have hcall:Hid (lex_sign_digit.f ((Utf8.decode s pos).1:Int)=some false):=by
          refine Lib.hid ?_
          rw [Lex.digit_f]
          rcases hr with ⟨hl,h⟩ | ⟨h,h'⟩
          · rw [h]
            simp only [Lex.dig,Bool.and_eq_false_iff,decide_eq_false_iff_not] at hdn
            congr 1
            simp only [Bool.and_eq_false_iff,decide_eq_false_iff_not]
            omega
          · congr 1
            simp only [Bool.and_eq_false_iff,decide_eq_false_iff_not]
            omega
        have hb2:=Lex.below_it hb (k:=w.heap.size) (Nat.le_refl _) s (pos+(Utf8.decode s pos).2)
        obtain ⟨R,hR⟩:∃ R,(Utf8.decode s pos).1=R:=⟨_,rfl⟩
        obtain ⟨K,hK⟩:∃ K,(Utf8.decode s pos).2=K:=⟨_,rfl⟩
        obtain ⟨W,hW⟩:∃ W,wr.iterAt w.heap.size s (pos+K)=W:=⟨_,rfl⟩
        rw [hR,hK,hW] at hnx
        rw [hK,hW] at hb2
        rw [hR] at hcall
        replace hW:=Lib.hid hW; replace hR:=Lib.hid hR; replace hK:=Lib.hid hK
        clear hit hb hd hd2 hr hdn hdg
        go_wp2_with (go_at_call 101; refine (lex_sign_digit.calls _ _ _ hcall.out).mono ?_; rintro e w' ⟨rfl,⟨nd,rfl⟩⟩)
        go_ret2
        exact ⟨Lex.ret2 hv.out,pw_below_drewN hb2 _⟩
    · have hpos:pos=s.size:=by omega
      have hnx:∀ ty,(Instr.next (.pointer (some ⟨w.heap.size,0,none⟩)) true ty).run Tryz.prog wr=_:=fun ty=>Lib.run_next_end_at wr w.heap.size s pos ty hit hlt
      have hd2:=hD.out
      rw [hpos,List.drop_of_length_le (by simp)] at hd2
      have hv:Lex.number s=(z,0):=by
        have:=hN.out
        rw [← hd2] at this
        exact this
      replace hv:=Lib.hid hv
      clear hd2 hD
      replace hpos:=Lib.hid hpos
      go_wp2
      go_ret2
      exact ⟨Lex.ret2 hv.out,hb⟩
def lex_Number.f (a0:ByteArray):Option (Int × Int):=some (Lex.number a0)
set_option maxHeartbeats 8000000 in
set_option maxRecDepth 100000 in
theorem lex_Number.calls (a0:ByteArray)(r1:Int)(r2:Int)(w:World)(h:lex_Number.f a0=some (r1,r2)) :
  Calls Tryz.prog 107 #[.string a0] w fun e w'=>e=.returned (.tuple #[.int .i64 r1,.int .i64 r2])∧Below w.heap.size w w':=by
 obtain ⟨rfl,rfl⟩:r1=(Lex.number a0).1∧r2=(Lex.number a0).2:=by have:=Option.some.inj h; rw [this]; exact ⟨rfl,rfl⟩
 clear h
 by_cases h0:a0.size=0
 ·have hv:Hid (Lex.number a0=(0,2)):=Lib.hid (by unfold Lex.number; rw [if_pos (.inl h0)])
  have e0:=Lex.empty_yes h0
  have e1:(a0.toList == ([]:List UInt8))=true:=by simpa using e0
  replace h0:=Lib.hid h0
  go_enter Tryz.func107,Tryz.ntmps107
  go_wp2
  go_ret2
  exact ⟨Lex.ret2 hv.out,Below.refl _ _⟩
 by_cases h4:4 < a0.size
 ·have hv:Hid (Lex.number a0=(0,2)):=Lib.hid (by unfold Lex.number; rw [if_pos (.inr h4)])
  have e0:=Lex.empty_no h0
  have e1:(a0.toList == ([]:List UInt8))=false:=by simpa using e0
  have e2:decide (4 < (a0.size:Int))=true:=decide_eq_true (by omega)
  have e3:decide (4 < a0.size)=true:=decide_eq_true h4
  replace h0:=Lib.hid h0
  replace h4:=Lib.hid h4
  go_enter Tryz.func107,Tryz.ntmps107
  go_wp2
  go_ret2
  exact ⟨Lex.ret2 hv.out,Below.refl _ _⟩
 exact number_calls a0 w h0 (by omega)
/-! This session's own: lex.Name. -/
def Lex.lowI (c:Int):Int:=if 65≤c∧c≤90 then c+32 else c
def Lex.srch (p:Nat→Bool):Nat→Nat→Nat
 | 0,i=>i
 | k+1,i=>if p i then i else Lex.srch p k (i+1)
theorem Lex.srch_eq (p:Nat→Bool)(n:Nat):∀ (k i r:Nat),i≤r→r≤n→k+i=n→(∀ x,i≤x→x < r→p x=false)→(r < n→p r=true)→Lex.srch p k i=r
 | 0,i,r,h1,h2,h3,_,_=>by simp only [Lex.srch]; omega
 | k+1,i,r,h1,h2,h3,hf,ht=>by
  simp only [Lex.srch]
  by_cases e:i=r
  ·subst e; rw [if_pos (ht (by omega))]
  ·rw [hf i (by omega) (by omega)]
   exact Lex.srch_eq p n k (i+1) r (by omega) h2 (by omega) (fun x h=>hf x (by omega)) ht
/-- A text's bytes, as numbers; without capitals; a text of them. -/
def Lex.lowS (s:ByteArray):ByteArray:=strOfNums ((bytesOf s).map Lex.lowI)
def Lex.hit (nm low:ByteArray)(j:Nat):Bool:=(nm.extract (3*j) (3*j+3)).toList == low.toList
def Lex.look (nm:ByteArray)(n:Nat)(first:Int)(low:ByteArray):Int × Int:=
 if Lex.srch (Lex.hit nm low) n 0 < n then ((Lex.srch (Lex.hit nm low) n 0:Int)+first,0) else (0,2)
def Lex.months:ByteArray:=⟨#[106,97,110,102,101,98,109,97,114,97,112,114,109,97,121,106,117,110,106,117,108,97,117,103,115,101,112,111,99,116,110,111,118,100,101,99]⟩
def Lex.days:ByteArray:=⟨#[115,117,110,109,111,110,116,117,101,119,101,100,116,104,117,102,114,105,115,97,116]⟩
def Lex.namesOf (kind:Int):ByteArray × Nat × Int:=if kind=3 then (Lex.months,12,1) else if kind=4 then (Lex.days,7,0) else (⟨#[]⟩,0,0)
def Lex.name (s:ByteArray)(kind:Int):Int × Int:=
 if s.size≠3 then (0,2) else Lex.look (Lex.namesOf kind).1 (Lex.namesOf kind).2.1 (Lex.namesOf kind).2.2 (Lex.lowS s)
/-- Names of three plain letters each. -/
def Lex.plain (nm:ByteArray)(n:Nat)(first:Int):Prop:=nm.size=3*n∧n≤12∧0≤first∧first≤1∧∀ i (h:i < nm.size),(nm[i]'h).toNat < 128
theorem Lex.plain_of (kind:Int):Lex.plain (Lex.namesOf kind).1 (Lex.namesOf kind).2.1 (Lex.namesOf kind).2.2:=by
 unfold Lex.namesOf
 split
 ·exact ⟨by decide,by decide,by decide,by decide,by decide +kernel⟩
 ·split
  ·exact ⟨by decide,by decide,by decide,by decide,by decide +kernel⟩
  ·exact ⟨by decide,by decide,by decide,by decide,by intro i h; exact absurd h (by simp [ByteArray.size])⟩
def Lex.Cells (l:List Int)(k B:Nat)(w:World):Prop:=∀ j,j < 3→w.cell? ⟨B,j,none⟩=some (.int .u8 (if j < k then Lex.lowI (l.getD j 0) else l.getD j 0))∧w.frozen? ⟨B,j,none⟩=false
theorem Lex.Cells.at' {l:List Int}{k B:Nat}{w:World}(h:Lex.Cells l k B w)(j:Nat)(hj:j < 3):w.cell? ⟨B,j,none⟩=some (.int .u8 (if j < k then Lex.lowI (l.getD j 0) else l.getD j 0))∧w.frozen? ⟨B,j,none⟩=false:=h j hj
theorem Lex.byte_bd (s:ByteArray)(k:Nat):0≤(bytesOf s).getD k 0∧(bytesOf s).getD k 0≤255:=by
 have h:=bt_range s (k:Int)
 rw [← rd_bytesOf] at h
 simpa [rd] using h
theorem Lex.cells_start (w:World)(s:ByteArray)(h:s.size=3):Lex.Cells (bytesOf s) 0 w.heap.size (Lib.bytesWorld w 5 s):=by
 intro j hj
 refine ⟨?_,?_⟩
 ·rw [if_neg (by omega),Lib.bytesWorld_cell w 5 s j (by omega)]
  have h':j < s.data.toList.length:=by rw [data_length]; omega
  simp [bytesOf,List.getD_eq_getElem?_getD,List.getElem?_eq_getElem h']
 ·simp only [World.frozen?,Lib.bytesWorld_at_new]
  have:3≤(Lib.bytesCells w 5 s).size:=by simp [Lib.bytesCells]; have:s.data.size=s.size:=rfl; omega
  simp
  omega
theorem Lex.cells_up {l:List Int}{k B:Nat}{w:World}{c v:Int}(h:Lex.Cells l k B w)(hk:k < 3)(hc:l.getD k 0=c)(hu:65≤c∧c≤90)(hv:v=c+32):Lex.Cells l (k+1) B (w.setCell ⟨B,k,none⟩ (.int .u8 v)):=by
 intro j hj
 refine ⟨?_,by simpa using (h j hj).2⟩
 by_cases e:j=k
 ·subst e
  rw [World.cell?_setCell_same' _ _ _ (by rw [(h j hj).1]; rfl),if_pos (by omega),hc,Lex.lowI,if_pos hu,hv]
 ·rw [World.cell?_setCell_other _ _ _ _ (by intro x; injection x; omega),(h j hj).1]
  by_cases e2:j < k
  ·rw [if_pos e2,if_pos (by omega)]
  ·rw [if_neg e2,if_neg (by omega)]
theorem Lex.cells_no {l:List Int}{k B:Nat}{w:World}{c:Int}(h:Lex.Cells l k B w)(hk:k < 3)(hc:l.getD k 0=c)(hu:¬ (65≤c∧c≤90)):Lex.Cells l (k+1) B w:=by
 intro j hj
 refine ⟨?_,(h j hj).2⟩
 rw [(h j hj).1]
 by_cases e:j=k
 ·subst e
  rw [if_neg (by omega),if_pos (by omega),hc,Lex.lowI,if_neg hu]
 ·by_cases e2:j < k
  ·rw [if_pos e2,if_pos (by omega)]
  ·rw [if_neg e2,if_neg (by omega)]
/-- The row of small letters. -/
def Lex.Low (l:List Int)(B:Nat)(w:World):Prop:=∀ j,j < 3→w.cell? ⟨B,0+j,none⟩=some (.int .u8 ((l.map Lex.lowI).getD j 0))
theorem Lex.low_of {l:List Int}{B:Nat}{w:World}(hl:l.length=3)(h:Lex.Cells l 3 B w):Lex.Low l B w:=by
 intro j hj
 rw [Nat.zero_add,(h j hj).1,if_pos hj]
 congr 2
 simp [List.getD_eq_getElem?_getD,List.getElem?_eq_getElem (show j < l.length by omega)]
theorem Lex.low_move {l:List Int}{B:Nat}{w w':World}(h:Lex.Low l B w)(hm:w'.heap[B]?=w.heap[B]?):Lex.Low l B w':=by
 intro j hj
 rw [← h j hj]
 exact World.cell?_of_block (w:=w) (a:=⟨B,0+j,none⟩) hm
theorem Lex.low_conv {s:ByteArray}{B cap:Nat}{w:World}(hs:s.size=3)(h:Lex.Low (bytesOf s) B w)(n:Nat) :
  (convert 157 9 (.slice (some ⟨B,0,none⟩) s.size cap)).run Tryz.prog (w.drewN n)=.ok (.string (Lex.lowS s)) (w.drewN n):=
 run_convert_bytes_arg (w.drewN n) 157 5 Tryz.underlying157 Tryz.underlying5 B 0 s.size cap ((bytesOf s).map Lex.lowI) (by rw [List.length_map,bytesOf_length]) (fun i hi=>h i (by omega)) 9 Tryz.underlying9
set_option maxHeartbeats 8000000 in
set_option maxRecDepth 100000 in
theorem name_calls (s:ByteArray)(kind:Int)(w:World)(h3:s.size=3) :
  Calls Tryz.prog 117 #[.string s,.int .i64 kind] w fun e w'=>e=.returned (.tuple #[.int .i64 (Lex.look (Lex.namesOf kind).1 (Lex.namesOf kind).2.1 (Lex.namesOf kind).2.2 (Lex.lowS s)).1,.int .i64 (Lex.look (Lex.namesOf kind).1 (Lex.namesOf kind).2.1 (Lex.namesOf kind).2.2 (Lex.lowS s)).2])∧Below w.heap.size w w':=by
 have hp:=Lex.plain_of kind
 obtain ⟨R,hR⟩:∃ R,Lex.look (Lex.namesOf kind).1 (Lex.namesOf kind).2.1 (Lex.namesOf kind).2.2 (Lex.lowS s)=R:=⟨_,rfl⟩
 rw [hR]
 replace hR:=Lib.hid hR
 replace hp:=Lib.hid hp
 have h3':=Lib.hid h3
 have e3:((s.size:Int) != 3)=false:=by simp [h3]
 have e3b:(s.size != 3)=false:=by simp [h3]
 clear h3
 have kb:=fun W=>print_bytes (P:=Tryz.prog) 9 157 5 Tryz.underlying9 Tryz.underlying157 Tryz.underlying5 s W
 go_enter Tryz.func117,Tryz.ntmps117
 go_upto_block 0 with (fail)
 go_cut [6,7] (fun v6 v7 wc=>∃ (nm:ByteArray) (n:Nat) (first:Int),v6=.string nm∧v7=.int .i64 first∧Hid (Lex.plain nm n first)∧Hid (Lex.look nm n first (Lex.lowS s)=R)∧wc=w)
 case first=>
  by_cases k3:kind=3
  ·subst k3
   go_wp2
   go_meet
   case rel=>exact ⟨_,12,1,rfl,rfl,hp,hR,rfl⟩
  ·by_cases k4:kind=4
   ·subst k4
    go_wp2
    go_meet
    case rel=>exact ⟨_,7,0,rfl,rfl,hp,hR,rfl⟩
   ·have hn:Lex.namesOf kind=(⟨#[]⟩,0,0):=by unfold Lex.namesOf; rw [if_neg k3,if_neg k4]
    have b3:(kind == 3)=false:=by simpa using k3
    have b4:(kind == 4)=false:=by simpa using k4
    have hp2:=hp.out
    have hR2:=hR.out
    rw [hn] at hp2 hR2
    replace hp2:=Lib.hid hp2
    replace hR2:=Lib.hid hR2
    clear hn k3 k4
    go_wp2
    go_meet
    case rel=>exact ⟨_,0,0,rfl,rfl,hp2,hR2,rfl⟩
 case rest=>
  clear hp hR
  obtain ⟨nm,n,first,rfl,rfl,hp,hR,rfl⟩ :=hcut
  go_wp2
  go_loopw [24] (fun i wr=>∃ k:Nat,k≤3∧i=.int .i64 (k:Int)∧Lex.Cells (bytesOf s) k wc.heap.size wr∧Below wc.heap.size wc wr) (fun i _=>3 - (intOf i).toNat)
  case atStart=>exact ⟨0,by omega,rfl,Lex.cells_start wc s h3'.out,bytes_below (Below.refl _ _) (Nat.le_refl _) 5 s⟩
  case round=>
   obtain ⟨k,hk,rfl,hC,hB⟩ :=hrel
   have hs3:=Lib.hid h3'.out
   have e23:((s.size:Nat):Int)=3:=by have:=h3'.out; omega
   by_cases hlt:k < 3
   ·obtain ⟨c,hc⟩:∃ c,(bytesOf s).getD k 0=c:=⟨_,rfl⟩
    have hcell:wr.cell? ⟨wc.heap.size,k,none⟩=some (.int .u8 c):=by have:=(hC.at' k hlt).1; rw [if_neg (by omega),hc] at this; exact this
    have hfz:wr.frozen? ⟨wc.heap.size,k,none⟩=false:=(hC.at' k hlt).2
    have hcb:0≤c∧c≤255:=by rw [← hc]; exact Lex.byte_bd s k
    obtain ⟨hc0,hc1⟩ :=hcb
    have hlt':(k:Int) < (s.size:Int):=by omega
    replace hc:=Lib.hid hc
    have hdn:=Lib.hid (fun hup=>Lex.cells_no hC hlt hc.out hup)
    by_cases hu1:65≤c
    ·by_cases hu2:c≤90
     ·go_wp2
      go_roundw
      case rel=>exact ⟨k+1,by omega,by go_num,Lex.cells_up hC hlt hc.out ⟨hu1,hu2⟩ (by omega),hB.setCell (by simp) _⟩
      case measure=>simp [intOf]; omega
     ·have hb2:=decide_eq_false hu2
      replace hu2:=Lib.hid hu2
      go_wp2
      go_roundw
      case rel=>exact ⟨k+1,by omega,by go_num,hdn.out (fun h=>hu2.out h.2),hB⟩
      case measure=>simp [intOf]; omega
    ·have hb1:=decide_eq_false hu1
     replace hu1:=Lib.hid hu1
     go_wp2
     go_roundw
     case rel=>exact ⟨k+1,by omega,by go_num,hdn.out (fun h=>hu1.out h.1),hB⟩
     case measure=>simp [intOf]; omega
   ·obtain rfl:k=3:=by omega
    go_wp2
    have hLow:=Lex.low_of (by rw [bytesOf_length]; exact hs3.out) hC
    have hlt3:wc.heap.size < wr.heap.size:=by
     have:=(hC 0 (by omega)).1
     exact World.block_lt_of_cell? wr _ this
    obtain ⟨W0,hW0⟩:∃ W0,wr.iter nm 0=W0:=⟨_,rfl⟩
    rw [hW0]
    have hit0:W0.heap[wr.heap.size]?=some (.stringIter nm 0):=by rw [← hW0]; exact World.iter_heap wr nm 0
    have hB0:Below wc.heap.size wc W0:=by rw [← hW0]; exact hB.alloc (by omega) _
    have hL0:Lex.Low (bytesOf s) wc.heap.size W0:=Lex.low_move hLow (by rw [← hW0]; exact Below.heap_alloc wr _ _ hlt3)
    replace hW0:=Lib.hid hW0
    obtain ⟨I,hI⟩:∃ I,wr.heap.size=I:=⟨_,rfl⟩
    rw [hI] at hit0 hlt3
    rw [hI]
    have hI':=Lib.hid hI
    clear hC hLow hB
    go_loopg [44] nm.size (fun gf _ wx=>∃ pos:Nat,pos+gf=nm.size∧Hid (∀ j,3*j < pos→Lex.hit nm (Lex.lowS s) j=false)∧wx.heap[I]?=some (.stringIter nm pos)∧Lex.Low (bytesOf s) wc.heap.size wx∧Below wc.heap.size wc wx)
    case atStart=>exact ⟨0,by omega,Lib.hid (by intro j hj; omega),hit0,hL0,hB0⟩
    case round=>
     obtain ⟨pos,hg,hno,hit,hL,hb⟩ :=hrel
     have hpl:=hp.out
     by_cases hlt:pos < nm.size
     ·obtain ⟨g',rfl⟩:∃ g',gk=g'+1:=⟨gk - 1,by omega⟩
      have hasc:(nm[pos]'hlt).toNat < 128:=hpl.2.2.2.2 pos hlt
      obtain ⟨b,hbv⟩:∃ b,(nm[pos]'hlt).toNat=b:=⟨_,rfl⟩
      have hnx:∀ ty,(Instr.next (.pointer (some ⟨I,0,none⟩)) true ty).run Tryz.prog wr=_:=fun ty=>Lib.run_next_ascii_at wr I nm pos ty hit hlt hasc
      rw [hbv] at hnx
      have hit2:=Lib.iterAt_heap wr I nm pos (pos+1) hit
      have hb2:=Lex.below_it hb (k:=I) (by omega) nm (pos+1)
      have hL2:Lex.Low (bytesOf s) wc.heap.size (wr.iterAt I nm (pos+1)):=Lex.low_move hL (Lib.iterAt_other wr I wc.heap.size nm (pos+1) (by omega))
      obtain ⟨W,hW⟩:∃ W,wr.iterAt I nm (pos+1)=W:=⟨_,rfl⟩
      rw [hW] at hnx hit2 hb2 hL2
      replace hW:=Lib.hid hW
      have hpb:(pos:Int)≤100:=by have:=hpl.1; have:=hpl.2.1; omega
      have hcv:=Lex.low_conv (cap:=grownCap wc s.size 0 5) hs3.out hL2
      have hfin:Hid (first≤1∧0≤first∧nm.size=3*n∧n≤12):=Lib.hid ⟨hpl.2.2.2.1,hpl.2.2.1,hpl.1,hpl.2.1⟩
      clear hit hb hL hasc hpl hI hW0 hit0 hB0 hL0
      replace hbv:=Lib.hid hbv
      by_cases hm:pos % 3=0
      ·obtain ⟨j,hj⟩:∃ j,pos=3*j:=⟨pos / 3,by omega⟩
       have hjn:Hid (j < n):=Lib.hid (by have:=hfin.out; omega)
       have m1:((pos:Int) % 3 == 0)=true:=by rw [beq_iff_eq]; omega
       have m2:(Int.tmod (pos:Int) 3 == 0)=true:=by rw [Int.tmod_eq_emod_of_nonneg (by omega)]; exact m1
       have m3:IntKind.i64.wrap ((pos:Int)+3)=(pos:Int)+3:=IntWalk.i64_in _ (by omega)
       have hsl:=Lex.slice_run nm pos (by have:=hfin.out; omega)
       have hx:((nm.extract pos (pos+3)).toList == (Lex.lowS s).toList)=Lex.hit nm (Lex.lowS s) j:=by unfold Lex.hit; rw [hj]
       replace hj:=Lib.hid hj
       cases hh:Lex.hit nm (Lex.lowS s) j
       ·rw [hh] at hx
        replace hh:=Lib.hid hh
        go_wp2
        go_quiet (fail)
        go_wp2
        go_roundg g'
        case measure=>omega
        case rel=>
         refine ⟨pos+1,by omega,Lib.hid ?_,hit2,Lex.low_move hL2 rfl,pw_below_drewN hb2 _⟩
         intro i hi
         by_cases e:i=j
         ·rw [e]; exact hh.out
         ·exact hno.out i (by have:=hj.out; omega)
       ·rw [hh] at hx
        replace hh:=Lib.hid hh
        have hv:R=((j:Int)+first,0):=by
         rw [← hR.out,Lex.look,Lex.srch_eq (Lex.hit nm (Lex.lowS s)) n n 0 j (by omega) (by have:=hjn.out; omega) (by omega) (fun x _ hx=>hno.out x (by have:=hj.out; omega)) (fun _=>hh.out),if_pos hjn.out]
        replace hv:=Lib.hid hv
        have q1:IntKind.i64.wrap ((pos:Int) / 3)=(pos:Int) / 3:=IntWalk.i64_in _ (by omega)
        have f1:first≤1:=hfin.out.1
        have f0:0≤first:=hfin.out.2.1
        go_wp2
        go_quiet (fail)
        go_wp2
        go_ret2
        exact ⟨Lex.ret2' (by have:=hj.out; omega) rfl hv.out,pw_below_drewN hb2 _⟩
      ·have m1:((pos:Int) % 3 == 0)=false:=by rw [beq_eq_false_iff_ne]; omega
       have m2:(Int.tmod (pos:Int) 3 == 0)=false:=by rw [Int.tmod_eq_emod_of_nonneg (by omega)]; exact m1
       replace hm:=Lib.hid hm
       go_wp2
       go_quiet (fail)
       go_wp2
       go_roundg g'
       case measure=>omega
       case rel=>
        refine ⟨pos+1,by omega,Lib.hid ?_,hit2,Lex.low_move hL2 rfl,pw_below_drewN hb2 _⟩
        intro i hi
        exact hno.out i (by have:=hm.out; omega)
     ·have hnx:∀ ty,(Instr.next (.pointer (some ⟨I,0,none⟩)) true ty).run Tryz.prog wr=_:=fun ty=>Lib.run_next_end_at wr I nm pos ty hit hlt
      have hv:R=(0,2):=by
       rw [← hR.out,Lex.look,Lex.srch_eq (Lex.hit nm (Lex.lowS s)) n n 0 n (by omega) (by omega) (by omega) (fun x _ hx=>hno.out x (by have:=hpl.1; omega)) (by omega),if_neg (by omega)]
      replace hv:=Lib.hid hv
      clear hpl hit hL
      go_wp2
      go_ret2
      exact ⟨Lex.ret2 hv.out,hb⟩
def lex_Name.f (a0:ByteArray)(a1:Int):Option (Int × Int):=some (Lex.name a0 a1)
set_option maxHeartbeats 8000000 in
set_option maxRecDepth 100000 in
theorem lex_Name.calls (a0:ByteArray)(a1:Int)(r1:Int)(r2:Int)(w:World)(h:lex_Name.f a0 a1=some (r1,r2)) :
  Calls Tryz.prog 117 #[.string a0,.int .i64 a1] w fun e w'=>e=.returned (.tuple #[.int .i64 r1,.int .i64 r2])∧Below w.heap.size w w':=by
 obtain ⟨rfl,rfl⟩:r1=(Lex.name a0 a1).1∧r2=(Lex.name a0 a1).2:=by have:=Option.some.inj h; rw [this]; exact ⟨rfl,rfl⟩
 clear h
 by_cases h3:a0.size=3
 ·have:=name_calls a0 a1 w h3
  unfold Lex.name
  rw [if_neg (by omega)]
  exact this
 have hv:Hid (Lex.name a0 a1=(0,2)):=Lib.hid (by unfold Lex.name; rw [if_pos h3])
 have e1:((a0.size:Int) != 3)=true:=by simp; omega
 have e2:(a0.size != 3)=true:=by simpa using h3
 replace h3:=Lib.hid h3
 go_enter Tryz.func117,Tryz.ntmps117
 go_upto_block 0 with (fail)
 go_cut [6,7] (fun _ _ wc=>wc=w)
 case first=>
  by_cases k3:a1=3
  ·subst k3
   go_wp2
   go_meet
   case rel=>rfl
  ·have b3:(a1 == 3)=false:=by simpa using k3
   by_cases k4:a1=4
   ·subst k4
    clear k3 b3
    go_wp2
    go_meet
    case rel=>rfl
   ·have b4:(a1 == 4)=false:=by simpa using k4
    clear k3 k4
    go_wp2
    go_meet
    case rel=>rfl
 case rest=>
  subst hcut
  go_wp2
  go_ret2
  exact ⟨Lex.ret2 hv.out,Below.refl _ _⟩
/-! This session's own: lex.Value. -/
def Lex.limits (kind:Int):Int × Int × Int:=
 if kind=0 then (0,59,0) else if kind=1 then (0,23,0) else if kind=2 then (1,31,0) else if kind=3 then (1,12,0) else if kind=4 then (0,7,0) else (0,0,7)
theorem Lex.limits_f (kind:Int):lex_Limits.f kind=some (Lex.limits kind):=by
 unfold lex_Limits.f Lex.limits
 repeat' split
 all_goals rfl
def Lex.fin (lo hi:Int)(r:Int × Int):Int × Int:=if r.2=0∧(r.1 < lo∨hi < r.1) then (0,1) else r
def Lex.read (s:ByteArray)(kind:Int):Int × Int:=if 48≤bt s 0∧bt s 0≤57 then Lex.number s else Lex.name s kind
def Lex.value (s:ByteArray)(kind:Int):Int × Int:=
 if (Lex.limits kind).2.2≠0 then (0,(Lex.limits kind).2.2) else Lex.fin (Lex.limits kind).1 (Lex.limits kind).2.1 (Lex.read s kind)
set_option maxHeartbeats 8000000 in
set_option maxRecDepth 100000 in
theorem read_name (s:ByteArray)(kind:Int)(p1 p2:Addr)(W:World)(h1:W.cell? p1=some (.string s))(h2:W.cell? p2=some (.int .i64 kind)) :
  Calls Tryz.prog 116 #[.pointer (some p1),.pointer (some p2)] W fun e w'=>e=.returned (.tuple #[.int .i64 (Lex.name s kind).1,.int .i64 (Lex.name s kind).2])∧Below W.heap.size W w':=by
 go_enter Tryz.func116,Tryz.ntmps116
 go_wp2_with (go_at_call 117; refine (lex_Name.calls s kind (Lex.name s kind).1 (Lex.name s kind).2 _ rfl).mono ?_; rintro e w' ⟨rfl,hb⟩)
 go_ret2
 exact ⟨rfl,hb⟩
set_option maxHeartbeats 8000000 in
set_option maxRecDepth 100000 in
theorem read_number (s:ByteArray)(p1:Addr)(W:World)(h1:W.cell? p1=some (.string s)) :
  Calls Tryz.prog 118 #[.pointer (some p1)] W fun e w'=>e=.returned (.tuple #[.int .i64 (Lex.number s).1,.int .i64 (Lex.number s).2])∧Below W.heap.size W w':=by
 go_enter Tryz.func118,Tryz.ntmps118
 go_wp2_with (go_at_call 107; refine (lex_Number.calls s (Lex.number s).1 (Lex.number s).2 _ rfl).mono ?_; rintro e w' ⟨rfl,hb⟩)
 go_ret2
 exact ⟨rfl,hb⟩
set_option maxHeartbeats 8000000 in
set_option maxRecDepth 100000 in
theorem value_ok (s:ByteArray)(kind:Int)(lo hi n f:Int)(w:World)(hl:lex_Limits.f kind=some (lo,hi,0))(hr:Lex.read s kind=(n,f)) :
  Calls Tryz.prog 106 #[.string s,.int .i64 kind] w fun e w'=>e=.returned (.tuple #[.int .i64 (Lex.fin lo hi (n,f)).1,.int .i64 (Lex.fin lo hi (n,f)).2])∧Below w.heap.size w w':=by
 have HL:=Lib.hid hl
 have HF:Hid (f=0∧(n < lo∨hi < n)→Lex.fin lo hi (n,f)=(0,1)):=Lib.hid (fun h=>by unfold Lex.fin; rw [if_pos h])
 have HF2:Hid (¬ (f=0∧(n < lo∨hi < n))→Lex.fin lo hi (n,f)=(n,f)):=Lib.hid (fun h=>by unfold Lex.fin; rw [if_neg h])
 obtain ⟨X,hX⟩:∃ X,Lex.fin lo hi (n,f)=X:=⟨_,rfl⟩
 rw [hX] at HF HF2 ⊢
 clear hX hl
 have C28:Hid (¬ (48≤bt s 0∧bt s 0≤57)→∀ (p1 p2:Addr) (W:World),W.cell? p1=some (.string s)→W.cell? p2=some (.int .i64 kind)→
   Calls Tryz.prog 116 #[.pointer (some p1),.pointer (some p2)] W fun e w'=>e=.returned (.tuple #[.int .i64 n,.int .i64 f])∧Below W.heap.size W w'):=by
  refine Lib.hid (fun hn p1 p2 W h1 h2=>?_)
  have:=read_name s kind p1 p2 W h1 h2
  rw [Lex.read,if_neg hn] at hr
  rw [hr] at this
  exact this
 have C30:Hid ((48≤bt s 0∧bt s 0≤57)→∀ (p1:Addr) (W:World),W.cell? p1=some (.string s)→
   Calls Tryz.prog 118 #[.pointer (some p1)] W fun e w'=>e=.returned (.tuple #[.int .i64 n,.int .i64 f])∧Below W.heap.size W w'):=by
  refine Lib.hid (fun hn p1 W h1=>?_)
  have:=read_number s p1 W h1
  rw [Lex.read,if_pos hn] at hr
  rw [hr] at this
  exact this
 clear hr
 have hfin:((f == 0)=false∧X=(n,f))∨((f == 0)=true∧decide (n < lo)=true∧X=(0,1))∨((f == 0)=true∧decide (n < lo)=false∧decide (hi < n)=true∧X=(0,1))∨((f == 0)=true∧decide (n < lo)=false∧decide (hi < n)=false∧X=(n,f)):=by
  have H1:=HF.out; have H2:=HF2.out
  by_cases c1:f=0
  ·by_cases c2:n < lo
   ·exact .inr (.inl ⟨by simpa using c1,by simpa using c2,H1 ⟨c1,.inl c2⟩⟩)
   ·by_cases c3:hi < n
    ·exact .inr (.inr (.inl ⟨by simpa using c1,by simpa using c2,by simpa using c3,H1 ⟨c1,.inr c3⟩⟩))
    ·exact .inr (.inr (.inr ⟨by simpa using c1,by simpa using c2,by simpa using c3,H2 (by omega)⟩))
  ·exact .inl ⟨by simpa using c1,H2 (by omega)⟩
 clear HF HF2
 by_cases h0:s.size=0
 ·have e0:s.toList.isEmpty=true:=Lex.empty_yes h0
  have e1:(s.toList == ([]:List UInt8))=true:=by simpa using e0
  have e2:(s.toList != ([]:List UInt8))=false:=by simpa using e0
  have hd:Hid (¬ (48≤bt s 0∧bt s 0≤57)):=Lib.hid (by simp [bt,h0])
  replace h0:=Lib.hid h0
  rcases hfin with ⟨f1,hX⟩ | ⟨f1,f2,hX⟩ | ⟨f1,f2,f3,hX⟩ | ⟨f1,f2,f3,hX⟩
  all_goals
   replace hX:=Lib.hid hX
   go_enter Tryz.func106,Tryz.ntmps106
   go_wp2_with (first | (go_at_call 100; refine (lex_Limits.calls _ _ _ _ _ HL.out).mono ?_; rintro e w' ⟨rfl,⟨nd,rfl⟩⟩) | (go_at_call 116; refine (C28.out hd.out _ _ _ (by go_simp) (by go_simp)).mono ?_; rintro e w' ⟨rfl,hb⟩))
   go_ret2
   refine ⟨Lex.ret2 hX.out,?_⟩
   exact Lex.behind hb (by simp; omega) (by have HB:=Aside0.mk (Below.refl w.heap.size w); repeat (with_reducible first | exact HB.out | apply below_alloc | apply pw_below_drewN | apply below_drew1))
 ·have e0:s.toList.isEmpty=false:=Lex.empty_no h0
  have e1:(s.toList == ([]:List UInt8))=false:=by simpa using e0
  have e2:(s.toList != ([]:List UInt8))=true:=by simpa using e0
  have hx5:=Lex.index0 s (by omega)
  have hbd:=bt_range s 0
  obtain ⟨hb0,hb1⟩ :=hbd
  replace h0:=Lib.hid h0
  obtain ⟨B,hB⟩:∃ B,bt s 0=B:=⟨_,rfl⟩
  rw [hB] at hx5 hb0 hb1
  by_cases hd:48≤bt s 0∧bt s 0≤57
  ·replace hd:=Lib.hid hd
   have hdig:Hid (lex_sign_digit.f B=some true):=Lib.hid (by rw [Lex.digit_f,← hB,decide_eq_true hd.out.1,decide_eq_true hd.out.2]; rfl)
   replace hB:=Lib.hid hB
   rcases hfin with ⟨f1,hX⟩ | ⟨f1,f2,hX⟩ | ⟨f1,f2,f3,hX⟩ | ⟨f1,f2,f3,hX⟩
   all_goals
    replace hX:=Lib.hid hX
    go_enter Tryz.func106,Tryz.ntmps106
    go_wp2_with (first | (go_at_call 100; refine (lex_Limits.calls _ _ _ _ _ HL.out).mono ?_; rintro e w' ⟨rfl,⟨nd,rfl⟩⟩) | (go_at_call 101; refine (lex_sign_digit.calls _ _ _ hdig.out).mono ?_; rintro e w' ⟨rfl,⟨nd2,rfl⟩⟩) | (go_at_call 118; refine (C30.out hd.out _ _ (by go_simp)).mono ?_; rintro e w' ⟨rfl,hb⟩))
    go_ret2
    refine ⟨Lex.ret2 hX.out,?_⟩
    exact Lex.behind hb (by simp; omega) (by have HB:=Aside0.mk (Below.refl w.heap.size w); repeat (with_reducible first | exact HB.out | apply below_alloc | apply pw_below_drewN | apply below_drew1))
  ·have hdig:Hid (lex_sign_digit.f B=some false):=Lib.hid (by rw [Lex.digit_f,← hB]; congr 1; simp only [Bool.and_eq_false_iff,decide_eq_false_iff_not]; omega)
   replace hd:=Lib.hid hd
   replace hB:=Lib.hid hB
   rcases hfin with ⟨f1,hX⟩ | ⟨f1,f2,hX⟩ | ⟨f1,f2,f3,hX⟩ | ⟨f1,f2,f3,hX⟩
   all_goals
    replace hX:=Lib.hid hX
    go_enter Tryz.func106,Tryz.ntmps106
    go_wp2_with (first | (go_at_call 100; refine (lex_Limits.calls _ _ _ _ _ HL.out).mono ?_; rintro e w' ⟨rfl,⟨nd,rfl⟩⟩) | (go_at_call 101; refine (lex_sign_digit.calls _ _ _ hdig.out).mono ?_; rintro e w' ⟨rfl,⟨nd2,rfl⟩⟩) | (go_at_call 116; refine (C28.out hd.out _ _ _ (by go_simp) (by go_simp)).mono ?_; rintro e w' ⟨rfl,hb⟩))
    go_ret2
    refine ⟨Lex.ret2 hX.out,?_⟩
    exact Lex.behind hb (by simp; omega) (by have HB:=Aside0.mk (Below.refl w.heap.size w); repeat (with_reducible first | exact HB.out | apply below_alloc | apply pw_below_drewN | apply below_drew1))
def lex_Value.f (a0:ByteArray)(a1:Int):Option (Int × Int):=some (Lex.value a0 a1)
set_option maxHeartbeats 8000000 in
set_option maxRecDepth 100000 in
theorem lex_Value.calls (a0:ByteArray)(a1:Int)(r1:Int)(r2:Int)(w:World)(h:lex_Value.f a0 a1=some (r1,r2)) :
  Calls Tryz.prog 106 #[.string a0,.int .i64 a1] w fun e w'=>e=.returned (.tuple #[.int .i64 r1,.int .i64 r2])∧Below w.heap.size w w':=by
 obtain ⟨rfl,rfl⟩:r1=(Lex.value a0 a1).1∧r2=(Lex.value a0 a1).2:=by have:=Option.some.inj h; rw [this]; exact ⟨rfl,rfl⟩
 clear h
 obtain ⟨lo,hi,e,hl⟩:∃ lo hi e,Lex.limits a1=(lo,hi,e):=⟨_,_,_,rfl⟩
 have hf:=Lex.limits_f a1
 rw [hl] at hf
 by_cases he:e=0
 ·subst he
  have hv:Lex.value a0 a1=Lex.fin lo hi (Lex.read a0 a1):=by unfold Lex.value; rw [hl,if_neg (by simp)]
  obtain ⟨n,f,hr⟩:∃ n f,Lex.read a0 a1=(n,f):=⟨_,_,rfl⟩
  rw [hv,hr]
  exact value_ok a0 a1 lo hi n f w hf hr
 have hv:Hid (Lex.value a0 a1=(0,e)):=Lib.hid (by unfold Lex.value; rw [hl,if_pos he])
 have q:(e != 0)=true:=by simpa using he
 replace hf:=Lib.hid hf
 replace he:=Lib.hid he
 replace hl:=Lib.hid hl
 go_enter Tryz.func106,Tryz.ntmps106
 go_wp2_with (go_at_call 100; refine (lex_Limits.calls _ _ _ _ _ hf.out).mono ?_; rintro e w' ⟨rfl,⟨nd,rfl⟩⟩)
 go_ret2
 refine ⟨Lex.ret2 hv.out,?_⟩
 have HB:=Aside0.mk (Below.refl w.heap.size w)
 repeat (with_reducible first | exact HB.out | apply below_alloc | apply pw_below_drewN | apply below_drew1)
end Go.Proofs.YtabhfcoljgcpeaaGreatDoor.PNex
