-- Written by a program of this session (gprint.py) over the kit's print.
import Derived.Test.YtcmmmlenaahaeaaGreatDoorProg
import Derived.Below
import Derived.Deep.Draws
import Derived.Deep.AppendLies
import Derived.Maps.AppendAt
import Derived.OwnWalk
import Derived.Laws.BytesArg
import Derived.Laws.MakeOwn
import Derived.Laws.OwnMore
import Derived.Deep.OwnRows
import Derived.Tactics
import Derived.Lib.ConvBytes
import Derived.Laws.Slices
import Derived.WalkKit
import Derived.KernelRfl
import Derived.RowKit3
import Derived.Deep.LoopGhost
import Derived.Deep.QuietTactic
import Derived.BigQuiet
import Derived.WideLaws
import Derived.Deep.DeepCutAuto
import Derived.Deep.CutBlock
import Derived.Deep.RegionHeld3
import Derived.Laws.Rows
import Derived.Lib.AppendStr
import Derived.ArgAppend
import Derived.Laws.IdiomCopy
import Derived.OrdersHeld
import Derived.Laws.BitsLemmas
import Derived.RowKit
import Derived.Lib.Hide
import Derived.Lib.OthersKept
import Derived.Laws.EntriesVeiled
import Derived.Shelf.Strings.FieldsFuncAny
import Derived.LaidEql
import Derived.Stop.Asserts
import Derived.RowKitTokens
import Derived.LoopN
import Derived.Shelf.Strings.Split
import Derived.Shelf.Strings.Cut
import Derived.Shelf.Strings.Search3
import Derived.RangeFuncNested
import Derived.RangeFuncBound
import Derived.RangeFuncCalls
import Derived.RangeFuncLeaves
import Derived.Shelf.Abstract
import Derived.Shelf.RegionOpen
import Derived.OwnWalkIn
import Derived.TacticsInMore
import Derived.LoopNIn
import Derived.LoopIn
import Derived.Deep.RegionHeld3
import Derived.Deep.DeepCutAuto
import Derived.Deep.CutBlock
import Derived.Deep.RegionWith
import Derived.Scope
import Derived.Lib.ItoaNum
import Derived.Lib.Builder
import Derived.Lib.AppendStr
import Derived.Lib.UnsafeStr
import Derived.Shelf.Strconv.Itoa3
import Derived.Shelf.RegionOpenPlain
import Derived.ScopeJumps
import Derived.Test.YtcmmmlenaahaeaaGreatDoorWWords
import Derived.Test.YtcmmmlenaahaeaaGreatDoorWLast
import Derived.Test.YtcmmmlenaahaeaaGreatDoorWTab
import Derived.Test.YtcmmmlenaahaeaaGreatDoorWFour
import Derived.Test.YtcmmmlenaahaeaaGreatDoorWQPut
import Derived.Test.YtcmmmlenaahaeaaGreatDoorWApart
import Derived.Test.YtcmmmlenaahaeaaGreatDoorWArr
import Derived.Test.YtcmmmlenaahaeaaGreatDoorWZeros
import Derived.Test.YtcmmmlenaahaeaaGreatDoorWFoot
import Derived.Test.YtcmmmlenaahaeaaGreatDoorWKept
import Derived.Test.YtcmmmlenaahaeaaGreatDoorWShare
import Derived.Test.YtcmmmlenaahaeaaGreatDoorWN
import Derived.Test.YtcmmmlenaahaeaaGreatDoorWFootNe
import Derived.Test.YtcmmmlenaahaeaaGreatDoorWAt
import Derived.Test.YtcmmmlenaahaeaaGreatDoorWEqStruct
import Derived.Test.YtcmmmlenaahaeaaGreatDoorWRepsOne
import Derived.Test.YtcmmmlenaahaeaaGreatDoorWInv
import Derived.Test.YtcmmmlenaahaeaaGreatDoorWInvWords
import Derived.Test.YtcmmmlenaahaeaaGreatDoorWGuard
import Derived.Test.YtcmmmlenaahaeaaGreatDoorWNEv
import Derived.Test.YtcmmmlenaahaeaaGreatDoorWMore
namespace Go.Proofs.YtcmmmlenaahaeaaGreatDoor.PShw
open Go.RowKit Go.Proofs.YtcmmmlenaahaeaaGreatDoorW.PrintWords Go.Proofs.YtcmmmlenaahaeaaGreatDoorW.PrintLast Go.Proofs.YtcmmmlenaahaeaaGreatDoorW.PrintMore
attribute [local go_sem] max2_int min2_int max_two min_two max_three min_three max_four min_four
set_option linter.unusedVariables false
set_option linter.unusedSimpArgs false
def errW:Option Int→Value
 | none=>.nilIface
 | some c=>.iface 0 (.int .i64 c)
theorem errW_none:errW none=.nilIface:=rfl
theorem errW_some (c:Int):errW (some c)=.iface 0 (.int .i64 c):=rfl
theorem info9:(Tryz.prog.info? 9).map (fun i=>(i.zero,i.size,i.bytes))=some (some (.string ⟨#[]⟩),1,16):=by kernel_rfl
theorem info24:(Tryz.prog.info? 24).map (fun i=>(i.zero,i.size,i.bytes))=some (some (.agg #[(.int .u64 0),(.bool false)]),2,16):=by kernel_rfl
-- the values' own types
/-! #### struct type 24 -/
structure S24 where
 f0:Int
 f1:Bool
def z24:S24:=⟨(0:Int),false⟩
def k24:Kd S24:=Kd.iso (Kd.pair (Kd.int .u64) Kd.bool) (fun x:S24=>(x.f0,x.f1))
theorem k24_open {w:World}{x:S24}{cs:List Value}(h:k24.K w x cs):cs=[.int .u64 x.f0,.bool x.f1]:=by
 obtain ⟨_,_,rfl,rfl,rfl⟩ :=h
 exact rfl
theorem k24_mkM (w:World)(base:Nat)(ok:Nat→Prop)(x:S24) :k24.M w base ok x [.int .u64 x.f0,.bool x.f1]:=⟨[.int .u64 x.f0],[.bool x.f1],rfl,rfl,rfl⟩
def rd_T24 (xs:List S24)(i:Int):S24:=xs.getD i.toNat z24
theorem at_T24 {w:World}{A:Option Addr}{n:Nat}{xs:List S24}(h:Kd.C k24 w A n xs)(i:Int)(h0:0≤i)(h1:i < n):∃ ad ,A=some ad∧w.cell? (ad.add (i.toNat*2))=some (.int .u64 (rd_T24 xs i).f0)∧w.cell? ⟨(ad.add (i.toNat*2)).block,(ad.add (i.toNat*2)).off+1,none⟩=some (.bool (rd_T24 xs i).f1):=by
 obtain ⟨ad,c,e,_,hK,hc0⟩ :=Kd.C_get h z24 i h0 h1
 have hc:∀ j u,c[j]?=some u→w.cell? (ad.add (i.toNat*2+j))=some u:=hc0
 obtain rfl:=k24_open hK
 exact ⟨ad,e,hc 0 _ rfl,by rw [← add_field _ _ 1 (by omega)]; exact hc 1 _ rfl⟩
abbrev T_:Bool:=true
abbrev F_:Bool:=false
end Go.Proofs.YtcmmmlenaahaeaaGreatDoor.PShw
