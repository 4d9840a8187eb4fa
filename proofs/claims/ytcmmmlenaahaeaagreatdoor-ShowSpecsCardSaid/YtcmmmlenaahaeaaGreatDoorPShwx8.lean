-- Written by a program of this session (gprint.py) over the kit's print.
import Derived.Test.YtcmmmlenaahaeaaGreatDoorPShwx0
import Derived.Test.YtcmmmlenaahaeaaGreatDoorPShwx3
import Derived.Test.YtcmmmlenaahaeaaGreatDoorPShwx6
import Derived.Test.YtcmmmlenaahaeaaGreatDoorPShwx7
namespace Go.Proofs.YtcmmmlenaahaeaaGreatDoor.PShw
open Go.RowKit Go.Proofs.YtcmmmlenaahaeaaGreatDoorW.PrintWords Go.Proofs.YtcmmmlenaahaeaaGreatDoorW.PrintLast Go.Proofs.YtcmmmlenaahaeaaGreatDoorW.PrintMore
attribute [local go_sem] max2_int min2_int max_two min_two max_three min_three max_four min_four
set_option linter.unusedVariables false
set_option linter.unusedSimpArgs false
def Fld.lays146_ren:Go.Shelf.Ren:=⟨fun | 146=>36 | 221=>59 | 268=>86 | 138=>87 | 143=>88 | 195=>105 | 197=>106 | 218=>107 | 219=>108 | 260=>118 | 217=>119 | 225=>120 | 224=>121 | 267=>122 | 266=>125 | 314=>126 | n=>n,fun | 9=>9 | 31=>69 | 3=>3 | 4=>4 | 0=>0 | 105=>150 | 21=>21 | 5=>5 | 46=>82 | 119=>174 | 139=>177 | 138=>176 | 146=>178 | 51=>169 | n=>n,fun | 1=>3 | 3=>4 | 4=>5 | n=>n⟩
theorem Fld.lays146:Go.Proofs.Lays.n146 Tryz.prog Fld.lays146_ren:={
 mixed:=by kernel_rfl
 f138:=Tryz.func87.trans (congrArg some (by kernel_rfl))
 f143:=Tryz.func88.trans (congrArg some (by kernel_rfl))
 f146:=Tryz.func36.trans (congrArg some (by kernel_rfl))
 f195:=Tryz.func105.trans (congrArg some (by kernel_rfl))
 f197:=Tryz.func106.trans (congrArg some (by kernel_rfl))
 f217:=Tryz.func119.trans (congrArg some (by kernel_rfl))
 f218:=Tryz.func107.trans (congrArg some (by kernel_rfl))
 f219:=Tryz.func108.trans (congrArg some (by kernel_rfl))
 f221:=Tryz.func59.trans (congrArg some (by kernel_rfl))
 f224:=Tryz.func121.trans (congrArg some (by kernel_rfl))
 f225:=Tryz.func120.trans (congrArg some (by kernel_rfl))
 f260:=Tryz.func118.trans (congrArg some (by kernel_rfl))
 f266:=Tryz.func125.trans (congrArg some (by kernel_rfl))
 f267:=Tryz.func122.trans (congrArg some (by kernel_rfl))
 f268:=Tryz.func86.trans (congrArg some (by kernel_rfl))
 f314:=Tryz.func126.trans (congrArg some (by kernel_rfl))
 t0:=Tryz.underlying0
 a0:=Tryz.isAgg0
 z0:=Tryz.sizeOf0
 v0:=Tryz.zeroValue0
 t3:=Tryz.underlying3
 a3:=Tryz.isAgg3
 z3:=Tryz.sizeOf3
 v3:=Tryz.zeroValue3
 t4:=Tryz.underlying4
 a4:=Tryz.isAgg4
 z4:=Tryz.sizeOf4
 v4:=Tryz.zeroValue4
 t5:=Tryz.underlying5
 a5:=Tryz.isAgg5
 z5:=Tryz.sizeOf5
 v5:=Tryz.zeroValue5
 t9:=Tryz.underlying9
 a9:=Tryz.isAgg9
 z9:=Tryz.sizeOf9
 v9:=Tryz.zeroValue9
 t21:=Tryz.underlying21
 a21:=Tryz.isAgg21
 z21:=Tryz.sizeOf21
 v21:=Tryz.zeroValue21
 t31:=Tryz.underlying69
 a31:=Tryz.isAgg69
 z31:=Tryz.sizeOf69
 v31:=Tryz.zeroValue69
 t46:=Tryz.underlying82
 a46:=Tryz.isAgg82
 z46:=Tryz.sizeOf82
 v46:=Tryz.zeroValue82
 t51:=Tryz.underlying169
 a51:=Tryz.isAgg169
 z51:=Tryz.sizeOf169
 v51:=Tryz.zeroValue169
 t105:=Tryz.underlying150
 a105:=Tryz.isAgg150
 z105:=Tryz.sizeOf150
 v105:=Tryz.zeroValue150
 t119:=Tryz.underlying174
 a119:=Tryz.isAgg174
 z119:=Tryz.sizeOf174
 t138:=Tryz.underlying176
 a138:=Tryz.isAgg176
 z138:=Tryz.sizeOf176
 v138:=Tryz.zeroValue176
 t139:=Tryz.underlying177
 a139:=Tryz.isAgg177
 z139:=Tryz.sizeOf177
 v139:=Tryz.zeroValue177
 t146:=Tryz.underlying178
 a146:=Tryz.isAgg178
 z146:=Tryz.sizeOf178
 v146:=Tryz.zeroValue178
 g1:=by kernel_rfl
 g3:=by kernel_rfl
 g4:=by kernel_rfl }
/-- strings.Split. (LAID: no walk: one application.) -/
theorem Fld.strings_Split (s sep:ByteArray)(m:Int)(w:World)(hs:s.size < 4294967281)(hm:w.cell? ⟨3,0,none⟩=some (.int .i64 m))(h1:1≤sep.size) :
  Calls Tryz.prog 36 #[.string s,.string sep] w fun e w'=>
   e=.returned (.slice (some ⟨w.heap.size,0,none⟩) (Lib.countB s sep+1) (Lib.countB s sep+1))∧w'=w.alloc (.cells ((Lib.splitB sep 0 (Lib.countB s sep) s).map Value.string).toArray 9):=Any.strings_Split Fld.lays146 (by kernel_rfl) s sep m w hs hm h1
def Fld.lays145_ren:Go.Shelf.Ren:=⟨fun | 145=>60 | 220=>89 | 219=>108 | 217=>119 | 225=>120 | 224=>121 | 267=>122 | 266=>125 | 314=>126 | n=>n,fun | 9=>9 | 4=>4 | 59=>100 | 3=>3 | 5=>5 | 46=>82 | 146=>178 | 51=>169 | n=>n,fun | 1=>3 | n=>n⟩
theorem Fld.lays145:Go.Proofs.Lays.n145 Tryz.prog Fld.lays145_ren:={
 mixed:=by kernel_rfl
 f145:=Tryz.func60.trans (congrArg some (by kernel_rfl))
 f217:=Tryz.func119.trans (congrArg some (by kernel_rfl))
 f219:=Tryz.func108.trans (congrArg some (by kernel_rfl))
 f220:=Tryz.func89.trans (congrArg some (by kernel_rfl))
 f224:=Tryz.func121.trans (congrArg some (by kernel_rfl))
 f225:=Tryz.func120.trans (congrArg some (by kernel_rfl))
 f266:=Tryz.func125.trans (congrArg some (by kernel_rfl))
 f267:=Tryz.func122.trans (congrArg some (by kernel_rfl))
 f314:=Tryz.func126.trans (congrArg some (by kernel_rfl))
 t3:=Tryz.underlying3
 a3:=Tryz.isAgg3
 z3:=Tryz.sizeOf3
 v3:=Tryz.zeroValue3
 t4:=Tryz.underlying4
 a4:=Tryz.isAgg4
 z4:=Tryz.sizeOf4
 v4:=Tryz.zeroValue4
 t5:=Tryz.underlying5
 a5:=Tryz.isAgg5
 z5:=Tryz.sizeOf5
 v5:=Tryz.zeroValue5
 t9:=Tryz.underlying9
 a9:=Tryz.isAgg9
 z9:=Tryz.sizeOf9
 v9:=Tryz.zeroValue9
 t46:=Tryz.underlying82
 a46:=Tryz.isAgg82
 z46:=Tryz.sizeOf82
 v46:=Tryz.zeroValue82
 t51:=Tryz.underlying169
 a51:=Tryz.isAgg169
 z51:=Tryz.sizeOf169
 v51:=Tryz.zeroValue169
 t59:=Tryz.underlying100
 a59:=Tryz.isAgg100
 z59:=Tryz.sizeOf100
 v59:=Tryz.zeroValue100
 t146:=Tryz.underlying178
 a146:=Tryz.isAgg178
 z146:=Tryz.sizeOf178
 v146:=Tryz.zeroValue178
 g1:=by kernel_rfl }
/-- strings.Cut: "Cut slices s around the first instance of sep, returning the text before and after sep. The found result reports whether sep appears in s. If sep does not appear in s, cut returns s, "", false.": IT RETURNS 'Lib.cut s sep'; the world is as it was but for the count of draws. (LAID: no walk: one application.) -/
theorem Fld.strings_Cut (s sep:ByteArray)(m:Int)(w:World)(hs:s.size < 4294967281)(hm:w.cell? ⟨3,0,none⟩=some (.int .i64 m)) :
  Calls Tryz.prog 60 #[.string s,.string sep] w fun e w'=>e=.returned (.tuple #[.string ⟨(Lib.cut s.data.toList sep.data.toList).1.toArray⟩,.string ⟨(Lib.cut s.data.toList sep.data.toList).2.1.toArray⟩,.bool (Lib.cut s.data.toList sep.data.toList).2.2])∧∃ n,w'=w.drewN n:=Any.strings_Cut Fld.lays145 s sep m w hs hm
def Fld.lays144_ren:Go.Shelf.Ren:=⟨fun | 144=>61 | 143=>88 | 219=>108 | 217=>119 | 225=>120 | 224=>121 | 267=>122 | 266=>125 | 314=>126 | n=>n,fun | 9=>9 | 4=>4 | 3=>3 | 5=>5 | 46=>82 | 146=>178 | 51=>169 | n=>n,fun | 1=>3 | n=>n⟩
theorem Fld.lays144:Go.Proofs.Lays.n144 Tryz.prog Fld.lays144_ren:={
 mixed:=by kernel_rfl
 f143:=Tryz.func88.trans (congrArg some (by kernel_rfl))
 f144:=Tryz.func61.trans (congrArg some (by kernel_rfl))
 f217:=Tryz.func119.trans (congrArg some (by kernel_rfl))
 f219:=Tryz.func108.trans (congrArg some (by kernel_rfl))
 f224:=Tryz.func121.trans (congrArg some (by kernel_rfl))
 f225:=Tryz.func120.trans (congrArg some (by kernel_rfl))
 f266:=Tryz.func125.trans (congrArg some (by kernel_rfl))
 f267:=Tryz.func122.trans (congrArg some (by kernel_rfl))
 f314:=Tryz.func126.trans (congrArg some (by kernel_rfl))
 t3:=Tryz.underlying3
 a3:=Tryz.isAgg3
 z3:=Tryz.sizeOf3
 v3:=Tryz.zeroValue3
 t4:=Tryz.underlying4
 a4:=Tryz.isAgg4
 z4:=Tryz.sizeOf4
 v4:=Tryz.zeroValue4
 t5:=Tryz.underlying5
 a5:=Tryz.isAgg5
 z5:=Tryz.sizeOf5
 v5:=Tryz.zeroValue5
 t9:=Tryz.underlying9
 a9:=Tryz.isAgg9
 z9:=Tryz.sizeOf9
 v9:=Tryz.zeroValue9
 t46:=Tryz.underlying82
 a46:=Tryz.isAgg82
 z46:=Tryz.sizeOf82
 v46:=Tryz.zeroValue82
 t51:=Tryz.underlying169
 a51:=Tryz.isAgg169
 z51:=Tryz.sizeOf169
 v51:=Tryz.zeroValue169
 t146:=Tryz.underlying178
 a146:=Tryz.isAgg178
 z146:=Tryz.sizeOf178
 v146:=Tryz.zeroValue178
 g1:=by kernel_rfl }
/-- strings.Contains: "Contains reports whether substr is within s.": IT RETURNS 'Lib.contains s substr'; the world is as it was. (LAID: no walk: one application.) -/
theorem Fld.strings_Contains (s sub:ByteArray)(m:Int)(w:World)(hs:s.size < 4294967281)(hm:w.cell? ⟨3,0,none⟩=some (.int .i64 m)) :
  Calls Tryz.prog 61 #[.string s,.string sub] w fun e w'=>e=.returned (.bool (Lib.contains s.data.toList sub.data.toList))∧w'=w:=Any.strings_Contains Fld.lays144 s sub m w hs hm
/-! This session's own: errors.As at a target of *api.Errno and an error that wraps one (field.fault), after the kit's worked example of errors.As. -/
section
open Go.Extern.Stop Go.Stop Go.Extern
theorem As.valueOfP (t:Addr)(w:World):(ReflectliteValue.unpack (.iface 108 (.pointer (some t)))).run Tryz.prog w=.ok (.agg #[.pointer (some ⟨7,108,none⟩),.pointer (some ⟨w.heap.size,0,none⟩),.int .u64 150]) (w.alloc (.cells #[.pointer (some t)] 108)):=by kernel_rfl
theorem As.typeP (a:Addr)(w:World):(ReflectliteValue.methodAny (ReflectliteValue.valueError "reflectlite.Value.Type" 0) (fun t _ _ _=>ReflectliteType.toType t) #[.agg #[.pointer (some ⟨7,108,none⟩),.pointer (some a),.int .u64 150]]).run Tryz.prog w=.ok (.iface 154 (.agg #[.pointer (some ⟨7,108,none⟩)])) w:=by kernel_rfl
theorem As.methodKind (h:Value)(w:World):(Go.method 307 154 (.agg #[h]) "Kind").run Tryz.prog w=.ok ((141,h)) w:=by kernel_rfl
theorem As.methodElem (h:Value)(w:World):(Go.method 307 154 (.agg #[h]) "Elem").run Tryz.prog w=.ok ((154,.agg #[h])) w:=by kernel_rfl
theorem As.methodImplements (h:Value)(w:World):(Go.method 307 154 (.agg #[h]) "Implements").run Tryz.prog w=.ok ((155,.agg #[h])) w:=by kernel_rfl
theorem As.methodAssignableTo (h:Value)(w:World):(Go.method 307 154 (.agg #[h]) "AssignableTo").run Tryz.prog w=.ok ((152,.agg #[h])) w:=by kernel_rfl
theorem As.kindP (w:World):((ReflectliteType.abiMethod fun t=>(fun a:Nat=>Value.int IntKind.u8 (a:Int)) <$> Rtype.kind t) #[.pointer (some ⟨7,108,none⟩)]).run Tryz.prog w=.ok (.int .u8 22) w:=by kernel_rfl
theorem As.kindE (w:World):((ReflectliteType.abiMethod fun t=>(fun a:Nat=>Value.int IntKind.u8 (a:Int)) <$> Rtype.kind t) #[.pointer (some ⟨7,26,none⟩)]).run Tryz.prog w=.ok (.int .u8 2) w:=by kernel_rfl
theorem As.elemP (w:World):(ReflectliteType.method ReflectliteType.elem #[.agg #[.pointer (some ⟨7,108,none⟩)]]).run Tryz.prog w=.ok (.iface 154 (.agg #[.pointer (some ⟨7,26,none⟩)])) w:=by kernel_rfl
theorem As.implementsE (w:World):(ReflectliteType.relation "Implements" ReflectliteType.implements_ #[.agg #[.pointer (some ⟨7,26,none⟩)],.iface 154 (.agg #[.pointer (some ⟨7,77,none⟩)])]).run Tryz.prog w=.ok (.bool true) w:=by kernel_rfl
theorem As.typeOfF (v:Value)(w:World):(ReflectliteType.typeOf #[.iface 124 v]).run Tryz.prog w=.ok (.iface 154 (.agg #[.pointer (some ⟨7,124,none⟩)])) w:=by kernel_rfl
theorem As.typeOfE (v:Value)(w:World):(ReflectliteType.typeOf #[.iface 26 v]).run Tryz.prog w=.ok (.iface 154 (.agg #[.pointer (some ⟨7,26,none⟩)])) w:=by kernel_rfl
theorem As.assignFE (w:World):(ReflectliteType.relation "AssignableTo" ReflectliteType.assignableTo #[.agg #[.pointer (some ⟨7,124,none⟩)],.iface 154 (.agg #[.pointer (some ⟨7,26,none⟩)])]).run Tryz.prog w=.ok (.bool false) w:=by kernel_rfl
theorem As.assignEE (w:World):(ReflectliteType.relation "AssignableTo" ReflectliteType.assignableTo #[.agg #[.pointer (some ⟨7,26,none⟩)],.iface 154 (.agg #[.pointer (some ⟨7,26,none⟩)])]).run Tryz.prog w=.ok (.bool true) w:=by kernel_rfl
theorem As.valueOfE (n:Int)(w:World):(ReflectliteValue.unpack (.iface 26 (.int .i64 n))).run Tryz.prog w=.ok (.agg #[.pointer (some ⟨7,26,none⟩),.pointer (some ⟨w.heap.size,0,none⟩),.int .u64 130]) (w.alloc (.cells #[.int .i64 n] 26)):=by kernel_rfl
theorem As.partsP (a:Addr)(w:World):(ReflectliteValue.parts (.agg #[.pointer (some ⟨7,108,none⟩),.pointer (some a),.int .u64 150])).run Tryz.prog w=.ok (some (108,a,150)) w:=by kernel_rfl
theorem As.elemOfP (w:World):(Rtype.elem? 108).run Tryz.prog w=.ok (some 26) w:=by kernel_rfl
theorem As.mkE (p:Addr)(w:World):(ReflectliteValue.mk 26 p ReflectliteValue.flagAddr).run Tryz.prog w=.ok (.agg #[.pointer (some ⟨7,26,none⟩),.pointer (some p),.int .u64 386]) w:=by kernel_rfl
theorem As.partsEa (a:Addr)(w:World):(ReflectliteValue.parts (.agg #[.pointer (some ⟨7,26,none⟩),.pointer (some a),.int .u64 386])).run Tryz.prog w=.ok (some (26,a,386)) w:=by kernel_rfl
theorem As.partsE (a:Addr)(w:World):(ReflectliteValue.parts (.agg #[.pointer (some ⟨7,26,none⟩),.pointer (some a),.int .u64 130])).run Tryz.prog w=.ok (some (26,a,130)) w:=by kernel_rfl
theorem As.directE (w:World):(Rtype.directlyAssignable 26 26).run Tryz.prog w=.ok (true) w:=by kernel_rfl
theorem As.rlm (z:Sem Value)(f:TypeId→Addr→Nat→Nat→Sem Value)(v:Value) :
  ReflectliteValue.method z f #[v]=(do match ← ReflectliteValue.parts v with | none=>z | some (t,a,fl)=>f t a fl (fl % 32)):=rfl
theorem As.isNilP (a p:Addr)(W:World)(ha:W.cell? a=some (.pointer (some p))) :
  (ReflectliteValue.method (ReflectliteValue.valueError "reflectlite.Value.IsNil" 0) ReflectliteValue.isNil #[.agg #[.pointer (some ⟨7,108,none⟩),.pointer (some a),.int .u64 150]]).run Tryz.prog W=.ok (.bool false) W:=by
 rw [As.rlm]
 simp only [Sem.run_bind,As.partsP,Result.andThen]
 simp [ReflectliteValue.isNil,loadVar,isAgg,underlying,Tryz.underlying108,ha,Result.andThen]
theorem As.elemVP (a p:Addr)(W:World)(ha:W.cell? a=some (.pointer (some p))) :
  (ReflectliteValue.method (ReflectliteValue.valueError "reflectlite.Value.Elem" 0) ReflectliteValue.elem #[.agg #[.pointer (some ⟨7,108,none⟩),.pointer (some a),.int .u64 150]]).run Tryz.prog W=.ok (.agg #[.pointer (some ⟨7,26,none⟩),.pointer (some p),.int .u64 386]) W:=by
 rw [As.rlm]
 simp only [Sem.run_bind,As.partsP,Result.andThen]
 simp [ReflectliteValue.elem,loadVar,isAgg,underlying,Tryz.underlying108,ha,Result.andThen,As.elemOfP,As.mkE]
theorem As.rls (v x:Value):ReflectliteValue.set #[v,x]=(do
  let (some (dst,a,fl),some (src,b,_)):=(← ReflectliteValue.parts v,← ReflectliteValue.parts x)
   | unsupported (.noEntry "extern/(internal/reflectlite.Value).Set.zeroValue")
  if fl / ReflectliteValue.flagAddr % 2 == 0 then unsupported (.noEntry "extern/(internal/reflectlite.Value).Set.unaddressable")
  let val ← loadVar src b
  if ← Rtype.directlyAssignable dst src then storeVar dst a val
  else if ← Rtype.implements dst src then
   if (← Rtype.kind src) == 20 then
    match val with
    | .nilIface=>unsupported (.noEntry "extern/reflectlite: a nil value of one interface type handed on as a value of another")
    | _=>storeVar dst a val
   else storeVar dst a (.iface src val)
  else panicString ("reflectlite.Set: value of type " ++ (← Rtype.spelt src) ++ " is not assignable to type " ++ (← Rtype.spelt dst))
  pure (.tuple #[])):=rfl
theorem As.setE (ta b:Addr)(n:Int)(old:Value)(W:World)(hb:W.cell? b=some (.int .i64 n))(ht:W.cell? ta=some old)(hf:W.frozen? ta=false) :
  (ReflectliteValue.set #[.agg #[.pointer (some ⟨7,26,none⟩),.pointer (some ta),.int .u64 386],.agg #[.pointer (some ⟨7,26,none⟩),.pointer (some b),.int .u64 130]]).run Tryz.prog W=.ok (.tuple #[]) (W.setCell ta (.int .i64 n)):=by
 rw [As.rls]
 simp only [Sem.run_bind,As.partsEa,As.partsE,Result.andThen]
 simp [ReflectliteValue.flagAddr,loadVar,isAgg,underlying,Tryz.underlying26,hb,Result.andThen,As.directE,storeVar,Value.cells,storeCells,Addr.add]
 rw [run_store Tryz.prog W ta _ _ (by rfl)]
 simp [ht,hf]
end
/-! This session's own: field's errors: wrong, Unwrap, number; errors.As. -/
/-- What field.wrong tells of an error's number, in a world: nil, or a fault that holds it. -/
def Fld.ErrIs (v:Value)(e:Int)(w:World):Prop:=
 (e=0∧v=.nilIface)∨(e≠0∧∃ b,b < w.heap.size∧v=.iface 124 (.pointer (some ⟨b,0,none⟩))∧w.cell? ⟨b,0,none⟩=some (.int .i64 e))
set_option maxHeartbeats 4000000 in
theorem Fld.wrong_zero (w:World):Calls Tryz.prog 62 #[.int .i64 0] w fun e w'=>e=.returned .nilIface∧w'=w:=by
 go_enter Tryz.func62,Tryz.ntmps62
 go_wp2
 go_ret
 exact ⟨rfl,rfl⟩
set_option maxHeartbeats 4000000 in
theorem Fld.wrong_some (n:Int)(w:World)(h:(n == 0)=false):Calls Tryz.prog 62 #[.int .i64 n] w fun e w'=>e=.returned (.iface 124 (.pointer (some ⟨w.heap.size,0,none⟩)))∧w'=w.alloc (.cells #[.int .i64 n] 126):=by
 go_enter Tryz.func62,Tryz.ntmps62
 go_wp2
 go_ret
 exact ⟨rfl,rfl⟩
section
open Go.Extern.Stop Go.Stop Go.Extern
theorem As.noAs (v:Value)(xT:TypeId)(w:World):(Instr.typeAssert (.iface 124 v) xT 159 true).run Tryz.prog w=.ok (.tuple #[.nilIface,.bool false]) w:=run_typeAssert_lacksB Tryz.underlying159 (by kernel_rfl) (by kernel_rfl) v xT w
theorem As.hasUnwrap (v:Value)(xT:TypeId)(w:World):(Instr.typeAssert (.iface 124 v) xT 162 true).run Tryz.prog w=.ok (.tuple #[.iface 124 v,.bool true]) w:=run_typeAssert_hasB Tryz.underlying162 (by kernel_rfl) v xT w
theorem As.methodUnwrap (h:Value)(w:World):(Go.method 307 124 h "Unwrap").run Tryz.prog w=.ok (147,h) w:=by kernel_rfl
set_option maxHeartbeats 4000000 in
theorem As.as_hit (b a t:Addr)(n:Int)(old:Value)(w:World)(hb:w.cell? b=some (.int .i64 n))(ha:w.cell? a=some (.pointer (some t)))(ht:w.cell? t=some old)(hf:w.frozen? t=false) :
  Calls Tryz.prog 97 #[.iface 124 (.pointer (some b)),.iface 108 (.pointer (some t)),.agg #[.pointer (some ⟨7,108,none⟩),.pointer (some a),.int .u64 150],.iface 154 (.agg #[.pointer (some ⟨7,26,none⟩)])] w
   fun ev w'=>ev=.returned (.bool true)∧w'=((w.alloc (.cells #[.pointer (some ⟨7,108,none⟩),.pointer (some a),.int .u64 150] 131)).alloc (.cells #[.int .i64 n] 26)).setCell t (.int .i64 n):=by
 have h66:=@run_callFunc_extern Tryz.prog 109 _ ReflectliteType.typeOf Tryz.func109 (by kernel_rfl) (by kernel_rfl) (by kernel_rfl) (by kernel_rfl)
 have h56:=@run_callFunc_extern Tryz.prog 94 _ (fun args=>ReflectliteValue.unpack (args.getD 0 (.tuple #[]))) Tryz.func94 (by kernel_rfl) (by kernel_rfl) (by kernel_rfl) (by kernel_rfl)
 have h102:=@run_callFunc_extern Tryz.prog 152 _ (ReflectliteType.relation "AssignableTo" ReflectliteType.assignableTo) Tryz.func152 (by kernel_rfl) (by kernel_rfl) (by kernel_rfl) (by kernel_rfl)
 have h67:=@run_callFunc_extern Tryz.prog 110 _ (ReflectliteValue.method (ReflectliteValue.valueError "reflectlite.Value.Elem" 0) ReflectliteValue.elem) Tryz.func110 (by kernel_rfl) (by kernel_rfl) (by kernel_rfl) (by kernel_rfl)
 have h68:=@run_callFunc_extern Tryz.prog 111 _ ReflectliteValue.set Tryz.func111 (by kernel_rfl) (by kernel_rfl) (by kernel_rfl) (by kernel_rfl)
 have f1:=As.typeOfF; have f2:=As.typeOfE; have f3:=As.methodAssignableTo; have f4:=As.assignFE; have f5:=As.assignEE; have f6:=As.noAs; have f7:=As.hasUnwrap; have f8:=As.methodUnwrap; have f9:=As.valueOfE
 have hbl:=World.block_lt_of_cell? _ _ hb
 have hal:=World.block_lt_of_cell? _ _ ha
 have htl:=World.block_lt_of_cell? _ _ ht
 have hb1:(w.alloc (.cells #[.pointer (some ⟨7,108,none⟩),.pointer (some a),.int .u64 150] 131)).cell? b=some (.int .i64 n):=(World.cell?_alloc_lt _ _ b hbl).trans hb
 have el:=As.elemVP a t (w.alloc (.cells #[.pointer (some ⟨7,108,none⟩),.pointer (some a),.int .u64 150] 131)) ((World.cell?_alloc_lt _ _ a hal).trans ha)
 have st:=As.setE t ⟨w.heap.size+1,0,none⟩ n old ((w.alloc (.cells #[.pointer (some ⟨7,108,none⟩),.pointer (some a),.int .u64 150] 131)).alloc (.cells #[.int .i64 n] 26))
  (by rw [World.cell?_alloc_at _ _ _ _ (by simp)]; rfl)
  (by rw [World.cell?_alloc_lt _ _ t (by simp; omega),World.cell?_alloc_lt _ _ t htl]; exact ht)
  (by rw [World.frozen?_alloc_old _ _ t (by simp; omega),World.frozen?_alloc_old _ _ t (Nat.ne_of_lt htl)]; exact hf)
 obtain ⟨bb,bo,bn⟩ :=b
 go_enter Tryz.func97,Tryz.ntmps97
 go_wp2
 refine wp_loop_rounds 2 ?_
 rw [rounds_succ]
 go_wp2
 rw [rounds_succ]
 go_wp2
 go_ret
 exact ⟨rfl,rfl⟩
end
section
open Go.Extern.Stop Go.Stop Go.Extern
/-- What errors.As leaves: four blocks of its own, and the number in the target. -/
def As.left (w:World)(t:Addr)(n:Int):World:=
 ((((w.alloc (.cells #[.pointer (some t)] 108)).alloc (.cells #[.pointer (some ⟨7,108,none⟩),.pointer (some ⟨w.heap.size,0,none⟩),.int .u64 150] 131)).alloc (.cells #[.pointer (some ⟨7,108,none⟩),.pointer (some ⟨w.heap.size,0,none⟩),.int .u64 150] 131)).alloc (.cells #[.int .i64 n] 26)).setCell t (.int .i64 n)
set_option maxHeartbeats 4000000 in
theorem As.As_hit (b t:Addr)(n:Int)(old:Value)(w:World)(hg:w.cell? ⟨0,0,none⟩=some (.iface 154 (.agg #[.pointer (some ⟨7,77,none⟩)])))(hb:w.cell? b=some (.int .i64 n))(ht:w.cell? t=some old)(hf:w.frozen? t=false) :
  Calls Tryz.prog 65 #[.iface 124 (.pointer (some b)),.iface 108 (.pointer (some t))] w
   fun ev w'=>ev=.returned (.bool true)∧w'=As.left w t n:=by
 have h56:=@run_callFunc_extern Tryz.prog 94 _ (fun args=>ReflectliteValue.unpack (args.getD 0 (.tuple #[]))) Tryz.func94 (by kernel_rfl) (by kernel_rfl) (by kernel_rfl) (by kernel_rfl)
 have h57:=@run_callFunc_extern Tryz.prog 95 _ (ReflectliteValue.methodAny (ReflectliteValue.valueError "reflectlite.Value.Type" 0) (fun t _ _ _=>ReflectliteType.toType t)) Tryz.func95 (by kernel_rfl) (by kernel_rfl) (by kernel_rfl) (by kernel_rfl)
 have h58:=@run_callFunc_extern Tryz.prog 96 _ (ReflectliteValue.method (ReflectliteValue.valueError "reflectlite.Value.IsNil" 0) ReflectliteValue.isNil) Tryz.func96 (by kernel_rfl) (by kernel_rfl) (by kernel_rfl) (by kernel_rfl)
 have h91:=@run_callFunc_extern Tryz.prog 141 _ (ReflectliteType.abiMethod fun t=>do pure (.int .u8 (← Rtype.kind t))) Tryz.func141 (by kernel_rfl) (by kernel_rfl) (by kernel_rfl) (by kernel_rfl)
 have h104:=@run_callFunc_extern Tryz.prog 154 _ (ReflectliteType.method ReflectliteType.elem) Tryz.func154 (by kernel_rfl) (by kernel_rfl) (by kernel_rfl) (by kernel_rfl)
 have h105:=@run_callFunc_extern Tryz.prog 155 _ (ReflectliteType.relation "Implements" ReflectliteType.implements_) Tryz.func155 (by kernel_rfl) (by kernel_rfl) (by kernel_rfl) (by kernel_rfl)
 have f1:=As.valueOfP; have f2:=As.typeP; have f3:=As.methodKind; have f4:=As.methodElem; have f5:=As.methodImplements; have f6:=As.kindP; have f7:=As.kindE; have f8:=As.elemP; have f9:=As.implementsE
 have hbl:=World.block_lt_of_cell? _ _ hb
 have htl:=World.block_lt_of_cell? _ _ ht
 have hgl:=World.block_lt_of_cell? _ _ hg
 have n8:=As.isNilP ⟨w.heap.size,0,none⟩ t ((w.alloc (.cells #[.pointer (some t)] 108)).alloc (.cells #[.pointer (some ⟨7,108,none⟩),.pointer (some ⟨w.heap.size,0,none⟩),.int .u64 150] 131)) (by simp)
 have hg2:((w.alloc (.cells #[.pointer (some t)] 108)).alloc (.cells #[.pointer (some ⟨7,108,none⟩),.pointer (some ⟨w.heap.size,0,none⟩),.int .u64 150] 131)).cell? ⟨0,0,none⟩=some (.iface 154 (.agg #[.pointer (some ⟨7,77,none⟩)])):=by
  rw [World.cell?_alloc_lt _ _ ⟨0,0,none⟩ (by first | (simp; done) | (simp; omega)),World.cell?_alloc_lt _ _ ⟨0,0,none⟩ hgl]; exact hg
 have C:=As.as_hit b ⟨w.heap.size,0,none⟩ t n old ((w.alloc (.cells #[.pointer (some t)] 108)).alloc (.cells #[.pointer (some ⟨7,108,none⟩),.pointer (some ⟨w.heap.size,0,none⟩),.int .u64 150] 131))
  (by rw [World.cell?_alloc_lt _ _ b (by simp; omega),World.cell?_alloc_lt _ _ b hbl]; exact hb) (by simp)
  (by rw [World.cell?_alloc_lt _ _ t (by simp; omega),World.cell?_alloc_lt _ _ t htl]; exact ht)
  (by rw [World.frozen?_alloc_old _ _ t (by simp; omega),World.frozen?_alloc_old _ _ t (Nat.ne_of_lt htl)]; exact hf)
 replace C:=Lib.hid C
 unfold As.left
 go_enter Tryz.func65,Tryz.ntmps65
 go_wp2_with (go_at_call 97; refine C.out.mono ?_; rintro e w' ⟨rfl,rfl⟩)
 go_ret
 exact ⟨rfl,rfl⟩
set_option maxHeartbeats 4000000 in
/-- field.number at a fault: its number. -/
theorem Fld.number_hit (b:Nat)(n:Int)(w:World)(hT:Tab w)(hb:w.cell? ⟨b,0,none⟩=some (.int .i64 n)) :
  Calls Tryz.prog 40 #[.iface 124 (.pointer (some ⟨b,0,none⟩))] w fun ev w'=>ev=.returned (.int .i64 n)∧Below w.heap.size w w':=by
 have hbl:=World.block_lt_of_cell? _ _ hb
 have hgl:=World.block_lt_of_cell? _ _ hT.2.1
 have C:=As.As_hit ⟨b,0,none⟩ ⟨w.heap.size,0,none⟩ n (.int .i64 0) (w.alloc (.cells #[.int .i64 0] 26))
  ((World.cell?_alloc_lt _ _ _ hgl).trans hT.2.1) ((World.cell?_alloc_lt _ _ _ hbl).trans hb) (by simp) (by simp)
 obtain ⟨W,hW⟩:∃ W,As.left (w.alloc (.cells #[.int .i64 0] 26)) ⟨w.heap.size,0,none⟩ n=W:=⟨_,rfl⟩
 have hc:W.cell? ⟨w.heap.size,0,none⟩=some (.int .i64 n):=by
  rw [← hW]; unfold As.left
  refine World.cell?_setCell_same' _ _ _ ?_
  rw [World.cell?_alloc_lt _ _ _ (by simp; omega),World.cell?_alloc_lt _ _ _ (by simp; omega),World.cell?_alloc_lt _ _ _ (by simp; omega),World.cell?_alloc_lt _ _ _ (by simp)]
  simp
 have hbw:Below w.heap.size w W:=by
  rw [← hW]; unfold As.left
  exact ((((((Below.refl _ _).alloc (Nat.le_refl _) _).alloc (by simp) _).alloc (by simp; omega) _).alloc (by simp; omega) _).alloc (by simp; omega) _).setCell (by simp) _
 rw [hW] at C
 replace hW:=Lib.hid hW
 replace C:=Lib.hid C
 clear hb hT
 go_enter Tryz.func40,Tryz.ntmps40
 go_wp2_with (go_at_call 65; refine C.out.mono ?_; rintro e w' ⟨rfl,rfl⟩)
 go_ret
 exact ⟨rfl,hbw⟩
end
/-! This session's own: an item that is read, in memory (block g); what a call keeps that writes to it alone. -/
def Fld.It (w:World)(g:Nat)(text ahead behind:ByteArray)(cut:Bool)(ends:Value)(kind fr tt by_:Int):Prop:=
 w.heap[g]?=some (.cells #[.string text,.string ahead,.string behind,.bool cut,ends,.int .i64 kind,.int .i64 fr,.int .i64 tt,.int .i64 by_] 73 (0,0))
/-- All but block g is as it was; what is new is new. -/
def Fld.Only (g:Nat)(w w':World):Prop:=w.grownBy w' (some g)
theorem Fld.Only.refl (g:Nat)(w:World):Fld.Only g w w:=⟨rfl,rfl,rfl,Nat.le_refl _,fun _ _ _=>rfl⟩
theorem Fld.Only.trans {g:Nat}{a b c:World}(h:Fld.Only g a b)(k:Fld.Only g b c):Fld.Only g a c:=
 ⟨k.os.trans h.os,k.tape.trans h.tape,k.output.trans h.output,Nat.le_trans h.size k.size,fun i hi hn=>(k.block i (Nat.lt_of_lt_of_le hi h.size) hn).trans (h.block i hi hn)⟩
theorem Fld.Only.below {g:Nat}{w w':World}(h:Below w.heap.size w w'):Fld.Only g w w':=⟨h.os,h.tape,h.output,h.size,fun i hi _=>h.block i hi⟩
theorem Fld.Only.set {g:Nat}{w w':World}(h:Fld.Only g w w')(j:Nat)(u:Value):Fld.Only g w (w'.setCell ⟨g,j,none⟩ u):=
 h.trans ⟨rfl,rfl,rfl,by rw [World.size_setCell]; exact Nat.le_refl _,fun i _ hn=>Below.heap_setCell w' ⟨g,j,none⟩ u i (fun e=>hn (by rw [e]))⟩
theorem Fld.Only.alloc {g:Nat}{w w':World}(h:Fld.Only g w w')(o:Obj):Fld.Only g w (w'.alloc o):=h.trans (.below (below_alloc (Below.refl _ _) o))
theorem Fld.Only.drewN {g:Nat}{w w':World}(h:Fld.Only g w w')(n:Nat):Fld.Only g w (w'.drewN n):=h.trans (.below (pw_below_drewN (Below.refl _ _) n))
theorem Fld.Only.then_ {g:Nat}{w w' w2:World}(h:Fld.Only g w w')(k:Below w'.heap.size w' w2):Fld.Only g w w2:=h.trans (.below k)
/-- From the block on: as a Below. -/
theorem Fld.Only.to_below {g B:Nat}{w w':World}(h:Fld.Only g w w')(hB:B≤g)(hw:B≤w.heap.size):Below B w w':=⟨h.os,h.tape,h.output,h.size,fun k hk=>h.block k (by omega) (fun e=>by injection e; omega)⟩
theorem Fld.Only.blk {g k:Nat}{w w':World}{o:Obj}(h:Fld.Only g w w')(hk:w.heap[k]?=some o)(hn:k≠g):w'.heap[k]?=some o:=(h.block k (blk_lt hk) (fun e=>hn (by injection e))).trans hk
theorem Fld.Only.tab {g:Nat}{w w':World}(h:Fld.Only g w w')(hg:4≤g)(hT:Tab w):Tab w':=by
 obtain ⟨h1,h2,m,h3⟩ :=hT
 have k:∀ (a:Addr) (v:Value),a.block < 4→w.cell? a=some v→w'.cell? a=some v:=fun a v hb ha=>by
  have:=h.block a.block (World.block_lt_of_cell? _ _ ha) (fun e=>by injection e; omega)
  simpa [World.cell?,this] using ha
 exact ⟨fun i hi=>k _ _ (by show 1 < 4; decide) (h1 i hi),k _ _ (by decide) h2,m,k _ _ (by decide) h3⟩
section
variable {w w':World} {g:Nat} {text ahead behind:ByteArray} {cut:Bool} {ends:Value} {kind fr tt by_:Int}
theorem Fld.It.lt (h:Fld.It w g text ahead behind cut ends kind fr tt by_):g < w.heap.size:=blk_lt h
theorem Fld.It.cells (h:Fld.It w g text ahead behind cut ends kind fr tt by_) :
  w.cell? ⟨g,0,none⟩=some (.string text)∧w.cell? ⟨g,1,none⟩=some (.string ahead)∧w.cell? ⟨g,2,none⟩=some (.string behind)∧w.cell? ⟨g,3,none⟩=some (.bool cut)∧w.cell? ⟨g,4,none⟩=some ends∧
  w.cell? ⟨g,5,none⟩=some (.int .i64 kind)∧w.cell? ⟨g,6,none⟩=some (.int .i64 fr)∧w.cell? ⟨g,7,none⟩=some (.int .i64 tt)∧w.cell? ⟨g,8,none⟩=some (.int .i64 by_):=
 ⟨(blk_cell h 0).trans rfl,(blk_cell h 1).trans rfl,(blk_cell h 2).trans rfl,(blk_cell h 3).trans rfl,(blk_cell h 4).trans rfl,(blk_cell h 5).trans rfl,(blk_cell h 6).trans rfl,(blk_cell h 7).trans rfl,(blk_cell h 8).trans rfl⟩
theorem Fld.It.frozen (h:Fld.It w g text ahead behind cut ends kind fr tt by_)(j:Nat):w.frozen? ⟨g,j,none⟩=false:=blk_frozen h j
theorem Fld.It.below (h:Fld.It w g text ahead behind cut ends kind fr tt by_)(hb:Below w.heap.size w w'):Fld.It w' g text ahead behind cut ends kind fr tt by_:=blk_below h hb
theorem Fld.It.set1 (h:Fld.It w g text ahead behind cut ends kind fr tt by_)(x:ByteArray):Fld.It (w.setCell ⟨g,1,none⟩ (.string x)) g text x behind cut ends kind fr tt by_:=blk_put h 1 _ rfl
theorem Fld.It.set2 (h:Fld.It w g text ahead behind cut ends kind fr tt by_)(x:ByteArray):Fld.It (w.setCell ⟨g,2,none⟩ (.string x)) g text ahead x cut ends kind fr tt by_:=blk_put h 2 _ rfl
theorem Fld.It.set3 (h:Fld.It w g text ahead behind cut ends kind fr tt by_)(x:Bool):Fld.It (w.setCell ⟨g,3,none⟩ (.bool x)) g text ahead behind x ends kind fr tt by_:=blk_put h 3 _ rfl
theorem Fld.It.set4 (h:Fld.It w g text ahead behind cut ends kind fr tt by_)(x:Value):Fld.It (w.setCell ⟨g,4,none⟩ x) g text ahead behind cut x kind fr tt by_:=blk_put h 4 _ rfl
theorem Fld.It.set6 (h:Fld.It w g text ahead behind cut ends kind fr tt by_)(x:Int):Fld.It (w.setCell ⟨g,6,none⟩ (.int .i64 x)) g text ahead behind cut ends kind x tt by_:=blk_put h 6 _ rfl
theorem Fld.It.set7 (h:Fld.It w g text ahead behind cut ends kind fr tt by_)(x:Int):Fld.It (w.setCell ⟨g,7,none⟩ (.int .i64 x)) g text ahead behind cut ends kind fr x by_:=blk_put h 7 _ rfl
theorem Fld.It.set8 (h:Fld.It w g text ahead behind cut ends kind fr tt by_)(x:Int):Fld.It (w.setCell ⟨g,8,none⟩ (.int .i64 x)) g text ahead behind cut ends kind fr tt x:=blk_put h 8 _ rfl
end
/-! This session's own: (*item).split. -/
def Fld.cutL (s:ByteArray):ByteArray × ByteArray × Bool:=(⟨(Lib.cut s.data.toList [47]).1.toArray⟩,⟨(Lib.cut s.data.toList [47]).2.1.toArray⟩,(Lib.cut s.data.toList [47]).2.2)
def Fld.parts (c:UInt8)(s:ByteArray):List ByteArray:=Lib.splitB ⟨#[c]⟩ 0 (Lib.countB s ⟨#[c]⟩) s
theorem Fld.parts_len (c:UInt8)(s:ByteArray):(Fld.parts c s).length=Lib.countB s ⟨#[c]⟩+1:=Lib.splitB_all ⟨#[c]⟩ (by show 1≤1; omega) 0 _ s rfl
/-- What is wrong with an item's form. -/
def Fld.splitE (s:ByteArray):Int:=
 if Lib.contains (Fld.cutL s).2.1.data.toList [47]=true∨2 < (Fld.parts 45 (Fld.cutL s).1).length then 2
 else if (Fld.cutL s).2.2=true∧¬ (Fld.cutL s).1.toList=[42]∧(Fld.parts 45 (Fld.cutL s).1).length < 2 then 2 else 0
theorem Fld.cut_size (s:ByteArray):(Fld.cutL s).1.size≤s.size∧(Fld.cutL s).2.1.size≤s.size:=by
 have h:(Lib.cut s.data.toList [47]).1.length≤s.size∧(Lib.cut s.data.toList [47]).2.1.length≤s.size:=by
  unfold Lib.cut
  have e:s.data.toList.length=s.size:=by rw [Array.length_toList]; rfl
  split
  ·simp only [List.length_take,List.length_drop]; omega
  ·simp [e]
 exact ⟨by show (Lib.cut s.data.toList [47]).1.toArray.size≤_; simpa using h.1,by show (Lib.cut s.data.toList [47]).2.1.toArray.size≤_; simpa using h.2⟩
def Fld.SplitPost (s:ByteArray)(g:Nat)(kind fr tt by_:Int)(w:World)(e:Ending)(w':World):Prop:=
 ∃ (v:Value) (q:Nat),e=.returned v∧Fld.ErrIs v (Fld.splitE s) w'∧q≠g∧w.heap.size≤q∧
  Fld.It w' g s (Fld.cutL s).1 (Fld.cutL s).2.1 (Fld.cutL s).2.2 (.slice (some ⟨q,0,none⟩) (Fld.parts 45 (Fld.cutL s).1).length (Fld.parts 45 (Fld.cutL s).1).length) kind fr tt by_∧
  w'.heap[q]?=some (.cells ((Fld.parts 45 (Fld.cutL s).1).map Value.string).toArray 9 (0,0))∧Fld.Only g w w'
theorem Fld.It.drewN {w:World}{g:Nat}{text ahead behind:ByteArray}{cut:Bool}{ends:Value}{kind fr tt by_:Int}(h:Fld.It w g text ahead behind cut ends kind fr tt by_)(n:Nat):Fld.It (w.drewN n) g text ahead behind cut ends kind fr tt by_:=h
theorem Fld.err2 {w:World}:Fld.ErrIs (.iface 124 (.pointer (some ⟨w.heap.size,0,none⟩))) 2 (w.alloc (.cells #[.int .i64 2] 126)):=
 .inr ⟨by decide,w.heap.size,by simp,rfl,by simp⟩
set_option maxHeartbeats 8000000 in
set_option maxRecDepth 100000 in
theorem Fld.split_calls (s a0 b0:ByteArray)(c0:Bool)(v0:Value)(kind fr tt by_:Int)(g:Nat)(w:World)(hT:Tab w)(hg:4≤g)(hs:s.size≤1000000)(hI:Fld.It w g s a0 b0 c0 v0 kind fr tt by_) :
  Calls Tryz.prog 37 #[.pointer (some ⟨g,0,none⟩)] w (Fld.SplitPost s g kind fr tt by_ w):=by
 have hT0:=hT
 obtain ⟨h0,h1,h2,h3,h4,h5,h6,h7,h8⟩ :=hI.cells
 obtain ⟨A,B,C,hcut⟩:∃ A B C,Fld.cutL s=(A,B,C):=⟨_,_,_,rfl⟩
 have hsz:=Fld.cut_size s
 rw [hcut] at hsz
 obtain ⟨hA,hB⟩ :=hsz
 obtain ⟨m,hm⟩ :=hT.2.2
 have CC:=Fld.strings_Cut s ⟨#[47]⟩ m w (by omega) hm
 rw [show (⟨(Lib.cut s.data.toList (⟨#[47]⟩:ByteArray).data.toList).1.toArray⟩:ByteArray)=A from (congrArg (·.1) hcut),show (⟨(Lib.cut s.data.toList (⟨#[47]⟩:ByteArray).data.toList).2.1.toArray⟩:ByteArray)=B from (congrArg (·.2.1) hcut),show (Lib.cut s.data.toList (⟨#[47]⟩:ByteArray).data.toList).2.2=C from (congrArg (·.2.2) hcut)] at CC
 replace CC:=Lib.hid CC
 have hfz:=hI.frozen
 replace hcut:=Lib.hid hcut
 have HI:=Aside0.mk hI
 clear hI
 go_enter Tryz.func37,Tryz.ntmps37
 go_wp2_with (go_at_call 60; refine CC.out.mono ?_; rintro e w' ⟨rfl,⟨nd,rfl⟩⟩)
 have HI1:=(((HI.out.drewN nd).set1 A).set2 B).set3 C
 have HO1:=Fld.Only.set (g:=g) (Fld.Only.set (g:=g) (Fld.Only.set (g:=g) ((Fld.Only.refl g w).drewN nd) 1 (.string A)) 2 (.string B)) 3 (.bool C)
 have hT1:=HO1.tab hg hT
 generalize World.setCell (World.setCell (World.setCell (w.drewN nd) ⟨g,1,none⟩ (.string A)) ⟨g,2,none⟩ (.string B)) ⟨g,3,none⟩ (.bool C)=W1 at HI1 HO1 hT1 ⊢
 clear h0 h1 h2 h3 h4 h5 h6 h7 h8 hfz HI hm CC
 obtain ⟨m,hm⟩ :=hT1.2.2
 have CS:=Fld.strings_Split A ⟨#[45]⟩ m W1 (by omega) hm (by show 1≤1; omega)
 have hl:=Fld.parts_len 45 A
 rw [show (Lib.splitB ⟨#[45]⟩ 0 (Lib.countB A ⟨#[45]⟩) A)=Fld.parts 45 A from rfl,← hl] at CS
 obtain ⟨P,hP⟩:∃ P,Fld.parts 45 A=P:=⟨_,rfl⟩
 rw [hP] at CS
 clear hl
 have hnw:=heap_alloc_new W1 (.cells (P.map Value.string).toArray 9)
 have HI2:=(HI1.below (below_alloc (Below.refl _ _) (.cells (P.map Value.string).toArray 9))).set4 (.slice (some ⟨W1.heap.size,0,none⟩) P.length P.length)
 have hgl:=HI1.lt
 have hnw2:=blk_far (p:=⟨g,4,none⟩) hnw (by show W1.heap.size≠g; omega) (.slice (some ⟨W1.heap.size,0,none⟩) P.length P.length)
 have hqw:w.heap.size≤W1.heap.size:=HO1.size
 have HO2:=(HO1.alloc (.cells (P.map Value.string).toArray 9)).set 4 (.slice (some ⟨W1.heap.size,0,none⟩) P.length P.length)
 obtain ⟨h0,h1,h2,h3,h4,h5,h6,h7,h8⟩ :=HI1.cells
 have hfz:=HI1.frozen
 have HI2:=Aside0.mk HI2
 have HO2:=Aside0.mk HO2
 have hnw2:=Aside0.mk hnw2
 replace CS:=Lib.hid CS
 replace hqw:=Lib.hid hqw
 replace hgl:=Lib.hid hgl
 clear HI1 HO1 hT1 hnw hT
 have hgne:W1.heap.size≠g:=by have:=hgl.out; omega
 have hgl2:=hgl.out
 refine CS.out.mono ?_
 rintro e w' ⟨rfl,rfl⟩
 go_wp2_with fail
 have HI2:=HI2.out; have HO2:=HO2.out; have hnw2:=hnw2.out
 have hT2:=HO2.tab hg hT0
 have hcm:World.setCell (W1.alloc (.cells (P.map Value.string).toArray 9)) ⟨g,4,none⟩ (.slice (some ⟨W1.heap.size,0,none⟩) P.length P.length)=World.alloc (W1.setCell ⟨g,4,none⟩ (.slice (some ⟨W1.heap.size,0,none⟩) P.length P.length)) (.cells (P.map Value.string).toArray 9):=by
  exact World.setCell_alloc_past _ _ _ _ hgl.out
 rw [hcm] at HI2 HO2 hnw2 hT2
 obtain ⟨Q,hQ⟩:∃ Q,W1.heap.size=Q:=⟨_,rfl⟩
 rw [hQ] at HI2 HO2 hnw2 hT2 hgne hqw ⊢
 generalize World.alloc (W1.setCell ⟨g,4,none⟩ (.slice (some ⟨Q,0,none⟩) P.length P.length)) (.cells (P.map Value.string).toArray 9)=W2 at HI2 HO2 hnw2 hT2 ⊢
 clear h0 h1 h2 h3 h4 h5 h6 h7 h8 hfz hQ CS hm m
 obtain ⟨m,hm⟩ :=hT2.2.2
 have CK:=Fld.strings_Contains B ⟨#[47]⟩ m W2 (by omega) hm
 have hE:Fld.splitE s=if Lib.contains B.data.toList [47]=true∨2 < P.length then 2 else if C=true∧¬ A.toList=[42]∧P.length < 2 then 2 else 0:=by
  unfold Fld.splitE; rw [hcut.out,hP]
 have hpost:∀ (v:Value) (W:World),Fld.ErrIs v (Fld.splitE s) W→Below W2.heap.size W2 W→Fld.SplitPost s g kind fr tt by_ w (.returned v) W:=fun v W hv hb=>
  ⟨v,Q,rfl,hv,hgne,hqw.out,by rw [hcut.out,hP]; exact HI2.below hb,by rw [hcut.out,hP]; exact blk_below hnw2 hb,HO2.then_ hb⟩
 obtain ⟨K,hK⟩:∃ K,Lib.contains B.data.toList [47]=K:=⟨_,rfl⟩
 rw [show (⟨#[47]⟩:ByteArray).data.toList=[47] from rfl,hK] at CK
 rw [hK] at hE
 obtain ⟨h0,h1,h2,h3,h4,h5,h6,h7,h8⟩ :=HI2.cells
 have hfz:=HI2.frozen
 obtain ⟨n,hn⟩:∃ n,P.length=n:=⟨_,rfl⟩
 rw [hn] at hE h4
 clear HI2 hnw2 HO2 hT2 hT0 hm m hn
 replace CK:=Lib.hid CK
 replace hpost:=Lib.hid hpost
 have two:Fld.splitE s=2→Hid (Fld.splitE s=2):=Lib.hid
 refine CK.out.mono ?_
 rintro e w' ⟨rfl,rfl⟩
 clear hcut hK hP hgl hgl2 hgne hqw CK
 cases K with
 | true=>
  replace hE:=Lib.hid (hE.trans (if_pos (.inl rfl)))
  go_wp2_with (go_at_call 62; refine (Fld.wrong_some 2 _ rfl).mono ?_; rintro e w' ⟨rfl,rfl⟩)
  go_ret
  exact hpost.out _ _ (by rw [hE.out]; exact Fld.err2) (below_alloc (Below.refl _ _) _)
 | false=>
  by_cases hn2:2 < n
  ·replace hE:=Lib.hid (hE.trans (if_pos (.inr hn2)))
   have e1:decide (2 < (n:Int))=true:=decide_eq_true (by omega)
   have e2:decide (2 < n)=true:=decide_eq_true hn2
   replace hn2:=Lib.hid hn2
   go_wp2_with (go_at_call 62; refine (Fld.wrong_some 2 _ rfl).mono ?_; rintro e w' ⟨rfl,rfl⟩)
   go_ret
   exact hpost.out _ _ (by rw [hE.out]; exact Fld.err2) (below_alloc (Below.refl _ _) _)
  ·replace hE:=hE.trans (if_neg (by simp [hn2]))
   have e1:decide (2 < (n:Int))=false:=decide_eq_false (by omega)
   have e2:decide (2 < n)=false:=decide_eq_false hn2
   replace hn2:=Lib.hid hn2
   cases C with
   | false=>
    replace hE:=Lib.hid (hE.trans (if_neg (by simp)))
    go_wp2
    go_ret
    exact hpost.out _ _ (.inl ⟨hE.out,rfl⟩) (Below.refl _ _)
   | true=>
    by_cases hst:A.toList=[42]
    ·replace hE:=Lib.hid (hE.trans (if_neg (by simp [hst])))
     have e3:(A.toList != [42])=false:=by simp [hst]
     have e4:(A.toList == [42])=true:=by simp [hst]
     replace hst:=Lib.hid hst
     go_wp2
     go_ret
     exact hpost.out _ _ (.inl ⟨hE.out,rfl⟩) (Below.refl _ _)
    ·have e3:(A.toList != [42])=true:=by simp [hst]
     have e4:(A.toList == [42])=false:=by simp [hst]
     by_cases hl2:n < 2
     ·replace hE:=Lib.hid (hE.trans (if_pos ⟨rfl,hst,hl2⟩))
      have e5:decide ((n:Int) < 2)=true:=decide_eq_true (by omega)
      have e6:decide (n < 2)=true:=decide_eq_true hl2
      replace hst:=Lib.hid hst; replace hl2:=Lib.hid hl2
      go_wp2_with (go_at_call 62; refine (Fld.wrong_some 2 _ rfl).mono ?_; rintro e w' ⟨rfl,rfl⟩)
      go_ret
      exact hpost.out _ _ (by rw [hE.out]; exact Fld.err2) (below_alloc (Below.refl _ _) _)
     ·replace hE:=Lib.hid (hE.trans (if_neg (by simp [hl2])))
      have e5:decide ((n:Int) < 2)=false:=decide_eq_false (by omega)
      have e6:decide (n < 2)=false:=decide_eq_false hl2
      replace hst:=Lib.hid hst; replace hl2:=Lib.hid hl2
      go_wp2
      go_ret
      exact hpost.out _ _ (.inl ⟨hE.out,rfl⟩) (Below.refl _ _)
/-! This session's own: (*item).values. -/
theorem Fld.It.far {w:World}{g:Nat}{text ahead behind:ByteArray}{cut:Bool}{ends:Value}{kind fr tt by_:Int}(h:Fld.It w g text ahead behind cut ends kind fr tt by_){k:Nat}(hn:g≠k)(j:Nat)(u:Value):Fld.It (w.setCell ⟨k,j,none⟩ u) g text ahead behind cut ends kind fr tt by_:=blk_far (p:=⟨k,j,none⟩) h hn u
theorem Fld.Only.setNew {g k:Nat}{w w':World}(h:Fld.Only g w w')(hk:w.heap.size≤k)(j:Nat)(u:Value):Fld.Only g w (w'.setCell ⟨k,j,none⟩ u):=
 ⟨h.os,h.tape,h.output,by rw [World.size_setCell]; exact h.size,fun i hi hn=>(Below.heap_setCell w' ⟨k,j,none⟩ u i (by show i≠k; omega)).trans (h.block i hi hn)⟩
theorem Fld.gen {P:Program}{f:FuncId}{args:Array Value}{W:World}{Q:Ending→World→Prop}(F:World→Prop)(h:F W)(k:∀ W1,F W1→Calls P f args W1 Q):Calls P f args W Q:=k W h
/-- From one value to another one, and what is wrong. -/
def Fld.valuesP (A:ByteArray)(P:List ByteArray)(kind:Int):Int × Int × Int:=
 if A.toList=[42] then ((Lex.limits kind).1,(Lex.limits kind).2.1,0) else
 match P with
 | [x]=>((Lex.value x kind).1,(Lex.value x kind).1,(Lex.value x kind).2)
 | [x,y]=>((Lex.value x kind).1,(Lex.value y kind).1,if (Lex.value x kind).2≠0 then (Lex.value x kind).2 else if (Lex.value y kind).2≠0 then (Lex.value y kind).2 else if (Lex.value y kind).1 < (Lex.value x kind).1 then 12 else 0)
 | _=>(0,0,0)
def Fld.ValuesPost (s A B:ByteArray)(C:Bool)(ends:Value)(g:Nat)(kind by_ F T E:Int)(w:World)(e:Ending)(w':World):Prop:=
 ∃ (v:Value) (f t:Int),e=.returned v∧Fld.ErrIs v E w'∧Fld.It w' g s A B C ends kind f t by_∧(E=0→f=F∧t=T)∧Fld.Only g w w'
set_option maxHeartbeats 8000000 in
set_option maxRecDepth 100000 in
theorem Fld.values_star (s A B:ByteArray)(C:Bool)(ends:Value)(kind fr tt by_:Int)(g:Nat)(w:World)(hI:Fld.It w g s A B C ends kind fr tt by_)(hst:A.toList=[42])(lo hi e0:Int)(hl:lex_Limits.f kind=some (lo,hi,e0)) :
  Calls Tryz.prog 38 #[.pointer (some ⟨g,0,none⟩)] w (Fld.ValuesPost s A B C ends g kind by_ lo hi 0 w):=by
 obtain ⟨h0,h1,h2,h3,h4,h5,h6,h7,h8⟩ :=hI.cells
 have hfz:=hI.frozen
 have e3:(A.toList != [42])=false:=by simp [hst]
 have e4:(A.toList == [42])=true:=by simp [hst]
 replace hst:=Lib.hid hst
 replace hl:=Lib.hid hl
 have HI:=Aside0.mk hI
 clear hI
 go_enter Tryz.func38,Tryz.ntmps38
 go_wp2_with (go_at_call 58; refine (lex_Limits.calls _ _ _ _ _ hl.out).mono ?_; rintro e w' ⟨rfl,⟨nd,rfl⟩⟩)
 go_ret
 exact ⟨_,lo,hi,rfl,.inl ⟨rfl,rfl⟩,((HI.out.drewN nd).set6 lo).set7 hi,fun _=>⟨rfl,rfl⟩,(((Fld.Only.refl g w).drewN nd).set 6 _).set 7 _⟩
set_option maxHeartbeats 8000000 in
set_option maxRecDepth 100000 in
theorem Fld.values_one (s A B x:ByteArray)(C:Bool)(q:Nat)(kind fr tt by_:Int)(g:Nat)(w:World)(hI:Fld.It w g s A B C (.slice (some ⟨q,0,none⟩) 1 1) kind fr tt by_)(hst:¬ A.toList=[42])(lo hi e0 v e:Int)(hl:lex_Limits.f kind=some (lo,hi,e0))
  (hq:w.heap[q]?=some (.cells #[.string x] 9 (0,0))) (hqg:q≠g) (hv:lex_Value.f x kind=some (v,e)) :
  Calls Tryz.prog 38 #[.pointer (some ⟨g,0,none⟩)] w (Fld.ValuesPost s A B C (.slice (some ⟨q,0,none⟩) 1 1) g kind by_ v v e w):=by
 obtain ⟨h0,h1,h2,h3,h4,h5,h6,h7,h8⟩ :=hI.cells
 have hfz:=hI.frozen
 have e3:(A.toList != [42])=true:=by simp [hst]
 have e4:(A.toList == [42])=false:=by simp [hst]
 have hq0:w.cell? ⟨q,0,none⟩=some (.string x):=(blk_cell hq 0).trans rfl
 have hgl:=hI.lt
 have hql:=blk_lt hq
 replace hst:=Lib.hid hst
 replace hl:=Lib.hid hl
 replace hv:=Lib.hid hv
 have HI:=Aside0.mk hI
 have HQ:=Aside0.mk hq
 clear hI hq
 go_enter Tryz.func38,Tryz.ntmps38
 go_wp2_with (go_at_call 58; refine (lex_Limits.calls _ _ _ _ _ hl.out).mono ?_; rintro e w' ⟨rfl,⟨nd,rfl⟩⟩)
 refine wp_loop_rounds 2 ?_
 rw [rounds_succ]
 go_wp2_with fail
 refine Fld.gen (fun W1=>Fld.It W1 g s A B C (.slice (some ⟨q,0,none⟩) 1 1) kind lo hi by_∧W1.heap[w.heap.size]?=some (.cells #[.int .i64 0,.int .i64 0] 104 (0,0))∧Fld.Only g w W1) ?_ ?_
 ·refine ⟨(((HI.out.drewN nd).set6 lo).set7 hi).below (below_alloc (Below.refl _ _) _),?_,((((Fld.Only.refl g w).drewN nd).set 6 _).set 7 _).alloc _⟩
  have:=heap_alloc_new (((w.drewN nd).setCell ⟨g,6,none⟩ (.int .i64 lo)).setCell ⟨g,7,none⟩ (.int .i64 hi)) (.cells #[.int .i64 0,.int .i64 0] 104)
  simpa using this
 rintro W1 ⟨HI1,HB1,HO1⟩
 refine (lex_Value.calls _ _ _ _ _ hv.out).mono ?_
 rintro e1 w2 ⟨rfl,hb⟩
 replace HI1:=HI1.below hb
 replace HB1:=blk_below HB1 hb
 replace HO1:=HO1.then_ hb
 obtain ⟨Q,hQ⟩:∃ Q,w.heap.size=Q:=⟨_,rfl⟩
 have hQle:w.heap.size≤Q:=by omega
 rw [hQ] at HB1 hgl ⊢
 clear h0 h1 h2 h3 h4 h5 h6 h7 h8 hfz hq0 hql hb hQ
 obtain ⟨h0,h1,h2,h3,h4,h5,h6,h7,h8⟩ :=HI1.cells
 have hfz:=HI1.frozen
 have b0:w2.cell? ⟨Q,0,none⟩=some (.int .i64 0):=(blk_cell HB1 0).trans rfl
 have b1:w2.cell? ⟨Q,1,none⟩=some (.int .i64 0):=(blk_cell HB1 1).trans rfl
 have f0:=blk_frozen HB1 0
 have f1:=blk_frozen HB1 1
 have hQg:Q≠g:=by omega
 have hgQ:g≠Q:=by omega
 replace HI1:=Aside0.mk HI1
 replace HO1:=Aside0.mk HO1
 replace HB1:=Aside0.mk HB1
 by_cases he:e=0
 ·subst he
  go_wp2_with fail
  rw [rounds_succ]
  go_wp2_with fail
  go_region
  go_wp2_with fail
  go_region
  go_wp2
  go_ret
  exact ⟨_,v,v,rfl,.inl ⟨rfl,rfl⟩,(((HI1.out.far hgQ 0 _).far hgQ 1 _).set6 v).set7 v,fun _=>⟨rfl,rfl⟩,(((((HO1.out.setNew hQle 0 _).setNew hQle 1 _).set 6 _).set 7 _).drewN 1).drewN 1⟩
 ·have e5:(e == 0)=false:=by simpa using he
  have e6:(e != 0)=true:=by simpa using he
  replace he:=Lib.hid he
  go_wp2_with (go_at_call 62; refine (Fld.wrong_some e _ e5).mono ?_; rintro e w' ⟨rfl,rfl⟩)
  go_ret
  exact ⟨_,_,_,rfl,.inr ⟨he.out,_,by simp,rfl,by simp⟩,HI1.out.below (below_alloc (Below.refl _ _) _),fun h=>absurd h he.out,HO1.out.alloc _⟩
set_option maxHeartbeats 8000000 in
set_option maxRecDepth 100000 in
theorem Fld.values_two (s A B x y:ByteArray)(C:Bool)(q:Nat)(kind fr tt by_:Int)(g:Nat)(w:World)(hI:Fld.It w g s A B C (.slice (some ⟨q,0,none⟩) 2 2) kind fr tt by_)(hst:¬ A.toList=[42])(lo hi e0 v e v2 e2 E:Int)(hl:lex_Limits.f kind=some (lo,hi,e0))
  (hq:w.heap[q]?=some (.cells #[.string x,.string y] 9 (0,0))) (hqg:q≠g) (hv:lex_Value.f x kind=some (v,e)) (hv2:lex_Value.f y kind=some (v2,e2))
  (hE:E=if e≠0 then e else if e2≠0 then e2 else if v2 < v then 12 else 0) :
  Calls Tryz.prog 38 #[.pointer (some ⟨g,0,none⟩)] w (Fld.ValuesPost s A B C (.slice (some ⟨q,0,none⟩) 2 2) g kind by_ v v2 E w):=by
 obtain ⟨h0,h1,h2,h3,h4,h5,h6,h7,h8⟩ :=hI.cells
 have hfz:=hI.frozen
 have e3:(A.toList != [42])=true:=by simp [hst]
 have e4:(A.toList == [42])=false:=by simp [hst]
 have hq0:w.cell? ⟨q,0,none⟩=some (.string x):=(blk_cell hq 0).trans rfl
 have hq1:w.cell? ⟨q,1,none⟩=some (.string y):=(blk_cell hq 1).trans rfl
 have hgl:=hI.lt
 have hql:=blk_lt hq
 replace hst:=Lib.hid hst
 replace hl:=Lib.hid hl
 replace hv:=Lib.hid hv
 replace hv2:=Lib.hid hv2
 replace hE:=Lib.hid hE
 have HI:=Aside0.mk hI
 have HQ:=Aside0.mk hq
 clear hI hq
 go_enter Tryz.func38,Tryz.ntmps38
 go_wp2_with (go_at_call 58; refine (lex_Limits.calls _ _ _ _ _ hl.out).mono ?_; rintro e w' ⟨rfl,⟨nd,rfl⟩⟩)
 refine wp_loop_rounds 3 ?_
 rw [rounds_succ]
 go_wp2_with fail
 refine Fld.gen (fun W1=>Fld.It W1 g s A B C (.slice (some ⟨q,0,none⟩) 2 2) kind lo hi by_∧W1.heap[w.heap.size]?=some (.cells #[.int .i64 0,.int .i64 0] 104 (0,0))∧Fld.Only g w W1) ?_ ?_
 ·refine ⟨(((HI.out.drewN nd).set6 lo).set7 hi).below (below_alloc (Below.refl _ _) _),?_,((((Fld.Only.refl g w).drewN nd).set 6 _).set 7 _).alloc _⟩
  have:=heap_alloc_new (((w.drewN nd).setCell ⟨g,6,none⟩ (.int .i64 lo)).setCell ⟨g,7,none⟩ (.int .i64 hi)) (.cells #[.int .i64 0,.int .i64 0] 104)
  simpa using this
 rintro W1 ⟨HI1,HB1,HO1⟩
 have HQ1:=HO1.blk HQ.out hqg
 refine (lex_Value.calls _ _ _ _ _ hv.out).mono ?_
 rintro e1 w2 ⟨rfl,hb⟩
 replace HI1:=HI1.below hb
 replace HB1:=blk_below HB1 hb
 replace HQ1:=blk_below HQ1 hb
 replace HO1:=HO1.then_ hb
 obtain ⟨Q,hQ⟩:∃ Q,w.heap.size=Q:=⟨_,rfl⟩
 have hQle:w.heap.size≤Q:=by omega
 have hqQ:q≠Q:=by omega
 rw [hQ] at HB1 hgl ⊢
 clear h0 h1 h2 h3 h4 h5 h6 h7 h8 hfz hq0 hq1 hql hb hQ
 obtain ⟨h0,h1,h2,h3,h4,h5,h6,h7,h8⟩ :=HI1.cells
 have hfz:=HI1.frozen
 have b0:w2.cell? ⟨Q,0,none⟩=some (.int .i64 0):=(blk_cell HB1 0).trans rfl
 have b1:w2.cell? ⟨Q,1,none⟩=some (.int .i64 0):=(blk_cell HB1 1).trans rfl
 have f0:=blk_frozen HB1 0
 have f1:=blk_frozen HB1 1
 have hq1:w2.cell? ⟨q,1,none⟩=some (.string y):=(blk_cell HQ1 1).trans rfl
 have hQg:Q≠g:=by omega
 have hgQ:g≠Q:=by omega
 replace HI1:=Aside0.mk HI1
 replace HO1:=Aside0.mk HO1
 replace HB1:=Aside0.mk HB1
 replace HQ1:=Aside0.mk HQ1
 by_cases he:e=0
 ·subst he
  replace hE:=Lib.hid (hE.out.trans (if_neg (by simp)))
  go_wp2_with fail
  rw [rounds_succ]
  go_wp2_with fail
  refine Fld.gen (fun W3=>Fld.It W3 g s A B C (.slice (some ⟨q,0,none⟩) 2 2) kind lo hi by_∧W3.heap[Q]?=some (.cells #[.int .i64 v,.int .i64 v] 104 (0,0))∧Fld.Only g w W3) ?_ ?_
  ·exact ⟨((HI1.out.far hgQ 0 _).far hgQ 1 _),blk_put (blk_put HB1.out 0 _ rfl) 1 _ rfl,(HO1.out.setNew hQle 0 _).setNew hQle 1 _⟩
  clear h0 h1 h2 h3 h4 h5 h6 h7 h8 hfz b0 b1 f0 f1 hq1 HI1 HO1 HB1 HQ1
  rintro W3 ⟨HI1,HB1,HO1⟩
  refine (lex_Value.calls _ _ _ _ _ hv2.out).mono ?_
  rintro e1 w4 ⟨rfl,hb⟩
  replace HI1:=HI1.below hb
  replace HB1:=blk_below HB1 hb
  replace HO1:=HO1.then_ hb
  clear hb
  obtain ⟨h0,h1,h2,h3,h4,h5,h6,h7,h8⟩ :=HI1.cells
  have hfz:=HI1.frozen
  have b0:w4.cell? ⟨Q,0,none⟩=some (.int .i64 v):=(blk_cell HB1 0).trans rfl
  have b1:w4.cell? ⟨Q,1,none⟩=some (.int .i64 v):=(blk_cell HB1 1).trans rfl
  have f0:=blk_frozen HB1 0
  have f1:=blk_frozen HB1 1
  replace HI1:=Aside0.mk HI1
  replace HO1:=Aside0.mk HO1
  replace HB1:=Aside0.mk HB1
  by_cases he2:e2=0
  ·subst he2
   replace hE:=Lib.hid (hE.out.trans (if_neg (by simp)))
   go_wp2_with fail
   rw [rounds_succ]
   by_cases hlt:v2 < v
   ·replace hE:=Lib.hid (hE.out.trans (if_pos hlt))
    have e7:decide (v2 < v)=true:=decide_eq_true hlt
    replace hlt:=Lib.hid hlt
    go_wp2_with fail
    go_region
    go_wp2_with fail
    go_region
    go_wp2_with (go_at_call 62; refine (Fld.wrong_some 12 _ rfl).mono ?_; rintro e w' ⟨rfl,rfl⟩)
    go_ret
    exact ⟨_,v,v2,rfl,by rw [hE.out]; exact .inr ⟨by decide,w4.heap.size,by simp,rfl,by show (World.alloc _ _).cell? _=_; rw [World.cell?_alloc_at _ _ _ _ (by simp)]; rfl⟩,((((((HI1.out.far hgQ 1 _).far hgQ 1 _).set6 v).set7 v2).below (below_alloc (Below.refl _ _) _)).drewN 1).drewN 1,fun h=>⟨rfl,rfl⟩,((((((HO1.out.setNew hQle 1 _).setNew hQle 1 _).set 6 _).set 7 _).alloc _).drewN 1).drewN 1⟩
   ·replace hE:=Lib.hid (hE.out.trans (if_neg hlt))
    have e7:decide (v2 < v)=false:=decide_eq_false hlt
    replace hlt:=Lib.hid hlt
    go_wp2_with fail
    go_region
    go_wp2_with fail
    go_region
    go_wp2
    go_ret
    exact ⟨_,v,v2,rfl,.inl ⟨hE.out,rfl⟩,(((HI1.out.far hgQ 1 _).far hgQ 1 _).set6 v).set7 v2,fun _=>⟨rfl,rfl⟩,(((((HO1.out.setNew hQle 1 _).setNew hQle 1 _).set 6 _).set 7 _).drewN 1).drewN 1⟩
  ·have e5:(e2 == 0)=false:=by simpa using he2
   have e6:(e2 != 0)=true:=by simpa using he2
   replace hE:=Lib.hid (hE.out.trans (if_pos he2))
   replace he2:=Lib.hid he2
   go_wp2_with (go_at_call 62; refine (Fld.wrong_some e2 _ e5).mono ?_; rintro e w' ⟨rfl,rfl⟩)
   go_ret
   exact ⟨_,_,_,rfl,.inr ⟨by rw [hE.out]; exact he2.out,_,by simp,rfl,by rw [hE.out]; simp⟩,HI1.out.below (below_alloc (Below.refl _ _) _),fun h=>absurd (hE.out.symm.trans h) he2.out,HO1.out.alloc _⟩
 ·have e5:(e == 0)=false:=by simpa using he
  have e6:(e != 0)=true:=by simpa using he
  replace hE:=Lib.hid (hE.out.trans (if_pos he))
  replace he:=Lib.hid he
  go_wp2_with (go_at_call 62; refine (Fld.wrong_some e _ e5).mono ?_; rintro e w' ⟨rfl,rfl⟩)
  go_ret
  exact ⟨_,_,_,rfl,.inr ⟨by rw [hE.out]; exact he.out,_,by simp,rfl,by rw [hE.out]; simp⟩,HI1.out.below (below_alloc (Below.refl _ _) _),fun h=>absurd (hE.out.symm.trans h) he.out,HO1.out.alloc _⟩
/-! This session's own: (*item).step. -/
def Fld.stepP (B:ByteArray)(C:Bool):Int × Int:=
 if C then ((Lex.number B).1,if (Lex.number B).2=0∧(Lex.number B).1=0 then 1 else (Lex.number B).2) else (1,0)
def Fld.StepPost (s A B:ByteArray)(C:Bool)(ends:Value)(g:Nat)(kind fr tt:Int)(w:World)(e:Ending)(w':World):Prop:=
 ∃ (v:Value),e=.returned v∧Fld.ErrIs v (Fld.stepP B C).2 w'∧Fld.It w' g s A B C ends kind fr tt (Fld.stepP B C).1∧Fld.Only g w w'
set_option maxHeartbeats 8000000 in
set_option maxRecDepth 100000 in
theorem Fld.step_calls (s A B:ByteArray)(C:Bool)(ends:Value)(kind fr tt by_:Int)(g:Nat)(w:World)(hI:Fld.It w g s A B C ends kind fr tt by_) :
  Calls Tryz.prog 39 #[.pointer (some ⟨g,0,none⟩)] w (Fld.StepPost s A B C ends g kind fr tt w):=by
 obtain ⟨h0,h1,h2,h3,h4,h5,h6,h7,h8⟩ :=hI.cells
 have hfz:=hI.frozen
 have hgl:=hI.lt
 have HI:=Aside0.mk hI
 clear hI
 cases C with
 | false=>
  have hS:Hid (Fld.stepP B false=(1,0)):=Lib.hid rfl
  go_enter Tryz.func39,Tryz.ntmps39
  go_wp2
  go_ret
  exact ⟨_,rfl,.inl ⟨congrArg (·.2) hS.out,rfl⟩,HI.out.set8 1,(Fld.Only.refl g w).set 8 _⟩
 | true=>
  obtain ⟨n,e,hn⟩:∃ n e,Lex.number B=(n,e):=⟨_,_,rfl⟩
  have hf:Hid (lex_Number.f B=some (n,e)):=Lib.hid (congrArg some hn)
  have hS:Fld.stepP B true=(n,if e=0∧n=0 then 1 else e):=by unfold Fld.stepP; rw [if_pos rfl,hn]
  replace hn:=Lib.hid hn
  have HI2:=Aside0.mk (HI.out.set8 1)
  have HO2:=Aside0.mk ((Fld.Only.refl g w).set 8 (.int .i64 1))
  go_enter Tryz.func39,Tryz.ntmps39
  go_wp2_with fail
  refine Fld.gen (fun W1=>Fld.It W1 g s A B true ends kind fr tt 1∧Fld.Only g w W1) ⟨HI2.out,HO2.out⟩ ?_
  clear h0 h1 h2 h3 h4 h5 h6 h7 h8 hfz HI HI2 HO2 hgl
  rintro W1 ⟨HI1,HO1⟩
  refine (lex_Number.calls _ _ _ _ hf.out).mono ?_
  rintro e1 w2 ⟨rfl,hb⟩
  replace HI1:=HI1.below hb
  replace HO1:=HO1.then_ hb
  clear hb
  obtain ⟨h0,h1,h2,h3,h4,h5,h6,h7,h8⟩ :=HI1.cells
  have hfz:=HI1.frozen
  have hgl:=HI1.lt
  replace HI1:=Aside0.mk HI1
  replace HO1:=Aside0.mk HO1
  by_cases he:e=0
  ·subst he
   by_cases hz:n=0
   ·subst hz
    replace hS:=Lib.hid hS
    go_wp2_with (go_at_call 62; refine (Fld.wrong_some 1 _ rfl).mono ?_; rintro e w' ⟨rfl,rfl⟩)
    go_ret
    exact ⟨_,rfl,by rw [congrArg (·.2) hS.out]; exact .inr ⟨by decide,w2.heap.size,by simp,rfl,by rw [World.cell?_alloc_at _ _ _ _ (by simp)]; rfl⟩,by rw [congrArg (·.1) hS.out]; exact (HI1.out.set8 0).below (below_alloc (Below.refl _ _) _),(HO1.out.set 8 _).alloc _⟩
   ·have e1:(n == 0)=false:=by simpa using hz
    have e2:(n != 0)=true:=by simpa using hz
    replace hS:=Lib.hid (hS.trans (by rw [if_neg (by simp [hz])]))
    replace hz:=Lib.hid hz
    go_wp2_with (go_at_call 62; refine (Fld.wrong_zero _).mono ?_; rintro e w' ⟨rfl,rfl⟩)
    go_ret
    exact ⟨_,rfl,.inl ⟨congrArg (·.2) hS.out,rfl⟩,by rw [congrArg (·.1) hS.out]; exact HI1.out.set8 n,HO1.out.set 8 _⟩
  ·have e5:(e == 0)=false:=by simpa using he
   have e6:(e != 0)=true:=by simpa using he
   replace hS:=Lib.hid (hS.trans (by rw [if_neg (by simp [he])]))
   replace he:=Lib.hid he
   go_wp2_with (go_at_call 62; refine (Fld.wrong_some e _ e5).mono ?_; rintro e w' ⟨rfl,rfl⟩)
   go_ret
   exact ⟨_,rfl,by rw [congrArg (·.2) hS.out]; exact .inr ⟨he.out,w2.heap.size,by simp,rfl,by rw [World.cell?_alloc_at _ _ _ _ (by simp)]; rfl⟩,by rw [congrArg (·.1) hS.out]; exact (HI1.out.set8 n).below (below_alloc (Below.refl _ _) _),(HO1.out.set 8 _).alloc _⟩
/-! This session's own: (*item).each's closure, as an iterator. -/
section
open Go.Shelf
attribute [local go_sem] Oper.semAt_some
def Fld.day (kind v:Int):Fin 64:=Fin.ofNat 64 (if kind=4 then (v % 7).toNat else v.toNat)
def Fld.vals (kind tt by_:Int):Nat→Int→List (Fin 64)
 | 0,_=>[]
 | f+1,v=>if v≤tt then Fld.day kind v :: Fld.vals kind tt by_ f (v+by_) else []
def Fld.encF (x:Fin 64):Array Value:=#[.int .i64 (x.val:Int)]
def Fld.KpEach (g Bx:Nat)(W W':World):Prop:=W'.heap[g]?=W.heap[g]?∧W'.heap[Bx]?=W.heap[Bx]?
theorem Fld.day_week {v:Int}(h0:0≤v):((Fld.day 4 v).val:Int)=v % 7:=by
 unfold Fld.day
 rw [if_pos rfl]
 show (((v % 7).toNat % 64:Nat):Int)=v % 7
 omega
theorem Fld.day_plain {kind v:Int}(hk:¬ kind=4)(h0:0≤v)(h1:v < 64):((Fld.day kind v).val:Int)=v:=by
 unfold Fld.day
 rw [if_neg hk]
 show ((v.toNat % 64:Nat):Int)=v
 omega
set_option maxHeartbeats 8000000 in
set_option maxRecDepth 100000 in
theorem Fld.each_stops (F:Fence)(n:Nat)(h48:F.fn 66)(hro:F.round=none)(hn:1≤n)(g Bx:Nat)(s A B:ByteArray)(C:Bool)(ends:Value)(kind fr tt by_:Int)(w:World)
  (hI:Fld.It w g s A B C ends kind fr tt by_) (hB:w.heap[Bx]?=some (.cells #[.pointer (some ⟨g,0,none⟩)] 71 (0,0))) (h0:0≤fr) (h1:tt < 64) (h2:1≤by_) (h3:by_≤10000) (h4:fr≤10000) :
  SeqStopsK F n Tryz.prog 66 #[.pointer (some ⟨Bx,0,none⟩)] Fld.encF (Fld.KpEach g Bx)
   (fun xs=>xs=Fld.vals kind tt by_ (tt+1 - fr).toNat fr) (fun pre=>pre <+: Fld.vals kind tt by_ (tt+1 - fr).toNat fr) (Fld.vals kind tt by_ (tt+1 - fr).toNat fr).length w:=by
 intro l J Jx W hbw hJ hJx hY hJ0
 obtain ⟨L,hL⟩:∃ L,Fld.vals kind tt by_ (tt+1 - fr).toNat fr=L:=⟨_,rfl⟩
 rw [hL] at hY ⊢
 replace hI:=hI.below hbw
 replace hB:=blk_below hB hbw
 have hb0:W.cell? ⟨Bx,0,none⟩=some (.pointer (some ⟨g,0,none⟩)):=(blk_cell hB 0).trans rfl
 obtain ⟨i0,i1,i2,i3,i4,i5,i6,i7,i8⟩ :=hI.cells
 replace hY:=Lib.hid hY
 replace hL:=Lib.hid hL
 replace hI:=Aside0.mk hI
 replace hB:=Aside0.mk hB
 refine callsIn_of_wp Tryz.func66 rfl h48 ?_ hro
 simp only [Tryz.ntmps66,List.size_toArray,List.length_cons,List.length_nil,Nat.reduceAdd,Nat.reduceSub,Array.replicate_succ,Array.replicate_zero,List.push_toArray,List.append_toArray,List.nil_append,List.cons_append]
 gi_wp2
 gi_loopw [3] (fun p wr=>∃ (pre:List (Fin 64)) (f:Nat) (v:Int),p=.int .i64 v∧Hid (L=pre ++ Fld.vals kind tt by_ f v)∧Hid ((tt+1 - v).toNat≤f)∧0≤v∧v≤20000∧J pre wr∧Aside0 (Fld.It wr g s A B C ends kind fr tt by_)∧Aside0 (wr.heap[Bx]?=some (.cells #[.pointer (some ⟨g,0,none⟩)] 71 (0,0))))
  (fun p wr=>(20001 - intOf p).toNat)
 case atStart=>
  exact ⟨[],_,fr,rfl,Lib.hid hL.out.symm,Lib.hid (Nat.le_refl _),h0,by omega,hJ0,hI,hB⟩
 case round=>
  clear hI hB hb0 i0 i1 i2 i3 i4 i5 i6 i7 i8
  obtain ⟨pre,f,v,rfl,hx,hf,hv0,hv1,hJs,hI,hB⟩ :=hrel
  have hb0:wr.cell? ⟨Bx,0,none⟩=some (.pointer (some ⟨g,0,none⟩)):=(blk_cell hB.out 0).trans rfl
  obtain ⟨i0,i1,i2,i3,i4,i5,i6,i7,i8⟩ :=hI.out.cells
  by_cases hle:v≤tt
  ·obtain ⟨f',rfl⟩:∃ f',f=f'+1:=⟨f - 1,by have:=hf.out; omega⟩
   have hx2:L=pre ++ Fld.day kind v :: Fld.vals kind tt by_ f' (v+by_):=by rw [hx.out]; show pre ++ (if v≤tt then _ else _)=_; rw [if_pos hle]
   obtain ⟨fn,tmps,assign,body,hy,hR⟩ :=hY.out pre (Fld.day kind v) wr hJs (by rw [hx2]; simp)
   replace hx2:=Lib.hid hx2
   clear hx
   have hnext:Hid (Fld.KpEach g Bx wr=Fld.KpEach g Bx wr):=Lib.hid rfl
   by_cases hk:kind=4
   ·subst hk
    have hd:=Fld.day_week hv0
    simp only [Fld.encF] at hy
    rw [hd] at hy
    replace hd:=Lib.hid hd
    gi_wp2
    refine hR.mono ?_
    rintro e W3 (⟨rfl,hJ3,hk3⟩ | ⟨rfl,hJx3⟩)
    ·have hI3:Fld.It W3 g s A B C ends 4 fr tt by_:=hk3.1.trans hI.out
     have hB3:=hk3.2.trans hB.out
     clear hb0 i0 i1 i2 i3 i4 i5 i6 i7 i8 hk3
     have hb0:W3.cell? ⟨Bx,0,none⟩=some (.pointer (some ⟨g,0,none⟩)):=(blk_cell hB3 0).trans rfl
     obtain ⟨i0,i1,i2,i3,i4,i5,i6,i7,i8⟩ :=hI3.cells
     replace hI3:=Aside0.mk hI3
     replace hB3:=Aside0.mk hB3
     gi_wp2
     go_roundw
     case rel=>exact ⟨pre ++ [Fld.day 4 v],f',v+by_,rfl,Lib.hid (by rw [hx2.out]; simp),Lib.hid (by have:=hf.out; omega),by omega,by omega,hJ3,hI3,hB3⟩
     case measure=>simp [intOf]; omega
    ·gi_wp2
     refine bodyPost_ret (results_none rfl _ _ _) rfl ?_
     exact ⟨⟨_,rfl⟩,.inr ⟨pre ++ [Fld.day 4 v],⟨Fld.vals 4 tt by_ f' (v+by_),by rw [hx2.out]; simp⟩,hJx3⟩⟩
   ·have e1:(kind == 4)=false:=by simpa using hk
    have e2:(kind != 4)=true:=by simpa using hk
    have hd:=Fld.day_plain hk hv0 (by omega)
    simp only [Fld.encF] at hy
    rw [hd] at hy
    replace hd:=Lib.hid hd
    replace hk:=Lib.hid hk
    gi_wp2
    refine hR.mono ?_
    rintro e W3 (⟨rfl,hJ3,hk3⟩ | ⟨rfl,hJx3⟩)
    ·have hI3:Fld.It W3 g s A B C ends kind fr tt by_:=hk3.1.trans hI.out
     have hB3:=hk3.2.trans hB.out
     clear hb0 i0 i1 i2 i3 i4 i5 i6 i7 i8 hk3
     have hb0:W3.cell? ⟨Bx,0,none⟩=some (.pointer (some ⟨g,0,none⟩)):=(blk_cell hB3 0).trans rfl
     obtain ⟨i0,i1,i2,i3,i4,i5,i6,i7,i8⟩ :=hI3.cells
     replace hI3:=Aside0.mk hI3
     replace hB3:=Aside0.mk hB3
     gi_wp2
     go_roundw
     case rel=>exact ⟨pre ++ [Fld.day kind v],f',v+by_,rfl,Lib.hid (by rw [hx2.out]; simp),Lib.hid (by have:=hf.out; omega),by omega,by omega,hJ3,hI3,hB3⟩
     case measure=>simp [intOf]; omega
    ·gi_wp2
     refine bodyPost_ret (results_none rfl _ _ _) rfl ?_
     exact ⟨⟨_,rfl⟩,.inr ⟨pre ++ [Fld.day kind v],⟨Fld.vals kind tt by_ f' (v+by_),by rw [hx2.out]; simp⟩,hJx3⟩⟩
  ·have hxe:L=pre:=by
    rw [hx.out]
    cases f with
    | zero=>exact List.append_nil _
    | succ f=>show pre ++ (if v≤tt then _ else _)=_; rw [if_neg hle]; exact List.append_nil _
   replace hxe:=Lib.hid hxe
   gi_wp2
   go_end0
   exact ⟨⟨_,rfl⟩,.inl (by rw [hxe.out]; exact hJs)⟩
end
/-! This session's own: a frame that leaves with marks of ranges over functions. -/
theorem Fld.genIn {F:Fence}{n:Nat}{P:Program}{f:FuncId}{args:Array Value}{W:World}{Q:Ending→World→Prop}(F':World→Prop)(h:F' W)(k:∀ W1,F' W1→CallsIn F n P f args W1 Q):CallsIn F n P f args W Q:=k W h
/-- The marks of the ranges over functions that a frame has gone through: each block is there, the newer the higher. -/
def Fld.Marks (B:Nat)(w:World):Nat→List Deferred→Prop
 | _,[]=>True
 | U,d :: ds=>∃ D,d={ target:=.collected D,args:=#[] }∧B≤D∧D < U∧w.heap[D]?=some (.deferred (some []))∧Fld.Marks B w D ds
theorem Fld.Marks.step {B:Nat}{w w':World}:∀ {ds:List Deferred} {U U':Nat},Fld.Marks B w U ds→U≤U'→(∀ k,B≤k→k < U→w.heap[k]?=some (.deferred (some []))→w'.heap[k]?=some (.deferred (some [])))→Fld.Marks B w' U' ds
 | [],_,_,_,_,_=>trivial
 | d :: ds,U,U',⟨D,hd,hB,hU,hh,hr⟩,hle,hk=>⟨D,hd,hB,by omega,hk D hB hU hh,Fld.Marks.step hr (Nat.le_refl D) (fun k h1 h2 h3=>hk k h1 (by omega) h3)⟩
theorem Fld.leave {P:Program}{fn:Func}{tmps:Array Value}{R:Ending→World→Prop}{F:Fence}{n:Nat}(B:Nat):∀ (ds:List Deferred) (U:Nat) (w:World),Fld.Marks B w U ds→
  (∀ w',Below B w w'→(∀ (k:Nat) (cs:Array Value) (t:TypeId) (fr:Nat × Nat),w.heap[k]?=some (.cells cs t fr)→w'.heap[k]?=some (.cells cs t fr))→∃ v,(results fn tmps).run P w'=.ok v w'∧R (.returned v) w')→LeavesInM F n P fn tmps R ds .returning w
 | [],_,w,_,h=>h w (Below.refl _ _) (fun _ _ _ _ h=>h)
 | d :: ds,U,w,⟨D,hd,hB,hU,hh,hr⟩,h=>by
  subst hd
  refine ⟨by simp,.inl ⟨D,_,rfl,run_takeDeferred hh,?_⟩⟩
  have hg:=grownBy_putObj' w D (.deferred none)
  refine Fld.leave B ds D _ (Fld.Marks.step hr (Nat.le_refl _) (fun k _ h2 h3=>(hg.block k (by have:=(Array.getElem?_eq_some_iff.1 h3).1; omega) (fun e=>by injection e; omega)).trans h3)) ?_
  intro w' hb hc
  refine h w' ?_ ?_
  ·exact Below.trans ⟨hg.os,hg.tape,hg.output,hg.size,fun k hk=>World.putObj_heap_other (by omega)⟩ hb
  ·intro k cs t fr hk
   refine hc k cs t fr ?_
   have hne:k≠D:=by rintro rfl; rw [hh] at hk; cases hk
   exact (hg.block k (Array.getElem?_eq_some_iff.1 hk).1 (fun e=>hne (by injection e))).trans hk
/-! This session's own: field.Parse. -/
/-- From where to where an item goes, each how-manieth, and what is wrong with it. -/
def Fld.itemP (s:ByteArray)(kind:Int):Int × Int × Int × Int:=
 if Fld.splitE s≠0 then (0,0,1,Fld.splitE s) else
 if (Fld.valuesP (Fld.cutL s).1 (Fld.parts 45 (Fld.cutL s).1) kind).2.2≠0 then (0,0,1,(Fld.valuesP (Fld.cutL s).1 (Fld.parts 45 (Fld.cutL s).1) kind).2.2) else
 if (Fld.stepP (Fld.cutL s).2.1 (Fld.cutL s).2.2).2≠0 then (0,0,1,(Fld.stepP (Fld.cutL s).2.1 (Fld.cutL s).2.2).2) else
 ((Fld.valuesP (Fld.cutL s).1 (Fld.parts 45 (Fld.cutL s).1) kind).1,(Fld.valuesP (Fld.cutL s).1 (Fld.parts 45 (Fld.cutL s).1) kind).2.1,(Fld.stepP (Fld.cutL s).2.1 (Fld.cutL s).2.2).1,0)
def Fld.put (b:Int)(x:Fin 64):Int:=Go.bits .or .u64 b (2 ^ x.val)
def Fld.itemL (s:ByteArray)(kind:Int):List (Fin 64):=Fld.vals kind (Fld.itemP s kind).2.1 (Fld.itemP s kind).2.2.1 ((Fld.itemP s kind).2.1+1 - (Fld.itemP s kind).1).toNat (Fld.itemP s kind).1
def Fld.parseL (kind:Int):List ByteArray→Int→Int × Int
 | [],b=>(b,0)
 | x :: l,b=>if (Fld.itemP x kind).2.2.2≠0 then (0,(Fld.itemP x kind).2.2.2) else Fld.parseL kind l ((Fld.itemL x kind).foldl Fld.put b)
def Fld.parse (s:ByteArray)(kind:Int):Int × Bool × Int:=
 if (Lex.limits kind).2.2≠0 then (0,false,(Lex.limits kind).2.2) else
 if (Fld.parseL kind (Fld.parts 44 s) 0).2≠0 then (0,false,(Fld.parseL kind (Fld.parts 44 s) 0).2) else ((Fld.parseL kind (Fld.parts 44 s) 0).1,s.toList == [42],0)
theorem Fld.limits_f (kind:Int):field_limits.f kind=some ((Lex.limits kind).1,(if kind=4 then 6 else (Lex.limits kind).2.1),(Lex.limits kind).2.2):=by
 unfold field_limits.f
 rw [Lex.limits_f]
 by_cases h:kind=4
 ·simp [h]
 ·simp [h]
def Fld.firstLoop:Code→Option Code
 | .loop c=>some c
 | .seq a b=>match Fld.firstLoop a with
  | some c=>some c
  | none=>Fld.firstLoop b
 | .block _ c=>Fld.firstLoop c
 | .scope c=>Fld.firstLoop c
 | .cond _ a b=>match Fld.firstLoop a with
  | some c=>some c
  | none=>Fld.firstLoop b
 | _=>none
noncomputable def Fld.parseBody:Code:=((Tryz.f17.body.bind Fld.firstLoop).getD .skip)
/-- What stands in memory between two items: the result's place, the field so far, the row of items. -/
def Fld.PInv (w:World)(L:List ByteArray)(B:Bool)(b:Int)(W:World):Prop:=
 Below w.heap.size w W∧W.heap[w.heap.size]?=some (.cells #[.int .u64 0,.bool false] 24 (0,0))∧W.heap[w.heap.size+1]?=some (.cells #[.int .u64 b,.bool B] 24 (0,0))∧
 W.heap[w.heap.size+2]?=some (.cells (L.map Value.string).toArray 9 (0,0))
def Fld.PRel (kind:Int)(w:World)(L:List ByteArray)(B:Bool)(k:Nat)(ds:List Deferred)(b:Int)(W:World):Prop:=
 k≤L.length∧Fld.parseL kind (L.drop k) b=Fld.parseL kind L 0∧(0≤b∧b < 18446744073709551616)∧Fld.PInv w L B b W∧Fld.Marks (w.heap.size+3) W W.heap.size ds
/-- A frame that is left with an error's number. -/
def Fld.PRet (w:World)(e:Int)(a:Act)(W:World):Prop:=
 ∃ ds,a.defers=ds∧a.tmps.getD 4 undef=.pointer (some ⟨w.heap.size,0,none⟩)∧a.tmps.getD 5 undef=.int .i64 e∧a.tmps.size=73∧Below w.heap.size w W∧W.heap[w.heap.size]?=some (.cells #[.int .u64 0,.bool false] 24 (0,0))∧Fld.Marks (w.heap.size+3) W W.heap.size ds
theorem Fld.PInv.keep {w W W2:World}{L:List ByteArray}{B:Bool}{b:Int}(h:Fld.PInv w L B b W)(hb:Below (w.heap.size+3) W W2):Fld.PInv w L B b W2:=
 ⟨h.1.trans (hb.mono (by omega)),(hb.block _ (by omega)).trans h.2.1,(hb.block _ (by omega)).trans h.2.2.1,(hb.block _ (by omega)).trans h.2.2.2⟩
theorem Fld.values_calls (s A B:ByteArray)(C:Bool)(P:List ByteArray)(q:Nat)(kind fr tt by_:Int)(g:Nat)(w:World)(hI:Fld.It w g s A B C (.slice (some ⟨q,0,none⟩) P.length P.length) kind fr tt by_)
  (hq:w.heap[q]?=some (.cells (P.map Value.string).toArray 9 (0,0))) (hqg:q≠g) (hP:P.length=1∨P.length=2) :
  Calls Tryz.prog 38 #[.pointer (some ⟨g,0,none⟩)] w (Fld.ValuesPost s A B C (.slice (some ⟨q,0,none⟩) P.length P.length) g kind by_ (Fld.valuesP A P kind).1 (Fld.valuesP A P kind).2.1 (Fld.valuesP A P kind).2.2 w):=by
 by_cases hst:A.toList=[42]
 ·have:=Fld.values_star s A B C _ kind fr tt by_ g w hI hst (Lex.limits kind).1 (Lex.limits kind).2.1 (Lex.limits kind).2.2 (Lex.limits_f kind)
  unfold Fld.valuesP
  rw [if_pos hst]
  exact this
 ·rcases hP with h | h
  ·obtain ⟨x,rfl⟩ :=List.length_eq_one_iff.1 h
   have:=Fld.values_one s A B x C q kind fr tt by_ g w hI hst (Lex.limits kind).1 (Lex.limits kind).2.1 (Lex.limits kind).2.2 (Lex.value x kind).1 (Lex.value x kind).2 (Lex.limits_f kind) hq hqg rfl
   unfold Fld.valuesP
   rw [if_neg hst]
   exact this
  ·obtain ⟨x,y,rfl⟩:∃ x y,P=[x,y]:=by
    match P,h with
    | [x,y],_=>exact ⟨x,y,rfl⟩
   have:=Fld.values_two s A B x y C q kind fr tt by_ g w hI hst (Lex.limits kind).1 (Lex.limits kind).2.1 (Lex.limits kind).2.2 (Lex.value x kind).1 (Lex.value x kind).2 (Lex.value y kind).1 (Lex.value y kind).2 _ (Lex.limits_f kind) hq hqg rfl rfl rfl
   unfold Fld.valuesP
   rw [if_neg hst]
   exact this
theorem Fld.split_len {s:ByteArray}(h:Fld.splitE s=0):(Fld.parts 45 (Fld.cutL s).1).length=1∨(Fld.parts 45 (Fld.cutL s).1).length=2:=by
 have h1:=Fld.parts_len 45 (Fld.cutL s).1
 unfold Fld.splitE at h
 split at h
 ·exact absurd h (by decide)
 ·rename_i hn
  simp only [not_or] at hn
  omega
/-! What the numbers of an item are within. -/
theorem Fld.digs_bd:∀ (l:List UInt8)(n m:Int),0≤n→Lex.digs l n=some m→0≤m∧m < (n+1)*10 ^ l.length
 | [],n,m,h0,h=>by simp only [Lex.digs,Option.some.injEq] at h; subst h; simp; omega
 | c :: l,n,m,h0,h=>by
  simp only [Lex.digs] at h
  split at h
  ·rename_i hd
   have hc:48≤c.toNat∧c.toNat≤57:=by simpa [Lex.dig] using hd
   obtain ⟨h1,h2⟩ :=Fld.digs_bd l _ m (by omega) h
   refine ⟨h1,Int.lt_of_lt_of_le h2 ?_⟩
   rw [List.length_cons,Int.pow_succ,Int.mul_comm (10 ^ l.length) 10,← Int.mul_assoc]
   exact Int.mul_le_mul_of_nonneg_right (by omega) (Int.le_of_lt (Int.pow_pos (by decide)))
  ·cases h
theorem Fld.number_bd (s:ByteArray):0≤(Lex.number s).1∧(Lex.number s).1≤9999:=by
 unfold Lex.number
 split
 ·exact ⟨by decide,by decide⟩
 ·rename_i hn
  split
  ·rename_i n hn'
   obtain ⟨h1,h2⟩ :=Fld.digs_bd _ 0 _ (by decide) hn'
   have hl:s.data.toList.length≤4:=by rw [Array.length_toList]; have:s.data.size=s.size:=rfl; omega
   refine ⟨h1,?_⟩
   have h4:((0:Int)+1)*10 ^ s.data.toList.length≤10000:=by
    generalize s.data.toList.length=j at hl
    have:j=0∨j=1∨j=2∨j=3∨j=4:=by omega
    rcases this with rfl | rfl | rfl | rfl | rfl <;> decide
   show n≤9999
   omega
  ·exact ⟨by decide,by decide⟩
theorem Fld.limits_bd (kind:Int)(h:(Lex.limits kind).2.2=0):0≤(Lex.limits kind).1∧(Lex.limits kind).1≤(Lex.limits kind).2.1∧(Lex.limits kind).2.1≤59:=by
 unfold Lex.limits at h ⊢
 repeat' split
 all_goals first | exact ⟨by decide,by decide,by decide⟩ | (exfalso; simp_all)
theorem Fld.value_bd (s:ByteArray)(kind:Int)(h:(Lex.value s kind).2=0):(Lex.limits kind).2.2=0∧(Lex.limits kind).1≤(Lex.value s kind).1∧(Lex.value s kind).1≤(Lex.limits kind).2.1:=by
 unfold Lex.value at h ⊢
 split at h
 ·rename_i hn; exact absurd h hn
 ·rename_i hn
  rw [if_neg hn]
  unfold Lex.fin at h ⊢
  split at h
  ·exact absurd h (by decide)
  ·rename_i hf
   rw [if_neg hf]
   exact ⟨by omega,by omega,by omega⟩
theorem Fld.item_bd (x:ByteArray)(kind:Int)(hk:(Lex.limits kind).2.2=0)(h:(Fld.itemP x kind).2.2.2=0) :
  Fld.splitE x=0∧(Fld.valuesP (Fld.cutL x).1 (Fld.parts 45 (Fld.cutL x).1) kind).2.2=0∧(Fld.stepP (Fld.cutL x).2.1 (Fld.cutL x).2.2).2=0∧
  (Fld.itemP x kind).1=(Fld.valuesP (Fld.cutL x).1 (Fld.parts 45 (Fld.cutL x).1) kind).1∧(Fld.itemP x kind).2.1=(Fld.valuesP (Fld.cutL x).1 (Fld.parts 45 (Fld.cutL x).1) kind).2.1∧(Fld.itemP x kind).2.2.1=(Fld.stepP (Fld.cutL x).2.1 (Fld.cutL x).2.2).1∧
  0≤(Fld.itemP x kind).1∧(Fld.itemP x kind).1≤59∧(Fld.itemP x kind).2.1≤59∧1≤(Fld.itemP x kind).2.2.1∧(Fld.itemP x kind).2.2.1≤9999:=by
 unfold Fld.itemP at h ⊢
 split at h
 ·rename_i h1; exact absurd h h1
 rename_i h1
 rw [if_neg h1]
 split at h
 ·rename_i h2; exact absurd h h2
 rename_i h2
 rw [if_neg h2]
 split at h
 ·rename_i h3; exact absurd h h3
 rename_i h3
 rw [if_neg h3]
 have h1':Fld.splitE x=0:=by simpa using h1
 have h2':(Fld.valuesP (Fld.cutL x).1 (Fld.parts 45 (Fld.cutL x).1) kind).2.2=0:=by simpa using h2
 have h3':(Fld.stepP (Fld.cutL x).2.1 (Fld.cutL x).2.2).2=0:=by simpa using h3
 have hs:1≤(Fld.stepP (Fld.cutL x).2.1 (Fld.cutL x).2.2).1∧(Fld.stepP (Fld.cutL x).2.1 (Fld.cutL x).2.2).1≤9999:=by
  have hb:=Fld.number_bd (Fld.cutL x).2.1
  unfold Fld.stepP at h3' ⊢
  split at h3'
  ·rename_i hc
   rw [if_pos hc]
   dsimp only at h3' ⊢
   split at h3' <;> omega
  ·rename_i hc
   rw [if_neg hc]
   exact ⟨by decide,by decide⟩
 have hv:0≤(Fld.valuesP (Fld.cutL x).1 (Fld.parts 45 (Fld.cutL x).1) kind).1∧(Fld.valuesP (Fld.cutL x).1 (Fld.parts 45 (Fld.cutL x).1) kind).1≤59∧(Fld.valuesP (Fld.cutL x).1 (Fld.parts 45 (Fld.cutL x).1) kind).2.1≤59:=by
  have hl:=Fld.limits_bd kind hk
  unfold Fld.valuesP at h2' ⊢
  split
  ·dsimp only; omega
  ·rename_i hst
   rw [if_neg hst] at h2'
   generalize Fld.parts 45 (Fld.cutL x).1=P at h2' ⊢
   match P,h2' with
   | [],_=>exact ⟨Int.le_refl 0,(by decide:(0:Int)≤59),(by decide:(0:Int)≤59)⟩
   | [y],h2'=>have:=Fld.value_bd y kind h2'; dsimp only; omega
   | [y,z],h2'=>
    dsimp only at h2' ⊢
    split at h2'
    ·omega
    ·rename_i hy
     split at h2'
     ·omega
     ·rename_i hz
      have h5:=Fld.value_bd y kind (by simpa using hy)
      have h6:=Fld.value_bd z kind (by simpa using hz)
      omega
   | _ :: _ :: _ :: _,_=>exact ⟨Int.le_refl 0,(by decide:(0:Int)≤59),(by decide:(0:Int)≤59)⟩
 exact ⟨h1',h2',h3',rfl,rfl,rfl,hv.1,hv.2.1,hv.2.2,hs.1,hs.2⟩
theorem Fld.pret {kind:Int}{w:World}{L:List ByteArray}{B:Bool}{k:Nat}{ds:List Deferred}{b:Int}{W:World}(hR:Fld.PRel kind w L B k ds b W){w3:World}(hb:Below W.heap.size W w3)(tm:Array Value)(e:Int)
  (h4:tm.getD 4 undef=.pointer (some ⟨w.heap.size,0,none⟩)) (h5:tm.getD 5 undef=.int .i64 e) (hz:tm.size=73) :
  Fld.PRet w e { tmps:=tm,defers:=ds } ((w3.setCell ⟨w.heap.size,0,none⟩ (.int .u64 0)).setCell ⟨w.heap.size,1,none⟩ (.bool false)):=by
 obtain ⟨_,_,_,⟨h1,h2,_,h3⟩,hM⟩ :=hR
 have hr:=blk_below h2 hb
 refine ⟨ds,rfl,h4,h5,hz,?_,blk_put (blk_put hr 0 _ rfl) 1 _ rfl,?_⟩
 ·exact below_set (below_set (h1.trans (hb.mono h1.size)) (Nat.le_refl _)) (Nat.le_refl _)
 ·refine hM.step (by rw [World.size_setCell,World.size_setCell]; exact hb.size) (fun k hk hlt hh=>?_)
  rw [Below.heap_setCell _ _ _ k (by show k≠w.heap.size; omega),Below.heap_setCell _ _ _ k (by show k≠w.heap.size; omega),hb.block k hlt]
  exact hh
theorem Fld.pcells {kind:Int}{w:World}{L:List ByteArray}{B:Bool}{k:Nat}{ds:List Deferred}{b:Int}{W:World}(hR:Fld.PRel kind w L B k ds b W){w3:World}(hb:Below W.heap.size W w3) :
  w3.cell? ⟨w.heap.size,0,none⟩=some (.int .u64 0)∧w3.cell? ⟨w.heap.size,1,none⟩=some (.bool false)∧w3.frozen? ⟨w.heap.size,0,none⟩=false∧w3.frozen? ⟨w.heap.size,1,none⟩=false:=by
 obtain ⟨_,_,_,⟨h1,h2,_,h3⟩,hM⟩ :=hR
 have hr:=blk_below h2 hb
 exact ⟨(blk_cell hr 0).trans rfl,(blk_cell hr 1).trans rfl,blk_frozen hr 0,blk_frozen hr 1⟩
theorem Fld.each_box (g:Nat)(w:World):Calls Tryz.prog 41 #[.pointer (some ⟨g,0,none⟩)] w fun e w'=>e=.returned (.func (.func 66) #[] #[.pointer (some ⟨w.heap.size,0,none⟩)])∧w'=w.alloc (.cells #[.pointer (some ⟨g,0,none⟩)] 71):=by
 go_enter Tryz.func41,Tryz.ntmps41
 go_wp2
 go_ret
 exact ⟨rfl,rfl⟩
def Fld.firstRange:Code→Option Code
 | .loop c=>Fld.firstRange c
 | .seq a b=>match Fld.firstRange a with
  | some c=>some c
  | none=>Fld.firstRange b
 | .block _ c=>Fld.firstRange c
 | .scope c=>Fld.firstRange c
 | .cond _ a b=>match Fld.firstRange a with
  | some c=>some c
  | none=>Fld.firstRange b
 | .rangeFunc a b c d=>some (.rangeFunc a b c d)
 | _=>none
noncomputable def Fld.parseRange:Code:=((Tryz.f17.body.bind Fld.firstRange).getD .skip)
theorem Fld.put_bd {b:Int}(x:Fin 64)(h:0≤b∧b < 18446744073709551616):0≤Fld.put b x∧Fld.put b x < 18446744073709551616:=by
 unfold Fld.put
 obtain ⟨n,rfl⟩ :=Int.eq_ofNat_of_zero_le h.1
 have h2:(2:Int) ^ x.val=((2 ^ x.val:Nat):Int):=by simp
 have hx:2 ^ x.val < 2 ^ 64:=Nat.pow_lt_pow_right (by decide) x.isLt
 have hn:n < 2 ^ 64:=by have:=h.2; omega
 rw [h2,(bits_nat .u64 64 (by decide) (fun z h0 h1=>IntWalk.u64_in z ⟨h0,by omega⟩) n _ hn hx).2]
 have:=Nat.or_lt_two_pow hn hx
 omega
section
open Go.Shelf
attribute [local go_sem] Oper.semAt_some
set_option maxHeartbeats 8000000 in
set_option maxRecDepth 1000000 in
theorem Fld.range_go (u0 u1 u2 u3 u4 u5 u6 u7 u8 u10 u11 u12 u13 u14 u15 u16 u17 u18 u19 u20 u21 u22 u23 u24 u25 u26 u27 u28 u29 u30 u31 u32 u33 u34 u35 u36 u37 u38 u39 u40 u41 u42 u43 u44 u45 u46 u47 u48 u49 u50 u51 u52 u53 u54 u55 u56 u57 u58 u59 u60 u61 u63 u64 u65 u66 u67 u68 u69 u70 u71 u72:Value)(g Bx fB:Nat)(s A Bh:ByteArray)(C:Bool)(ends:Value)(kind fr tt by_:Int)(B:Bool)(b:Int)(ds:List Deferred)(W:World)
  (hI:Fld.It W g s A Bh C ends kind fr tt by_) (hB:W.heap[Bx]?=some (.cells #[.pointer (some ⟨g,0,none⟩)] 71 (0,0))) (h0:0≤fr) (h1:tt < 64) (h2:1≤by_) (h3:by_≤10000) (h4:fr≤10000)
  (hf:W.heap[fB]?=some (.cells #[.int .u64 b,.bool B] 24 (0,0))) (hn1:g≠fB) (hn2:Bx≠fB) (hb:0≤b∧b < 18446744073709551616) (Q:Exit→Act→World→Prop)
  (hdone:∀ (D:Nat) (W':World),W.heap.size≤D→Fld.Only fB W W'→W'.heap[fB]?=some (.cells #[.int .u64 ((Fld.vals kind tt by_ (tt+1 - fr).toNat fr).foldl Fld.put b),.bool B] 24 (0,0))→
   (0≤(Fld.vals kind tt by_ (tt+1 - fr).toNat fr).foldl Fld.put b∧(Fld.vals kind tt by_ (tt+1 - fr).toNat fr).foldl Fld.put b < 18446744073709551616)→W'.heap[D]?=some (.deferred (some []))→
   Q .normal { tmps:=#[u0,u1,u2,u3,u4,u5,u6,u7,u8,.pointer (some ⟨fB,0,none⟩),u10,u11,u12,u13,u14,u15,u16,u17,u18,u19,u20,u21,u22,u23,u24,u25,u26,u27,u28,u29,u30,u31,u32,u33,u34,u35,u36,u37,u38,u39,u40,u41,u42,u43,u44,u45,u46,u47,u48,u49,u50,u51,u52,u53,u54,u55,u56,u57,u58,u59,u60,u61,.func (.func 66) #[] #[.pointer (some ⟨Bx,0,none⟩)],u63,u64,u65,u66,u67,u68,u69,u70,u71,u72],defers:={ target:=.collected D,args:=#[] } :: ds } W') :
  Code.wpIn Fence.wide 6 Tryz.prog Fld.parseRange Q { tmps:=#[u0,u1,u2,u3,u4,u5,u6,u7,u8,.pointer (some ⟨fB,0,none⟩),u10,u11,u12,u13,u14,u15,u16,u17,u18,u19,u20,u21,u22,u23,u24,u25,u26,u27,u28,u29,u30,u31,u32,u33,u34,u35,u36,u37,u38,u39,u40,u41,u42,u43,u44,u45,u46,u47,u48,u49,u50,u51,u52,u53,u54,u55,u56,u57,u58,u59,u60,u61,.func (.func 66) #[] #[.pointer (some ⟨Bx,0,none⟩)],u63,u64,u65,u66,u67,u68,u69,u70,u71,u72],defers:=ds } W:=by
 conv=>arg 4; whnf
 have hfl:=blk_lt hf
 have hgl:=blk_lt hI
 have hBl:=blk_lt hB
 replace hdone:=Lib.hid hdone
 have OWN:OwnFrom W.heap.size (fun (pre:List (Fin 64)) W'=>Fld.Only fB W W'∧W'.heap[fB]?=some (.cells #[.int .u64 (pre.foldl Fld.put b),.bool B] 24 (0,0))∧(0≤pre.foldl Fld.put b∧pre.foldl Fld.put b < 18446744073709551616)):=by
  intro s W1 W2 row hs hg hr
  have hne:∀ k,k < W.heap.size→some k≠row:=fun k hk e=>by have:=(hr k e.symm).1; omega
  refine ⟨⟨hg.os.trans hs.1.os,hg.tape.trans hs.1.tape,hg.output.trans hs.1.output,Nat.le_trans hs.1.size hg.size,fun k hk hn=>(hg.block k (Nat.lt_of_lt_of_le hk hs.1.size) (hne k hk)).trans (hs.1.block k hk hn)⟩,?_,hs.2.2⟩
  exact (hg.block fB (blk_lt hs.2.1) (hne fB hfl)).trans hs.2.1
 refine wpIn_rangeFunc_ownF rfl (by decide) (gf:=66) (lb:=#[.pointer (some ⟨Bx,0,none⟩)]) rfl trivial (enters_of Tryz.func66 (by kernel_rfl) rfl)
  (Fld.each_stops Fence.wide (6 - 1) trivial rfl (by decide) g Bx s A Bh C ends kind fr tt by_ W hI hB h0 h1 h2 h3 h4)
  (fun h k=>⟨k.1.trans h.1,k.2.trans h.2⟩) (fun W' l o o' hl _ _ _=>⟨World.putObj_heap_other (by omega),World.putObj_heap_other (by omega)⟩) (Below.refl _ _) (fun _=>rfl)
  (fun (pre:List (Fin 64)) W'=>Fld.Only fB W W'∧W'.heap[fB]?=some (.cells #[.int .u64 (pre.foldl Fld.put b),.bool B] 24 (0,0))∧(0≤pre.foldl Fld.put b∧pre.foldl Fld.put b < 18446744073709551616)) (fun _ _ _=>False)
  OWN (fun _ _ _ _ _ h _ _=>h) ⟨Fld.Only.refl _ _,hf,hb⟩
  (fun x=>{ tmps:=#[u0,u1,u2,u3,u4,u5,u6,u7,u8,.pointer (some ⟨fB,0,none⟩),u10,u11,u12,u13,u14,u15,.int .i64 (x.val:Int),u17,u18,u19,u20,u21,u22,u23,u24,u25,u26,u27,u28,u29,u30,u31,u32,u33,u34,u35,u36,u37,u38,u39,u40,u41,u42,u43,u44,u45,u46,u47,u48,u49,u50,u51,u52,u53,u54,u55,u56,u57,u58,u59,u60,u61,.func (.func 66) #[] #[.pointer (some ⟨Bx,0,none⟩)],.int .i64 (x.val:Int),u64,u65,u66,u67,u68,u69,u70,u71,u72],defers:=[] }) ?assign ?body ?done ?stop
 case assign=>
  intro l x W' K hK
  dsimp only [Fld.encF]
  gi_wp2
  exact hK
 case body=>
  rintro l pre x W' ⟨hO,hc,hbd⟩ _
  have c0:W'.cell? ⟨fB,0,none⟩=some (.int .u64 (pre.foldl Fld.put b)):=(blk_cell hc 0).trans rfl
  have f0:=blk_frozen hc 0
  obtain ⟨z,hz⟩:∃ z,pre.foldl Fld.put b=z:=⟨_,rfl⟩
  rw [hz] at c0 hbd
  obtain ⟨n,hn⟩:∃ n:Nat,x.val=n:=⟨_,rfl⟩
  have hlt:=x.isLt
  rw [hn] at hlt ⊢
  gi_wp2
  have hw:IntKind.u64.wrap (2 ^ n)=2 ^ n:=by
   have h2:(2:Int) ^ n=((2 ^ n:Nat):Int):=by simp
   have hx:2 ^ n < 2 ^ 64:=Nat.pow_lt_pow_right (by decide) hlt
   obtain ⟨N,hN⟩:∃ N:Nat,2 ^ n=N:=⟨_,rfl⟩
   rw [hN] at hx h2
   rw [h2]
   exact IntWalk.u64_in _ ⟨by omega,by omega⟩
  have hp:Fld.put z x=bits .or .u64 z (2 ^ n):=by unfold Fld.put; rw [hn]
  refine ⟨KeepsOthers.setCell _ _ _,⟨?_,?_⟩,?_,?_,?_⟩
  ·exact Below.heap_setCell _ _ _ g hn1
  ·exact Below.heap_setCell _ _ _ Bx hn2
  ·exact hO.set 0 _
  ·rw [hw,← hp,List.foldl_append,hz]
   exact blk_put hc 0 _ rfl
  ·rw [List.foldl_append,hz]
   exact Fld.put_bd x hbd
 case done=>
  rintro D ys W' hD rfl ⟨hO,hc,hbd⟩ hK
  exact hdone.out D W' hD hO hc hbd hK
 case stop=>
  rintro D c pre W' _ _ h _
  exact h.elim
end
set_option maxRecDepth 1000000 in
def Fld.PI (s:ByteArray)(kind:Int)(w:World)(L:List ByteArray)(B:Bool)(a:Act)(W:World):Prop:=
 ∃ (k:Nat) (ds:List Deferred) (b:Int) (u2 u3 u5 u6 u7 u8 u10 u11 u12 u13 u14 u15 u16 u17 u18 u19 u20 u21 u22 u23 u24 u25 u26 u27 u28 u29 u30 u34 u35 u36 u37 u38 u39 u40 u41 u42 u43 u44 u45 u46 u47 u48 u49 u50 u51 u52 u53 u54 u55 u56 u57 u58 u59 u60 u61 u62 u63 u64 u65 u66 u67 u68 u69 u70 u71 u72:Value),a={ tmps:=#[.string s,.int .i64 kind,u2,u3,.pointer (some ⟨w.heap.size,0,none⟩),u5,u6,u7,u8,.pointer (some ⟨w.heap.size+1,0,none⟩),u10,u11,u12,u13,u14,u15,u16,u17,u18,u19,u20,u21,u22,u23,u24,u25,u26,u27,u28,u29,u30,.slice (some ⟨w.heap.size+2,0,none⟩) L.length L.length,.int .i64 (L.length:Int),.int .i64 (k:Int),u34,u35,u36,u37,u38,u39,u40,u41,u42,u43,u44,u45,u46,u47,u48,u49,u50,u51,u52,u53,u54,u55,u56,u57,u58,u59,u60,u61,u62,u63,u64,u65,u66,u67,u68,u69,u70,u71,u72],defers:=ds }∧Fld.PRel kind w L B k ds b W
def Fld.Pmu (L:List ByteArray)(a:Act)(_:World):Nat:=L.length - (intOf (a.tmps.getD 33 undef)).toNat
section
open Go.Shelf
attribute [local go_sem] Oper.semAt_some
set_option maxHeartbeats 8000000 in
set_option maxRecDepth 1000000 in
theorem Fld.round_go (s:ByteArray)(kind:Int)(w:World)(L:List ByteArray)(B:Bool)(hT:Tab w)(hg5:4≤w.heap.size)(k:Nat)(ds:List Deferred)(b:Int)(u2 u3 u5 u6 u7 u8 u10 u11 u12 u13 u14 u15 u16 u17 u18 u19 u20 u21 u22 u23 u24 u25 u26 u27 u28 u29 u30 u34 u35 u36 u37 u38 u39 u40 u41 u42 u43 u44 u45 u46 u47 u48 u49 u50 u51 u52 u53 u54 u55 u56 u57 u58 u59 u60 u61 u62 u63 u64 u65 u66 u67 u68 u69 u70 u71 u72:Value)(W:World)(hR:Fld.PRel kind w L B k ds b W)(hlt:k < L.length)(hLs:L.length≤2000000)(hkd:(Lex.limits kind).2.2=0)(Q0:Exit→Act→World→Prop)
  (x:ByteArray) (hx:L[k]?=some x) (hxs:x.size≤1000000) (hret:Hid ((Fld.itemP x kind).2.2.2≠0→∀ a W',Fld.PRet w (Fld.itemP x kind).2.2.2 a W'→Q0 .ret a W')) :
  Code.wpIn Fence.wide 6 Tryz.prog Fld.parseBody (Exit.then (fun a' W'=>Fld.PI s kind w L B a' W'∧Fld.Pmu L a' W' < Fld.Pmu L { tmps:=#[.string s,.int .i64 kind,u2,u3,.pointer (some ⟨w.heap.size,0,none⟩),u5,u6,u7,u8,.pointer (some ⟨w.heap.size+1,0,none⟩),u10,u11,u12,u13,u14,u15,u16,u17,u18,u19,u20,u21,u22,u23,u24,u25,u26,u27,u28,u29,u30,.slice (some ⟨w.heap.size+2,0,none⟩) L.length L.length,.int .i64 (L.length:Int),.int .i64 (k:Int),u34,u35,u36,u37,u38,u39,u40,u41,u42,u43,u44,u45,u46,u47,u48,u49,u50,u51,u52,u53,u54,u55,u56,u57,u58,u59,u60,u61,u62,u63,u64,u65,u66,u67,u68,u69,u70,u71,u72],defers:=ds } W) Q0) { tmps:=#[.string s,.int .i64 kind,u2,u3,.pointer (some ⟨w.heap.size,0,none⟩),u5,u6,u7,u8,.pointer (some ⟨w.heap.size+1,0,none⟩),u10,u11,u12,u13,u14,u15,u16,u17,u18,u19,u20,u21,u22,u23,u24,u25,u26,u27,u28,u29,u30,.slice (some ⟨w.heap.size+2,0,none⟩) L.length L.length,.int .i64 (L.length:Int),.int .i64 (k:Int),u34,u35,u36,u37,u38,u39,u40,u41,u42,u43,u44,u45,u46,u47,u48,u49,u50,u51,u52,u53,u54,u55,u56,u57,u58,u59,u60,u61,u62,u63,u64,u65,u66,u67,u68,u69,u70,u71,u72],defers:=ds } W:=by
 conv=>arg 4; whnf
 have hrow:W.cell? ⟨w.heap.size+2,k,none⟩=some (.string x):=by
  refine (blk_cell hR.2.2.2.1.2.2.2 k).trans ?_
  simp [hx]
 replace hx:=Lib.hid hx
 replace hR:=Aside0.mk hR
 gi_wp2_with fail
 refine wpIn_loop_rounds 4 ?_
 rw [roundsIn_succ]
 gi_wp2_with fail
 refine ⟨trivial,?_⟩
 refine Fld.genIn (fun W1=>Fld.It W1 W.heap.size x ⟨#[]⟩ ⟨#[]⟩ false (.slice none 0 0) kind 0 0 0∧W1.heap[W.heap.size+1]?=some (.cells #[.func (.func 37) #[.pointer (some ⟨W.heap.size,0,none⟩)] #[],.func (.func 38) #[.pointer (some ⟨W.heap.size,0,none⟩)] #[],.func (.func 39) #[.pointer (some ⟨W.heap.size,0,none⟩)] #[]] 74 (0,0))∧Below W.heap.size W W1) ?_ ?_
 ·refine ⟨?_,?_,?_⟩
  ·exact blk_alloc (blk_new W _) _
  ·have:=heap_alloc_new (W.alloc (.cells #[.string x,.string ⟨#[]⟩,.string ⟨#[]⟩,.bool false,.slice none 0 0,.int .i64 kind,.int .i64 0,.int .i64 0,.int .i64 0] 73)) (.cells #[.func (.func 37) #[.pointer (some ⟨W.heap.size,0,none⟩)] #[],.func (.func 38) #[.pointer (some ⟨W.heap.size,0,none⟩)] #[],.func (.func 39) #[.pointer (some ⟨W.heap.size,0,none⟩)] #[]] 74)
   simpa using this
  ·exact below_alloc (below_alloc (Below.refl _ _) _) _
 rintro W1 ⟨hI,hF,hb⟩
 have hgw:W.heap.size≥w.heap.size+3:=by have:=blk_lt hR.out.2.2.2.1.2.2.2; omega
 have hT1:Tab W1:=(hT.keep hR.out.2.2.2.1.1).keep hb
 have hz1:=blk_lt hF
 obtain ⟨g,hg⟩:∃ g,W.heap.size=g:=⟨_,rfl⟩
 rw [hg] at hI hF hb hgw hz1 ⊢
 clear hrow
 refine (callsIn_wide.2 (Fld.split_calls x _ _ _ _ kind 0 0 0 g W1 hT1 (by omega) hxs hI)).mono ?_
 rintro e w2 ⟨v,q,rfl,hv,hqg,hqs,hI2,hq2,hO2⟩
 replace hF:=hO2.blk hF (by omega)
 replace hb:=hb.trans (hO2.to_below (Nat.le_refl _) (by omega))
 replace hT1:=hO2.tab (by omega) hT1
 have hqs':g+1 < q:=by omega
 clear hI hz1 hqs hO2
 replace hI2:=Aside0.mk hI2
 replace hq2:=Aside0.mk hq2
 replace hF:=Aside0.mk hF
 replace hb:=Aside0.mk hb
 replace hT1:=Aside0.mk hT1
 replace hg:=Lib.hid hg
 replace hgw:=Lib.hid hgw
 rcases hv with ⟨hs0,rfl⟩ | ⟨hs0,bb,hbb,rfl,hbc⟩
 rotate_left
 ·have he:Hid ((Fld.itemP x kind).2.2.2=Fld.splitE x):=Lib.hid (by unfold Fld.itemP; rw [if_pos hs0])
  replace hs0:=Lib.hid hs0
  replace hqg:=Lib.hid hqg; replace hqs':=Lib.hid hqs'
  clear hI2 hq2 hF
  gi_wp2_with fail
  refine ⟨trivial,?_⟩
  refine (callsIn_wide.2 (Fld.number_hit bb _ _ hT1.out hbc)).mono ?_
  rintro e w3 ⟨rfl,hb3⟩
  have hb4:Below W.heap.size W w3:=by rw [hg.out]; exact hb.out.trans (hb3.mono (by have:=hb.out.size; have:=hg.out; omega))
  obtain ⟨r0,r1,f0,f1⟩ :=Fld.pcells hR.out hb4
  replace hb4:=Aside0.mk hb4
  clear hbc hbb hb3 hb hT1 hT
  gi_wp2_with fail
  refine hret.out (by rw [he.out]; exact hs0.out) _ _ ?_
  rw [he.out]
  exact Fld.pret hR.out hb4.out _ _ rfl rfl rfl
 -- the second reading: the values
 have hP:=Lib.hid (Fld.split_len hs0)
 replace hs0:=Lib.hid hs0
 have hfn1:w2.cell? ⟨g+1,1,none⟩=some (.func (.func 38) #[.pointer (some ⟨g,0,none⟩)] #[]):=(blk_cell hF.out 1).trans rfl
 replace hqg:=Lib.hid hqg; replace hqs':=Lib.hid hqs'
 gi_wp2_with fail
 rw [roundsIn_succ]
 gi_wp2_with fail
 refine ⟨trivial,?_⟩
 refine (callsIn_wide.2 (Fld.values_calls x _ _ _ _ q kind 0 0 0 g w2 hI2.out hq2.out hqg.out hP.out)).mono ?_
 rintro e w4 ⟨v,f,t,rfl,hv,hI4,hft,hO4⟩
 clear hfn1
 have hF4:=hO4.blk hF.out (by omega)
 have hb4:=hb.out.trans (hO4.to_below (Nat.le_refl _) (by have:=blk_lt hF.out; omega))
 have hT4:=hO4.tab (by have:=hgw.out; omega) hT1.out
 clear hI2 hq2 hF hb hT1 hO4
 have hI2:=Aside0.mk hI4; have hF:=Aside0.mk hF4; have hb:=Aside0.mk hb4; have hT1:=Aside0.mk hT4
 clear hI4 hF4 hb4 hT4
 replace hft:=Lib.hid hft
 rcases hv with ⟨hs1,rfl⟩ | ⟨hs1,bb,hbb,rfl,hbc⟩
 rotate_left
 ·have he:Hid ((Fld.itemP x kind).2.2.2=(Fld.valuesP (Fld.cutL x).1 (Fld.parts 45 (Fld.cutL x).1) kind).2.2):=Lib.hid (by unfold Fld.itemP; rw [if_neg (by simp [hs0.out]),if_pos hs1])
  clear hs0
  have hs0:=Lib.hid hs1
  clear hs1 hI2 hF hft
  gi_wp2_with fail
  refine ⟨trivial,?_⟩
  refine (callsIn_wide.2 (Fld.number_hit bb _ _ hT1.out hbc)).mono ?_
  rintro e w3 ⟨rfl,hb3⟩
  have hb4:Below W.heap.size W w3:=by rw [hg.out]; exact hb.out.trans (hb3.mono (by have:=hb.out.size; have:=hg.out; omega))
  obtain ⟨r0,r1,f0,f1⟩ :=Fld.pcells hR.out hb4
  replace hb4:=Aside0.mk hb4
  clear hbc hbb hb3 hb hT1 hT
  gi_wp2_with fail
  refine hret.out (by rw [he.out]; exact hs0.out) _ _ ?_
  rw [he.out]
  exact Fld.pret hR.out hb4.out _ _ rfl rfl rfl
 obtain ⟨rfl,rfl⟩ :=hft.out hs1
 -- the third reading: the step
 replace hs1:=Lib.hid hs1
 have hfn1:w4.cell? ⟨g+1,2,none⟩=some (.func (.func 39) #[.pointer (some ⟨g,0,none⟩)] #[]):=(blk_cell hF.out 2).trans rfl
 clear hft
 gi_wp2_with fail
 rw [roundsIn_succ]
 gi_wp2_with fail
 refine ⟨trivial,?_⟩
 refine (callsIn_wide.2 (Fld.step_calls x _ _ _ _ kind _ _ _ g w4 hI2.out)).mono ?_
 rintro e w5 ⟨v,rfl,hv,hI5,hO5⟩
 clear hfn1
 have hF5:=hO5.blk hF.out (by omega)
 have hb5:=hb.out.trans (hO5.to_below (Nat.le_refl _) (by have:=blk_lt hF.out; omega))
 have hT5:=hO5.tab (by have:=hgw.out; omega) hT1.out
 clear hI2 hF hb hT1 hO5
 have hI2:=Aside0.mk hI5; have hF:=Aside0.mk hF5; have hb:=Aside0.mk hb5; have hT1:=Aside0.mk hT5
 clear hI5 hF5 hb5 hT5
 rcases hv with ⟨hs2,rfl⟩ | ⟨hs2,bb,hbb,rfl,hbc⟩
 rotate_left
 ·have he:Hid ((Fld.itemP x kind).2.2.2=(Fld.stepP (Fld.cutL x).2.1 (Fld.cutL x).2.2).2):=Lib.hid (by unfold Fld.itemP; rw [if_neg (by simp [hs0.out]),if_neg (by simp [hs1.out]),if_pos hs2])
  clear hs0
  have hs0:=Lib.hid hs2
  clear hs2 hs1 hI2 hF
  gi_wp2_with fail
  refine ⟨trivial,?_⟩
  refine (callsIn_wide.2 (Fld.number_hit bb _ _ hT1.out hbc)).mono ?_
  rintro e w3 ⟨rfl,hb3⟩
  have hb4:Below W.heap.size W w3:=by rw [hg.out]; exact hb.out.trans (hb3.mono (by have:=hb.out.size; have:=hg.out; omega))
  obtain ⟨r0,r1,f0,f1⟩ :=Fld.pcells hR.out hb4
  replace hb4:=Aside0.mk hb4
  clear hbc hbb hb3 hb hT1 hT
  gi_wp2_with fail
  refine hret.out (by rw [he.out]; exact hs0.out) _ _ ?_
  rw [he.out]
  exact Fld.pret hR.out hb4.out _ _ rfl rfl rfl
 have hE0:(Fld.itemP x kind).2.2.2=0:=by unfold Fld.itemP; rw [if_neg (by simp [hs0.out]),if_neg (by simp [hs1.out]),if_neg (by simp [hs2])]
 obtain ⟨_,_,_,q1,q2,q3,bd1,bd2,bd3,bd4,bd5⟩ :=Fld.item_bd x kind hkd hE0
 have hI3:=hI2.out
 rw [← q1,← q2,← q3] at hI3
 have hLst:Fld.itemL x kind=Fld.vals kind (Fld.itemP x kind).2.1 (Fld.itemP x kind).2.2.1 ((Fld.itemP x kind).2.1+1 - (Fld.itemP x kind).1).toNat (Fld.itemP x kind).1:=rfl
 have hpl:Fld.parseL kind (L.drop k) b=Fld.parseL kind (L.drop (k+1)) ((Fld.itemL x kind).foldl Fld.put b):=by
  rw [List.drop_eq_getElem_cons hlt,show L[k]=x by have:=hx.out; rw [List.getElem?_eq_getElem hlt] at this; exact Option.some.inj this]
  show (if (Fld.itemP x kind).2.2.2≠0 then _ else _)=_
  rw [if_neg (by simp [hE0])]
 obtain ⟨IF,hIF⟩:∃ F,(Fld.itemP x kind).1=F:=⟨_,rfl⟩
 obtain ⟨IT,hIT⟩:∃ F,(Fld.itemP x kind).2.1=F:=⟨_,rfl⟩
 obtain ⟨IB,hIB⟩:∃ F,(Fld.itemP x kind).2.2.1=F:=⟨_,rfl⟩
 rw [hIF,hIT,hIB] at hLst hI3
 rw [hIF] at bd1 bd2
 rw [hIT] at bd3
 rw [hIB] at bd4 bd5
 clear q1 q2 q3 hIF hIT hIB hI2 hs0 hs1 hret
 have hI2:=Aside0.mk hI3
 replace hLst:=Lib.hid hLst
 replace hpl:=Lib.hid hpl
 replace hE0:=Lib.hid hE0
 clear hI3
 replace hs2:=Lib.hid hs2
 gi_wp2_with fail
 rw [roundsIn_succ]
 gi_wp2_with (refine ⟨trivial,?_⟩; gi_at_call 41; refine (callsIn_wide.2 (Fld.each_box g _)).mono ?_; rintro e w' ⟨rfl,rfl⟩)
 obtain ⟨hk0,hpl0,hbd,hPI,hM⟩ :=hR.out
 have hI6:=hI2.out.below (below_alloc (Below.refl _ _) (.cells #[.pointer (some ⟨g,0,none⟩)] 71))
 have hb6:=hb.out.trans ((below_alloc (Below.refl _ _) (.cells #[.pointer (some ⟨g,0,none⟩)] 71)).mono (by have:=blk_lt hF.out; omega))
 have hX6:=heap_alloc_new w5 (.cells #[.pointer (some ⟨g,0,none⟩)] 71)
 have hf6:=(hb6.block (w.heap.size+1) (by have:=hgw.out; omega)).trans hPI.2.2.1
 have hz5:=blk_lt hF.out
 refine Fld.range_go _ _ _ _ _ _ _ _ _ _ _ _ _ _ _ _ _ _ _ _ _ _ _ _ _ _ _ _ _ _ _ _ _ _ _ _ _ _ _ _ _ _ _ _ _ _ _ _ _ _ _ _ _ _ _ _ _ _ _ _ _ _ _ _ _ _ _ _ _ _ _ g w5.heap.size (w.heap.size+1) x _ _ _ _ kind IF IT IB B b ds _ hI6 hX6 bd1 (by omega) bd4 (by omega) (by omega) hf6 (by have:=hgw.out; omega) (by have:=hgw.out; omega) hbd _ ?_
 intro D W' hD hO hc hbd2 hK
 gi_wp2_with fail
 have hkw:((k:Int)+1)=((k+1:Nat):Int):=by omega
 rw [hkw]
 have hgw:=hgw.out
 have hg:=hg.out
 have hsz:(w5.alloc (.cells #[.pointer (some ⟨g,0,none⟩)] 71)).heap.size=w5.heap.size+1:=by simp
 have hgs:g≤w5.heap.size:=by omega
 refine ⟨⟨k+1,_,_,_,_,_,_,_,_,_,_,_,_,_,_,_,_,_,_,_,_,_,_,_,_,_,_,_,_,_,_,_,_,_,_,_,_,_,_,_,_,_,_,_,_,_,_,_,_,_,_,_,_,_,_,_,_,_,_,_,_,_,_,_,_,_,_,_,_,rfl,by omega,?_,hbd2,⟨?_,?_,?_,?_⟩,⟨D,rfl,by omega,blk_lt hK,hK,?_⟩⟩,?_⟩
 ·rw [← hLst.out,← hpl.out]; exact hpl0
 ·exact (hPI.1.trans (hb6.mono (by omega))).trans (hO.to_below (by omega) (by omega))
 ·exact hO.blk ((hb6.block _ (by omega)).trans hPI.2.1) (by omega)
 ·exact hc
 ·exact hO.blk ((hb6.block _ (by omega)).trans hPI.2.2.2) (by omega)
 ·exact hM.step (by omega) (fun j hj hlt2 hh=>hO.blk ((hb6.block j (by omega)).trans hh) (by omega))
 ·show L.length - (intOf (.int .i64 ((k+1:Nat):Int))).toNat < L.length - (intOf (.int .i64 (k:Int))).toNat
  simp only [intOf]
  omega
end
section
open Go.Shelf
attribute [local go_sem] Oper.semAt_some
set_option maxHeartbeats 8000000 in
set_option maxRecDepth 1000000 in
theorem Fld.round_end (s:ByteArray)(kind:Int)(w:World)(L:List ByteArray)(B:Bool)(k:Nat)(ds:List Deferred)(u2 u3 u5 u6 u7 u8 u10 u11 u12 u13 u14 u15 u16 u17 u18 u19 u20 u21 u22 u23 u24 u25 u26 u27 u28 u29 u30 u34 u35 u36 u37 u38 u39 u40 u41 u42 u43 u44 u45 u46 u47 u48 u49 u50 u51 u52 u53 u54 u55 u56 u57 u58 u59 u60 u61 u62 u63 u64 u65 u66 u67 u68 u69 u70 u71 u72:Value)(W:World)(hlt:¬ k < L.length)(hLs:L.length≤2000000)(Q1 Q0:Exit→Act→World→Prop)
  (hexit:Q0 (.exit 0) { tmps:=#[.string s,.int .i64 kind,u2,u3,.pointer (some ⟨w.heap.size,0,none⟩),u5,u6,u7,u8,.pointer (some ⟨w.heap.size+1,0,none⟩),u10,u11,u12,u13,u14,u15,u16,u17,u18,u19,u20,u21,u22,u23,u24,u25,u26,u27,u28,u29,u30,.slice (some ⟨w.heap.size+2,0,none⟩) L.length L.length,.int .i64 (L.length:Int),.int .i64 (k:Int),.bool false,u35,u36,u37,u38,u39,u40,u41,u42,u43,u44,u45,u46,u47,u48,u49,u50,u51,u52,u53,u54,u55,u56,u57,u58,u59,u60,u61,u62,u63,u64,u65,u66,u67,u68,u69,u70,u71,u72],defers:=ds } W) :
  Code.wpIn Fence.wide 6 Tryz.prog Fld.parseBody (Exit.then (fun a' W'=>Q1 .normal a' W') Q0) { tmps:=#[.string s,.int .i64 kind,u2,u3,.pointer (some ⟨w.heap.size,0,none⟩),u5,u6,u7,u8,.pointer (some ⟨w.heap.size+1,0,none⟩),u10,u11,u12,u13,u14,u15,u16,u17,u18,u19,u20,u21,u22,u23,u24,u25,u26,u27,u28,u29,u30,.slice (some ⟨w.heap.size+2,0,none⟩) L.length L.length,.int .i64 (L.length:Int),.int .i64 (k:Int),u34,u35,u36,u37,u38,u39,u40,u41,u42,u43,u44,u45,u46,u47,u48,u49,u50,u51,u52,u53,u54,u55,u56,u57,u58,u59,u60,u61,u62,u63,u64,u65,u66,u67,u68,u69,u70,u71,u72],defers:=ds } W:=by
 conv=>arg 4; whnf
 have e1:decide (k < L.length)=false:=by simpa using hlt
 have e2:decide ((k:Int) < (L.length:Int))=false:=by simp; omega
 gi_wp2_with fail
 exact hexit
set_option maxHeartbeats 8000000 in
set_option maxRecDepth 1000000 in
theorem Fld.loop_go (s:ByteArray)(kind:Int)(w:World)(L:List ByteArray)(B:Bool)(hT:Tab w)(hg5:4≤w.heap.size)(hLs:L.length≤2000000)(hxs:∀ x ∈ L,x.size≤1000000)(hkd:(Lex.limits kind).2.2=0)(k:Nat)(ds:List Deferred)(b:Int)(u2 u3 u5 u6 u7 u8 u10 u11 u12 u13 u14 u15 u16 u17 u18 u19 u20 u21 u22 u23 u24 u25 u26 u27 u28 u29 u30 u34 u35 u36 u37 u38 u39 u40 u41 u42 u43 u44 u45 u46 u47 u48 u49 u50 u51 u52 u53 u54 u55 u56 u57 u58 u59 u60 u61 u62 u63 u64 u65 u66 u67 u68 u69 u70 u71 u72:Value)(W:World)(hR:Fld.PRel kind w L B k ds b W)(Q0:Exit→Act→World→Prop)
  (hret:∀ e a W',e≠0→(Fld.parseL kind L 0).2=e→Fld.PRet w e a W'→Q0 .ret a W')
  (hexit:∀ (k:Nat) (ds:List Deferred) (b:Int) (u2 u3 u5 u6 u7 u8 u10 u11 u12 u13 u14 u15 u16 u17 u18 u19 u20 u21 u22 u23 u24 u25 u26 u27 u28 u29 u30 u34 u35 u36 u37 u38 u39 u40 u41 u42 u43 u44 u45 u46 u47 u48 u49 u50 u51 u52 u53 u54 u55 u56 u57 u58 u59 u60 u61 u62 u63 u64 u65 u66 u67 u68 u69 u70 u71 u72:Value) (W':World),Fld.PRel kind w L B L.length ds b W'→Q0 (.exit 0) { tmps:=#[.string s,.int .i64 kind,u2,u3,.pointer (some ⟨w.heap.size,0,none⟩),u5,u6,u7,u8,.pointer (some ⟨w.heap.size+1,0,none⟩),u10,u11,u12,u13,u14,u15,u16,u17,u18,u19,u20,u21,u22,u23,u24,u25,u26,u27,u28,u29,u30,.slice (some ⟨w.heap.size+2,0,none⟩) L.length L.length,.int .i64 (L.length:Int),.int .i64 (k:Int),.bool false,u35,u36,u37,u38,u39,u40,u41,u42,u43,u44,u45,u46,u47,u48,u49,u50,u51,u52,u53,u54,u55,u56,u57,u58,u59,u60,u61,u62,u63,u64,u65,u66,u67,u68,u69,u70,u71,u72],defers:=ds } W') :
  Code.wpIn Fence.wide 6 Tryz.prog (Code.loop Fld.parseBody) Q0 { tmps:=#[.string s,.int .i64 kind,u2,u3,.pointer (some ⟨w.heap.size,0,none⟩),u5,u6,u7,u8,.pointer (some ⟨w.heap.size+1,0,none⟩),u10,u11,u12,u13,u14,u15,u16,u17,u18,u19,u20,u21,u22,u23,u24,u25,u26,u27,u28,u29,u30,.slice (some ⟨w.heap.size+2,0,none⟩) L.length L.length,.int .i64 (L.length:Int),.int .i64 (k:Int),u34,u35,u36,u37,u38,u39,u40,u41,u42,u43,u44,u45,u46,u47,u48,u49,u50,u51,u52,u53,u54,u55,u56,u57,u58,u59,u60,u61,u62,u63,u64,u65,u66,u67,u68,u69,u70,u71,u72],defers:=ds } W:=by
 refine wpIn_loop (Fld.PI s kind w L B) (Fld.Pmu L) ?_ ?_
 ·exact ⟨k,ds,b,u2,u3,u5,u6,u7,u8,u10,u11,u12,u13,u14,u15,u16,u17,u18,u19,u20,u21,u22,u23,u24,u25,u26,u27,u28,u29,u30,u34,u35,u36,u37,u38,u39,u40,u41,u42,u43,u44,u45,u46,u47,u48,u49,u50,u51,u52,u53,u54,u55,u56,u57,u58,u59,u60,u61,u62,u63,u64,u65,u66,u67,u68,u69,u70,u71,u72,rfl,hR⟩
 ·clear hR
  intro a W hI
  obtain ⟨k,hI⟩ :=hI
  obtain ⟨ds,hI⟩ :=hI
  obtain ⟨b,hI⟩ :=hI
  obtain ⟨u2,hI⟩ :=hI
  obtain ⟨u3,hI⟩ :=hI
  obtain ⟨u5,hI⟩ :=hI
  obtain ⟨u6,hI⟩ :=hI
  obtain ⟨u7,hI⟩ :=hI
  obtain ⟨u8,hI⟩ :=hI
  obtain ⟨u10,hI⟩ :=hI
  obtain ⟨u11,hI⟩ :=hI
  obtain ⟨u12,hI⟩ :=hI
  obtain ⟨u13,hI⟩ :=hI
  obtain ⟨u14,hI⟩ :=hI
  obtain ⟨u15,hI⟩ :=hI
  obtain ⟨u16,hI⟩ :=hI
  obtain ⟨u17,hI⟩ :=hI
  obtain ⟨u18,hI⟩ :=hI
  obtain ⟨u19,hI⟩ :=hI
  obtain ⟨u20,hI⟩ :=hI
  obtain ⟨u21,hI⟩ :=hI
  obtain ⟨u22,hI⟩ :=hI
  obtain ⟨u23,hI⟩ :=hI
  obtain ⟨u24,hI⟩ :=hI
  obtain ⟨u25,hI⟩ :=hI
  obtain ⟨u26,hI⟩ :=hI
  obtain ⟨u27,hI⟩ :=hI
  obtain ⟨u28,hI⟩ :=hI
  obtain ⟨u29,hI⟩ :=hI
  obtain ⟨u30,hI⟩ :=hI
  obtain ⟨u34,hI⟩ :=hI
  obtain ⟨u35,hI⟩ :=hI
  obtain ⟨u36,hI⟩ :=hI
  obtain ⟨u37,hI⟩ :=hI
  obtain ⟨u38,hI⟩ :=hI
  obtain ⟨u39,hI⟩ :=hI
  obtain ⟨u40,hI⟩ :=hI
  obtain ⟨u41,hI⟩ :=hI
  obtain ⟨u42,hI⟩ :=hI
  obtain ⟨u43,hI⟩ :=hI
  obtain ⟨u44,hI⟩ :=hI
  obtain ⟨u45,hI⟩ :=hI
  obtain ⟨u46,hI⟩ :=hI
  obtain ⟨u47,hI⟩ :=hI
  obtain ⟨u48,hI⟩ :=hI
  obtain ⟨u49,hI⟩ :=hI
  obtain ⟨u50,hI⟩ :=hI
  obtain ⟨u51,hI⟩ :=hI
  obtain ⟨u52,hI⟩ :=hI
  obtain ⟨u53,hI⟩ :=hI
  obtain ⟨u54,hI⟩ :=hI
  obtain ⟨u55,hI⟩ :=hI
  obtain ⟨u56,hI⟩ :=hI
  obtain ⟨u57,hI⟩ :=hI
  obtain ⟨u58,hI⟩ :=hI
  obtain ⟨u59,hI⟩ :=hI
  obtain ⟨u60,hI⟩ :=hI
  obtain ⟨u61,hI⟩ :=hI
  obtain ⟨u62,hI⟩ :=hI
  obtain ⟨u63,hI⟩ :=hI
  obtain ⟨u64,hI⟩ :=hI
  obtain ⟨u65,hI⟩ :=hI
  obtain ⟨u66,hI⟩ :=hI
  obtain ⟨u67,hI⟩ :=hI
  obtain ⟨u68,hI⟩ :=hI
  obtain ⟨u69,hI⟩ :=hI
  obtain ⟨u70,hI⟩ :=hI
  obtain ⟨u71,hI⟩ :=hI
  obtain ⟨u72,hI⟩ :=hI
  obtain ⟨rfl,hR⟩ :=hI
  by_cases hlt:k < L.length
  ·refine Fld.round_go s kind w L B hT hg5 k ds b _ _ _ _ _ _ _ _ _ _ _ _ _ _ _ _ _ _ _ _ _ _ _ _ _ _ _ _ _ _ _ _ _ _ _ _ _ _ _ _ _ _ _ _ _ _ _ _ _ _ _ _ _ _ _ _ _ _ _ _ _ _ _ _ _ _ W hR hlt hLs hkd Q0 L[k] (List.getElem?_eq_getElem hlt) (hxs _ (List.getElem_mem hlt)) (Lib.hid ?_)
   intro he a W' hr
   refine hret _ a W' he ?_ hr
   rw [← hR.2.1,List.drop_eq_getElem_cons hlt]
   show (if (Fld.itemP L[k] kind).2.2.2≠0 then ((0:Int),(Fld.itemP L[k] kind).2.2.2) else _).2=_
   rw [if_pos he]
  ·have hk:k=L.length:=by have:=hR.1; omega
   exact Fld.round_end s kind w L B k ds _ _ _ _ _ _ _ _ _ _ _ _ _ _ _ _ _ _ _ _ _ _ _ _ _ _ _ _ _ _ _ _ _ _ _ _ _ _ _ _ _ _ _ _ _ _ _ _ _ _ _ _ _ _ _ _ _ _ _ _ _ _ _ _ _ _ W hlt hLs (fun _ a' W'=>Fld.PI s kind w L B a' W'∧Fld.Pmu L a' W' < _) Q0 (hexit k ds b u2 u3 u5 u6 u7 u8 u10 u11 u12 u13 u14 u15 u16 u17 u18 u19 u20 u21 u22 u23 u24 u25 u26 u27 u28 u29 u30 u34 u35 u36 u37 u38 u39 u40 u41 u42 u43 u44 u45 u46 u47 u48 u49 u50 u51 u52 u53 u54 u55 u56 u57 u58 u59 u60 u61 u62 u63 u64 u65 u66 u67 u68 u69 u70 u71 u72 W (hk ▸ hR))
theorem Fld.leave_ret {w W:World}{e:Int}{a:Act}(R:Ending→World→Prop)(h:Fld.PRet w e a W)
  (hR:∀ W',Below w.heap.size w W'→R (.returned (.tuple #[.agg #[.int .u64 0,.bool false],.int .i64 e])) W'):bodyPostM Fence.wide 6 Tryz.prog Tryz.f17 R .ret a W:=by
 obtain ⟨ds,hd,h4,h5,hz,hb,hr,hM⟩ :=h
 obtain ⟨tm,dd⟩ :=a
 subst hd
 refine Fld.leave (w.heap.size+3) _ _ W hM ?_
 intro W' hb' hc
 refine ⟨_,?_,hR W' (hb.trans (hb'.mono (by omega)))⟩
 have hr':=hc _ _ _ _ hr
 have c0:W'.cell? ⟨w.heap.size,0,none⟩=some (.int .u64 0):=(blk_cell hr' 0).trans rfl
 have c1:W'.cell? ⟨w.heap.size,1,none⟩=some (.bool false):=(blk_cell hr' 1).trans rfl
 dsimp only at h4 h5
 simp only [Array.getD_eq_getD_getElem?] at h4 h5
 simp [results,Tryz.results17,go_sem,h4,h5,c0,c1]
end
section
open Go.Shelf
attribute [local go_sem] Oper.semAt_some
theorem Fld.parts_size (c:UInt8)(s:ByteArray):∀ x ∈ Fld.parts c s,x.size≤s.size:=by
 unfold Fld.parts
 generalize Lib.countB s ⟨#[c]⟩=k
 suffices h:∀ (k:Nat) (t:ByteArray),∀ x ∈ Lib.splitB ⟨#[c]⟩ 0 k t,x.size≤t.size from h k s
 intro k
 induction k with
 | zero=>intro t x hx; rw [Lib.splitB_zero] at hx; simp at hx; rw [hx]; exact Nat.le_refl _
 | succ k ih=>
  intro t x hx
  rcases Lib.indexB_cases t ⟨#[c]⟩ with h | ⟨i,h,hr⟩
  ·rw [Lib.splitB_miss _ _ _ _ h] at hx; simp at hx; rw [hx]; exact Nat.le_refl _
  ·rw [Lib.splitB_hit _ _ _ _ _ h] at hx
   rcases List.mem_cons.1 hx with rfl | hx
   ·rw [ByteArray.size_extract]; omega
   ·exact Nat.le_trans (ih _ x hx) (by rw [ByteArray.size_extract]; omega)
set_option maxHeartbeats 8000000 in
set_option maxRecDepth 1000000 in
theorem Fld.parse_bad (s:ByteArray)(kind:Int)(w:World)(lo hi e0:Int)(hl:field_limits.f kind=some (lo,hi,e0))(he:e0≠0) :
  CallsIn Fence.wide 6 Tryz.prog 17 #[.string s,.int .i64 kind] w fun e w'=>e=.returned (.tuple #[.agg #[.int .u64 0,.bool false],.int .i64 e0])∧Below w.heap.size w w':=by
 replace hl:=Lib.hid hl
 have e1:(e0 == 0)=false:=by simpa using he
 have e2:(e0 != 0)=true:=by simpa using he
 replace he:=Lib.hid he
 refine callsIn_of_wp_marks Tryz.func17 rfl trivial ?_ rfl
 simp only [Tryz.ntmps17,List.size_toArray,List.length_cons,List.length_nil,Nat.reduceAdd,Nat.reduceSub,Array.replicate_succ,Array.replicate_zero,List.push_toArray,List.append_toArray,List.nil_append,List.cons_append]
 gi_wp2_with (refine ⟨trivial,?_⟩; gi_at_call 34; refine (callsIn_wide.2 (field_limits.calls _ _ _ _ _ hl.out)).mono ?_; rintro e w' ⟨rfl,⟨nd,rfl⟩⟩)
 refine Fld.leave (w.heap.size+1) _ w.heap.size _ trivial ?_
 intro W' hb' hc
 have hr':=hc w.heap.size _ _ _ (blk_put (blk_put (blk_drewN (blk_new w (.cells #[.int .u64 0,.bool false] 24)) nd) 0 _ rfl) 1 _ rfl)
 have c0:W'.cell? ⟨w.heap.size,0,none⟩=some (.int .u64 0):=(blk_cell hr' 0).trans rfl
 have c1:W'.cell? ⟨w.heap.size,1,none⟩=some (.bool false):=(blk_cell hr' 1).trans rfl
 refine ⟨.tuple #[.agg #[.int .u64 0,.bool false],.int .i64 e0],by simp [results,Tryz.results17,go_sem,c0,c1],rfl,?_⟩
 exact (below_set (below_set (pw_below_drewN (below_alloc (Below.refl _ _) _) _) (Nat.le_refl _)) (Nat.le_refl _)).trans (hb'.mono (by omega))
set_option maxHeartbeats 8000000 in
set_option maxRecDepth 1000000 in
theorem Fld.parse_good (s:ByteArray)(kind:Int)(w:World)(hT:Tab w)(hs:s.size≤1000000)(lo hi:Int)(hl:field_limits.f kind=some (lo,hi,0))(hkd:(Lex.limits kind).2.2=0)(B:Bool)(hB:(s.toList == [42])=B) :
  CallsIn Fence.wide 6 Tryz.prog 17 #[.string s,.int .i64 kind] w fun e w'=>e=.returned (.tuple #[.agg #[.int .u64 (Fld.parse s kind).1,.bool (Fld.parse s kind).2.1],.int .i64 (Fld.parse s kind).2.2])∧Below w.heap.size w w':=by
 have hg5:4≤w.heap.size:=by
  obtain ⟨m,hm⟩ :=hT.2.2
  have h0:=World.block_lt_of_cell? _ _ (hT.1 0 (by decide))
  dsimp only at h0
  have h1:=World.block_lt_of_cell? _ _ hT.2.1
  have h2:=World.block_lt_of_cell? _ _ hm
  dsimp only at h1 h2
  omega
 replace hl:=Lib.hid hl
 obtain ⟨L,hL⟩:∃ L,Fld.parts 44 s=L:=⟨_,rfl⟩
 have hlen:L.length=Lib.countB s ⟨#[44]⟩+1:=by rw [← hL]; exact Fld.parts_len 44 s
 have hLs:L.length≤2000000:=by have:=Lib.countB_le ⟨#[44]⟩ (by show 1≤1; omega) s.size s (Nat.le_refl _); omega
 have hxs:∀ x ∈ L,x.size≤1000000:=by rw [← hL]; exact fun x hx=>Nat.le_trans (Fld.parts_size 44 s x hx) hs
 replace hxs:=Lib.hid hxs
 refine callsIn_of_wp_marks Tryz.func17 rfl trivial ?_ rfl
 simp only [Tryz.ntmps17,List.size_toArray,List.length_cons,List.length_nil,Nat.reduceAdd,Nat.reduceSub,Array.replicate_succ,Array.replicate_zero,List.push_toArray,List.append_toArray,List.nil_append,List.cons_append]
 gi_wp2_with (refine ⟨trivial,?_⟩; gi_at_call 34; refine (callsIn_wide.2 (field_limits.calls _ _ _ _ _ hl.out)).mono ?_; rintro e w' ⟨rfl,⟨nd,rfl⟩⟩)
 refine ⟨trivial,?_⟩
 refine Fld.genIn (fun W=>W.heap.size=w.heap.size+2∧Below w.heap.size w W∧W.heap[w.heap.size]?=some (.cells #[.int .u64 0,.bool false] 24 (0,0))∧W.heap[w.heap.size+1]?=some (.cells #[.int .u64 0,.bool B] 24 (0,0))) ?_ ?_
 ·refine ⟨by simp,?_,?_,?_⟩
  ·exact below_alloc (pw_below_drewN (below_alloc (Below.refl _ _) _) _) _
  ·exact blk_alloc (blk_drewN (blk_new w _) nd) _
  ·have:=heap_alloc_new ((w.alloc (.cells #[.int .u64 0,.bool false] 24)).drewN nd) (.cells #[.int .u64 0,.bool B] 24)
   simpa using this
 rintro W1 ⟨hz,hb1,hr0,hf0⟩
 obtain ⟨m,hm⟩ :=(hT.keep hb1).2.2
 refine (callsIn_wide.2 (Fld.strings_Split s ⟨#[44]⟩ m W1 (by omega) hm (by show 1≤1; omega))).mono ?_
 rw [show (Lib.splitB ⟨#[44]⟩ 0 (Lib.countB s ⟨#[44]⟩) s)=L from hL,← hlen]
 rintro e w' ⟨rfl,rfl⟩
 rw [hz]
 have hP:Fld.PRel kind w L B 0 [] 0 (W1.alloc (.cells (L.map Value.string).toArray 9)):=⟨Nat.zero_le _,rfl,by decide,⟨below_alloc hb1 _,blk_alloc hr0 _,blk_alloc hf0 _,by have:=heap_alloc_new W1 (.cells (L.map Value.string).toArray 9); rw [hz] at this; exact this⟩,trivial⟩
 replace hP:=Aside0.mk hP
 replace hL:=Lib.hid hL
 clear hlen hz hb1 hr0 hf0 hm
 generalize W1.alloc (.cells (L.map Value.string).toArray 9)=W0 at hP ⊢
 gi_wp2_with fail
 refine Fld.loop_go s kind w L B hT hg5 hLs hxs.out hkd 0 [] 0 _ _ _ _ _ _ _ _ _ _ _ _ _ _ _ _ _ _ _ _ _ _ _ _ _ _ _ _ _ _ _ _ _ _ _ _ _ _ _ _ _ _ _ _ _ _ _ _ _ _ _ _ _ _ _ _ _ _ _ _ _ _ _ _ _ _ W0 hP.out _ ?_ ?_
 ·clear hP
  intro e a W' he hpe hr
  refine Fld.leave_ret _ hr (fun W2 hb=>⟨?_,hb⟩)
  have hv:Fld.parse s kind=(0,false,e):=by
   unfold Fld.parse
   rw [if_neg (by simp [hkd]),hL.out,hpe,if_pos he]
  rw [hv]
 ·clear hP
  intro k ds b u2 u3 u5 u6 u7 u8 u10 u11 u12 u13 u14 u15 u16 u17 u18 u19 u20 u21 u22 u23 u24 u25 u26 u27 u28 u29 u30 u34 u35 u36 u37 u38 u39 u40 u41 u42 u43 u44 u45 u46 u47 u48 u49 u50 u51 u52 u53 u54 u55 u56 u57 u58 u59 u60 u61 u62 u63 u64 u65 u66 u67 u68 u69 u70 u71 u72 W' hR
  obtain ⟨-,hpl,hbd,⟨hb0,hr0,hf0,-⟩,hM⟩ :=hR
  rw [List.drop_length] at hpl
  have hv:Fld.parse s kind=(b,B,0):=by
   unfold Fld.parse
   rw [if_neg (by simp [hkd]),hL.out,← hpl,if_neg (by simp [Fld.parseL]),hB]
   rfl
  have a0:W'.cell? ⟨w.heap.size,0,none⟩=some (.int .u64 0):=(blk_cell hr0 0).trans rfl
  have a1:W'.cell? ⟨w.heap.size,1,none⟩=some (.bool false):=(blk_cell hr0 1).trans rfl
  have a2:=blk_frozen hr0 0
  have a3:=blk_frozen hr0 1
  have c0:W'.cell? ⟨w.heap.size+1,0,none⟩=some (.int .u64 b):=(blk_cell hf0 0).trans rfl
  have c1:W'.cell? ⟨w.heap.size+1,1,none⟩=some (.bool B):=(blk_cell hf0 1).trans rfl
  replace hv:=Lib.hid hv
  replace hM:=Aside0.mk hM
  replace hb0:=Aside0.mk hb0
  replace hr0:=Aside0.mk hr0
  replace hf0:=Aside0.mk hf0
  replace hpl:=Lib.hid hpl
  gi_wp2_with fail
  refine Fld.leave (w.heap.size+3) _ _ _ (hM.out.step (U':=W'.heap.size) (Nat.le_refl _) (fun j hj _ hh=>?_)) ?_
  ·rw [Below.heap_setCell _ _ _ j (by show j≠w.heap.size; omega),Below.heap_setCell _ _ _ j (by show j≠w.heap.size; omega)]
   exact hh
  intro W2 hb' hc
  have hr':=hc w.heap.size _ _ _ (blk_put (blk_put hr0.out 0 _ rfl) 1 _ rfl)
  have c0:W2.cell? ⟨w.heap.size,0,none⟩=some (.int .u64 b):=(blk_cell hr' 0).trans rfl
  have c1:W2.cell? ⟨w.heap.size,1,none⟩=some (.bool B):=(blk_cell hr' 1).trans rfl
  refine ⟨.tuple #[.agg #[.int .u64 b,.bool B],.int .i64 0],by simp [results,Tryz.results17,go_sem,c0,c1],by rw [hv.out],?_⟩
  exact (below_set (below_set hb0.out (Nat.le_refl _)) (Nat.le_refl _)).trans (hb'.mono (by omega))
end
def field_Parse.f (a0:ByteArray)(a1:Int):Option (Int × Bool × Int):=if a0.size≤1000000 then some (Fld.parse a0 a1) else none
set_option maxHeartbeats 8000000 in
set_option maxRecDepth 100000 in
theorem field_Parse.calls (a0:ByteArray)(a1:Int)(r1:Int)(r2:Bool)(r3:Int)(w:World)(hT:Tab w)(h:field_Parse.f a0 a1=some (r1,r2,r3)) :
  Calls Tryz.prog 17 #[.string a0,.int .i64 a1] w fun e w'=>e=.returned (.tuple #[.agg #[.int .u64 r1,.bool r2],.int .i64 r3])∧Below w.heap.size w w':=by
 have HB:=Aside0.mk (Below.refl w.heap.size w)
 unfold field_Parse.f at h
 split at h
 rotate_left
 ·cases h
 rename_i hs
 obtain ⟨rfl,rfl,rfl⟩:r1=(Fld.parse a0 a1).1∧r2=(Fld.parse a0 a1).2.1∧r3=(Fld.parse a0 a1).2.2:=by have:=Option.some.inj h; rw [this]; exact ⟨rfl,rfl,rfl⟩
 clear h
 have hl:=Fld.limits_f a1
 by_cases hk:(Lex.limits a1).2.2=0
 ·rw [hk] at hl
  exact callsIn_wide.1 (Fld.parse_good a0 a1 w hT hs _ _ hl hk _ rfl)
 ·have hv:Fld.parse a0 a1=(0,false,(Lex.limits a1).2.2):=by unfold Fld.parse; rw [if_pos hk]
  rw [hv]
  exact callsIn_wide.1 (Fld.parse_bad a0 a1 w _ _ _ hl hk)
end Go.Proofs.YtcmmmlenaahaeaaGreatDoor.PShw
