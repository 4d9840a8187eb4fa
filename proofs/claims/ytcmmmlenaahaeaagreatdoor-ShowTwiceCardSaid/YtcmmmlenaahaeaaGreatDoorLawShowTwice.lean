-- Written by a program of this session (gprint.py) over the kit's print.
import Derived.Test.YtcmmmlenaahaeaaGreatDoorRows
import Derived.Test.YtcmmmlenaahaeaaGreatDoorPShwx20
import Derived.Test.YtcmmmlenaahaeaaGreatDoorPureShowTwice
import Derived.WalkKit
import Derived.ProofKit
import Derived.OpenShut
import Derived.ShutString
import Derived.ChangeOld
import Derived.Below
import Derived.SizedLaws
import Derived.Test.YtcmmmlenaahaeaaGreatDoorShwLaid
namespace Go.Proofs.YtcmmmlenaahaeaaGreatDoor.showTwice
open Go.ChangeShapes Go.WideShapes Go.ChangeAt Go.RowKit
open Go.ChangeMaps (open_string shut_string)
set_option linter.unusedVariables false
theorem own:ownKnob Tryz.prog.godebug=none:=by kernel_rfl
set_option maxRecDepth 1000000 in
theorem reads (os:Os){H:Type}(enc:TypeId × Value→H):∃ places,DataW.whole enc Tryz.prog ((Laid.world os).forCall (fun _ _=>0) ⟨#[],#[.string ByteArray.empty],[]⟩).memory Tryz.f6.params.toList Rows.showTwiceSpec.vars false (#[.string ByteArray.empty]:Array Value).toList 8=some ([.lit (.string [])],[],places):=
  ⟨[],by kernel_rfl⟩
set_option maxRecDepth 1000000 in
theorem lifted (os : Os) (started : os.Started) (H : Type) (enc : TypeId × Value → H) (F : Stop.Interp) :
    ReturnsInHanded {} Tryz.checked os 6 .any ((OpenSpec.ofChange Rows.showTwiceSpec).preRow enc Tryz.prog Tryz.f6 Rows.showTwiceRow.domain false Rows.showTwiceRow.laid) (((OpenSpec.ofChange Rows.showTwiceSpec).at F).post enc Tryz.prog Tryz.f6 false true false false):=by
  obtain ⟨places,hx⟩ :=reads os enc
  refine returnsInHanded_of_row (C:=Tryz.checked) (s:=OpenSpec.ofChange Rows.showTwiceSpec) own started (by kernel_rfl) Tryz.func6
    (witness_row_atRef (enc:=enc) (C:=Tryz.checked) false (Laid.world os) #[.string ByteArray.empty] rfl (by kernel_rfl) (by kernel_rfl) (by kernel_rfl)
      (OpenSpec.preRow_of_cond 8 hx (by kernel_rfl) (fun k hk=>by cases hk) (by kernel_rfl) (Laid.met os _))) ?_
  intro W base args ds gs before hval0 hW hcnd _ hsz0 hL hSh _
  have hT:PShw.Tab W:=Laid.tab hL hSh
  have hsz:(DataW.weightsEach Tryz.prog (Tryz.f6.params.toList ++ Rows.showTwiceSpec.plain.varTypes Tryz.prog) (ds ++ gs)).all (·≤reachBytes)=true:=hsz0
  have hval:∀ (j:Nat) t v,Tryz.f6.params[j]?=some t→args[j]?=some v→Value.okWide Tryz.prog W .any base t v:=hval0
  have hW':=hW
  obtain ⟨p,q,hA0,hV,rfl,hfz,hnd⟩ :=hW
  have hA:DataW.TrodAll enc Tryz.prog W 0 (fun _=>true) true Tryz.f6.params.toList args.toList ds p:=hA0
  rw [Tryz.params6] at hA hval hsz
  obtain ⟨v0,vs0,d0,ds0,p0,q0,hargs,rfl,rfl,h0,r0⟩ :=trodAll_cons hA
  obtain ⟨rfl,rfl,rfl⟩ :=trodAll_nil r0
  obtain rfl:args=#[v0]:=by cases args; simp_all
  obtain ⟨rfl,rfl⟩ :=trodVars_none hV
  obtain ⟨a0,rfl,rfl,rfl,y0⟩ :=open_string Tryz.underlying9 (hval 0 9 v0 rfl rfl) h0
  have w0:a0.size≤140737488351232:=by
    have z:=sized_string hsz (j:=0) (t:=9) rfl rfl
    rw [Array.length_toList] at z
    exact z
  clear hA0 hval0 hsz0 hsz
  refine (PShw.complinelaw20_ShowTwice.walk Pure.ShowTwice a0 W hT w0).mono fun e W' ⟨he,bel⟩ =>?_
  subst he
  exact ⟨_,rfl,_,_,_,[],_,[],hW',trodAll_mk1 (shut_bool Tryz.underlying4 _),(trodAll_cons_mk (shut_string Tryz.underlying9 y0) trodAll_mk0),rfl,bel.frame _,fun h=>by cases h⟩
theorem over:Rows.ShowTwiceSaid:=
  OpenClaim.holds_of_cond 6 Tryz.f6 rfl rfl rfl rfl rfl rfl rfl ⟨rfl,rfl,rfl,rfl,rfl⟩ rfl rfl rfl rfl rfl (by kernel_rfl) Tryz.func6 (by kernel_rfl)
    (of_decide_eq_true (by kernel_rfl)) (by unfold Func.isWrapper; first | (rw [if_pos (by decide +kernel)]; kernel_rfl) | (rw [if_neg (by decide +kernel)]; exact ⟨rfl,rfl⟩))
    (fun os started H enc _ F=>by rw [OpenClaim.pre_eq_preRow]; exact lifted os started H enc F)
theorem plain (f : FuncId) (fn : Func) (hf : Tryz.pinned.checked.prog.funcNamed "compline/complinelaw20.ShowTwice" = some f) (hfn : Tryz.pinned.checked.prog.funcs[f]? = some fn) :
    true=Tryz.pinned.checked.prog.looks []∧∀ (j:Nat) t,fn.params[j]?=some t→Tryz.pinned.checked.prog.wantsStandIn t=false:=by
  obtain rfl:f=6:=Option.some.inj ((show Tryz.prog.funcNamed "compline/complinelaw20.ShowTwice" = some 6 by kernel_rfl).symm.trans hf) |>.symm
  obtain rfl:fn=Tryz.f6:=(Option.some.inj (Tryz.func6.symm.trans hfn)).symm
  refine ⟨by kernel_rfl,fun j t ht=>?_⟩
  have hall:(Tryz.f6.params.toList.all fun u=>!Tryz.prog.wantsStandIn u)=true:=by kernel_rfl
  have hm:t ∈ Tryz.f6.params.toList:=Array.mem_toList_iff.2 (Array.mem_of_getElem? ht)
  have:=List.all_eq_true.1 hall t hm
  exact (by simpa using this:Tryz.prog.wantsStandIn t=false)
theorem card:Rows.ShowTwiceCardSaid:=
  Claim7.holds_tied_plain_at .later [] _ _ _ _ over (fun _ h=>by cases h) (by kernel_rfl) (fun _ h=>by cases h) showTwice_row_tie rfl ⟨rfl,rfl⟩ (by kernel_rfl) rfl plain (by kernel_rfl)
theorem proved:Rows.ShowTwiceCardSaid:=card
#print axioms proved
end Go.Proofs.YtcmmmlenaahaeaaGreatDoor.showTwice
namespace Go.Proofs.YtcmmmlenaahaeaaGreatDoor
/-- The row, under a short name, for the claim. -/
theorem showTwice_holds:Rows.ShowTwiceCardSaid:=showTwice.proved
end Go.Proofs.YtcmmmlenaahaeaaGreatDoor
