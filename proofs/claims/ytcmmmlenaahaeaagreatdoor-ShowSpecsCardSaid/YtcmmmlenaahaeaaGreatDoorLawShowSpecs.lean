/- The row of the law ShowSpecs: for every input it answers true, and its arguments read as before. No condition. -/
import Derived.Test.YtcmmmlenaahaeaaGreatDoorRows
import Derived.Test.YtcmmmlenaahaeaaGreatDoorPureShowSpecs
import Derived.WalkKit
import Derived.ProofKit
import Derived.OpenShut
import Derived.ShutString
import Derived.ChangeOld
import Derived.Below
import Derived.SizedLaws
import Derived.Test.YtcmmmlenaahaeaaGreatDoorShwLaid
import Derived.Carry
import Derived.ChangeArms
import Derived.WideShapes
namespace Go.Proofs.YtcmmmlenaahaeaaGreatDoor.showSpecs
open Go.ChangeShapes Go.WideShapes Go.ChangeAt Go.RowKit
open Go.ChangeMaps (open_string shut_string)
theorem own:ownKnob Tryz.prog.godebug=none:=by kernel_rfl
theorem laidOut:laidOutB Tryz.prog=true:=by kernel_rfl
set_option maxRecDepth 100000 in
theorem open_t24 {H : Type} {enc : TypeId × Value → H} {w : World} {base : Nat} {spare : Nat → Bool} {held : Bool} {fuel : Nat} {cs : List Value} {x : DataW H × List MemPlace} (h : DataW.trod enc Tryz.prog w base spare held fuel 24 cs = some x) :
    ∃ (a0:Int) (a1:Bool),cs=[.int .u64 a0,.bool a1]∧x.2=[]∧(Lit.int .u64 a0).wf=true:=by
  obtain ⟨xs,n,_,hx,hlen,hxl,hf⟩ :=DataW.trod_struct Tryz.underlying24 h
  have hl:cs.length=2:=hlen.trans (by kernel_rfl)
  have hxl':xs.length=2:=hxl
  match cs,hl with
  | [c0,c1],_=>
  match xs,hxl' with
  | [y0,y1],_=>
    have e0:Tryz.prog.cellsOf 22=1:=by kernel_rfl
    have f0:DataW.trod enc Tryz.prog w base spare held n 22 [c0]=some y0:=by have z:=hf 0 _ rfl; simpa [e0] using z
    obtain ⟨b0,q0,p0,w0⟩ :=DataW.trod_int Tryz.underlying22 f0
    obtain rfl:c0=_:=by simpa using q0
    have e1:Tryz.prog.cellsOf 4=1:=by kernel_rfl
    have f1:DataW.trod enc Tryz.prog w base spare held n 4 [c1]=some y1:=by have z:=hf 1 _ rfl; simpa [e1] using z
    obtain ⟨b1,q1,p1⟩ :=DataW.trod_bool Tryz.underlying4 f1
    obtain rfl:c1=_:=by simpa using q1
    exact ⟨b0,b1,rfl,by rw [hx]; simp [p0,p1],w0⟩
set_option maxRecDepth 100000 in
theorem open_t31 {H : Type} {enc : TypeId × Value → H} {w : World} {base : Nat} {spare : Nat → Bool} {held : Bool} {fuel : Nat} {cs : List Value} {x : DataW H × List MemPlace} (h : DataW.trod enc Tryz.prog w base spare held fuel 31 cs = some x) :
    ∃ (a0:Int) (a1:Bool) (a2:Int) (a3:Bool) (a4:Int) (a5:Bool) (a6:Int) (a7:Bool) (a8:Int) (a9:Bool),cs=[.int .u64 a0,.bool a1,.int .u64 a2,.bool a3,.int .u64 a4,.bool a5,.int .u64 a6,.bool a7,.int .u64 a8,.bool a9]∧x.2=[]∧(Lit.int .u64 a0).wf=true∧(Lit.int .u64 a2).wf=true∧(Lit.int .u64 a4).wf=true∧(Lit.int .u64 a6).wf=true∧(Lit.int .u64 a8).wf=true:=by
  obtain ⟨xs,n,_,hx,hlen,hxl,hf⟩ :=DataW.trod_struct Tryz.underlying31 h
  have hl:cs.length=10:=hlen.trans (by kernel_rfl)
  have hxl':xs.length=5:=hxl
  match cs,hl with
  | [c0,c1,c2,c3,c4,c5,c6,c7,c8,c9],_=>
  match xs,hxl' with
  | [y0,y1,y2,y3,y4],_=>
    have e0:Tryz.prog.cellsOf 24=2:=by kernel_rfl
    have f0:DataW.trod enc Tryz.prog w base spare held n 24 [c0,c1]=some y0:=by have z:=hf 0 _ rfl; simpa [e0] using z
    obtain ⟨b0,b1,q0,p0,w0⟩ :=open_t24 f0
    simp only [List.cons.injEq,and_true] at q0
    obtain ⟨rfl,rfl⟩ :=q0
    have e1:Tryz.prog.cellsOf 24=2:=by kernel_rfl
    have f1:DataW.trod enc Tryz.prog w base spare held n 24 [c2,c3]=some y1:=by have z:=hf 1 _ rfl; simpa [e1] using z
    obtain ⟨b2,b3,q1,p1,w2⟩ :=open_t24 f1
    simp only [List.cons.injEq,and_true] at q1
    obtain ⟨rfl,rfl⟩ :=q1
    have e2:Tryz.prog.cellsOf 24=2:=by kernel_rfl
    have f2:DataW.trod enc Tryz.prog w base spare held n 24 [c4,c5]=some y2:=by have z:=hf 2 _ rfl; simpa [e2] using z
    obtain ⟨b4,b5,q2,p2,w4⟩ :=open_t24 f2
    simp only [List.cons.injEq,and_true] at q2
    obtain ⟨rfl,rfl⟩ :=q2
    have e3:Tryz.prog.cellsOf 24=2:=by kernel_rfl
    have f3:DataW.trod enc Tryz.prog w base spare held n 24 [c6,c7]=some y3:=by have z:=hf 3 _ rfl; simpa [e3] using z
    obtain ⟨b6,b7,q3,p3,w6⟩ :=open_t24 f3
    simp only [List.cons.injEq,and_true] at q3
    obtain ⟨rfl,rfl⟩ :=q3
    have e4:Tryz.prog.cellsOf 24=2:=by kernel_rfl
    have f4:DataW.trod enc Tryz.prog w base spare held n 24 [c8,c9]=some y4:=by have z:=hf 4 _ rfl; simpa [e4] using z
    obtain ⟨b8,b9,q4,p4,w8⟩ :=open_t24 f4
    simp only [List.cons.injEq,and_true] at q4
    obtain ⟨rfl,rfl⟩ :=q4
    exact ⟨b0,b1,b2,b3,b4,b5,b6,b7,b8,b9,rfl,by rw [hx]; simp [p0,p1,p2,p3,p4],w0,w2,w4,w6,w8⟩
set_option maxRecDepth 1000000 in
theorem reads (os:Os){H:Type}(enc:TypeId × Value→H):∃ places,DataW.whole enc Tryz.prog ((Laid.world os).forCall (fun _ _=>0) ⟨#[],#[.agg #[.int .u64 0,.bool false,.int .u64 0,.bool false,.int .u64 0,.bool false,.int .u64 0,.bool false,.int .u64 0,.bool false],.string ByteArray.empty],[]⟩).memory Tryz.f4.params.toList Rows.showSpecsSpec.vars false (#[.agg #[.int .u64 0,.bool false,.int .u64 0,.bool false,.int .u64 0,.bool false,.int .u64 0,.bool false,.int .u64 0,.bool false],.string ByteArray.empty]:Array Value).toList 8=some ([.agg [.agg [.lit (.int .u64 0),.lit (.bool false)],.agg [.lit (.int .u64 0),.lit (.bool false)],.agg [.lit (.int .u64 0),.lit (.bool false)],.agg [.lit (.int .u64 0),.lit (.bool false)],.agg [.lit (.int .u64 0),.lit (.bool false)]],.lit (.string [])],[],places):=
  ⟨[],by kernel_rfl⟩
set_option maxRecDepth 1000000 in
theorem lifted (os : Os) (started : os.Started) (H : Type) (enc : TypeId × Value → H) (F : Stop.Interp) :
    ReturnsInHanded {} Tryz.checked os 4 .any ((OpenSpec.ofChange Rows.showSpecsSpec).preRow enc Tryz.prog Tryz.f4 Rows.showSpecsRow.domain false Rows.showSpecsRow.laid) (((OpenSpec.ofChange Rows.showSpecsSpec).at F).post enc Tryz.prog Tryz.f4 false true false false):=by
  obtain ⟨places,hx⟩ :=reads os enc
  refine returnsInHanded_of_row (C:=Tryz.checked) (s:=OpenSpec.ofChange Rows.showSpecsSpec) own started (by kernel_rfl) Tryz.func4
    (witness_row_atRef (enc:=enc) (C:=Tryz.checked) false (Laid.world os) #[.agg #[.int .u64 0,.bool false,.int .u64 0,.bool false,.int .u64 0,.bool false,.int .u64 0,.bool false,.int .u64 0,.bool false],.string ByteArray.empty] rfl (by kernel_rfl) (by kernel_rfl) (by kernel_rfl)
      (OpenSpec.preRow_of_cond 8 hx (by kernel_rfl) (fun k hk=>by cases hk) (by kernel_rfl) (Laid.met os _))) ?_
  intro W base args ds gs before hval0 hW hcnd _ hsz0 hL hSh _
  have hT:PShw.Tab W:=Laid.tab hL hSh
  have hsz:(DataW.weightsEach Tryz.prog (Tryz.f4.params.toList ++ Rows.showSpecsSpec.plain.varTypes Tryz.prog) (ds ++ gs)).all (·≤reachBytes)=true:=hsz0
  have hval:∀ (j:Nat) t v,Tryz.f4.params[j]?=some t→args[j]?=some v→Value.okWide Tryz.prog W .any base t v:=hval0
  have hW':=hW
  obtain ⟨p,q,hA0,hV,rfl,hfz,hnd⟩ :=hW
  have hA:DataW.TrodAll enc Tryz.prog W 0 (fun _=>true) true Tryz.f4.params.toList args.toList ds p:=hA0
  rw [Tryz.params4] at hA hval hsz
  obtain ⟨v0,vs0,d0,ds0,p0,q0,hargs,rfl,rfl,h0,r0⟩ :=trodAll_cons hA
  obtain ⟨v1,vs1,d1,ds1,p1,q1,rfl,rfl,rfl,h1,r1⟩ :=trodAll_cons r0
  obtain ⟨rfl,rfl,rfl⟩ :=trodAll_nil r1
  obtain rfl:args=#[v0,v1]:=by cases args; simp_all
  obtain ⟨rfl,rfl⟩ :=trodVars_none hV
  have k0:=h0
  have lt0:∀ x ∈ p0,x.block < W.heap.size:=by obtain ⟨m,hm⟩ :=k0; exact DataW.trod_lt m _ _ _ hm
  obtain ⟨cs0,rfl,_⟩ :=okWide_struct Tryz.underlying31 (hval 0 31 v0 rfl rfl)
  obtain ⟨fuel0,hf0⟩ :=h0
  obtain ⟨a0_0,a0_1,a0_2,a0_3,a0_4,a0_5,a0_6,a0_7,a0_8,a0_9,hc0,hp0,w0_0,w0_2,w0_4,w0_6,w0_8⟩ :=open_t31 hf0
  obtain rfl:cs0=#[.int .u64 a0_0,.bool a0_1,.int .u64 a0_2,.bool a0_3,.int .u64 a0_4,.bool a0_5,.int .u64 a0_6,.bool a0_7,.int .u64 a0_8,.bool a0_9]:=by apply Array.ext'; simpa [Value.cells] using hc0
  obtain ⟨a1,rfl,rfl,rfl,y1⟩ :=open_string Tryz.underlying9 (hval 1 9 v1 rfl rfl) h1
  have w1:a1.size≤140737488351232:=by
    have z:=sized_string hsz (j:=1) (t:=9) rfl rfl
    rw [Array.length_toList] at z
    exact z
  clear hA0 hval0 hsz0 hsz
  obtain ⟨k,h⟩ :=Pure.ShowSpecs a0_0 a0_1 a0_2 a0_3 a0_4 a0_5 a0_6 a0_7 a0_8 a0_9 a1 w0_0 w0_2 w0_4 w0_6 w0_8 w1
  refine (PShw.complinelaw20_ShowSpecs.calls k a0_0 a0_1 a0_2 a0_3 a0_4 a0_5 a0_6 a0_7 a0_8 a0_9 a1 W hT h).mono fun e W' ⟨he,bel⟩ =>?_
  subst he
  exact ⟨_,rfl,_,_,_,[],_,[],hW',trodAll_mk1 (shut_bool Tryz.underlying4 _),(trodAll_cons_mk (Below.trod laidOut (by kernel_rfl) (of_decide_eq_true (by kernel_rfl)) k0 bel lt0) (trodAll_cons_mk (shut_string Tryz.underlying9 y1) trodAll_mk0)),rfl,bel.frame _,fun h=>by cases h⟩
theorem over:Rows.ShowSpecsSaid:=
  OpenClaim.holds_of_cond 4 Tryz.f4 rfl rfl rfl rfl rfl rfl rfl ⟨rfl,rfl,rfl,rfl,rfl⟩ rfl rfl rfl rfl rfl (by kernel_rfl) Tryz.func4 (by kernel_rfl)
    (of_decide_eq_true (by kernel_rfl)) (by unfold Func.isWrapper; first | (rw [if_pos (by decide +kernel)]; kernel_rfl) | (rw [if_neg (by decide +kernel)]; exact ⟨rfl,rfl⟩))
    (fun os started H enc _ F=>by rw [OpenClaim.pre_eq_preRow]; exact lifted os started H enc F)
theorem plain (f : FuncId) (fn : Func) (hf : Tryz.pinned.checked.prog.funcNamed "compline/complinelaw20.ShowSpecs" = some f) (hfn : Tryz.pinned.checked.prog.funcs[f]? = some fn) :
    true=Tryz.pinned.checked.prog.looks []∧∀ (j:Nat) t,fn.params[j]?=some t→Tryz.pinned.checked.prog.wantsStandIn t=false:=by
  obtain rfl:f=4:=Option.some.inj ((show Tryz.prog.funcNamed "compline/complinelaw20.ShowSpecs" = some 4 by kernel_rfl).symm.trans hf) |>.symm
  obtain rfl:fn=Tryz.f4:=(Option.some.inj (Tryz.func4.symm.trans hfn)).symm
  refine ⟨by kernel_rfl,fun j t ht=>?_⟩
  have hall:(Tryz.f4.params.toList.all fun u=>!Tryz.prog.wantsStandIn u)=true:=by kernel_rfl
  have hm:t ∈ Tryz.f4.params.toList:=Array.mem_toList_iff.2 (Array.mem_of_getElem? ht)
  have:=List.all_eq_true.1 hall t hm
  exact (by simpa using this:Tryz.prog.wantsStandIn t=false)
theorem card:Rows.ShowSpecsCardSaid:=
  Claim7.holds_tied_plain_at .later [] _ _ _ _ over (fun _ h=>by cases h) (by kernel_rfl) (fun _ h=>by cases h) showSpecs_row_tie rfl ⟨rfl,rfl⟩ (by kernel_rfl) rfl plain (by kernel_rfl)
theorem proved:Rows.ShowSpecsCardSaid:=card
#print axioms proved
end Go.Proofs.YtcmmmlenaahaeaaGreatDoor.showSpecs
namespace Go.Proofs.YtcmmmlenaahaeaaGreatDoor
/-- The row, under a short name, for the claim. -/
theorem showSpecs_holds:Rows.ShowSpecsCardSaid:=showSpecs.proved
end Go.Proofs.YtcmmmlenaahaeaaGreatDoor
