-- Written by a program of this session (gprint.py) over the kit's print.
import Derived.Test.YtepflnfnkfkldaaDoorPReax0
import Derived.Test.YtepflnfnkfkldaaDoorPReax2
import Derived.Test.YtepflnfnkfkldaaDoorPReax6
import Derived.Test.YtepflnfnkfkldaaDoorPReax7
import Derived.Test.YtepflnfnkfkldaaDoorPReax10
import Derived.Test.YtepflnfnkfkldaaDoorPReax11
namespace Go.Proofs.YtepflnfnkfkldaaDoor.PRea
open Go.RowKit Go.Proofs.YtepflnfnkfkldaaDoorW.PrintWords Go.Proofs.YtepflnfnkfkldaaDoorW.PrintLast Go.Proofs.YtepflnfnkfkldaaDoorW.PrintMore
attribute [local go_sem] max2_int min2_int max_two min_two max_three min_three max_four min_four
set_option linter.unusedVariables false
set_option linter.unusedSimpArgs false
attribute [local go_sem high] eqA28
def day_Match.f (a0_0:Int)(a0_1:Bool)(a0_2:Int)(a0_3:Bool)(a0_4:Int)(a0_5:Bool)(a0_6:Int)(a0_7:Bool)(a0_8:Int)(a0_9:Bool)(a1:Int):Option (Bool × Int):=if Dy.okS a0_0 a0_2 a0_4 a0_6 a0_8=true then (day_odd.f a0_0 a0_1 a0_2 a0_3 a0_4 a0_5 a0_6 a0_7 a0_8 a0_9).bind fun o=>some (Dy.match_ o a0_0 a0_2 a0_4 a0_5 a0_6 a0_8 a0_9 a1) else none
set_option maxHeartbeats 8000000 in
set_option maxRecDepth 100000 in
theorem day_Match.calls (a0_0:Int)(a0_1:Bool)(a0_2:Int)(a0_3:Bool)(a0_4:Int)(a0_5:Bool)(a0_6:Int)(a0_7:Bool)(a0_8:Int)(a0_9:Bool)(a1:Int)(r1:Bool)(r2:Int)(w:World)(h:day_Match.f a0_0 a0_1 a0_2 a0_3 a0_4 a0_5 a0_6 a0_7 a0_8 a0_9 a1=some (r1,r2)) :
  Calls Tryd.prog 19 #[.agg #[.int .u64 a0_0,.bool a0_1,.int .u64 a0_2,.bool a0_3,.int .u64 a0_4,.bool a0_5,.int .u64 a0_6,.bool a0_7,.int .u64 a0_8,.bool a0_9],.int .i64 a1] w fun e w'=>e=.returned (.tuple #[.bool r1,.int .i64 r2])∧Below w.heap.size w w':=by
 have hh:(if Dy.okS a0_0 a0_2 a0_4 a0_6 a0_8=true then (day_odd.f a0_0 a0_1 a0_2 a0_3 a0_4 a0_5 a0_6 a0_7 a0_8 a0_9).bind fun o=>some (Dy.match_ o a0_0 a0_2 a0_4 a0_5 a0_6 a0_8 a0_9 a1) else none)=some (r1,r2):=h
 clear h
 by_cases hok:Dy.okS a0_0 a0_2 a0_4 a0_6 a0_8=true
 ·rw [if_pos hok] at hh
  obtain ⟨o,A,hm⟩ :=Option.bind_eq_some_iff.1 hh
  obtain ⟨h0,h1,h2,h3,h4⟩ :=of_decide_eq_true hok
  have k:=Dy.match_top a0_0 a0_1 a0_2 a0_3 a0_4 a0_5 a0_6 a0_7 a0_8 a0_9 a1 o A w h0 h1 h2 h3 h4
  rw [Option.some.inj hm] at k
  exact k
 ·rw [if_neg hok] at hh
  cases hh
def day_Minutes.f (a0_0:Int)(a0_1:Bool)(a0_2:Int)(a0_3:Bool)(a0_4:Int)(a0_5:Bool)(a0_6:Int)(a0_7:Bool)(a0_8:Int)(a0_9:Bool):Option (Int × Int):=(day_odd.f a0_0 a0_1 a0_2 a0_3 a0_4 a0_5 a0_6 a0_7 a0_8 a0_9).bind fun o=>if o=true then some (0,2) else (field_Count.f a0_2 a0_3).bind fun h=>(field_Count.f a0_0 a0_1).bind fun m=>some (wrap64 (h*m),0)
set_option maxHeartbeats 8000000 in
set_option maxRecDepth 100000 in
theorem day_Minutes.calls (a0_0:Int)(a0_1:Bool)(a0_2:Int)(a0_3:Bool)(a0_4:Int)(a0_5:Bool)(a0_6:Int)(a0_7:Bool)(a0_8:Int)(a0_9:Bool)(r1:Int)(r2:Int)(w:World)(h:day_Minutes.f a0_0 a0_1 a0_2 a0_3 a0_4 a0_5 a0_6 a0_7 a0_8 a0_9=some (r1,r2)) :
  Calls Tryd.prog 33 #[.agg #[.int .u64 a0_0,.bool a0_1,.int .u64 a0_2,.bool a0_3,.int .u64 a0_4,.bool a0_5,.int .u64 a0_6,.bool a0_7,.int .u64 a0_8,.bool a0_9]] w fun e w'=>e=.returned (.tuple #[.int .i64 r1,.int .i64 r2])∧Below w.heap.size w w':=by
 have hh:((day_odd.f a0_0 a0_1 a0_2 a0_3 a0_4 a0_5 a0_6 a0_7 a0_8 a0_9).bind fun o=>if o=true then some (0,2) else (field_Count.f a0_2 a0_3).bind fun h=>(field_Count.f a0_0 a0_1).bind fun m=>some (wrap64 (h*m),0))=some (r1,r2):=h
 clear h
 obtain ⟨o,A,hm⟩ :=Option.bind_eq_some_iff.1 hh
 cases o with
 | true=>
  rw [if_pos rfl] at hm
  obtain ⟨rfl,rfl⟩ :=Prod.mk.inj (Option.some.inj hm)
  exact Dy.minutes_bad a0_0 a0_1 a0_2 a0_3 a0_4 a0_5 a0_6 a0_7 a0_8 a0_9 A w
 | false=>
  rw [if_neg (by decide)] at hm
  obtain ⟨n1,A1,hm⟩ :=Option.bind_eq_some_iff.1 hm
  obtain ⟨n0,A0,hm⟩ :=Option.bind_eq_some_iff.1 hm
  have k:=Dy.minutes_top a0_0 a0_1 a0_2 a0_3 a0_4 a0_5 a0_6 a0_7 a0_8 a0_9 n1 n0 A1 A0 false A w
  rw [if_neg (by decide),Option.some.inj hm] at k
  exact k
end Go.Proofs.YtepflnfnkfkldaaDoor.PRea
