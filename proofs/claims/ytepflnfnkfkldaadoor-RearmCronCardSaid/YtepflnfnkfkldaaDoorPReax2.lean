-- Written by a program of this session (gprint.py) over the kit's print.
import Derived.Test.YtepflnfnkfkldaaDoorPReax0
import Derived.Test.YtepflnfnkfkldaaDoorPReax1
namespace Go.Proofs.YtepflnfnkfkldaaDoor.PRea
open Go.RowKit Go.Proofs.YtepflnfnkfkldaaDoorW.PrintWords Go.Proofs.YtepflnfnkfkldaaDoorW.PrintLast Go.Proofs.YtepflnfnkfkldaaDoorW.PrintMore
attribute [local go_sem] max2_int min2_int max_two min_two max_three min_three max_four min_four
set_option linter.unusedVariables false
set_option linter.unusedSimpArgs false
theorem eqA28 (d:Nat)(w:World)(x0 y0:Int)(x1 y1:Int)(x2 y2:Int)(x3 y3:Int)(x4 y4:Bool)(x5 y5:Int)(x6 y6:Bool)(x7 y7:Int)(x8 y8:Bool)(x9 y9:Int)(x10 y10:Bool)(x11 y11:Int)(x12 y12:Bool) :
  (Op.equalIn (d+4) 28 (.agg #[.int .i64 x0,.int .u64 x1,.int .i64 x2,.int .u64 x3,.bool x4,.int .u64 x5,.bool x6,.int .u64 x7,.bool x8,.int .u64 x9,.bool x10,.int .u64 x11,.bool x12]) (.agg #[.int .i64 y0,.int .u64 y1,.int .i64 y2,.int .u64 y3,.bool y4,.int .u64 y5,.bool y6,.int .u64 y7,.bool y8,.int .u64 y9,.bool y10,.int .u64 y11,.bool y12])).run Tryd.prog w=.ok (x0 == y0 && (x1 == y1 && (x2 == y2 && (((x3 == y3 && (x4 == y4)) && ((x5 == y5 && (x6 == y6)) && ((x7 == y7 && (x8 == y8)) && ((x9 == y9 && (x10 == y10)) && ((x11 == y11 && (x12 == y12))))))))))) w:=by
 refine eqA_of Tryd.underlying28 (by kernel_rfl) ?_
 refine eqf_cons (by rfl) (by go_simp; rfl) (by go_simp; rfl) (by go_simp) ?_
 refine eqf_cons (by rfl) (by go_simp; rfl) (by go_simp; rfl) (by go_simp) ?_
 refine eqf_cons (by rfl) (by go_simp; rfl) (by go_simp; rfl) (by go_simp) ?_
 exact eqf_last (by rfl) (by go_simp) (by go_simp) (eqA26 (d+0) w _ _ _ _ _ _ _ _ _ _ _ _ _ _ _ _ _ _ _ _)
end Go.Proofs.YtepflnfnkfkldaaDoor.PRea
