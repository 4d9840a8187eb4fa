-- Written by a program of this session (gprint.py) over the kit's print.
import Derived.Test.YtcjfjicagopppaaGreatDoorPDayx0
import Derived.Test.YtcjfjicagopppaaGreatDoorPDayx4
import Derived.Test.YtcjfjicagopppaaGreatDoorPDayx9
import Derived.Test.YtcjfjicagopppaaGreatDoorPDayx16
namespace Go.Proofs.YtcjfjicagopppaaGreatDoor.PDay
open Go.RowKit Go.Proofs.YtcjfjicagopppaaGreatDoorW.PrintWords Go.Proofs.YtcjfjicagopppaaGreatDoorW.PrintLast Go.Proofs.YtcjfjicagopppaaGreatDoorW.PrintMore
attribute [local go_sem] max2_int min2_int max_two min_two max_three min_three max_four min_four   -- for this text's walks alone
set_option linter.unusedVariables false
set_option linter.unusedSimpArgs false

/-! ### complinelaw21_DayEither: function 8 -/
mutual
def complinelaw21_DayEither.j0 : Nat → Int → Int → Bool → Int → Int → Bool → Int → Bool → Int → Bool → Int → Bool → Int → Bool → Int → Bool → Int → Bool → Int → Bool → Int → Bool → Int → Bool → Int → Bool → Int → Bool → Int → Bool → Int → Bool → Int → Bool → Int → Bool → Option (Bool)
 | 0, _, _, _, _, _, _, _, _, _, _, _, _, _, _, _, _, _, _, _, _, _, _, _, _, _, _, _, _, _, _, _, _, _, _, _, _ => none
 | k + 1, x1, x2, x7, x13, x14, x49, x242000, x242001, x242002, x242003, x242004, x242005, x242006, x242007, x242008, x242009, x266000, x266001, x266002, x266003, x266004, x266005, x266006, x266007, x266008, x266009, x278000, x278001, x278002, x278003, x278004, x278005, x278006, x278007, x278008, x278009 => if x49 = true then (some false) else (if x14 = 0 then ((day_Mask.f x266000 x266001 x266002 x266003 x266004 x266005 x266006 x266007 x266008 x266009 x1 x2).bind fun bt280 => ((day_Mask.f x278000 x278001 x278002 x278003 x278004 x278005 x278006 x278007 x278008 x278009 x1 x2).bind fun bt282 => (if bt280.2 = 0 then (complinelaw21_DayEither.j1 k x7 x13 bt280.1 bt282.1 (bt282.2 != 0) x242000 x242001 x242002 x242003 x242004 x242005 x242006 x242007 x242008 x242009) else (complinelaw21_DayEither.j1 k x7 x13 bt280.1 bt282.1 true x242000 x242001 x242002 x242003 x242004 x242005 x242006 x242007 x242008 x242009)))) else (if x7 = true then (some (x13 == 0)) else (some false)))
def complinelaw21_DayEither.j1 : Nat → Bool → Int → Int → Int → Bool → Int → Bool → Int → Bool → Int → Bool → Int → Bool → Int → Bool → Option (Bool)
 | 0, _, _, _, _, _, _, _, _, _, _, _, _, _, _, _ => none
 | k + 1, x7, x13, x15, x17, x76, x242000, x242001, x242002, x242003, x242004, x242005, x242006, x242007, x242008, x242009 => if x76 = true then (some false) else (if x242005 = true then (if x7 = true then (some (x13 == (Go.bits .and .u32 x15 x17))) else (some false)) else (if x242009 = true then (if x7 = true then (some (x13 == (Go.bits .and .u32 x15 x17))) else (some false)) else (if x7 = true then (some (x13 == (Go.bits .or .u32 x15 x17))) else (some false))))
end
def complinelaw21_DayEither.f (k : Nat) (a0_0 : Int) (a0_1 : Bool) (a0_2 : Int) (a0_3 : Bool) (a0_4 : Int) (a0_5 : Bool) (a0_6 : Int) (a0_7 : Bool) (a0_8 : Int) (a0_9 : Bool) (a1 : Int) (a2 : Int) : Option (Bool) := (complinelaw21_works.f).bind fun t242 => (if t242 = true then ((spec_Stars.f).bind fun bt243 => ((spec_With.f a0_0 a0_1 a0_2 a0_3 a0_4 a0_5 a0_6 a0_7 a0_8 a0_9 2 bt243.2.2.2.2.1 bt243.2.2.2.2.2.1).bind fun bt254 => ((spec_With.f a0_0 a0_1 a0_2 a0_3 a0_4 a0_5 a0_6 a0_7 a0_8 a0_9 4 bt243.2.2.2.2.2.2.2.2.1 bt243.2.2.2.2.2.2.2.2.2).bind fun bt266 => ((day_Mask.f a0_0 a0_1 a0_2 a0_3 a0_4 a0_5 a0_6 a0_7 a0_8 a0_9 a1 a2).bind fun bt278 => (if bt254.2.2.2.2.2.2.2.2.2.2 = 0 then (complinelaw21_DayEither.j0 k a1 a2 t242 bt278.1 bt278.2 (bt266.2.2.2.2.2.2.2.2.2.2 != 0) a0_0 a0_1 a0_2 a0_3 a0_4 a0_5 a0_6 a0_7 a0_8 a0_9 bt254.1 bt254.2.1 bt254.2.2.1 bt254.2.2.2.1 bt254.2.2.2.2.1 bt254.2.2.2.2.2.1 bt254.2.2.2.2.2.2.1 bt254.2.2.2.2.2.2.2.1 bt254.2.2.2.2.2.2.2.2.1 bt254.2.2.2.2.2.2.2.2.2.1 bt266.1 bt266.2.1 bt266.2.2.1 bt266.2.2.2.1 bt266.2.2.2.2.1 bt266.2.2.2.2.2.1 bt266.2.2.2.2.2.2.1 bt266.2.2.2.2.2.2.2.1 bt266.2.2.2.2.2.2.2.2.1 bt266.2.2.2.2.2.2.2.2.2.1) else (complinelaw21_DayEither.j0 k a1 a2 t242 bt278.1 bt278.2 true a0_0 a0_1 a0_2 a0_3 a0_4 a0_5 a0_6 a0_7 a0_8 a0_9 bt254.1 bt254.2.1 bt254.2.2.1 bt254.2.2.2.1 bt254.2.2.2.2.1 bt254.2.2.2.2.2.1 bt254.2.2.2.2.2.2.1 bt254.2.2.2.2.2.2.2.1 bt254.2.2.2.2.2.2.2.2.1 bt254.2.2.2.2.2.2.2.2.2.1 bt266.1 bt266.2.1 bt266.2.2.1 bt266.2.2.2.1 bt266.2.2.2.2.1 bt266.2.2.2.2.2.1 bt266.2.2.2.2.2.2.1 bt266.2.2.2.2.2.2.2.1 bt266.2.2.2.2.2.2.2.2.1 bt266.2.2.2.2.2.2.2.2.2.1)))))) else (some false))
theorem complinelaw21_DayEither.mono_l : ∀ k, (∀ y0 y1 y2 y3 y4 y5 y6 y7 y8 y9 y10 y11 y12 y13 y14 y15 y16 y17 y18 y19 y20 y21 y22 y23 y24 y25 y26 y27 y28 y29 y30 y31 y32 y33 y34 y35, LeO (complinelaw21_DayEither.j0 k y0 y1 y2 y3 y4 y5 y6 y7 y8 y9 y10 y11 y12 y13 y14 y15 y16 y17 y18 y19 y20 y21 y22 y23 y24 y25 y26 y27 y28 y29 y30 y31 y32 y33 y34 y35) (complinelaw21_DayEither.j0 (k + 1) y0 y1 y2 y3 y4 y5 y6 y7 y8 y9 y10 y11 y12 y13 y14 y15 y16 y17 y18 y19 y20 y21 y22 y23 y24 y25 y26 y27 y28 y29 y30 y31 y32 y33 y34 y35)) ∧ (∀ y0 y1 y2 y3 y4 y5 y6 y7 y8 y9 y10 y11 y12 y13 y14, LeO (complinelaw21_DayEither.j1 k y0 y1 y2 y3 y4 y5 y6 y7 y8 y9 y10 y11 y12 y13 y14) (complinelaw21_DayEither.j1 (k + 1) y0 y1 y2 y3 y4 y5 y6 y7 y8 y9 y10 y11 y12 y13 y14))
 | 0 => ⟨fun _ _ _ _ _ _ _ _ _ _ _ _ _ _ _ _ _ _ _ _ _ _ _ _ _ _ _ _ _ _ _ _ _ _ _ _ r h => by simp [complinelaw21_DayEither.j0] at h, fun _ _ _ _ _ _ _ _ _ _ _ _ _ _ _ r h => by simp [complinelaw21_DayEither.j1] at h⟩
 | k + 1 => by
  obtain ⟨ih0, ih1⟩ := complinelaw21_DayEither.mono_l k
  refine ⟨?_, ?_⟩
  ·intro y0 y1 y2 y3 y4 y5 y6 y7 y8 y9 y10 y11 y12 y13 y14 y15 y16 y17 y18 y19 y20 y21 y22 y23 y24 y25 y26 y27 y28 y29 y30 y31 y32 y33 y34 y35
   unfold complinelaw21_DayEither.j0
   repeat' first
   | (with_reducible exact ih0 _ _ _ _ _ _ _ _ _ _ _ _ _ _ _ _ _ _ _ _ _ _ _ _ _ _ _ _ _ _ _ _ _ _ _ _)
   | (with_reducible exact ih1 _ _ _ _ _ _ _ _ _ _ _ _ _ _ _)
   | (with_reducible exact LeO.refl _)
   | (with_reducible exact LeO.none _)
   | (with_reducible refine LeO.ite ?_ ?_)
   | (with_reducible refine LeO.bind ?_ (fun _ => ?_))
   | exact ih0 _ _ _ _ _ _ _ _ _ _ _ _ _ _ _ _ _ _ _ _ _ _ _ _ _ _ _ _ _ _ _ _ _ _ _ _
   | exact ih1 _ _ _ _ _ _ _ _ _ _ _ _ _ _ _
   | exact LeO.none _
   | refine LeO.ite ?_ ?_
   | refine LeO.bind ?_ (fun _ => ?_)
  ·intro y0 y1 y2 y3 y4 y5 y6 y7 y8 y9 y10 y11 y12 y13 y14
   unfold complinelaw21_DayEither.j1
   repeat' first
   | (with_reducible exact ih0 _ _ _ _ _ _ _ _ _ _ _ _ _ _ _ _ _ _ _ _ _ _ _ _ _ _ _ _ _ _ _ _ _ _ _ _)
   | (with_reducible exact ih1 _ _ _ _ _ _ _ _ _ _ _ _ _ _ _)
   | (with_reducible exact LeO.refl _)
   | (with_reducible exact LeO.none _)
   | (with_reducible refine LeO.ite ?_ ?_)
   | (with_reducible refine LeO.bind ?_ (fun _ => ?_))
   | exact ih0 _ _ _ _ _ _ _ _ _ _ _ _ _ _ _ _ _ _ _ _ _ _ _ _ _ _ _ _ _ _ _ _ _ _ _ _
   | exact ih1 _ _ _ _ _ _ _ _ _ _ _ _ _ _ _
   | exact LeO.none _
   | refine LeO.ite ?_ ?_
   | refine LeO.bind ?_ (fun _ => ?_)
theorem complinelaw21_DayEither.mono : ∀ a0 a1 a2 a3 a4 a5 a6 a7 a8 a9 a10 a11 k, LeO (complinelaw21_DayEither.f k a0 a1 a2 a3 a4 a5 a6 a7 a8 a9 a10 a11) (complinelaw21_DayEither.f (k + 1) a0 a1 a2 a3 a4 a5 a6 a7 a8 a9 a10 a11) := by
 intro a0 a1 a2 a3 a4 a5 a6 a7 a8 a9 a10 a11 k
 obtain ⟨ih0, ih1⟩ := complinelaw21_DayEither.mono_l k
 unfold complinelaw21_DayEither.f
 repeat' first
   | (with_reducible exact ih0 _ _ _ _ _ _ _ _ _ _ _ _ _ _ _ _ _ _ _ _ _ _ _ _ _ _ _ _ _ _ _ _ _ _ _ _)
   | (with_reducible exact ih1 _ _ _ _ _ _ _ _ _ _ _ _ _ _ _)
   | (with_reducible exact LeO.refl _)
   | (with_reducible exact LeO.none _)
   | (with_reducible refine LeO.ite ?_ ?_)
   | (with_reducible refine LeO.bind ?_ (fun _ => ?_))
   | exact ih0 _ _ _ _ _ _ _ _ _ _ _ _ _ _ _ _ _ _ _ _ _ _ _ _ _ _ _ _ _ _ _ _ _ _ _ _
   | exact ih1 _ _ _ _ _ _ _ _ _ _ _ _ _ _ _
   | exact LeO.none _
   | refine LeO.ite ?_ ?_
   | refine LeO.bind ?_ (fun _ => ?_)
set_option maxHeartbeats 8000000 in
set_option maxRecDepth 100000 in
theorem complinelaw21_DayEither.calls (k : Nat) (a0_0 : Int) (a0_1 : Bool) (a0_2 : Int) (a0_3 : Bool) (a0_4 : Int) (a0_5 : Bool) (a0_6 : Int) (a0_7 : Bool) (a0_8 : Int) (a0_9 : Bool) (a1 : Int) (a2 : Int) (r : Bool) (w : World) (hT : Tab w) (h : complinelaw21_DayEither.f k a0_0 a0_1 a0_2 a0_3 a0_4 a0_5 a0_6 a0_7 a0_8 a0_9 a1 a2 = some r) :
  Calls Tryz.prog 8 #[.agg #[.int .u64 a0_0, .bool a0_1, .int .u64 a0_2, .bool a0_3, .int .u64 a0_4, .bool a0_5, .int .u64 a0_6, .bool a0_7, .int .u64 a0_8, .bool a0_9], .int .i64 a1, .int .i64 a2] w fun e w' => e = .returned (.bool r) ∧ Below w.heap.size w w' := by
 have hu26 := Tryz.underlying26
 have hu24 := Tryz.underlying24
 have HB := Aside0.mk (Below.refl w.heap.size w)
 have H : ((complinelaw21_works.f).bind fun t242 => (if t242 = true then ((spec_Stars.f).bind fun bt243 => ((spec_With.f a0_0 a0_1 a0_2 a0_3 a0_4 a0_5 a0_6 a0_7 a0_8 a0_9 2 bt243.2.2.2.2.1 bt243.2.2.2.2.2.1).bind fun bt254 => ((spec_With.f a0_0 a0_1 a0_2 a0_3 a0_4 a0_5 a0_6 a0_7 a0_8 a0_9 4 bt243.2.2.2.2.2.2.2.2.1 bt243.2.2.2.2.2.2.2.2.2).bind fun bt266 => ((day_Mask.f a0_0 a0_1 a0_2 a0_3 a0_4 a0_5 a0_6 a0_7 a0_8 a0_9 a1 a2).bind fun bt278 => (if bt254.2.2.2.2.2.2.2.2.2.2 = 0 then (complinelaw21_DayEither.j0 k a1 a2 t242 bt278.1 bt278.2 (bt266.2.2.2.2.2.2.2.2.2.2 != 0) a0_0 a0_1 a0_2 a0_3 a0_4 a0_5 a0_6 a0_7 a0_8 a0_9 bt254.1 bt254.2.1 bt254.2.2.1 bt254.2.2.2.1 bt254.2.2.2.2.1 bt254.2.2.2.2.2.1 bt254.2.2.2.2.2.2.1 bt254.2.2.2.2.2.2.2.1 bt254.2.2.2.2.2.2.2.2.1 bt254.2.2.2.2.2.2.2.2.2.1 bt266.1 bt266.2.1 bt266.2.2.1 bt266.2.2.2.1 bt266.2.2.2.2.1 bt266.2.2.2.2.2.1 bt266.2.2.2.2.2.2.1 bt266.2.2.2.2.2.2.2.1 bt266.2.2.2.2.2.2.2.2.1 bt266.2.2.2.2.2.2.2.2.2.1) else (complinelaw21_DayEither.j0 k a1 a2 t242 bt278.1 bt278.2 true a0_0 a0_1 a0_2 a0_3 a0_4 a0_5 a0_6 a0_7 a0_8 a0_9 bt254.1 bt254.2.1 bt254.2.2.1 bt254.2.2.2.1 bt254.2.2.2.2.1 bt254.2.2.2.2.2.1 bt254.2.2.2.2.2.2.1 bt254.2.2.2.2.2.2.2.1 bt254.2.2.2.2.2.2.2.2.1 bt254.2.2.2.2.2.2.2.2.2.1 bt266.1 bt266.2.1 bt266.2.2.1 bt266.2.2.2.1 bt266.2.2.2.2.1 bt266.2.2.2.2.2.1 bt266.2.2.2.2.2.2.1 bt266.2.2.2.2.2.2.2.1 bt266.2.2.2.2.2.2.2.2.1 bt266.2.2.2.2.2.2.2.2.2.1)))))) else (some false))) = some r := h
 clear h
 replace H := Option.bind_eq_some_iff.mp H
 obtain ⟨t242, A40, H⟩ := H
 replace H : (if t242 = true then ((spec_Stars.f).bind fun bt243 => ((spec_With.f a0_0 a0_1 a0_2 a0_3 a0_4 a0_5 a0_6 a0_7 a0_8 a0_9 2 bt243.2.2.2.2.1 bt243.2.2.2.2.2.1).bind fun bt254 => ((spec_With.f a0_0 a0_1 a0_2 a0_3 a0_4 a0_5 a0_6 a0_7 a0_8 a0_9 4 bt243.2.2.2.2.2.2.2.2.1 bt243.2.2.2.2.2.2.2.2.2).bind fun bt266 => ((day_Mask.f a0_0 a0_1 a0_2 a0_3 a0_4 a0_5 a0_6 a0_7 a0_8 a0_9 a1 a2).bind fun bt278 => (if bt254.2.2.2.2.2.2.2.2.2.2 = 0 then (complinelaw21_DayEither.j0 k a1 a2 t242 bt278.1 bt278.2 (bt266.2.2.2.2.2.2.2.2.2.2 != 0) a0_0 a0_1 a0_2 a0_3 a0_4 a0_5 a0_6 a0_7 a0_8 a0_9 bt254.1 bt254.2.1 bt254.2.2.1 bt254.2.2.2.1 bt254.2.2.2.2.1 bt254.2.2.2.2.2.1 bt254.2.2.2.2.2.2.1 bt254.2.2.2.2.2.2.2.1 bt254.2.2.2.2.2.2.2.2.1 bt254.2.2.2.2.2.2.2.2.2.1 bt266.1 bt266.2.1 bt266.2.2.1 bt266.2.2.2.1 bt266.2.2.2.2.1 bt266.2.2.2.2.2.1 bt266.2.2.2.2.2.2.1 bt266.2.2.2.2.2.2.2.1 bt266.2.2.2.2.2.2.2.2.1 bt266.2.2.2.2.2.2.2.2.2.1) else (complinelaw21_DayEither.j0 k a1 a2 t242 bt278.1 bt278.2 true a0_0 a0_1 a0_2 a0_3 a0_4 a0_5 a0_6 a0_7 a0_8 a0_9 bt254.1 bt254.2.1 bt254.2.2.1 bt254.2.2.2.1 bt254.2.2.2.2.1 bt254.2.2.2.2.2.1 bt254.2.2.2.2.2.2.1 bt254.2.2.2.2.2.2.2.1 bt254.2.2.2.2.2.2.2.2.1 bt254.2.2.2.2.2.2.2.2.2.1 bt266.1 bt266.2.1 bt266.2.2.1 bt266.2.2.2.1 bt266.2.2.2.2.1 bt266.2.2.2.2.2.1 bt266.2.2.2.2.2.2.1 bt266.2.2.2.2.2.2.2.1 bt266.2.2.2.2.2.2.2.2.1 bt266.2.2.2.2.2.2.2.2.2.1)))))) else (some false)) = some r := H
 have A4 := Aside0.mk A40
 clear A40
 by_cases c5 : t242 = true
 ·subst c5
  have H1 : ((spec_Stars.f).bind fun bt243 => ((spec_With.f a0_0 a0_1 a0_2 a0_3 a0_4 a0_5 a0_6 a0_7 a0_8 a0_9 2 bt243.2.2.2.2.1 bt243.2.2.2.2.2.1).bind fun bt254 => ((spec_With.f a0_0 a0_1 a0_2 a0_3 a0_4 a0_5 a0_6 a0_7 a0_8 a0_9 4 bt243.2.2.2.2.2.2.2.2.1 bt243.2.2.2.2.2.2.2.2.2).bind fun bt266 => ((day_Mask.f a0_0 a0_1 a0_2 a0_3 a0_4 a0_5 a0_6 a0_7 a0_8 a0_9 a1 a2).bind fun bt278 => (if bt254.2.2.2.2.2.2.2.2.2.2 = 0 then (complinelaw21_DayEither.j0 k a1 a2 true bt278.1 bt278.2 (bt266.2.2.2.2.2.2.2.2.2.2 != 0) a0_0 a0_1 a0_2 a0_3 a0_4 a0_5 a0_6 a0_7 a0_8 a0_9 bt254.1 bt254.2.1 bt254.2.2.1 bt254.2.2.2.1 bt254.2.2.2.2.1 bt254.2.2.2.2.2.1 bt254.2.2.2.2.2.2.1 bt254.2.2.2.2.2.2.2.1 bt254.2.2.2.2.2.2.2.2.1 bt254.2.2.2.2.2.2.2.2.2.1 bt266.1 bt266.2.1 bt266.2.2.1 bt266.2.2.2.1 bt266.2.2.2.2.1 bt266.2.2.2.2.2.1 bt266.2.2.2.2.2.2.1 bt266.2.2.2.2.2.2.2.1 bt266.2.2.2.2.2.2.2.2.1 bt266.2.2.2.2.2.2.2.2.2.1) else (complinelaw21_DayEither.j0 k a1 a2 true bt278.1 bt278.2 true a0_0 a0_1 a0_2 a0_3 a0_4 a0_5 a0_6 a0_7 a0_8 a0_9 bt254.1 bt254.2.1 bt254.2.2.1 bt254.2.2.2.1 bt254.2.2.2.2.1 bt254.2.2.2.2.2.1 bt254.2.2.2.2.2.2.1 bt254.2.2.2.2.2.2.2.1 bt254.2.2.2.2.2.2.2.2.1 bt254.2.2.2.2.2.2.2.2.2.1 bt266.1 bt266.2.1 bt266.2.2.1 bt266.2.2.2.1 bt266.2.2.2.2.1 bt266.2.2.2.2.2.1 bt266.2.2.2.2.2.2.1 bt266.2.2.2.2.2.2.2.1 bt266.2.2.2.2.2.2.2.2.1 bt266.2.2.2.2.2.2.2.2.2.1)))))) = some r := by rw [if_pos rfl] at H; exact H
  clear H
  have H := H1
  clear H1
  replace H := Option.bind_eq_some_iff.mp H
  obtain ⟨⟨t243, t244, t245, t246, t247, t248, t249, t250, t251, t252⟩, A60, H⟩ := H
  replace H : ((spec_With.f a0_0 a0_1 a0_2 a0_3 a0_4 a0_5 a0_6 a0_7 a0_8 a0_9 2 t247 t248).bind fun bt254 => ((spec_With.f a0_0 a0_1 a0_2 a0_3 a0_4 a0_5 a0_6 a0_7 a0_8 a0_9 4 t251 t252).bind fun bt266 => ((day_Mask.f a0_0 a0_1 a0_2 a0_3 a0_4 a0_5 a0_6 a0_7 a0_8 a0_9 a1 a2).bind fun bt278 => (if bt254.2.2.2.2.2.2.2.2.2.2 = 0 then (complinelaw21_DayEither.j0 k a1 a2 true bt278.1 bt278.2 (bt266.2.2.2.2.2.2.2.2.2.2 != 0) a0_0 a0_1 a0_2 a0_3 a0_4 a0_5 a0_6 a0_7 a0_8 a0_9 bt254.1 bt254.2.1 bt254.2.2.1 bt254.2.2.2.1 bt254.2.2.2.2.1 bt254.2.2.2.2.2.1 bt254.2.2.2.2.2.2.1 bt254.2.2.2.2.2.2.2.1 bt254.2.2.2.2.2.2.2.2.1 bt254.2.2.2.2.2.2.2.2.2.1 bt266.1 bt266.2.1 bt266.2.2.1 bt266.2.2.2.1 bt266.2.2.2.2.1 bt266.2.2.2.2.2.1 bt266.2.2.2.2.2.2.1 bt266.2.2.2.2.2.2.2.1 bt266.2.2.2.2.2.2.2.2.1 bt266.2.2.2.2.2.2.2.2.2.1) else (complinelaw21_DayEither.j0 k a1 a2 true bt278.1 bt278.2 true a0_0 a0_1 a0_2 a0_3 a0_4 a0_5 a0_6 a0_7 a0_8 a0_9 bt254.1 bt254.2.1 bt254.2.2.1 bt254.2.2.2.1 bt254.2.2.2.2.1 bt254.2.2.2.2.2.1 bt254.2.2.2.2.2.2.1 bt254.2.2.2.2.2.2.2.1 bt254.2.2.2.2.2.2.2.2.1 bt254.2.2.2.2.2.2.2.2.2.1 bt266.1 bt266.2.1 bt266.2.2.1 bt266.2.2.2.1 bt266.2.2.2.2.1 bt266.2.2.2.2.2.1 bt266.2.2.2.2.2.2.1 bt266.2.2.2.2.2.2.2.1 bt266.2.2.2.2.2.2.2.2.1 bt266.2.2.2.2.2.2.2.2.2.1))))) = some r := H
  have A6 := Aside0.mk A60
  clear A60
  replace H := Option.bind_eq_some_iff.mp H
  obtain ⟨⟨t254, t255, t256, t257, t258, t259, t260, t261, t262, t263, t264⟩, A70, H⟩ := H
  replace H : ((spec_With.f a0_0 a0_1 a0_2 a0_3 a0_4 a0_5 a0_6 a0_7 a0_8 a0_9 4 t251 t252).bind fun bt266 => ((day_Mask.f a0_0 a0_1 a0_2 a0_3 a0_4 a0_5 a0_6 a0_7 a0_8 a0_9 a1 a2).bind fun bt278 => (if t264 = 0 then (complinelaw21_DayEither.j0 k a1 a2 true bt278.1 bt278.2 (bt266.2.2.2.2.2.2.2.2.2.2 != 0) a0_0 a0_1 a0_2 a0_3 a0_4 a0_5 a0_6 a0_7 a0_8 a0_9 t254 t255 t256 t257 t258 t259 t260 t261 t262 t263 bt266.1 bt266.2.1 bt266.2.2.1 bt266.2.2.2.1 bt266.2.2.2.2.1 bt266.2.2.2.2.2.1 bt266.2.2.2.2.2.2.1 bt266.2.2.2.2.2.2.2.1 bt266.2.2.2.2.2.2.2.2.1 bt266.2.2.2.2.2.2.2.2.2.1) else (complinelaw21_DayEither.j0 k a1 a2 true bt278.1 bt278.2 true a0_0 a0_1 a0_2 a0_3 a0_4 a0_5 a0_6 a0_7 a0_8 a0_9 t254 t255 t256 t257 t258 t259 t260 t261 t262 t263 bt266.1 bt266.2.1 bt266.2.2.1 bt266.2.2.2.1 bt266.2.2.2.2.1 bt266.2.2.2.2.2.1 bt266.2.2.2.2.2.2.1 bt266.2.2.2.2.2.2.2.1 bt266.2.2.2.2.2.2.2.2.1 bt266.2.2.2.2.2.2.2.2.2.1)))) = some r := H
  have A7 := Aside0.mk A70
  clear A70
  replace H := Option.bind_eq_some_iff.mp H
  obtain ⟨⟨t266, t267, t268, t269, t270, t271, t272, t273, t274, t275, t276⟩, A80, H⟩ := H
  replace H : ((day_Mask.f a0_0 a0_1 a0_2 a0_3 a0_4 a0_5 a0_6 a0_7 a0_8 a0_9 a1 a2).bind fun bt278 => (if t264 = 0 then (complinelaw21_DayEither.j0 k a1 a2 true bt278.1 bt278.2 (t276 != 0) a0_0 a0_1 a0_2 a0_3 a0_4 a0_5 a0_6 a0_7 a0_8 a0_9 t254 t255 t256 t257 t258 t259 t260 t261 t262 t263 t266 t267 t268 t269 t270 t271 t272 t273 t274 t275) else (complinelaw21_DayEither.j0 k a1 a2 true bt278.1 bt278.2 true a0_0 a0_1 a0_2 a0_3 a0_4 a0_5 a0_6 a0_7 a0_8 a0_9 t254 t255 t256 t257 t258 t259 t260 t261 t262 t263 t266 t267 t268 t269 t270 t271 t272 t273 t274 t275))) = some r := H
  have A8 := Aside0.mk A80
  clear A80
  replace H := Option.bind_eq_some_iff.mp H
  obtain ⟨⟨t278, t279⟩, A90, H⟩ := H
  replace H : (if t264 = 0 then (complinelaw21_DayEither.j0 k a1 a2 true t278 t279 (t276 != 0) a0_0 a0_1 a0_2 a0_3 a0_4 a0_5 a0_6 a0_7 a0_8 a0_9 t254 t255 t256 t257 t258 t259 t260 t261 t262 t263 t266 t267 t268 t269 t270 t271 t272 t273 t274 t275) else (complinelaw21_DayEither.j0 k a1 a2 true t278 t279 true a0_0 a0_1 a0_2 a0_3 a0_4 a0_5 a0_6 a0_7 a0_8 a0_9 t254 t255 t256 t257 t258 t259 t260 t261 t262 t263 t266 t267 t268 t269 t270 t271 t272 t273 t274 t275)) = some r := H
  have A9 := Aside0.mk A90
  clear A90
  have HC10 := Aside0.mk H
  clear H
  go_enter Tryz.func8, Tryz.ntmps8
  go_upto_region 8 with (first | ((with_reducible refine gate_dst (N := 3) rfl ?_); refine box_event ?hg (N := 3) ?hd (cs := #[.int .u64 a0_0, .bool a0_1, .int .u64 a0_2, .bool a0_3, .int .u64 a0_4, .bool a0_5, .int .u64 a0_6, .bool a0_7, .int .u64 a0_8, .bool a0_9]) (t := 26) ?hr ?_; (case hd => rfl); (case hg => rfl); (case hr => first | (go_simp; done) | (go_simp; rfl)); intro gb241 hg w11 hbox hb; have n0_ := Aside0.mk (below_step (by repeat (first | (with_reducible first | exact HB.out | apply below_alloc | apply pw_below_drewN | apply below_drew1) | exact HB.out)) hb); have n1_ := Aside0.mk (hbox); have n2_ := Aside0.mk ((by rw [hg]; exact (below_size (by repeat (first | (with_reducible first | exact HB.out | apply below_alloc | apply pw_below_drewN | apply below_drew1) | exact HB.out))) : w.heap.size ≤ gb241)); have n3_ := Aside0.mk ((by rw [hg]; exact (below_size (by repeat (first | (with_reducible first | exact HB.out | apply below_alloc | apply pw_below_drewN | apply below_drew1) | exact HB.out))) : w.heap.size ≤ gb241)); clear HB; have HB := n0_; have BK241 := n1_; have GW241 := n2_; have GE241 := n3_; clear n0_ n1_ n2_ n3_; clear hb hbox hg) | ((with_reducible refine gate_callee (f := 9) rfl ?_); refine goesL_ (some 19) rfl rfl Tryz.func9 (by kernel_rfl) rfl #[] rfl (by (try simp only [List.map_toArray, List.map_cons, List.map_nil]); first | done | rfl | (simp only [List.length_drop, List.length_take]; rfl)) ?_; (with_reducible refine (complinelaw21_works.calls  true _ (hT.keep (by repeat (first | (with_reducible first | exact HB.out | apply below_alloc | apply pw_below_drewN | apply below_drew1 | refine below_set ?_ GE241.out | refine below_set ?_ GE253.out | refine below_set ?_ GE265.out | refine below_set ?_ GE277.out) | exact HB.out))) A4.out).mono ?_); rintro e w12 ⟨rfl, hb⟩; refine ⟨_, rfl, ?_⟩; have n0_ := Aside0.mk (blk_below (g := gb241) (o := .cells #[.int .u64 a0_0, .bool a0_1, .int .u64 a0_2, .bool a0_3, .int .u64 a0_4, .bool a0_5, .int .u64 a0_6, .bool a0_7, .int .u64 a0_8, .bool a0_9] 26 (0, 0)) (by (with_reducible repeat (first | refine blk_drewN ?_ _ | refine blk_drew ?_ | refine blk_alloc ?_ _)); exact BK241.out) hb); have n1_ := Aside0.mk (below_step (by repeat (first | (with_reducible first | exact HB.out | apply below_alloc | apply pw_below_drewN | apply below_drew1 | refine below_set ?_ GE241.out) | exact HB.out)) hb); clear BK241; clear HB; have BK241 := n0_; have HB := n1_; clear n0_ n1_; (try clear hb); (try clear hb2); (try clear hk); (try clear hi)) | ((with_reducible refine gate_callee (f := 19) rfl ?_); refine goesL_ (some 22) rfl rfl Tryz.func19 (by kernel_rfl) rfl #[] rfl (by (try simp only [List.map_toArray, List.map_cons, List.map_nil]); first | done | rfl | (simp only [List.length_drop, List.length_take]; rfl)) ?_; (with_reducible refine (spec_Stars.calls  t243 t244 t245 t246 t247 t248 t249 t250 t251 t252 _ A6.out).mono ?_); rintro e w13 ⟨rfl, hb⟩; refine ⟨_, rfl, ?_⟩; have n0_ := Aside0.mk (blk_below (g := gb241) (o := .cells #[.int .u64 a0_0, .bool a0_1, .int .u64 a0_2, .bool a0_3, .int .u64 a0_4, .bool a0_5, .int .u64 a0_6, .bool a0_7, .int .u64 a0_8, .bool a0_9] 26 (0, 0)) (by (with_reducible repeat (first | refine blk_drewN ?_ _ | refine blk_drew ?_ | refine blk_alloc ?_ _)); exact BK241.out) hb); have n1_ := Aside0.mk (below_step (by repeat (first | (with_reducible first | exact HB.out | apply below_alloc | apply pw_below_drewN | apply below_drew1 | refine below_set ?_ GE241.out) | exact HB.out)) hb); clear BK241; clear HB; have BK241 := n0_; have HB := n1_; clear n0_ n1_; (try clear hb); (try clear hb2); (try clear hk); (try clear hi)) | ((with_reducible refine gate_dst (N := 8) rfl ?_); refine box_event ?hg (N := 8) ?hd (cs := #[.int .u64 0, .bool false, .int .u64 0, .bool false, .int .u64 0, .bool false, .int .u64 0, .bool false, .int .u64 0, .bool false]) (t := 26) ?hr ?_; (case hd => rfl); (case hg => rfl); (case hr => first | (go_simp; done) | (go_simp; rfl)); intro gb253 hg w14 hbox hb; have n0_ := Aside0.mk (blk_below (g := gb241) (o := .cells #[.int .u64 a0_0, .bool a0_1, .int .u64 a0_2, .bool a0_3, .int .u64 a0_4, .bool a0_5, .int .u64 a0_6, .bool a0_7, .int .u64 a0_8, .bool a0_9] 26 (0, 0)) (by (with_reducible repeat (first | refine blk_drewN ?_ _ | refine blk_drew ?_ | refine blk_alloc ?_ _)); exact BK241.out) hb); have n1_ := Aside0.mk (below_step (by repeat (first | (with_reducible first | exact HB.out | apply below_alloc | apply pw_below_drewN | apply below_drew1 | refine below_set ?_ GE241.out) | exact HB.out)) hb); have n2_ := Aside0.mk (hbox); have n3_ := Aside0.mk ((by rw [hg]; exact (below_size (by repeat (first | (with_reducible first | exact HB.out | apply below_alloc | apply pw_below_drewN | apply below_drew1 | refine below_set ?_ GE241.out) | exact HB.out))) : w.heap.size ≤ gb253)); have n4_ := Aside0.mk ((by rw [hg]; exact (below_size (by repeat (first | (with_reducible first | exact HB.out | apply below_alloc | apply pw_below_drewN | apply below_drew1 | refine below_set ?_ GE241.out) | exact HB.out))) : w.heap.size ≤ gb253)); have n5_ := Aside0.mk ((by rw [hg]; exact Nat.ne_of_lt (blk_lt (g := gb241) (o := .cells #[.int .u64 a0_0, .bool a0_1, .int .u64 a0_2, .bool a0_3, .int .u64 a0_4, .bool a0_5, .int .u64 a0_6, .bool a0_7, .int .u64 a0_8, .bool a0_9] 26 (0, 0)) (by (with_reducible repeat (first | refine blk_drewN ?_ _ | refine blk_drew ?_ | refine blk_alloc ?_ _)); exact BK241.out)) : gb241 ≠ gb253)); have n6_ := Aside0.mk ((by rw [hg]; exact Nat.ne_of_gt (blk_lt (g := gb241) (o := .cells #[.int .u64 a0_0, .bool a0_1, .int .u64 a0_2, .bool a0_3, .int .u64 a0_4, .bool a0_5, .int .u64 a0_6, .bool a0_7, .int .u64 a0_8, .bool a0_9] 26 (0, 0)) (by (with_reducible repeat (first | refine blk_drewN ?_ _ | refine blk_drew ?_ | refine blk_alloc ?_ _)); exact BK241.out)) : gb253 ≠ gb241)); clear BK241; clear HB; have BK241 := n0_; have HB := n1_; have BK253 := n2_; have GW253 := n3_; have GE253 := n4_; have NB241_253 := n5_; have NB253_241 := n6_; clear n0_ n1_ n2_ n3_ n4_ n5_ n6_; clear hb hbox hg; have hnb15 := NB253_241.out; have hnc15 := NB241_253.out; have hcz16_0 : w14.cell? ⟨gb253, 0, none⟩ = some (.int .u64 0) := (blk_cell BK253.out 0).trans rfl; have hcz16_1 : w14.cell? ⟨gb253, 1, none⟩ = some (.bool false) := (blk_cell BK253.out 1).trans rfl; have hcz16_2 : w14.cell? ⟨gb253, 2, none⟩ = some (.int .u64 0) := (blk_cell BK253.out 2).trans rfl; have hcz16_3 : w14.cell? ⟨gb253, 3, none⟩ = some (.bool false) := (blk_cell BK253.out 3).trans rfl; have hcz16_4 : w14.cell? ⟨gb253, 4, none⟩ = some (.int .u64 0) := (blk_cell BK253.out 4).trans rfl; have hcz16_5 : w14.cell? ⟨gb253, 5, none⟩ = some (.bool false) := (blk_cell BK253.out 5).trans rfl; have hcz16_6 : w14.cell? ⟨gb253, 6, none⟩ = some (.int .u64 0) := (blk_cell BK253.out 6).trans rfl; have hcz16_7 : w14.cell? ⟨gb253, 7, none⟩ = some (.bool false) := (blk_cell BK253.out 7).trans rfl; have hcz16_8 : w14.cell? ⟨gb253, 8, none⟩ = some (.int .u64 0) := (blk_cell BK253.out 8).trans rfl; have hcz16_9 : w14.cell? ⟨gb253, 9, none⟩ = some (.bool false) := (blk_cell BK253.out 9).trans rfl; have hfz16_0 := blk_frozen BK253.out 0; have hfz16_1 := blk_frozen BK253.out 1; have hfz16_2 := blk_frozen BK253.out 2; have hfz16_3 := blk_frozen BK253.out 3; have hfz16_4 := blk_frozen BK253.out 4; have hfz16_5 := blk_frozen BK253.out 5; have hfz16_6 := blk_frozen BK253.out 6; have hfz16_7 := blk_frozen BK253.out 7; have hfz16_8 := blk_frozen BK253.out 8; have hfz16_9 := blk_frozen BK253.out 9; have hcz17_0 : w14.cell? ⟨gb241, 0, none⟩ = some (.int .u64 a0_0) := (blk_cell BK241.out 0).trans rfl; have hcz17_1 : w14.cell? ⟨gb241, 1, none⟩ = some (.bool a0_1) := (blk_cell BK241.out 1).trans rfl; have hcz17_2 : w14.cell? ⟨gb241, 2, none⟩ = some (.int .u64 a0_2) := (blk_cell BK241.out 2).trans rfl; have hcz17_3 : w14.cell? ⟨gb241, 3, none⟩ = some (.bool a0_3) := (blk_cell BK241.out 3).trans rfl; have hcz17_4 : w14.cell? ⟨gb241, 4, none⟩ = some (.int .u64 a0_4) := (blk_cell BK241.out 4).trans rfl; have hcz17_5 : w14.cell? ⟨gb241, 5, none⟩ = some (.bool a0_5) := (blk_cell BK241.out 5).trans rfl; have hcz17_6 : w14.cell? ⟨gb241, 6, none⟩ = some (.int .u64 a0_6) := (blk_cell BK241.out 6).trans rfl; have hcz17_7 : w14.cell? ⟨gb241, 7, none⟩ = some (.bool a0_7) := (blk_cell BK241.out 7).trans rfl; have hcz17_8 : w14.cell? ⟨gb241, 8, none⟩ = some (.int .u64 a0_8) := (blk_cell BK241.out 8).trans rfl; have hcz17_9 : w14.cell? ⟨gb241, 9, none⟩ = some (.bool a0_9) := (blk_cell BK241.out 9).trans rfl; have hfz17_0 := blk_frozen BK241.out 0; have hfz17_1 := blk_frozen BK241.out 1; have hfz17_2 := blk_frozen BK241.out 2; have hfz17_3 := blk_frozen BK241.out 3; have hfz17_4 := blk_frozen BK241.out 4; have hfz17_5 := blk_frozen BK241.out 5; have hfz17_6 := blk_frozen BK241.out 6; have hfz17_7 := blk_frozen BK241.out 7; have hfz17_8 := blk_frozen BK241.out 8; have hfz17_9 := blk_frozen BK241.out 9) | ((with_reducible refine gate_callee (f := 20) rfl ?_); refine goesL_ (some 27) rfl rfl Tryz.func20 (by kernel_rfl) rfl #[.agg #[.int .u64 a0_0, .bool a0_1, .int .u64 a0_2, .bool a0_3, .int .u64 a0_4, .bool a0_5, .int .u64 a0_6, .bool a0_7, .int .u64 a0_8, .bool a0_9], .int .i64 2, .agg #[.int .u64 t247, .bool t248]] rfl (by (try simp only [List.map_toArray, List.map_cons, List.map_nil]); first | done | rfl | (simp only [List.length_drop, List.length_take]; rfl)) ?_; (with_reducible refine (spec_With.calls a0_0 a0_1 a0_2 a0_3 a0_4 a0_5 a0_6 a0_7 a0_8 a0_9 2 t247 t248 t254 t255 t256 t257 t258 t259 t260 t261 t262 t263 t264 _ A7.out).mono ?_); rintro e w18 ⟨rfl, hb⟩; refine ⟨_, rfl, ?_⟩; have n0_ := Aside0.mk (blk_below (g := gb241) (o := .cells #[.int .u64 a0_0, .bool a0_1, .int .u64 a0_2, .bool a0_3, .int .u64 a0_4, .bool a0_5, .int .u64 a0_6, .bool a0_7, .int .u64 a0_8, .bool a0_9] 26 (0, 0)) (by (with_reducible repeat (first | refine blk_drewN ?_ _ | refine blk_drew ?_ | refine blk_alloc ?_ _)); refine blk_far ?_ NB241_253.out _; (with_reducible repeat (first | refine blk_drewN ?_ _ | refine blk_drew ?_ | refine blk_alloc ?_ _)); refine blk_far ?_ NB241_253.out _; (with_reducible repeat (first | refine blk_drewN ?_ _ | refine blk_drew ?_ | refine blk_alloc ?_ _)); refine blk_far ?_ NB241_253.out _; (with_reducible repeat (first | refine blk_drewN ?_ _ | refine blk_drew ?_ | refine blk_alloc ?_ _)); refine blk_far ?_ NB241_253.out _; (with_reducible repeat (first | refine blk_drewN ?_ _ | refine blk_drew ?_ | refine blk_alloc ?_ _)); refine blk_far ?_ NB241_253.out _; (with_reducible repeat (first | refine blk_drewN ?_ _ | refine blk_drew ?_ | refine blk_alloc ?_ _)); refine blk_far ?_ NB241_253.out _; (with_reducible repeat (first | refine blk_drewN ?_ _ | refine blk_drew ?_ | refine blk_alloc ?_ _)); refine blk_far ?_ NB241_253.out _; (with_reducible repeat (first | refine blk_drewN ?_ _ | refine blk_drew ?_ | refine blk_alloc ?_ _)); refine blk_far ?_ NB241_253.out _; (with_reducible repeat (first | refine blk_drewN ?_ _ | refine blk_drew ?_ | refine blk_alloc ?_ _)); refine blk_far ?_ NB241_253.out _; (with_reducible repeat (first | refine blk_drewN ?_ _ | refine blk_drew ?_ | refine blk_alloc ?_ _)); refine blk_far ?_ NB241_253.out _; (with_reducible repeat (first | refine blk_drewN ?_ _ | refine blk_drew ?_ | refine blk_alloc ?_ _)); exact BK241.out) hb); have n1_ := Aside0.mk (blk_below (g := gb253) (o := .cells #[.int .u64 t243, .bool t244, .int .u64 t245, .bool t246, .int .u64 t247, .bool t248, .int .u64 t249, .bool t250, .int .u64 t251, .bool t252] 26 (0, 0)) (by (with_reducible repeat (first | refine blk_drewN ?_ _ | refine blk_drew ?_ | refine blk_alloc ?_ _)); refine blk_put (cs := #[.int .u64 t243, .bool t244, .int .u64 t245, .bool t246, .int .u64 t247, .bool t248, .int .u64 t249, .bool t250, .int .u64 t251, .bool false]) ?_ 9 _ rfl; (with_reducible repeat (first | refine blk_drewN ?_ _ | refine blk_drew ?_ | refine blk_alloc ?_ _)); refine blk_put (cs := #[.int .u64 t243, .bool t244, .int .u64 t245, .bool t246, .int .u64 t247, .bool t248, .int .u64 t249, .bool t250, .int .u64 0, .bool false]) ?_ 8 _ rfl; (with_reducible repeat (first | refine blk_drewN ?_ _ | refine blk_drew ?_ | refine blk_alloc ?_ _)); refine blk_put (cs := #[.int .u64 t243, .bool t244, .int .u64 t245, .bool t246, .int .u64 t247, .bool t248, .int .u64 t249, .bool false, .int .u64 0, .bool false]) ?_ 7 _ rfl; (with_reducible repeat (first | refine blk_drewN ?_ _ | refine blk_drew ?_ | refine blk_alloc ?_ _)); refine blk_put (cs := #[.int .u64 t243, .bool t244, .int .u64 t245, .bool t246, .int .u64 t247, .bool t248, .int .u64 0, .bool false, .int .u64 0, .bool false]) ?_ 6 _ rfl; (with_reducible repeat (first | refine blk_drewN ?_ _ | refine blk_drew ?_ | refine blk_alloc ?_ _)); refine blk_put (cs := #[.int .u64 t243, .bool t244, .int .u64 t245, .bool t246, .int .u64 t247, .bool false, .int .u64 0, .bool false, .int .u64 0, .bool false]) ?_ 5 _ rfl; (with_reducible repeat (first | refine blk_drewN ?_ _ | refine blk_drew ?_ | refine blk_alloc ?_ _)); refine blk_put (cs := #[.int .u64 t243, .bool t244, .int .u64 t245, .bool t246, .int .u64 0, .bool false, .int .u64 0, .bool false, .int .u64 0, .bool false]) ?_ 4 _ rfl; (with_reducible repeat (first | refine blk_drewN ?_ _ | refine blk_drew ?_ | refine blk_alloc ?_ _)); refine blk_put (cs := #[.int .u64 t243, .bool t244, .int .u64 t245, .bool false, .int .u64 0, .bool false, .int .u64 0, .bool false, .int .u64 0, .bool false]) ?_ 3 _ rfl; (with_reducible repeat (first | refine blk_drewN ?_ _ | refine blk_drew ?_ | refine blk_alloc ?_ _)); refine blk_put (cs := #[.int .u64 t243, .bool t244, .int .u64 0, .bool false, .int .u64 0, .bool false, .int .u64 0, .bool false, .int .u64 0, .bool false]) ?_ 2 _ rfl; (with_reducible repeat (first | refine blk_drewN ?_ _ | refine blk_drew ?_ | refine blk_alloc ?_ _)); refine blk_put (cs := #[.int .u64 t243, .bool false, .int .u64 0, .bool false, .int .u64 0, .bool false, .int .u64 0, .bool false, .int .u64 0, .bool false]) ?_ 1 _ rfl; (with_reducible repeat (first | refine blk_drewN ?_ _ | refine blk_drew ?_ | refine blk_alloc ?_ _)); refine blk_put (cs := #[.int .u64 0, .bool false, .int .u64 0, .bool false, .int .u64 0, .bool false, .int .u64 0, .bool false, .int .u64 0, .bool false]) ?_ 0 _ rfl; (with_reducible repeat (first | refine blk_drewN ?_ _ | refine blk_drew ?_ | refine blk_alloc ?_ _)); exact BK253.out) hb); have n2_ := Aside0.mk (below_step (by repeat (first | (with_reducible first | exact HB.out | apply below_alloc | apply pw_below_drewN | apply below_drew1 | refine below_set ?_ GE241.out | refine below_set ?_ GE253.out) | exact HB.out)) hb); clear BK241; clear BK253; clear HB; have BK241 := n0_; have BK253 := n1_; have HB := n2_; clear n0_ n1_ n2_; (try clear hb); (try clear hb2); (try clear hk); (try clear hi)) | ((with_reducible refine gate_dst (N := 9) rfl ?_); refine box_event ?hg (N := 9) ?hd (cs := #[.int .u64 0, .bool false, .int .u64 0, .bool false, .int .u64 0, .bool false, .int .u64 0, .bool false, .int .u64 0, .bool false]) (t := 26) ?hr ?_; (case hd => rfl); (case hg => rfl); (case hr => first | (go_simp; done) | (go_simp; rfl)); intro gb265 hg w19 hbox hb; have n0_ := Aside0.mk (blk_below (g := gb241) (o := .cells #[.int .u64 a0_0, .bool a0_1, .int .u64 a0_2, .bool a0_3, .int .u64 a0_4, .bool a0_5, .int .u64 a0_6, .bool a0_7, .int .u64 a0_8, .bool a0_9] 26 (0, 0)) (by (with_reducible repeat (first | refine blk_drewN ?_ _ | refine blk_drew ?_ | refine blk_alloc ?_ _)); exact BK241.out) hb); have n1_ := Aside0.mk (blk_below (g := gb253) (o := .cells #[.int .u64 t243, .bool t244, .int .u64 t245, .bool t246, .int .u64 t247, .bool t248, .int .u64 t249, .bool t250, .int .u64 t251, .bool t252] 26 (0, 0)) (by (with_reducible repeat (first | refine blk_drewN ?_ _ | refine blk_drew ?_ | refine blk_alloc ?_ _)); exact BK253.out) hb); have n2_ := Aside0.mk (below_step (by repeat (first | (with_reducible first | exact HB.out | apply below_alloc | apply pw_below_drewN | apply below_drew1 | refine below_set ?_ GE241.out | refine below_set ?_ GE253.out) | exact HB.out)) hb); have n3_ := Aside0.mk (hbox); have n4_ := Aside0.mk ((by rw [hg]; exact (below_size (by repeat (first | (with_reducible first | exact HB.out | apply below_alloc | apply pw_below_drewN | apply below_drew1 | refine below_set ?_ GE241.out | refine below_set ?_ GE253.out) | exact HB.out))) : w.heap.size ≤ gb265)); have n5_ := Aside0.mk ((by rw [hg]; exact (below_size (by repeat (first | (with_reducible first | exact HB.out | apply below_alloc | apply pw_below_drewN | apply below_drew1 | refine below_set ?_ GE241.out | refine below_set ?_ GE253.out) | exact HB.out))) : w.heap.size ≤ gb265)); have n6_ := Aside0.mk ((by rw [hg]; exact Nat.ne_of_lt (blk_lt (g := gb241) (o := .cells #[.int .u64 a0_0, .bool a0_1, .int .u64 a0_2, .bool a0_3, .int .u64 a0_4, .bool a0_5, .int .u64 a0_6, .bool a0_7, .int .u64 a0_8, .bool a0_9] 26 (0, 0)) (by (with_reducible repeat (first | refine blk_drewN ?_ _ | refine blk_drew ?_ | refine blk_alloc ?_ _)); exact BK241.out)) : gb241 ≠ gb265)); have n7_ := Aside0.mk ((by rw [hg]; exact Nat.ne_of_gt (blk_lt (g := gb241) (o := .cells #[.int .u64 a0_0, .bool a0_1, .int .u64 a0_2, .bool a0_3, .int .u64 a0_4, .bool a0_5, .int .u64 a0_6, .bool a0_7, .int .u64 a0_8, .bool a0_9] 26 (0, 0)) (by (with_reducible repeat (first | refine blk_drewN ?_ _ | refine blk_drew ?_ | refine blk_alloc ?_ _)); exact BK241.out)) : gb265 ≠ gb241)); have n8_ := Aside0.mk ((by rw [hg]; exact Nat.ne_of_lt (blk_lt (g := gb253) (o := .cells #[.int .u64 t243, .bool t244, .int .u64 t245, .bool t246, .int .u64 t247, .bool t248, .int .u64 t249, .bool t250, .int .u64 t251, .bool t252] 26 (0, 0)) (by (with_reducible repeat (first | refine blk_drewN ?_ _ | refine blk_drew ?_ | refine blk_alloc ?_ _)); exact BK253.out)) : gb253 ≠ gb265)); have n9_ := Aside0.mk ((by rw [hg]; exact Nat.ne_of_gt (blk_lt (g := gb253) (o := .cells #[.int .u64 t243, .bool t244, .int .u64 t245, .bool t246, .int .u64 t247, .bool t248, .int .u64 t249, .bool t250, .int .u64 t251, .bool t252] 26 (0, 0)) (by (with_reducible repeat (first | refine blk_drewN ?_ _ | refine blk_drew ?_ | refine blk_alloc ?_ _)); exact BK253.out)) : gb265 ≠ gb253)); clear BK241; clear BK253; clear HB; have BK241 := n0_; have BK253 := n1_; have HB := n2_; have BK265 := n3_; have GW265 := n4_; have GE265 := n5_; have NB241_265 := n6_; have NB265_241 := n7_; have NB253_265 := n8_; have NB265_253 := n9_; clear n0_ n1_ n2_ n3_ n4_ n5_ n6_ n7_ n8_ n9_; clear hb hbox hg; have hnb20 := NB265_241.out; have hnc20 := NB241_265.out; have hnb21 := NB265_253.out; have hnc21 := NB253_265.out; have hcz22_0 : w19.cell? ⟨gb265, 0, none⟩ = some (.int .u64 0) := (blk_cell BK265.out 0).trans rfl; have hcz22_1 : w19.cell? ⟨gb265, 1, none⟩ = some (.bool false) := (blk_cell BK265.out 1).trans rfl; have hcz22_2 : w19.cell? ⟨gb265, 2, none⟩ = some (.int .u64 0) := (blk_cell BK265.out 2).trans rfl; have hcz22_3 : w19.cell? ⟨gb265, 3, none⟩ = some (.bool false) := (blk_cell BK265.out 3).trans rfl; have hcz22_4 : w19.cell? ⟨gb265, 4, none⟩ = some (.int .u64 0) := (blk_cell BK265.out 4).trans rfl; have hcz22_5 : w19.cell? ⟨gb265, 5, none⟩ = some (.bool false) := (blk_cell BK265.out 5).trans rfl; have hcz22_6 : w19.cell? ⟨gb265, 6, none⟩ = some (.int .u64 0) := (blk_cell BK265.out 6).trans rfl; have hcz22_7 : w19.cell? ⟨gb265, 7, none⟩ = some (.bool false) := (blk_cell BK265.out 7).trans rfl; have hcz22_8 : w19.cell? ⟨gb265, 8, none⟩ = some (.int .u64 0) := (blk_cell BK265.out 8).trans rfl; have hcz22_9 : w19.cell? ⟨gb265, 9, none⟩ = some (.bool false) := (blk_cell BK265.out 9).trans rfl; have hfz22_0 := blk_frozen BK265.out 0; have hfz22_1 := blk_frozen BK265.out 1; have hfz22_2 := blk_frozen BK265.out 2; have hfz22_3 := blk_frozen BK265.out 3; have hfz22_4 := blk_frozen BK265.out 4; have hfz22_5 := blk_frozen BK265.out 5; have hfz22_6 := blk_frozen BK265.out 6; have hfz22_7 := blk_frozen BK265.out 7; have hfz22_8 := blk_frozen BK265.out 8; have hfz22_9 := blk_frozen BK265.out 9; have hcz23_0 : w19.cell? ⟨gb241, 0, none⟩ = some (.int .u64 a0_0) := (blk_cell BK241.out 0).trans rfl; have hcz23_1 : w19.cell? ⟨gb241, 1, none⟩ = some (.bool a0_1) := (blk_cell BK241.out 1).trans rfl; have hcz23_2 : w19.cell? ⟨gb241, 2, none⟩ = some (.int .u64 a0_2) := (blk_cell BK241.out 2).trans rfl; have hcz23_3 : w19.cell? ⟨gb241, 3, none⟩ = some (.bool a0_3) := (blk_cell BK241.out 3).trans rfl; have hcz23_4 : w19.cell? ⟨gb241, 4, none⟩ = some (.int .u64 a0_4) := (blk_cell BK241.out 4).trans rfl; have hcz23_5 : w19.cell? ⟨gb241, 5, none⟩ = some (.bool a0_5) := (blk_cell BK241.out 5).trans rfl; have hcz23_6 : w19.cell? ⟨gb241, 6, none⟩ = some (.int .u64 a0_6) := (blk_cell BK241.out 6).trans rfl; have hcz23_7 : w19.cell? ⟨gb241, 7, none⟩ = some (.bool a0_7) := (blk_cell BK241.out 7).trans rfl; have hcz23_8 : w19.cell? ⟨gb241, 8, none⟩ = some (.int .u64 a0_8) := (blk_cell BK241.out 8).trans rfl; have hcz23_9 : w19.cell? ⟨gb241, 9, none⟩ = some (.bool a0_9) := (blk_cell BK241.out 9).trans rfl; have hfz23_0 := blk_frozen BK241.out 0; have hfz23_1 := blk_frozen BK241.out 1; have hfz23_2 := blk_frozen BK241.out 2; have hfz23_3 := blk_frozen BK241.out 3; have hfz23_4 := blk_frozen BK241.out 4; have hfz23_5 := blk_frozen BK241.out 5; have hfz23_6 := blk_frozen BK241.out 6; have hfz23_7 := blk_frozen BK241.out 7; have hfz23_8 := blk_frozen BK241.out 8; have hfz23_9 := blk_frozen BK241.out 9; have hcz24_0 : w19.cell? ⟨gb253, 0, none⟩ = some (.int .u64 t243) := (blk_cell BK253.out 0).trans rfl; have hcz24_1 : w19.cell? ⟨gb253, 1, none⟩ = some (.bool t244) := (blk_cell BK253.out 1).trans rfl; have hcz24_2 : w19.cell? ⟨gb253, 2, none⟩ = some (.int .u64 t245) := (blk_cell BK253.out 2).trans rfl; have hcz24_3 : w19.cell? ⟨gb253, 3, none⟩ = some (.bool t246) := (blk_cell BK253.out 3).trans rfl; have hcz24_4 : w19.cell? ⟨gb253, 4, none⟩ = some (.int .u64 t247) := (blk_cell BK253.out 4).trans rfl; have hcz24_5 : w19.cell? ⟨gb253, 5, none⟩ = some (.bool t248) := (blk_cell BK253.out 5).trans rfl; have hcz24_6 : w19.cell? ⟨gb253, 6, none⟩ = some (.int .u64 t249) := (blk_cell BK253.out 6).trans rfl; have hcz24_7 : w19.cell? ⟨gb253, 7, none⟩ = some (.bool t250) := (blk_cell BK253.out 7).trans rfl; have hcz24_8 : w19.cell? ⟨gb253, 8, none⟩ = some (.int .u64 t251) := (blk_cell BK253.out 8).trans rfl; have hcz24_9 : w19.cell? ⟨gb253, 9, none⟩ = some (.bool t252) := (blk_cell BK253.out 9).trans rfl; have hfz24_0 := blk_frozen BK253.out 0; have hfz24_1 := blk_frozen BK253.out 1; have hfz24_2 := blk_frozen BK253.out 2; have hfz24_3 := blk_frozen BK253.out 3; have hfz24_4 := blk_frozen BK253.out 4; have hfz24_5 := blk_frozen BK253.out 5; have hfz24_6 := blk_frozen BK253.out 6; have hfz24_7 := blk_frozen BK253.out 7; have hfz24_8 := blk_frozen BK253.out 8; have hfz24_9 := blk_frozen BK253.out 9) | ((with_reducible refine gate_callee (f := 20) rfl ?_); refine goesL_ (some 34) rfl rfl Tryz.func20 (by kernel_rfl) rfl #[.agg #[.int .u64 a0_0, .bool a0_1, .int .u64 a0_2, .bool a0_3, .int .u64 a0_4, .bool a0_5, .int .u64 a0_6, .bool a0_7, .int .u64 a0_8, .bool a0_9], .int .i64 4, .agg #[.int .u64 t251, .bool t252]] rfl (by (try simp only [List.map_toArray, List.map_cons, List.map_nil]); first | done | rfl | (simp only [List.length_drop, List.length_take]; rfl)) ?_; (with_reducible refine (spec_With.calls a0_0 a0_1 a0_2 a0_3 a0_4 a0_5 a0_6 a0_7 a0_8 a0_9 4 t251 t252 t266 t267 t268 t269 t270 t271 t272 t273 t274 t275 t276 _ A8.out).mono ?_); rintro e w25 ⟨rfl, hb⟩; refine ⟨_, rfl, ?_⟩; have n0_ := Aside0.mk (blk_below (g := gb241) (o := .cells #[.int .u64 a0_0, .bool a0_1, .int .u64 a0_2, .bool a0_3, .int .u64 a0_4, .bool a0_5, .int .u64 a0_6, .bool a0_7, .int .u64 a0_8, .bool a0_9] 26 (0, 0)) (by (with_reducible repeat (first | refine blk_drewN ?_ _ | refine blk_drew ?_ | refine blk_alloc ?_ _)); refine blk_far ?_ NB241_265.out _; (with_reducible repeat (first | refine blk_drewN ?_ _ | refine blk_drew ?_ | refine blk_alloc ?_ _)); refine blk_far ?_ NB241_265.out _; (with_reducible repeat (first | refine blk_drewN ?_ _ | refine blk_drew ?_ | refine blk_alloc ?_ _)); refine blk_far ?_ NB241_265.out _; (with_reducible repeat (first | refine blk_drewN ?_ _ | refine blk_drew ?_ | refine blk_alloc ?_ _)); refine blk_far ?_ NB241_265.out _; (with_reducible repeat (first | refine blk_drewN ?_ _ | refine blk_drew ?_ | refine blk_alloc ?_ _)); refine blk_far ?_ NB241_265.out _; (with_reducible repeat (first | refine blk_drewN ?_ _ | refine blk_drew ?_ | refine blk_alloc ?_ _)); refine blk_far ?_ NB241_265.out _; (with_reducible repeat (first | refine blk_drewN ?_ _ | refine blk_drew ?_ | refine blk_alloc ?_ _)); refine blk_far ?_ NB241_265.out _; (with_reducible repeat (first | refine blk_drewN ?_ _ | refine blk_drew ?_ | refine blk_alloc ?_ _)); refine blk_far ?_ NB241_265.out _; (with_reducible repeat (first | refine blk_drewN ?_ _ | refine blk_drew ?_ | refine blk_alloc ?_ _)); refine blk_far ?_ NB241_265.out _; (with_reducible repeat (first | refine blk_drewN ?_ _ | refine blk_drew ?_ | refine blk_alloc ?_ _)); refine blk_far ?_ NB241_265.out _; (with_reducible repeat (first | refine blk_drewN ?_ _ | refine blk_drew ?_ | refine blk_alloc ?_ _)); exact BK241.out) hb); have n1_ := Aside0.mk (blk_below (g := gb253) (o := .cells #[.int .u64 t243, .bool t244, .int .u64 t245, .bool t246, .int .u64 t247, .bool t248, .int .u64 t249, .bool t250, .int .u64 t251, .bool t252] 26 (0, 0)) (by (with_reducible repeat (first | refine blk_drewN ?_ _ | refine blk_drew ?_ | refine blk_alloc ?_ _)); refine blk_far ?_ NB253_265.out _; (with_reducible repeat (first | refine blk_drewN ?_ _ | refine blk_drew ?_ | refine blk_alloc ?_ _)); refine blk_far ?_ NB253_265.out _; (with_reducible repeat (first | refine blk_drewN ?_ _ | refine blk_drew ?_ | refine blk_alloc ?_ _)); refine blk_far ?_ NB253_265.out _; (with_reducible repeat (first | refine blk_drewN ?_ _ | refine blk_drew ?_ | refine blk_alloc ?_ _)); refine blk_far ?_ NB253_265.out _; (with_reducible repeat (first | refine blk_drewN ?_ _ | refine blk_drew ?_ | refine blk_alloc ?_ _)); refine blk_far ?_ NB253_265.out _; (with_reducible repeat (first | refine blk_drewN ?_ _ | refine blk_drew ?_ | refine blk_alloc ?_ _)); refine blk_far ?_ NB253_265.out _; (with_reducible repeat (first | refine blk_drewN ?_ _ | refine blk_drew ?_ | refine blk_alloc ?_ _)); refine blk_far ?_ NB253_265.out _; (with_reducible repeat (first | refine blk_drewN ?_ _ | refine blk_drew ?_ | refine blk_alloc ?_ _)); refine blk_far ?_ NB253_265.out _; (with_reducible repeat (first | refine blk_drewN ?_ _ | refine blk_drew ?_ | refine blk_alloc ?_ _)); refine blk_far ?_ NB253_265.out _; (with_reducible repeat (first | refine blk_drewN ?_ _ | refine blk_drew ?_ | refine blk_alloc ?_ _)); refine blk_far ?_ NB253_265.out _; (with_reducible repeat (first | refine blk_drewN ?_ _ | refine blk_drew ?_ | refine blk_alloc ?_ _)); exact BK253.out) hb); have n2_ := Aside0.mk (blk_below (g := gb265) (o := .cells #[.int .u64 t254, .bool t255, .int .u64 t256, .bool t257, .int .u64 t258, .bool t259, .int .u64 t260, .bool t261, .int .u64 t262, .bool t263] 26 (0, 0)) (by (with_reducible repeat (first | refine blk_drewN ?_ _ | refine blk_drew ?_ | refine blk_alloc ?_ _)); refine blk_put (cs := #[.int .u64 t254, .bool t255, .int .u64 t256, .bool t257, .int .u64 t258, .bool t259, .int .u64 t260, .bool t261, .int .u64 t262, .bool false]) ?_ 9 _ rfl; (with_reducible repeat (first | refine blk_drewN ?_ _ | refine blk_drew ?_ | refine blk_alloc ?_ _)); refine blk_put (cs := #[.int .u64 t254, .bool t255, .int .u64 t256, .bool t257, .int .u64 t258, .bool t259, .int .u64 t260, .bool t261, .int .u64 0, .bool false]) ?_ 8 _ rfl; (with_reducible repeat (first | refine blk_drewN ?_ _ | refine blk_drew ?_ | refine blk_alloc ?_ _)); refine blk_put (cs := #[.int .u64 t254, .bool t255, .int .u64 t256, .bool t257, .int .u64 t258, .bool t259, .int .u64 t260, .bool false, .int .u64 0, .bool false]) ?_ 7 _ rfl; (with_reducible repeat (first | refine blk_drewN ?_ _ | refine blk_drew ?_ | refine blk_alloc ?_ _)); refine blk_put (cs := #[.int .u64 t254, .bool t255, .int .u64 t256, .bool t257, .int .u64 t258, .bool t259, .int .u64 0, .bool false, .int .u64 0, .bool false]) ?_ 6 _ rfl; (with_reducible repeat (first | refine blk_drewN ?_ _ | refine blk_drew ?_ | refine blk_alloc ?_ _)); refine blk_put (cs := #[.int .u64 t254, .bool t255, .int .u64 t256, .bool t257, .int .u64 t258, .bool false, .int .u64 0, .bool false, .int .u64 0, .bool false]) ?_ 5 _ rfl; (with_reducible repeat (first | refine blk_drewN ?_ _ | refine blk_drew ?_ | refine blk_alloc ?_ _)); refine blk_put (cs := #[.int .u64 t254, .bool t255, .int .u64 t256, .bool t257, .int .u64 0, .bool false, .int .u64 0, .bool false, .int .u64 0, .bool false]) ?_ 4 _ rfl; (with_reducible repeat (first | refine blk_drewN ?_ _ | refine blk_drew ?_ | refine blk_alloc ?_ _)); refine blk_put (cs := #[.int .u64 t254, .bool t255, .int .u64 t256, .bool false, .int .u64 0, .bool false, .int .u64 0, .bool false, .int .u64 0, .bool false]) ?_ 3 _ rfl; (with_reducible repeat (first | refine blk_drewN ?_ _ | refine blk_drew ?_ | refine blk_alloc ?_ _)); refine blk_put (cs := #[.int .u64 t254, .bool t255, .int .u64 0, .bool false, .int .u64 0, .bool false, .int .u64 0, .bool false, .int .u64 0, .bool false]) ?_ 2 _ rfl; (with_reducible repeat (first | refine blk_drewN ?_ _ | refine blk_drew ?_ | refine blk_alloc ?_ _)); refine blk_put (cs := #[.int .u64 t254, .bool false, .int .u64 0, .bool false, .int .u64 0, .bool false, .int .u64 0, .bool false, .int .u64 0, .bool false]) ?_ 1 _ rfl; (with_reducible repeat (first | refine blk_drewN ?_ _ | refine blk_drew ?_ | refine blk_alloc ?_ _)); refine blk_put (cs := #[.int .u64 0, .bool false, .int .u64 0, .bool false, .int .u64 0, .bool false, .int .u64 0, .bool false, .int .u64 0, .bool false]) ?_ 0 _ rfl; (with_reducible repeat (first | refine blk_drewN ?_ _ | refine blk_drew ?_ | refine blk_alloc ?_ _)); exact BK265.out) hb); have n3_ := Aside0.mk (below_step (by repeat (first | (with_reducible first | exact HB.out | apply below_alloc | apply pw_below_drewN | apply below_drew1 | refine below_set ?_ GE241.out | refine below_set ?_ GE253.out | refine below_set ?_ GE265.out) | exact HB.out)) hb); clear BK241; clear BK253; clear BK265; clear HB; have BK241 := n0_; have BK253 := n1_; have BK265 := n2_; have HB := n3_; clear n0_ n1_ n2_ n3_; (try clear hb); (try clear hb2); (try clear hk); (try clear hi)) | ((with_reducible refine gate_dst (N := 11) rfl ?_); refine box_event ?hg (N := 11) ?hd (cs := #[.int .u64 0, .bool false, .int .u64 0, .bool false, .int .u64 0, .bool false, .int .u64 0, .bool false, .int .u64 0, .bool false]) (t := 26) ?hr ?_; (case hd => rfl); (case hg => rfl); (case hr => first | (go_simp; done) | (go_simp; rfl)); intro gb277 hg w26 hbox hb; have n0_ := Aside0.mk (blk_below (g := gb241) (o := .cells #[.int .u64 a0_0, .bool a0_1, .int .u64 a0_2, .bool a0_3, .int .u64 a0_4, .bool a0_5, .int .u64 a0_6, .bool a0_7, .int .u64 a0_8, .bool a0_9] 26 (0, 0)) (by (with_reducible repeat (first | refine blk_drewN ?_ _ | refine blk_drew ?_ | refine blk_alloc ?_ _)); exact BK241.out) hb); have n1_ := Aside0.mk (blk_below (g := gb253) (o := .cells #[.int .u64 t243, .bool t244, .int .u64 t245, .bool t246, .int .u64 t247, .bool t248, .int .u64 t249, .bool t250, .int .u64 t251, .bool t252] 26 (0, 0)) (by (with_reducible repeat (first | refine blk_drewN ?_ _ | refine blk_drew ?_ | refine blk_alloc ?_ _)); exact BK253.out) hb); have n2_ := Aside0.mk (blk_below (g := gb265) (o := .cells #[.int .u64 t254, .bool t255, .int .u64 t256, .bool t257, .int .u64 t258, .bool t259, .int .u64 t260, .bool t261, .int .u64 t262, .bool t263] 26 (0, 0)) (by (with_reducible repeat (first | refine blk_drewN ?_ _ | refine blk_drew ?_ | refine blk_alloc ?_ _)); exact BK265.out) hb); have n3_ := Aside0.mk (below_step (by repeat (first | (with_reducible first | exact HB.out | apply below_alloc | apply pw_below_drewN | apply below_drew1 | refine below_set ?_ GE241.out | refine below_set ?_ GE253.out | refine below_set ?_ GE265.out) | exact HB.out)) hb); have n4_ := Aside0.mk (hbox); have n5_ := Aside0.mk ((by rw [hg]; exact (below_size (by repeat (first | (with_reducible first | exact HB.out | apply below_alloc | apply pw_below_drewN | apply below_drew1 | refine below_set ?_ GE241.out | refine below_set ?_ GE253.out | refine below_set ?_ GE265.out) | exact HB.out))) : w.heap.size ≤ gb277)); have n6_ := Aside0.mk ((by rw [hg]; exact (below_size (by repeat (first | (with_reducible first | exact HB.out | apply below_alloc | apply pw_below_drewN | apply below_drew1 | refine below_set ?_ GE241.out | refine below_set ?_ GE253.out | refine below_set ?_ GE265.out) | exact HB.out))) : w.heap.size ≤ gb277)); have n7_ := Aside0.mk ((by rw [hg]; exact Nat.ne_of_lt (blk_lt (g := gb241) (o := .cells #[.int .u64 a0_0, .bool a0_1, .int .u64 a0_2, .bool a0_3, .int .u64 a0_4, .bool a0_5, .int .u64 a0_6, .bool a0_7, .int .u64 a0_8, .bool a0_9] 26 (0, 0)) (by (with_reducible repeat (first | refine blk_drewN ?_ _ | refine blk_drew ?_ | refine blk_alloc ?_ _)); exact BK241.out)) : gb241 ≠ gb277)); have n8_ := Aside0.mk ((by rw [hg]; exact Nat.ne_of_gt (blk_lt (g := gb241) (o := .cells #[.int .u64 a0_0, .bool a0_1, .int .u64 a0_2, .bool a0_3, .int .u64 a0_4, .bool a0_5, .int .u64 a0_6, .bool a0_7, .int .u64 a0_8, .bool a0_9] 26 (0, 0)) (by (with_reducible repeat (first | refine blk_drewN ?_ _ | refine blk_drew ?_ | refine blk_alloc ?_ _)); exact BK241.out)) : gb277 ≠ gb241)); have n9_ := Aside0.mk ((by rw [hg]; exact Nat.ne_of_lt (blk_lt (g := gb253) (o := .cells #[.int .u64 t243, .bool t244, .int .u64 t245, .bool t246, .int .u64 t247, .bool t248, .int .u64 t249, .bool t250, .int .u64 t251, .bool t252] 26 (0, 0)) (by (with_reducible repeat (first | refine blk_drewN ?_ _ | refine blk_drew ?_ | refine blk_alloc ?_ _)); exact BK253.out)) : gb253 ≠ gb277)); have n10_ := Aside0.mk ((by rw [hg]; exact Nat.ne_of_gt (blk_lt (g := gb253) (o := .cells #[.int .u64 t243, .bool t244, .int .u64 t245, .bool t246, .int .u64 t247, .bool t248, .int .u64 t249, .bool t250, .int .u64 t251, .bool t252] 26 (0, 0)) (by (with_reducible repeat (first | refine blk_drewN ?_ _ | refine blk_drew ?_ | refine blk_alloc ?_ _)); exact BK253.out)) : gb277 ≠ gb253)); have n11_ := Aside0.mk ((by rw [hg]; exact Nat.ne_of_lt (blk_lt (g := gb265) (o := .cells #[.int .u64 t254, .bool t255, .int .u64 t256, .bool t257, .int .u64 t258, .bool t259, .int .u64 t260, .bool t261, .int .u64 t262, .bool t263] 26 (0, 0)) (by (with_reducible repeat (first | refine blk_drewN ?_ _ | refine blk_drew ?_ | refine blk_alloc ?_ _)); exact BK265.out)) : gb265 ≠ gb277)); have n12_ := Aside0.mk ((by rw [hg]; exact Nat.ne_of_gt (blk_lt (g := gb265) (o := .cells #[.int .u64 t254, .bool t255, .int .u64 t256, .bool t257, .int .u64 t258, .bool t259, .int .u64 t260, .bool t261, .int .u64 t262, .bool t263] 26 (0, 0)) (by (with_reducible repeat (first | refine blk_drewN ?_ _ | refine blk_drew ?_ | refine blk_alloc ?_ _)); exact BK265.out)) : gb277 ≠ gb265)); clear BK241; clear BK253; clear BK265; clear HB; have BK241 := n0_; have BK253 := n1_; have BK265 := n2_; have HB := n3_; have BK277 := n4_; have GW277 := n5_; have GE277 := n6_; have NB241_277 := n7_; have NB277_241 := n8_; have NB253_277 := n9_; have NB277_253 := n10_; have NB265_277 := n11_; have NB277_265 := n12_; clear n0_ n1_ n2_ n3_ n4_ n5_ n6_ n7_ n8_ n9_ n10_ n11_ n12_; clear hb hbox hg; have hnb27 := NB277_241.out; have hnc27 := NB241_277.out; have hnb28 := NB277_253.out; have hnc28 := NB253_277.out; have hnb29 := NB277_265.out; have hnc29 := NB265_277.out; have hcz30_0 : w26.cell? ⟨gb277, 0, none⟩ = some (.int .u64 0) := (blk_cell BK277.out 0).trans rfl; have hcz30_1 : w26.cell? ⟨gb277, 1, none⟩ = some (.bool false) := (blk_cell BK277.out 1).trans rfl; have hcz30_2 : w26.cell? ⟨gb277, 2, none⟩ = some (.int .u64 0) := (blk_cell BK277.out 2).trans rfl; have hcz30_3 : w26.cell? ⟨gb277, 3, none⟩ = some (.bool false) := (blk_cell BK277.out 3).trans rfl; have hcz30_4 : w26.cell? ⟨gb277, 4, none⟩ = some (.int .u64 0) := (blk_cell BK277.out 4).trans rfl; have hcz30_5 : w26.cell? ⟨gb277, 5, none⟩ = some (.bool false) := (blk_cell BK277.out 5).trans rfl; have hcz30_6 : w26.cell? ⟨gb277, 6, none⟩ = some (.int .u64 0) := (blk_cell BK277.out 6).trans rfl; have hcz30_7 : w26.cell? ⟨gb277, 7, none⟩ = some (.bool false) := (blk_cell BK277.out 7).trans rfl; have hcz30_8 : w26.cell? ⟨gb277, 8, none⟩ = some (.int .u64 0) := (blk_cell BK277.out 8).trans rfl; have hcz30_9 : w26.cell? ⟨gb277, 9, none⟩ = some (.bool false) := (blk_cell BK277.out 9).trans rfl; have hfz30_0 := blk_frozen BK277.out 0; have hfz30_1 := blk_frozen BK277.out 1; have hfz30_2 := blk_frozen BK277.out 2; have hfz30_3 := blk_frozen BK277.out 3; have hfz30_4 := blk_frozen BK277.out 4; have hfz30_5 := blk_frozen BK277.out 5; have hfz30_6 := blk_frozen BK277.out 6; have hfz30_7 := blk_frozen BK277.out 7; have hfz30_8 := blk_frozen BK277.out 8; have hfz30_9 := blk_frozen BK277.out 9; have hcz31_0 : w26.cell? ⟨gb241, 0, none⟩ = some (.int .u64 a0_0) := (blk_cell BK241.out 0).trans rfl; have hcz31_1 : w26.cell? ⟨gb241, 1, none⟩ = some (.bool a0_1) := (blk_cell BK241.out 1).trans rfl; have hcz31_2 : w26.cell? ⟨gb241, 2, none⟩ = some (.int .u64 a0_2) := (blk_cell BK241.out 2).trans rfl; have hcz31_3 : w26.cell? ⟨gb241, 3, none⟩ = some (.bool a0_3) := (blk_cell BK241.out 3).trans rfl; have hcz31_4 : w26.cell? ⟨gb241, 4, none⟩ = some (.int .u64 a0_4) := (blk_cell BK241.out 4).trans rfl; have hcz31_5 : w26.cell? ⟨gb241, 5, none⟩ = some (.bool a0_5) := (blk_cell BK241.out 5).trans rfl; have hcz31_6 : w26.cell? ⟨gb241, 6, none⟩ = some (.int .u64 a0_6) := (blk_cell BK241.out 6).trans rfl; have hcz31_7 : w26.cell? ⟨gb241, 7, none⟩ = some (.bool a0_7) := (blk_cell BK241.out 7).trans rfl; have hcz31_8 : w26.cell? ⟨gb241, 8, none⟩ = some (.int .u64 a0_8) := (blk_cell BK241.out 8).trans rfl; have hcz31_9 : w26.cell? ⟨gb241, 9, none⟩ = some (.bool a0_9) := (blk_cell BK241.out 9).trans rfl; have hfz31_0 := blk_frozen BK241.out 0; have hfz31_1 := blk_frozen BK241.out 1; have hfz31_2 := blk_frozen BK241.out 2; have hfz31_3 := blk_frozen BK241.out 3; have hfz31_4 := blk_frozen BK241.out 4; have hfz31_5 := blk_frozen BK241.out 5; have hfz31_6 := blk_frozen BK241.out 6; have hfz31_7 := blk_frozen BK241.out 7; have hfz31_8 := blk_frozen BK241.out 8; have hfz31_9 := blk_frozen BK241.out 9) | ((with_reducible refine gate_callee (f := 10) rfl ?_); refine goesL_ (some 41) rfl rfl Tryz.func10 (by kernel_rfl) rfl #[.agg #[.int .u64 a0_0, .bool a0_1, .int .u64 a0_2, .bool a0_3, .int .u64 a0_4, .bool a0_5, .int .u64 a0_6, .bool a0_7, .int .u64 a0_8, .bool a0_9], .int .i64 a1, .int .i64 a2] rfl (by (try simp only [List.map_toArray, List.map_cons, List.map_nil]); first | done | rfl | (simp only [List.length_drop, List.length_take]; rfl)) ?_; (with_reducible refine (day_Mask.calls a0_0 a0_1 a0_2 a0_3 a0_4 a0_5 a0_6 a0_7 a0_8 a0_9 a1 a2 t278 t279 _ A9.out).mono ?_); rintro e w32 ⟨rfl, hb⟩; refine ⟨_, rfl, ?_⟩; have n0_ := Aside0.mk (blk_below (g := gb241) (o := .cells #[.int .u64 a0_0, .bool a0_1, .int .u64 a0_2, .bool a0_3, .int .u64 a0_4, .bool a0_5, .int .u64 a0_6, .bool a0_7, .int .u64 a0_8, .bool a0_9] 26 (0, 0)) (by (with_reducible repeat (first | refine blk_drewN ?_ _ | refine blk_drew ?_ | refine blk_alloc ?_ _)); refine blk_far ?_ NB241_277.out _; (with_reducible repeat (first | refine blk_drewN ?_ _ | refine blk_drew ?_ | refine blk_alloc ?_ _)); refine blk_far ?_ NB241_277.out _; (with_reducible repeat (first | refine blk_drewN ?_ _ | refine blk_drew ?_ | refine blk_alloc ?_ _)); refine blk_far ?_ NB241_277.out _; (with_reducible repeat (first | refine blk_drewN ?_ _ | refine blk_drew ?_ | refine blk_alloc ?_ _)); refine blk_far ?_ NB241_277.out _; (with_reducible repeat (first | refine blk_drewN ?_ _ | refine blk_drew ?_ | refine blk_alloc ?_ _)); refine blk_far ?_ NB241_277.out _; (with_reducible repeat (first | refine blk_drewN ?_ _ | refine blk_drew ?_ | refine blk_alloc ?_ _)); refine blk_far ?_ NB241_277.out _; (with_reducible repeat (first | refine blk_drewN ?_ _ | refine blk_drew ?_ | refine blk_alloc ?_ _)); refine blk_far ?_ NB241_277.out _; (with_reducible repeat (first | refine blk_drewN ?_ _ | refine blk_drew ?_ | refine blk_alloc ?_ _)); refine blk_far ?_ NB241_277.out _; (with_reducible repeat (first | refine blk_drewN ?_ _ | refine blk_drew ?_ | refine blk_alloc ?_ _)); refine blk_far ?_ NB241_277.out _; (with_reducible repeat (first | refine blk_drewN ?_ _ | refine blk_drew ?_ | refine blk_alloc ?_ _)); refine blk_far ?_ NB241_277.out _; (with_reducible repeat (first | refine blk_drewN ?_ _ | refine blk_drew ?_ | refine blk_alloc ?_ _)); exact BK241.out) hb); have n1_ := Aside0.mk (blk_below (g := gb253) (o := .cells #[.int .u64 t243, .bool t244, .int .u64 t245, .bool t246, .int .u64 t247, .bool t248, .int .u64 t249, .bool t250, .int .u64 t251, .bool t252] 26 (0, 0)) (by (with_reducible repeat (first | refine blk_drewN ?_ _ | refine blk_drew ?_ | refine blk_alloc ?_ _)); refine blk_far ?_ NB253_277.out _; (with_reducible repeat (first | refine blk_drewN ?_ _ | refine blk_drew ?_ | refine blk_alloc ?_ _)); refine blk_far ?_ NB253_277.out _; (with_reducible repeat (first | refine blk_drewN ?_ _ | refine blk_drew ?_ | refine blk_alloc ?_ _)); refine blk_far ?_ NB253_277.out _; (with_reducible repeat (first | refine blk_drewN ?_ _ | refine blk_drew ?_ | refine blk_alloc ?_ _)); refine blk_far ?_ NB253_277.out _; (with_reducible repeat (first | refine blk_drewN ?_ _ | refine blk_drew ?_ | refine blk_alloc ?_ _)); refine blk_far ?_ NB253_277.out _; (with_reducible repeat (first | refine blk_drewN ?_ _ | refine blk_drew ?_ | refine blk_alloc ?_ _)); refine blk_far ?_ NB253_277.out _; (with_reducible repeat (first | refine blk_drewN ?_ _ | refine blk_drew ?_ | refine blk_alloc ?_ _)); refine blk_far ?_ NB253_277.out _; (with_reducible repeat (first | refine blk_drewN ?_ _ | refine blk_drew ?_ | refine blk_alloc ?_ _)); refine blk_far ?_ NB253_277.out _; (with_reducible repeat (first | refine blk_drewN ?_ _ | refine blk_drew ?_ | refine blk_alloc ?_ _)); refine blk_far ?_ NB253_277.out _; (with_reducible repeat (first | refine blk_drewN ?_ _ | refine blk_drew ?_ | refine blk_alloc ?_ _)); refine blk_far ?_ NB253_277.out _; (with_reducible repeat (first | refine blk_drewN ?_ _ | refine blk_drew ?_ | refine blk_alloc ?_ _)); exact BK253.out) hb); have n2_ := Aside0.mk (blk_below (g := gb265) (o := .cells #[.int .u64 t254, .bool t255, .int .u64 t256, .bool t257, .int .u64 t258, .bool t259, .int .u64 t260, .bool t261, .int .u64 t262, .bool t263] 26 (0, 0)) (by (with_reducible repeat (first | refine blk_drewN ?_ _ | refine blk_drew ?_ | refine blk_alloc ?_ _)); refine blk_far ?_ NB265_277.out _; (with_reducible repeat (first | refine blk_drewN ?_ _ | refine blk_drew ?_ | refine blk_alloc ?_ _)); refine blk_far ?_ NB265_277.out _; (with_reducible repeat (first | refine blk_drewN ?_ _ | refine blk_drew ?_ | refine blk_alloc ?_ _)); refine blk_far ?_ NB265_277.out _; (with_reducible repeat (first | refine blk_drewN ?_ _ | refine blk_drew ?_ | refine blk_alloc ?_ _)); refine blk_far ?_ NB265_277.out _; (with_reducible repeat (first | refine blk_drewN ?_ _ | refine blk_drew ?_ | refine blk_alloc ?_ _)); refine blk_far ?_ NB265_277.out _; (with_reducible repeat (first | refine blk_drewN ?_ _ | refine blk_drew ?_ | refine blk_alloc ?_ _)); refine blk_far ?_ NB265_277.out _; (with_reducible repeat (first | refine blk_drewN ?_ _ | refine blk_drew ?_ | refine blk_alloc ?_ _)); refine blk_far ?_ NB265_277.out _; (with_reducible repeat (first | refine blk_drewN ?_ _ | refine blk_drew ?_ | refine blk_alloc ?_ _)); refine blk_far ?_ NB265_277.out _; (with_reducible repeat (first | refine blk_drewN ?_ _ | refine blk_drew ?_ | refine blk_alloc ?_ _)); refine blk_far ?_ NB265_277.out _; (with_reducible repeat (first | refine blk_drewN ?_ _ | refine blk_drew ?_ | refine blk_alloc ?_ _)); refine blk_far ?_ NB265_277.out _; (with_reducible repeat (first | refine blk_drewN ?_ _ | refine blk_drew ?_ | refine blk_alloc ?_ _)); exact BK265.out) hb); have n3_ := Aside0.mk (blk_below (g := gb277) (o := .cells #[.int .u64 t266, .bool t267, .int .u64 t268, .bool t269, .int .u64 t270, .bool t271, .int .u64 t272, .bool t273, .int .u64 t274, .bool t275] 26 (0, 0)) (by (with_reducible repeat (first | refine blk_drewN ?_ _ | refine blk_drew ?_ | refine blk_alloc ?_ _)); refine blk_put (cs := #[.int .u64 t266, .bool t267, .int .u64 t268, .bool t269, .int .u64 t270, .bool t271, .int .u64 t272, .bool t273, .int .u64 t274, .bool false]) ?_ 9 _ rfl; (with_reducible repeat (first | refine blk_drewN ?_ _ | refine blk_drew ?_ | refine blk_alloc ?_ _)); refine blk_put (cs := #[.int .u64 t266, .bool t267, .int .u64 t268, .bool t269, .int .u64 t270, .bool t271, .int .u64 t272, .bool t273, .int .u64 0, .bool false]) ?_ 8 _ rfl; (with_reducible repeat (first | refine blk_drewN ?_ _ | refine blk_drew ?_ | refine blk_alloc ?_ _)); refine blk_put (cs := #[.int .u64 t266, .bool t267, .int .u64 t268, .bool t269, .int .u64 t270, .bool t271, .int .u64 t272, .bool false, .int .u64 0, .bool false]) ?_ 7 _ rfl; (with_reducible repeat (first | refine blk_drewN ?_ _ | refine blk_drew ?_ | refine blk_alloc ?_ _)); refine blk_put (cs := #[.int .u64 t266, .bool t267, .int .u64 t268, .bool t269, .int .u64 t270, .bool t271, .int .u64 0, .bool false, .int .u64 0, .bool false]) ?_ 6 _ rfl; (with_reducible repeat (first | refine blk_drewN ?_ _ | refine blk_drew ?_ | refine blk_alloc ?_ _)); refine blk_put (cs := #[.int .u64 t266, .bool t267, .int .u64 t268, .bool t269, .int .u64 t270, .bool false, .int .u64 0, .bool false, .int .u64 0, .bool false]) ?_ 5 _ rfl; (with_reducible repeat (first | refine blk_drewN ?_ _ | refine blk_drew ?_ | refine blk_alloc ?_ _)); refine blk_put (cs := #[.int .u64 t266, .bool t267, .int .u64 t268, .bool t269, .int .u64 0, .bool false, .int .u64 0, .bool false, .int .u64 0, .bool false]) ?_ 4 _ rfl; (with_reducible repeat (first | refine blk_drewN ?_ _ | refine blk_drew ?_ | refine blk_alloc ?_ _)); refine blk_put (cs := #[.int .u64 t266, .bool t267, .int .u64 t268, .bool false, .int .u64 0, .bool false, .int .u64 0, .bool false, .int .u64 0, .bool false]) ?_ 3 _ rfl; (with_reducible repeat (first | refine blk_drewN ?_ _ | refine blk_drew ?_ | refine blk_alloc ?_ _)); refine blk_put (cs := #[.int .u64 t266, .bool t267, .int .u64 0, .bool false, .int .u64 0, .bool false, .int .u64 0, .bool false, .int .u64 0, .bool false]) ?_ 2 _ rfl; (with_reducible repeat (first | refine blk_drewN ?_ _ | refine blk_drew ?_ | refine blk_alloc ?_ _)); refine blk_put (cs := #[.int .u64 t266, .bool false, .int .u64 0, .bool false, .int .u64 0, .bool false, .int .u64 0, .bool false, .int .u64 0, .bool false]) ?_ 1 _ rfl; (with_reducible repeat (first | refine blk_drewN ?_ _ | refine blk_drew ?_ | refine blk_alloc ?_ _)); refine blk_put (cs := #[.int .u64 0, .bool false, .int .u64 0, .bool false, .int .u64 0, .bool false, .int .u64 0, .bool false, .int .u64 0, .bool false]) ?_ 0 _ rfl; (with_reducible repeat (first | refine blk_drewN ?_ _ | refine blk_drew ?_ | refine blk_alloc ?_ _)); exact BK277.out) hb); have n4_ := Aside0.mk (below_step (by repeat (first | (with_reducible first | exact HB.out | apply below_alloc | apply pw_below_drewN | apply below_drew1 | refine below_set ?_ GE241.out | refine below_set ?_ GE253.out | refine below_set ?_ GE265.out | refine below_set ?_ GE277.out) | exact HB.out)) hb); clear BK241; clear BK253; clear BK265; clear BK277; clear HB; have BK241 := n0_; have BK253 := n1_; have BK265 := n2_; have BK277 := n3_; have HB := n4_; clear n0_ n1_ n2_ n3_ n4_; (try clear hb); (try clear hb2); (try clear hk); (try clear hi)))
  (try simp only [Act.put, List.setIfInBounds_toArray, List.set_cons_zero, List.set_cons_succ])
  go_cut [49] (fun v49 wc => ∃ (kq : Nat) (x49_9 : Bool), v49 = .bool x49_9 ∧ Aside0 (complinelaw21_DayEither.j0 kq a1 a2 true t278 t279 x49_9 a0_0 a0_1 a0_2 a0_3 a0_4 a0_5 a0_6 a0_7 a0_8 a0_9 t254 t255 t256 t257 t258 t259 t260 t261 t262 t263 t266 t267 t268 t269 t270 t271 t272 t273 t274 t275 = some r) ∧ Aside0 (kq ≤ k) ∧ Aside0 (wc.heap[gb241]? = some (.cells #[.int .u64 a0_0, .bool a0_1, .int .u64 a0_2, .bool a0_3, .int .u64 a0_4, .bool a0_5, .int .u64 a0_6, .bool a0_7, .int .u64 a0_8, .bool a0_9] 26 (0, 0))) ∧ Aside0 (wc.heap[gb253]? = some (.cells #[.int .u64 t243, .bool t244, .int .u64 t245, .bool t246, .int .u64 t247, .bool t248, .int .u64 t249, .bool t250, .int .u64 t251, .bool t252] 26 (0, 0))) ∧ Aside0 (wc.heap[gb265]? = some (.cells #[.int .u64 t254, .bool t255, .int .u64 t256, .bool t257, .int .u64 t258, .bool t259, .int .u64 t260, .bool t261, .int .u64 t262, .bool t263] 26 (0, 0))) ∧ Aside0 (wc.heap[gb277]? = some (.cells #[.int .u64 t266, .bool t267, .int .u64 t268, .bool t269, .int .u64 t270, .bool t271, .int .u64 t272, .bool t273, .int .u64 t274, .bool t275] 26 (0, 0))) ∧ Aside0 (Below w.heap.size w wc))
  case first =>
   have H := HC10.out
   clear HC10
   by_cases c33 : t264 = 0
   ·rw [if_pos c33] at H
    have c33b0 : (t264 == 0) = true := beq_iff_eq.mpr c33
    have c33b1 : (t264 != 0) = false := bne_eq_false_iff_eq.mpr c33
    clear c33
    (first | rw [c33b0] | (simp only [i64_w, i32_w]; rw [c33b0]) | skip)
    have H' := Aside0.mk H
    clear H
    go_wp2
    go_meet
    case rel => exact ⟨_, ((t276 != 0)), (by first | rfl | (simp; done) | (simp [*]; done)), H', ⟨by first | omega | exact Nat.le_refl _⟩, ⟨by (with_reducible repeat (first | refine blk_drewN ?_ _ | refine blk_drew ?_ | refine blk_alloc ?_ _)); exact BK241.out⟩, ⟨by (with_reducible repeat (first | refine blk_drewN ?_ _ | refine blk_drew ?_ | refine blk_alloc ?_ _)); exact BK253.out⟩, ⟨by (with_reducible repeat (first | refine blk_drewN ?_ _ | refine blk_drew ?_ | refine blk_alloc ?_ _)); exact BK265.out⟩, ⟨by (with_reducible repeat (first | refine blk_drewN ?_ _ | refine blk_drew ?_ | refine blk_alloc ?_ _)); exact BK277.out⟩, ⟨by repeat (first | (with_reducible first | exact HB.out | apply below_alloc | apply pw_below_drewN | apply below_drew1 | refine below_set ?_ GE241.out | refine below_set ?_ GE253.out | refine below_set ?_ GE265.out | refine below_set ?_ GE277.out) | exact HB.out)⟩⟩
   ·rw [if_neg c33] at H
    have c33b0 : (t264 == 0) = false := beq_eq_false_iff_ne.mpr c33
    have c33b1 : (t264 != 0) = true := bne_iff_ne.mpr c33
    (first | rw [c33b0] | (simp only [i64_w, i32_w]; rw [c33b0]) | skip)
    have H' := Aside0.mk H
    clear H
    go_wp2
    go_meet
    case rel => exact ⟨_, (true), (by first | rfl | (simp; done) | (simp [*]; done)), H', ⟨by first | omega | exact Nat.le_refl _⟩, ⟨by (with_reducible repeat (first | refine blk_drewN ?_ _ | refine blk_drew ?_ | refine blk_alloc ?_ _)); exact BK241.out⟩, ⟨by (with_reducible repeat (first | refine blk_drewN ?_ _ | refine blk_drew ?_ | refine blk_alloc ?_ _)); exact BK253.out⟩, ⟨by (with_reducible repeat (first | refine blk_drewN ?_ _ | refine blk_drew ?_ | refine blk_alloc ?_ _)); exact BK265.out⟩, ⟨by (with_reducible repeat (first | refine blk_drewN ?_ _ | refine blk_drew ?_ | refine blk_alloc ?_ _)); exact BK277.out⟩, ⟨by repeat (first | (with_reducible first | exact HB.out | apply below_alloc | apply pw_below_drewN | apply below_drew1 | refine below_set ?_ GE241.out | refine below_set ?_ GE253.out | refine below_set ?_ GE265.out | refine below_set ?_ GE277.out) | exact HB.out)⟩⟩
  case rest =>
   clear HC10
   try clear c1
   try clear c2
   try clear p2
   try clear c3
   try clear c5
   try clear c8
   try clear c9
   try clear c10
   try clear c15
   try clear c19
   try clear c20
   try clear c21
   try clear c27
   try clear c28
   try clear c29
   try clear c33
   try clear c33b0
   try clear c33b1
   try clear hcz16_0
   try clear hcz16_1
   try clear hcz16_2
   try clear hcz16_3
   try clear hcz16_4
   try clear hcz16_5
   try clear hcz16_6
   try clear hcz16_7
   try clear hcz16_8
   try clear hcz16_9
   try clear hcz17_0
   try clear hcz17_1
   try clear hcz17_2
   try clear hcz17_3
   try clear hcz17_4
   try clear hcz17_5
   try clear hcz17_6
   try clear hcz17_7
   try clear hcz17_8
   try clear hcz17_9
   try clear hcz22_0
   try clear hcz22_1
   try clear hcz22_2
   try clear hcz22_3
   try clear hcz22_4
   try clear hcz22_5
   try clear hcz22_6
   try clear hcz22_7
   try clear hcz22_8
   try clear hcz22_9
   try clear hcz23_0
   try clear hcz23_1
   try clear hcz23_2
   try clear hcz23_3
   try clear hcz23_4
   try clear hcz23_5
   try clear hcz23_6
   try clear hcz23_7
   try clear hcz23_8
   try clear hcz23_9
   try clear hcz24_0
   try clear hcz24_1
   try clear hcz24_2
   try clear hcz24_3
   try clear hcz24_4
   try clear hcz24_5
   try clear hcz24_6
   try clear hcz24_7
   try clear hcz24_8
   try clear hcz24_9
   try clear hcz30_0
   try clear hcz30_1
   try clear hcz30_2
   try clear hcz30_3
   try clear hcz30_4
   try clear hcz30_5
   try clear hcz30_6
   try clear hcz30_7
   try clear hcz30_8
   try clear hcz30_9
   try clear hcz31_0
   try clear hcz31_1
   try clear hcz31_2
   try clear hcz31_3
   try clear hcz31_4
   try clear hcz31_5
   try clear hcz31_6
   try clear hcz31_7
   try clear hcz31_8
   try clear hcz31_9
   try clear hfz16_0
   try clear hfz16_1
   try clear hfz16_2
   try clear hfz16_3
   try clear hfz16_4
   try clear hfz16_5
   try clear hfz16_6
   try clear hfz16_7
   try clear hfz16_8
   try clear hfz16_9
   try clear hfz17_0
   try clear hfz17_1
   try clear hfz17_2
   try clear hfz17_3
   try clear hfz17_4
   try clear hfz17_5
   try clear hfz17_6
   try clear hfz17_7
   try clear hfz17_8
   try clear hfz17_9
   try clear hfz22_0
   try clear hfz22_1
   try clear hfz22_2
   try clear hfz22_3
   try clear hfz22_4
   try clear hfz22_5
   try clear hfz22_6
   try clear hfz22_7
   try clear hfz22_8
   try clear hfz22_9
   try clear hfz23_0
   try clear hfz23_1
   try clear hfz23_2
   try clear hfz23_3
   try clear hfz23_4
   try clear hfz23_5
   try clear hfz23_6
   try clear hfz23_7
   try clear hfz23_8
   try clear hfz23_9
   try clear hfz24_0
   try clear hfz24_1
   try clear hfz24_2
   try clear hfz24_3
   try clear hfz24_4
   try clear hfz24_5
   try clear hfz24_6
   try clear hfz24_7
   try clear hfz24_8
   try clear hfz24_9
   try clear hfz30_0
   try clear hfz30_1
   try clear hfz30_2
   try clear hfz30_3
   try clear hfz30_4
   try clear hfz30_5
   try clear hfz30_6
   try clear hfz30_7
   try clear hfz30_8
   try clear hfz30_9
   try clear hfz31_0
   try clear hfz31_1
   try clear hfz31_2
   try clear hfz31_3
   try clear hfz31_4
   try clear hfz31_5
   try clear hfz31_6
   try clear hfz31_7
   try clear hfz31_8
   try clear hfz31_9
   obtain ⟨kq, x49_9, rfl, HA, HJ9, BK241, BK253, BK265, BK277, HB⟩ := hcut
   cases kq with
   | zero => exact absurd HA.out (by simp [complinelaw21_DayEither.j0])
   | succ kj9 =>
    have H := HA.out
    clear HA
    simp only [complinelaw21_DayEither.j0] at H
    by_cases c34 : x49_9 = true
    ·subst c34
     have H1 : (some false) = some r := by rw [if_pos rfl] at H; exact H
     clear H
     have H := H1
     clear H1
     obtain rfl := Option.some.inj H
     go_wp2
     go_ret
     exact ⟨by first | rfl | (simp [errW_none, errW_some] <;> rfl) | (simp [*, errW_none, errW_some] <;> rfl), by repeat (first | (with_reducible first | exact HB.out | apply below_alloc | apply pw_below_drewN | apply below_drew1 | refine below_set ?_ GE241.out | refine below_set ?_ GE253.out | refine below_set ?_ GE265.out | refine below_set ?_ GE277.out) | exact HB.out)⟩
    ·replace c34 := Bool.eq_false_iff.mpr c34
     subst c34
     have H1 : (if t279 = 0 then ((day_Mask.f t254 t255 t256 t257 t258 t259 t260 t261 t262 t263 a1 a2).bind fun bt280 => ((day_Mask.f t266 t267 t268 t269 t270 t271 t272 t273 t274 t275 a1 a2).bind fun bt282 => (if bt280.2 = 0 then (complinelaw21_DayEither.j1 kj9 true t278 bt280.1 bt282.1 (bt282.2 != 0) a0_0 a0_1 a0_2 a0_3 a0_4 a0_5 a0_6 a0_7 a0_8 a0_9) else (complinelaw21_DayEither.j1 kj9 true t278 bt280.1 bt282.1 true a0_0 a0_1 a0_2 a0_3 a0_4 a0_5 a0_6 a0_7 a0_8 a0_9)))) else (if true = true then (some (t278 == 0)) else (some false))) = some r := by rw [if_neg (show ¬ (false = true) by decide)] at H; exact H
     clear H
     have H := H1
     clear H1
     by_cases c35 : t279 = 0
     ·rw [if_pos c35] at H
      have c35b0 : (t279 == 0) = true := beq_iff_eq.mpr c35
      have c35b1 : (t279 != 0) = false := bne_eq_false_iff_eq.mpr c35
      clear c35
      replace H := Option.bind_eq_some_iff.mp H
      obtain ⟨⟨t280, t281⟩, A360, H⟩ := H
      replace H : ((day_Mask.f t266 t267 t268 t269 t270 t271 t272 t273 t274 t275 a1 a2).bind fun bt282 => (if t281 = 0 then (complinelaw21_DayEither.j1 kj9 true t278 t280 bt282.1 (bt282.2 != 0) a0_0 a0_1 a0_2 a0_3 a0_4 a0_5 a0_6 a0_7 a0_8 a0_9) else (complinelaw21_DayEither.j1 kj9 true t278 t280 bt282.1 true a0_0 a0_1 a0_2 a0_3 a0_4 a0_5 a0_6 a0_7 a0_8 a0_9))) = some r := H
      have A36 := Aside0.mk A360
      clear A360
      replace H := Option.bind_eq_some_iff.mp H
      obtain ⟨⟨t282, t283⟩, A370, H⟩ := H
      replace H : (if t281 = 0 then (complinelaw21_DayEither.j1 kj9 true t278 t280 t282 (t283 != 0) a0_0 a0_1 a0_2 a0_3 a0_4 a0_5 a0_6 a0_7 a0_8 a0_9) else (complinelaw21_DayEither.j1 kj9 true t278 t280 t282 true a0_0 a0_1 a0_2 a0_3 a0_4 a0_5 a0_6 a0_7 a0_8 a0_9)) = some r := H
      have A37 := Aside0.mk A370
      clear A370
      have HC38 := Aside0.mk H
      clear H
      have hnb39 := NB265_241.out
      have hnc39 := NB241_265.out
      have hnb40 := NB265_253.out
      have hnc40 := NB253_265.out
      have hnb41 := NB265_277.out
      have hnc41 := NB277_265.out
      have hcz42_0 : wc.cell? ⟨gb265, 0, none⟩ = some (.int .u64 t254) := (blk_cell BK265.out 0).trans rfl
      have hcz42_1 : wc.cell? ⟨gb265, 1, none⟩ = some (.bool t255) := (blk_cell BK265.out 1).trans rfl
      have hcz42_2 : wc.cell? ⟨gb265, 2, none⟩ = some (.int .u64 t256) := (blk_cell BK265.out 2).trans rfl
      have hcz42_3 : wc.cell? ⟨gb265, 3, none⟩ = some (.bool t257) := (blk_cell BK265.out 3).trans rfl
      have hcz42_4 : wc.cell? ⟨gb265, 4, none⟩ = some (.int .u64 t258) := (blk_cell BK265.out 4).trans rfl
      have hcz42_5 : wc.cell? ⟨gb265, 5, none⟩ = some (.bool t259) := (blk_cell BK265.out 5).trans rfl
      have hcz42_6 : wc.cell? ⟨gb265, 6, none⟩ = some (.int .u64 t260) := (blk_cell BK265.out 6).trans rfl
      have hcz42_7 : wc.cell? ⟨gb265, 7, none⟩ = some (.bool t261) := (blk_cell BK265.out 7).trans rfl
      have hcz42_8 : wc.cell? ⟨gb265, 8, none⟩ = some (.int .u64 t262) := (blk_cell BK265.out 8).trans rfl
      have hcz42_9 : wc.cell? ⟨gb265, 9, none⟩ = some (.bool t263) := (blk_cell BK265.out 9).trans rfl
      have hfz42_0 := blk_frozen BK265.out 0
      have hfz42_1 := blk_frozen BK265.out 1
      have hfz42_2 := blk_frozen BK265.out 2
      have hfz42_3 := blk_frozen BK265.out 3
      have hfz42_4 := blk_frozen BK265.out 4
      have hfz42_5 := blk_frozen BK265.out 5
      have hfz42_6 := blk_frozen BK265.out 6
      have hfz42_7 := blk_frozen BK265.out 7
      have hfz42_8 := blk_frozen BK265.out 8
      have hfz42_9 := blk_frozen BK265.out 9
      go_upto_region 14 with (first | ((with_reducible refine gate_callee (f := 10) rfl ?_); refine goesL_ (some 61) rfl rfl Tryz.func10 (by kernel_rfl) rfl #[.agg #[.int .u64 t254, .bool t255, .int .u64 t256, .bool t257, .int .u64 t258, .bool t259, .int .u64 t260, .bool t261, .int .u64 t262, .bool t263], .int .i64 a1, .int .i64 a2] rfl (by (try simp only [List.map_toArray, List.map_cons, List.map_nil]); first | done | rfl | (simp only [List.length_drop, List.length_take]; rfl)) ?_; (with_reducible refine (day_Mask.calls t254 t255 t256 t257 t258 t259 t260 t261 t262 t263 a1 a2 t280 t281 _ A36.out).mono ?_); rintro e w43 ⟨rfl, hb⟩; refine ⟨_, rfl, ?_⟩; have n0_ := Aside0.mk (blk_below (g := gb241) (o := .cells #[.int .u64 a0_0, .bool a0_1, .int .u64 a0_2, .bool a0_3, .int .u64 a0_4, .bool a0_5, .int .u64 a0_6, .bool a0_7, .int .u64 a0_8, .bool a0_9] 26 (0, 0)) (by (with_reducible repeat (first | refine blk_drewN ?_ _ | refine blk_drew ?_ | refine blk_alloc ?_ _)); exact BK241.out) hb); have n1_ := Aside0.mk (blk_below (g := gb253) (o := .cells #[.int .u64 t243, .bool t244, .int .u64 t245, .bool t246, .int .u64 t247, .bool t248, .int .u64 t249, .bool t250, .int .u64 t251, .bool t252] 26 (0, 0)) (by (with_reducible repeat (first | refine blk_drewN ?_ _ | refine blk_drew ?_ | refine blk_alloc ?_ _)); exact BK253.out) hb); have n2_ := Aside0.mk (blk_below (g := gb265) (o := .cells #[.int .u64 t254, .bool t255, .int .u64 t256, .bool t257, .int .u64 t258, .bool t259, .int .u64 t260, .bool t261, .int .u64 t262, .bool t263] 26 (0, 0)) (by (with_reducible repeat (first | refine blk_drewN ?_ _ | refine blk_drew ?_ | refine blk_alloc ?_ _)); exact BK265.out) hb); have n3_ := Aside0.mk (blk_below (g := gb277) (o := .cells #[.int .u64 t266, .bool t267, .int .u64 t268, .bool t269, .int .u64 t270, .bool t271, .int .u64 t272, .bool t273, .int .u64 t274, .bool t275] 26 (0, 0)) (by (with_reducible repeat (first | refine blk_drewN ?_ _ | refine blk_drew ?_ | refine blk_alloc ?_ _)); exact BK277.out) hb); have n4_ := Aside0.mk (below_step (by repeat (first | (with_reducible first | exact HB.out | apply below_alloc | apply pw_below_drewN | apply below_drew1 | refine below_set ?_ GE241.out | refine below_set ?_ GE253.out | refine below_set ?_ GE265.out | refine below_set ?_ GE277.out) | exact HB.out)) hb); clear BK241; clear BK253; clear BK265; clear BK277; clear HB; have BK241 := n0_; have BK253 := n1_; have BK265 := n2_; have BK277 := n3_; have HB := n4_; clear n0_ n1_ n2_ n3_ n4_; (try clear hb); (try clear hb2); (try clear hk); (try clear hi); have hnb44 := NB277_241.out; have hnc44 := NB241_277.out; have hnb45 := NB277_253.out; have hnc45 := NB253_277.out; have hcz46_0 : w43.cell? ⟨gb277, 0, none⟩ = some (.int .u64 t266) := (blk_cell BK277.out 0).trans rfl; have hcz46_1 : w43.cell? ⟨gb277, 1, none⟩ = some (.bool t267) := (blk_cell BK277.out 1).trans rfl; have hcz46_2 : w43.cell? ⟨gb277, 2, none⟩ = some (.int .u64 t268) := (blk_cell BK277.out 2).trans rfl; have hcz46_3 : w43.cell? ⟨gb277, 3, none⟩ = some (.bool t269) := (blk_cell BK277.out 3).trans rfl; have hcz46_4 : w43.cell? ⟨gb277, 4, none⟩ = some (.int .u64 t270) := (blk_cell BK277.out 4).trans rfl; have hcz46_5 : w43.cell? ⟨gb277, 5, none⟩ = some (.bool t271) := (blk_cell BK277.out 5).trans rfl; have hcz46_6 : w43.cell? ⟨gb277, 6, none⟩ = some (.int .u64 t272) := (blk_cell BK277.out 6).trans rfl; have hcz46_7 : w43.cell? ⟨gb277, 7, none⟩ = some (.bool t273) := (blk_cell BK277.out 7).trans rfl; have hcz46_8 : w43.cell? ⟨gb277, 8, none⟩ = some (.int .u64 t274) := (blk_cell BK277.out 8).trans rfl; have hcz46_9 : w43.cell? ⟨gb277, 9, none⟩ = some (.bool t275) := (blk_cell BK277.out 9).trans rfl; have hfz46_0 := blk_frozen BK277.out 0; have hfz46_1 := blk_frozen BK277.out 1; have hfz46_2 := blk_frozen BK277.out 2; have hfz46_3 := blk_frozen BK277.out 3; have hfz46_4 := blk_frozen BK277.out 4; have hfz46_5 := blk_frozen BK277.out 5; have hfz46_6 := blk_frozen BK277.out 6; have hfz46_7 := blk_frozen BK277.out 7; have hfz46_8 := blk_frozen BK277.out 8; have hfz46_9 := blk_frozen BK277.out 9) | ((with_reducible refine gate_callee (f := 10) rfl ?_); refine goesL_ (some 68) rfl rfl Tryz.func10 (by kernel_rfl) rfl #[.agg #[.int .u64 t266, .bool t267, .int .u64 t268, .bool t269, .int .u64 t270, .bool t271, .int .u64 t272, .bool t273, .int .u64 t274, .bool t275], .int .i64 a1, .int .i64 a2] rfl (by (try simp only [List.map_toArray, List.map_cons, List.map_nil]); first | done | rfl | (simp only [List.length_drop, List.length_take]; rfl)) ?_; (with_reducible refine (day_Mask.calls t266 t267 t268 t269 t270 t271 t272 t273 t274 t275 a1 a2 t282 t283 _ A37.out).mono ?_); rintro e w47 ⟨rfl, hb⟩; refine ⟨_, rfl, ?_⟩; have n0_ := Aside0.mk (blk_below (g := gb241) (o := .cells #[.int .u64 a0_0, .bool a0_1, .int .u64 a0_2, .bool a0_3, .int .u64 a0_4, .bool a0_5, .int .u64 a0_6, .bool a0_7, .int .u64 a0_8, .bool a0_9] 26 (0, 0)) (by (with_reducible repeat (first | refine blk_drewN ?_ _ | refine blk_drew ?_ | refine blk_alloc ?_ _)); exact BK241.out) hb); have n1_ := Aside0.mk (blk_below (g := gb253) (o := .cells #[.int .u64 t243, .bool t244, .int .u64 t245, .bool t246, .int .u64 t247, .bool t248, .int .u64 t249, .bool t250, .int .u64 t251, .bool t252] 26 (0, 0)) (by (with_reducible repeat (first | refine blk_drewN ?_ _ | refine blk_drew ?_ | refine blk_alloc ?_ _)); exact BK253.out) hb); have n2_ := Aside0.mk (blk_below (g := gb265) (o := .cells #[.int .u64 t254, .bool t255, .int .u64 t256, .bool t257, .int .u64 t258, .bool t259, .int .u64 t260, .bool t261, .int .u64 t262, .bool t263] 26 (0, 0)) (by (with_reducible repeat (first | refine blk_drewN ?_ _ | refine blk_drew ?_ | refine blk_alloc ?_ _)); exact BK265.out) hb); have n3_ := Aside0.mk (blk_below (g := gb277) (o := .cells #[.int .u64 t266, .bool t267, .int .u64 t268, .bool t269, .int .u64 t270, .bool t271, .int .u64 t272, .bool t273, .int .u64 t274, .bool t275] 26 (0, 0)) (by (with_reducible repeat (first | refine blk_drewN ?_ _ | refine blk_drew ?_ | refine blk_alloc ?_ _)); exact BK277.out) hb); have n4_ := Aside0.mk (below_step (by repeat (first | (with_reducible first | exact HB.out | apply below_alloc | apply pw_below_drewN | apply below_drew1 | refine below_set ?_ GE241.out | refine below_set ?_ GE253.out | refine below_set ?_ GE265.out | refine below_set ?_ GE277.out) | exact HB.out)) hb); clear BK241; clear BK253; clear BK265; clear BK277; clear HB; have BK241 := n0_; have BK253 := n1_; have BK265 := n2_; have BK277 := n3_; have HB := n4_; clear n0_ n1_ n2_ n3_ n4_; (try clear hb); (try clear hb2); (try clear hk); (try clear hi)))
      (try simp only [Act.put, List.setIfInBounds_toArray, List.set_cons_zero, List.set_cons_succ])
      go_cut [76] (fun v76 wc => ∃ (kq : Nat) (x76_37 : Bool), v76 = .bool x76_37 ∧ Aside0 (complinelaw21_DayEither.j1 kq true t278 t280 t282 x76_37 a0_0 a0_1 a0_2 a0_3 a0_4 a0_5 a0_6 a0_7 a0_8 a0_9 = some r) ∧ Aside0 (kq ≤ kj9) ∧ Aside0 (wc.heap[gb241]? = some (.cells #[.int .u64 a0_0, .bool a0_1, .int .u64 a0_2, .bool a0_3, .int .u64 a0_4, .bool a0_5, .int .u64 a0_6, .bool a0_7, .int .u64 a0_8, .bool a0_9] 26 (0, 0))) ∧ Aside0 (wc.heap[gb253]? = some (.cells #[.int .u64 t243, .bool t244, .int .u64 t245, .bool t246, .int .u64 t247, .bool t248, .int .u64 t249, .bool t250, .int .u64 t251, .bool t252] 26 (0, 0))) ∧ Aside0 (wc.heap[gb265]? = some (.cells #[.int .u64 t254, .bool t255, .int .u64 t256, .bool t257, .int .u64 t258, .bool t259, .int .u64 t260, .bool t261, .int .u64 t262, .bool t263] 26 (0, 0))) ∧ Aside0 (wc.heap[gb277]? = some (.cells #[.int .u64 t266, .bool t267, .int .u64 t268, .bool t269, .int .u64 t270, .bool t271, .int .u64 t272, .bool t273, .int .u64 t274, .bool t275] 26 (0, 0))) ∧ Aside0 (Below w.heap.size w wc))
      case first =>
       have H := HC38.out
       clear HC38
       by_cases c48 : t281 = 0
       ·rw [if_pos c48] at H
        have c48b0 : (t281 == 0) = true := beq_iff_eq.mpr c48
        have c48b1 : (t281 != 0) = false := bne_eq_false_iff_eq.mpr c48
        clear c48
        (first | rw [c48b0] | (simp only [i64_w, i32_w]; rw [c48b0]) | skip)
        have H' := Aside0.mk H
        clear H
        go_wp2
        go_meet
        case rel => exact ⟨_, ((t283 != 0)), (by first | rfl | (simp; done) | (simp [*]; done)), H', ⟨by have := HJ9.out; first | omega | exact Nat.le_refl _⟩, ⟨by (with_reducible repeat (first | refine blk_drewN ?_ _ | refine blk_drew ?_ | refine blk_alloc ?_ _)); exact BK241.out⟩, ⟨by (with_reducible repeat (first | refine blk_drewN ?_ _ | refine blk_drew ?_ | refine blk_alloc ?_ _)); exact BK253.out⟩, ⟨by (with_reducible repeat (first | refine blk_drewN ?_ _ | refine blk_drew ?_ | refine blk_alloc ?_ _)); exact BK265.out⟩, ⟨by (with_reducible repeat (first | refine blk_drewN ?_ _ | refine blk_drew ?_ | refine blk_alloc ?_ _)); exact BK277.out⟩, ⟨by repeat (first | (with_reducible first | exact HB.out | apply below_alloc | apply pw_below_drewN | apply below_drew1 | refine below_set ?_ GE241.out | refine below_set ?_ GE253.out | refine below_set ?_ GE265.out | refine below_set ?_ GE277.out) | exact HB.out)⟩⟩
       ·rw [if_neg c48] at H
        have c48b0 : (t281 == 0) = false := beq_eq_false_iff_ne.mpr c48
        have c48b1 : (t281 != 0) = true := bne_iff_ne.mpr c48
        (first | rw [c48b0] | (simp only [i64_w, i32_w]; rw [c48b0]) | skip)
        have H' := Aside0.mk H
        clear H
        go_wp2
        go_meet
        case rel => exact ⟨_, (true), (by first | rfl | (simp; done) | (simp [*]; done)), H', ⟨by have := HJ9.out; first | omega | exact Nat.le_refl _⟩, ⟨by (with_reducible repeat (first | refine blk_drewN ?_ _ | refine blk_drew ?_ | refine blk_alloc ?_ _)); exact BK241.out⟩, ⟨by (with_reducible repeat (first | refine blk_drewN ?_ _ | refine blk_drew ?_ | refine blk_alloc ?_ _)); exact BK253.out⟩, ⟨by (with_reducible repeat (first | refine blk_drewN ?_ _ | refine blk_drew ?_ | refine blk_alloc ?_ _)); exact BK265.out⟩, ⟨by (with_reducible repeat (first | refine blk_drewN ?_ _ | refine blk_drew ?_ | refine blk_alloc ?_ _)); exact BK277.out⟩, ⟨by repeat (first | (with_reducible first | exact HB.out | apply below_alloc | apply pw_below_drewN | apply below_drew1 | refine below_set ?_ GE241.out | refine below_set ?_ GE253.out | refine below_set ?_ GE265.out | refine below_set ?_ GE277.out) | exact HB.out)⟩⟩
      case rest =>
       clear HC38
       try clear c1
       try clear c2
       try clear p2
       try clear c3
       try clear c4
       try clear c5
       try clear c8
       try clear c9
       try clear c10
       try clear c15
       try clear c19
       try clear c20
       try clear c21
       try clear c27
       try clear c28
       try clear c29
       try clear c33
       try clear c33b0
       try clear c33b1
       try clear c34
       try clear c35
       try clear c35b0
       try clear c35b1
       try clear c39
       try clear c40
       try clear c41
       try clear c44
       try clear c45
       try clear c48
       try clear c48b0
       try clear c48b1
       try clear hcz16_0
       try clear hcz16_1
       try clear hcz16_2
       try clear hcz16_3
       try clear hcz16_4
       try clear hcz16_5
       try clear hcz16_6
       try clear hcz16_7
       try clear hcz16_8
       try clear hcz16_9
       try clear hcz17_0
       try clear hcz17_1
       try clear hcz17_2
       try clear hcz17_3
       try clear hcz17_4
       try clear hcz17_5
       try clear hcz17_6
       try clear hcz17_7
       try clear hcz17_8
       try clear hcz17_9
       try clear hcz22_0
       try clear hcz22_1
       try clear hcz22_2
       try clear hcz22_3
       try clear hcz22_4
       try clear hcz22_5
       try clear hcz22_6
       try clear hcz22_7
       try clear hcz22_8
       try clear hcz22_9
       try clear hcz23_0
       try clear hcz23_1
       try clear hcz23_2
       try clear hcz23_3
       try clear hcz23_4
       try clear hcz23_5
       try clear hcz23_6
       try clear hcz23_7
       try clear hcz23_8
       try clear hcz23_9
       try clear hcz24_0
       try clear hcz24_1
       try clear hcz24_2
       try clear hcz24_3
       try clear hcz24_4
       try clear hcz24_5
       try clear hcz24_6
       try clear hcz24_7
       try clear hcz24_8
       try clear hcz24_9
       try clear hcz30_0
       try clear hcz30_1
       try clear hcz30_2
       try clear hcz30_3
       try clear hcz30_4
       try clear hcz30_5
       try clear hcz30_6
       try clear hcz30_7
       try clear hcz30_8
       try clear hcz30_9
       try clear hcz31_0
       try clear hcz31_1
       try clear hcz31_2
       try clear hcz31_3
       try clear hcz31_4
       try clear hcz31_5
       try clear hcz31_6
       try clear hcz31_7
       try clear hcz31_8
       try clear hcz31_9
       try clear hcz42_0
       try clear hcz42_1
       try clear hcz42_2
       try clear hcz42_3
       try clear hcz42_4
       try clear hcz42_5
       try clear hcz42_6
       try clear hcz42_7
       try clear hcz42_8
       try clear hcz42_9
       try clear hcz46_0
       try clear hcz46_1
       try clear hcz46_2
       try clear hcz46_3
       try clear hcz46_4
       try clear hcz46_5
       try clear hcz46_6
       try clear hcz46_7
       try clear hcz46_8
       try clear hcz46_9
       try clear hfz16_0
       try clear hfz16_1
       try clear hfz16_2
       try clear hfz16_3
       try clear hfz16_4
       try clear hfz16_5
       try clear hfz16_6
       try clear hfz16_7
       try clear hfz16_8
       try clear hfz16_9
       try clear hfz17_0
       try clear hfz17_1
       try clear hfz17_2
       try clear hfz17_3
       try clear hfz17_4
       try clear hfz17_5
       try clear hfz17_6
       try clear hfz17_7
       try clear hfz17_8
       try clear hfz17_9
       try clear hfz22_0
       try clear hfz22_1
       try clear hfz22_2
       try clear hfz22_3
       try clear hfz22_4
       try clear hfz22_5
       try clear hfz22_6
       try clear hfz22_7
       try clear hfz22_8
       try clear hfz22_9
       try clear hfz23_0
       try clear hfz23_1
       try clear hfz23_2
       try clear hfz23_3
       try clear hfz23_4
       try clear hfz23_5
       try clear hfz23_6
       try clear hfz23_7
       try clear hfz23_8
       try clear hfz23_9
       try clear hfz24_0
       try clear hfz24_1
       try clear hfz24_2
       try clear hfz24_3
       try clear hfz24_4
       try clear hfz24_5
       try clear hfz24_6
       try clear hfz24_7
       try clear hfz24_8
       try clear hfz24_9
       try clear hfz30_0
       try clear hfz30_1
       try clear hfz30_2
       try clear hfz30_3
       try clear hfz30_4
       try clear hfz30_5
       try clear hfz30_6
       try clear hfz30_7
       try clear hfz30_8
       try clear hfz30_9
       try clear hfz31_0
       try clear hfz31_1
       try clear hfz31_2
       try clear hfz31_3
       try clear hfz31_4
       try clear hfz31_5
       try clear hfz31_6
       try clear hfz31_7
       try clear hfz31_8
       try clear hfz31_9
       try clear hfz42_0
       try clear hfz42_1
       try clear hfz42_2
       try clear hfz42_3
       try clear hfz42_4
       try clear hfz42_5
       try clear hfz42_6
       try clear hfz42_7
       try clear hfz42_8
       try clear hfz42_9
       try clear hfz46_0
       try clear hfz46_1
       try clear hfz46_2
       try clear hfz46_3
       try clear hfz46_4
       try clear hfz46_5
       try clear hfz46_6
       try clear hfz46_7
       try clear hfz46_8
       try clear hfz46_9
       try clear p2
       obtain ⟨kq, x76_37, rfl, HA, HJ37, BK241, BK253, BK265, BK277, HB⟩ := hcut
       cases kq with
       | zero => exact absurd HA.out (by simp [complinelaw21_DayEither.j1])
       | succ kj37 =>
        have H := HA.out
        clear HA
        simp only [complinelaw21_DayEither.j1] at H
        by_cases c49 : x76_37 = true
        ·subst c49
         have H1 : (some false) = some r := by rw [if_pos rfl] at H; exact H
         clear H
         have H := H1
         clear H1
         obtain rfl := Option.some.inj H
         go_wp2
         go_ret
         exact ⟨by first | rfl | (simp [errW_none, errW_some] <;> rfl) | (simp [*, errW_none, errW_some] <;> rfl), by repeat (first | (with_reducible first | exact HB.out | apply below_alloc | apply pw_below_drewN | apply below_drew1 | refine below_set ?_ GE241.out | refine below_set ?_ GE253.out | refine below_set ?_ GE265.out | refine below_set ?_ GE277.out) | exact HB.out)⟩
        ·replace c49 := Bool.eq_false_iff.mpr c49
         subst c49
         have H1 : (if a0_5 = true then (if true = true then (some (t278 == (Go.bits .and .u32 t280 t282))) else (some false)) else (if a0_9 = true then (if true = true then (some (t278 == (Go.bits .and .u32 t280 t282))) else (some false)) else (if true = true then (some (t278 == (Go.bits .or .u32 t280 t282))) else (some false)))) = some r := by rw [if_neg (show ¬ (false = true) by decide)] at H; exact H
         clear H
         have H := H1
         clear H1
         by_cases c50 : a0_5 = true
         ·subst c50
          have H1 : (if true = true then (some (t278 == (Go.bits .and .u32 t280 t282))) else (some false)) = some r := by rw [if_pos rfl] at H; exact H
          clear H
          have H := H1
          clear H1
          by_cases c51 : true = true
          ·clear c51
           have H1 : (some (t278 == (Go.bits .and .u32 t280 t282))) = some r := by rw [if_pos rfl] at H; exact H
           clear H
           have H := H1
           clear H1
           obtain rfl := Option.some.inj H
           have hnb52 := NB241_253.out
           have hnc52 := NB253_241.out
           have hnb53 := NB241_265.out
           have hnc53 := NB265_241.out
           have hnb54 := NB241_277.out
           have hnc54 := NB277_241.out
           have hcz55_0 : wc.cell? ⟨gb241, 0, none⟩ = some (.int .u64 a0_0) := (blk_cell BK241.out 0).trans rfl
           have hcz55_1 : wc.cell? ⟨gb241, 1, none⟩ = some (.bool a0_1) := (blk_cell BK241.out 1).trans rfl
           have hcz55_2 : wc.cell? ⟨gb241, 2, none⟩ = some (.int .u64 a0_2) := (blk_cell BK241.out 2).trans rfl
           have hcz55_3 : wc.cell? ⟨gb241, 3, none⟩ = some (.bool a0_3) := (blk_cell BK241.out 3).trans rfl
           have hcz55_4 : wc.cell? ⟨gb241, 4, none⟩ = some (.int .u64 a0_4) := (blk_cell BK241.out 4).trans rfl
           have hcz55_5 : wc.cell? ⟨gb241, 5, none⟩ = some (.bool true) := (blk_cell BK241.out 5).trans rfl
           have hcz55_6 : wc.cell? ⟨gb241, 6, none⟩ = some (.int .u64 a0_6) := (blk_cell BK241.out 6).trans rfl
           have hcz55_7 : wc.cell? ⟨gb241, 7, none⟩ = some (.bool a0_7) := (blk_cell BK241.out 7).trans rfl
           have hcz55_8 : wc.cell? ⟨gb241, 8, none⟩ = some (.int .u64 a0_8) := (blk_cell BK241.out 8).trans rfl
           have hcz55_9 : wc.cell? ⟨gb241, 9, none⟩ = some (.bool a0_9) := (blk_cell BK241.out 9).trans rfl
           have hfz55_0 := blk_frozen BK241.out 0
           have hfz55_1 := blk_frozen BK241.out 1
           have hfz55_2 := blk_frozen BK241.out 2
           have hfz55_3 := blk_frozen BK241.out 3
           have hfz55_4 := blk_frozen BK241.out 4
           have hfz55_5 := blk_frozen BK241.out 5
           have hfz55_6 := blk_frozen BK241.out 6
           have hfz55_7 := blk_frozen BK241.out 7
           have hfz55_8 := blk_frozen BK241.out 8
           have hfz55_9 := blk_frozen BK241.out 9
           go_wp2
           go_ret
           exact ⟨by first | rfl | (simp [errW_none, errW_some] <;> rfl) | (simp [*, errW_none, errW_some] <;> rfl), by repeat (first | (with_reducible first | exact HB.out | apply below_alloc | apply pw_below_drewN | apply below_drew1 | refine below_set ?_ GE241.out | refine below_set ?_ GE253.out | refine below_set ?_ GE265.out | refine below_set ?_ GE277.out) | exact HB.out)⟩
          ·exact absurd rfl c51
         ·replace c50 := Bool.eq_false_iff.mpr c50
          subst c50
          have H1 : (if a0_9 = true then (if true = true then (some (t278 == (Go.bits .and .u32 t280 t282))) else (some false)) else (if true = true then (some (t278 == (Go.bits .or .u32 t280 t282))) else (some false))) = some r := by rw [if_neg (show ¬ (false = true) by decide)] at H; exact H
          clear H
          have H := H1
          clear H1
          by_cases c60 : a0_9 = true
          ·subst c60
           have H1 : (if true = true then (some (t278 == (Go.bits .and .u32 t280 t282))) else (some false)) = some r := by rw [if_pos rfl] at H; exact H
           clear H
           have H := H1
           clear H1
           by_cases c61 : true = true
           ·clear c61
            have H1 : (some (t278 == (Go.bits .and .u32 t280 t282))) = some r := by rw [if_pos rfl] at H; exact H
            clear H
            have H := H1
            clear H1
            obtain rfl := Option.some.inj H
            have hnb62 := NB241_253.out
            have hnc62 := NB253_241.out
            have hnb63 := NB241_265.out
            have hnc63 := NB265_241.out
            have hnb64 := NB241_277.out
            have hnc64 := NB277_241.out
            have hcz65_0 : wc.cell? ⟨gb241, 0, none⟩ = some (.int .u64 a0_0) := (blk_cell BK241.out 0).trans rfl
            have hcz65_1 : wc.cell? ⟨gb241, 1, none⟩ = some (.bool a0_1) := (blk_cell BK241.out 1).trans rfl
            have hcz65_2 : wc.cell? ⟨gb241, 2, none⟩ = some (.int .u64 a0_2) := (blk_cell BK241.out 2).trans rfl
            have hcz65_3 : wc.cell? ⟨gb241, 3, none⟩ = some (.bool a0_3) := (blk_cell BK241.out 3).trans rfl
            have hcz65_4 : wc.cell? ⟨gb241, 4, none⟩ = some (.int .u64 a0_4) := (blk_cell BK241.out 4).trans rfl
            have hcz65_5 : wc.cell? ⟨gb241, 5, none⟩ = some (.bool false) := (blk_cell BK241.out 5).trans rfl
            have hcz65_6 : wc.cell? ⟨gb241, 6, none⟩ = some (.int .u64 a0_6) := (blk_cell BK241.out 6).trans rfl
            have hcz65_7 : wc.cell? ⟨gb241, 7, none⟩ = some (.bool a0_7) := (blk_cell BK241.out 7).trans rfl
            have hcz65_8 : wc.cell? ⟨gb241, 8, none⟩ = some (.int .u64 a0_8) := (blk_cell BK241.out 8).trans rfl
            have hcz65_9 : wc.cell? ⟨gb241, 9, none⟩ = some (.bool true) := (blk_cell BK241.out 9).trans rfl
            have hfz65_0 := blk_frozen BK241.out 0
            have hfz65_1 := blk_frozen BK241.out 1
            have hfz65_2 := blk_frozen BK241.out 2
            have hfz65_3 := blk_frozen BK241.out 3
            have hfz65_4 := blk_frozen BK241.out 4
            have hfz65_5 := blk_frozen BK241.out 5
            have hfz65_6 := blk_frozen BK241.out 6
            have hfz65_7 := blk_frozen BK241.out 7
            have hfz65_8 := blk_frozen BK241.out 8
            have hfz65_9 := blk_frozen BK241.out 9
            go_wp2
            go_ret
            exact ⟨by first | rfl | (simp [errW_none, errW_some] <;> rfl) | (simp [*, errW_none, errW_some] <;> rfl), by repeat (first | (with_reducible first | exact HB.out | apply below_alloc | apply pw_below_drewN | apply below_drew1 | refine below_set ?_ GE241.out | refine below_set ?_ GE253.out | refine below_set ?_ GE265.out | refine below_set ?_ GE277.out) | exact HB.out)⟩
           ·exact absurd rfl c61
          ·replace c60 := Bool.eq_false_iff.mpr c60
           subst c60
           have H1 : (if true = true then (some (t278 == (Go.bits .or .u32 t280 t282))) else (some false)) = some r := by rw [if_neg (show ¬ (false = true) by decide)] at H; exact H
           clear H
           have H := H1
           clear H1
           by_cases c70 : true = true
           ·clear c70
            have H1 : (some (t278 == (Go.bits .or .u32 t280 t282))) = some r := by rw [if_pos rfl] at H; exact H
            clear H
            have H := H1
            clear H1
            obtain rfl := Option.some.inj H
            have hnb71 := NB241_253.out
            have hnc71 := NB253_241.out
            have hnb72 := NB241_265.out
            have hnc72 := NB265_241.out
            have hnb73 := NB241_277.out
            have hnc73 := NB277_241.out
            have hcz74_0 : wc.cell? ⟨gb241, 0, none⟩ = some (.int .u64 a0_0) := (blk_cell BK241.out 0).trans rfl
            have hcz74_1 : wc.cell? ⟨gb241, 1, none⟩ = some (.bool a0_1) := (blk_cell BK241.out 1).trans rfl
            have hcz74_2 : wc.cell? ⟨gb241, 2, none⟩ = some (.int .u64 a0_2) := (blk_cell BK241.out 2).trans rfl
            have hcz74_3 : wc.cell? ⟨gb241, 3, none⟩ = some (.bool a0_3) := (blk_cell BK241.out 3).trans rfl
            have hcz74_4 : wc.cell? ⟨gb241, 4, none⟩ = some (.int .u64 a0_4) := (blk_cell BK241.out 4).trans rfl
            have hcz74_5 : wc.cell? ⟨gb241, 5, none⟩ = some (.bool false) := (blk_cell BK241.out 5).trans rfl
            have hcz74_6 : wc.cell? ⟨gb241, 6, none⟩ = some (.int .u64 a0_6) := (blk_cell BK241.out 6).trans rfl
            have hcz74_7 : wc.cell? ⟨gb241, 7, none⟩ = some (.bool a0_7) := (blk_cell BK241.out 7).trans rfl
            have hcz74_8 : wc.cell? ⟨gb241, 8, none⟩ = some (.int .u64 a0_8) := (blk_cell BK241.out 8).trans rfl
            have hcz74_9 : wc.cell? ⟨gb241, 9, none⟩ = some (.bool false) := (blk_cell BK241.out 9).trans rfl
            have hfz74_0 := blk_frozen BK241.out 0
            have hfz74_1 := blk_frozen BK241.out 1
            have hfz74_2 := blk_frozen BK241.out 2
            have hfz74_3 := blk_frozen BK241.out 3
            have hfz74_4 := blk_frozen BK241.out 4
            have hfz74_5 := blk_frozen BK241.out 5
            have hfz74_6 := blk_frozen BK241.out 6
            have hfz74_7 := blk_frozen BK241.out 7
            have hfz74_8 := blk_frozen BK241.out 8
            have hfz74_9 := blk_frozen BK241.out 9
            go_wp2
            go_ret
            exact ⟨by first | rfl | (simp [errW_none, errW_some] <;> rfl) | (simp [*, errW_none, errW_some] <;> rfl), by repeat (first | (with_reducible first | exact HB.out | apply below_alloc | apply pw_below_drewN | apply below_drew1 | refine below_set ?_ GE241.out | refine below_set ?_ GE253.out | refine below_set ?_ GE265.out | refine below_set ?_ GE277.out) | exact HB.out)⟩
           ·exact absurd rfl c70
     ·rw [if_neg c35] at H
      have c35b0 : (t279 == 0) = false := beq_eq_false_iff_ne.mpr c35
      have c35b1 : (t279 != 0) = true := bne_iff_ne.mpr c35
      by_cases c79 : true = true
      ·clear c79
       have H1 : (some (t278 == 0)) = some r := by rw [if_pos rfl] at H; exact H
       clear H
       have H := H1
       clear H1
       obtain rfl := Option.some.inj H
       go_wp2
       go_ret
       exact ⟨by first | rfl | (simp [errW_none, errW_some] <;> rfl) | (simp [*, errW_none, errW_some] <;> rfl), by repeat (first | (with_reducible first | exact HB.out | apply below_alloc | apply pw_below_drewN | apply below_drew1 | refine below_set ?_ GE241.out | refine below_set ?_ GE253.out | refine below_set ?_ GE265.out | refine below_set ?_ GE277.out) | exact HB.out)⟩
      ·exact absurd rfl c79
 ·replace c5 := Bool.eq_false_iff.mpr c5
  subst c5
  have H1 : (some false) = some r := by rw [if_neg (show ¬ (false = true) by decide)] at H; exact H
  clear H
  have H := H1
  clear H1
  obtain rfl := Option.some.inj H
  go_enter Tryz.func8, Tryz.ntmps8
  go_wp2_with (first | ((with_reducible refine gate_dst (N := 3) rfl ?_); refine box_event ?hg (N := 3) ?hd (cs := #[.int .u64 a0_0, .bool a0_1, .int .u64 a0_2, .bool a0_3, .int .u64 a0_4, .bool a0_5, .int .u64 a0_6, .bool a0_7, .int .u64 a0_8, .bool a0_9]) (t := 26) ?hr ?_; (case hd => rfl); (case hg => rfl); (case hr => first | (go_simp; done) | (go_simp; rfl)); intro gb241 hg w80 hbox hb; have n0_ := Aside0.mk (below_step (by repeat (first | (with_reducible first | exact HB.out | apply below_alloc | apply pw_below_drewN | apply below_drew1) | exact HB.out)) hb); have n1_ := Aside0.mk (hbox); have n2_ := Aside0.mk ((by rw [hg]; exact (below_size (by repeat (first | (with_reducible first | exact HB.out | apply below_alloc | apply pw_below_drewN | apply below_drew1) | exact HB.out))) : w.heap.size ≤ gb241)); have n3_ := Aside0.mk ((by rw [hg]; exact (below_size (by repeat (first | (with_reducible first | exact HB.out | apply below_alloc | apply pw_below_drewN | apply below_drew1) | exact HB.out))) : w.heap.size ≤ gb241)); clear HB; have HB := n0_; have BK241 := n1_; have GW241 := n2_; have GE241 := n3_; clear n0_ n1_ n2_ n3_; clear hb hbox hg) | ((with_reducible refine gate_callee (f := 9) rfl ?_); refine goesL_ (some 19) rfl rfl Tryz.func9 (by kernel_rfl) rfl #[] rfl (by (try simp only [List.map_toArray, List.map_cons, List.map_nil]); first | done | rfl | (simp only [List.length_drop, List.length_take]; rfl)) ?_; (with_reducible refine (complinelaw21_works.calls  false _ (hT.keep (by repeat (first | (with_reducible first | exact HB.out | apply below_alloc | apply pw_below_drewN | apply below_drew1 | refine below_set ?_ GE241.out | refine below_set ?_ GE253.out | refine below_set ?_ GE265.out | refine below_set ?_ GE277.out) | exact HB.out))) A4.out).mono ?_); rintro e w81 ⟨rfl, hb⟩; refine ⟨_, rfl, ?_⟩; have n0_ := Aside0.mk (blk_below (g := gb241) (o := .cells #[.int .u64 a0_0, .bool a0_1, .int .u64 a0_2, .bool a0_3, .int .u64 a0_4, .bool a0_5, .int .u64 a0_6, .bool a0_7, .int .u64 a0_8, .bool a0_9] 26 (0, 0)) (by (with_reducible repeat (first | refine blk_drewN ?_ _ | refine blk_drew ?_ | refine blk_alloc ?_ _)); exact BK241.out) hb); have n1_ := Aside0.mk (below_step (by repeat (first | (with_reducible first | exact HB.out | apply below_alloc | apply pw_below_drewN | apply below_drew1 | refine below_set ?_ GE241.out) | exact HB.out)) hb); clear BK241; clear HB; have BK241 := n0_; have HB := n1_; clear n0_ n1_; (try clear hb); (try clear hb2); (try clear hk); (try clear hi)))
  go_ret
  exact ⟨by first | rfl | (simp [errW_none, errW_some] <;> rfl) | (simp [*, errW_none, errW_some] <;> rfl), by repeat (first | (with_reducible first | exact HB.out | apply below_alloc | apply pw_below_drewN | apply below_drew1 | refine below_set ?_ GE241.out) | exact HB.out)⟩

end Go.Proofs.YtcjfjicagopppaaGreatDoor.PDay
