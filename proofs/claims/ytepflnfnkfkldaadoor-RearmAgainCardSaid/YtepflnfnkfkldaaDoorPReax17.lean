-- Written by a program of this session (gprint.py) over the kit's print.
import Derived.Test.YtepflnfnkfkldaaDoorPReax0
import Derived.Test.YtepflnfnkfkldaaDoorPReax14
namespace Go.Proofs.YtepflnfnkfkldaaDoor.PRea
open Go.RowKit Go.Proofs.YtepflnfnkfkldaaDoorW.PrintWords Go.Proofs.YtepflnfnkfkldaaDoorW.PrintLast Go.Proofs.YtepflnfnkfkldaaDoorW.PrintMore
attribute [local go_sem] max2_int min2_int max_two min_two max_three min_three max_four min_four
set_option linter.unusedVariables false
set_option linter.unusedSimpArgs false
def complineref01_After.f (a0:Int)(a1:Int)(a2:Int):Option (Int × Int):=if a1=0 then (some (a0,0)) else (if a0 > a2 then ((complineref01_Add.f a0 a1).bind fun bt220=>(some (bt220.1,0))) else ((complineref01_Add.f (IntKind.u64.wrap (a2 - (Int.tmod (IntKind.u64.wrap (a2 - a0)) a1))) a1).bind fun bt222=>(some (bt222.1,IntKind.u64.wrap (Int.tdiv (IntKind.u64.wrap ((IntKind.u64.wrap (a2 - a0)) - (Int.tmod (IntKind.u64.wrap (a2 - a0)) a1))) a1)))))
set_option maxHeartbeats 8000000 in
set_option maxRecDepth 100000 in
theorem complineref01_After.calls (a0:Int)(a1:Int)(a2:Int)(r1:Int)(r2:Int)(w:World)(h:complineref01_After.f a0 a1 a2=some (r1,r2)) :
  Calls Tryd.prog 30 #[.int .u64 a0,.int .u64 a1,.int .u64 a2] w fun e w'=>e=.returned (.tuple #[.int .u64 r1,.int .u64 r2])∧Drawn0 w w':=by
 have H:(if a1=0 then (some (a0,0)) else (if a0 > a2 then ((complineref01_Add.f a0 a1).bind fun bt220=>(some (bt220.1,0))) else ((complineref01_Add.f (IntKind.u64.wrap (a2 - (Int.tmod (IntKind.u64.wrap (a2 - a0)) a1))) a1).bind fun bt222=>(some (bt222.1,IntKind.u64.wrap (Int.tdiv (IntKind.u64.wrap ((IntKind.u64.wrap (a2 - a0)) - (Int.tmod (IntKind.u64.wrap (a2 - a0)) a1))) a1))))))=some (r1,r2):=h
 clear h
 by_cases c4:a1=0
 ·rw [if_pos c4] at H
  have c4b0:(a1 == 0)=true:=beq_iff_eq.mpr c4
  have c4b1:(a1 != 0)=false:=bne_eq_false_iff_eq.mpr c4
  clear c4
  simp only [Option.some.injEq,Prod.mk.injEq] at H
  obtain ⟨rfl,rfl⟩ :=H
  go_enter Tryd.func30,Tryd.ntmps30
  go_wp2
  repeat (go_quiet (fail); try go_wp2)
  go_ret2
  exact ⟨by first | rfl | (simp; done) | (simp [*]; done),by repeat (first | exact Drawn0.refl _ | apply Drawn0.step)⟩
 ·rw [if_neg c4] at H
  have c4b0:(a1 == 0)=false:=beq_eq_false_iff_ne.mpr c4
  have c4b1:(a1 != 0)=true:=bne_iff_ne.mpr c4
  by_cases c5:a0 > a2
  ·rw [if_pos c5] at H
   have c5b0:decide (a2 < a0)=true:=decide_eq_true c5
   clear c5
   replace H:=Option.bind_eq_some_iff.mp H
   obtain ⟨⟨t220,t221⟩,A60,H⟩ :=H
   replace H:(some (t220,0))=some (r1,r2):=H
   have A6:=Aside0.mk A60
   clear A60
   simp only [Option.some.injEq,Prod.mk.injEq] at H
   obtain ⟨rfl,rfl⟩ :=H
   go_enter Tryd.func30,Tryd.ntmps30
   go_wp2_with (first | (go_at_call 23; (with_reducible refine (complineref01_Add.calls a0 a1 t220 t221 _ A6.out).mono ?_); rintro e w' ⟨rfl,⟨nd,rfl⟩⟩; (try first | exact ⟨rfl,_,World.drewN_drewN _ _ _⟩ | exact ⟨rfl,_,Eq.trans (World.drewN_drewN _ _ _) (congrArg (World.drewN _) (Nat.add_assoc _ _ _))⟩)))
   repeat (go_quiet (first | (go_at_call 23; (with_reducible refine (complineref01_Add.calls a0 a1 t220 t221 _ A6.out).mono ?_); rintro e w' ⟨rfl,⟨nd,rfl⟩⟩; (try first | exact ⟨rfl,_,World.drewN_drewN _ _ _⟩ | exact ⟨rfl,_,Eq.trans (World.drewN_drewN _ _ _) (congrArg (World.drewN _) (Nat.add_assoc _ _ _))⟩))); try go_wp2_with (first | (go_at_call 23; (with_reducible refine (complineref01_Add.calls a0 a1 t220 t221 _ A6.out).mono ?_); rintro e w' ⟨rfl,⟨nd,rfl⟩⟩; (try first | exact ⟨rfl,_,World.drewN_drewN _ _ _⟩ | exact ⟨rfl,_,Eq.trans (World.drewN_drewN _ _ _) (congrArg (World.drewN _) (Nat.add_assoc _ _ _))⟩))))
   go_ret2
   exact ⟨by first | rfl | (simp; done) | (simp [*]; done),by repeat (first | exact Drawn0.refl _ | apply Drawn0.step)⟩
  ·rw [if_neg c5] at H
   have c5b0:decide (a2 < a0)=false:=decide_eq_false c5
   clear c5
   replace H:=Option.bind_eq_some_iff.mp H
   obtain ⟨⟨t222,t223⟩,A70,H⟩ :=H
   replace H:(some (t222,IntKind.u64.wrap (Int.tdiv (IntKind.u64.wrap ((IntKind.u64.wrap (a2 - a0)) - (Int.tmod (IntKind.u64.wrap (a2 - a0)) a1))) a1)))=some (r1,r2):=H
   have A7:=Aside0.mk A70
   clear A70
   simp only [Option.some.injEq,Prod.mk.injEq] at H
   obtain ⟨rfl,rfl⟩ :=H
   go_enter Tryd.func30,Tryd.ntmps30
   go_wp2_with (first | (go_at_call 23; (with_reducible refine (complineref01_Add.calls (IntKind.u64.wrap (a2 - (Int.tmod (IntKind.u64.wrap (a2 - a0)) a1))) a1 t222 t223 _ A7.out).mono ?_); rintro e w' ⟨rfl,⟨nd,rfl⟩⟩; (try first | exact ⟨rfl,_,World.drewN_drewN _ _ _⟩ | exact ⟨rfl,_,Eq.trans (World.drewN_drewN _ _ _) (congrArg (World.drewN _) (Nat.add_assoc _ _ _))⟩)))
   repeat (go_quiet (first | (go_at_call 23; (with_reducible refine (complineref01_Add.calls (IntKind.u64.wrap (a2 - (Int.tmod (IntKind.u64.wrap (a2 - a0)) a1))) a1 t222 t223 _ A7.out).mono ?_); rintro e w' ⟨rfl,⟨nd,rfl⟩⟩; (try first | exact ⟨rfl,_,World.drewN_drewN _ _ _⟩ | exact ⟨rfl,_,Eq.trans (World.drewN_drewN _ _ _) (congrArg (World.drewN _) (Nat.add_assoc _ _ _))⟩))); try go_wp2_with (first | (go_at_call 23; (with_reducible refine (complineref01_Add.calls (IntKind.u64.wrap (a2 - (Int.tmod (IntKind.u64.wrap (a2 - a0)) a1))) a1 t222 t223 _ A7.out).mono ?_); rintro e w' ⟨rfl,⟨nd,rfl⟩⟩; (try first | exact ⟨rfl,_,World.drewN_drewN _ _ _⟩ | exact ⟨rfl,_,Eq.trans (World.drewN_drewN _ _ _) (congrArg (World.drewN _) (Nat.add_assoc _ _ _))⟩))))
   go_ret2
   exact ⟨by first | rfl | (simp; done) | (simp [*]; done),by repeat (first | exact Drawn0.refl _ | apply Drawn0.step)⟩
end Go.Proofs.YtepflnfnkfkldaaDoor.PRea
