/- IntegerSqrt answers true. -/
import Derived.Test.YtnchbpoopnjghaaGreatDoorDLNorm
import Derived.Test.YtnchbpoopnjghaaGreatDoorDDivAll
set_option maxHeartbeats 100000000
set_option linter.all false
namespace Go.Proofs.YtnchbpoopnjghaaGreatDoor
open Go.RowKit
section
open Go.ChangeShapes Go.WideShapes Go.ChangeAt Go.RowKit Go.Joins
attribute [local go_sem ↓] Go.wp_at_zero Go.wp_at_succ
theorem qR (z:Int):el (decide (z<0)) (digs z.natAbs)=true:=by
 unfold el;rw[E1,decide_eq_true rfl]
 by_cases h:z<0
 ·have:0<(digs z.natAbs).length:=by
   rcases Nat.eq_zero_or_pos (digs z.natAbs).length with h1|h1
   ·have:=fC.1 (List.eq_nil_of_length_eq_zero h1);omega
   ·exact h1
  simp[h,this]
 ·simp[h]
end
end Go.Proofs.YtnchbpoopnjghaaGreatDoor
