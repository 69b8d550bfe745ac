/- IntegerSqrt answers true. -/
import Derived.Test.YtnchbpoopnjghaaGreatDoorHLNorm
import Derived.Test.YtnchbpoopnjghaaGreatDoorHDivAll
set_option maxHeartbeats 100000000
set_option linter.all false
namespace Go.Proofs.YtnchbpoopnjghaaGreatDoor
open Go.RowKit
section
open Go.ChangeShapes Go.WideShapes Go.ChangeAt Go.RowKit Go.Joins
attribute [local go_sem ↓] Go.wp_at_zero Go.wp_at_succ
theorem tk (z:Int):eA (decide (z<0)) (digs z.natAbs)=true:=by
 unfold eA;rw[Eo,decide_eq_true rfl]
 by_cases h:z<0
 ·have:0<(digs z.natAbs).length:=by
   rcases Nat.eq_zero_or_pos (digs z.natAbs).length with h1|h1
   ·have:=fK.1 (List.eq_nil_of_length_eq_zero h1);omega
   ·exact h1
  simp[h,this]
 ·simp[h]
end
end Go.Proofs.YtnchbpoopnjghaaGreatDoor
