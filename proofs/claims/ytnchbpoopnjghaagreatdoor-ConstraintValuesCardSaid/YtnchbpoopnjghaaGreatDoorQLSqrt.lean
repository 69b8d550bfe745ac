/- IntegerSqrt answers true. -/
import Derived.Test.YtnchbpoopnjghaaGreatDoorQLNorm
import Derived.Test.YtnchbpoopnjghaaGreatDoorQDivAll
set_option maxHeartbeats 100000000
set_option linter.all false
namespace Go.Proofs.YtnchbpoopnjghaaGreatDoor
open Go.RowKit
section
open Go.ChangeShapes Go.WideShapes Go.ChangeAt Go.RowKit Go.Joins
attribute [local go_sem ↓] Go.wp_at_zero Go.wp_at_succ
theorem rJ (z:Int):eV (decide (z<0)) (digs z.natAbs)=true:=by
 unfold eV;rw[GD,T_ rfl]
 by_cases h:z<0
 ·have:0<(digs z.natAbs).length:=by
   rcases Nat.eq_zero_or_pos (digs z.natAbs).length with h1|h1
   ·have:=fU.1 (E_ h1);omega
   ·exact h1
  simp[h,this]
 ·simp[h]
end
end Go.Proofs.YtnchbpoopnjghaaGreatDoor
