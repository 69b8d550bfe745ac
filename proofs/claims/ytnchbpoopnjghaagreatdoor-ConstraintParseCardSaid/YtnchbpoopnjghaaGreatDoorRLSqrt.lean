/- IntegerSqrt answers true. -/
import Derived.Test.YtnchbpoopnjghaaGreatDoorRLNorm
import Derived.Test.YtnchbpoopnjghaaGreatDoorRDivAll
set_option maxHeartbeats 100000000
set_option linter.all false
namespace Go.Proofs.YtnchbpoopnjghaaGreatDoor
open Go.RowKit
section
open Go.ChangeShapes Go.WideShapes Go.ChangeAt Go.RowKit Go.Joins
attribute [local go_sem ↓] Go.wp_at_zero Go.wp_at_succ
def s7(z:Int):eV (decide (z<0)) (digs z.natAbs)=true:=by
 unfold eV;rw[ER,T_ rfl];by_cases h:z<0
 ·have:0<(digs z.natAbs).length:=by
   rcases Nat.eq_zero_or_pos (digs z.natAbs).length with a|a
   ·have:=ga.1 (E_ a);omega
   ·exact a
  simp[h,this]
 ·simp[h]
end
end Go.Proofs.YtnchbpoopnjghaaGreatDoor
