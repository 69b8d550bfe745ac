/- IntegerSqrt answers true. -/
import Derived.Test.YtikbnnljjeefgaaGreatDoorWLNorm
import Derived.Test.YtikbnnljjeefgaaGreatDoorWDivAll
import Derived.Test.YtikbnnljjeefgaaGreatDoorWAi
set_option maxHeartbeats 100000000
set_option linter.all false
namespace Go.Proofs.YtikbnnljjeefgaaGreatDoor
open Go.RowKit
section
open Go.ChangeShapes Go.WideShapes Go.ChangeAt Go.RowKit Go.Joins
attribute [local go_sem ↓] Go.wp_at_zero Go.wp_at_succ
theorem qO (z:Int):ef (decide (z<0)) (digs z.natAbs)=true:=by
 unfold ef;rw[Bp,decide_eq_true rfl]
 by_cases h:z<0
 ·have:0<(digs z.natAbs).length:=by
   rcases Nat.eq_zero_or_pos (digs z.natAbs).length with h1|h1
   ·have:=eN.1 (List.eq_nil_of_length_eq_zero h1);omega
   ·exact h1
  simp[h,this]
 ·simp[h]
theorem FR {va vb:Value} {a b z:Int} {w:World} (ha:bW w va a) (hb:bW w vb b) (hz:a+b=z) (h1:(digs a.natAbs).length≤2147483648) (h2:(digs b.natAbs).length≤2147483648):
 Calls Tryz.prog 180 #[va,vb] w (b6 z w):=by
 have:=yh va vb _ _ _ _ w ha hb h1 h2
 rwa[aU,aU,hz]at this
end
end Go.Proofs.YtikbnnljjeefgaaGreatDoor
