/- IntegerSqrt answers true. -/
import Derived.Test.YtmkggcjajcdlcaaGreatDoorVLNorm
import Derived.Test.YtmkggcjajcdlcaaGreatDoorVDivAll
set_option maxHeartbeats 100000000
set_option linter.all false
namespace Go.Proofs.YtmkggcjajcdlcaaGreatDoor
open Go.RowKit
section
open Go.ChangeShapes Go.WideShapes Go.ChangeAt Go.RowKit Go.Joins
attribute [local go_sem ↓] Go.wp_at_zero Go.wp_at_succ
theorem rf (z:Int):dx (decide (z<0)) (digs z.natAbs)=true:=by
 unfold dx;rw[EY,decide_eq_true rfl]
 by_cases h:z<0
 ·have:0<(digs z.natAbs).length:=by
   rcases Nat.eq_zero_or_pos (digs z.natAbs).length with h1|h1
   ·have:=ff.1 (List.eq_nil_of_length_eq_zero h1);omega
   ·exact h1
  simp[h,this]
 ·simp[h]
theorem KU {va vb:Value} {a b z:Int} {w:World} (ha:dz w va a) (hb:dz w vb b) (hz:a+b=z) (h1:(digs a.natAbs).length<=2147483648) (h2:(digs b.natAbs).length<=2147483648):
 Calls Tryz.prog 197 #[va,vb] w (bZ z w):=by
 have:=Bx va vb _ _ _ _ w ha hb h1 h2
 rwa[aP,aP,hz]at this
end
end Go.Proofs.YtmkggcjajcdlcaaGreatDoor
