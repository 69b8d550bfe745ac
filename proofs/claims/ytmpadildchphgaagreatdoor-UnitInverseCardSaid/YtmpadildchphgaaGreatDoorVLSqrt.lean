/- IntegerSqrt answers true. -/
import Derived.Test.YtmpadildchphgaaGreatDoorVLNorm
import Derived.Test.YtmpadildchphgaaGreatDoorVDivAll
import Derived.Test.YtmpadildchphgaaGreatDoorVAi
namespace Go.Proofs.YtmpadildchphgaaGreatDoor
open Go.ChangeShapes Go.WideShapes Go.ChangeAt Go.RowKit Go.Joins
attribute [local go_sem ↓] Go.wp_at_zero Go.wp_at_succ
theorem r1_AddV {va vb : Value} {a b z : Int} {w : World} (ha : IntV w va a) (hb : IntV w vb b) (hz : a + b = z) (h1 : (digs a.natAbs).length ≤ 2147483648) (h2 : (digs b.natAbs).length ≤ 2147483648) :
    Calls Tryz.prog 76 #[va, vb] w (RetInt z w) := by
  have := r1_Add va vb _ _ _ _ w ha hb h1 h2
  rwa [toZ_int, toZ_int, hz] at this
end Go.Proofs.YtmpadildchphgaaGreatDoor
