/- IntegerNorm answers true. -/
import Derived.Test.YtikbnnljjeefgaaGreatDoorXLMul
import Derived.Test.YtikbnnljjeefgaaGreatDoorXAk
set_option maxHeartbeats 100000000
namespace Go.Proofs.YtikbnnljjeefgaaGreatDoor
open Go.ChangeShapes Go.WideShapes Go.ChangeAt Go.RowKit Go.Joins
attribute [local go_sem ↓] Go.wp_at_zero Go.wp_at_succ
end Go.Proofs.YtikbnnljjeefgaaGreatDoor
