/- IntegerNorm answers true. -/
import Derived.Test.YtmpadildchphgaaGreatDoorSLMul
import Derived.Test.YtmpadildchphgaaGreatDoorSAk
namespace Go.Proofs.YtmpadildchphgaaGreatDoor
open Go.ChangeShapes Go.WideShapes Go.ChangeAt Go.RowKit Go.Joins
attribute [local go_sem ↓] Go.wp_at_zero Go.wp_at_succ
end Go.Proofs.YtmpadildchphgaaGreatDoor
