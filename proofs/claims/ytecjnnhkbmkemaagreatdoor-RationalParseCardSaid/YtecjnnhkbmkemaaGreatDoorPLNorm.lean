/- IntegerNorm answers true. -/
import Derived.Test.YtecjnnhkbmkemaaGreatDoorPLMul
import Derived.Test.YtecjnnhkbmkemaaGreatDoorPAk
namespace Go.Proofs.YtecjnnhkbmkemaaGreatDoor
open Go.ChangeShapes Go.WideShapes Go.ChangeAt Go.RowKit Go.Joins
attribute [local go_sem ↓] Go.wp_at_zero Go.wp_at_succ
end Go.Proofs.YtecjnnhkbmkemaaGreatDoor
