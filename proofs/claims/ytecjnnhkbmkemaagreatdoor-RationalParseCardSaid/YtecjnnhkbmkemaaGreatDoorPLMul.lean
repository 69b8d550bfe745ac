/- IntegerMul answers true. -/
import Derived.Test.YtecjnnhkbmkemaaGreatDoorPLaw
import Derived.Test.YtecjnnhkbmkemaaGreatDoorPAj
namespace Go.Proofs.YtecjnnhkbmkemaaGreatDoor
open Go.ChangeShapes Go.WideShapes Go.ChangeAt Go.RowKit Go.Joins
attribute [local go_sem ↓] Go.wp_at_zero Go.wp_at_succ
end Go.Proofs.YtecjnnhkbmkemaaGreatDoor
