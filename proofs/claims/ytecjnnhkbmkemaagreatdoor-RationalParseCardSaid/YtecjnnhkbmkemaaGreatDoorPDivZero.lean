/- DivMod of the program and of the reference, where the divisor is zero. -/
import Derived.Test.YtecjnnhkbmkemaaGreatDoorPRDivMod
namespace Go.Proofs.YtecjnnhkbmkemaaGreatDoor
open Go.RowKit
attribute [local go_sem ↓] Go.wp_at_zero Go.wp_at_succ
end Go.Proofs.YtecjnnhkbmkemaaGreatDoor
