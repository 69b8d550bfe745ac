/- DivMod of the program and of the reference, where the divisor is zero. -/
import Derived.Test.YtikbnnljjeefgaaGreatDoorXRDivMod
set_option maxHeartbeats 100000000
namespace Go.Proofs.YtikbnnljjeefgaaGreatDoor
open Go.RowKit
attribute [local go_sem ↓] Go.wp_at_zero Go.wp_at_succ
end Go.Proofs.YtikbnnljjeefgaaGreatDoor
