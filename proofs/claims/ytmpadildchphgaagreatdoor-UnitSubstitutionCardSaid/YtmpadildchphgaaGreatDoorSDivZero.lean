/- DivMod of the program and of the reference, where the divisor is zero. -/
import Derived.Test.YtmpadildchphgaaGreatDoorSRDivMod
namespace Go.Proofs.YtmpadildchphgaaGreatDoor
open Go.RowKit
attribute [local go_sem ↓] Go.wp_at_zero Go.wp_at_succ
end Go.Proofs.YtmpadildchphgaaGreatDoor
