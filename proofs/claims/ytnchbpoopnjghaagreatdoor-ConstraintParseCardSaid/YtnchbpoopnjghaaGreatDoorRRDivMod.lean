/- DivMod of the reference. -/
import Derived.Test.YtnchbpoopnjghaaGreatDoorRRDivB
import Derived.Test.YtnchbpoopnjghaaGreatDoorRLSqrt
set_option maxHeartbeats 100000000
set_option linter.all false
namespace Go.Proofs.YtnchbpoopnjghaaGreatDoor
open Go.RowKit
section
attribute [local go_sem ↓] Go.wp_at_zero Go.wp_at_succ
def iS{a b:Nat}(h:a<=b):(digs a).length<=(digs b).length:=by refine aL (Nat.lt_of_le_of_lt h ?_);exact bE (l_ _)
section
variable {V w w1 w2:World}{g9 g10:Nat}{br bb bq:Bool}{A3 A4 B1:Option Addr}{n3 c3 n4 c4 m1 d1:Nat}
end
end
end Go.Proofs.YtnchbpoopnjghaaGreatDoor
