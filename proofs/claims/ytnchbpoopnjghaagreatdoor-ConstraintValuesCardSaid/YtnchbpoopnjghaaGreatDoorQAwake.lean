/- awake of the laws: the examples of the document are answered as they should be. -/
import Derived.Test.YtnchbpoopnjghaaGreatDoorQAi
set_option maxHeartbeats 100000000
set_option linter.all false
namespace Go.Proofs.YtnchbpoopnjghaaGreatDoor
open Go.RowKit
theorem CN {n:Nat} (h:n≠0) (h':n<4294967296):digs n=[n]:=by
 rw[fV h,Nat.mod_eq_of_lt h',Nat.div_eq_of_lt h',aK]
end Go.Proofs.YtnchbpoopnjghaaGreatDoor
