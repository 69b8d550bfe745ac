/- awake of the laws: the examples of the document are answered as they should be. -/
import Derived.Test.YtnchbpoopnjghaaGreatDoorRAi
set_option maxHeartbeats 100000000
set_option linter.all false
namespace Go.Proofs.YtnchbpoopnjghaaGreatDoor
open Go.RowKit
def BH{n:Nat}(h:n≠0)(a:n<4294967296):digs n=[n]:=by rw[f4 h,Nat.mod_eq_of_lt a,Nat.div_eq_of_lt a,aG]
end Go.Proofs.YtnchbpoopnjghaaGreatDoor
