/- awake of the laws: the examples of the document are answered as they should be. -/
import Derived.Test.YtmkggcjajcdlcaaGreatDoorEAi
set_option maxHeartbeats 100000000
set_option linter.all false
namespace Go.Proofs.YtmkggcjajcdlcaaGreatDoor
open Go.RowKit
theorem ub {n:Nat} (h:n≠0) (h':n<4294967296):digs n=[n]:=by
 rw[il h,Nat.mod_eq_of_lt h',Nat.div_eq_of_lt h',aK]
theorem ef.ext {w w':World} {v:Value} {z:Int} (h:ef w v z) (hb:aO w w'):ef w' v z:=h.below hb
end Go.Proofs.YtmkggcjajcdlcaaGreatDoor
