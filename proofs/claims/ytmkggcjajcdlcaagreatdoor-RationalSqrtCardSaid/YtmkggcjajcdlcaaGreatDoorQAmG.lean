/- What every world of a walk holds besides: the laid tables that the library reads. -/
import Derived.WalkKit
import Derived.Deep.OwnRows
import Derived.Test.YtmkggcjajcdlcaaGreatDoorProg
import Derived.Lib.AppendIntMem
import Derived.Lib.ItoaNum
set_option maxHeartbeats 100000000
set_option linter.all false
namespace Go.Proofs.YtmkggcjajcdlcaaGreatDoor
open Go.RowKit
def wB (w:World):Prop:=Lib.TabIs Tryz.prog w "internal/strconv.uint64pow10" .u64 Lib.pow10Tab
def jD (w:World):Prop:=∀w',Below w.heap.size w w'→wB w'
theorem jD.mono {w w':World} {B:Nat} (hb:Below B w w') (hB:w.heap.size=B) (h:jD w):jD w':=by subst hB;exact fun w'' h'=>h w'' (hb.trans (h'.mono hb.size))
theorem jD.here {w:World} (h:jD w):Lib.TabIs Tryz.prog w "internal/strconv.uint64pow10" .u64 Lib.pow10Tab:=h w (Below.refl _ _)
end Go.Proofs.YtmkggcjajcdlcaaGreatDoor
