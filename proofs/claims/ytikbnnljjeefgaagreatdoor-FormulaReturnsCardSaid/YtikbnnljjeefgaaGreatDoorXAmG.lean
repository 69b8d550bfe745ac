/- What every world of a walk holds besides: the laid tables that the library reads. -/
import Derived.WalkKit
import Derived.Deep.OwnRows
import Derived.Test.YtikbnnljjeefgaaGreatDoorProg
import Derived.Lib.AppendIntMem
import Derived.Lib.ItoaNum
set_option maxHeartbeats 100000000
namespace Go.Proofs.YtikbnnljjeefgaaGreatDoor
open Go.RowKit
def CL (w:World):Prop:=Lib.TabIs Tryz.prog w "internal/strconv.uint64pow10" .u64 Lib.pow10Tab
def oH (w:World):Prop:=∀w',Below w.heap.size w w'→CL w'
theorem oH.mono {w w':World} {B:Nat} (hb:Below B w w') (hB:w.heap.size=B) (h:oH w):oH w':=by subst hB;exact fun w'' h'=>h w'' (hb.trans (h'.mono hb.size))
theorem oH.here {w:World} (h:oH w):Lib.TabIs Tryz.prog w "internal/strconv.uint64pow10" .u64 Lib.pow10Tab:=h w (Below.refl _ _)
end Go.Proofs.YtikbnnljjeefgaaGreatDoor
