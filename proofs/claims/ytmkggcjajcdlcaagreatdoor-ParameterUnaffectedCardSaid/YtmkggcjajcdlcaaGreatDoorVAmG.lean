/- What every world of a walk holds besides: the laid tables that the library reads. -/
import Derived.Test.YtmkggcjajcdlcaaGreatDoorVK
import Derived.Test.YtmkggcjajcdlcaaGreatDoorProg
set_option maxHeartbeats 100000000
set_option linter.all false
namespace Go.Proofs.YtmkggcjajcdlcaaGreatDoor
open Go.RowKit
def Hg (w:World):Prop:=Lib.TabIs Tryz.prog w "internal/strconv.uint64pow10" .u64 Lib.pow10Tab
def pF (w:World):Prop:=∀w',Below w.heap.size w w'->Hg w'
theorem pF.mono {w w':World} {B:Nat} (hb:Below B w w') (hB:w.heap.size=B) (h:pF w):pF w':=by subst hB;exact fun w'' h'=>h w'' (hb.trans (h'.mono hb.size))
theorem pF.here {w:World} (h:pF w):Lib.TabIs Tryz.prog w "internal/strconv.uint64pow10" .u64 Lib.pow10Tab:=h w (Below.refl _ _)
end Go.Proofs.YtmkggcjajcdlcaaGreatDoor
