/- What every world of a walk holds besides: the laid tables that the library reads. -/
import Derived.Test.YtmkggcjajcdlcaaGreatDoorEK
import Derived.Test.YtmkggcjajcdlcaaGreatDoorProg
set_option maxHeartbeats 100000000
set_option linter.all false
namespace Go.Proofs.YtmkggcjajcdlcaaGreatDoor
open Go.RowKit
def Kx (w:World):Prop:=Lib.TabIs Tryz.prog w "internal/strconv.uint64pow10" .u64 Lib.pow10Tab
def qY (w:World):Prop:=∀w',Below w.heap.size w w'->Kx w'
theorem qY.mono {w w':World} {B:Nat} (hb:Below B w w') (hB:w.heap.size=B) (h:qY w):qY w':=by subst hB;exact fun w'' h'=>h w'' (hb.trans (h'.mono hb.size))
theorem qY.here {w:World} (h:qY w):Lib.TabIs Tryz.prog w "internal/strconv.uint64pow10" .u64 Lib.pow10Tab:=h w (Below.refl _ _)
end Go.Proofs.YtmkggcjajcdlcaaGreatDoor
