/- What every world of a walk holds besides: the laid tables that the library reads. -/
import Derived.WalkKit
import Derived.Deep.OwnRows
import Derived.Test.YtmpadildchphgaaGreatDoorProg
import Derived.Lib.AppendIntMem
import Derived.Lib.ItoaNum
namespace Go.Proofs.YtmpadildchphgaaGreatDoor
open Go.RowKit
def TabAt (w : World) : Prop := Lib.TabIs Tryz.prog w "internal/strconv.uint64pow10" .u64 Lib.pow10Tab
def TabG (w : World) : Prop := ∀ w', Below w.heap.size w w' → TabAt w'
theorem TabG.mono {w w' : World} {B : Nat} (hb : Below B w w') (hB : w.heap.size = B) (h : TabG w) : TabG w' := by subst hB; exact fun w'' h' => h w'' (hb.trans (h'.mono hb.size))
theorem TabG.here {w : World} (h : TabG w) : Lib.TabIs Tryz.prog w "internal/strconv.uint64pow10" .u64 Lib.pow10Tab := h w (Below.refl _ _)
end Go.Proofs.YtmpadildchphgaaGreatDoor
