/- Parse of the reference, over plain data. -/
import Derived.Test.YtecjnnhkbmkemaaDoorRFmt
import Derived.Test.YtecjnnhkbmkemaaDoorPrs
import Derived.Test.YtecjnnhkbmkemaaDoorAmX
namespace Go.Proofs.YtecjnnhkbmkemaaDoor
open Go.RowKit

theorem num_take {l : List UInt8} {i : Nat} (h : i < l.length) : num (l.take (i + 1)) = 10 * num (l.take i) + dv l[i] := by
  rw [List.take_succ_eq_append_getElem h, num_snoc]

end Go.Proofs.YtecjnnhkbmkemaaDoor
