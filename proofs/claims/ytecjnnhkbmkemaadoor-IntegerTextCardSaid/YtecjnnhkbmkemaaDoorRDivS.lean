/- divide of the reference where the quotient is 0, the dividend has at most two words, or the divisor has one. -/
import Derived.Test.YtecjnnhkbmkemaaDoorRDig
import Derived.Test.YtecjnnhkbmkemaaDoorAl
namespace Go.Proofs.YtecjnnhkbmkemaaDoor
open Go.RowKit

end Go.Proofs.YtecjnnhkbmkemaaDoor
