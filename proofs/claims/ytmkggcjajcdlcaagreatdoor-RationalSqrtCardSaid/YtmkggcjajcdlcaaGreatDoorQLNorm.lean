/- IntegerNorm answers true. -/
import Derived.Test.YtmkggcjajcdlcaaGreatDoorQLMul
import Derived.Test.YtmkggcjajcdlcaaGreatDoorQAk
set_option maxHeartbeats 100000000
set_option linter.all false
