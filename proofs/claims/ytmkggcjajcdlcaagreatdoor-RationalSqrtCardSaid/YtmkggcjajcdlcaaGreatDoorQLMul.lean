/- IntegerMul answers true. -/
import Derived.Test.YtmkggcjajcdlcaaGreatDoorQLaw
import Derived.Test.YtmkggcjajcdlcaaGreatDoorQAj
set_option maxHeartbeats 100000000
set_option linter.all false
