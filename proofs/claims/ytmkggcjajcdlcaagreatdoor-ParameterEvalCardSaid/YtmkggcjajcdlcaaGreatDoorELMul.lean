/- IntegerMul answers true. -/
import Derived.Test.YtmkggcjajcdlcaaGreatDoorELaw
import Derived.Test.YtmkggcjajcdlcaaGreatDoorEAj
set_option maxHeartbeats 100000000
set_option linter.all false
