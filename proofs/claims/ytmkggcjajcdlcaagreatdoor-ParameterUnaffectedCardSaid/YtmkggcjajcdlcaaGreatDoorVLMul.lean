/- IntegerMul answers true. -/
import Derived.Test.YtmkggcjajcdlcaaGreatDoorVLaw
import Derived.Test.YtmkggcjajcdlcaaGreatDoorVAj
set_option maxHeartbeats 100000000
set_option linter.all false
