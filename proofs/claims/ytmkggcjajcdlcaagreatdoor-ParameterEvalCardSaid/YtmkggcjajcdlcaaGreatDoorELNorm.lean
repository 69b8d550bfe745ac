/- IntegerNorm answers true. -/
import Derived.Test.YtmkggcjajcdlcaaGreatDoorELMul
import Derived.Test.YtmkggcjajcdlcaaGreatDoorEAk
set_option maxHeartbeats 100000000
set_option linter.all false
