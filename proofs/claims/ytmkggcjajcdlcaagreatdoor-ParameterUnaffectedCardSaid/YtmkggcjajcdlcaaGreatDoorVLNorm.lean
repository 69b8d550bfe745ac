/- IntegerNorm answers true. -/
import Derived.Test.YtmkggcjajcdlcaaGreatDoorVLMul
import Derived.Test.YtmkggcjajcdlcaaGreatDoorVAk
set_option maxHeartbeats 100000000
set_option linter.all false
