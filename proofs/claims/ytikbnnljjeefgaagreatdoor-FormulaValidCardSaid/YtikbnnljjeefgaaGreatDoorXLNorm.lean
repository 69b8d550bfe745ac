/- IntegerNorm answers true. -/
import Derived.Test.YtikbnnljjeefgaaGreatDoorXLMul
import Derived.Test.YtikbnnljjeefgaaGreatDoorXAk
set_option maxHeartbeats 100000000
set_option linter.all false
