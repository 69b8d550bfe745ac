/- IntegerMul answers true. -/
import Derived.Test.YtikbnnljjeefgaaGreatDoorXLaw
import Derived.Test.YtikbnnljjeefgaaGreatDoorXAj
set_option maxHeartbeats 100000000
set_option linter.all false
