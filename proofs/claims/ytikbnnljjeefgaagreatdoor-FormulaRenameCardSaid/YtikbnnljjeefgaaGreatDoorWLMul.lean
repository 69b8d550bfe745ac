/- IntegerMul answers true. -/
import Derived.Test.YtikbnnljjeefgaaGreatDoorWLaw
import Derived.Test.YtikbnnljjeefgaaGreatDoorWAj
set_option maxHeartbeats 100000000
set_option linter.all false
