/- IntegerNorm answers true. -/
import Derived.Test.YtikbnnljjeefgaaGreatDoorWLMul
import Derived.Test.YtikbnnljjeefgaaGreatDoorWAk
set_option maxHeartbeats 100000000
set_option linter.all false
