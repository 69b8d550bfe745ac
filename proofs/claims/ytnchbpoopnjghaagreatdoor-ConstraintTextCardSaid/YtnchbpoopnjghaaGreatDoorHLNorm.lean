/- IntegerNorm answers true. -/
import Derived.Test.YtnchbpoopnjghaaGreatDoorHLMul
import Derived.Test.YtnchbpoopnjghaaGreatDoorHAk
set_option maxHeartbeats 100000000
set_option linter.all false
