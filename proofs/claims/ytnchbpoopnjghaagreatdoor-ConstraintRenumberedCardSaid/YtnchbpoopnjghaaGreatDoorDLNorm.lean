/- IntegerNorm answers true. -/
import Derived.Test.YtnchbpoopnjghaaGreatDoorDLMul
import Derived.Test.YtnchbpoopnjghaaGreatDoorDAk
set_option maxHeartbeats 100000000
set_option linter.all false
