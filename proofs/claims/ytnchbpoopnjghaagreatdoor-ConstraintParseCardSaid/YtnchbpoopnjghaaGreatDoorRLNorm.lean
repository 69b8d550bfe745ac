/- IntegerNorm answers true. -/
import Derived.Test.YtnchbpoopnjghaaGreatDoorRLMul
import Derived.Test.YtnchbpoopnjghaaGreatDoorRAk
set_option maxHeartbeats 100000000
set_option linter.all false
