/- IntegerNorm answers true. -/
import Derived.Test.YtnchbpoopnjghaaGreatDoorCLMul
import Derived.Test.YtnchbpoopnjghaaGreatDoorCAk
set_option maxHeartbeats 100000000
set_option maxRecDepth 100000
set_option linter.all false
