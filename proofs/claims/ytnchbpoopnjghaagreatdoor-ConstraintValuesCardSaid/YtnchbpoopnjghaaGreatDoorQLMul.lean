/- IntegerMul answers true. -/
import Derived.Test.YtnchbpoopnjghaaGreatDoorQLaw
import Derived.Test.YtnchbpoopnjghaaGreatDoorQAj
set_option maxHeartbeats 100000000
set_option linter.all false
