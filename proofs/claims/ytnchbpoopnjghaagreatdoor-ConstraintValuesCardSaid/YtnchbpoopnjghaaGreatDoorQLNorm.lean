/- IntegerNorm answers true. -/
import Derived.Test.YtnchbpoopnjghaaGreatDoorQLMul
import Derived.Test.YtnchbpoopnjghaaGreatDoorQAk
set_option maxHeartbeats 100000000
set_option linter.all false
