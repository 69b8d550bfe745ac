/- IntegerMul answers true. -/
import Derived.Test.YtnchbpoopnjghaaGreatDoorHLaw
import Derived.Test.YtnchbpoopnjghaaGreatDoorHAj
set_option maxHeartbeats 100000000
set_option linter.all false
