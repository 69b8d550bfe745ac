/- IntegerMul answers true. -/
import Derived.Test.YtnchbpoopnjghaaGreatDoorRLaw
import Derived.Test.YtnchbpoopnjghaaGreatDoorRAj
set_option maxHeartbeats 100000000
set_option linter.all false
