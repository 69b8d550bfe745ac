/- IntegerMul answers true. -/
import Derived.Test.YtnchbpoopnjghaaGreatDoorDLaw
import Derived.Test.YtnchbpoopnjghaaGreatDoorDAj
set_option maxHeartbeats 100000000
set_option linter.all false
