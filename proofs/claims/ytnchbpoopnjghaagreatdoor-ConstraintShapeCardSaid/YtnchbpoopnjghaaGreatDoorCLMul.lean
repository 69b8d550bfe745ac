/- IntegerMul answers true. -/
import Derived.Test.YtnchbpoopnjghaaGreatDoorCLaw
import Derived.Test.YtnchbpoopnjghaaGreatDoorCAj
set_option maxHeartbeats 100000000
set_option maxRecDepth 100000
set_option linter.all false
