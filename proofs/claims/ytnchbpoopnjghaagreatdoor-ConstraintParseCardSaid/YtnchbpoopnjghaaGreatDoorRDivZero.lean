/- DivMod of the program and of the reference, where the divisor is zero. -/
import Derived.Test.YtnchbpoopnjghaaGreatDoorRRDivMod
set_option maxHeartbeats 100000000
set_option linter.all false
