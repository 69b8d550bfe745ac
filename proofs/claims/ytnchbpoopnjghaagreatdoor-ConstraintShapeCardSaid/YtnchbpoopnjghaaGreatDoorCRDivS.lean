/- divide of the reference where the quotient is 0, the dividend has at most two words, or the divisor has one. -/
import Derived.Test.YtnchbpoopnjghaaGreatDoorCRDig
set_option maxHeartbeats 100000000
set_option maxRecDepth 100000
set_option linter.all false
