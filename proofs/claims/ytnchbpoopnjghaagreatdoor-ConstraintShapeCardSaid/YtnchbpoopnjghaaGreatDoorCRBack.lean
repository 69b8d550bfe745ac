/- back of the reference: a list shifted to the right. -/
import Derived.Test.YtnchbpoopnjghaaGreatDoorCAf
set_option maxHeartbeats 100000000
set_option maxRecDepth 100000
set_option linter.all false
