/- times and minus of the reference once more: what they return is new memory. -/
import Derived.Test.YtnchbpoopnjghaaGreatDoorCAd
set_option maxHeartbeats 100000000
set_option maxRecDepth 100000
set_option linter.all false
