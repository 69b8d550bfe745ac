/- divide of the reference, every case. -/
import Derived.Test.YtnchbpoopnjghaaGreatDoorCRDivS
import Derived.Test.YtnchbpoopnjghaaGreatDoorCDivB
import Derived.Test.YtnchbpoopnjghaaGreatDoorCAk
set_option maxHeartbeats 100000000
set_option maxRecDepth 100000
set_option linter.all false
