/- digit of the reference. -/
import Derived.Test.YtnchbpoopnjghaaGreatDoorCAl
import Derived.Test.YtnchbpoopnjghaaGreatDoorCRBack
import Derived.Test.YtnchbpoopnjghaaGreatDoorCRFresh
import Derived.Test.YtnchbpoopnjghaaGreatDoorCAj
set_option maxHeartbeats 100000000
set_option maxRecDepth 100000
set_option linter.all false
