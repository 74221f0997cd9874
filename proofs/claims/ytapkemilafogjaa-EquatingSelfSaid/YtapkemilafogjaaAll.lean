/- All trees of the seat. -/
import Derived.Test.YtapkemilafogjaaT1
import Derived.Test.YtapkemilafogjaaT2
import Derived.Test.YtapkemilafogjaaT3
import Derived.Test.YtapkemilafogjaaT4
import Derived.Test.YtapkemilafogjaaT5
import Derived.Test.YtapkemilafogjaaT6
