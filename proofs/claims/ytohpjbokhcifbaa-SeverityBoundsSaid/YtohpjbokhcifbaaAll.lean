/- All trees of the seat. -/
import Derived.Test.YtohpjbokhcifbaaT1
import Derived.Test.YtohpjbokhcifbaaT2
