/- All trees of the seat. -/
import Derived.Test.YtohpjbokhcifbaaT1
import Derived.Test.YtohpjbokhcifbaaT2
import Derived.Test.YtohpjbokhcifbaaT3
import Derived.Test.YtohpjbokhcifbaaT4
import Derived.Test.YtohpjbokhcifbaaT5
import Derived.Test.YtohpjbokhcifbaaT6
