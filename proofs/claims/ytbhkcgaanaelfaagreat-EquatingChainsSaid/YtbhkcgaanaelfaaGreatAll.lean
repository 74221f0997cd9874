/- All trees of the seat. -/
import Derived.Test.YtbhkcgaanaelfaaGreatT1
import Derived.Test.YtbhkcgaanaelfaaGreatT2
import Derived.Test.YtbhkcgaanaelfaaGreatT3
import Derived.Test.YtbhkcgaanaelfaaGreatT4
import Derived.Test.YtbhkcgaanaelfaaGreatT5
import Derived.Test.YtbhkcgaanaelfaaGreatT6
import Derived.Test.YtbhkcgaanaelfaaGreatT7
import Derived.Test.YtbhkcgaanaelfaaGreatT8
import Derived.Test.YtbhkcgaanaelfaaGreatT9
import Derived.Test.YtbhkcgaanaelfaaGreatT10
import Derived.Test.YtbhkcgaanaelfaaGreatT11
