/- All trees of the seat. -/
import Derived.Test.YtdhibifcofaioaaGreatT1
import Derived.Test.YtdhibifcofaioaaGreatT2
import Derived.Test.YtdhibifcofaioaaGreatT3
import Derived.Test.YtdhibifcofaioaaGreatT4
import Derived.Test.YtdhibifcofaioaaGreatT5
import Derived.Test.YtdhibifcofaioaaGreatT6
import Derived.Test.YtdhibifcofaioaaGreatT7
import Derived.Test.YtdhibifcofaioaaGreatT8
import Derived.Test.YtdhibifcofaioaaGreatT9
