/- All trees of the seat. -/
import Derived.Test.YtiienbfdcgipnaaT1
import Derived.Test.YtiienbfdcgipnaaT2
import Derived.Test.YtiienbfdcgipnaaT3
import Derived.Test.YtiienbfdcgipnaaT4
import Derived.Test.YtiienbfdcgipnaaT5
import Derived.Test.YtiienbfdcgipnaaT6
