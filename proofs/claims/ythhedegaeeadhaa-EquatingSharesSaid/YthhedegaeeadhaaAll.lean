/- All trees of the seat. -/
import Derived.Test.YthhedegaeeadhaaT1
import Derived.Test.YthhedegaeeadhaaT2
import Derived.Test.YthhedegaeeadhaaT3
import Derived.Test.YthhedegaeeadhaaT4
