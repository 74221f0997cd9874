/- All trees of the seat. -/
import Derived.Test.YticojpmhlhfhlaaGreatT1
import Derived.Test.YticojpmhlhfhlaaGreatT2
import Derived.Test.YticojpmhlhfhlaaGreatT3
import Derived.Test.YticojpmhlhfhlaaGreatT4
import Derived.Test.YticojpmhlhfhlaaGreatT5
import Derived.Test.YticojpmhlhfhlaaGreatT6
import Derived.Test.YticojpmhlhfhlaaGreatT7
import Derived.Test.YticojpmhlhfhlaaGreatT8
import Derived.Test.YticojpmhlhfhlaaGreatT9
import Derived.Test.YticojpmhlhfhlaaGreatT10
import Derived.Test.YticojpmhlhfhlaaGreatT11
import Derived.Test.YticojpmhlhfhlaaGreatT12
import Derived.Test.YticojpmhlhfhlaaGreatT13
