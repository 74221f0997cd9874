/- All trees of the seat. -/
import Derived.Test.YtkmdeoejdlcjeaaT1
