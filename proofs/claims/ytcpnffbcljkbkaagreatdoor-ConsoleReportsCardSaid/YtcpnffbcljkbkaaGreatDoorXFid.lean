/- The numbers of the functions; structures can be compared. -/
import Derived.Test.YtcpnffbcljkbkaaGreatDoorXTy
set_option linter.all false
noncomputable section
namespace Go.Proofs.YtcpnffbcljkbkaaGreatDoor
deriving instance DecidableEq for zbo
deriving instance DecidableEq for zbA
deriving instance DecidableEq for GPart
deriving instance DecidableEq for zaQ
deriving instance DecidableEq for GSeed
deriving instance DecidableEq for zbT
deriving instance DecidableEq for zbQ
deriving instance DecidableEq for zbC
deriving instance DecidableEq for zbr
deriving instance DecidableEq for zdv
deriving instance DecidableEq for zeT
deriving instance DecidableEq for GUnit
deriving instance DecidableEq for zcf
deriving instance DecidableEq for zb4
deriving instance DecidableEq for zbF
deriving instance DecidableEq for zc8
deriving instance DecidableEq for zbH
deriving instance DecidableEq for zaV
deriving instance DecidableEq for zb8
deriving instance DecidableEq for zak
deriving instance DecidableEq for zcE
deriving instance DecidableEq for zcL
deriving instance DecidableEq for zaK
deriving instance DecidableEq for zmu
deriving instance DecidableEq for zbu
deriving instance DecidableEq for GOp
deriving instance DecidableEq for zag
deriving instance DecidableEq for zbL
deriving instance DecidableEq for zc1
deriving instance DecidableEq for zbk
deriving instance DecidableEq for zaZ
deriving instance DecidableEq for zgQ
deriving instance DecidableEq for zck
deriving instance DecidableEq for zb3
deriving instance DecidableEq for zcb
deriving instance DecidableEq for zdG
deriving instance DecidableEq for zcp
deriving instance DecidableEq for zbZ
deriving instance DecidableEq for za7
end Go.Proofs.YtcpnffbcljkbkaaGreatDoor
end
