/- The numbers of the functions; structures can be compared. -/
import Derived.Test.YtlecnobdfhlmnaaGreatXTy
set_option linter.all false
noncomputable section
namespace Go.Proofs.YtlecnobdfhlmnaaGreat
deriving instance DecidableEq for zbh
deriving instance DecidableEq for zaY
deriving instance DecidableEq for GPart
deriving instance DecidableEq for zaQ
deriving instance DecidableEq for zbu
deriving instance DecidableEq for GSeed
deriving instance DecidableEq for zbK
deriving instance DecidableEq for zam
deriving instance DecidableEq for zbf
deriving instance DecidableEq for zad
deriving instance DecidableEq for zan
deriving instance DecidableEq for zaP
deriving instance DecidableEq for zbg
deriving instance DecidableEq for za6
deriving instance DecidableEq for zcb
deriving instance DecidableEq for zaJ
deriving instance DecidableEq for zak
deriving instance DecidableEq for za1
deriving instance DecidableEq for zcq
deriving instance DecidableEq for zck
deriving instance DecidableEq for zaF
deriving instance DecidableEq for zb7
deriving instance DecidableEq for zcY
deriving instance DecidableEq for zcj
end Go.Proofs.YtlecnobdfhlmnaaGreat
end
