/- The numbers of the functions; structures can be compared. -/
import Derived.Test.YtdclabgakicjeaaDoorXTy
set_option linter.unusedSimpArgs false
set_option linter.unusedVariables false
noncomputable section
namespace Go.Proofs.YtdclabgakicjeaaDoor
abbrev zb5:Nat:=3
abbrev zav:Nat:=9
abbrev ty_L_i64:Nat:=22
abbrev zkP:Nat:=38
abbrev za6:Nat:=42
abbrev zaX:Nat:=56
abbrev za2:Nat:=60
abbrev zaf:Nat:=66
abbrev zab:Nat:=74
abbrev zbb:Nat:=84
abbrev ze7:Nat:=87
abbrev zlO:Nat:=92
abbrev ze8:Nat:=97
abbrev zhI:Nat:=114
abbrev zdr:Nat:=118
abbrev zbk:Nat:=119
abbrev zad:Nat:=124
abbrev zep:Nat:=138
abbrev zbR:Nat:=142
abbrev zoH:Nat:=146
abbrev zpk:Nat:=148
abbrev zlN:Nat:=152
def zgK:Nat:=3
def zh7:Nat:=4
def zgl:Nat:=5
def ziL:Nat:=6
def zfr:Nat:=7
def zeE:Nat:=8
def zcg:Nat:=9
def zfc:Nat:=10
def ziK:Nat:=11
def zbz:Nat:=12
def zbn:Nat:=13
def zgm:Nat:=14
def zfo:Nat:=15
def zcm:Nat:=16
def zeA:Nat:=17
def zeB:Nat:=18
def zfT:Nat:=19
def zdw:Nat:=20
def zah:Nat:=21
def zaS:Nat:=22
def zfq:Nat:=23
def zfp:Nat:=24
def zfU:Nat:=25
def zeC:Nat:=26
def zfR:Nat:=27
def zcu:Nat:=28
def zdF:Nat:=29
def zeW:Nat:=30
def zfI:Nat:=31
def zfP:Nat:=32
def zdb:Nat:=33
def zcC:Nat:=34
def zbL:Nat:=35
def zgS:Nat:=36
def zcM:Nat:=37
def zde:Nat:=38
def zbK:Nat:=39
def zeV:Nat:=40
def zh8:Nat:=41
def zb6:Nat:=42
def zch:Nat:=43
def zd6:Nat:=44
def zbs:Nat:=45
def zeS:Nat:=46
def zba:Nat:=47
def zdd:Nat:=48
def zeU:Nat:=49
def zeT:Nat:=50
def zfS:Nat:=51
def za5:Nat:=54
def zbr:Nat:=55
def zeR:Nat:=56
def zfd:Nat:=57
def zbq:Nat:=58
def zfQ:Nat:=61
def zdc:Nat:=62
def zcV:Nat:=70
deriving instance DecidableEq for zaJ
deriving instance DecidableEq for GPart
deriving instance DecidableEq for zaq
deriving instance DecidableEq for GSeed
deriving instance DecidableEq for zaN
deriving instance DecidableEq for zbd
deriving instance DecidableEq for zaQ
deriving instance DecidableEq for zfv
deriving instance DecidableEq for zfu
deriving instance DecidableEq for zca
deriving instance DecidableEq for GUnit
deriving instance DecidableEq for zbY
deriving instance DecidableEq for zaY
deriving instance DecidableEq for zaV
deriving instance DecidableEq for zft
deriving instance DecidableEq for zap
deriving instance DecidableEq for zcN
deriving instance DecidableEq for zaz
deriving instance DecidableEq for zdt
deriving instance DecidableEq for zeq
deriving instance DecidableEq for GOp
deriving instance DecidableEq for zds
deriving instance DecidableEq for zaa
deriving instance DecidableEq for zbN
deriving instance DecidableEq for zaw
deriving instance DecidableEq for zbO
end Go.Proofs.YtdclabgakicjeaaDoor
end
