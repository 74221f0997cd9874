/- The numbers of the functions; structures can be compared. -/
import Derived.Test.YtdclabgakicjeaaGreatDoorXTy
set_option linter.unusedSimpArgs false
set_option linter.unusedVariables false
noncomputable section
namespace Go.Proofs.YtdclabgakicjeaaGreatDoor
abbrev zbK:Nat:=3
abbrev zaD:Nat:=9
abbrev zqd:Nat:=22
abbrev zbh:Nat:=26
abbrev zbe:Nat:=30
abbrev zjp:Nat:=34
abbrev zag:Nat:=36
abbrev zcJ:Nat:=38
abbrev zcb:Nat:=44
abbrev znV:Nat:=60
abbrev zbr:Nat:=64
abbrev zab:Nat:=89
abbrev zbA:Nat:=98
abbrev zgu:Nat:=101
abbrev zpk:Nat:=105
abbrev zgv:Nat:=110
abbrev zjI:Nat:=115
abbrev zeC:Nat:=118
abbrev zbN:Nat:=119
abbrev zae:Nat:=123
abbrev zca:Nat:=159
abbrev zbS:Nat:=161
abbrev zf2:Nat:=163
abbrev zfH:Nat:=166
abbrev zcx:Nat:=169
abbrev ztp:Nat:=173
abbrev zt5:Nat:=175
abbrev zpj:Nat:=179
def zhY:Nat:=3
def zkp:Nat:=4
def zb6:Nat:=5
def zlk:Nat:=6
def zgW:Nat:=7
def zfV:Nat:=8
def za8:Nat:=9
def zaj:Nat:=10
def zbp:Nat:=11
def zb5:Nat:=12
def zgC:Nat:=13
def zcz:Nat:=14
def zgD:Nat:=15
def zix:Nat:=16
def zbP:Nat:=17
def zfE:Nat:=18
def zgA:Nat:=19
def zkr:Nat:=20
def zgi:Nat:=21
def zlj:Nat:=22
def zdD:Nat:=23
def zen:Nat:=24
def zc8:Nat:=25
def ziy:Nat:=26
def zdj:Nat:=27
def zfQ:Nat:=28
def zfR:Nat:=29
def zhu:Nat:=30
def zeF:Nat:=31
def zgV:Nat:=32
def zgU:Nat:=33
def zhv:Nat:=34
def zfS:Nat:=35
def zhs:Nat:=36
def zds:Nat:=37
def zhq:Nat:=38
def zek:Nat:=39
def zdE:Nat:=40
def zcn:Nat:=41
def ziw:Nat:=42
def zdP:Nat:=43
def zks:Nat:=44
def zeO:Nat:=45
def zgj:Nat:=46
def zeo:Nat:=47
def zcm:Nat:=48
def zhe:Nat:=49
def zjj:Nat:=50
def zgE:Nat:=51
def zkt:Nat:=52
def zji:Nat:=53
def zhf:Nat:=54
def zgh:Nat:=55
def zkq:Nat:=56
def zcT:Nat:=57
def zc9:Nat:=58
def zcA:Nat:=59
def zcM:Nat:=60
def zbb:Nat:=61
def zej:Nat:=62
def zb0:Nat:=63
def zge:Nat:=64
def zem:Nat:=65
def zgg:Nat:=66
def zgf:Nat:=67
def zht:Nat:=68
def zbq:Nat:=69
def zbZ:Nat:=70
def zgd:Nat:=71
def zgB:Nat:=72
def zbY:Nat:=73
def zhr:Nat:=77
def zel:Nat:=78
def ze6:Nat:=81
def zhw:Nat:=82
def zdZ:Nat:=88
deriving instance DecidableEq for ze2
deriving instance DecidableEq for zav
deriving instance DecidableEq for zc1
deriving instance DecidableEq for zaH
deriving instance DecidableEq for zc5
deriving instance DecidableEq for zdM
deriving instance DecidableEq for GOp
deriving instance DecidableEq for zaG
deriving instance DecidableEq for zaS
deriving instance DecidableEq for zbI
deriving instance DecidableEq for za5
deriving instance DecidableEq for zaL
deriving instance DecidableEq for za1
deriving instance DecidableEq for GPart
deriving instance DecidableEq for zay
deriving instance DecidableEq for GSeed
deriving instance DecidableEq for za6
deriving instance DecidableEq for zbC
deriving instance DecidableEq for za9
deriving instance DecidableEq for zgZ
deriving instance DecidableEq for zgY
deriving instance DecidableEq for zc0
deriving instance DecidableEq for GUnit
deriving instance DecidableEq for zcK
deriving instance DecidableEq for zbi
deriving instance DecidableEq for zbf
deriving instance DecidableEq for zaa
deriving instance DecidableEq for zcp
deriving instance DecidableEq for zaM
deriving instance DecidableEq for zcq
end Go.Proofs.YtdclabgakicjeaaGreatDoor
end
