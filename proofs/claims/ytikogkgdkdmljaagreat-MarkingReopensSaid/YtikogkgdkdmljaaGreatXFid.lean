/- The numbers of the functions; structures can be compared. -/
import Derived.Test.YtikogkgdkdmljaaGreatXTy
set_option linter.unusedSimpArgs false
set_option linter.unusedVariables false
noncomputable section
namespace Go.Proofs.YtikogkgdkdmljaaGreat
abbrev za0:Nat:=3
abbrev zff:Nat:=4
abbrev ty_L_i64:Nat:=22
abbrev zj2:Nat:=33
abbrev zay:Nat:=35
abbrev zav:Nat:=42
abbrev ztr:Nat:=49
abbrev zaN:Nat:=51
abbrev zb4:Nat:=53
abbrev zar:Nat:=61
abbrev zac:Nat:=64
abbrev zdK:Nat:=67
abbrev zaf:Nat:=82
abbrev zc1:Nat:=90
abbrev zcg:Nat:=95
abbrev zp1:Nat:=98
abbrev zal:Nat:=103
abbrev zaI:Nat:=108
abbrev zzi:Nat:=111
abbrev za2:Nat:=113
abbrev zbF:Nat:=114
abbrev zeU:Nat:=131
abbrev za3:Nat:=133
abbrev zbA:Nat:=136
abbrev zbm:Nat:=149
abbrev zdJ:Nat:=153
abbrev zax:Nat:=158
abbrev zch:Nat:=225
def zkR:Nat:=7
def zoN:Nat:=9
def zjx:Nat:=10
def zpR:Nat:=11
def zkE:Nat:=12
def zlf:Nat:=14
def zca:Nat:=15
def zgf:Nat:=22
def zoO:Nat:=23
def za8:Nat:=26
def znv:Nat:=27
def zgA:Nat:=29
def zk4:Nat:=30
def zjB:Nat:=31
def zjA:Nat:=32
def zfr:Nat:=33
def ziS:Nat:=34
def ziU:Nat:=35
def ziT:Nat:=36
def zel:Nat:=37
def zlg:Nat:=38
def zlX:Nat:=40
def zgB:Nat:=41
def zbh:Nat:=42
def zcC:Nat:=43
def zc8:Nat:=44
def zfg:Nat:=45
def zed:Nat:=46
def zdp:Nat:=50
def zcl:Nat:=51
def zeB:Nat:=52
def zfB:Nat:=56
def zlZ:Nat:=57
def zlV:Nat:=58
def zdn:Nat:=59
def zfM:Nat:=60
def zdo:Nat:=61
def zjy:Nat:=62
def ze9:Nat:=63
def zjz:Nat:=64
def zmI:Nat:=65
def zhv:Nat:=66
def zhw:Nat:=67
def zg3:Nat:=68
def zhZ:Nat:=69
def zgD:Nat:=70
def zcI:Nat:=71
def zd2:Nat:=72
def zep:Nat:=73
def zgC:Nat:=74
def zeA:Nat:=75
def zfP:Nat:=76
def zhX:Nat:=77
def zgg:Nat:=78
def zhW:Nat:=79
def zrr:Nat:=81
def zcw:Nat:=84
def zi1:Nat:=87
def zhV:Nat:=88
def zlY:Nat:=89
def zhU:Nat:=90
def zhx:Nat:=91
def zfL:Nat:=92
def zi3:Nat:=93
def zkG:Nat:=94
def zhY:Nat:=95
def zhk:Nat:=96
def zi2:Nat:=97
def zjC:Nat:=98
def zkc:Nat:=99
def zbt:Nat:=101
def zfs:Nat:=102
def zkF:Nat:=103
def zjD:Nat:=104
def zfj:Nat:=105
def zmJ:Nat:=106
def zmK:Nat:=107
def zfi:Nat:=108
def zbG:Nat:=131
def zb2:Nat:=132
def zkD:Nat:=133
def zjF:Nat:=134
def zl1:Nat:=135
def zli:Nat:=136
def znx:Nat:=137
def ziV:Nat:=138
def znw:Nat:=147
def zlh:Nat:=148
def zjE:Nat:=149
def zgF:Nat:=150
def zgE:Nat:=151
def zl0:Nat:=152
def zbx:Nat:=153
def zhj:Nat:=154
def zgo:Nat:=156
def zg4:Nat:=157
def zbT:Nat:=166
def zle:Nat:=167
def zlW:Nat:=168
def zeu:Nat:=169
def zb6:Nat:=170
def zcn:Nat:=174
def zkS:Nat:=177
def zs6:Nat:=178
deriving instance DecidableEq for za6
deriving instance DecidableEq for zaP
deriving instance DecidableEq for GPart
deriving instance DecidableEq for zaD
deriving instance DecidableEq for zbr
deriving instance DecidableEq for GSeed
deriving instance DecidableEq for zaY
deriving instance DecidableEq for zaA
deriving instance DecidableEq for zaL
deriving instance DecidableEq for zab
deriving instance DecidableEq for zbp
deriving instance DecidableEq for zbf
deriving instance DecidableEq for zbU
deriving instance DecidableEq for GTask
deriving instance DecidableEq for zae
deriving instance DecidableEq for zao
deriving instance DecidableEq for zba
deriving instance DecidableEq for zcR
deriving instance DecidableEq for zah
deriving instance DecidableEq for za7
end Go.Proofs.YtikogkgdkdmljaaGreat
end
