/- The numbers of the functions; structures can be compared. -/
import Derived.Test.YtikogkgdkdmljaaGreatXTy
set_option linter.unusedSimpArgs false
set_option linter.unusedVariables false
noncomputable section
namespace Go.Proofs.YtikogkgdkdmljaaGreat
abbrev za5:Nat:=3
abbrev zfv:Nat:=4
abbrev ty_L_i64:Nat:=22
abbrev zkA:Nat:=33
abbrev zaB:Nat:=35
abbrev zaz:Nat:=42
abbrev zaR:Nat:=51
abbrev zb3:Nat:=53
abbrev zau:Nat:=61
abbrev zac:Nat:=64
abbrev zc2:Nat:=67
abbrev zaf:Nat:=82
abbrev zda:Nat:=90
abbrev zcr:Nat:=95
abbrev zrf:Nat:=98
abbrev zap:Nat:=103
abbrev zaL:Nat:=108
abbrev zAV:Nat:=111
abbrev za8:Nat:=113
abbrev zbL:Nat:=114
abbrev zfa:Nat:=131
abbrev za9:Nat:=133
abbrev zbF:Nat:=136
abbrev zbo:Nat:=149
abbrev zdR:Nat:=153
abbrev zaC:Nat:=158
abbrev zyi:Nat:=169
abbrev zw8:Nat:=170
abbrev zcs:Nat:=225
def zm9:Nat:=4
def zpW:Nat:=9
def zmI:Nat:=10
def zq5:Nat:=11
def zld:Nat:=12
def zj5:Nat:=13
def zis:Nat:=14
def zct:Nat:=15
def zlP:Nat:=17
def znA:Nat:=19
def zkc:Nat:=20
def zlT:Nat:=21
def zfd:Nat:=22
def zkd:Nat:=23
def zhG:Nat:=24
def zaY:Nat:=26
def zgT:Nat:=29
def zlC:Nat:=30
def zka:Nat:=31
def zj9:Nat:=32
def zfG:Nat:=33
def zjs:Nat:=34
def zju:Nat:=35
def zjt:Nat:=36
def zdN:Nat:=37
def zlR:Nat:=38
def zlQ:Nat:=39
def zj8:Nat:=40
def zgU:Nat:=41
def zbk:Nat:=42
def zcN:Nat:=43
def zdi:Nat:=44
def zfw:Nat:=45
def zeo:Nat:=46
def zhF:Nat:=47
def zpX:Nat:=48
def zpY:Nat:=49
def zdw:Nat:=50
def zcu:Nat:=51
def zeQ:Nat:=52
def zfP:Nat:=56
def zmK:Nat:=57
def zmG:Nat:=58
def zdu:Nat:=59
def zf1:Nat:=60
def zdv:Nat:=61
def zj6:Nat:=62
def zfq:Nat:=63
def zj7:Nat:=64
def znx:Nat:=65
def zhS:Nat:=66
def zhT:Nat:=67
def zhp:Nat:=68
def ziy:Nat:=69
def zgW:Nat:=70
def zcU:Nat:=71
def zed:Nat:=72
def zeC:Nat:=73
def zgV:Nat:=74
def zeP:Nat:=75
def zf3:Nat:=76
def ziw:Nat:=77
def zgx:Nat:=78
def ziv:Nat:=79
def zsK:Nat:=81
def zlU:Nat:=82
def zke:Nat:=83
def zcF:Nat:=84
def zjC:Nat:=87
def ziu:Nat:=88
def zmJ:Nat:=89
def zit:Nat:=90
def zhU:Nat:=91
def zf0:Nat:=92
def zjE:Nat:=93
def zlf:Nat:=94
def zix:Nat:=95
def zhE:Nat:=96
def zjD:Nat:=97
def zkb:Nat:=98
def zkL:Nat:=99
def zbx:Nat:=101
def zfH:Nat:=102
def zle:Nat:=103
def zkf:Nat:=104
def zfy:Nat:=105
def zny:Nat:=106
def znz:Nat:=107
def zfx:Nat:=108
def zoA:Nat:=119
def zpZ:Nat:=120
def znB:Nat:=121
def zbP:Nat:=131
def zcc:Nat:=132
def zlc:Nat:=133
def zkh:Nat:=134
def zmM:Nat:=135
def zlV:Nat:=136
def zoB:Nat:=137
def zjv:Nat:=138
def zoy:Nat:=147
def zlS:Nat:=148
def zkg:Nat:=149
def zgY:Nat:=150
def zgX:Nat:=151
def zmL:Nat:=152
def zbC:Nat:=153
def zhD:Nat:=154
def zgG:Nat:=156
def zhq:Nat:=157
def zoz:Nat:=160
def zgZ:Nat:=161
def zb2:Nat:=166
def zlO:Nat:=167
def zmH:Nat:=168
def zeJ:Nat:=169
def zce:Nat:=170
def zcx:Nat:=174
def zlt:Nat:=177
def zuu:Nat:=178
deriving instance DecidableEq for zaZ
deriving instance DecidableEq for zaH
deriving instance DecidableEq for GPart
deriving instance DecidableEq for zaG
deriving instance DecidableEq for zbt
deriving instance DecidableEq for GSeed
deriving instance DecidableEq for za7
deriving instance DecidableEq for zay
deriving instance DecidableEq for zaN
deriving instance DecidableEq for zab
deriving instance DecidableEq for zbv
deriving instance DecidableEq for zbc
deriving instance DecidableEq for zbX
deriving instance DecidableEq for GTask
deriving instance DecidableEq for zae
deriving instance DecidableEq for zax
deriving instance DecidableEq for zbf
deriving instance DecidableEq for zc3
deriving instance DecidableEq for zah
deriving instance DecidableEq for za3
end Go.Proofs.YtikogkgdkdmljaaGreat
end
