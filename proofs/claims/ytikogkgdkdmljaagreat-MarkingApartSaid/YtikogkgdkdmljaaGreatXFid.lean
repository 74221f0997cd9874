/- The numbers of the functions; structures can be compared. -/
import Derived.Test.YtikogkgdkdmljaaGreatXTy
set_option linter.unusedSimpArgs false
set_option linter.unusedVariables false
noncomputable section
namespace Go.Proofs.YtikogkgdkdmljaaGreat
abbrev za5:Nat:=3
abbrev zfw:Nat:=4
abbrev ty_L_i64:Nat:=22
abbrev zkv:Nat:=33
abbrev zaA:Nat:=35
abbrev zav:Nat:=42
abbrev zaP:Nat:=51
abbrev zct:Nat:=53
abbrev zas:Nat:=61
abbrev zac:Nat:=64
abbrev zcC:Nat:=67
abbrev zaf:Nat:=82
abbrev zda:Nat:=90
abbrev zco:Nat:=95
abbrev zrb:Nat:=98
abbrev zap:Nat:=103
abbrev zaK:Nat:=108
abbrev zAL:Nat:=111
abbrev za8:Nat:=113
abbrev zbN:Nat:=114
abbrev zfa:Nat:=131
abbrev za9:Nat:=133
abbrev zbF:Nat:=136
abbrev zbp:Nat:=149
abbrev zdW:Nat:=153
abbrev zaC:Nat:=158
abbrev zx8:Nat:=169
abbrev zwY:Nat:=170
abbrev zcp:Nat:=225
def zmF:Nat:=5
def zpW:Nat:=9
def zmG:Nat:=10
def zq0:Nat:=11
def zk9:Nat:=12
def zj3:Nat:=13
def zij:Nat:=14
def zbW:Nat:=15
def zlP:Nat:=17
def zpZ:Nat:=18
def zgw:Nat:=22
def zpX:Nat:=23
def zlc:Nat:=24
def zaV:Nat:=26
def zgT:Nat:=29
def zlB:Nat:=30
def zj8:Nat:=31
def zj7:Nat:=32
def zfJ:Nat:=33
def zjl:Nat:=34
def zjn:Nat:=35
def zjm:Nat:=36
def zdR:Nat:=37
def zlR:Nat:=38
def zlQ:Nat:=39
def zj6:Nat:=40
def zgU:Nat:=41
def zbl:Nat:=42
def zcN:Nat:=43
def zdh:Nat:=44
def zfx:Nat:=45
def zep:Nat:=46
def zhC:Nat:=47
def zdB:Nat:=50
def zcr:Nat:=51
def zeR:Nat:=52
def zfS:Nat:=56
def zmI:Nat:=57
def zmD:Nat:=58
def zdz:Nat:=59
def zf1:Nat:=60
def zdA:Nat:=61
def zj4:Nat:=62
def zfq:Nat:=63
def zj5:Nat:=64
def znC:Nat:=65
def zhN:Nat:=66
def zhO:Nat:=67
def zhl:Nat:=68
def ziq:Nat:=69
def zgW:Nat:=70
def zcU:Nat:=71
def zef:Nat:=72
def zeD:Nat:=73
def zgV:Nat:=74
def zeQ:Nat:=75
def zf3:Nat:=76
def zin:Nat:=77
def zgx:Nat:=78
def zim:Nat:=79
def zsJ:Nat:=81
def zlT:Nat:=82
def zka:Nat:=83
def zcG:Nat:=84
def zjv:Nat:=87
def zil:Nat:=88
def zmH:Nat:=89
def zik:Nat:=90
def zhP:Nat:=91
def zf0:Nat:=92
def zjx:Nat:=93
def zlb:Nat:=94
def zio:Nat:=95
def zhB:Nat:=96
def zjw:Nat:=97
def zj9:Nat:=98
def zkG:Nat:=99
def zbx:Nat:=101
def zfK:Nat:=102
def zla:Nat:=103
def zkb:Nat:=104
def zfz:Nat:=105
def znD:Nat:=106
def znE:Nat:=107
def zfy:Nat:=108
def zoA:Nat:=119
def zpY:Nat:=120
def znF:Nat:=121
def zbP:Nat:=131
def zb7:Nat:=132
def zk8:Nat:=133
def zkd:Nat:=134
def zmK:Nat:=135
def zlU:Nat:=136
def zoB:Nat:=137
def zjo:Nat:=138
def zoy:Nat:=147
def zlS:Nat:=148
def zkc:Nat:=149
def zgY:Nat:=150
def zgX:Nat:=151
def zmJ:Nat:=152
def zbB:Nat:=153
def zhA:Nat:=154
def zgG:Nat:=156
def zhm:Nat:=157
def zoz:Nat:=160
def zgZ:Nat:=161
def zb0:Nat:=166
def zlO:Nat:=167
def zmE:Nat:=168
def zeJ:Nat:=169
def zcd:Nat:=170
def zcv:Nat:=174
def zlo:Nat:=177
def zup:Nat:=178
deriving instance DecidableEq for za1
deriving instance DecidableEq for zaR
deriving instance DecidableEq for GPart
deriving instance DecidableEq for zaG
deriving instance DecidableEq for zbt
deriving instance DecidableEq for GSeed
deriving instance DecidableEq for za6
deriving instance DecidableEq for zaz
deriving instance DecidableEq for zaM
deriving instance DecidableEq for zab
deriving instance DecidableEq for zbv
deriving instance DecidableEq for zba
deriving instance DecidableEq for zbk
deriving instance DecidableEq for GTask
deriving instance DecidableEq for zae
deriving instance DecidableEq for zay
deriving instance DecidableEq for zbj
deriving instance DecidableEq for zc2
deriving instance DecidableEq for zah
deriving instance DecidableEq for za3
end Go.Proofs.YtikogkgdkdmljaaGreat
end
