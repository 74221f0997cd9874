/- The numbers of the functions; structures can be compared. -/
import Derived.Test.YtikogkgdkdmljaaGreatXTy
set_option linter.unusedSimpArgs false
set_option linter.unusedVariables false
noncomputable section
namespace Go.Proofs.YtikogkgdkdmljaaGreat
abbrev za9:Nat:=3
abbrev ziE:Nat:=4
abbrev ty_L_i64:Nat:=22
abbrev zn5:Nat:=33
abbrev zaK:Nat:=35
abbrev zaI:Nat:=42
abbrev zao:Nat:=51
abbrev zdR:Nat:=53
abbrev zaC:Nat:=61
abbrev zac:Nat:=64
abbrev zgj:Nat:=67
abbrev zak:Nat:=82
abbrev zff:Nat:=90
abbrev zdF:Nat:=95
abbrev zuy:Nat:=98
abbrev zay:Nat:=103
abbrev zaV:Nat:=108
abbrev zDU:Nat:=111
abbrev zbl:Nat:=113
abbrev zcn:Nat:=114
abbrev zig:Nat:=131
abbrev zbm:Nat:=133
abbrev zb8:Nat:=136
abbrev zbE:Nat:=149
abbrev zgi:Nat:=153
abbrev zaJ:Nat:=158
abbrev zBq:Nat:=169
abbrev zAj:Nat:=170
abbrev zck:Nat:=225
def zqf:Nat:=3
def ztk:Nat:=9
def zqg:Nat:=10
def zuo:Nat:=11
def zoK:Nat:=12
def znG:Nat:=13
def zlY:Nat:=14
def zcy:Nat:=15
def zlZ:Nat:=16
def zpr:Nat:=17
def zqk:Nat:=18
def zjW:Nat:=22
def ztl:Nat:=23
def zoN:Nat:=24
def za3:Nat:=26
def zkk:Nat:=29
def zpc:Nat:=30
def znL:Nat:=31
def znK:Nat:=32
def ziX:Nat:=33
def zmY:Nat:=34
def zm0:Nat:=35
def zmZ:Nat:=36
def zfu:Nat:=37
def zpt:Nat:=38
def zps:Nat:=39
def znJ:Nat:=40
def zkl:Nat:=41
def zby:Nat:=42
def zeG:Nat:=43
def zfp:Nat:=44
def zew:Nat:=45
def zaf:Nat:=46
def zk9:Nat:=47
def zfL:Nat:=50
def zdK:Nat:=51
def zhI:Nat:=52
def zi9:Nat:=56
def zqi:Nat:=57
def zqd:Nat:=58
def zfJ:Nat:=59
def zjk:Nat:=60
def zfK:Nat:=61
def znH:Nat:=62
def ziy:Nat:=63
def znI:Nat:=64
def zq7:Nat:=65
def zlk:Nat:=66
def zll:Nat:=67
def zkQ:Nat:=68
def zl5:Nat:=69
def zkn:Nat:=70
def zeP:Nat:=71
def zdh:Nat:=72
def zah:Nat:=73
def zkm:Nat:=74
def zhH:Nat:=75
def zjn:Nat:=76
def zl3:Nat:=77
def zjX:Nat:=78
def zl2:Nat:=79
def zeb:Nat:=80
def zqc:Nat:=81
def zpv:Nat:=82
def znN:Nat:=83
def zem:Nat:=84
def zna:Nat:=87
def zl1:Nat:=88
def zqh:Nat:=89
def zl0:Nat:=90
def zlm:Nat:=91
def zjj:Nat:=92
def znc:Nat:=93
def zoM:Nat:=94
def zl4:Nat:=95
def zk8:Nat:=96
def znb:Nat:=97
def znM:Nat:=98
def zoh:Nat:=99
def zdp:Nat:=100
def zbW:Nat:=101
def ziY:Nat:=102
def zoL:Nat:=103
def znO:Nat:=104
def ziK:Nat:=105
def zq8:Nat:=106
def zq9:Nat:=107
def ziJ:Nat:=108
def zfD:Nat:=109
def zgF:Nat:=110
def zfC:Nat:=111
def zex:Nat:=112
def zes:Nat:=113
def zda:Nat:=114
def zd2:Nat:=115
def zeV:Nat:=116
def zr1:Nat:=119
def ztm:Nat:=120
def zra:Nat:=121
def zcr:Nat:=131
def zcX:Nat:=132
def zoJ:Nat:=133
def znQ:Nat:=134
def zql:Nat:=135
def zpw:Nat:=136
def zr2:Nat:=137
def zm1:Nat:=138
def ze1:Nat:=139
def zfT:Nat:=140
def ze0:Nat:=141
def zdS:Nat:=142
def zdL:Nat:=143
def zcR:Nat:=144
def zds:Nat:=145
def zeg:Nat:=146
def zrZ:Nat:=147
def zpu:Nat:=148
def znP:Nat:=149
def zkp:Nat:=150
def zko:Nat:=151
def zqj:Nat:=152
def zb3:Nat:=153
def zk7:Nat:=154
def zdZ:Nat:=155
def zgs:Nat:=156
def zgW:Nat:=157
def zcZ:Nat:=158
def zen:Nat:=159
def zr0:Nat:=160
def zkq:Nat:=161
def zcK:Nat:=166
def zpq:Nat:=167
def zqe:Nat:=168
def zhv:Nat:=169
def zc9:Nat:=170
def zdf:Nat:=171
def zcI:Nat:=172
def zdA:Nat:=173
def zd1:Nat:=174
def zeo:Nat:=175
def zo2:Nat:=177
def zdB:Nat:=178
deriving instance DecidableEq for zbh
deriving instance DecidableEq for za0
deriving instance DecidableEq for GPart
deriving instance DecidableEq for zaQ
deriving instance DecidableEq for zbP
deriving instance DecidableEq for GSeed
deriving instance DecidableEq for zbf
deriving instance DecidableEq for zaM
deriving instance DecidableEq for zaW
deriving instance DecidableEq for zab
deriving instance DecidableEq for zag
deriving instance DecidableEq for zbq
deriving instance DecidableEq for zcl
deriving instance DecidableEq for GTask
deriving instance DecidableEq for zai
deriving instance DecidableEq for zaG
deriving instance DecidableEq for zbF
deriving instance DecidableEq for zfi
deriving instance DecidableEq for zar
deriving instance DecidableEq for zbd
end Go.Proofs.YtikogkgdkdmljaaGreat
end
