/- The numbers of the functions; structures can be compared. -/
import Derived.Test.YtikogkgdkdmljaaGreatXTy
noncomputable section
namespace Go.Proofs.YtikogkgdkdmljaaGreat
abbrev za7:Nat:=3
abbrev zit:Nat:=4
abbrev ty_L_i64:Nat:=22
abbrev znQ:Nat:=33
abbrev zaK:Nat:=35
abbrev zaG:Nat:=42
abbrev zao:Nat:=51
abbrev zdp:Nat:=53
abbrev zaC:Nat:=61
abbrev zac:Nat:=64
abbrev ze1:Nat:=67
abbrev zam:Nat:=82
abbrev zfb:Nat:=90
abbrev zdD:Nat:=95
abbrev zt8:Nat:=98
abbrev zay:Nat:=103
abbrev zaU:Nat:=108
abbrev zDr:Nat:=111
abbrev zbh:Nat:=113
abbrev zci:Nat:=114
abbrev zh5:Nat:=131
abbrev zbi:Nat:=133
abbrev zb2:Nat:=136
abbrev zbE:Nat:=149
abbrev zgc:Nat:=153
abbrev zaH:Nat:=158
abbrev zch:Nat:=225
def zmV:Nat:=8
def zsQ:Nat:=9
def zpN:Nat:=10
def ztY:Nat:=11
def zou:Nat:=12
def zo5:Nat:=14
def zcF:Nat:=15
def zsT:Nat:=18
def znw:Nat:=20
def zo8:Nat:=21
def zfL:Nat:=22
def zbo:Nat:=26
def zrx:Nat:=27
def zn0:Nat:=28
def zka:Nat:=29
def zoU:Nat:=30
def znu:Nat:=31
def zkc:Nat:=32
def ziN:Nat:=33
def zmI:Nat:=34
def zmK:Nat:=35
def zmJ:Nat:=36
def zg9:Nat:=37
def zo6:Nat:=38
def zpO:Nat:=40
def zkb:Nat:=41
def zby:Nat:=42
def zeC:Nat:=43
def zfk:Nat:=44
def zet:Nat:=45
def zae:Nat:=46
def zsR:Nat:=48
def zsS:Nat:=49
def zfF:Nat:=50
def zdJ:Nat:=51
def zhy:Nat:=52
def zi0:Nat:=56
def zpQ:Nat:=57
def zpL:Nat:=58
def zfD:Nat:=59
def zjc:Nat:=60
def zfE:Nat:=61
def zns:Nat:=62
def zil:Nat:=63
def znt:Nat:=64
def zqD:Nat:=65
def zlc:Nat:=66
def zld:Nat:=67
def zkK:Nat:=68
def zlR:Nat:=69
def zke:Nat:=70
def zeL:Nat:=71
def zdg:Nat:=72
def zah:Nat:=73
def zkd:Nat:=74
def zhx:Nat:=75
def zjg:Nat:=76
def zlP:Nat:=77
def zjO:Nat:=78
def zlO:Nat:=79
def zd6:Nat:=80
def zpK:Nat:=81
def zek:Nat:=84
def zmU:Nat:=87
def zlN:Nat:=88
def zpP:Nat:=89
def zlM:Nat:=90
def zle:Nat:=91
def zjb:Nat:=92
def zmX:Nat:=93
def zow:Nat:=94
def zlQ:Nat:=95
def zk2:Nat:=96
def zmW:Nat:=97
def znv:Nat:=98
def zn1:Nat:=99
def zdn:Nat:=100
def zbS:Nat:=101
def ziO:Nat:=102
def zov:Nat:=103
def znx:Nat:=104
def ziA:Nat:=105
def zqE:Nat:=106
def zqF:Nat:=107
def ziz:Nat:=108
def zfx:Nat:=109
def zgx:Nat:=110
def zfw:Nat:=111
def zeu:Nat:=112
def zeq:Nat:=113
def zda:Nat:=114
def zdZ:Nat:=115
def zeQ:Nat:=116
def zcm:Nat:=131
def zcZ:Nat:=132
def zot:Nat:=133
def znz:Nat:=134
def zpS:Nat:=135
def zo9:Nat:=136
def zrz:Nat:=137
def zmL:Nat:=138
def zeW:Nat:=139
def zfM:Nat:=140
def zeV:Nat:=141
def zdQ:Nat:=142
def zdK:Nat:=143
def zcT:Nat:=144
def zds:Nat:=145
def zec:Nat:=146
def zry:Nat:=147
def zo7:Nat:=148
def zny:Nat:=149
def zkg:Nat:=150
def zkf:Nat:=151
def zpR:Nat:=152
def zbY:Nat:=153
def zk1:Nat:=154
def zdX:Nat:=155
def zgk:Nat:=156
def zgN:Nat:=157
def zc0:Nat:=158
def zel:Nat:=159
def zcL:Nat:=166
def zo4:Nat:=167
def zpM:Nat:=168
def zhn:Nat:=169
def zc8:Nat:=170
def zdf:Nat:=171
def zcJ:Nat:=172
def zdy:Nat:=173
def zdY:Nat:=174
def zem:Nat:=175
def zoM:Nat:=177
def zdz:Nat:=178
deriving instance DecidableEq for za3
deriving instance DecidableEq for zaX
deriving instance DecidableEq for GPart
deriving instance DecidableEq for zaP
deriving instance DecidableEq for zbM
deriving instance DecidableEq for GSeed
deriving instance DecidableEq for zbe
deriving instance DecidableEq for zaI
deriving instance DecidableEq for zaW
deriving instance DecidableEq for zab
deriving instance DecidableEq for zaf
deriving instance DecidableEq for zbj
deriving instance DecidableEq for zbX
deriving instance DecidableEq for GTask
deriving instance DecidableEq for zak
deriving instance DecidableEq for zaB
deriving instance DecidableEq for zbp
deriving instance DecidableEq for ze2
deriving instance DecidableEq for zal
deriving instance DecidableEq for zbk
end Go.Proofs.YtikogkgdkdmljaaGreat
end
