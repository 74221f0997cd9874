/- The numbers of the functions; structures can be compared. -/
import Derived.Test.YtikogkgdkdmljaaGreatXTy
set_option linter.unusedSimpArgs false
set_option linter.unusedVariables false
noncomputable section
namespace Go.Proofs.YtikogkgdkdmljaaGreat
abbrev za7:Nat:=3
abbrev zfL:Nat:=4
abbrev ty_L_i64:Nat:=22
abbrev zkP:Nat:=33
abbrev zaC:Nat:=35
abbrev zaB:Nat:=42
abbrev zaT:Nat:=51
abbrev zcb:Nat:=53
abbrev zav:Nat:=61
abbrev zac:Nat:=64
abbrev zc5:Nat:=67
abbrev zrm:Nat:=68
abbrev zaf:Nat:=82
abbrev zde:Nat:=90
abbrev zb8:Nat:=95
abbrev zrV:Nat:=98
abbrev zap:Nat:=103
abbrev zaO:Nat:=108
abbrev zBY:Nat:=111
abbrev za9:Nat:=113
abbrev zbP:Nat:=114
abbrev zd2:Nat:=131
abbrev zba:Nat:=133
abbrev zbJ:Nat:=136
abbrev zbr:Nat:=149
abbrev zdZ:Nat:=153
abbrev zaD:Nat:=158
abbrev zza:Nat:=169
abbrev zxW:Nat:=170
abbrev zcu:Nat:=225
def zm4:Nat:=6
def zqz:Nat:=9
def zm5:Nat:=10
def zrK:Nat:=11
def zlu:Nat:=12
def zkk:Nat:=13
def ziE:Nat:=14
def zbW:Nat:=15
def zmb:Nat:=17
def zqG:Nat:=18
def zn4:Nat:=19
def zks:Nat:=20
def zmf:Nat:=21
def zgJ:Nat:=22
def zqC:Nat:=23
def zgc:Nat:=24
def zqE:Nat:=25
def zaZ:Nat:=26
def zg7:Nat:=29
def zlY:Nat:=30
def zkp:Nat:=31
def zko:Nat:=32
def zfV:Nat:=33
def zjD:Nat:=34
def zjF:Nat:=35
def zjE:Nat:=36
def zdU:Nat:=37
def zmd:Nat:=38
def zmc:Nat:=39
def zkn:Nat:=40
def zg8:Nat:=41
def zbm:Nat:=42
def zcP:Nat:=43
def zdl:Nat:=44
def zfM:Nat:=45
def zew:Nat:=46
def zhW:Nat:=47
def zqA:Nat:=48
def zqB:Nat:=49
def zdC:Nat:=50
def zcw:Nat:=51
def ze2:Nat:=52
def zo8:Nat:=53
def zqF:Nat:=54
def zly:Nat:=55
def zf4:Nat:=56
def zm7:Nat:=57
def zm2:Nat:=58
def zdA:Nat:=59
def zgd:Nat:=60
def zdB:Nat:=61
def zkl:Nat:=62
def zfF:Nat:=63
def zkm:Nat:=64
def zn1:Nat:=65
def zh7:Nat:=66
def zh8:Nat:=67
def zhG:Nat:=68
def ziK:Nat:=69
def zha:Nat:=70
def zcW:Nat:=71
def zeo:Nat:=72
def zeL:Nat:=73
def zg9:Nat:=74
def ze1:Nat:=75
def zgf:Nat:=76
def ziI:Nat:=77
def zgK:Nat:=78
def ziH:Nat:=79
def ztv:Nat:=81
def zmg:Nat:=82
def zkt:Nat:=83
def zcG:Nat:=84
def zo7:Nat:=85
def zjN:Nat:=87
def ziG:Nat:=88
def zm6:Nat:=89
def ziF:Nat:=90
def zh9:Nat:=91
def zgb:Nat:=92
def zjP:Nat:=93
def zlw:Nat:=94
def ziJ:Nat:=95
def zhV:Nat:=96
def zjO:Nat:=97
def zkq:Nat:=98
def zkZ:Nat:=99
def zbw:Nat:=101
def zfW:Nat:=102
def zlv:Nat:=103
def zku:Nat:=104
def zfO:Nat:=105
def zn2:Nat:=106
def zn3:Nat:=107
def zfN:Nat:=108
def zo9:Nat:=119
def zqD:Nat:=120
def zn5:Nat:=121
def zkr:Nat:=122
def zbS:Nat:=131
def zcc:Nat:=132
def zlt:Nat:=133
def zkw:Nat:=134
def zm9:Nat:=135
def zmh:Nat:=136
def zpa:Nat:=137
def zjG:Nat:=138
def zo5:Nat:=147
def zme:Nat:=148
def zkv:Nat:=149
def zhc:Nat:=150
def zhb:Nat:=151
def zm8:Nat:=152
def zbE:Nat:=153
def zhU:Nat:=154
def zgT:Nat:=156
def zhH:Nat:=157
def zo6:Nat:=160
def zhd:Nat:=161
def zlx:Nat:=162
def zb2:Nat:=166
def zma:Nat:=167
def zm3:Nat:=168
def zeS:Nat:=169
def zce:Nat:=170
def zcy:Nat:=174
def zlL:Nat:=177
def zvj:Nat:=178
deriving instance DecidableEq for zaW
deriving instance DecidableEq for zaJ
deriving instance DecidableEq for GPart
deriving instance DecidableEq for zaE
deriving instance DecidableEq for zbl
deriving instance DecidableEq for GSeed
deriving instance DecidableEq for za8
deriving instance DecidableEq for zay
deriving instance DecidableEq for zaQ
deriving instance DecidableEq for zab
deriving instance DecidableEq for zbI
deriving instance DecidableEq for zbf
deriving instance DecidableEq for zbz
deriving instance DecidableEq for GTask
deriving instance DecidableEq for zae
deriving instance DecidableEq for zat
deriving instance DecidableEq for zbh
deriving instance DecidableEq for zc6
deriving instance DecidableEq for zai
deriving instance DecidableEq for za4
end Go.Proofs.YtikogkgdkdmljaaGreat
end
