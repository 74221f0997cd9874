/- The numbers of the functions; structures can be compared. -/
import Derived.Test.YtikogkgdkdmljaaGreatXTy
set_option linter.unusedSimpArgs false
set_option linter.unusedVariables false
noncomputable section
namespace Go.Proofs.YtikogkgdkdmljaaGreat
abbrev za3:Nat:=3
abbrev zfi:Nat:=4
abbrev ty_L_i64:Nat:=22
abbrev zkc:Nat:=33
abbrev zaz:Nat:=35
abbrev zav:Nat:=42
abbrev zaO:Nat:=51
abbrev zcg:Nat:=53
abbrev zas:Nat:=61
abbrev zac:Nat:=64
abbrev zcX:Nat:=67
abbrev zag:Nat:=82
abbrev zc5:Nat:=90
abbrev zcl:Nat:=95
abbrev zqx:Nat:=98
abbrev zao:Nat:=103
abbrev zaJ:Nat:=108
abbrev zz2:Nat:=111
abbrev za6:Nat:=113
abbrev zbH:Nat:=114
abbrev zeX:Nat:=131
abbrev za7:Nat:=133
abbrev zbB:Nat:=136
abbrev zbn:Nat:=149
abbrev zdK:Nat:=153
abbrev zax:Nat:=158
abbrev zcm:Nat:=225
def zjh:Nat:=8
def zpg:Nat:=9
def zma:Nat:=10
def zqn:Nat:=11
def zkR:Nat:=12
def zlq:Nat:=14
def zbV:Nat:=15
def zpj:Nat:=18
def zjQ:Nat:=20
def zlt:Nat:=21
def zdv:Nat:=22
def zbb:Nat:=26
def znV:Nat:=27
def zkm:Nat:=28
def zgI:Nat:=29
def zlf:Nat:=30
def zjO:Nat:=31
def zgK:Nat:=32
def zfv:Nat:=33
def zi6:Nat:=34
def zi8:Nat:=35
def zi7:Nat:=36
def zek:Nat:=37
def zlr:Nat:=38
def zmb:Nat:=40
def zgJ:Nat:=41
def zbj:Nat:=42
def zcH:Nat:=43
def zdb:Nat:=44
def zfj:Nat:=45
def zeb:Nat:=46
def zph:Nat:=48
def zpi:Nat:=49
def zdq:Nat:=50
def zcp:Nat:=51
def zeC:Nat:=52
def zfF:Nat:=56
def zmd:Nat:=57
def zl8:Nat:=58
def zdo:Nat:=59
def zfP:Nat:=60
def zdp:Nat:=61
def zjM:Nat:=62
def zfb:Nat:=63
def zjN:Nat:=64
def zmY:Nat:=65
def zhF:Nat:=66
def zhG:Nat:=67
def zhe:Nat:=68
def zic:Nat:=69
def zgM:Nat:=70
def zcP:Nat:=71
def zd1:Nat:=72
def zer:Nat:=73
def zgL:Nat:=74
def zeB:Nat:=75
def zfS:Nat:=76
def zia:Nat:=77
def zgn:Nat:=78
def zh9:Nat:=79
def zr3:Nat:=81
def zcB:Nat:=84
def zjg:Nat:=87
def zh8:Nat:=88
def zmc:Nat:=89
def zh7:Nat:=90
def zhH:Nat:=91
def zfO:Nat:=92
def zjj:Nat:=93
def zkT:Nat:=94
def zib:Nat:=95
def zhv:Nat:=96
def zji:Nat:=97
def zjP:Nat:=98
def zkn:Nat:=99
def zbt:Nat:=101
def zfw:Nat:=102
def zkS:Nat:=103
def zjR:Nat:=104
def zfm:Nat:=105
def zmZ:Nat:=106
def zm0:Nat:=107
def zfl:Nat:=108
def zbJ:Nat:=131
def zb7:Nat:=132
def zkQ:Nat:=133
def zjT:Nat:=134
def zmf:Nat:=135
def zlu:Nat:=136
def znX:Nat:=137
def zi9:Nat:=138
def znW:Nat:=147
def zls:Nat:=148
def zjS:Nat:=149
def zgO:Nat:=150
def zgN:Nat:=151
def zme:Nat:=152
def zby:Nat:=153
def zhu:Nat:=154
def zgv:Nat:=156
def zhf:Nat:=157
def zbY:Nat:=166
def zlp:Nat:=167
def zl9:Nat:=168
def zew:Nat:=169
def zb9:Nat:=170
def zcq:Nat:=174
def zk6:Nat:=177
def ztL:Nat:=178
deriving instance DecidableEq for zaU
deriving instance DecidableEq for zaN
deriving instance DecidableEq for GPart
deriving instance DecidableEq for zaE
deriving instance DecidableEq for zbr
deriving instance DecidableEq for GSeed
deriving instance DecidableEq for za2
deriving instance DecidableEq for zay
deriving instance DecidableEq for zaM
deriving instance DecidableEq for zab
deriving instance DecidableEq for zbp
deriving instance DecidableEq for za8
deriving instance DecidableEq for zbw
deriving instance DecidableEq for GTask
deriving instance DecidableEq for zae
deriving instance DecidableEq for zar
deriving instance DecidableEq for zbc
deriving instance DecidableEq for zcY
deriving instance DecidableEq for zaf
deriving instance DecidableEq for zba
end Go.Proofs.YtikogkgdkdmljaaGreat
end
