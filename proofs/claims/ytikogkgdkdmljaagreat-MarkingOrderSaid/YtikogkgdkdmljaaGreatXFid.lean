/- The numbers of the functions; structures can be compared. -/
import Derived.Test.YtikogkgdkdmljaaGreatXTy
set_option linter.unusedSimpArgs false
set_option linter.unusedVariables false
noncomputable section
namespace Go.Proofs.YtikogkgdkdmljaaGreat
abbrev za2:Nat:=3
abbrev zft:Nat:=4
abbrev ty_L_i64:Nat:=22
abbrev zkq:Nat:=33
abbrev zaA:Nat:=35
abbrev zay:Nat:=42
abbrev zaR:Nat:=51
abbrev zcs:Nat:=53
abbrev zat:Nat:=61
abbrev zac:Nat:=64
abbrev zdQ:Nat:=67
abbrev zaf:Nat:=82
abbrev zc9:Nat:=90
abbrev zcn:Nat:=95
abbrev zqX:Nat:=98
abbrev zao:Nat:=103
abbrev zaK:Nat:=108
abbrev zAs:Nat:=111
abbrev za8:Nat:=113
abbrev zbM:Nat:=114
abbrev ze8:Nat:=131
abbrev za9:Nat:=133
abbrev zbD:Nat:=136
abbrev zbm:Nat:=149
abbrev zdP:Nat:=153
abbrev zaz:Nat:=158
abbrev zxT:Nat:=169
abbrev zwK:Nat:=170
abbrev zco:Nat:=225
def zmB:Nat:=3
def zpK:Nat:=9
def zmC:Nat:=10
def zqN:Nat:=11
def zk6:Nat:=12
def zjZ:Nat:=13
def zij:Nat:=14
def zbT:Nat:=15
def zik:Nat:=16
def zlL:Nat:=17
def zmG:Nat:=18
def zgv:Nat:=22
def zpL:Nat:=23
def zk9:Nat:=24
def zaU:Nat:=26
def zgS:Nat:=29
def zlx:Nat:=30
def zj4:Nat:=31
def zj3:Nat:=32
def zfF:Nat:=33
def zjl:Nat:=34
def zjn:Nat:=35
def zjm:Nat:=36
def zdl:Nat:=37
def zlN:Nat:=38
def zlM:Nat:=39
def zj2:Nat:=40
def zgT:Nat:=41
def zbi:Nat:=42
def zcM:Nat:=43
def zdg:Nat:=44
def zfu:Nat:=45
def zek:Nat:=46
def zhC:Nat:=47
def zdw:Nat:=50
def zcq:Nat:=51
def zeM:Nat:=52
def zfO:Nat:=56
def zmE:Nat:=57
def zmz:Nat:=58
def zdu:Nat:=59
def zfX:Nat:=60
def zdv:Nat:=61
def zj0:Nat:=62
def zfn:Nat:=63
def zj1:Nat:=64
def znt:Nat:=65
def zhN:Nat:=66
def zhO:Nat:=67
def zhk:Nat:=68
def zir:Nat:=69
def zgV:Nat:=70
def zcT:Nat:=71
def zd9:Nat:=72
def zey:Nat:=73
def zgU:Nat:=74
def zeL:Nat:=75
def zfZ:Nat:=76
def zio:Nat:=77
def zgw:Nat:=78
def zin:Nat:=79
def zsy:Nat:=81
def zlP:Nat:=82
def zj6:Nat:=83
def zcE:Nat:=84
def zjv:Nat:=87
def zim:Nat:=88
def zmD:Nat:=89
def zil:Nat:=90
def zhP:Nat:=91
def zfW:Nat:=92
def zjx:Nat:=93
def zk8:Nat:=94
def ziq:Nat:=95
def zhB:Nat:=96
def zjw:Nat:=97
def zj5:Nat:=98
def zkC:Nat:=99
def zbw:Nat:=101
def zfG:Nat:=102
def zk7:Nat:=103
def zj7:Nat:=104
def zfw:Nat:=105
def znu:Nat:=106
def znv:Nat:=107
def zfv:Nat:=108
def zoq:Nat:=119
def zpM:Nat:=120
def znw:Nat:=121
def zbO:Nat:=131
def zb3:Nat:=132
def zk5:Nat:=133
def zj9:Nat:=134
def zmH:Nat:=135
def zlQ:Nat:=136
def zor:Nat:=137
def zjo:Nat:=138
def zoo:Nat:=147
def zlO:Nat:=148
def zj8:Nat:=149
def zgX:Nat:=150
def zgW:Nat:=151
def zmF:Nat:=152
def zbz:Nat:=153
def zhA:Nat:=154
def zgF:Nat:=156
def zhl:Nat:=157
def zop:Nat:=160
def zgY:Nat:=161
def zbY:Nat:=166
def zlK:Nat:=167
def zmA:Nat:=168
def zeE:Nat:=169
def zca:Nat:=170
def zcu:Nat:=174
def zlm:Nat:=177
def zua:Nat:=178
deriving instance DecidableEq for za6
deriving instance DecidableEq for zaQ
deriving instance DecidableEq for GPart
deriving instance DecidableEq for zaG
deriving instance DecidableEq for zbt
deriving instance DecidableEq for GSeed
deriving instance DecidableEq for za4
deriving instance DecidableEq for zaB
deriving instance DecidableEq for zaM
deriving instance DecidableEq for zab
deriving instance DecidableEq for zbH
deriving instance DecidableEq for zbd
deriving instance DecidableEq for zbL
deriving instance DecidableEq for GTask
deriving instance DecidableEq for zae
deriving instance DecidableEq for zaw
deriving instance DecidableEq for zbn
deriving instance DecidableEq for zda
deriving instance DecidableEq for zai
deriving instance DecidableEq for za0
end Go.Proofs.YtikogkgdkdmljaaGreat
end
