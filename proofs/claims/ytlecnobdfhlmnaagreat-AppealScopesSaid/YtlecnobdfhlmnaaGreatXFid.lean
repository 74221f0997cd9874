/- The numbers of the functions; structures can be compared. -/
import Derived.Test.YtlecnobdfhlmnaaGreatXTy
set_option linter.unusedSimpArgs false
set_option linter.unusedVariables false
noncomputable section
namespace Go.Proofs.YtlecnobdfhlmnaaGreat
abbrev zcO:Nat:=3
abbrev zdq:Nat:=4
abbrev ty_L_i64:Nat:=22
abbrev zhO:Nat:=33
abbrev zaE:Nat:=35
abbrev zdH:Nat:=42
abbrev zgt:Nat:=45
abbrev zaS:Nat:=54
abbrev zdW:Nat:=60
abbrev za8:Nat:=62
abbrev zdM:Nat:=65
abbrev zcQ:Nat:=68
abbrev zbl:Nat:=70
abbrev zak:Nat:=85
abbrev zc6:Nat:=89
abbrev zal:Nat:=92
abbrev zfL:Nat:=100
abbrev zcT:Nat:=104
abbrev zwN:Nat:=107
abbrev zd2:Nat:=114
abbrev zna:Nat:=118
abbrev zbA:Nat:=135
abbrev zbM:Nat:=136
abbrev zgJ:Nat:=137
abbrev zaD:Nat:=147
abbrev zdN:Nat:=159
abbrev zaK:Nat:=168
abbrev zbk:Nat:=173
abbrev zdl:Nat:=175
abbrev zb0:Nat:=177
abbrev zdA:Nat:=178
abbrev zFE:Nat:=192
abbrev zct:Nat:=206
abbrev zgK:Nat:=209
abbrev zhP:Nat:=216
abbrev za2:Nat:=221
abbrev zb1:Nat:=229
abbrev zcg:Nat:=239
def zKW:Nat:=7
def zuW:Nat:=8
def zre:Nat:=9
def zwx:Nat:=10
def zpn:Nat:=11
def zmE:Nat:=12
def zkQ:Nat:=13
def znF:Nat:=14
def zlw:Nat:=15
def zqb:Nat:=16
def zp8:Nat:=17
def zq8:Nat:=18
def zu2:Nat:=19
def zd0:Nat:=20
def ziN:Nat:=21
def zl7:Nat:=22
def zB7:Nat:=23
def zq9:Nat:=29
def zl3:Nat:=31
def zl2:Nat:=35
def zje:Nat:=40
def ziO:Nat:=41
def zjc:Nat:=42
def znG:Nat:=43
def znI:Nat:=44
def znH:Nat:=45
def zeV:Nat:=46
def zqc:Nat:=47
def zom:Nat:=48
def zbn:Nat:=49
def zqa:Nat:=50
def zhA:Nat:=51
def zkq:Nat:=52
def zh2:Nat:=53
def zl4:Nat:=54
def zdY:Nat:=55
def ztu:Nat:=56
def zgN:Nat:=57
def zdf:Nat:=58
def zdP:Nat:=59
def zrg:Nat:=60
def zmC:Nat:=61
def zra:Nat:=62
def ztA:Nat:=63
def zlQ:Nat:=64
def zsF:Nat:=65
def zrk:Nat:=66
def zrn:Nat:=67
def zsG:Nat:=68
def zdp:Nat:=69
def zf2:Nat:=70
def zh5:Nat:=71
def zsg:Nat:=72
def zlN:Nat:=73
def zdz:Nat:=74
def zcB:Nat:=75
def zu1:Nat:=76
def zop:Nat:=77
def znj:Nat:=78
def ztw:Nat:=79
def zgf:Nat:=86
def zok:Nat:=87
def zol:Nat:=88
def zsh:Nat:=89
def zl5:Nat:=90
def zl6:Nat:=91
def zlx:Nat:=92
def zmK:Nat:=93
def zkS:Nat:=94
def zgb:Nat:=95
def zgU:Nat:=96
def zdG:Nat:=97
def zeG:Nat:=98
def zfy:Nat:=99
def zb7:Nat:=102
def zjp:Nat:=103
def ziz:Nat:=104
def ztx:Nat:=105
def zmL:Nat:=106
def znh:Nat:=107
def zkG:Nat:=108
def zng:Nat:=109
def zoW:Nat:=110
def znT:Nat:=111
def zuY:Nat:=112
def zqf:Nat:=113
def zoq:Nat:=114
def zpX:Nat:=115
def zoX:Nat:=116
def zqe:Nat:=117
def zrl:Nat:=118
def zpq:Nat:=119
def zjL:Nat:=120
def zrm:Nat:=121
def zrb:Nat:=124
def zge:Nat:=125
def zbV:Nat:=126
def zfq:Nat:=127
def zcX:Nat:=128
def ze2:Nat:=129
def zmG:Nat:=133
def zrf:Nat:=134
def zmF:Nat:=135
def ziP:Nat:=136
def zjK:Nat:=137
def zkW:Nat:=138
def zjJ:Nat:=139
def zmJ:Nat:=140
def zlP:Nat:=141
def zh3:Nat:=142
def zjR:Nat:=143
def zmI:Nat:=144
def zkr:Nat:=145
def zmH:Nat:=146
def zdO:Nat:=148
def zcL:Nat:=151
def zlt:Nat:=152
def zsl:Nat:=153
def zh4:Nat:=154
def zoo:Nat:=155
def zri:Nat:=156
def ztz:Nat:=157
def zsk:Nat:=158
def ztB:Nat:=159
def zu0:Nat:=160
def zuX:Nat:=161
def znR:Nat:=172
def znS:Nat:=173
def zon:Nat:=174
def zoV:Nat:=175
def zdb:Nat:=180
def zdR:Nat:=181
def zpm:Nat:=182
def zos:Nat:=183
def zrp:Nat:=184
def zqg:Nat:=185
def zjd:Nat:=186
def zpo:Nat:=187
def zor:Nat:=188
def zi1:Nat:=189
def zsi:Nat:=190
def zsj:Nat:=191
def zi0:Nat:=192
def znE:Nat:=210
def zlv:Nat:=211
def zro:Nat:=212
def zu3:Nat:=213
def zhB:Nat:=214
def zpp:Nat:=215
def zwy:Nat:=216
def zkV:Nat:=217
def zuZ:Nat:=218
def zty:Nat:=219
def zni:Nat:=220
def znJ:Nat:=226
def zdE:Nat:=235
def zp9:Nat:=236
def zrc:Nat:=237
def zhR:Nat:=238
def ztv:Nat:=239
def zqd:Nat:=240
def zkX:Nat:=241
def zkU:Nat:=242
def zkT:Nat:=243
def zrh:Nat:=244
def zc1:Nat:=245
def zlO:Nat:=246
def zkd:Nat:=253
def zmD:Nat:=254
def zkR:Nat:=255
def zrj:Nat:=256
def zd5:Nat:=258
def zpD:Nat:=262
def zeD:Nat:=263
def zlu:Nat:=266
def zeZ:Nat:=267
def zoj:Nat:=268
def zuV:Nat:=271
def zKz:Nat:=272
deriving instance DecidableEq for za3
deriving instance DecidableEq for zaT
deriving instance DecidableEq for GPart
deriving instance DecidableEq for zaM
deriving instance DecidableEq for zbu
deriving instance DecidableEq for GSeed
deriving instance DecidableEq for zbv
deriving instance DecidableEq for zan
deriving instance DecidableEq for za6
deriving instance DecidableEq for zac
deriving instance DecidableEq for zaA
deriving instance DecidableEq for zbp
deriving instance DecidableEq for zbG
deriving instance DecidableEq for za5
deriving instance DecidableEq for zbS
deriving instance DecidableEq for za9
deriving instance DecidableEq for zaj
deriving instance DecidableEq for zaP
deriving instance DecidableEq for zb5
deriving instance DecidableEq for zbZ
deriving instance DecidableEq for zay
deriving instance DecidableEq for zbO
deriving instance DecidableEq for zc8
deriving instance DecidableEq for zbY
end Go.Proofs.YtlecnobdfhlmnaaGreat
end
