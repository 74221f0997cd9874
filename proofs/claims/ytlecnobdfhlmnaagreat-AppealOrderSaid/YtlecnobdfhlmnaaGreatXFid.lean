/- The numbers of the functions; structures can be compared. -/
import Derived.Test.YtlecnobdfhlmnaaGreatXTy
set_option linter.unusedSimpArgs false
set_option linter.unusedVariables false
noncomputable section
namespace Go.Proofs.YtlecnobdfhlmnaaGreat
abbrev zbK:Nat:=3
abbrev zgr:Nat:=4
abbrev ty_L_i64:Nat:=22
abbrev zlJ:Nat:=33
abbrev zan:Nat:=35
abbrev zaO:Nat:=42
abbrev zdD:Nat:=45
abbrev zal:Nat:=54
abbrev zaA:Nat:=62
abbrev zea:Nat:=65
abbrev zbo:Nat:=68
abbrev zbg:Nat:=70
abbrev zah:Nat:=85
abbrev zcs:Nat:=89
abbrev zae:Nat:=92
abbrev zdZ:Nat:=100
abbrev zcY:Nat:=104
abbrev zsV:Nat:=107
abbrev zaH:Nat:=114
abbrev zkb:Nat:=118
abbrev zba:Nat:=135
abbrev zbn:Nat:=136
abbrev zex:Nat:=137
abbrev zay:Nat:=147
abbrev zeb:Nat:=159
abbrev zav:Nat:=168
abbrev za2:Nat:=173
abbrev zD5:Nat:=175
abbrev zbu:Nat:=177
abbrev zcq:Nat:=178
abbrev zbF:Nat:=206
abbrev zey:Nat:=209
abbrev zfv:Nat:=216
abbrev zaI:Nat:=221
abbrev zbv:Nat:=229
def zop:Nat:=4
def zrk:Nat:=8
def znR:Nat:=9
def zsH:Nat:=10
def zmk:Nat:=11
def zjK:Nat:=12
def zlj:Nat:=13
def zkF:Nat:=14
def ziK:Nat:=15
def zm4:Nat:=16
def zm1:Nat:=17
def zcl:Nat:=20
def zhq:Nat:=21
def zc5:Nat:=23
def zjL:Nat:=24
def zm7:Nat:=25
def zrj:Nat:=26
def znN:Nat:=29
def zjf:Nat:=31
def zlW:Nat:=35
def zgi:Nat:=41
def zgJ:Nat:=42
def zkG:Nat:=43
def zkI:Nat:=44
def zkH:Nat:=45
def zc3:Nat:=46
def zm5:Nat:=47
def zlm:Nat:=48
def za1:Nat:=49
def zm3:Nat:=50
def zfe:Nat:=51
def zhI:Nat:=52
def zgS:Nat:=53
def zfl:Nat:=54
def zcF:Nat:=55
def zmP:Nat:=56
def zdU:Nat:=57
def zca:Nat:=58
def zcB:Nat:=59
def znT:Nat:=60
def zjI:Nat:=61
def znO:Nat:=62
def zci:Nat:=69
def zd6:Nat:=70
def zfE:Nat:=71
def zlX:Nat:=72
def zg5:Nat:=73
def zcp:Nat:=74
def zbG:Nat:=75
def zrl:Nat:=76
def zkh:Nat:=78
def zeh:Nat:=86
def zlk:Nat:=87
def zll:Nat:=88
def zoR:Nat:=89
def zjg:Nat:=90
def zjh:Nat:=91
def ziL:Nat:=92
def zjR:Nat:=93
def zib:Nat:=94
def zed:Nat:=95
def zeJ:Nat:=96
def zcu:Nat:=97
def zda:Nat:=98
def zdL:Nat:=99
def zby:Nat:=102
def zgT:Nat:=103
def zf0:Nat:=104
def zmm:Nat:=120
def znP:Nat:=124
def zeg:Nat:=125
def zbs:Nat:=126
def zdG:Nat:=127
def zbZ:Nat:=128
def zdp:Nat:=129
def zjN:Nat:=133
def znS:Nat:=134
def zjM:Nat:=135
def zgj:Nat:=136
def zg7:Nat:=137
def zie:Nat:=138
def zg6:Nat:=139
def zjQ:Nat:=140
def zi0:Nat:=141
def zfD:Nat:=142
def zhc:Nat:=143
def zjP:Nat:=144
def zhJ:Nat:=145
def zjO:Nat:=146
def zcA:Nat:=148
def zbT:Nat:=151
def ziH:Nat:=152
def zoU:Nat:=153
def zkQ:Nat:=172
def zkR:Nat:=173
def zln:Nat:=174
def zlY:Nat:=175
def zb7:Nat:=180
def zcC:Nat:=181
def zmj:Nat:=182
def zlp:Nat:=183
def znW:Nat:=184
def zm8:Nat:=185
def zgK:Nat:=186
def zml:Nat:=187
def zlo:Nat:=188
def zgw:Nat:=189
def zoS:Nat:=190
def zoT:Nat:=191
def zgv:Nat:=192
def zkE:Nat:=210
def ziJ:Nat:=211
def znV:Nat:=212
def zrm:Nat:=213
def zff:Nat:=214
def zkJ:Nat:=226
def zcr:Nat:=235
def zm2:Nat:=236
def znQ:Nat:=237
def zfw:Nat:=238
def zpN:Nat:=239
def zm6:Nat:=240
def zif:Nat:=241
def zid:Nat:=242
def zic:Nat:=243
def znU:Nat:=244
def zb2:Nat:=245
def ziZ:Nat:=246
def zhw:Nat:=253
def zjJ:Nat:=254
def zia:Nat:=255
def zcI:Nat:=258
def zmB:Nat:=262
def zc8:Nat:=263
def ziI:Nat:=266
def zdn:Nat:=267
def zli:Nat:=268
def zri:Nat:=271
def zE5:Nat:=272
deriving instance DecidableEq for zbk
deriving instance DecidableEq for zaE
deriving instance DecidableEq for GPart
deriving instance DecidableEq for zaJ
deriving instance DecidableEq for zbp
deriving instance DecidableEq for GSeed
deriving instance DecidableEq for zbr
deriving instance DecidableEq for zak
deriving instance DecidableEq for zbe
deriving instance DecidableEq for zab
deriving instance DecidableEq for zai
deriving instance DecidableEq for zaM
deriving instance DecidableEq for za8
deriving instance DecidableEq for zbb
deriving instance DecidableEq for zbQ
deriving instance DecidableEq for zaG
deriving instance DecidableEq for zac
deriving instance DecidableEq for zaL
deriving instance DecidableEq for zbC
deriving instance DecidableEq for zdQ
deriving instance DecidableEq for zat
deriving instance DecidableEq for zbx
deriving instance DecidableEq for zb5
deriving instance DecidableEq for zez
end Go.Proofs.YtlecnobdfhlmnaaGreat
end
