/- The types of the seat bc data. -/
import Derived.Test.YtlecnobdfhlmnaaGreatAb2
set_option linter.all false
noncomputable section
namespace Go.Proofs.YtlecnobdfhlmnaaGreat
open Go.Ab
abbrev zF:=zB @zaB (zB @zac.{0,0} (zB @zae.{0,0} (zB @zaf @zar)))
abbrev zG:=zB @bne_self_eq_false.{0} @zay
abbrev zH:=zB @zaH @zac.{0,0}
abbrev zK:=zB @zac.{0,0} (zB @zar @zbp)
abbrev zO:=zB @zaG @zay
abbrev zR:=zB @zaR (zB @zaW @zbp)
abbrev zW:=zB @zaO @zbj
abbrev zX:=zB @w64_id @zae.{0,0}
abbrev zZ:=zB @beq_self_eq_true.{0} @zaO
abbrev za:=zB @zaf @zar
def zdt:(List Int)->List AV:=λx=>[.sl 1 (List.map zbm.enc x)]
abbrev zho:TyD:=TyD.of (List Int) zdt (by
 intro x y h;simp only[zD,zdt,TyD.minj zbm]at h
 exact(h))
structure zbh where
 ID:Int
 Q:Int
 I:Int
 xl:Int
 u:List Int
def zbh.eqOf{x y:zbh}(h0:x.ID=y.ID)(h1:x.Q=y.Q)(h2:x.I=y.I)(h3:x.xl=y.xl)(h4:x.u=y.u):x=y:=by cases x;cases y;simp only at *;simp only[h0,h1,h2,h3,h4]
def zbl:zbh->List AV:=λx=>[I x.ID,I x.Q,I x.I,I x.xl,.sl 1 (List.map zbm.enc x.u)]
abbrev zdT:TyD:=TyD.of zbh zbl (by
 intro x y h;simp only[zD,zbl,TyD.minj zbm]at h
 exact(zbh.eqOf (h.1) (h.2.1) (h.2.2.1) (h.2.2.2.1) (h.2.2.2.2)))
def zH6:(List zbh)->List AV:=λx=>[.sl 5 (List.map zdT.enc x)]
abbrev dL_GMarker:TyD:=TyD.of (List zbh) zH6 (by
 intro x y h;simp only[zD,zH6,TyD.minj zdT]at h
 exact(h))
structure zaY where
 j:Int
 xa:Int
 y:Int
 Q:Int
 L:Int
 A:List Int
 X:List Int
def zaY.eqOf{x y:zaY}(h0:x.j=y.j)(h1:x.xa=y.xa)(h2:x.y=y.y)(h3:x.Q=y.Q)(h4:x.L=y.L)(h5:x.A=y.A)(h6:x.X=y.X):x=y:=by cases x;cases y;simp only at *;simp only[h0,h1,h2,h3,h4,h5,h6]
def za0:zaY->List AV:=λx=>[I x.j,I x.xa,I x.y,I x.Q,I x.L,.sl 1 (List.map zbm.enc x.A),.sl 1 (List.map zbm.enc x.X)]
abbrev zcK:TyD:=TyD.of zaY za0 (by
 intro x y h;simp only[zD,za0,TyD.minj zbm]at h
 exact(zaY.eqOf (h.1) (h.2.1) (h.2.2.1) (h.2.2.2.1) (h.2.2.2.2.1) (h.2.2.2.2.2.1) (h.2.2.2.2.2.2)))
def zH8:(List zaY)->List AV:=λx=>[.sl 7 (List.map zcK.enc x)]
abbrev dL_GScript:TyD:=TyD.of (List zaY) zH8 (by
 intro x y h;simp only[zD,zH8,TyD.minj zcK]at h
 exact(h))
structure GPart where
 r:Int
 xb:Int
 xq:Int
 xj:Int
 O:Int
 xp:Int
def GPart.eqOf{x y:GPart}(h0:x.r=y.r)(h1:x.xb=y.xb)(h2:x.xq=y.xq)(h3:x.xj=y.xj)(h4:x.O=y.O)(h5:x.xp=y.xp):x=y:=by cases x;cases y;simp only at *;simp only[h0,h1,h2,h3,h4,h5]
def za8:GPart->List AV:=λx=>[I x.r,I x.xb,I x.xq,I x.xj,I x.O,I x.xp]
abbrev zek:TyD:=TyD.of GPart za8 (by
 intro x y h;simp only[zD,za8]at h
 exact(GPart.eqOf (h.1) (h.2.1) (h.2.2.1) (h.2.2.2.1) (h.2.2.2.2.1) (h.2.2.2.2.2)))
def nL_GPart:(List GPart)->List AV:=λx=>[.sl 6 (List.map zek.enc x)]
abbrev dL_GPart:TyD:=TyD.of (List GPart) nL_GPart (by
 intro x y h;simp only[zD,nL_GPart,TyD.minj zek]at h
 exact(h))
structure zaQ where
 Y:Int
 L:Int
 g:List GPart
def zaQ.eqOf{x y:zaQ}(h0:x.Y=y.Y)(h1:x.L=y.L)(h2:x.g=y.g):x=y:=by cases x;cases y;simp only at *;simp only[h0,h1,h2]
def zaU:zaQ->List AV:=λx=>[I x.Y,I x.L,.sl 6 (List.map zek.enc x.g)]
abbrev zcZ:TyD:=TyD.of zaQ zaU (by
 intro x y h;simp only[zD,zaU,TyD.minj zek]at h
 exact(zaQ.eqOf (h.1) (h.2.1) (h.2.2)))
def zJL:(List zaQ)->List AV:=λx=>[.sl 3 (List.map zcZ.enc x)]
abbrev dL_GPaper:TyD:=TyD.of (List zaQ) zJL (by
 intro x y h;simp only[zD,zJL,TyD.minj zcZ]at h
 exact(h))
def zH9:(List (List Int))->List AV:=λx=>[.sl 1 (List.map zho.enc x)]
abbrev dL_L_I_i64:TyD:=TyD.of (List (List Int)) zH9 (by
 intro x y h;simp only[zD,zH9,TyD.minj zho]at h
 exact(h))
structure zbu where
 U:List (List Int)
 v:List Int
def zbu.eqOf{x y:zbu}(h0:x.U=y.U)(h1:x.v=y.v):x=y:=by cases x;cases y;simp only at *;simp only[h0,h1]
def zbI:zbu->List AV:=λx=>[.sl 1 (List.map zho.enc x.U),.sl 1 (List.map zbm.enc x.v)]
abbrev zeK:TyD:=TyD.of zbu zbI (by
 intro x y h;simp only[zD,zbI,TyD.minj zbm,TyD.minj zho]at h
 exact(zbu.eqOf (h.1) (h.2)))
def zH7:(List zbu)->List AV:=λx=>[.sl 2 (List.map zeK.enc x)]
abbrev dL_GScheme:TyD:=TyD.of (List zbu) zH7 (by
 intro x y h;simp only[zD,zH7,TyD.minj zeK]at h
 exact(h))
structure GSeed where
 h:Int
 T:List Int
def GSeed.eqOf{x y:GSeed}(h0:x.h=y.h)(h1:x.T=y.T):x=y:=by cases x;cases y;simp only at *;simp only[h0,h1]
def zcL:GSeed->List AV:=λx=>[I x.h,.sl 1 (List.map zbm.enc x.T)]
abbrev zgt:TyD:=TyD.of GSeed zcL (by
 intro x y h;simp only[zD,zcL,TyD.minj zbm]at h
 exact(GSeed.eqOf (h.1) (h.2)))
def nL_GSeed:(List GSeed)->List AV:=λx=>[.sl 2 (List.map zgt.enc x)]
abbrev dL_GSeed:TyD:=TyD.of (List GSeed) nL_GSeed (by
 intro x y h;simp only[zD,nL_GSeed,TyD.minj zgt]at h
 exact(h))
structure zbK where
 x:Int
 xi:Int
 Z:Int
 S:Int
def zbK.eqOf{x y:zbK}(h0:x.x=y.x)(h1:x.xi=y.xi)(h2:x.Z=y.Z)(h3:x.S=y.S):x=y:=by cases x;cases y;simp only at *;simp only[h0,h1,h2,h3]
def zca:zbK->List AV:=λx=>[I x.x,I x.xi,I x.Z,I x.S]
abbrev zow:TyD:=TyD.of zbK zca (by
 intro x y h;simp only[zD,zca]at h
 exact(zbK.eqOf (h.1) (h.2.1) (h.2.2.1) (h.2.2.2)))
structure zam where
 k:List zbh
 c:List zaY
 u:List zaQ
 V:List zbu
 E:List GSeed
 H:zbK
def zam.eqOf{x y:zam}(h0:x.k=y.k)(h1:x.c=y.c)(h2:x.u=y.u)(h3:x.V=y.V)(h4:x.E=y.E)(h5:x.H=y.H):x=y:=by cases x;cases y;simp only at *;simp only[h0,h1,h2,h3,h4,h5]
def zap:zam->List AV:=λx=>[.sl 5 (List.map zdT.enc x.k),.sl 7 (List.map zcK.enc x.c),.sl 3 (List.map zcZ.enc x.u),.sl 2 (List.map zeK.enc x.V),.sl 2 (List.map zgt.enc x.E),I x.H.x,I x.H.xi,I x.H.Z,I x.H.S]
abbrev zqj:TyD:=TyD.of zam zap (by
 intro x y h;simp only[zD,zap,TyD.minj zdT,TyD.minj zcZ,TyD.minj zeK,TyD.minj zcK,TyD.minj zgt]at h
 exact(zam.eqOf (h.1) (h.2.1) (h.2.2.1) (h.2.2.2.1) (h.2.2.2.2.1) (zbK.eqOf (h.2.2.2.2.2.1) (h.2.2.2.2.2.2.1) (h.2.2.2.2.2.2.2.1) (h.2.2.2.2.2.2.2.2))))
structure zbf where
 n:Int
 b:Int
 B:Int
def zbf.eqOf{x y:zbf}(h0:x.n=y.n)(h1:x.b=y.b)(h2:x.B=y.B):x=y:=by cases x;cases y;simp only at *;simp only[h0,h1,h2]
def zcc:zbf->List AV:=λx=>[I x.n,I x.b,I x.B]
abbrev zr2:TyD:=TyD.of zbf zcc (by
 intro x y h;simp only[zD,zcc]at h
 exact(zbf.eqOf (h.1) (h.2.1) (h.2.2)))
structure zad where
 a:zbf
 r:Int
 h:Int
 x:Int
 s:Int
 q:Int
 A:List Int
def zad.eqOf{x y:zad}(h0:x.a=y.a)(h1:x.r=y.r)(h2:x.h=y.h)(h3:x.x=y.x)(h4:x.s=y.s)(h5:x.q=y.q)(h6:x.A=y.A):x=y:=by cases x;cases y;simp only at *;simp only[h0,h1,h2,h3,h4,h5,h6]
def zab:zad->List AV:=λx=>[I x.a.n,I x.a.b,I x.a.B,I x.r,I x.h,I x.x,I x.s,I x.q,.sl 1 (List.map zbm.enc x.A)]
abbrev za4:TyD:=TyD.of zad zab (by
 intro x y h;simp only[zD,zab,TyD.minj zbm]at h
 exact(zad.eqOf (zbf.eqOf (h.1) (h.2.1) (h.2.2.1)) (h.2.2.2.1) (h.2.2.2.2.1) (h.2.2.2.2.2.1) (h.2.2.2.2.2.2.1) (h.2.2.2.2.2.2.2.1) (h.2.2.2.2.2.2.2.2)))
def ze1:(List zad)->List AV:=λx=>[.sl 9 (List.map za4.enc x)]
abbrev zkA:TyD:=TyD.of (List zad) ze1 (by
 intro x y h;simp only[zD,ze1,TyD.minj za4]at h
 exact(h))
structure zan where
 a:zbf
 r:Int
 y:Int
 q:Int
def zan.eqOf{x y:zan}(h0:x.a=y.a)(h1:x.r=y.r)(h2:x.y=y.y)(h3:x.q=y.q):x=y:=by cases x;cases y;simp only at *;simp only[h0,h1,h2,h3]
def zai:zan->List AV:=λx=>[I x.a.n,I x.a.b,I x.a.B,I x.r,I x.y,I x.q]
abbrev zb4:TyD:=TyD.of zan zai (by
 intro x y h;simp only[zD,zai]at h
 exact(zan.eqOf (zbf.eqOf (h.1) (h.2.1) (h.2.2.1)) (h.2.2.2.1) (h.2.2.2.2.1) (h.2.2.2.2.2)))
def zmB:(List zan)->List AV:=λx=>[.sl 6 (List.map zb4.enc x)]
abbrev zvP:TyD:=TyD.of (List zan) zmB (by
 intro x y h;simp only[zD,zmB,TyD.minj zb4]at h
 exact(h))
structure zaP where
 xm:Int
 S:Int
 K:Int
def zaP.eqOf{x y:zaP}(h0:x.xm=y.xm)(h1:x.S=y.S)(h2:x.K=y.K):x=y:=by cases x;cases y;simp only at *;simp only[h0,h1,h2]
def zaK:zaP->List AV:=λx=>[I x.xm,I x.S,I x.K]
abbrev ziN:TyD:=TyD.of zaP zaK (by
 intro x y h;simp only[zD,zaK]at h
 exact(zaP.eqOf (h.1) (h.2.1) (h.2.2)))
structure zbg where
 xn:Bool
 K:Int
def zbg.eqOf{x y:zbg}(h0:x.xn=y.xn)(h1:x.K=y.K):x=y:=by cases x;cases y;simp only at *;simp only[h0,h1]
def zbt:zbg->List AV:=λx=>[B x.xn,I x.K]
abbrev zqi:TyD:=TyD.of zbg zbt (by
 intro x y h;simp only[zD,zbt]at h
 exact(zbg.eqOf (h.1) (h.2)))
structure za6 where
 h:Int
 x:Int
 q:Int
 I:Int
 s:Int
 a:zbf
def za6.eqOf{x y:za6}(h0:x.h=y.h)(h1:x.x=y.x)(h2:x.q=y.q)(h3:x.I=y.I)(h4:x.s=y.s)(h5:x.a=y.a):x=y:=by cases x;cases y;simp only at *;simp only[h0,h1,h2,h3,h4,h5]
def zaE:za6->List AV:=λx=>[I x.h,I x.x,I x.q,I x.I,I x.s,I x.a.n,I x.a.b,I x.a.B]
abbrev zc2:TyD:=TyD.of za6 zaE (by
 intro x y h;simp only[zD,zaE]at h
 exact(za6.eqOf (h.1) (h.2.1) (h.2.2.1) (h.2.2.2.1) (h.2.2.2.2.1) (zbf.eqOf (h.2.2.2.2.2.1) (h.2.2.2.2.2.2.1) (h.2.2.2.2.2.2.2))))
def zJK:(List za6)->List AV:=λx=>[.sl 8 (List.map zc2.enc x)]
abbrev dL_GGiven:TyD:=TyD.of (List za6) zJK (by
 intro x y h;simp only[zD,zJK,TyD.minj zc2]at h
 exact(h))
structure zcb where
 q:Int
 xd:zbf
 At:zbf
 xg:zbf
 xh:Bool
 xk:Bool
def zcb.eqOf{x y:zcb}(h0:x.q=y.q)(h1:x.xd=y.xd)(h2:x.At=y.At)(h3:x.xg=y.xg)(h4:x.xh=y.xh)(h5:x.xk=y.xk):x=y:=by cases x;cases y;simp only at *;simp only[h0,h1,h2,h3,h4,h5]
def zaA:zcb->List AV:=λx=>[I x.q,I x.xd.n,I x.xd.b,I x.xd.B,I x.At.n,I x.At.b,I x.At.B,I x.xg.n,I x.xg.b,I x.xg.B,B x.xh,B x.xk]
abbrev zd5:TyD:=TyD.of zcb zaA (by
 intro x y h;simp only[zD,zaA]at h
 exact(zcb.eqOf (h.1) (zbf.eqOf (h.2.1) (h.2.2.1) (h.2.2.2.1)) (zbf.eqOf (h.2.2.2.2.1) (h.2.2.2.2.2.1) (h.2.2.2.2.2.2.1)) (zbf.eqOf (h.2.2.2.2.2.2.2.1) (h.2.2.2.2.2.2.2.2.1) (h.2.2.2.2.2.2.2.2.2.1)) (h.2.2.2.2.2.2.2.2.2.2.1) (h.2.2.2.2.2.2.2.2.2.2.2)))
def zzA:(List zcb)->List AV:=λx=>[.sl 12 (List.map zd5.enc x)]
abbrev zIR:TyD:=TyD.of (List zcb) zzA (by
 intro x y h;simp only[zD,zzA,TyD.minj zd5]at h
 exact(h))
structure zaJ where
 M:List za6
 xo:List zcb
def zaJ.eqOf{x y:zaJ}(h0:x.M=y.M)(h1:x.xo=y.xo):x=y:=by cases x;cases y;simp only at *;simp only[h0,h1]
def zaT:zaJ->List AV:=λx=>[.sl 8 (List.map zc2.enc x.M),.sl 12 (List.map zd5.enc x.xo)]
abbrev zgd:TyD:=TyD.of zaJ zaT (by
 intro x y h;simp only[zD,zaT,TyD.minj zc2,TyD.minj zd5]at h
 exact(zaJ.eqOf (h.1) (h.2)))
def zbE:(Int×Bool)->List AV:=λx=>[I x.1,B x.2]
abbrev zkz:TyD:=TyD.of (Int×Bool) zbE (by
 intro x y h;have h1:=(zbG h).1;have h2:=(zbG (zbG h).2).1
 exact zdy (by simpa using h1) (by simpa using h2))
def zBw:(List (Int×Bool))->List AV:=λx=>[.mp (List.map zkz.enc x)]
abbrev zKE:TyD:=TyD.of (List (Int×Bool)) zBw (by
 intro x y h;simp only[zD,zBw,TyD.minj zkz]at h
 exact(h))
def zBv:((List zan)×(List zan)×(List zan))->List AV:=λx=>[.sl 6 (List.map zb4.enc x.1),.sl 6 (List.map zb4.enc x.2.1),.sl 6 (List.map zb4.enc x.2.2)]
abbrev zKD:TyD:=TyD.of ((List zan)×(List zan)×(List zan)) zBv (by
 intro x y h;simp only[zD,zBv,TyD.minj zb4]at h
 exact(zdy (h.1) (zdy (h.2.1) (h.2.2))))
def zxM:(zaP×zaP)->List AV:=λx=>[I x.1.xm,I x.1.S,I x.1.K,I x.2.xm,I x.2.S,I x.2.K]
abbrev zHo:TyD:=TyD.of (zaP×zaP) zxM (by
 intro x y h;simp only[zD,zxM]at h
 exact(zdy (zaP.eqOf (h.1) (h.2.1) (h.2.2.1)) (zaP.eqOf (h.2.2.2.1) (h.2.2.2.2.1) (h.2.2.2.2.2))))
structure zak where
 L:List Int
 At:Int
def zak.eqOf{x y:zak}(h0:x.L=y.L)(h1:x.At=y.At):x=y:=by cases x;cases y;simp only at *;simp only[h0,h1]
def zaL:zak->List AV:=λx=>[.sl 1 (List.map zbm.enc x.L),I x.At]
abbrev zbH:TyD:=TyD.of zak zaL (by
 intro x y h;simp only[zD,zaL,TyD.minj zbm]at h
 exact(zak.eqOf (h.1) (h.2)))
def zbb:(Int×Int)->List AV:=λx=>[I x.1,I x.2]
abbrev zjy:TyD:=TyD.of (Int×Int) zbb (by
 intro x y h;have h1:=(zbG h).1;have h2:=(zbG (zbG h).2).1
 exact zdy (by simpa using h1) (by simpa using h2))
def zzC:(List (Int×Int))->List AV:=λx=>[.mp (List.map zjy.enc x)]
abbrev zzn:TyD:=TyD.of (List (Int×Int)) zzC (by
 intro x y h;simp only[zD,zzC,TyD.minj zjy]at h
 exact(h))
def zhO:(Int×zaJ)->List AV:=λx=>[I x.1,.agg (zgd.enc x.2)]
abbrev zvA:TyD:=TyD.of (Int×zaJ) zhO (by
 intro x y h;have h1:=(zbG h).1;have h2:=(zbG (zbG h).2).1
 exact zdy (by simpa using h1) (zgd.inj (AV.agg.inj h2)))
def zvE:(List (Int×zaJ))->List AV:=λx=>[.mp (List.map zvA.enc x)]
abbrev zEl:TyD:=TyD.of (List (Int×zaJ)) zvE (by
 intro x y h;simp only[zD,zvE,TyD.minj zvA]at h
 exact(h))
def nL_Bool:(List Bool)->List AV:=λx=>[.sl 1 (List.map dBool.enc x)]
abbrev dL_Bool:TyD:=TyD.of (List Bool) nL_Bool (by
 intro x y h;simp only[zD,nL_Bool,TyD.minj dBool]at h
 exact(h))
def zcd:(Int×Int)->List AV:=λx=>[I x.1,I x.2]
abbrev zgV:TyD:=TyD.of (Int×Int) zcd (by
 intro x y h;simp only[zD,zcd]at h
 exact(zdy (h.1) (h.2)))
def zbT:((Int×Int)×zan)->List AV:=λx=>[.agg (zgV.enc x.1),.agg (zb4.enc x.2)]
abbrev zto:TyD:=TyD.of ((Int×Int)×zan) zbT (by
 intro x y h;have h1:=(zbG h).1;have h2:=(zbG (zbG h).2).1
 exact zdy (zgV.inj (AV.agg.inj h1)) (zb4.inj (AV.agg.inj h2)))
def zts:(List ((Int×Int)×zan))->List AV:=λx=>[.mp (List.map zto.enc x)]
abbrev zBR:TyD:=TyD.of (List ((Int×Int)×zan)) zts (by
 intro x y h;simp only[zD,zts,TyD.minj zto]at h
 exact(h))
def zbQ:((Int×Int)×Bool)->List AV:=λx=>[.agg (zgV.enc x.1),B x.2]
abbrev zjx:TyD:=TyD.of ((Int×Int)×Bool) zbQ (by
 intro x y h;have h1:=(zbG h).1;have h2:=(zbG (zbG h).2).1
 exact zdy (zgV.inj (AV.agg.inj h1)) (by simpa using h2))
def zwY:(List ((Int×Int)×Bool))->List AV:=λx=>[.mp (List.map zjx.enc x)]
abbrev zFT:TyD:=TyD.of (List ((Int×Int)×Bool)) zwY (by
 intro x y h;simp only[zD,zwY,TyD.minj zjx]at h
 exact(h))
structure za1 where
 script:Int
 xc:Int
def za1.eqOf{x y:za1}(h0:x.script=y.script)(h1:x.xc=y.xc):x=y:=by cases x;cases y;simp only at *;simp only[h0,h1]
def zcM:za1->List AV:=λx=>[I x.script,I x.xc]
abbrev zgo:TyD:=TyD.of za1 zcM (by
 intro x y h;simp only[zD,zcM]at h
 exact(za1.eqOf (h.1) (h.2)))
def zaZ:(za1×zbf)->List AV:=λx=>[.agg (zgo.enc x.1),.agg (zr2.enc x.2)]
abbrev zgi:TyD:=TyD.of (za1×zbf) zaZ (by
 intro x y h;have h1:=(zbG h).1;have h2:=(zbG (zbG h).2).1
 exact zdy (zgo.inj (AV.agg.inj h1)) (zr2.inj (AV.agg.inj h2)))
def zp0:(List (za1×zbf))->List AV:=λx=>[.mp (List.map zgi.enc x)]
abbrev zwG:TyD:=TyD.of (List (za1×zbf)) zp0 (by
 intro x y h;simp only[zD,zp0,TyD.minj zgi]at h
 exact(h))
structure zcq where
 G:zad
 xf:Bool
def zcq.eqOf{x y:zcq}(h0:x.G=y.G)(h1:x.xf=y.xf):x=y:=by cases x;cases y;simp only at *;simp only[h0,h1]
def zaM:zcq->List AV:=λx=>[I x.G.a.n,I x.G.a.b,I x.G.a.B,I x.G.r,I x.G.h,I x.G.x,I x.G.s,I x.G.q,.sl 1 (List.map zbm.enc x.G.A),B x.xf]
abbrev zfN:TyD:=TyD.of zcq zaM (by
 intro x y h;simp only[zD,zaM,TyD.minj zbm]at h
 exact(zcq.eqOf (zad.eqOf (zbf.eqOf (h.1) (h.2.1) (h.2.2.1)) (h.2.2.2.1) (h.2.2.2.2.1) (h.2.2.2.2.2.1) (h.2.2.2.2.2.2.1) (h.2.2.2.2.2.2.2.1) (h.2.2.2.2.2.2.2.2.1)) (h.2.2.2.2.2.2.2.2.2)))
def zxN:(List zcq)->List AV:=λx=>[.sl 10 (List.map zfN.enc x)]
abbrev zHq:TyD:=TyD.of (List zcq) zxN (by
 intro x y h;simp only[zD,zxN,TyD.minj zfN]at h
 exact(h))
def za5:(za1×Int)->List AV:=λx=>[.agg (zgo.enc x.1),I x.2]
abbrev zgA:TyD:=TyD.of (za1×Int) za5 (by
 intro x y h;have h1:=(zbG h).1;have h2:=(zbG (zbG h).2).1
 exact zdy (zgo.inj (AV.agg.inj h1)) (by simpa using h2))
def zqM:(List (za1×Int))->List AV:=λx=>[.mp (List.map zgA.enc x)]
abbrev zxm:TyD:=TyD.of (List (za1×Int)) zqM (by
 intro x y h;simp only[zD,zqM,TyD.minj zgA]at h
 exact(h))
structure zck where
 J:List Bool
 p:Bool
def zck.eqOf{x y:zck}(h0:x.J=y.J)(h1:x.p=y.p):x=y:=by cases x;cases y;simp only at *;simp only[h0,h1]
def zdR:zck->List AV:=λx=>[.sl 1 (List.map dBool.enc x.J),B x.p]
abbrev zzm:TyD:=TyD.of zck zdR (by
 intro x y h;simp only[zD,zdR,TyD.minj dBool]at h
 exact(zck.eqOf (h.1) (h.2)))
structure zaF where
 N:Int
 marks:List zcq
 period:Int
 l:zbf
 R:List (za1×Int)
 watch:zck
 good:zbf
 some:Bool
 d:List zcb
def zaF.eqOf{x y:zaF}(h0:x.N=y.N)(h1:x.marks=y.marks)(h2:x.period=y.period)(h3:x.l=y.l)(h4:x.R=y.R)(h5:x.watch=y.watch)(h6:x.good=y.good)(h7:x.some=y.some)(h8:x.d=y.d):x=y:=by cases x;cases y;simp only at *;simp only[h0,h1,h2,h3,h4,h5,h6,h7,h8]
def zgL:zaF->List AV:=λx=>[I x.N,.sl 10 (List.map zfN.enc x.marks),I x.period,I x.l.n,I x.l.b,I x.l.B,.mp (List.map zgA.enc x.R),.sl 1 (List.map dBool.enc x.watch.J),B x.watch.p,I x.good.n,I x.good.b,I x.good.B,B x.some,.sl 12 (List.map zd5.enc x.d)]
abbrev zlU:TyD:=TyD.of zaF zgL (by
 intro x y h;simp only[zD,zgL,TyD.minj dBool,TyD.minj zgA,TyD.minj zd5,TyD.minj zfN]at h
 exact(zaF.eqOf (h.1) (h.2.1) (h.2.2.1) (zbf.eqOf (h.2.2.2.1) (h.2.2.2.2.1) (h.2.2.2.2.2.1)) (h.2.2.2.2.2.2.1) (zck.eqOf (h.2.2.2.2.2.2.2.1) (h.2.2.2.2.2.2.2.2.1)) (zbf.eqOf (h.2.2.2.2.2.2.2.2.2.1) (h.2.2.2.2.2.2.2.2.2.2.1) (h.2.2.2.2.2.2.2.2.2.2.2.1)) (h.2.2.2.2.2.2.2.2.2.2.2.2.1) (h.2.2.2.2.2.2.2.2.2.2.2.2.2)))
def zd8:(za1×zad)->List AV:=λx=>[.agg (zgo.enc x.1),.agg (za4.enc x.2)]
abbrev zfi:TyD:=TyD.of (za1×zad) zd8 (by
 intro x y h;have h1:=(zbG h).1;have h2:=(zbG (zbG h).2).1
 exact zdy (zgo.inj (AV.agg.inj h1)) (za4.inj (AV.agg.inj h2)))
def znw:(List (za1×zad))->List AV:=λx=>[.mp (List.map zfi.enc x)]
abbrev ztH:TyD:=TyD.of (List (za1×zad)) znw (by
 intro x y h;simp only[zD,znw,TyD.minj zfi]at h
 exact(h))
def zg2:((Int×Int)×Int)->List AV:=λx=>[.agg (zgV.enc x.1),I x.2]
abbrev zi6:TyD:=TyD.of ((Int×Int)×Int) zg2 (by
 intro x y h;have h1:=(zbG h).1;have h2:=(zbG (zbG h).2).1
 exact zdy (zgV.inj (AV.agg.inj h1)) (by simpa using h2))
def zvD:(List ((Int×Int)×Int))->List AV:=λx=>[.mp (List.map zi6.enc x)]
abbrev zEk:TyD:=TyD.of (List ((Int×Int)×Int)) zvD (by
 intro x y h;simp only[zD,zvD,TyD.minj zi6]at h
 exact(h))
structure zb7 where
 first:Int
 W:Bool
def zb7.eqOf{x y:zb7}(h0:x.first=y.first)(h1:x.W=y.W):x=y:=by cases x;cases y;simp only at *;simp only[h0,h1]
def zc7:zb7->List AV:=λx=>[I x.first,B x.W]
abbrev zhy:TyD:=TyD.of zb7 zc7 (by
 intro x y h;simp only[zD,zc7]at h
 exact(zb7.eqOf (h.1) (h.2)))
def zc0:((Int×Int)×zb7)->List AV:=λx=>[.agg (zgV.enc x.1),.agg (zhy.enc x.2)]
abbrev zdF:TyD:=TyD.of ((Int×Int)×zb7) zc0 (by
 intro x y h;have h1:=(zbG h).1;have h2:=(zbG (zbG h).2).1
 exact zdy (zgV.inj (AV.agg.inj h1)) (zhy.inj (AV.agg.inj h2)))
def zpn:(List ((Int×Int)×zb7))->List AV:=λx=>[.mp (List.map zdF.enc x)]
abbrev zvQ:TyD:=TyD.of (List ((Int×Int)×zb7)) zpn (by
 intro x y h;simp only[zD,zpn,TyD.minj zdF]at h
 exact(h))
structure zcY where
 xe:Int
 s:Int
def zcY.eqOf{x y:zcY}(h0:x.xe=y.xe)(h1:x.s=y.s):x=y:=by cases x;cases y;simp only at *;simp only[h0,h1]
def zcs:zcY->List AV:=λx=>[I x.xe,I x.s]
abbrev zeL:TyD:=TyD.of zcY zcs (by
 intro x y h;simp only[zD,zcs]at h
 exact(zcY.eqOf (h.1) (h.2)))
def zE2:(List zcY)->List AV:=λx=>[.sl 2 (List.map zeL.enc x)]
abbrev zM1:TyD:=TyD.of (List zcY) zE2 (by
 intro x y h;simp only[zD,zE2,TyD.minj zeL]at h
 exact(h))
def zxO:(List (List zad))->List AV:=λx=>[.sl 1 (List.map zkA.enc x)]
abbrev zHr:TyD:=TyD.of (List (List zad)) zxO (by
 intro x y h;simp only[zD,zxO,TyD.minj zkA]at h
 exact(h))
structure zcj where
 xc:Int
 value:Int
def zcj.eqOf{x y:zcj}(h0:x.xc=y.xc)(h1:x.value=y.value):x=y:=by cases x;cases y;simp only at *;simp only[h0,h1]
def zcw:zcj->List AV:=λx=>[I x.xc,I x.value]
abbrev zh2:TyD:=TyD.of zcj zcw (by
 intro x y h;simp only[zD,zcw]at h
 exact(zcj.eqOf (h.1) (h.2)))
def zzB:(List zcj)->List AV:=λx=>[.sl 2 (List.map zh2.enc x)]
abbrev zjz:TyD:=TyD.of (List zcj) zzB (by
 intro x y h;simp only[zD,zzB,TyD.minj zh2]at h
 exact(h))
def zcT:(Int×(List zcj))->List AV:=λx=>[I x.1,.sl 2 (List.map zh2.enc x.2)]
abbrev zq7:TyD:=TyD.of (Int×(List zcj)) zcT (by
 intro x y h;have h1:=(zbG h).1;have h2:=(zbG (zbG h).2).1
 exact zdy (by simpa using h1) (by simpa only[AV.sl.injEq,true_and,TyD.minj zh2]using h2))
def zrb:(List (Int×(List zcj)))->List AV:=λx=>[.mp (List.map zq7.enc x)]
abbrev zyu:TyD:=TyD.of (List (Int×(List zcj))) zrb (by
 intro x y h;simp only[zD,zrb,TyD.minj zq7]at h
 exact(h))
@[simp] def zdY{β:Type}(l:List zan)(i:Nat)(k:zan->Option β):elemD zb4 (List.map zai l) i k=(l[i]?).bind k:=ze9 zb4 l i k
@[simp] def zEA{β:Type}(l:List zaP)(i:Nat)(k:zaP->Option β):elemD ziN (List.map zaK l) i k=(l[i]?).bind k:=ze9 ziN l i k
@[simp] def zes{β:Type}(l:List za6)(i:Nat)(k:za6->Option β):elemD zc2 (List.map zaE l) i k=(l[i]?).bind k:=ze9 zc2 l i k
@[simp] def zcB{β:Type}(l:List zad)(i:Nat)(k:zad->Option β):elemD za4 (List.map zab l) i k=(l[i]?).bind k:=ze9 za4 l i k
@[simp] def ze0{β:Type}(l:List zbh)(i:Nat)(k:zbh->Option β):elemD zdT (List.map zbl l) i k=(l[i]?).bind k:=ze9 zdT l i k
@[simp] def zeM{β:Type}(l:List zaQ)(i:Nat)(k:zaQ->Option β):elemD zcZ (List.map zaU l) i k=(l[i]?).bind k:=ze9 zcZ l i k
@[simp] def zen{β:Type}(l:List GPart)(i:Nat)(k:GPart->Option β):elemD zek (List.map za8 l) i k=(l[i]?).bind k:=ze9 zek l i k
@[simp] def zkB{β:Type}(l:List zbu)(i:Nat)(k:zbu->Option β):elemD zeK (List.map zbI l) i k=(l[i]?).bind k:=ze9 zeK l i k
@[simp] def zeC{β:Type}(l:List zaY)(i:Nat)(k:zaY->Option β):elemD zcK (List.map za0 l) i k=(l[i]?).bind k:=ze9 zcK l i k
@[simp] def zmN{β:Type}(l:List GSeed)(i:Nat)(k:GSeed->Option β):elemD zgt (List.map zcL l) i k=(l[i]?).bind k:=ze9 zgt l i k
@[simp] def zqQ{β:Type}(l:List zcb)(i:Nat)(k:zcb->Option β):elemD zd5 (List.map zaA l) i k=(l[i]?).bind k:=ze9 zd5 l i k
@[simp] def znn{β:Type}(l:List zcY)(i:Nat)(k:zcY->Option β):elemD zeL (List.map zcs l) i k=(l[i]?).bind k:=ze9 zeL l i k
@[simp] def zpD{β:Type}(l:List zcq)(i:Nat)(k:zcq->Option β):elemD zfN (List.map zaM l) i k=(l[i]?).bind k:=ze9 zfN l i k
@[simp] def zqR{β:Type}(l:List zcj)(i:Nat)(k:zcj->Option β):elemD zh2 (List.map zcw l) i k=(l[i]?).bind k:=ze9 zh2 l i k
@[simp] def zHN{β:Type}(l:List (List zan))(i:Nat)(k:(List zan)->Option β):elemD zvP (List.map zmB l) i k=(l[i]?).bind k:=ze9 zvP l i k
@[simp] def zl5{β:Type}(l:List (List zad))(i:Nat)(k:(List zad)->Option β):elemD zkA (List.map ze1 l) i k=(l[i]?).bind k:=ze9 zkA l i k
@[simp] def zK2{β:Type}(l:List (List Int))(i:Nat)(k:(List Int)->Option β):elemD zho (List.map zdt l) i k=(l[i]?).bind k:=ze9 zho l i k
def tyTab:List TyD:=[dRaw,dRaw,zbm,zbm,dBool,dI_u8,dI_u8,dRaw,dRaw,dStr,dStr,dStr,dI_u64,dRaw,dRaw,dRaw,dRaw,dRaw,dRaw,dRaw,dRaw,dI_i32,zho,dRaw,dRaw,dRaw,dRaw,dL_GMarker,dL_GScript,dL_GPaper,dL_GScheme,dL_GSeed,dRaw,zow,dRaw,zqj,dRaw,zkA,dRaw,zvP,dRaw,dRaw,ziN,dRaw,dRaw,zqi,dRaw,zbm,dRaw,dRaw,dRaw,dL_GGiven,zIR,dRaw,zgd,dRaw,dRaw,dRaw,dRaw,dRaw,zr2,dRaw,zb4,dRaw,dRaw,zdT,dRaw,dRaw,zKE,dRaw,zc2,dRaw,dRaw,dRaw,dRaw,dRaw,dRaw,zKD,dRaw,dRaw,dRaw,zHo,dRaw,dRaw,dRaw,za4,dRaw,dRaw,dRaw,zcK,dRaw,dRaw,zbH,dRaw,dRaw,dRaw,dRaw,dRaw,dRaw,dRaw,zgt,dRaw,dL_GPart,dRaw,zcZ,dRaw,dRaw,zek,dRaw,dRaw,dRaw,dRaw,dRaw,zzn,zzn,dRaw,dRaw,dRaw,zEl,dRaw,dRaw,dRaw,dRaw,dRaw,dRaw,dRaw,dRaw,dRaw,dRaw,dL_Bool,dRaw,dRaw,dRaw,dRaw,dRaw,zBR,zFT,zgV,dRaw,dRaw,dRaw,dRaw,dRaw,dRaw,dRaw,dRaw,dRaw,zd5,dRaw,dRaw,dRaw,dRaw,dRaw,dRaw,dRaw,dRaw,dRaw,dL_L_I_i64,dRaw,zeK,dRaw,dRaw,dRaw,dRaw,dRaw,dRaw,dRaw,dRaw,zwG,dRaw,dRaw,dRaw,zHq,zxm,dRaw,zzm,dRaw,zlU,ztH,dRaw,dRaw,zgo,dRaw,dRaw,dRaw,dRaw,dRaw,dRaw,dRaw,dRaw,dRaw,dRaw,zEk,dRaw,dRaw,dRaw,dRaw,dRaw,dRaw,dRaw,dRaw,dRaw,dRaw,dRaw,dI_u64,dRaw,zvQ,dRaw,dRaw,zhy,dRaw,dRaw,zM1,dRaw,dRaw,dRaw,zeL,dRaw,dRaw,dRaw,dRaw,dRaw,dRaw,dRaw,dRaw,dRaw,dRaw,dRaw,dRaw,zfN,dRaw,dRaw,zHr,dRaw,dRaw,dRaw,dRaw,dRaw,dRaw,zyu,zjz,dRaw,zh2,dRaw,dRaw,dRaw,dRaw,dRaw,dRaw,zbm,dRaw,dRaw,dRaw,dRaw,dRaw,dRaw,dI_u32,dRaw,dI_u64,dRaw,dRaw,dRaw,dRaw,dRaw,dRaw,dRaw,dRaw,dRaw,dRaw,dRaw,dRaw,dRaw,dRaw,dRaw,dRaw,dRaw,dRaw,dRaw,dRaw,dRaw,dRaw,dRaw,dRaw,dRaw,dRaw,dRaw,dRaw,dRaw,dRaw,dRaw,dRaw,dRaw,dI_u64,dRaw,dRaw,dRaw,dRaw,dRaw,dRaw,dRaw,dRaw,dRaw,dRaw,dRaw,dRaw,dRaw,dRaw,dRaw,dRaw,dRaw,dRaw,dRaw,dRaw,dRaw,dRaw,dRaw,dRaw,dRaw,dRaw,dRaw,dRaw,dRaw,dRaw,dRaw,dRaw,dRaw,dRaw,dRaw,dRaw,dRaw,dRaw,dRaw,dRaw,dRaw,dRaw,dRaw,dRaw,dI_u8,dI_u8,dRaw,dRaw,dI_i32,dI_i32,dRaw,dRaw,dRaw]
abbrev mA:=List.map zab
abbrev mB:=List.map zai
abbrev mC:=List.map zaE
abbrev mE:=List.map za8
abbrev mF:=List.map zaA
abbrev mG:=List.map za0
abbrev mH:=List.map zaM
abbrev mI:=List.map zbl
abbrev mJ:=List.map zaU
abbrev mK:=List.map zbb
abbrev mL:=List.map zaZ
abbrev mM:=List.map zbE
abbrev mN:=List.map za5
abbrev mO:=List.map zcL
abbrev mP:=List.map zbQ
abbrev mQ:=List.map zcw
abbrev mR:=List.map zbT
abbrev mT:=List.map zcs
abbrev mU:=List.map zdt
abbrev mV:=List.map zbI
abbrev mW:=List.map zcT
abbrev mX:=List.map ze1
abbrev mY:=List.map zc0
abbrev mZ:=List.map zg2
abbrev sA:=List.map zhO
abbrev sB:=List.map zd8
abbrev sC:=λx=>AV.sl 9 (mA x)
abbrev sD:=λx=>AV.sl 6 (mB x)
abbrev sE:=λx=>AV.sl 5 (mI x)
abbrev sF:=λx=>AV.mp (mL x)
abbrev sG:=λx=>AV.sl 3 (mJ x)
abbrev sH:=λx=>AV.sl 7 (mG x)
abbrev sI:=λx=>AV.sl 12 (mF x)
abbrev sJ:=λx=>AV.sl 10 (mH x)
abbrev sK:=λx=>AV.sl 2 (mO x)
abbrev sL:=λx=>AV.mp (mN x)
abbrev sM:=λx=>AV.sl 8 (mC x)
abbrev sN:=λx=>AV.sl 6 (mE x)
abbrev sO:=λx=>AV.sl 2 (mQ x)
abbrev sP:=λx=>AV.sl 2 (mV x)
abbrev sQ:=λx=>AV.sl 1 (mX x)
abbrev sR:=λx=>AV.sl 1 (mU x)
abbrev sS:=λx=>AV.agg (zap x)
abbrev sT:=λx=>AV.agg (zaU x)
abbrev sU:=λx=>AV.agg (zaT x)
abbrev sV:=λx=>AV.agg (zab x)
abbrev sW:=λx=>AV.agg (zbt x)
abbrev sX:=λx=>AV.agg (zcc x)
abbrev sY:=λx=>AV.agg (zaK x)
abbrev sZ:=λx=>AV.agg (zbI x)
abbrev pA:=λx=>AV.agg (za0 x)
abbrev pB:=λx=>AV.agg (zai x)
abbrev pC:=λx=>AV.agg (zca x)
abbrev pD:=λx=>AV.agg (zaE x)
abbrev pE:=λx=>AV.agg (za8 x)
abbrev pF:=λx=>AV.agg (zdR x)
abbrev pG:=λx=>AV.agg (zbl x)
abbrev pH:=λx=>AV.agg (zc7 x)
abbrev gQ:=λa b=>AV.loc a b 0 0
abbrev gR:=λa b (x:aI)=>AV.row a b 0 (List.length x)
abbrev gS:=λb:Bool=>B b
abbrev gT:=λl:List (List AV)=>List.replicate (↑l.length:Int).toNat (B false::List.map AV.v [])
abbrev gU:=λl:List (List AV)=>List.replicate (↑l.length:Int).toNat (I 0::List.map AV.v [])
abbrev gV:=λl:List (List AV)=>List.replicate (↑l.length:Int).toNat (AV.sl 1 []::List.map AV.v [])
abbrev gW:=λl:List (List AV)=>List.replicate (↑l.length:Int).toNat (I 0::I 0::List.map AV.v [])
abbrev gX:Option (AV×Mem):=some (B false,[])
abbrev gY:Option (AV×Mem):=some (I 2,[])
abbrev gZ:Option (AV×Mem):=some (B true,[])
abbrev bC:Option (AV×Mem):=some (I 1,[])
abbrev bF:Option (AV×Mem):=some (I 0,[])
abbrev bG:Option (AV×Mem):=some (I 43,[])
abbrev bH:=AV.v (.slice none 0 0)
def bJ{α:Type}{a b:α}(h:a=b:=by kernel_rfl):some a=some b:=congrArg some h
abbrev aA:=List zad
abbrev aD:=List zan
abbrev aL:=List za6
abbrev aN:=List zbh
abbrev aT:=List zaY
abbrev aY:=zaY->Option Int
abbrev aZ:=List (za1×zbf)
abbrev ac:=List ((Int×Int)×zan)
abbrev ae:=List (za1×Int)
abbrev ag:=List (Option zaF)
abbrev ah:=List ((Int×Int)×zan)×List ((Int×Int)×Bool)
end Go.Proofs.YtlecnobdfhlmnaaGreat
end
