/- The types of the seat bc data. -/
import Derived.Test.YtcpnffbcljkbkaaGreatDoorAb2
set_option linter.all false
noncomputable section
namespace Go.Proofs.YtcpnffbcljkbkaaGreatDoor
open Go.Ab
abbrev zE:=zB @w64_id (zB @zab.{0,0} (zB @zad.{0,0} (zB @zae (zB @zam @zaz))))
abbrev zF:=zB @zad.{0,0} (zB @zae @zam)
abbrev zI:=zB @zab.{0,0} @zbg
abbrev zJ:=zB @bne_self_eq_false.{0} @zaB
abbrev zL:=zB @w64_id @zam
abbrev zN:=zB @zaC @zab.{0,0}
abbrev zQ:=zB @zaB @zaS
abbrev zY:=zB @zaM @zbe
def zea:(List Int)->List AV:=λx=>[.sl 1 (List.map zbw.enc x)]
abbrev zg0:TyD:=TyD.of (List Int) zea (by
 intro x y h;simp only[zD,zea,TyD.minj zbw]at h
 exact(h))
structure zbo where
 b:Int
 k:Int
 R:Int
 xe:Int
 xn:Int
def zbo.eqOf{x y:zbo}(h0:x.b=y.b)(h1:x.k=y.k)(h2:x.R=y.R)(h3:x.xe=y.xe)(h4:x.xn=y.xn):x=y:=by cases x;cases y;simp only at *;simp only[h0,h1,h2,h3,h4]
def za8:zbo->List AV:=λx=>[I x.b,I x.k,I x.R,I x.xe,I x.xn]
abbrev zd7:TyD:=TyD.of zbo za8 (by
 intro x y h;simp only[zD,za8]at h
 exact(zbo.eqOf (h.1) (h.2.1) (h.2.2.1) (h.2.2.2.1) (h.2.2.2.2)))
structure zbA where
 ID:Int
 w:Int
 U:Int
 xv:Int
 h:List Int
def zbA.eqOf{x y:zbA}(h0:x.ID=y.ID)(h1:x.w=y.w)(h2:x.U=y.U)(h3:x.xv=y.xv)(h4:x.h=y.h):x=y:=by cases x;cases y;simp only at *;simp only[h0,h1,h2,h3,h4]
def zbK:zbA->List AV:=λx=>[I x.ID,I x.w,I x.U,I x.xv,.sl 1 (List.map zbw.enc x.h)]
abbrev zdM:TyD:=TyD.of zbA zbK (by
 intro x y h;simp only[zD,zbK,TyD.minj zbw]at h
 exact(zbA.eqOf (h.1) (h.2.1) (h.2.2.1) (h.2.2.2.1) (h.2.2.2.2)))
def zE9:(List zbA)->List AV:=λx=>[.sl 5 (List.map zdM.enc x)]
abbrev dL_GMarker:TyD:=TyD.of (List zbA) zE9 (by
 intro x y h;simp only[zD,zE9,TyD.minj zdM]at h
 exact(h))
structure GPart where
 k:Int
 N:Int
 xB:Int
 xq:Int
 X:Int
 xy:Int
def GPart.eqOf{x y:GPart}(h0:x.k=y.k)(h1:x.N=y.N)(h2:x.xB=y.xB)(h3:x.xq=y.xq)(h4:x.X=y.X)(h5:x.xy=y.xy):x=y:=by cases x;cases y;simp only at *;simp only[h0,h1,h2,h3,h4,h5]
def zbV:GPart->List AV:=λx=>[I x.k,I x.N,I x.xB,I x.xq,I x.X,I x.xy]
abbrev zfm:TyD:=TyD.of GPart zbV (by
 intro x y h;simp only[zD,zbV]at h
 exact(GPart.eqOf (h.1) (h.2.1) (h.2.2.1) (h.2.2.2.1) (h.2.2.2.2.1) (h.2.2.2.2.2)))
def nL_GPart:(List GPart)->List AV:=λx=>[.sl 6 (List.map zfm.enc x)]
abbrev dL_GPart:TyD:=TyD.of (List GPart) nL_GPart (by
 intro x y h;simp only[zD,nL_GPart,TyD.minj zfm]at h
 exact(h))
structure zaQ where
 V:Int
 D:Int
 d:List GPart
def zaQ.eqOf{x y:zaQ}(h0:x.V=y.V)(h1:x.D=y.D)(h2:x.d=y.d):x=y:=by cases x;cases y;simp only at *;simp only[h0,h1,h2]
def zaO:zaQ->List AV:=λx=>[I x.V,I x.D,.sl 6 (List.map zfm.enc x.d)]
abbrev zcS:TyD:=TyD.of zaQ zaO (by
 intro x y h;simp only[zD,zaO,TyD.minj zfm]at h
 exact(zaQ.eqOf (h.1) (h.2.1) (h.2.2)))
def zGH:(List zaQ)->List AV:=λx=>[.sl 3 (List.map zcS.enc x)]
abbrev dL_GPaper:TyD:=TyD.of (List zaQ) zGH (by
 intro x y h;simp only[zD,zGH,TyD.minj zcS]at h
 exact(h))
structure GSeed where
 g:Int
 xc:List Int
def GSeed.eqOf{x y:GSeed}(h0:x.g=y.g)(h1:x.xc=y.xc):x=y:=by cases x;cases y;simp only at *;simp only[h0,h1]
def zex:GSeed->List AV:=λx=>[I x.g,.sl 1 (List.map zbw.enc x.xc)]
abbrev zfS:TyD:=TyD.of GSeed zex (by
 intro x y h;simp only[zD,zex,TyD.minj zbw]at h
 exact(GSeed.eqOf (h.1) (h.2)))
def nL_GSeed:(List GSeed)->List AV:=λx=>[.sl 2 (List.map zfS.enc x)]
abbrev dL_GSeed:TyD:=TyD.of (List GSeed) nL_GSeed (by
 intro x y h;simp only[zD,nL_GSeed,TyD.minj zfS]at h
 exact(h))
structure zbT where
 G:Int
 xe:Int
 xh:Int
 xa:Int
def zbT.eqOf{x y:zbT}(h0:x.G=y.G)(h1:x.xe=y.xe)(h2:x.xh=y.xh)(h3:x.xa=y.xa):x=y:=by cases x;cases y;simp only at *;simp only[h0,h1,h2,h3]
def zdg:zbT->List AV:=λx=>[I x.G,I x.xe,I x.xh,I x.xa]
abbrev zmZ:TyD:=TyD.of zbT zdg (by
 intro x y h;simp only[zD,zdg]at h
 exact(zbT.eqOf (h.1) (h.2.1) (h.2.2.1) (h.2.2.2)))
structure zbQ where
 xo:Bool
 L:Int
def zbQ.eqOf{x y:zbQ}(h0:x.xo=y.xo)(h1:x.L=y.L):x=y:=by cases x;cases y;simp only at *;simp only[h0,h1]
def zcV:zbQ->List AV:=λx=>[B x.xo,I x.L]
abbrev zq5:TyD:=TyD.of zbQ zcV (by
 intro x y h;simp only[zD,zcV]at h
 exact(zbQ.eqOf (h.1) (h.2)))
def zFc:(List (List Int))->List AV:=λx=>[.sl 1 (List.map zg0.enc x)]
abbrev dL_L_I_i64:TyD:=TyD.of (List (List Int)) zFc (by
 intro x y h;simp only[zD,zFc,TyD.minj zg0]at h
 exact(h))
structure zbC where
 xb:List (List Int)
 x:List Int
def zbC.eqOf{x y:zbC}(h0:x.xb=y.xb)(h1:x.x=y.x):x=y:=by cases x;cases y;simp only at *;simp only[h0,h1]
def zbU:zbC->List AV:=λx=>[.sl 1 (List.map zg0.enc x.xb),.sl 1 (List.map zbw.enc x.x)]
abbrev zep:TyD:=TyD.of zbC zbU (by
 intro x y h;simp only[zD,zbU,TyD.minj zbw,TyD.minj zg0]at h
 exact(zbC.eqOf (h.1) (h.2)))
def zFa:(List zbC)->List AV:=λx=>[.sl 2 (List.map zep.enc x)]
abbrev dL_GScheme:TyD:=TyD.of (List zbC) zFa (by
 intro x y h;simp only[zD,zFa,TyD.minj zep]at h
 exact(h))
structure zbr where
 xf:Int
 Z:Int
def zbr.eqOf{x y:zbr}(h0:x.xf=y.xf)(h1:x.Z=y.Z):x=y:=by cases x;cases y;simp only at *;simp only[h0,h1]
def zaL:zbr->List AV:=λx=>[I x.xf,I x.Z]
abbrev zfs:TyD:=TyD.of zbr zaL (by
 intro x y h;simp only[zD,zaL]at h
 exact(zbr.eqOf (h.1) (h.2)))
structure zdv where
 X:zbr
 Y:zbr
def zdv.eqOf{x y:zdv}(h0:x.X=y.X)(h1:x.Y=y.Y):x=y:=by cases x;cases y;simp only at *;simp only[h0,h1]
def zdu:zdv->List AV:=λx=>[I x.X.xf,I x.X.Z,I x.Y.xf,I x.Y.Z]
abbrev zfr:TyD:=TyD.of zdv zdu (by
 intro x y h;simp only[zD,zdu]at h
 exact(zdv.eqOf (zbr.eqOf (h.1) (h.2.1)) (zbr.eqOf (h.2.2.1) (h.2.2.2))))
def zGI:(List zdv)->List AV:=λx=>[.sl 4 (List.map zfr.enc x)]
abbrev dL_GPoint:TyD:=TyD.of (List zdv) zGI (by
 intro x y h;simp only[zD,zGI,TyD.minj zfr]at h
 exact(h))
structure zeT where
 xi:List zdv
def zeT.eqOf{x y:zeT}(h0:x.xi=y.xi):x=y:=by cases x;cases y;simp only at *;simp only[h0]
def zft:zeT->List AV:=λx=>[.sl 4 (List.map zfr.enc x.xi)]
abbrev zi7:TyD:=TyD.of zeT zft (by
 intro x y h;simp only[zD,zft,TyD.minj zfr]at h
 exact(zeT.eqOf (h)))
def zGE:(List zeT)->List AV:=λx=>[.sl 1 (List.map zi7.enc x)]
abbrev dL_GCurve:TyD:=TyD.of (List zeT) zGE (by
 intro x y h;simp only[zD,zGE,TyD.minj zi7]at h
 exact(h))
structure GUnit where
 v:Int
 xr:Int
 N:Int
def GUnit.eqOf{x y:GUnit}(h0:x.v=y.v)(h1:x.xr=y.xr)(h2:x.N=y.N):x=y:=by cases x;cases y;simp only at *;simp only[h0,h1,h2]
def zey:GUnit->List AV:=λx=>[I x.v,I x.xr,I x.N]
abbrev ziN:TyD:=TyD.of GUnit zey (by
 intro x y h;simp only[zD,zey]at h
 exact(GUnit.eqOf (h.1) (h.2.1) (h.2.2)))
def nL_GUnit:(List GUnit)->List AV:=λx=>[.sl 3 (List.map ziN.enc x)]
abbrev dL_GUnit:TyD:=TyD.of (List GUnit) nL_GUnit (by
 intro x y h;simp only[zD,nL_GUnit,TyD.minj ziN]at h
 exact(h))
structure zcf where
 Q:List GUnit
 W:List Int
 N:Int
def zcf.eqOf{x y:zcf}(h0:x.Q=y.Q)(h1:x.W=y.W)(h2:x.N=y.N):x=y:=by cases x;cases y;simp only at *;simp only[h0,h1,h2]
def zc5:zcf->List AV:=λx=>[.sl 3 (List.map ziN.enc x.Q),.sl 1 (List.map zbw.enc x.W),I x.N]
abbrev zoY:TyD:=TyD.of zcf zc5 (by
 intro x y h;simp only[zD,zc5,TyD.minj ziN,TyD.minj zbw]at h
 exact(zcf.eqOf (h.1) (h.2.1) (h.2.2)))
structure zb4 where
 xx:Int
 xa:Int
 L:Int
def zb4.eqOf{x y:zb4}(h0:x.xx=y.xx)(h1:x.xa=y.xa)(h2:x.L=y.L):x=y:=by cases x;cases y;simp only at *;simp only[h0,h1,h2]
def zcP:zb4->List AV:=λx=>[I x.xx,I x.xa,I x.L]
abbrev zoi:TyD:=TyD.of zb4 zcP (by
 intro x y h;simp only[zD,zcP]at h
 exact(zb4.eqOf (h.1) (h.2.1) (h.2.2)))
structure zbF where
 u:List zbA
 h:List zaQ
 B:List GSeed
 O:zbT
 xz:zbQ
 H:List zbC
 xk:List zeT
 xm:zcf
 xt:zb4
 xA:Int
def zbF.eqOf{x y:zbF}(h0:x.u=y.u)(h1:x.h=y.h)(h2:x.B=y.B)(h3:x.O=y.O)(h4:x.xz=y.xz)(h5:x.H=y.H)(h6:x.xk=y.xk)(h7:x.xm=y.xm)(h8:x.xt=y.xt)(h9:x.xA=y.xA):x=y:=by cases x;cases y;simp only at *;simp only[h0,h1,h2,h3,h4,h5,h6,h7,h8,h9]
def zbz:zbF->List AV:=λx=>[.sl 5 (List.map zdM.enc x.u),.sl 3 (List.map zcS.enc x.h),.sl 2 (List.map zfS.enc x.B),I x.O.G,I x.O.xe,I x.O.xh,I x.O.xa,B x.xz.xo,I x.xz.L,.sl 2 (List.map zep.enc x.H),.sl 1 (List.map zi7.enc x.xk),.sl 3 (List.map ziN.enc x.xm.Q),.sl 1 (List.map zbw.enc x.xm.W),I x.xm.N,I x.xt.xx,I x.xt.xa,I x.xt.L,I x.xA]
abbrev zxM:TyD:=TyD.of zbF zbz (by
 intro x y h;simp only[zD,zbz,TyD.minj zi7,TyD.minj zdM,TyD.minj zcS,TyD.minj zep,TyD.minj zfS,TyD.minj ziN,TyD.minj zbw]at h
 exact(zbF.eqOf (h.1) (h.2.1) (h.2.2.1) (zbT.eqOf (h.2.2.2.1) (h.2.2.2.2.1) (h.2.2.2.2.2.1) (h.2.2.2.2.2.2.1)) (zbQ.eqOf (h.2.2.2.2.2.2.2.1) (h.2.2.2.2.2.2.2.2.1)) (h.2.2.2.2.2.2.2.2.2.1) (h.2.2.2.2.2.2.2.2.2.2.1) (zcf.eqOf (h.2.2.2.2.2.2.2.2.2.2.2.1) (h.2.2.2.2.2.2.2.2.2.2.2.2.1) (h.2.2.2.2.2.2.2.2.2.2.2.2.2.1)) (zb4.eqOf (h.2.2.2.2.2.2.2.2.2.2.2.2.2.2.1) (h.2.2.2.2.2.2.2.2.2.2.2.2.2.2.2.1) (h.2.2.2.2.2.2.2.2.2.2.2.2.2.2.2.2.1)) (h.2.2.2.2.2.2.2.2.2.2.2.2.2.2.2.2.2)))
def zCK:(List zbo)->List AV:=λx=>[.sl 5 (List.map zd7.enc x)]
abbrev zK4:TyD:=TyD.of (List zbo) zCK (by
 intro x y h;simp only[zD,zCK,TyD.minj zd7]at h
 exact(h))
structure zc8 where
 At:Int
 p:Int
 y:List zbo
def zc8.eqOf{x y:zc8}(h0:x.At=y.At)(h1:x.p=y.p)(h2:x.y=y.y):x=y:=by cases x;cases y;simp only at *;simp only[h0,h1,h2]
def zcn:zc8->List AV:=λx=>[I x.At,I x.p,.sl 5 (List.map zd7.enc x.y)]
abbrev zgd:TyD:=TyD.of zc8 zcn (by
 intro x y h;simp only[zD,zcn,TyD.minj zd7]at h
 exact(zc8.eqOf (h.1) (h.2.1) (h.2.2)))
def zwm:(List zc8)->List AV:=λx=>[.sl 3 (List.map zgd.enc x)]
abbrev zEF:TyD:=TyD.of (List zc8) zwm (by
 intro x y h;simp only[zD,zwm,TyD.minj zgd]at h
 exact(h))
structure zbH where
 ID:Int
 b:Int
 R:Int
 p:Int
 K:Int
def zbH.eqOf{x y:zbH}(h0:x.ID=y.ID)(h1:x.b=y.b)(h2:x.R=y.R)(h3:x.p=y.p)(h4:x.K=y.K):x=y:=by cases x;cases y;simp only at *;simp only[h0,h1,h2,h3,h4]
def za6:zbH->List AV:=λx=>[I x.ID,I x.b,I x.R,I x.p,I x.K]
abbrev zdA:TyD:=TyD.of zbH za6 (by
 intro x y h;simp only[zD,za6]at h
 exact(zbH.eqOf (h.1) (h.2.1) (h.2.2.1) (h.2.2.2.1) (h.2.2.2.2)))
structure zaV where
 k:Int
 a:zbH
def zaV.eqOf{x y:zaV}(h0:x.k=y.k)(h1:x.a=y.a):x=y:=by cases x;cases y;simp only at *;simp only[h0,h1]
def zax:zaV->List AV:=λx=>[I x.k,I x.a.ID,I x.a.b,I x.a.R,I x.a.p,I x.a.K]
abbrev zcU:TyD:=TyD.of zaV zax (by
 intro x y h;simp only[zD,zax]at h
 exact(zaV.eqOf (h.1) (zbH.eqOf (h.2.1) (h.2.2.1) (h.2.2.2.1) (h.2.2.2.2.1) (h.2.2.2.2.2))))
def zA0:(List zaV)->List AV:=λx=>[.sl 6 (List.map zcU.enc x)]
abbrev zJP:TyD:=TyD.of (List zaV) zA0 (by
 intro x y h;simp only[zD,zA0,TyD.minj zcU]at h
 exact(h))
structure zb8 where
 p:Int
 n:Int
 S:Int
def zb8.eqOf{x y:zb8}(h0:x.p=y.p)(h1:x.n=y.n)(h2:x.S=y.S):x=y:=by cases x;cases y;simp only at *;simp only[h0,h1,h2]
def zde:zb8->List AV:=λx=>[I x.p,I x.n,I x.S]
abbrev dGStamp:TyD:=TyD.of zb8 zde (by
 intro x y h;simp only[zD,zde]at h
 exact(zb8.eqOf (h.1) (h.2.1) (h.2.2)))
structure zak where
 c:zb8
 k:Int
 g:Int
 G:Int
 q:Int
 E:Int
 r:List Int
def zak.eqOf{x y:zak}(h0:x.c=y.c)(h1:x.k=y.k)(h2:x.g=y.g)(h3:x.G=y.G)(h4:x.q=y.q)(h5:x.E=y.E)(h6:x.r=y.r):x=y:=by cases x;cases y;simp only at *;simp only[h0,h1,h2,h3,h4,h5,h6]
def zah:zak->List AV:=λx=>[I x.c.p,I x.c.n,I x.c.S,I x.k,I x.g,I x.G,I x.q,I x.E,.sl 1 (List.map zbw.enc x.r)]
abbrev zbm:TyD:=TyD.of zak zah (by
 intro x y h;simp only[zD,zah,TyD.minj zbw]at h
 exact(zak.eqOf (zb8.eqOf (h.1) (h.2.1) (h.2.2.1)) (h.2.2.2.1) (h.2.2.2.2.1) (h.2.2.2.2.2.1) (h.2.2.2.2.2.2.1) (h.2.2.2.2.2.2.2.1) (h.2.2.2.2.2.2.2.2)))
def zzu:(List zak)->List AV:=λx=>[.sl 9 (List.map zbm.enc x)]
abbrev zIb:TyD:=TyD.of (List zak) zzu (by
 intro x y h;simp only[zD,zzu,TyD.minj zbm]at h
 exact(h))
structure zcE where
 s:List zc8
 y:List zbo
 xj:List zaV
 xC:List zak
def zcE.eqOf{x y:zcE}(h0:x.s=y.s)(h1:x.y=y.y)(h2:x.xj=y.xj)(h3:x.xC=y.xC):x=y:=by cases x;cases y;simp only at *;simp only[h0,h1,h2,h3]
def zbY:zcE->List AV:=λx=>[.sl 3 (List.map zgd.enc x.s),.sl 5 (List.map zd7.enc x.y),.sl 6 (List.map zcU.enc x.xj),.sl 9 (List.map zbm.enc x.xC)]
abbrev zlu:TyD:=TyD.of zcE zbY (by
 intro x y h;simp only[zD,zbY,TyD.minj zcU,TyD.minj zbm,TyD.minj zd7,TyD.minj zgd]at h
 exact(zcE.eqOf (h.1) (h.2.1) (h.2.2.1) (h.2.2.2)))
structure zcL where
 b:Int
 w:Int
 v:Int
def zcL.eqOf{x y:zcL}(h0:x.b=y.b)(h1:x.w=y.w)(h2:x.v=y.v):x=y:=by cases x;cases y;simp only at *;simp only[h0,h1,h2]
def zbD:zcL->List AV:=λx=>[I x.b,I x.w,I x.v]
abbrev zhK:TyD:=TyD.of zcL zbD (by
 intro x y h;simp only[zD,zbD]at h
 exact(zcL.eqOf (h.1) (h.2.1) (h.2.2)))
structure zaK where
 l:Int
 v:Int
 b:Int
 w:Int
 D:Int
 r:List Int
 I:List Int
def zaK.eqOf{x y:zaK}(h0:x.l=y.l)(h1:x.v=y.v)(h2:x.b=y.b)(h3:x.w=y.w)(h4:x.D=y.D)(h5:x.r=y.r)(h6:x.I=y.I):x=y:=by cases x;cases y;simp only at *;simp only[h0,h1,h2,h3,h4,h5,h6]
def zaA:zaK->List AV:=λx=>[I x.l,I x.v,I x.b,I x.w,I x.D,.sl 1 (List.map zbw.enc x.r),.sl 1 (List.map zbw.enc x.I)]
abbrev zcu:TyD:=TyD.of zaK zaA (by
 intro x y h;simp only[zD,zaA,TyD.minj zbw]at h
 exact(zaK.eqOf (h.1) (h.2.1) (h.2.2.1) (h.2.2.2.1) (h.2.2.2.2.1) (h.2.2.2.2.2.1) (h.2.2.2.2.2.2)))
structure zmu where
 b:Int
 xl:Int
def zmu.eqOf{x y:zmu}(h0:x.b=y.b)(h1:x.xl=y.xl):x=y:=by cases x;cases y;simp only at *;simp only[h0,h1]
def zGD:zmu->List AV:=λx=>[I x.b,I x.xl]
abbrev dGSpecial:TyD:=TyD.of zmu zGD (by
 intro x y h;simp only[zD,zGD]at h
 exact(zmu.eqOf (h.1) (h.2)))
structure zbu where
 c:zb8
 k:Int
 b:Int
 E:Int
def zbu.eqOf{x y:zbu}(h0:x.c=y.c)(h1:x.k=y.k)(h2:x.b=y.b)(h3:x.E=y.E):x=y:=by cases x;cases y;simp only at *;simp only[h0,h1,h2,h3]
def zbj:zbu->List AV:=λx=>[I x.c.p,I x.c.n,I x.c.S,I x.k,I x.b,I x.E]
abbrev zdw:TyD:=TyD.of zbu zbj (by
 intro x y h;simp only[zD,zbj]at h
 exact(zbu.eqOf (zb8.eqOf (h.1) (h.2.1) (h.2.2.1)) (h.2.2.2.1) (h.2.2.2.2.1) (h.2.2.2.2.2)))
structure GOp where
 k:Int
 A:zcL
 g:zaK
 J:zak
 xd:zmu
 M:zbu
 W:List Int
 p:Int
 l:Int
def GOp.eqOf{x y:GOp}(h0:x.k=y.k)(h1:x.A=y.A)(h2:x.g=y.g)(h3:x.J=y.J)(h4:x.xd=y.xd)(h5:x.M=y.M)(h6:x.W=y.W)(h7:x.p=y.p)(h8:x.l=y.l):x=y:=by cases x;cases y;simp only at *;simp only[h0,h1,h2,h3,h4,h5,h6,h7,h8]
def nGOp:GOp->List AV:=λx=>[I x.k,I x.A.b,I x.A.w,I x.A.v,I x.g.l,I x.g.v,I x.g.b,I x.g.w,I x.g.D,.sl 1 (List.map zbw.enc x.g.r),.sl 1 (List.map zbw.enc x.g.I),I x.J.c.p,I x.J.c.n,I x.J.c.S,I x.J.k,I x.J.g,I x.J.G,I x.J.q,I x.J.E,.sl 1 (List.map zbw.enc x.J.r),I x.xd.b,I x.xd.xl,I x.M.c.p,I x.M.c.n,I x.M.c.S,I x.M.k,I x.M.b,I x.M.E,.sl 1 (List.map zbw.enc x.W),I x.p,I x.l]
abbrev dGOp:TyD:=TyD.of GOp nGOp (by
 intro x y h;simp only[zD,nGOp,TyD.minj zbw]at h
 exact(GOp.eqOf (h.1) (zcL.eqOf (h.2.1) (h.2.2.1) (h.2.2.2.1)) (zaK.eqOf (h.2.2.2.2.1) (h.2.2.2.2.2.1) (h.2.2.2.2.2.2.1) (h.2.2.2.2.2.2.2.1) (h.2.2.2.2.2.2.2.2.1) (h.2.2.2.2.2.2.2.2.2.1) (h.2.2.2.2.2.2.2.2.2.2.1)) (zak.eqOf (zb8.eqOf (h.2.2.2.2.2.2.2.2.2.2.2.1) (h.2.2.2.2.2.2.2.2.2.2.2.2.1) (h.2.2.2.2.2.2.2.2.2.2.2.2.2.1)) (h.2.2.2.2.2.2.2.2.2.2.2.2.2.2.1) (h.2.2.2.2.2.2.2.2.2.2.2.2.2.2.2.1) (h.2.2.2.2.2.2.2.2.2.2.2.2.2.2.2.2.1) (h.2.2.2.2.2.2.2.2.2.2.2.2.2.2.2.2.2.1) (h.2.2.2.2.2.2.2.2.2.2.2.2.2.2.2.2.2.2.1) (h.2.2.2.2.2.2.2.2.2.2.2.2.2.2.2.2.2.2.2.1)) (zmu.eqOf (h.2.2.2.2.2.2.2.2.2.2.2.2.2.2.2.2.2.2.2.2.1) (h.2.2.2.2.2.2.2.2.2.2.2.2.2.2.2.2.2.2.2.2.2.1)) (zbu.eqOf (zb8.eqOf (h.2.2.2.2.2.2.2.2.2.2.2.2.2.2.2.2.2.2.2.2.2.2.1) (h.2.2.2.2.2.2.2.2.2.2.2.2.2.2.2.2.2.2.2.2.2.2.2.1) (h.2.2.2.2.2.2.2.2.2.2.2.2.2.2.2.2.2.2.2.2.2.2.2.2.1)) (h.2.2.2.2.2.2.2.2.2.2.2.2.2.2.2.2.2.2.2.2.2.2.2.2.2.1) (h.2.2.2.2.2.2.2.2.2.2.2.2.2.2.2.2.2.2.2.2.2.2.2.2.2.2.1) (h.2.2.2.2.2.2.2.2.2.2.2.2.2.2.2.2.2.2.2.2.2.2.2.2.2.2.2.1)) (h.2.2.2.2.2.2.2.2.2.2.2.2.2.2.2.2.2.2.2.2.2.2.2.2.2.2.2.2.1) (h.2.2.2.2.2.2.2.2.2.2.2.2.2.2.2.2.2.2.2.2.2.2.2.2.2.2.2.2.2.1) (h.2.2.2.2.2.2.2.2.2.2.2.2.2.2.2.2.2.2.2.2.2.2.2.2.2.2.2.2.2.2)))
def nL_GOp:(List GOp)->List AV:=λx=>[.sl 31 (List.map dGOp.enc x)]
abbrev dL_GOp:TyD:=TyD.of (List GOp) nL_GOp (by
 intro x y h;simp only[zD,nL_GOp,TyD.minj dGOp]at h
 exact(h))
structure zag where
 L:List Int
 At:Int
def zag.eqOf{x y:zag}(h0:x.L=y.L)(h1:x.At=y.At):x=y:=by cases x;cases y;simp only at *;simp only[h0,h1]
def zas:zag->List AV:=λx=>[.sl 1 (List.map zbw.enc x.L),I x.At]
abbrev zbc:TyD:=TyD.of zag zas (by
 intro x y h;simp only[zD,zas,TyD.minj zbw]at h
 exact(zag.eqOf (h.1) (h.2)))
structure zbL where
 g:Int
 G:Int
 E:Int
 U:Int
 q:Int
 c:zb8
def zbL.eqOf{x y:zbL}(h0:x.g=y.g)(h1:x.G=y.G)(h2:x.E=y.E)(h3:x.U=y.U)(h4:x.q=y.q)(h5:x.c=y.c):x=y:=by cases x;cases y;simp only at *;simp only[h0,h1,h2,h3,h4,h5]
def zaP:zbL->List AV:=λx=>[I x.g,I x.G,I x.E,I x.U,I x.q,I x.c.p,I x.c.n,I x.c.S]
abbrev zd0:TyD:=TyD.of zbL zaP (by
 intro x y h;simp only[zD,zaP]at h
 exact(zbL.eqOf (h.1) (h.2.1) (h.2.2.1) (h.2.2.2.1) (h.2.2.2.2.1) (zb8.eqOf (h.2.2.2.2.2.1) (h.2.2.2.2.2.2.1) (h.2.2.2.2.2.2.2))))
def zGG:(List zbL)->List AV:=λx=>[.sl 8 (List.map zd0.enc x)]
abbrev dL_GGiven:TyD:=TyD.of (List zbL) zGG (by
 intro x y h;simp only[zD,zGG,TyD.minj zd0]at h
 exact(h))
structure zc1 where
 E:Int
 xw:zb8
 At:zb8
 xu:zb8
 xD:Bool
 xE:Bool
def zc1.eqOf{x y:zc1}(h0:x.E=y.E)(h1:x.xw=y.xw)(h2:x.At=y.At)(h3:x.xu=y.xu)(h4:x.xD=y.xD)(h5:x.xE=y.xE):x=y:=by cases x;cases y;simp only at *;simp only[h0,h1,h2,h3,h4,h5]
def zcl:zc1->List AV:=λx=>[I x.E,I x.xw.p,I x.xw.n,I x.xw.S,I x.At.p,I x.At.n,I x.At.S,I x.xu.p,I x.xu.n,I x.xu.S,B x.xD,B x.xE]
abbrev zff:TyD:=TyD.of zc1 zcl (by
 intro x y h;simp only[zD,zcl]at h
 exact(zc1.eqOf (h.1) (zb8.eqOf (h.2.1) (h.2.2.1) (h.2.2.2.1)) (zb8.eqOf (h.2.2.2.2.1) (h.2.2.2.2.2.1) (h.2.2.2.2.2.2.1)) (zb8.eqOf (h.2.2.2.2.2.2.2.1) (h.2.2.2.2.2.2.2.2.1) (h.2.2.2.2.2.2.2.2.2.1)) (h.2.2.2.2.2.2.2.2.2.2.1) (h.2.2.2.2.2.2.2.2.2.2.2)))
def zxS:(List zc1)->List AV:=λx=>[.sl 12 (List.map zff.enc x)]
abbrev zFS:TyD:=TyD.of (List zc1) zxS (by
 intro x y h;simp only[zD,zxS,TyD.minj zff]at h
 exact(h))
structure zbk where
 T:List zbL
 xs:List zc1
def zbk.eqOf{x y:zbk}(h0:x.T=y.T)(h1:x.xs=y.xs):x=y:=by cases x;cases y;simp only at *;simp only[h0,h1]
def zbR:zbk->List AV:=λx=>[.sl 8 (List.map zd0.enc x.T),.sl 12 (List.map zff.enc x.xs)]
abbrev zkP:TyD:=TyD.of zbk zbR (by
 intro x y h;simp only[zD,zbR,TyD.minj zd0,TyD.minj zff]at h
 exact(zbk.eqOf (h.1) (h.2)))
def zFb:(List zaK)->List AV:=λx=>[.sl 7 (List.map zcu.enc x)]
abbrev dL_GScript:TyD:=TyD.of (List zaK) zFb (by
 intro x y h;simp only[zD,zFb,TyD.minj zcu]at h
 exact(h))
structure zaZ where
 u:List zbA
 j:List zaK
 h:List zaQ
 H:List zbC
 B:List GSeed
 O:zbT
def zaZ.eqOf{x y:zaZ}(h0:x.u=y.u)(h1:x.j=y.j)(h2:x.h=y.h)(h3:x.H=y.H)(h4:x.B=y.B)(h5:x.O=y.O):x=y:=by cases x;cases y;simp only at *;simp only[h0,h1,h2,h3,h4,h5]
def za4:zaZ->List AV:=λx=>[.sl 5 (List.map zdM.enc x.u),.sl 7 (List.map zcu.enc x.j),.sl 3 (List.map zcS.enc x.h),.sl 2 (List.map zep.enc x.H),.sl 2 (List.map zfS.enc x.B),I x.O.G,I x.O.xe,I x.O.xh,I x.O.xa]
abbrev zxN:TyD:=TyD.of zaZ za4 (by
 intro x y h;simp only[zD,za4,TyD.minj zdM,TyD.minj zcS,TyD.minj zep,TyD.minj zcu,TyD.minj zfS]at h
 exact(zaZ.eqOf (h.1) (h.2.1) (h.2.2.1) (h.2.2.2.1) (h.2.2.2.2.1) (zbT.eqOf (h.2.2.2.2.2.1) (h.2.2.2.2.2.2.1) (h.2.2.2.2.2.2.2.1) (h.2.2.2.2.2.2.2.2))))
def nL_I_u8:(List Int)->List AV:=λx=>[.sl 1 (List.map dI_u8.enc x)]
abbrev dL_I_u8:TyD:=TyD.of (List Int) nL_I_u8 (by
 intro x y h;simp only[zD,nL_I_u8,TyD.minj dI_u8]at h
 exact(h))
def nL_Str:(List ByteArray)->List AV:=λx=>[.sl 1 (List.map dStr.enc x)]
abbrev dL_Str:TyD:=TyD.of (List ByteArray) nL_Str (by
 intro x y h;simp only[zD,nL_Str,TyD.minj dStr]at h
 exact(h))
structure zgQ where
 xF:ByteArray
 xH:Int
def zgQ.eqOf{x y:zgQ}(h0:x.xF=y.xF)(h1:x.xH=y.xH):x=y:=by cases x;cases y;simp only at *;simp only[h0,h1]
def zgX:zgQ->List AV:=λx=>[.v (.string x.xF),I x.xH]
abbrev zpS:TyD:=TyD.of zgQ zgX (by
 intro x y h;simp only[zD,zgX]at h
 exact(zgQ.eqOf (h.1) (h.2)))
structure zck where
 xG:Option Addr
 list:Option Addr
def zck.eqOf{x y:zck}(h0:x.xG=y.xG)(h1:x.list=y.list):x=y:=by cases x;cases y;simp only at *;simp only[h0,h1]
def zay:zck->List AV:=λx=>[.v (.pointer x.xG),.v (.pointer x.list)]
abbrev zjp:TyD:=TyD.of zck zay (by
 intro x y h;simp only[zD,zay]at h
 exact(zck.eqOf (h.1) (h.2)))
def zwn:(List zck)->List AV:=λx=>[.sl 2 (List.map zjp.enc x)]
abbrev zEG:TyD:=TyD.of (List zck) zwn (by
 intro x y h;simp only[zD,zwn,TyD.minj zjp]at h
 exact(h))
structure zb3 where
 k:Int
 q:zbr
def zb3.eqOf{x y:zb3}(h0:x.k=y.k)(h1:x.q=y.q):x=y:=by cases x;cases y;simp only at *;simp only[h0,h1]
def zbJ:zb3->List AV:=λx=>[I x.k,I x.q.xf,I x.q.Z]
abbrev zer:TyD:=TyD.of zb3 zbJ (by
 intro x y h;simp only[zD,zbJ]at h
 exact(zb3.eqOf (h.1) (zbr.eqOf (h.2.1) (h.2.2))))
def zA2:(List zb3)->List AV:=λx=>[.sl 3 (List.map zer.enc x)]
abbrev zJR:TyD:=TyD.of (List zb3) zA2 (by
 intro x y h;simp only[zD,zA2,TyD.minj zer]at h
 exact(h))
structure zcb where
 b:Int
 Q:List zb3
 xd:Int
def zcb.eqOf{x y:zcb}(h0:x.b=y.b)(h1:x.Q=y.Q)(h2:x.xd=y.xd):x=y:=by cases x;cases y;simp only at *;simp only[h0,h1,h2]
def zcB:zcb->List AV:=λx=>[I x.b,.sl 3 (List.map zer.enc x.Q),I x.xd]
abbrev zeq:TyD:=TyD.of zcb zcB (by
 intro x y h;simp only[zD,zcB,TyD.minj zer]at h
 exact(zcb.eqOf (h.1) (h.2.1) (h.2.2)))
def zA1:(List zcb)->List AV:=λx=>[.sl 3 (List.map zeq.enc x)]
abbrev zJQ:TyD:=TyD.of (List zcb) zA1 (by
 intro x y h;simp only[zD,zA1,TyD.minj zeq]at h
 exact(h))
def zwl:(List zbH)->List AV:=λx=>[.sl 5 (List.map zdA.enc x)]
abbrev zEE:TyD:=TyD.of (List zbH) zwl (by
 intro x y h;simp only[zD,zwl,TyD.minj zdA]at h
 exact(h))
def zE8:(List zbu)->List AV:=λx=>[.sl 6 (List.map zdw.enc x)]
abbrev dL_GAppeal:TyD:=TyD.of (List zbu) zE8 (by
 intro x y h;simp only[zD,zE8,TyD.minj zdw]at h
 exact(h))
def zGF:(List zcL)->List AV:=λx=>[.sl 3 (List.map zhK.enc x)]
abbrev dL_GEntry:TyD:=TyD.of (List zcL) zGF (by
 intro x y h;simp only[zD,zGF,TyD.minj zhK]at h
 exact(h))
def nL_Bool:(List Bool)->List AV:=λx=>[.sl 1 (List.map dBool.enc x)]
abbrev dL_Bool:TyD:=TyD.of (List Bool) nL_Bool (by
 intro x y h;simp only[zD,nL_Bool,TyD.minj dBool]at h
 exact(h))
def nL_Ptr:(List (Option Addr))->List AV:=λx=>[.sl 1 (List.map dPtr.enc x)]
abbrev dL_Ptr:TyD:=TyD.of (List (Option Addr)) nL_Ptr (by
 intro x y h;simp only[zD,nL_Ptr,TyD.minj dPtr]at h
 exact(h))
def ze2:(Int×Int)->List AV:=λx=>[I x.1,I x.2]
abbrev zqL:TyD:=TyD.of (Int×Int) ze2 (by
 intro x y h;simp only[zD,ze2]at h
 exact(zfR (h.1) (h.2)))
def zfM:((Int×Int)×Int)->List AV:=λx=>[.agg (zqL.enc x.1),I x.2]
abbrev zhJ:TyD:=TyD.of ((Int×Int)×Int) zfM (by
 intro x y h;have h1:=(zd2 h).1;have h2:=(zd2 (zd2 h).2).1
 exact zfR (zqL.inj (AV.agg.inj h1)) (by simpa using h2))
def zuj:(List ((Int×Int)×Int))->List AV:=λx=>[.mp (List.map zhJ.enc x)]
abbrev zB2:TyD:=TyD.of (List ((Int×Int)×Int)) zuj (by
 intro x y h;simp only[zD,zuj,TyD.minj zhJ]at h
 exact(h))
def zf9:((Int×Int)×Bool)->List AV:=λx=>[.agg (zqL.enc x.1),B x.2]
abbrev zih:TyD:=TyD.of ((Int×Int)×Bool) zf9 (by
 intro x y h;have h1:=(zd2 h).1;have h2:=(zd2 (zd2 h).2).1
 exact zfR (zqL.inj (AV.agg.inj h1)) (by simpa using h2))
def zvx:(List ((Int×Int)×Bool))->List AV:=λx=>[.mp (List.map zih.enc x)]
abbrev zDu:TyD:=TyD.of (List ((Int×Int)×Bool)) zvx (by
 intro x y h;simp only[zD,zvx,TyD.minj zih]at h
 exact(h))
structure zdG where
 xp:Int
 q:Int
def zdG.eqOf{x y:zdG}(h0:x.xp=y.xp)(h1:x.q=y.q):x=y:=by cases x;cases y;simp only at *;simp only[h0,h1]
def zdJ:zdG->List AV:=λx=>[I x.xp,I x.q]
abbrev zf4:TyD:=TyD.of zdG zdJ (by
 intro x y h;simp only[zD,zdJ]at h
 exact(zdG.eqOf (h.1) (h.2)))
def zCL:(List zdG)->List AV:=λx=>[.sl 2 (List.map zf4.enc x)]
abbrev zK5:TyD:=TyD.of (List zdG) zCL (by
 intro x y h;simp only[zD,zCL,TyD.minj zf4]at h
 exact(h))
structure zcp where
 Y:List Bool
 xg:Bool
def zcp.eqOf{x y:zcp}(h0:x.Y=y.Y)(h1:x.xg=y.xg):x=y:=by cases x;cases y;simp only at *;simp only[h0,h1]
def zeh:zcp->List AV:=λx=>[.sl 1 (List.map dBool.enc x.Y),B x.xg]
abbrev zxO:TyD:=TyD.of zcp zeh (by
 intro x y h;simp only[zD,zeh,TyD.minj dBool]at h
 exact(zcp.eqOf (h.1) (h.2)))
structure zbZ where
 part:Int
 value:Int
def zbZ.eqOf{x y:zbZ}(h0:x.part=y.part)(h1:x.value=y.value):x=y:=by cases x;cases y;simp only at *;simp only[h0,h1]
def zb0:zbZ->List AV:=λx=>[I x.part,I x.value]
abbrev zgT:TyD:=TyD.of zbZ zb0 (by
 intro x y h;simp only[zD,zb0]at h
 exact(zbZ.eqOf (h.1) (h.2)))
def zxT:(List zbZ)->List AV:=λx=>[.sl 2 (List.map zgT.enc x)]
abbrev zii:TyD:=TyD.of (List zbZ) zxT (by
 intro x y h;simp only[zD,zxT,TyD.minj zgT]at h
 exact(h))
def zcI:(Int×(List zbZ))->List AV:=λx=>[I x.1,.sl 2 (List.map zgT.enc x.2)]
abbrev zpy:TyD:=TyD.of (Int×(List zbZ)) zcI (by
 intro x y h;have h1:=(zd2 h).1;have h2:=(zd2 (zd2 h).2).1
 exact zfR (by simpa using h1) (by simpa only[AV.sl.injEq,true_and,TyD.minj zgT]using h2))
def zpI:(List (Int×(List zbZ)))->List AV:=λx=>[.mp (List.map zpy.enc x)]
abbrev zxa:TyD:=TyD.of (List (Int×(List zbZ))) zpI (by
 intro x y h;simp only[zD,zpI,TyD.minj zpy]at h
 exact(h))
structure za7 where
 Hi:Int
 Lo:Int
def za7.eqOf{x y:za7}(h0:x.Hi=y.Hi)(h1:x.Lo=y.Lo):x=y:=by cases x;cases y;simp only at *;simp only[h0,h1]
def zaD:za7->List AV:=λx=>[.v (.int .u64 x.Hi),.v (.int .u64 x.Lo)]
abbrev zev:TyD:=TyD.of za7 zaD (by
 intro x y h;simp only[zD,zaD]at h
 exact(za7.eqOf (h.1) (h.2)))
def zGJ:(List zbr)->List AV:=λx=>[.sl 2 (List.map zfs.enc x)]
abbrev dL_GRatio:TyD:=TyD.of (List zbr) zGJ (by
 intro x y h;simp only[zD,zGJ,TyD.minj zfs]at h
 exact(h))
@[simp] def zgW{β:Type}(l:List zbu)(i:Nat)(k:zbu->Option β):elemD zdw (List.map zbj l) i k=(l[i]?).bind k:=zc9 zdw l i k
@[simp] def ziO{β:Type}(l:List zbH)(i:Nat)(k:zbH->Option β):elemD zdA (List.map za6 l) i k=(l[i]?).bind k:=zc9 zdA l i k
@[simp] def zAQ{β:Type}(l:List zeT)(i:Nat)(k:zeT->Option β):elemD zi7 (List.map zft l) i k=(l[i]?).bind k:=zc9 zi7 l i k
@[simp] def zl7{β:Type}(l:List zcL)(i:Nat)(k:zcL->Option β):elemD zhK (List.map zbD l) i k=(l[i]?).bind k:=zc9 zhK l i k
@[simp] def zgU{β:Type}(l:List zbL)(i:Nat)(k:zbL->Option β):elemD zd0 (List.map zaP l) i k=(l[i]?).bind k:=zc9 zd0 l i k
@[simp] def zgD{β:Type}(l:List zaV)(i:Nat)(k:zaV->Option β):elemD zcU (List.map zax l) i k=(l[i]?).bind k:=zc9 zcU l i k
@[simp] def zdN{β:Type}(l:List zak)(i:Nat)(k:zak->Option β):elemD zbm (List.map zah l) i k=(l[i]?).bind k:=zc9 zbm l i k
@[simp] def zfB{β:Type}(l:List zbA)(i:Nat)(k:zbA->Option β):elemD zdM (List.map zbK l) i k=(l[i]?).bind k:=zc9 zdM l i k
@[simp] def zhW{β:Type}(l:List GOp)(i:Nat)(k:GOp->Option β):elemD dGOp (List.map nGOp l) i k=(l[i]?).bind k:=zc9 dGOp l i k
@[simp] def zjT{β:Type}(l:List zbo)(i:Nat)(k:zbo->Option β):elemD zd7 (List.map za8 l) i k=(l[i]?).bind k:=zc9 zd7 l i k
@[simp] def zdF{β:Type}(l:List zaQ)(i:Nat)(k:zaQ->Option β):elemD zcS (List.map zaO l) i k=(l[i]?).bind k:=zc9 zcS l i k
@[simp] def zfj{β:Type}(l:List GPart)(i:Nat)(k:GPart->Option β):elemD zfm (List.map zbV l) i k=(l[i]?).bind k:=zc9 zfm l i k
@[simp] def zoj{β:Type}(l:List zc8)(i:Nat)(k:zc8->Option β):elemD zgd (List.map zcn l) i k=(l[i]?).bind k:=zc9 zgd l i k
@[simp] def zvh{β:Type}(l:List zbr)(i:Nat)(k:zbr->Option β):elemD zfs (List.map zaL l) i k=(l[i]?).bind k:=zc9 zfs l i k
@[simp] def zjq{β:Type}(l:List zbC)(i:Nat)(k:zbC->Option β):elemD zep (List.map zbU l) i k=(l[i]?).bind k:=zc9 zep l i k
@[simp] def zdU{β:Type}(l:List zaK)(i:Nat)(k:zaK->Option β):elemD zcu (List.map zaA l) i k=(l[i]?).bind k:=zc9 zcu l i k
@[simp] def zpz{β:Type}(l:List GSeed)(i:Nat)(k:GSeed->Option β):elemD zfS (List.map zex l) i k=(l[i]?).bind k:=zc9 zfS l i k
@[simp] def znF{β:Type}(l:List zcb)(i:Nat)(k:zcb->Option β):elemD zeq (List.map zcB l) i k=(l[i]?).bind k:=zc9 zeq l i k
@[simp] def zCf{β:Type}(l:List zc1)(i:Nat)(k:zc1->Option β):elemD zff (List.map zcl l) i k=(l[i]?).bind k:=zc9 zff l i k
@[simp] def zni{β:Type}(l:List GUnit)(i:Nat)(k:GUnit->Option β):elemD ziN (List.map zey l) i k=(l[i]?).bind k:=zc9 ziN l i k
@[simp] def znG{β:Type}(l:List zb3)(i:Nat)(k:zb3->Option β):elemD zer (List.map zbJ l) i k=(l[i]?).bind k:=zc9 zer l i k
@[simp] def zGb{β:Type}(l:List zdG)(i:Nat)(k:zdG->Option β):elemD zf4 (List.map zdJ l) i k=(l[i]?).bind k:=zc9 zf4 l i k
@[simp] def zAR{β:Type}(l:List zgQ)(i:Nat)(k:zgQ->Option β):elemD zpS (List.map zgX l) i k=(l[i]?).bind k:=zc9 zpS l i k
@[simp] def zuf{β:Type}(l:List zbZ)(i:Nat)(k:zbZ->Option β):elemD zgT (List.map zb0 l) i k=(l[i]?).bind k:=zc9 zgT l i k
@[simp] def zIT{β:Type}(l:List (List Int))(i:Nat)(k:(List Int)->Option β):elemD zg0 (List.map zea l) i k=(l[i]?).bind k:=zc9 zg0 l i k
def tyTab:List TyD:=[dRaw,dRaw,zbw,zbw,dBool,dI_u8,dI_u8,dRaw,dRaw,dStr,dStr,dStr,dI_u64,dRaw,dRaw,dPtr,dPtr,dPtr,dRaw,dRaw,dRaw,dI_i32,zg0,dRaw,zd7,dRaw,dRaw,dPtr,dRaw,dL_GMarker,dL_GPaper,dL_GSeed,dRaw,zmZ,dRaw,zq5,dL_GScheme,dL_GCurve,dL_GUnit,dRaw,zoY,dRaw,zoi,dRaw,zxM,dRaw,zEF,zK4,zJP,zIb,dRaw,zlu,zbw,dRaw,dRaw,dL_GOp,dRaw,dRaw,zgd,dRaw,dRaw,dRaw,dRaw,zhK,dRaw,zcu,dRaw,dGStamp,dRaw,zbm,dRaw,dGSpecial,dRaw,zdw,dRaw,dGOp,dRaw,dRaw,dRaw,dRaw,dRaw,dRaw,dRaw,zbc,dRaw,dRaw,dRaw,dRaw,dRaw,dRaw,dRaw,dL_GPart,dRaw,zcS,dL_GPoint,dRaw,zi7,dRaw,dRaw,dRaw,dRaw,zfS,dRaw,dRaw,dRaw,dRaw,dRaw,dRaw,dRaw,dRaw,zdA,dRaw,zcU,dL_GGiven,zFS,dRaw,zkP,dRaw,dRaw,dL_GScript,dRaw,dRaw,zxN,dRaw,dRaw,dPtr,dL_I_u8,dRaw,dRaw,dRaw,dRaw,dRaw,dRaw,dRaw,dRaw,dRaw,dRaw,dL_Str,dRaw,dRaw,zpS,dRaw,dRaw,zEG,dRaw,dPtr,dPtr,dPtr,dRaw,zjp,dRaw,dRaw,dRaw,dRaw,dRaw,dRaw,dRaw,dRaw,dRaw,dL_L_I_i64,dRaw,zep,dRaw,dRaw,dRaw,zdM,dRaw,zfs,dRaw,zfr,dRaw,ziN,dRaw,dRaw,dRaw,zfm,dRaw,dRaw,zJQ,dRaw,dRaw,dRaw,dRaw,dRaw,dRaw,dRaw,zEE,dRaw,dRaw,dRaw,dL_GAppeal,dRaw,dRaw,dRaw,dRaw,dRaw,dRaw,dRaw,dRaw,dPtr,dRaw,dRaw,dPtr,dPtr,dRaw,dPtr,dRaw,dRaw,dRaw,dRaw,dRaw,dRaw,dRaw,dRaw,dRaw,dRaw,dRaw,dRaw,dRaw,dRaw,dRaw,dRaw,dRaw,dRaw,dRaw,dRaw,dRaw,dRaw,dL_GEntry,dRaw,dRaw,dRaw,zJR,dRaw,zeq,dRaw,zer,dRaw,dRaw,dRaw,dRaw,dRaw,dRaw,dRaw,dRaw,dRaw,dRaw,dRaw,dRaw,dRaw,dRaw,dRaw,dRaw,dRaw,dRaw,dRaw,dRaw,dRaw,dRaw,dL_Bool,dRaw,dRaw,dRaw,dRaw,dRaw,dRaw,dRaw,dRaw,zd0,dRaw,dRaw,dRaw,dRaw,dRaw,dL_Ptr,dRaw,dRaw,dRaw,dRaw,dRaw,dRaw,dRaw,dRaw,dRaw,dRaw,dRaw,dRaw,dRaw,dRaw,dRaw,dRaw,dRaw,dRaw,dRaw,dRaw,dRaw,dRaw,dRaw,zB2,zDu,dRaw,dRaw,zqL,dRaw,dRaw,dRaw,dRaw,dRaw,dRaw,dI_u64,dRaw,dRaw,dRaw,dRaw,dRaw,dRaw,dRaw,dRaw,dRaw,dI_u64,dRaw,dRaw,dRaw,zK5,dRaw,dRaw,dRaw,zf4,dRaw,dRaw,dRaw,dRaw,dRaw,dRaw,dRaw,dRaw,zxO,zxa,dRaw,zff,zii,dRaw,zgT,dRaw,dRaw,dRaw,dRaw,dRaw,dRaw,dRaw,dI_u32,dRaw,dRaw,dRaw,dRaw,dRaw,dRaw,dRaw,zev,dRaw,dRaw,dRaw,dRaw,dRaw,dRaw,dRaw,dRaw,dRaw,dRaw,dRaw,dRaw,dRaw,dRaw,dRaw,dRaw,dRaw,dRaw,dRaw,dRaw,dRaw,dRaw,dRaw,dRaw,dRaw,dRaw,dRaw,dRaw,dL_GRatio,dRaw,dRaw,dRaw,dRaw,dRaw,dRaw,dRaw,dRaw,dRaw,dRaw,dRaw,dI_u8,dI_u8,dRaw,dI_i32,dI_i32,dRaw,dRaw]
abbrev mA:=List.map zah
abbrev mB:=List.map zax
abbrev mC:=List.map zaA
abbrev mE:=List.map nGOp
abbrev mF:=List.map zay
abbrev mG:=List.map zaP
abbrev mH:=List.map zaO
abbrev mI:=List.map zbV
abbrev mJ:=List.map za8
abbrev mK:=List.map zbj
abbrev mL:=List.map zbK
abbrev mM:=List.map zbD
abbrev mN:=List.map zbJ
abbrev mO:=List.map zcB
abbrev mP:=List.map zb0
abbrev mQ:=List.map zdu
abbrev mR:=List.map zex
abbrev mS:=List.map zcl
abbrev mT:=List.map zbU
abbrev mU:=List.map za6
abbrev mV:=List.map zcn
abbrev mW:=List.map zey
abbrev mX:=List.map zaL
abbrev mY:=List.map zcI
abbrev mZ:=List.map zea
abbrev sA:=List.map zdJ
abbrev sB:=List.map zft
abbrev sC:=List.map zfM
abbrev sD:=List.map zf9
abbrev sE:=λx=>AV.sl 6 (mB x)
abbrev sF:=λx=>AV.sl 9 (mA x)
abbrev sG:=λx=>AV.sl 31 (mE x)
abbrev sH:=λx=>AV.sl 3 (mH x)
abbrev sI:=λx=>AV.sl 5 (mJ x)
abbrev sJ:=λx=>AV.sl 6 (mK x)
abbrev sK:=λx=>AV.sl 5 (mL x)
abbrev sL:=λx=>AV.sl 7 (mC x)
abbrev sM:=λx=>AV.sl 3 (mN x)
abbrev sN:=λx=>AV.sl 3 (mV x)
abbrev sO:=λx=>AV.sl 2 (mT x)
abbrev sP:=λx=>AV.sl 3 (mO x)
abbrev sQ:=λx=>AV.sl 4 (mQ x)
abbrev sR:=λx=>AV.sl 2 (mR x)
abbrev sS:=λx=>AV.sl 2 (mP x)
abbrev sT:=λx=>AV.sl 3 (mM x)
abbrev sU:=λx=>AV.agg (zaD x)
abbrev sV:=λx=>AV.agg (za4 x)
abbrev sW:=λx=>AV.agg (zbz x)
abbrev sX:=λx=>AV.agg (zaO x)
abbrev sY:=λx=>AV.agg (nGOp x)
abbrev sZ:=λx=>AV.agg (zbR x)
abbrev pA:=λx=>AV.agg (zaA x)
abbrev pB:=λx=>AV.agg (zc5 x)
abbrev pC:=λx=>AV.agg (zbU x)
abbrev pD:=λx=>AV.agg (zcV x)
abbrev pE:=λx=>AV.agg (zah x)
abbrev pF:=λx=>AV.agg (zde x)
abbrev pG:=λx=>AV.agg (zcP x)
abbrev pH:=λx=>AV.agg (zdg x)
abbrev pI:=λx=>AV.agg (za8 x)
abbrev pJ:=λx=>AV.agg (zbY x)
abbrev pK:=λx=>AV.agg (zax x)
abbrev pL:=λx=>AV.agg (zbD x)
abbrev pM:=λx=>AV.agg (zaP x)
abbrev pN:=λx=>AV.agg (zbJ x)
abbrev pO:=λx=>AV.agg (zbj x)
abbrev pP:=λx=>AV.agg (za6 x)
abbrev pQ:=λx=>AV.agg (zeh x)
abbrev pR:=λx=>AV.agg (zft x)
abbrev bA:=λa b=>AV.loc a b 0 0
abbrev bB:=λa b (x:aS)=>AV.row a b 0 (List.length x)
abbrev bC:=λb:Bool=>B b
abbrev bD:=λl:List (List AV)=>List.replicate (↑l.length:Int).toNat (B false::List.map AV.v [])
abbrev bE:=λl:List (List AV)=>List.replicate (↑l.length:Int).toNat (I 0::List.map AV.v [])
abbrev bF:=λl:List (List AV)=>List.replicate (↑l.length:Int).toNat (AV.sl 1 []::List.map AV.v [])
abbrev bG:Option (AV×Mem):=some (B false,[])
abbrev bI:Option (AV×Mem):=some (I 2,[])
abbrev bJ:Option (AV×Mem):=some (I 1,[])
abbrev bK:Option (AV×Mem):=some (I 0,[])
abbrev bM:Option (AV×Mem):=some (B true,[])
abbrev bN:Option (AV×Mem):=some (I 43,[])
abbrev bO:Option (AV×Mem):=some (I 3,[])
abbrev bP:=AV.v (.slice none 0 0)
def bQ{α:Type}{a b:α}(h:a=b:=by kernel_rfl):some a=some b:=congrArg some h
abbrev aP:=List zak
abbrev aU:=List GOp
abbrev aW:=List zaV
abbrev ab:=List zaK
abbrev ae:=List zbL
end Go.Proofs.YtcpnffbcljkbkaaGreatDoor
end
