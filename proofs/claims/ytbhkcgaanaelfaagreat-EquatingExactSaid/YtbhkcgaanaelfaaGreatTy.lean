/- The types of the seat as data. -/
import Derived.Test.YtbhkcgaanaelfaaGreatAbDict
namespace Go.Proofs.YtbhkcgaanaelfaaGreat
open Go.Ab
set_option linter.unusedSimpArgs false
set_option linter.unusedVariables false
noncomputable def nL_I_i64:(List Int)→List AV:=fun x=>[.sl 1 (List.map zaw.enc x)]
noncomputable abbrev dL_I_i64:TyD:=TyD.of (List Int) nL_I_i64 (by
 intro x y h
 simp only [nL_I_i64,List.cons.injEq,AV.v.injEq,Value.int.injEq,Value.bool.injEq,Value.string.injEq,AV.sl.injEq,AV.mp.injEq,true_and,and_true,TyD.minj zaw] at h
 exact (h))
structure GRatio where
 Num:Int
 Den:Int
theorem GRatio.eqOf {x y:GRatio} (h0:x.Num=y.Num) (h1:x.Den=y.Den):x=y:=by
 cases x; cases y; simp only at *; simp only [h0,h1]
noncomputable def zaa:GRatio→List AV:=fun x=>[I x.Num,I x.Den]
noncomputable abbrev zaf:TyD:=TyD.of GRatio zaa (by
 intro x y h
 simp only [zaa,List.cons.injEq,AV.v.injEq,Value.int.injEq,Value.bool.injEq,Value.string.injEq,AV.sl.injEq,AV.mp.injEq,true_and,and_true] at h
 exact (GRatio.eqOf (h.1) (h.2)))
structure GPoint where
 X:GRatio
 Y:GRatio
theorem GPoint.eqOf {x y:GPoint} (h0:x.X=y.X) (h1:x.Y=y.Y):x=y:=by
 cases x; cases y; simp only at *; simp only [h0,h1]
noncomputable def zag:GPoint→List AV:=fun x=>[I x.X.Num,I x.X.Den,I x.Y.Num,I x.Y.Den]
noncomputable abbrev zau:TyD:=TyD.of GPoint zag (by
 intro x y h
 simp only [zag,List.cons.injEq,AV.v.injEq,Value.int.injEq,Value.bool.injEq,Value.string.injEq,AV.sl.injEq,AV.mp.injEq,true_and,and_true] at h
 exact (GPoint.eqOf (GRatio.eqOf (h.1) (h.2.1)) (GRatio.eqOf (h.2.2.1) (h.2.2.2))))
noncomputable def zzb:(List GPoint)→List AV:=fun x=>[.sl 4 (List.map zau.enc x)]
noncomputable abbrev dL_GPoint:TyD:=TyD.of (List GPoint) zzb (by
 intro x y h
 simp only [zzb,List.cons.injEq,AV.v.injEq,Value.int.injEq,Value.bool.injEq,Value.string.injEq,AV.sl.injEq,AV.mp.injEq,true_and,and_true,TyD.minj zau] at h
 exact (h))
structure GCurve where
 Points:List GPoint
theorem GCurve.eqOf {x y:GCurve} (h0:x.Points=y.Points):x=y:=by
 cases x; cases y; simp only at *; simp only [h0]
noncomputable def zak:GCurve→List AV:=fun x=>[.sl 4 (List.map zau.enc x.Points)]
noncomputable abbrev zar:TyD:=TyD.of GCurve zak (by
 intro x y h
 simp only [zak,List.cons.injEq,AV.v.injEq,Value.int.injEq,Value.bool.injEq,Value.string.injEq,AV.sl.injEq,AV.mp.injEq,true_and,and_true,TyD.minj zau] at h
 exact (GCurve.eqOf (h)))
noncomputable def zxp:(GCurve×GCurve×GCurve×GCurve)→List AV:=fun x=>[.sl 4 (List.map zau.enc x.1.Points),.sl 4 (List.map zau.enc x.2.1.Points),.sl 4 (List.map zau.enc x.2.2.1.Points),.sl 4 (List.map zau.enc x.2.2.2.Points)]
noncomputable abbrev dA4_GCurve:TyD:=TyD.of (GCurve×GCurve×GCurve×GCurve) zxp (by
 intro x y h
 simp only [zxp,List.cons.injEq,AV.v.injEq,Value.int.injEq,Value.bool.injEq,Value.string.injEq,AV.sl.injEq,AV.mp.injEq,true_and,and_true,TyD.minj zau] at h
 exact (Prod.ext (GCurve.eqOf (h.1)) (Prod.ext (GCurve.eqOf (h.2.1)) (Prod.ext (GCurve.eqOf (h.2.2.1)) (GCurve.eqOf (h.2.2.2))))))
noncomputable def zxh:(GCurve×GCurve)→List AV:=fun x=>[.sl 4 (List.map zau.enc x.1.Points),.sl 4 (List.map zau.enc x.2.Points)]
noncomputable abbrev dA2_GCurve:TyD:=TyD.of (GCurve×GCurve) zxh (by
 intro x y h
 simp only [zxh,List.cons.injEq,AV.v.injEq,Value.int.injEq,Value.bool.injEq,Value.string.injEq,AV.sl.injEq,AV.mp.injEq,true_and,and_true,TyD.minj zau] at h
 exact (Prod.ext (GCurve.eqOf (h.1)) (GCurve.eqOf (h.2))))
noncomputable def zt0:((GCurve×GCurve)×(GCurve×GCurve))→List AV:=fun x=>[.sl 4 (List.map zau.enc x.1.1.Points),.sl 4 (List.map zau.enc x.1.2.Points),.sl 4 (List.map zau.enc x.2.1.Points),.sl 4 (List.map zau.enc x.2.2.Points)]
noncomputable abbrev zzT:TyD:=TyD.of ((GCurve×GCurve)×(GCurve×GCurve)) zt0 (by
 intro x y h
 simp only [zt0,List.cons.injEq,AV.v.injEq,Value.int.injEq,Value.bool.injEq,Value.string.injEq,AV.sl.injEq,AV.mp.injEq,true_and,and_true,TyD.minj zau] at h
 exact (Prod.ext (Prod.ext (GCurve.eqOf (h.1)) (GCurve.eqOf (h.2.1))) (Prod.ext (GCurve.eqOf (h.2.2.1)) (GCurve.eqOf (h.2.2.2)))))
noncomputable def zyi:(GRatio×GRatio×GRatio×GRatio)→List AV:=fun x=>[I x.1.Num,I x.1.Den,I x.2.1.Num,I x.2.1.Den,I x.2.2.1.Num,I x.2.2.1.Den,I x.2.2.2.Num,I x.2.2.2.Den]
noncomputable abbrev dA4_GRatio:TyD:=TyD.of (GRatio×GRatio×GRatio×GRatio) zyi (by
 intro x y h
 simp only [zyi,List.cons.injEq,AV.v.injEq,Value.int.injEq,Value.bool.injEq,Value.string.injEq,AV.sl.injEq,AV.mp.injEq,true_and,and_true] at h
 exact (Prod.ext (GRatio.eqOf (h.1) (h.2.1)) (Prod.ext (GRatio.eqOf (h.2.2.1) (h.2.2.2.1)) (Prod.ext (GRatio.eqOf (h.2.2.2.2.1) (h.2.2.2.2.2.1)) (GRatio.eqOf (h.2.2.2.2.2.2.1) (h.2.2.2.2.2.2.2))))))
noncomputable def zrz:(Int×Int)→List AV:=fun x=>[I x.1,I x.2]
noncomputable abbrev zvf:TyD:=TyD.of (Int×Int) zrz (by
 intro x y h
 simp only [zrz,List.cons.injEq,AV.v.injEq,Value.int.injEq,Value.bool.injEq,Value.string.injEq,AV.sl.injEq,AV.mp.injEq,true_and,and_true] at h
 exact (Prod.ext (h.1) (h.2)))
noncomputable def zuI:((Int×Int)×(Int×Int)×(Int×Int))→List AV:=fun x=>[I x.1.1,I x.1.2,I x.2.1.1,I x.2.1.2,I x.2.2.1,I x.2.2.2]
noncomputable abbrev zAQ:TyD:=TyD.of ((Int×Int)×(Int×Int)×(Int×Int)) zuI (by
 intro x y h
 simp only [zuI,List.cons.injEq,AV.v.injEq,Value.int.injEq,Value.bool.injEq,Value.string.injEq,AV.sl.injEq,AV.mp.injEq,true_and,and_true] at h
 exact (Prod.ext (Prod.ext (h.1) (h.2.1)) (Prod.ext (Prod.ext (h.2.2.1) (h.2.2.2.1)) (Prod.ext (h.2.2.2.2.1) (h.2.2.2.2.2)))))
noncomputable def zxk:(GRatio×GRatio)→List AV:=fun x=>[I x.1.Num,I x.1.Den,I x.2.Num,I x.2.Den]
noncomputable abbrev dA2_GRatio:TyD:=TyD.of (GRatio×GRatio) zxk (by
 intro x y h
 simp only [zxk,List.cons.injEq,AV.v.injEq,Value.int.injEq,Value.bool.injEq,Value.string.injEq,AV.sl.injEq,AV.mp.injEq,true_and,and_true] at h
 exact (Prod.ext (GRatio.eqOf (h.1) (h.2.1)) (GRatio.eqOf (h.2.2.1) (h.2.2.2))))
noncomputable def ztR:((GRatio×GRatio)×(GRatio×GRatio)×(GRatio×GRatio))→List AV:=fun x=>[I x.1.1.Num,I x.1.1.Den,I x.1.2.Num,I x.1.2.Den,I x.2.1.1.Num,I x.2.1.1.Den,I x.2.1.2.Num,I x.2.1.2.Den,I x.2.2.1.Num,I x.2.2.1.Den,I x.2.2.2.Num,I x.2.2.2.Den]
noncomputable abbrev zzG:TyD:=TyD.of ((GRatio×GRatio)×(GRatio×GRatio)×(GRatio×GRatio)) ztR (by
 intro x y h
 simp only [ztR,List.cons.injEq,AV.v.injEq,Value.int.injEq,Value.bool.injEq,Value.string.injEq,AV.sl.injEq,AV.mp.injEq,true_and,and_true] at h
 exact (Prod.ext (Prod.ext (GRatio.eqOf (h.1) (h.2.1)) (GRatio.eqOf (h.2.2.1) (h.2.2.2.1))) (Prod.ext (Prod.ext (GRatio.eqOf (h.2.2.2.2.1) (h.2.2.2.2.2.1)) (GRatio.eqOf (h.2.2.2.2.2.2.1) (h.2.2.2.2.2.2.2.1))) (Prod.ext (GRatio.eqOf (h.2.2.2.2.2.2.2.2.1) (h.2.2.2.2.2.2.2.2.2.1)) (GRatio.eqOf (h.2.2.2.2.2.2.2.2.2.2.1) (h.2.2.2.2.2.2.2.2.2.2.2))))))
structure GDistribution where
 Counts:List Int
theorem GDistribution.eqOf {x y:GDistribution} (h0:x.Counts=y.Counts):x=y:=by
 cases x; cases y; simp only at *; simp only [h0]
noncomputable def zab:GDistribution→List AV:=fun x=>[.sl 1 (List.map zaw.enc x.Counts)]
noncomputable abbrev zch:TyD:=TyD.of GDistribution zab (by
 intro x y h
 simp only [zab,List.cons.injEq,AV.v.injEq,Value.int.injEq,Value.bool.injEq,Value.string.injEq,AV.sl.injEq,AV.mp.injEq,true_and,and_true,TyD.minj zaw] at h
 exact (GDistribution.eqOf (h)))
noncomputable def zdx:(GDistribution×GDistribution)→List AV:=fun x=>[.sl 1 (List.map zaw.enc x.1.Counts),.sl 1 (List.map zaw.enc x.2.Counts)]
noncomputable abbrev zl7:TyD:=TyD.of (GDistribution×GDistribution) zdx (by
 intro x y h
 simp only [zdx,List.cons.injEq,AV.v.injEq,Value.int.injEq,Value.bool.injEq,Value.string.injEq,AV.sl.injEq,AV.mp.injEq,true_and,and_true,TyD.minj zaw] at h
 exact (Prod.ext (GDistribution.eqOf (h.1)) (GDistribution.eqOf (h.2))))
noncomputable def znQ:((GDistribution×GDistribution)×(GDistribution×GDistribution)×(GDistribution×GDistribution)×(GDistribution×GDistribution)×(GDistribution×GDistribution))→List AV:=fun x=>[.sl 1 (List.map zaw.enc x.1.1.Counts),.sl 1 (List.map zaw.enc x.1.2.Counts),.sl 1 (List.map zaw.enc x.2.1.1.Counts),.sl 1 (List.map zaw.enc x.2.1.2.Counts),.sl 1 (List.map zaw.enc x.2.2.1.1.Counts),.sl 1 (List.map zaw.enc x.2.2.1.2.Counts),.sl 1 (List.map zaw.enc x.2.2.2.1.1.Counts),.sl 1 (List.map zaw.enc x.2.2.2.1.2.Counts),.sl 1 (List.map zaw.enc x.2.2.2.2.1.Counts),.sl 1 (List.map zaw.enc x.2.2.2.2.2.Counts)]
noncomputable abbrev zsT:TyD:=TyD.of ((GDistribution×GDistribution)×(GDistribution×GDistribution)×(GDistribution×GDistribution)×(GDistribution×GDistribution)×(GDistribution×GDistribution)) znQ (by
 intro x y h
 simp only [znQ,List.cons.injEq,AV.v.injEq,Value.int.injEq,Value.bool.injEq,Value.string.injEq,AV.sl.injEq,AV.mp.injEq,true_and,and_true,TyD.minj zaw] at h
 exact (Prod.ext (Prod.ext (GDistribution.eqOf (h.1)) (GDistribution.eqOf (h.2.1))) (Prod.ext (Prod.ext (GDistribution.eqOf (h.2.2.1)) (GDistribution.eqOf (h.2.2.2.1))) (Prod.ext (Prod.ext (GDistribution.eqOf (h.2.2.2.2.1)) (GDistribution.eqOf (h.2.2.2.2.2.1))) (Prod.ext (Prod.ext (GDistribution.eqOf (h.2.2.2.2.2.2.1)) (GDistribution.eqOf (h.2.2.2.2.2.2.2.1))) (Prod.ext (GDistribution.eqOf (h.2.2.2.2.2.2.2.2.1)) (GDistribution.eqOf (h.2.2.2.2.2.2.2.2.2))))))))
noncomputable def zyW:(Int×Int×Int×Int)→List AV:=fun x=>[I x.1,I x.2.1,I x.2.2.1,I x.2.2.2]
noncomputable abbrev dA4_I_i64:TyD:=TyD.of (Int×Int×Int×Int) zyW (by
 intro x y h
 simp only [zyW,List.cons.injEq,AV.v.injEq,Value.int.injEq,Value.bool.injEq,Value.string.injEq,AV.sl.injEq,AV.mp.injEq,true_and,and_true] at h
 exact (Prod.ext (h.1) (Prod.ext (h.2.1) (Prod.ext (h.2.2.1) (h.2.2.2)))))
noncomputable def zuZ:((Int×Int)×(Int×Int))→List AV:=fun x=>[I x.1.1,I x.1.2,I x.2.1,I x.2.2]
noncomputable abbrev zAU:TyD:=TyD.of ((Int×Int)×(Int×Int)) zuZ (by
 intro x y h
 simp only [zuZ,List.cons.injEq,AV.v.injEq,Value.int.injEq,Value.bool.injEq,Value.string.injEq,AV.sl.injEq,AV.mp.injEq,true_and,and_true] at h
 exact (Prod.ext (Prod.ext (h.1) (h.2.1)) (Prod.ext (h.2.2.1) (h.2.2.2))))
structure GmarkDice where
 L:List Int
 At:Int
theorem GmarkDice.eqOf {x y:GmarkDice} (h0:x.L=y.L) (h1:x.At=y.At):x=y:=by
 cases x; cases y; simp only at *; simp only [h0,h1]
noncomputable def zaR:GmarkDice→List AV:=fun x=>[.sl 1 (List.map zaw.enc x.L),I x.At]
noncomputable abbrev za6:TyD:=TyD.of GmarkDice zaR (by
 intro x y h
 simp only [zaR,List.cons.injEq,AV.v.injEq,Value.int.injEq,Value.bool.injEq,Value.string.injEq,AV.sl.injEq,AV.mp.injEq,true_and,and_true,TyD.minj zaw] at h
 exact (GmarkDice.eqOf (h.1) (h.2)))
noncomputable def zy6:(List GRatio)→List AV:=fun x=>[.sl 2 (List.map zaf.enc x)]
noncomputable abbrev dL_GRatio:TyD:=TyD.of (List GRatio) zy6 (by
 intro x y h
 simp only [zy6,List.cons.injEq,AV.v.injEq,Value.int.injEq,Value.bool.injEq,Value.string.injEq,AV.sl.injEq,AV.mp.injEq,true_and,and_true,TyD.minj zaf] at h
 exact (h))
structure GconversionSteps where
 e:Int
theorem GconversionSteps.eqOf {x y:GconversionSteps} (h0:x.e=y.e):x=y:=by
 cases x; cases y; simp only at *; simp only [h0]
noncomputable def zaE:GconversionSteps→List AV:=fun x=>[I x.e]
noncomputable abbrev zcX:TyD:=TyD.of GconversionSteps zaE (by
 intro x y h
 simp only [zaE,List.cons.injEq,AV.v.injEq,Value.int.injEq,Value.bool.injEq,Value.string.injEq,AV.sl.injEq,AV.mp.injEq,true_and,and_true] at h
 exact (GconversionSteps.eqOf (h)))
structure GratioWide where
 hi:Int
 lo:Int
theorem GratioWide.eqOf {x y:GratioWide} (h0:x.hi=y.hi) (h1:x.lo=y.lo):x=y:=by
 cases x; cases y; simp only at *; simp only [h0,h1]
noncomputable def zax:GratioWide→List AV:=fun x=>[.v (.int .u64 x.hi),.v (.int .u64 x.lo)]
noncomputable abbrev zce:TyD:=TyD.of GratioWide zax (by
 intro x y h
 simp only [zax,List.cons.injEq,AV.v.injEq,Value.int.injEq,Value.bool.injEq,Value.string.injEq,AV.sl.injEq,AV.mp.injEq,true_and,and_true] at h
 exact (GratioWide.eqOf (h.1) (h.2)))
structure GratioSigned where
 neg:Bool
 abs:GratioWide
theorem GratioSigned.eqOf {x y:GratioSigned} (h0:x.neg=y.neg) (h1:x.abs=y.abs):x=y:=by
 cases x; cases y; simp only at *; simp only [h0,h1]
noncomputable def zbX:GratioSigned→List AV:=fun x=>[B x.neg,.v (.int .u64 x.abs.hi),.v (.int .u64 x.abs.lo)]
noncomputable abbrev zeH:TyD:=TyD.of GratioSigned zbX (by
 intro x y h
 simp only [zbX,List.cons.injEq,AV.v.injEq,Value.int.injEq,Value.bool.injEq,Value.string.injEq,AV.sl.injEq,AV.mp.injEq,true_and,and_true] at h
 exact (GratioSigned.eqOf (h.1) (GratioWide.eqOf (h.2.1) (h.2.2))))
structure Gref01Wide where
 Hi:Int
 Lo:Int
theorem Gref01Wide.eqOf {x y:Gref01Wide} (h0:x.Hi=y.Hi) (h1:x.Lo=y.Lo):x=y:=by
 cases x; cases y; simp only at *; simp only [h0,h1]
noncomputable def zal:Gref01Wide→List AV:=fun x=>[.v (.int .u64 x.Hi),.v (.int .u64 x.Lo)]
noncomputable abbrev zaQ:TyD:=TyD.of Gref01Wide zal (by
 intro x y h
 simp only [zal,List.cons.injEq,AV.v.injEq,Value.int.injEq,Value.bool.injEq,Value.string.injEq,AV.sl.injEq,AV.mp.injEq,true_and,and_true] at h
 exact (Gref01Wide.eqOf (h.1) (h.2)))
noncomputable def tyTab:List TyD:=[dRaw,dRaw,zaw,zaw,dBool,dI_u8,dI_u8,dRaw,dRaw,dStr,dStr,dStr,zpl,dRaw,dRaw,dRaw,dRaw,dRaw,dRaw,dRaw,dRaw,dI_i32,dL_I_i64,dL_GPoint,dRaw,zar,dRaw,zaf,dRaw,dRaw,dRaw,dRaw,dRaw,dRaw,dA4_GCurve,zaw,dRaw,dRaw,dRaw,dRaw,dA2_GCurve,zzT,dRaw,dRaw,dRaw,dRaw,dA4_GRatio,dRaw,dRaw,zvf,zAQ,dRaw,dRaw,dA2_GRatio,zzG,dRaw,dRaw,dRaw,zch,dRaw,dRaw,dRaw,dRaw,dRaw,zl7,zsT,dA4_I_i64,dRaw,zAU,dRaw,dRaw,dRaw,dRaw,dRaw,dRaw,dRaw,dRaw,zau,dRaw,za6,dRaw,dRaw,dRaw,dRaw,dRaw,dRaw,dL_GRatio,dRaw,dRaw,dRaw,dRaw,dRaw,dRaw,dRaw,dRaw,dRaw,dRaw,dRaw,dRaw,dRaw,dRaw,dRaw,dRaw,dRaw,dRaw,dRaw,dRaw,dRaw,dRaw,dRaw,dRaw,dRaw,dRaw,dRaw,zcX,dRaw,dRaw,dRaw,dRaw,dRaw,dRaw,dRaw,dRaw,dRaw,zpl,zpl,dRaw,zce,dRaw,zeH,dRaw,dRaw,dRaw,dRaw,dRaw,zaQ,dRaw,dRaw,dRaw,dRaw,dRaw,dRaw,dRaw,dRaw,dRaw,dRaw,dRaw,dRaw,dRaw,dRaw,dRaw,dRaw,dRaw,dRaw,zaw,dRaw,dRaw,dRaw,dRaw,dRaw,dRaw,dRaw,dI_u32,dRaw,dRaw,dRaw,dRaw,dRaw,dRaw,dRaw,dRaw,dRaw,dRaw,dRaw,dRaw,zpl,dRaw,dRaw,dRaw,dRaw,dRaw,dRaw,dRaw,dRaw,dRaw,dRaw,dRaw,dRaw,dRaw,dRaw,dRaw,dRaw,dRaw,dRaw,dRaw,dRaw,dI_u8,dI_u8,dRaw,dRaw,dI_i32,dI_i32,dRaw,dRaw,dRaw,dRaw,dRaw]
end Go.Proofs.YtbhkcgaanaelfaaGreat
