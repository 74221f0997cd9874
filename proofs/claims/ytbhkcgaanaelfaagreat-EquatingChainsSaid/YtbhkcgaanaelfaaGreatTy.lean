/- The types of the seat as data. -/
import Derived.Test.YtbhkcgaanaelfaaGreatAbDict
namespace Go.Proofs.YtbhkcgaanaelfaaGreat
open Go.Ab
set_option linter.unusedSimpArgs false
set_option linter.unusedVariables false
noncomputable def nL_I_i64:(List Int)→List AV:=fun x=>[.sl 1 (List.map zay.enc x)]
noncomputable abbrev dL_I_i64:TyD:=TyD.of (List Int) nL_I_i64 (by
 intro x y h
 simp only [nL_I_i64,List.cons.injEq,AV.v.injEq,Value.int.injEq,Value.bool.injEq,Value.string.injEq,AV.sl.injEq,AV.mp.injEq,true_and,and_true,TyD.minj zay] at h
 exact (h))
structure GRatio where
 Num:Int
 Den:Int
theorem GRatio.eqOf {x y:GRatio} (h0:x.Num=y.Num) (h1:x.Den=y.Den):x=y:=by
 cases x; cases y; simp only at *; simp only [h0,h1]
noncomputable def zaa:GRatio→List AV:=fun x=>[I x.Num,I x.Den]
noncomputable abbrev zab:TyD:=TyD.of GRatio zaa (by
 intro x y h
 simp only [zaa,List.cons.injEq,AV.v.injEq,Value.int.injEq,Value.bool.injEq,Value.string.injEq,AV.sl.injEq,AV.mp.injEq,true_and,and_true] at h
 exact (GRatio.eqOf (h.1) (h.2)))
structure GPoint where
 X:GRatio
 Y:GRatio
theorem GPoint.eqOf {x y:GPoint} (h0:x.X=y.X) (h1:x.Y=y.Y):x=y:=by
 cases x; cases y; simp only at *; simp only [h0,h1]
noncomputable def zak:GPoint→List AV:=fun x=>[I x.X.Num,I x.X.Den,I x.Y.Num,I x.Y.Den]
noncomputable abbrev zaB:TyD:=TyD.of GPoint zak (by
 intro x y h
 simp only [zak,List.cons.injEq,AV.v.injEq,Value.int.injEq,Value.bool.injEq,Value.string.injEq,AV.sl.injEq,AV.mp.injEq,true_and,and_true] at h
 exact (GPoint.eqOf (GRatio.eqOf (h.1) (h.2.1)) (GRatio.eqOf (h.2.2.1) (h.2.2.2))))
noncomputable def zvp:(List GPoint)→List AV:=fun x=>[.sl 4 (List.map zaB.enc x)]
noncomputable abbrev dL_GPoint:TyD:=TyD.of (List GPoint) zvp (by
 intro x y h
 simp only [zvp,List.cons.injEq,AV.v.injEq,Value.int.injEq,Value.bool.injEq,Value.string.injEq,AV.sl.injEq,AV.mp.injEq,true_and,and_true,TyD.minj zaB] at h
 exact (h))
structure GCurve where
 Points:List GPoint
theorem GCurve.eqOf {x y:GCurve} (h0:x.Points=y.Points):x=y:=by
 cases x; cases y; simp only at *; simp only [h0]
noncomputable def zao:GCurve→List AV:=fun x=>[.sl 4 (List.map zaB.enc x.Points)]
noncomputable abbrev zaq:TyD:=TyD.of GCurve zao (by
 intro x y h
 simp only [zao,List.cons.injEq,AV.v.injEq,Value.int.injEq,Value.bool.injEq,Value.string.injEq,AV.sl.injEq,AV.mp.injEq,true_and,and_true,TyD.minj zaB] at h
 exact (GCurve.eqOf (h)))
noncomputable def zty:(GCurve×GCurve×GCurve×GCurve)→List AV:=fun x=>[.sl 4 (List.map zaB.enc x.1.Points),.sl 4 (List.map zaB.enc x.2.1.Points),.sl 4 (List.map zaB.enc x.2.2.1.Points),.sl 4 (List.map zaB.enc x.2.2.2.Points)]
noncomputable abbrev dA4_GCurve:TyD:=TyD.of (GCurve×GCurve×GCurve×GCurve) zty (by
 intro x y h
 simp only [zty,List.cons.injEq,AV.v.injEq,Value.int.injEq,Value.bool.injEq,Value.string.injEq,AV.sl.injEq,AV.mp.injEq,true_and,and_true,TyD.minj zaB] at h
 exact (Prod.ext (GCurve.eqOf (h.1)) (Prod.ext (GCurve.eqOf (h.2.1)) (Prod.ext (GCurve.eqOf (h.2.2.1)) (GCurve.eqOf (h.2.2.2))))))
noncomputable def ztT:(GCurve×GCurve)→List AV:=fun x=>[.sl 4 (List.map zaB.enc x.1.Points),.sl 4 (List.map zaB.enc x.2.Points)]
noncomputable abbrev dA2_GCurve:TyD:=TyD.of (GCurve×GCurve) ztT (by
 intro x y h
 simp only [ztT,List.cons.injEq,AV.v.injEq,Value.int.injEq,Value.bool.injEq,Value.string.injEq,AV.sl.injEq,AV.mp.injEq,true_and,and_true,TyD.minj zaB] at h
 exact (Prod.ext (GCurve.eqOf (h.1)) (GCurve.eqOf (h.2))))
noncomputable def zp0:((GCurve×GCurve)×(GCurve×GCurve))→List AV:=fun x=>[.sl 4 (List.map zaB.enc x.1.1.Points),.sl 4 (List.map zaB.enc x.1.2.Points),.sl 4 (List.map zaB.enc x.2.1.Points),.sl 4 (List.map zaB.enc x.2.2.Points)]
noncomputable abbrev zv2:TyD:=TyD.of ((GCurve×GCurve)×(GCurve×GCurve)) zp0 (by
 intro x y h
 simp only [zp0,List.cons.injEq,AV.v.injEq,Value.int.injEq,Value.bool.injEq,Value.string.injEq,AV.sl.injEq,AV.mp.injEq,true_and,and_true,TyD.minj zaB] at h
 exact (Prod.ext (Prod.ext (GCurve.eqOf (h.1)) (GCurve.eqOf (h.2.1))) (Prod.ext (GCurve.eqOf (h.2.2.1)) (GCurve.eqOf (h.2.2.2)))))
noncomputable def zt5:(GRatio×GRatio×GRatio×GRatio)→List AV:=fun x=>[I x.1.Num,I x.1.Den,I x.2.1.Num,I x.2.1.Den,I x.2.2.1.Num,I x.2.2.1.Den,I x.2.2.2.Num,I x.2.2.2.Den]
noncomputable abbrev dA4_GRatio:TyD:=TyD.of (GRatio×GRatio×GRatio×GRatio) zt5 (by
 intro x y h
 simp only [zt5,List.cons.injEq,AV.v.injEq,Value.int.injEq,Value.bool.injEq,Value.string.injEq,AV.sl.injEq,AV.mp.injEq,true_and,and_true] at h
 exact (Prod.ext (GRatio.eqOf (h.1) (h.2.1)) (Prod.ext (GRatio.eqOf (h.2.2.1) (h.2.2.2.1)) (Prod.ext (GRatio.eqOf (h.2.2.2.2.1) (h.2.2.2.2.2.1)) (GRatio.eqOf (h.2.2.2.2.2.2.1) (h.2.2.2.2.2.2.2))))))
noncomputable def zvc:(Int×Int)→List AV:=fun x=>[I x.1,I x.2]
noncomputable abbrev dA2_I_i64:TyD:=TyD.of (Int×Int) zvc (by
 intro x y h
 simp only [zvc,List.cons.injEq,AV.v.injEq,Value.int.injEq,Value.bool.injEq,Value.string.injEq,AV.sl.injEq,AV.mp.injEq,true_and,and_true] at h
 exact (Prod.ext (h.1) (h.2)))
noncomputable def zqQ:((Int×Int)×(Int×Int)×(Int×Int))→List AV:=fun x=>[I x.1.1,I x.1.2,I x.2.1.1,I x.2.1.2,I x.2.2.1,I x.2.2.2]
noncomputable abbrev zxd:TyD:=TyD.of ((Int×Int)×(Int×Int)×(Int×Int)) zqQ (by
 intro x y h
 simp only [zqQ,List.cons.injEq,AV.v.injEq,Value.int.injEq,Value.bool.injEq,Value.string.injEq,AV.sl.injEq,AV.mp.injEq,true_and,and_true] at h
 exact (Prod.ext (Prod.ext (h.1) (h.2.1)) (Prod.ext (Prod.ext (h.2.2.1) (h.2.2.2.1)) (Prod.ext (h.2.2.2.2.1) (h.2.2.2.2.2)))))
noncomputable def zuk:(GRatio×GRatio)→List AV:=fun x=>[I x.1.Num,I x.1.Den,I x.2.Num,I x.2.Den]
noncomputable abbrev dA2_GRatio:TyD:=TyD.of (GRatio×GRatio) zuk (by
 intro x y h
 simp only [zuk,List.cons.injEq,AV.v.injEq,Value.int.injEq,Value.bool.injEq,Value.string.injEq,AV.sl.injEq,AV.mp.injEq,true_and,and_true] at h
 exact (Prod.ext (GRatio.eqOf (h.1) (h.2.1)) (GRatio.eqOf (h.2.2.1) (h.2.2.2))))
noncomputable def zqc:((GRatio×GRatio)×(GRatio×GRatio)×(GRatio×GRatio))→List AV:=fun x=>[I x.1.1.Num,I x.1.1.Den,I x.1.2.Num,I x.1.2.Den,I x.2.1.1.Num,I x.2.1.1.Den,I x.2.1.2.Num,I x.2.1.2.Den,I x.2.2.1.Num,I x.2.2.1.Den,I x.2.2.2.Num,I x.2.2.2.Den]
noncomputable abbrev zvT:TyD:=TyD.of ((GRatio×GRatio)×(GRatio×GRatio)×(GRatio×GRatio)) zqc (by
 intro x y h
 simp only [zqc,List.cons.injEq,AV.v.injEq,Value.int.injEq,Value.bool.injEq,Value.string.injEq,AV.sl.injEq,AV.mp.injEq,true_and,and_true] at h
 exact (Prod.ext (Prod.ext (GRatio.eqOf (h.1) (h.2.1)) (GRatio.eqOf (h.2.2.1) (h.2.2.2.1))) (Prod.ext (Prod.ext (GRatio.eqOf (h.2.2.2.2.1) (h.2.2.2.2.2.1)) (GRatio.eqOf (h.2.2.2.2.2.2.1) (h.2.2.2.2.2.2.2.1))) (Prod.ext (GRatio.eqOf (h.2.2.2.2.2.2.2.2.1) (h.2.2.2.2.2.2.2.2.2.1)) (GRatio.eqOf (h.2.2.2.2.2.2.2.2.2.2.1) (h.2.2.2.2.2.2.2.2.2.2.2))))))
structure GDistribution where
 Counts:List Int
theorem GDistribution.eqOf {x y:GDistribution} (h0:x.Counts=y.Counts):x=y:=by
 cases x; cases y; simp only at *; simp only [h0]
noncomputable def zae:GDistribution→List AV:=fun x=>[.sl 1 (List.map zay.enc x.Counts)]
noncomputable abbrev zcb:TyD:=TyD.of GDistribution zae (by
 intro x y h
 simp only [zae,List.cons.injEq,AV.v.injEq,Value.int.injEq,Value.bool.injEq,Value.string.injEq,AV.sl.injEq,AV.mp.injEq,true_and,and_true,TyD.minj zay] at h
 exact (GDistribution.eqOf (h)))
noncomputable def zmI:(GDistribution×GDistribution)→List AV:=fun x=>[.sl 1 (List.map zay.enc x.1.Counts),.sl 1 (List.map zay.enc x.2.Counts)]
noncomputable abbrev zr3:TyD:=TyD.of (GDistribution×GDistribution) zmI (by
 intro x y h
 simp only [zmI,List.cons.injEq,AV.v.injEq,Value.int.injEq,Value.bool.injEq,Value.string.injEq,AV.sl.injEq,AV.mp.injEq,true_and,and_true,TyD.minj zay] at h
 exact (Prod.ext (GDistribution.eqOf (h.1)) (GDistribution.eqOf (h.2))))
noncomputable def zlp:((GDistribution×GDistribution)×(GDistribution×GDistribution)×(GDistribution×GDistribution)×(GDistribution×GDistribution)×(GDistribution×GDistribution))→List AV:=fun x=>[.sl 1 (List.map zay.enc x.1.1.Counts),.sl 1 (List.map zay.enc x.1.2.Counts),.sl 1 (List.map zay.enc x.2.1.1.Counts),.sl 1 (List.map zay.enc x.2.1.2.Counts),.sl 1 (List.map zay.enc x.2.2.1.1.Counts),.sl 1 (List.map zay.enc x.2.2.1.2.Counts),.sl 1 (List.map zay.enc x.2.2.2.1.1.Counts),.sl 1 (List.map zay.enc x.2.2.2.1.2.Counts),.sl 1 (List.map zay.enc x.2.2.2.2.1.Counts),.sl 1 (List.map zay.enc x.2.2.2.2.2.Counts)]
noncomputable abbrev zpG:TyD:=TyD.of ((GDistribution×GDistribution)×(GDistribution×GDistribution)×(GDistribution×GDistribution)×(GDistribution×GDistribution)×(GDistribution×GDistribution)) zlp (by
 intro x y h
 simp only [zlp,List.cons.injEq,AV.v.injEq,Value.int.injEq,Value.bool.injEq,Value.string.injEq,AV.sl.injEq,AV.mp.injEq,true_and,and_true,TyD.minj zay] at h
 exact (Prod.ext (Prod.ext (GDistribution.eqOf (h.1)) (GDistribution.eqOf (h.2.1))) (Prod.ext (Prod.ext (GDistribution.eqOf (h.2.2.1)) (GDistribution.eqOf (h.2.2.2.1))) (Prod.ext (Prod.ext (GDistribution.eqOf (h.2.2.2.2.1)) (GDistribution.eqOf (h.2.2.2.2.2.1))) (Prod.ext (Prod.ext (GDistribution.eqOf (h.2.2.2.2.2.2.1)) (GDistribution.eqOf (h.2.2.2.2.2.2.2.1))) (Prod.ext (GDistribution.eqOf (h.2.2.2.2.2.2.2.2.1)) (GDistribution.eqOf (h.2.2.2.2.2.2.2.2.2))))))))
noncomputable def zuW:(Int×Int×Int×Int)→List AV:=fun x=>[I x.1,I x.2.1,I x.2.2.1,I x.2.2.2]
noncomputable abbrev dA4_I_i64:TyD:=TyD.of (Int×Int×Int×Int) zuW (by
 intro x y h
 simp only [zuW,List.cons.injEq,AV.v.injEq,Value.int.injEq,Value.bool.injEq,Value.string.injEq,AV.sl.injEq,AV.mp.injEq,true_and,and_true] at h
 exact (Prod.ext (h.1) (Prod.ext (h.2.1) (Prod.ext (h.2.2.1) (h.2.2.2)))))
noncomputable def zq9:((Int×Int)×(Int×Int))→List AV:=fun x=>[I x.1.1,I x.1.2,I x.2.1,I x.2.2]
noncomputable abbrev zwI:TyD:=TyD.of ((Int×Int)×(Int×Int)) zq9 (by
 intro x y h
 simp only [zq9,List.cons.injEq,AV.v.injEq,Value.int.injEq,Value.bool.injEq,Value.string.injEq,AV.sl.injEq,AV.mp.injEq,true_and,and_true] at h
 exact (Prod.ext (Prod.ext (h.1) (h.2.1)) (Prod.ext (h.2.2.1) (h.2.2.2))))
structure GmarkDice where
 L:List Int
 At:Int
theorem GmarkDice.eqOf {x y:GmarkDice} (h0:x.L=y.L) (h1:x.At=y.At):x=y:=by
 cases x; cases y; simp only at *; simp only [h0,h1]
noncomputable def zbu:GmarkDice→List AV:=fun x=>[.sl 1 (List.map zay.enc x.L),I x.At]
noncomputable abbrev zaZ:TyD:=TyD.of GmarkDice zbu (by
 intro x y h
 simp only [zbu,List.cons.injEq,AV.v.injEq,Value.int.injEq,Value.bool.injEq,Value.string.injEq,AV.sl.injEq,AV.mp.injEq,true_and,and_true,TyD.minj zay] at h
 exact (GmarkDice.eqOf (h.1) (h.2)))
noncomputable def zvj:(List GRatio)→List AV:=fun x=>[.sl 2 (List.map zab.enc x)]
noncomputable abbrev dL_GRatio:TyD:=TyD.of (List GRatio) zvj (by
 intro x y h
 simp only [zvj,List.cons.injEq,AV.v.injEq,Value.int.injEq,Value.bool.injEq,Value.string.injEq,AV.sl.injEq,AV.mp.injEq,true_and,and_true,TyD.minj zab] at h
 exact (h))
structure GconversionSteps where
 e:Int
theorem GconversionSteps.eqOf {x y:GconversionSteps} (h0:x.e=y.e):x=y:=by
 cases x; cases y; simp only at *; simp only [h0]
noncomputable def zaw:GconversionSteps→List AV:=fun x=>[I x.e]
noncomputable abbrev zcP:TyD:=TyD.of GconversionSteps zaw (by
 intro x y h
 simp only [zaw,List.cons.injEq,AV.v.injEq,Value.int.injEq,Value.bool.injEq,Value.string.injEq,AV.sl.injEq,AV.mp.injEq,true_and,and_true] at h
 exact (GconversionSteps.eqOf (h)))
structure GratioWide where
 hi:Int
 lo:Int
theorem GratioWide.eqOf {x y:GratioWide} (h0:x.hi=y.hi) (h1:x.lo=y.lo):x=y:=by
 cases x; cases y; simp only at *; simp only [h0,h1]
noncomputable def zas:GratioWide→List AV:=fun x=>[.v (.int .u64 x.hi),.v (.int .u64 x.lo)]
noncomputable abbrev zb9:TyD:=TyD.of GratioWide zas (by
 intro x y h
 simp only [zas,List.cons.injEq,AV.v.injEq,Value.int.injEq,Value.bool.injEq,Value.string.injEq,AV.sl.injEq,AV.mp.injEq,true_and,and_true] at h
 exact (GratioWide.eqOf (h.1) (h.2)))
structure GratioSigned where
 neg:Bool
 abs:GratioWide
theorem GratioSigned.eqOf {x y:GratioSigned} (h0:x.neg=y.neg) (h1:x.abs=y.abs):x=y:=by
 cases x; cases y; simp only at *; simp only [h0,h1]
noncomputable def zbP:GratioSigned→List AV:=fun x=>[B x.neg,.v (.int .u64 x.abs.hi),.v (.int .u64 x.abs.lo)]
noncomputable abbrev zd5:TyD:=TyD.of GratioSigned zbP (by
 intro x y h
 simp only [zbP,List.cons.injEq,AV.v.injEq,Value.int.injEq,Value.bool.injEq,Value.string.injEq,AV.sl.injEq,AV.mp.injEq,true_and,and_true] at h
 exact (GratioSigned.eqOf (h.1) (GratioWide.eqOf (h.2.1) (h.2.2))))
structure Gref01Wide where
 Hi:Int
 Lo:Int
theorem Gref01Wide.eqOf {x y:Gref01Wide} (h0:x.Hi=y.Hi) (h1:x.Lo=y.Lo):x=y:=by
 cases x; cases y; simp only at *; simp only [h0,h1]
noncomputable def zah:Gref01Wide→List AV:=fun x=>[.v (.int .u64 x.Hi),.v (.int .u64 x.Lo)]
noncomputable abbrev zaJ:TyD:=TyD.of Gref01Wide zah (by
 intro x y h
 simp only [zah,List.cons.injEq,AV.v.injEq,Value.int.injEq,Value.bool.injEq,Value.string.injEq,AV.sl.injEq,AV.mp.injEq,true_and,and_true] at h
 exact (Gref01Wide.eqOf (h.1) (h.2)))
noncomputable def tyTab:List TyD:=[dRaw,dRaw,zay,zay,dBool,dI_u8,dI_u8,dRaw,dRaw,dStr,dStr,dStr,zmf,dRaw,dRaw,dRaw,dRaw,dRaw,dRaw,dRaw,dRaw,dI_i32,dL_I_i64,dL_GPoint,dRaw,zaq,dRaw,zab,dRaw,dRaw,dRaw,dRaw,dRaw,dRaw,dA4_GCurve,zay,dRaw,dRaw,dRaw,dRaw,dA2_GCurve,zv2,dRaw,dRaw,dRaw,dRaw,dA4_GRatio,dRaw,dRaw,dA2_I_i64,zxd,dRaw,dRaw,dA2_GRatio,zvT,dRaw,dRaw,dRaw,zcb,dRaw,dRaw,dRaw,dRaw,dRaw,zr3,zpG,dA4_I_i64,dRaw,zwI,dRaw,dRaw,dRaw,dRaw,dRaw,dRaw,dRaw,dRaw,zaB,dRaw,zaZ,dRaw,dRaw,dRaw,dRaw,dRaw,dRaw,dL_GRatio,dRaw,dRaw,dRaw,dRaw,dRaw,dRaw,dRaw,dRaw,dRaw,dRaw,dRaw,dRaw,dRaw,dRaw,dRaw,dRaw,dRaw,dRaw,dRaw,dRaw,dRaw,dRaw,dRaw,dRaw,dRaw,dRaw,dRaw,zcP,dRaw,dRaw,dRaw,dRaw,dRaw,dRaw,dRaw,dRaw,dRaw,zmf,zmf,dRaw,zb9,dRaw,zd5,dRaw,dRaw,dRaw,dRaw,dRaw,zaJ,dRaw,dRaw,dRaw,dRaw,dRaw,dRaw,dRaw,dRaw,dRaw,dRaw,dRaw,dRaw,dRaw,dRaw,dRaw,dRaw,dRaw,dRaw,zay,dRaw,dRaw,dRaw,dRaw,dRaw,dRaw,dRaw,dI_u32,dRaw,dRaw,dRaw,dRaw,dRaw,dRaw,dRaw,dRaw,dRaw,dRaw,dRaw,dRaw,zmf,dRaw,dRaw,dRaw,dRaw,dRaw,dRaw,dRaw,dRaw,dRaw,dRaw,dRaw,dRaw,dRaw,dRaw,dRaw,dRaw,dRaw,dRaw,dRaw,dRaw,dI_u8,dI_u8,dRaw,dRaw,dI_i32,dI_i32,dRaw,dRaw,dRaw,dRaw,dRaw]
end Go.Proofs.YtbhkcgaanaelfaaGreat
