/- The types of the seat as data. -/
import Derived.Test.YtbhkcgaanaelfaaGreatAbDict
namespace Go.Proofs.YtbhkcgaanaelfaaGreat
open Go.Ab
set_option linter.unusedSimpArgs false
set_option linter.unusedVariables false
noncomputable def nL_I_i64:(List Int)→List AV:=fun x=>[.sl 1 (List.map zaY.enc x)]
noncomputable abbrev dL_I_i64:TyD:=TyD.of (List Int) nL_I_i64 (by
 intro x y h
 simp only [nL_I_i64,List.cons.injEq,AV.v.injEq,Value.int.injEq,Value.bool.injEq,Value.string.injEq,AV.sl.injEq,AV.mp.injEq,true_and,and_true,TyD.minj zaY] at h
 exact (h))
structure GRatio where
 Num:Int
 Den:Int
theorem GRatio.eqOf {x y:GRatio} (h0:x.Num=y.Num) (h1:x.Den=y.Den):x=y:=by
 cases x; cases y; simp only at *; simp only [h0,h1]
noncomputable def zaa:GRatio→List AV:=fun x=>[I x.Num,I x.Den]
noncomputable abbrev zad:TyD:=TyD.of GRatio zaa (by
 intro x y h
 simp only [zaa,List.cons.injEq,AV.v.injEq,Value.int.injEq,Value.bool.injEq,Value.string.injEq,AV.sl.injEq,AV.mp.injEq,true_and,and_true] at h
 exact (GRatio.eqOf (h.1) (h.2)))
structure GPoint where
 X:GRatio
 Y:GRatio
theorem GPoint.eqOf {x y:GPoint} (h0:x.X=y.X) (h1:x.Y=y.Y):x=y:=by
 cases x; cases y; simp only at *; simp only [h0,h1]
noncomputable def zae:GPoint→List AV:=fun x=>[I x.X.Num,I x.X.Den,I x.Y.Num,I x.Y.Den]
noncomputable abbrev zaq:TyD:=TyD.of GPoint zae (by
 intro x y h
 simp only [zae,List.cons.injEq,AV.v.injEq,Value.int.injEq,Value.bool.injEq,Value.string.injEq,AV.sl.injEq,AV.mp.injEq,true_and,and_true] at h
 exact (GPoint.eqOf (GRatio.eqOf (h.1) (h.2.1)) (GRatio.eqOf (h.2.2.1) (h.2.2.2))))
noncomputable def zvf:(List GPoint)→List AV:=fun x=>[.sl 4 (List.map zaq.enc x)]
noncomputable abbrev dL_GPoint:TyD:=TyD.of (List GPoint) zvf (by
 intro x y h
 simp only [zvf,List.cons.injEq,AV.v.injEq,Value.int.injEq,Value.bool.injEq,Value.string.injEq,AV.sl.injEq,AV.mp.injEq,true_and,and_true,TyD.minj zaq] at h
 exact (h))
structure GCurve where
 Points:List GPoint
theorem GCurve.eqOf {x y:GCurve} (h0:x.Points=y.Points):x=y:=by
 cases x; cases y; simp only at *; simp only [h0]
noncomputable def zah:GCurve→List AV:=fun x=>[.sl 4 (List.map zaq.enc x.Points)]
noncomputable abbrev zao:TyD:=TyD.of GCurve zah (by
 intro x y h
 simp only [zah,List.cons.injEq,AV.v.injEq,Value.int.injEq,Value.bool.injEq,Value.string.injEq,AV.sl.injEq,AV.mp.injEq,true_and,and_true,TyD.minj zaq] at h
 exact (GCurve.eqOf (h)))
noncomputable def zt5:(GCurve×GCurve×GCurve×GCurve)→List AV:=fun x=>[.sl 4 (List.map zaq.enc x.1.Points),.sl 4 (List.map zaq.enc x.2.1.Points),.sl 4 (List.map zaq.enc x.2.2.1.Points),.sl 4 (List.map zaq.enc x.2.2.2.Points)]
noncomputable abbrev dA4_GCurve:TyD:=TyD.of (GCurve×GCurve×GCurve×GCurve) zt5 (by
 intro x y h
 simp only [zt5,List.cons.injEq,AV.v.injEq,Value.int.injEq,Value.bool.injEq,Value.string.injEq,AV.sl.injEq,AV.mp.injEq,true_and,and_true,TyD.minj zaq] at h
 exact (Prod.ext (GCurve.eqOf (h.1)) (Prod.ext (GCurve.eqOf (h.2.1)) (Prod.ext (GCurve.eqOf (h.2.2.1)) (GCurve.eqOf (h.2.2.2))))))
noncomputable def zmL:(GCurve×GCurve)→List AV:=fun x=>[.sl 4 (List.map zaq.enc x.1.Points),.sl 4 (List.map zaq.enc x.2.Points)]
noncomputable abbrev zpf:TyD:=TyD.of (GCurve×GCurve) zmL (by
 intro x y h
 simp only [zmL,List.cons.injEq,AV.v.injEq,Value.int.injEq,Value.bool.injEq,Value.string.injEq,AV.sl.injEq,AV.mp.injEq,true_and,and_true,TyD.minj zaq] at h
 exact (Prod.ext (GCurve.eqOf (h.1)) (GCurve.eqOf (h.2))))
noncomputable def zp3:((GCurve×GCurve)×(GCurve×GCurve))→List AV:=fun x=>[.sl 4 (List.map zaq.enc x.1.1.Points),.sl 4 (List.map zaq.enc x.1.2.Points),.sl 4 (List.map zaq.enc x.2.1.Points),.sl 4 (List.map zaq.enc x.2.2.Points)]
noncomputable abbrev zv8:TyD:=TyD.of ((GCurve×GCurve)×(GCurve×GCurve)) zp3 (by
 intro x y h
 simp only [zp3,List.cons.injEq,AV.v.injEq,Value.int.injEq,Value.bool.injEq,Value.string.injEq,AV.sl.injEq,AV.mp.injEq,true_and,and_true,TyD.minj zaq] at h
 exact (Prod.ext (Prod.ext (GCurve.eqOf (h.1)) (GCurve.eqOf (h.2.1))) (Prod.ext (GCurve.eqOf (h.2.2.1)) (GCurve.eqOf (h.2.2.2)))))
noncomputable def ztm:(GRatio×GRatio×GRatio×GRatio)→List AV:=fun x=>[I x.1.Num,I x.1.Den,I x.2.1.Num,I x.2.1.Den,I x.2.2.1.Num,I x.2.2.1.Den,I x.2.2.2.Num,I x.2.2.2.Den]
noncomputable abbrev dA4_GRatio:TyD:=TyD.of (GRatio×GRatio×GRatio×GRatio) ztm (by
 intro x y h
 simp only [ztm,List.cons.injEq,AV.v.injEq,Value.int.injEq,Value.bool.injEq,Value.string.injEq,AV.sl.injEq,AV.mp.injEq,true_and,and_true] at h
 exact (Prod.ext (GRatio.eqOf (h.1) (h.2.1)) (Prod.ext (GRatio.eqOf (h.2.2.1) (h.2.2.2.1)) (Prod.ext (GRatio.eqOf (h.2.2.2.2.1) (h.2.2.2.2.2.1)) (GRatio.eqOf (h.2.2.2.2.2.2.1) (h.2.2.2.2.2.2.2))))))
noncomputable def zlX:(Int×Int)→List AV:=fun x=>[I x.1,I x.2]
noncomputable abbrev zq9:TyD:=TyD.of (Int×Int) zlX (by
 intro x y h
 simp only [zlX,List.cons.injEq,AV.v.injEq,Value.int.injEq,Value.bool.injEq,Value.string.injEq,AV.sl.injEq,AV.mp.injEq,true_and,and_true] at h
 exact (Prod.ext (h.1) (h.2)))
noncomputable def zrl:((Int×Int)×(Int×Int)×(Int×Int))→List AV:=fun x=>[I x.1.1,I x.1.2,I x.2.1.1,I x.2.1.2,I x.2.2.1,I x.2.2.2]
noncomputable abbrev zxm:TyD:=TyD.of ((Int×Int)×(Int×Int)×(Int×Int)) zrl (by
 intro x y h
 simp only [zrl,List.cons.injEq,AV.v.injEq,Value.int.injEq,Value.bool.injEq,Value.string.injEq,AV.sl.injEq,AV.mp.injEq,true_and,and_true] at h
 exact (Prod.ext (Prod.ext (h.1) (h.2.1)) (Prod.ext (Prod.ext (h.2.2.1) (h.2.2.2.1)) (Prod.ext (h.2.2.2.2.1) (h.2.2.2.2.2)))))
noncomputable def zk9:(GRatio×GRatio)→List AV:=fun x=>[I x.1.Num,I x.1.Den,I x.2.Num,I x.2.Den]
noncomputable abbrev zpv:TyD:=TyD.of (GRatio×GRatio) zk9 (by
 intro x y h
 simp only [zk9,List.cons.injEq,AV.v.injEq,Value.int.injEq,Value.bool.injEq,Value.string.injEq,AV.sl.injEq,AV.mp.injEq,true_and,and_true] at h
 exact (Prod.ext (GRatio.eqOf (h.1) (h.2.1)) (GRatio.eqOf (h.2.2.1) (h.2.2.2))))
noncomputable def zp6:((GRatio×GRatio)×(GRatio×GRatio)×(GRatio×GRatio))→List AV:=fun x=>[I x.1.1.Num,I x.1.1.Den,I x.1.2.Num,I x.1.2.Den,I x.2.1.1.Num,I x.2.1.1.Den,I x.2.1.2.Num,I x.2.1.2.Den,I x.2.2.1.Num,I x.2.2.1.Den,I x.2.2.2.Num,I x.2.2.2.Den]
noncomputable abbrev zwj:TyD:=TyD.of ((GRatio×GRatio)×(GRatio×GRatio)×(GRatio×GRatio)) zp6 (by
 intro x y h
 simp only [zp6,List.cons.injEq,AV.v.injEq,Value.int.injEq,Value.bool.injEq,Value.string.injEq,AV.sl.injEq,AV.mp.injEq,true_and,and_true] at h
 exact (Prod.ext (Prod.ext (GRatio.eqOf (h.1) (h.2.1)) (GRatio.eqOf (h.2.2.1) (h.2.2.2.1))) (Prod.ext (Prod.ext (GRatio.eqOf (h.2.2.2.2.1) (h.2.2.2.2.2.1)) (GRatio.eqOf (h.2.2.2.2.2.2.1) (h.2.2.2.2.2.2.2.1))) (Prod.ext (GRatio.eqOf (h.2.2.2.2.2.2.2.2.1) (h.2.2.2.2.2.2.2.2.2.1)) (GRatio.eqOf (h.2.2.2.2.2.2.2.2.2.2.1) (h.2.2.2.2.2.2.2.2.2.2.2))))))
structure GDistribution where
 Counts:List Int
theorem GDistribution.eqOf {x y:GDistribution} (h0:x.Counts=y.Counts):x=y:=by
 cases x; cases y; simp only at *; simp only [h0]
noncomputable def zoL:GDistribution→List AV:=fun x=>[.sl 1 (List.map zaY.enc x.Counts)]
noncomputable abbrev zcc:TyD:=TyD.of GDistribution zoL (by
 intro x y h
 simp only [zoL,List.cons.injEq,AV.v.injEq,Value.int.injEq,Value.bool.injEq,Value.string.injEq,AV.sl.injEq,AV.mp.injEq,true_and,and_true,TyD.minj zaY] at h
 exact (GDistribution.eqOf (h)))
noncomputable def zmq:(GDistribution×GDistribution)→List AV:=fun x=>[.sl 1 (List.map zaY.enc x.1.Counts),.sl 1 (List.map zaY.enc x.2.Counts)]
noncomputable abbrev zrz:TyD:=TyD.of (GDistribution×GDistribution) zmq (by
 intro x y h
 simp only [zmq,List.cons.injEq,AV.v.injEq,Value.int.injEq,Value.bool.injEq,Value.string.injEq,AV.sl.injEq,AV.mp.injEq,true_and,and_true,TyD.minj zaY] at h
 exact (Prod.ext (GDistribution.eqOf (h.1)) (GDistribution.eqOf (h.2))))
noncomputable def zlh:((GDistribution×GDistribution)×(GDistribution×GDistribution)×(GDistribution×GDistribution)×(GDistribution×GDistribution)×(GDistribution×GDistribution))→List AV:=fun x=>[.sl 1 (List.map zaY.enc x.1.1.Counts),.sl 1 (List.map zaY.enc x.1.2.Counts),.sl 1 (List.map zaY.enc x.2.1.1.Counts),.sl 1 (List.map zaY.enc x.2.1.2.Counts),.sl 1 (List.map zaY.enc x.2.2.1.1.Counts),.sl 1 (List.map zaY.enc x.2.2.1.2.Counts),.sl 1 (List.map zaY.enc x.2.2.2.1.1.Counts),.sl 1 (List.map zaY.enc x.2.2.2.1.2.Counts),.sl 1 (List.map zaY.enc x.2.2.2.2.1.Counts),.sl 1 (List.map zaY.enc x.2.2.2.2.2.Counts)]
noncomputable abbrev zpI:TyD:=TyD.of ((GDistribution×GDistribution)×(GDistribution×GDistribution)×(GDistribution×GDistribution)×(GDistribution×GDistribution)×(GDistribution×GDistribution)) zlh (by
 intro x y h
 simp only [zlh,List.cons.injEq,AV.v.injEq,Value.int.injEq,Value.bool.injEq,Value.string.injEq,AV.sl.injEq,AV.mp.injEq,true_and,and_true,TyD.minj zaY] at h
 exact (Prod.ext (Prod.ext (GDistribution.eqOf (h.1)) (GDistribution.eqOf (h.2.1))) (Prod.ext (Prod.ext (GDistribution.eqOf (h.2.2.1)) (GDistribution.eqOf (h.2.2.2.1))) (Prod.ext (Prod.ext (GDistribution.eqOf (h.2.2.2.2.1)) (GDistribution.eqOf (h.2.2.2.2.2.1))) (Prod.ext (Prod.ext (GDistribution.eqOf (h.2.2.2.2.2.2.1)) (GDistribution.eqOf (h.2.2.2.2.2.2.2.1))) (Prod.ext (GDistribution.eqOf (h.2.2.2.2.2.2.2.2.1)) (GDistribution.eqOf (h.2.2.2.2.2.2.2.2.2))))))))
noncomputable def zva:(Int×Int×Int×Int)→List AV:=fun x=>[I x.1,I x.2.1,I x.2.2.1,I x.2.2.2]
noncomputable abbrev dA4_I_i64:TyD:=TyD.of (Int×Int×Int×Int) zva (by
 intro x y h
 simp only [zva,List.cons.injEq,AV.v.injEq,Value.int.injEq,Value.bool.injEq,Value.string.injEq,AV.sl.injEq,AV.mp.injEq,true_and,and_true] at h
 exact (Prod.ext (h.1) (Prod.ext (h.2.1) (Prod.ext (h.2.2.1) (h.2.2.2)))))
noncomputable def zqJ:((Int×Int)×(Int×Int))→List AV:=fun x=>[I x.1.1,I x.1.2,I x.2.1,I x.2.2]
noncomputable abbrev zxy:TyD:=TyD.of ((Int×Int)×(Int×Int)) zqJ (by
 intro x y h
 simp only [zqJ,List.cons.injEq,AV.v.injEq,Value.int.injEq,Value.bool.injEq,Value.string.injEq,AV.sl.injEq,AV.mp.injEq,true_and,and_true] at h
 exact (Prod.ext (Prod.ext (h.1) (h.2.1)) (Prod.ext (h.2.2.1) (h.2.2.2))))
structure GmarkDice where
 L:List Int
 At:Int
theorem GmarkDice.eqOf {x y:GmarkDice} (h0:x.L=y.L) (h1:x.At=y.At):x=y:=by
 cases x; cases y; simp only at *; simp only [h0,h1]
noncomputable def zaA:GmarkDice→List AV:=fun x=>[.sl 1 (List.map zaY.enc x.L),I x.At]
noncomputable abbrev za4:TyD:=TyD.of GmarkDice zaA (by
 intro x y h
 simp only [zaA,List.cons.injEq,AV.v.injEq,Value.int.injEq,Value.bool.injEq,Value.string.injEq,AV.sl.injEq,AV.mp.injEq,true_and,and_true,TyD.minj zaY] at h
 exact (GmarkDice.eqOf (h.1) (h.2)))
noncomputable def zvq:(List GRatio)→List AV:=fun x=>[.sl 2 (List.map zad.enc x)]
noncomputable abbrev dL_GRatio:TyD:=TyD.of (List GRatio) zvq (by
 intro x y h
 simp only [zvq,List.cons.injEq,AV.v.injEq,Value.int.injEq,Value.bool.injEq,Value.string.injEq,AV.sl.injEq,AV.mp.injEq,true_and,and_true,TyD.minj zad] at h
 exact (h))
structure GconversionSteps where
 e:Int
theorem GconversionSteps.eqOf {x y:GconversionSteps} (h0:x.e=y.e):x=y:=by
 cases x; cases y; simp only at *; simp only [h0]
noncomputable def zaw:GconversionSteps→List AV:=fun x=>[I x.e]
noncomputable abbrev zcT:TyD:=TyD.of GconversionSteps zaw (by
 intro x y h
 simp only [zaw,List.cons.injEq,AV.v.injEq,Value.int.injEq,Value.bool.injEq,Value.string.injEq,AV.sl.injEq,AV.mp.injEq,true_and,and_true] at h
 exact (GconversionSteps.eqOf (h)))
structure GratioWide where
 hi:Int
 lo:Int
theorem GratioWide.eqOf {x y:GratioWide} (h0:x.hi=y.hi) (h1:x.lo=y.lo):x=y:=by
 cases x; cases y; simp only at *; simp only [h0,h1]
noncomputable def zax:GratioWide→List AV:=fun x=>[.v (.int .u64 x.hi),.v (.int .u64 x.lo)]
noncomputable abbrev zb9:TyD:=TyD.of GratioWide zax (by
 intro x y h
 simp only [zax,List.cons.injEq,AV.v.injEq,Value.int.injEq,Value.bool.injEq,Value.string.injEq,AV.sl.injEq,AV.mp.injEq,true_and,and_true] at h
 exact (GratioWide.eqOf (h.1) (h.2)))
structure GratioSigned where
 neg:Bool
 abs:GratioWide
theorem GratioSigned.eqOf {x y:GratioSigned} (h0:x.neg=y.neg) (h1:x.abs=y.abs):x=y:=by
 cases x; cases y; simp only at *; simp only [h0,h1]
noncomputable def zcU:GratioSigned→List AV:=fun x=>[B x.neg,.v (.int .u64 x.abs.hi),.v (.int .u64 x.abs.lo)]
noncomputable abbrev zea:TyD:=TyD.of GratioSigned zcU (by
 intro x y h
 simp only [zcU,List.cons.injEq,AV.v.injEq,Value.int.injEq,Value.bool.injEq,Value.string.injEq,AV.sl.injEq,AV.mp.injEq,true_and,and_true] at h
 exact (GratioSigned.eqOf (h.1) (GratioWide.eqOf (h.2.1) (h.2.2))))
structure Gref01Wide where
 Hi:Int
 Lo:Int
theorem Gref01Wide.eqOf {x y:Gref01Wide} (h0:x.Hi=y.Hi) (h1:x.Lo=y.Lo):x=y:=by
 cases x; cases y; simp only at *; simp only [h0,h1]
noncomputable def zai:Gref01Wide→List AV:=fun x=>[.v (.int .u64 x.Hi),.v (.int .u64 x.Lo)]
noncomputable abbrev zaK:TyD:=TyD.of Gref01Wide zai (by
 intro x y h
 simp only [zai,List.cons.injEq,AV.v.injEq,Value.int.injEq,Value.bool.injEq,Value.string.injEq,AV.sl.injEq,AV.mp.injEq,true_and,and_true] at h
 exact (Gref01Wide.eqOf (h.1) (h.2)))
noncomputable def tyTab:List TyD:=[dRaw,dRaw,zaY,zaY,dBool,dI_u8,dI_u8,dRaw,dRaw,dStr,dStr,dStr,zlS,dRaw,dRaw,dRaw,dRaw,dRaw,dRaw,dRaw,dRaw,dI_i32,dL_I_i64,dL_GPoint,dRaw,zao,dRaw,zad,dRaw,dRaw,dRaw,dRaw,dRaw,dRaw,dA4_GCurve,zaY,dRaw,dRaw,dRaw,dRaw,zpf,zv8,dRaw,dRaw,dRaw,dRaw,dA4_GRatio,dRaw,dRaw,zq9,zxm,dRaw,dRaw,zpv,zwj,dRaw,dRaw,dRaw,zcc,dRaw,dRaw,dRaw,dRaw,dRaw,zrz,zpI,dA4_I_i64,dRaw,zxy,dRaw,dRaw,dRaw,dRaw,dRaw,dRaw,dRaw,dRaw,zaq,dRaw,za4,dRaw,dRaw,dRaw,dRaw,dRaw,dRaw,dL_GRatio,dRaw,dRaw,dRaw,dRaw,dRaw,dRaw,dRaw,dRaw,dRaw,dRaw,dRaw,dRaw,dRaw,dRaw,dRaw,dRaw,dRaw,dRaw,dRaw,dRaw,dRaw,dRaw,dRaw,dRaw,dRaw,dRaw,dRaw,zcT,dRaw,dRaw,dRaw,dRaw,dRaw,dRaw,dRaw,dRaw,dRaw,zlS,zlS,dRaw,zb9,dRaw,zea,dRaw,dRaw,dRaw,dRaw,dRaw,zaK,dRaw,dRaw,dRaw,dRaw,dRaw,dRaw,dRaw,dRaw,dRaw,dRaw,dRaw,dRaw,dRaw,dRaw,dRaw,dRaw,dRaw,dRaw,zaY,dRaw,dRaw,dRaw,dRaw,dRaw,dRaw,dRaw,dI_u32,dRaw,dRaw,dRaw,dRaw,dRaw,dRaw,dRaw,dRaw,dRaw,dRaw,dRaw,dRaw,zlS,dRaw,dRaw,dRaw,dRaw,dRaw,dRaw,dRaw,dRaw,dRaw,dRaw,dRaw,dRaw,dRaw,dRaw,dRaw,dRaw,dRaw,dRaw,dRaw,dRaw,dI_u8,dI_u8,dRaw,dRaw,dI_i32,dI_i32,dRaw,dRaw,dRaw,dRaw,dRaw]
end Go.Proofs.YtbhkcgaanaelfaaGreat
