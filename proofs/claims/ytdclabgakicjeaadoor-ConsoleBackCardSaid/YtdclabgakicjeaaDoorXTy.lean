/- The types of the seat as data. -/
import Derived.Test.YtdclabgakicjeaaDoorAb2
set_option linter.unusedSimpArgs false
set_option linter.unusedVariables false
noncomputable section
namespace Go.Proofs.YtdclabgakicjeaaDoor
open Go.Ab
def zbw:(List Int)→List AV:=fun x=>[.sl 1 (List.map zaO.enc x)]
abbrev zeQ:TyD:=TyD.of (List Int) zbw (by
 intro x y h; simp only [zbw,List.cons.injEq,AV.v.injEq,Value.int.injEq,Value.bool.injEq,Value.string.injEq,Value.pointer.injEq,AV.sl.injEq,AV.mp.injEq,true_and,and_true,TyD.minj zaO] at h
 exact (h))
structure zaJ where
 ID:Int
 Centre:Int
 Level:Int
 Capacity:Int
 Papers:List Int
theorem zaJ.eqOf {x y:zaJ} (h0:x.ID=y.ID) (h1:x.Centre=y.Centre) (h2:x.Level=y.Level) (h3:x.Capacity=y.Capacity) (h4:x.Papers=y.Papers):x=y:=by cases x; cases y; simp only at *; simp only [h0,h1,h2,h3,h4]
def zaT:zaJ→List AV:=fun x=>[I x.ID,I x.Centre,I x.Level,I x.Capacity,.sl 1 (List.map zaO.enc x.Papers)]
abbrev zby:TyD:=TyD.of zaJ zaT (by
 intro x y h; simp only [zaT,List.cons.injEq,AV.v.injEq,Value.int.injEq,Value.bool.injEq,Value.string.injEq,Value.pointer.injEq,AV.sl.injEq,AV.mp.injEq,true_and,and_true,TyD.minj zaO] at h
 exact (zaJ.eqOf (h.1) (h.2.1) (h.2.2.1) (h.2.2.2.1) (h.2.2.2.2)))
def zmR:(List zaJ)→List AV:=fun x=>[.sl 5 (List.map zby.enc x)]
abbrev dL_GMarker:TyD:=TyD.of (List zaJ) zmR (by
 intro x y h; simp only [zmR,List.cons.injEq,AV.v.injEq,Value.int.injEq,Value.bool.injEq,Value.string.injEq,Value.pointer.injEq,AV.sl.injEq,AV.mp.injEq,true_and,and_true,TyD.minj zby] at h
 exact (h))
structure GPart where
 Kind:Int
 Max:Int
 Topic:Int
 Objective:Int
 Options:Int
 Key:Int
theorem GPart.eqOf {x y:GPart} (h0:x.Kind=y.Kind) (h1:x.Max=y.Max) (h2:x.Topic=y.Topic) (h3:x.Objective=y.Objective) (h4:x.Options=y.Options) (h5:x.Key=y.Key):x=y:=by cases x; cases y; simp only at *; simp only [h0,h1,h2,h3,h4,h5]
def zaK:GPart→List AV:=fun x=>[I x.Kind,I x.Max,I x.Topic,I x.Objective,I x.Options,I x.Key]
abbrev zdP:TyD:=TyD.of GPart zaK (by
 intro x y h; simp only [zaK,List.cons.injEq,AV.v.injEq,Value.int.injEq,Value.bool.injEq,Value.string.injEq,Value.pointer.injEq,AV.sl.injEq,AV.mp.injEq,true_and,and_true] at h
 exact (GPart.eqOf (h.1) (h.2.1) (h.2.2.1) (h.2.2.2.1) (h.2.2.2.2.1) (h.2.2.2.2.2)))
def nL_GPart:(List GPart)→List AV:=fun x=>[.sl 6 (List.map zdP.enc x)]
abbrev dL_GPart:TyD:=TyD.of (List GPart) nL_GPart (by
 intro x y h; simp only [nL_GPart,List.cons.injEq,AV.v.injEq,Value.int.injEq,Value.bool.injEq,Value.string.injEq,Value.pointer.injEq,AV.sl.injEq,AV.mp.injEq,true_and,and_true,TyD.minj zdP] at h
 exact (h))
structure zaq where
 Code:Int
 Variant:Int
 Parts:List GPart
theorem zaq.eqOf {x y:zaq} (h0:x.Code=y.Code) (h1:x.Variant=y.Variant) (h2:x.Parts=y.Parts):x=y:=by cases x; cases y; simp only at *; simp only [h0,h1,h2]
def zas:zaq→List AV:=fun x=>[I x.Code,I x.Variant,.sl 6 (List.map zdP.enc x.Parts)]
abbrev zaZ:TyD:=TyD.of zaq zas (by
 intro x y h; simp only [zas,List.cons.injEq,AV.v.injEq,Value.int.injEq,Value.bool.injEq,Value.string.injEq,Value.pointer.injEq,AV.sl.injEq,AV.mp.injEq,true_and,and_true,TyD.minj zdP] at h
 exact (zaq.eqOf (h.1) (h.2.1) (h.2.2)))
def znI:(List zaq)→List AV:=fun x=>[.sl 3 (List.map zaZ.enc x)]
abbrev dL_GPaper:TyD:=TyD.of (List zaq) znI (by
 intro x y h; simp only [znI,List.cons.injEq,AV.v.injEq,Value.int.injEq,Value.bool.injEq,Value.string.injEq,Value.pointer.injEq,AV.sl.injEq,AV.mp.injEq,true_and,and_true,TyD.minj zaZ] at h
 exact (h))
structure GSeed where
 Script:Int
 Marks:List Int
theorem GSeed.eqOf {x y:GSeed} (h0:x.Script=y.Script) (h1:x.Marks=y.Marks):x=y:=by cases x; cases y; simp only at *; simp only [h0,h1]
def nGSeed:GSeed→List AV:=fun x=>[I x.Script,.sl 1 (List.map zaO.enc x.Marks)]
abbrev zeP:TyD:=TyD.of GSeed nGSeed (by
 intro x y h; simp only [nGSeed,List.cons.injEq,AV.v.injEq,Value.int.injEq,Value.bool.injEq,Value.string.injEq,Value.pointer.injEq,AV.sl.injEq,AV.mp.injEq,true_and,and_true,TyD.minj zaO] at h
 exact (GSeed.eqOf (h.1) (h.2)))
def nL_GSeed:(List GSeed)→List AV:=fun x=>[.sl 2 (List.map zeP.enc x)]
abbrev dL_GSeed:TyD:=TyD.of (List GSeed) nL_GSeed (by
 intro x y h; simp only [nL_GSeed,List.cons.injEq,AV.v.injEq,Value.int.injEq,Value.bool.injEq,Value.string.injEq,Value.pointer.injEq,AV.sl.injEq,AV.mp.injEq,true_and,and_true,TyD.minj zeP] at h
 exact (h))
structure zaN where
 Part:Int
 Total:Int
 Window:Int
 Fails:Int
theorem zaN.eqOf {x y:zaN} (h0:x.Part=y.Part) (h1:x.Total=y.Total) (h2:x.Window=y.Window) (h3:x.Fails=y.Fails):x=y:=by cases x; cases y; simp only at *; simp only [h0,h1,h2,h3]
def zht:zaN→List AV:=fun x=>[I x.Part,I x.Total,I x.Window,I x.Fails]
abbrev zem:TyD:=TyD.of zaN zht (by
 intro x y h; simp only [zht,List.cons.injEq,AV.v.injEq,Value.int.injEq,Value.bool.injEq,Value.string.injEq,Value.pointer.injEq,AV.sl.injEq,AV.mp.injEq,true_and,and_true] at h
 exact (zaN.eqOf (h.1) (h.2.1) (h.2.2.1) (h.2.2.2)))
structure zbd where
 Double:Bool
 Tolerance:Int
theorem zbd.eqOf {x y:zbd} (h0:x.Double=y.Double) (h1:x.Tolerance=y.Tolerance):x=y:=by cases x; cases y; simp only at *; simp only [h0,h1]
def zjE:zbd→List AV:=fun x=>[B x.Double,I x.Tolerance]
abbrev zgj:TyD:=TyD.of zbd zjE (by
 intro x y h; simp only [zjE,List.cons.injEq,AV.v.injEq,Value.int.injEq,Value.bool.injEq,Value.string.injEq,Value.pointer.injEq,AV.sl.injEq,AV.mp.injEq,true_and,and_true] at h
 exact (zbd.eqOf (h.1) (h.2)))
def zmU:(List (List Int))→List AV:=fun x=>[.sl 1 (List.map zeQ.enc x)]
abbrev dL_L_I_i64:TyD:=TyD.of (List (List Int)) zmU (by
 intro x y h; simp only [zmU,List.cons.injEq,AV.v.injEq,Value.int.injEq,Value.bool.injEq,Value.string.injEq,Value.pointer.injEq,AV.sl.injEq,AV.mp.injEq,true_and,and_true,TyD.minj zeQ] at h
 exact (h))
structure zaQ where
 Keys:List (List Int)
 Withdrawn:List Int
theorem zaQ.eqOf {x y:zaQ} (h0:x.Keys=y.Keys) (h1:x.Withdrawn=y.Withdrawn):x=y:=by cases x; cases y; simp only at *; simp only [h0,h1]
def zbF:zaQ→List AV:=fun x=>[.sl 1 (List.map zeQ.enc x.Keys),.sl 1 (List.map zaO.enc x.Withdrawn)]
abbrev zbS:TyD:=TyD.of zaQ zbF (by
 intro x y h; simp only [zbF,List.cons.injEq,AV.v.injEq,Value.int.injEq,Value.bool.injEq,Value.string.injEq,Value.pointer.injEq,AV.sl.injEq,AV.mp.injEq,true_and,and_true,TyD.minj zaO,TyD.minj zeQ] at h
 exact (zaQ.eqOf (h.1) (h.2)))
def zmS:(List zaQ)→List AV:=fun x=>[.sl 2 (List.map zbS.enc x)]
abbrev dL_GScheme:TyD:=TyD.of (List zaQ) zmS (by
 intro x y h; simp only [zmS,List.cons.injEq,AV.v.injEq,Value.int.injEq,Value.bool.injEq,Value.string.injEq,Value.pointer.injEq,AV.sl.injEq,AV.mp.injEq,true_and,and_true,TyD.minj zbS] at h
 exact (h))
structure zfv where
 Num:Int
 Den:Int
theorem zfv.eqOf {x y:zfv} (h0:x.Num=y.Num) (h1:x.Den=y.Den):x=y:=by cases x; cases y; simp only at *; simp only [h0,h1]
def nGRatio:zfv→List AV:=fun x=>[I x.Num,I x.Den]
abbrev dGRatio:TyD:=TyD.of zfv nGRatio (by
 intro x y h; simp only [nGRatio,List.cons.injEq,AV.v.injEq,Value.int.injEq,Value.bool.injEq,Value.string.injEq,Value.pointer.injEq,AV.sl.injEq,AV.mp.injEq,true_and,and_true] at h
 exact (zfv.eqOf (h.1) (h.2)))
structure zfu where
 X:zfv
 Y:zfv
theorem zfu.eqOf {x y:zfu} (h0:x.X=y.X) (h1:x.Y=y.Y):x=y:=by cases x; cases y; simp only at *; simp only [h0,h1]
def zhV:zfu→List AV:=fun x=>[I x.X.Num,I x.X.Den,I x.Y.Num,I x.Y.Den]
abbrev zi5:TyD:=TyD.of zfu zhV (by
 intro x y h; simp only [zhV,List.cons.injEq,AV.v.injEq,Value.int.injEq,Value.bool.injEq,Value.string.injEq,Value.pointer.injEq,AV.sl.injEq,AV.mp.injEq,true_and,and_true] at h
 exact (zfu.eqOf (zfv.eqOf (h.1) (h.2.1)) (zfv.eqOf (h.2.2.1) (h.2.2.2))))
def znJ:(List zfu)→List AV:=fun x=>[.sl 4 (List.map zi5.enc x)]
abbrev dL_GPoint:TyD:=TyD.of (List zfu) znJ (by
 intro x y h; simp only [znJ,List.cons.injEq,AV.v.injEq,Value.int.injEq,Value.bool.injEq,Value.string.injEq,Value.pointer.injEq,AV.sl.injEq,AV.mp.injEq,true_and,and_true,TyD.minj zi5] at h
 exact (h))
structure zca where
 Points:List zfu
theorem zca.eqOf {x y:zca} (h0:x.Points=y.Points):x=y:=by cases x; cases y; simp only at *; simp only [h0]
def zf8:zca→List AV:=fun x=>[.sl 4 (List.map zi5.enc x.Points)]
abbrev zfb:TyD:=TyD.of zca zf8 (by
 intro x y h; simp only [zf8,List.cons.injEq,AV.v.injEq,Value.int.injEq,Value.bool.injEq,Value.string.injEq,Value.pointer.injEq,AV.sl.injEq,AV.mp.injEq,true_and,and_true,TyD.minj zi5] at h
 exact (zca.eqOf (h)))
def znH:(List zca)→List AV:=fun x=>[.sl 1 (List.map zfb.enc x)]
abbrev dL_GCurve:TyD:=TyD.of (List zca) znH (by
 intro x y h; simp only [znH,List.cons.injEq,AV.v.injEq,Value.int.injEq,Value.bool.injEq,Value.string.injEq,Value.pointer.injEq,AV.sl.injEq,AV.mp.injEq,true_and,and_true,TyD.minj zfb] at h
 exact (h))
structure GUnit where
 Paper:Int
 Weight:Int
 Max:Int
theorem GUnit.eqOf {x y:GUnit} (h0:x.Paper=y.Paper) (h1:x.Weight=y.Weight) (h2:x.Max=y.Max):x=y:=by cases x; cases y; simp only at *; simp only [h0,h1,h2]
def zgq:GUnit→List AV:=fun x=>[I x.Paper,I x.Weight,I x.Max]
abbrev zh6:TyD:=TyD.of GUnit zgq (by
 intro x y h; simp only [zgq,List.cons.injEq,AV.v.injEq,Value.int.injEq,Value.bool.injEq,Value.string.injEq,Value.pointer.injEq,AV.sl.injEq,AV.mp.injEq,true_and,and_true] at h
 exact (GUnit.eqOf (h.1) (h.2.1) (h.2.2)))
def nL_GUnit:(List GUnit)→List AV:=fun x=>[.sl 3 (List.map zh6.enc x)]
abbrev dL_GUnit:TyD:=TyD.of (List GUnit) nL_GUnit (by
 intro x y h; simp only [nL_GUnit,List.cons.injEq,AV.v.injEq,Value.int.injEq,Value.bool.injEq,Value.string.injEq,Value.pointer.injEq,AV.sl.injEq,AV.mp.injEq,true_and,and_true,TyD.minj zh6] at h
 exact (h))
structure zbY where
 Units:List GUnit
 Bounds:List Int
 Max:Int
theorem zbY.eqOf {x y:zbY} (h0:x.Units=y.Units) (h1:x.Bounds=y.Bounds) (h2:x.Max=y.Max):x=y:=by cases x; cases y; simp only at *; simp only [h0,h1,h2]
def nGAward:zbY→List AV:=fun x=>[.sl 3 (List.map zh6.enc x.Units),.sl 1 (List.map zaO.enc x.Bounds),I x.Max]
abbrev zi4:TyD:=TyD.of zbY nGAward (by
 intro x y h; simp only [nGAward,List.cons.injEq,AV.v.injEq,Value.int.injEq,Value.bool.injEq,Value.string.injEq,Value.pointer.injEq,AV.sl.injEq,AV.mp.injEq,true_and,and_true,TyD.minj zh6,TyD.minj zaO] at h
 exact (zbY.eqOf (h.1) (h.2.1) (h.2.2)))
structure zaY where
 Days:Int
 Fails:Int
 Tolerance:Int
theorem zaY.eqOf {x y:zaY} (h0:x.Days=y.Days) (h1:x.Fails=y.Fails) (h2:x.Tolerance=y.Tolerance):x=y:=by cases x; cases y; simp only at *; simp only [h0,h1,h2]
def zid:zaY→List AV:=fun x=>[I x.Days,I x.Fails,I x.Tolerance]
abbrev zeO:TyD:=TyD.of zaY zid (by
 intro x y h; simp only [zid,List.cons.injEq,AV.v.injEq,Value.int.injEq,Value.bool.injEq,Value.string.injEq,Value.pointer.injEq,AV.sl.injEq,AV.mp.injEq,true_and,and_true] at h
 exact (zaY.eqOf (h.1) (h.2.1) (h.2.2)))
structure zaV where
 Markers:List zaJ
 Papers:List zaq
 Seeds:List GSeed
 Monitor:zaN
 Mark:zbd
 Schemes:List zaQ
 Curves:List zca
 Award:zbY
 Appeals:zaY
 Secret:Int
theorem zaV.eqOf {x y:zaV} (h0:x.Markers=y.Markers) (h1:x.Papers=y.Papers) (h2:x.Seeds=y.Seeds) (h3:x.Monitor=y.Monitor) (h4:x.Mark=y.Mark) (h5:x.Schemes=y.Schemes) (h6:x.Curves=y.Curves) (h7:x.Award=y.Award) (h8:x.Appeals=y.Appeals) (h9:x.Secret=y.Secret):x=y:=by cases x; cases y; simp only at *; simp only [h0,h1,h2,h3,h4,h5,h6,h7,h8,h9]
def zbp:zaV→List AV:=fun x=>[.sl 5 (List.map zby.enc x.Markers),.sl 3 (List.map zaZ.enc x.Papers),.sl 2 (List.map zeP.enc x.Seeds),I x.Monitor.Part,I x.Monitor.Total,I x.Monitor.Window,I x.Monitor.Fails,B x.Mark.Double,I x.Mark.Tolerance,.sl 2 (List.map zbS.enc x.Schemes),.sl 1 (List.map zfb.enc x.Curves),.sl 3 (List.map zh6.enc x.Award.Units),.sl 1 (List.map zaO.enc x.Award.Bounds),I x.Award.Max,I x.Appeals.Days,I x.Appeals.Fails,I x.Appeals.Tolerance,I x.Secret]
abbrev zi6:TyD:=TyD.of zaV zbp (by
 intro x y h; simp only [zbp,List.cons.injEq,AV.v.injEq,Value.int.injEq,Value.bool.injEq,Value.string.injEq,Value.pointer.injEq,AV.sl.injEq,AV.mp.injEq,true_and,and_true,TyD.minj zfb,TyD.minj zby,TyD.minj zaZ,TyD.minj zbS,TyD.minj zeP,TyD.minj zh6,TyD.minj zaO] at h
 exact (zaV.eqOf (h.1) (h.2.1) (h.2.2.1) (zaN.eqOf (h.2.2.2.1) (h.2.2.2.2.1) (h.2.2.2.2.2.1) (h.2.2.2.2.2.2.1)) (zbd.eqOf (h.2.2.2.2.2.2.2.1) (h.2.2.2.2.2.2.2.2.1)) (h.2.2.2.2.2.2.2.2.2.1) (h.2.2.2.2.2.2.2.2.2.2.1) (zbY.eqOf (h.2.2.2.2.2.2.2.2.2.2.2.1) (h.2.2.2.2.2.2.2.2.2.2.2.2.1) (h.2.2.2.2.2.2.2.2.2.2.2.2.2.1)) (zaY.eqOf (h.2.2.2.2.2.2.2.2.2.2.2.2.2.2.1) (h.2.2.2.2.2.2.2.2.2.2.2.2.2.2.2.1) (h.2.2.2.2.2.2.2.2.2.2.2.2.2.2.2.2.1)) (h.2.2.2.2.2.2.2.2.2.2.2.2.2.2.2.2.2)))
structure zft where
 Candidate:Int
 Centre:Int
 Paper:Int
theorem zft.eqOf {x y:zft} (h0:x.Candidate=y.Candidate) (h1:x.Centre=y.Centre) (h2:x.Paper=y.Paper):x=y:=by cases x; cases y; simp only at *; simp only [h0,h1,h2]
def nGEntry:zft→List AV:=fun x=>[I x.Candidate,I x.Centre,I x.Paper]
abbrev dGEntry:TyD:=TyD.of zft nGEntry (by
 intro x y h; simp only [nGEntry,List.cons.injEq,AV.v.injEq,Value.int.injEq,Value.bool.injEq,Value.string.injEq,Value.pointer.injEq,AV.sl.injEq,AV.mp.injEq,true_and,and_true] at h
 exact (zft.eqOf (h.1) (h.2.1) (h.2.2)))
structure zap where
 Number:Int
 Paper:Int
 Candidate:Int
 Centre:Int
 Variant:Int
 Pages:List Int
 Answers:List Int
theorem zap.eqOf {x y:zap} (h0:x.Number=y.Number) (h1:x.Paper=y.Paper) (h2:x.Candidate=y.Candidate) (h3:x.Centre=y.Centre) (h4:x.Variant=y.Variant) (h5:x.Pages=y.Pages) (h6:x.Answers=y.Answers):x=y:=by cases x; cases y; simp only at *; simp only [h0,h1,h2,h3,h4,h5,h6]
def zan:zap→List AV:=fun x=>[I x.Number,I x.Paper,I x.Candidate,I x.Centre,I x.Variant,.sl 1 (List.map zaO.enc x.Pages),.sl 1 (List.map zaO.enc x.Answers)]
abbrev za7:TyD:=TyD.of zap zan (by
 intro x y h; simp only [zan,List.cons.injEq,AV.v.injEq,Value.int.injEq,Value.bool.injEq,Value.string.injEq,Value.pointer.injEq,AV.sl.injEq,AV.mp.injEq,true_and,and_true,TyD.minj zaO] at h
 exact (zap.eqOf (h.1) (h.2.1) (h.2.2.1) (h.2.2.2.1) (h.2.2.2.2.1) (h.2.2.2.2.2.1) (h.2.2.2.2.2.2)))
structure zcN where
 Time:Int
 Source:Int
 Seq:Int
theorem zcN.eqOf {x y:zcN} (h0:x.Time=y.Time) (h1:x.Source=y.Source) (h2:x.Seq=y.Seq):x=y:=by cases x; cases y; simp only at *; simp only [h0,h1,h2]
def nGStamp:zcN→List AV:=fun x=>[I x.Time,I x.Source,I x.Seq]
abbrev dGStamp:TyD:=TyD.of zcN nGStamp (by
 intro x y h; simp only [nGStamp,List.cons.injEq,AV.v.injEq,Value.int.injEq,Value.bool.injEq,Value.string.injEq,Value.pointer.injEq,AV.sl.injEq,AV.mp.injEq,true_and,and_true] at h
 exact (zcN.eqOf (h.1) (h.2.1) (h.2.2)))
structure zaz where
 Stamp:zcN
 Kind:Int
 Script:Int
 Part:Int
 Value:Int
 Marker:Int
 Pages:List Int
theorem zaz.eqOf {x y:zaz} (h0:x.Stamp=y.Stamp) (h1:x.Kind=y.Kind) (h2:x.Script=y.Script) (h3:x.Part=y.Part) (h4:x.Value=y.Value) (h5:x.Marker=y.Marker) (h6:x.Pages=y.Pages):x=y:=by cases x; cases y; simp only at *; simp only [h0,h1,h2,h3,h4,h5,h6]
def zaU:zaz→List AV:=fun x=>[I x.Stamp.Time,I x.Stamp.Source,I x.Stamp.Seq,I x.Kind,I x.Script,I x.Part,I x.Value,I x.Marker,.sl 1 (List.map zaO.enc x.Pages)]
abbrev zbm:TyD:=TyD.of zaz zaU (by
 intro x y h; simp only [zaU,List.cons.injEq,AV.v.injEq,Value.int.injEq,Value.bool.injEq,Value.string.injEq,Value.pointer.injEq,AV.sl.injEq,AV.mp.injEq,true_and,and_true,TyD.minj zaO] at h
 exact (zaz.eqOf (zcN.eqOf (h.1) (h.2.1) (h.2.2.1)) (h.2.2.2.1) (h.2.2.2.2.1) (h.2.2.2.2.2.1) (h.2.2.2.2.2.2.1) (h.2.2.2.2.2.2.2.1) (h.2.2.2.2.2.2.2.2)))
structure zdt where
 Candidate:Int
 Thousandths:Int
theorem zdt.eqOf {x y:zdt} (h0:x.Candidate=y.Candidate) (h1:x.Thousandths=y.Thousandths):x=y:=by cases x; cases y; simp only at *; simp only [h0,h1]
def znG:zdt→List AV:=fun x=>[I x.Candidate,I x.Thousandths]
abbrev dGSpecial:TyD:=TyD.of zdt znG (by
 intro x y h; simp only [znG,List.cons.injEq,AV.v.injEq,Value.int.injEq,Value.bool.injEq,Value.string.injEq,Value.pointer.injEq,AV.sl.injEq,AV.mp.injEq,true_and,and_true] at h
 exact (zdt.eqOf (h.1) (h.2)))
structure zeq where
 Stamp:zcN
 Kind:Int
 Candidate:Int
 Marker:Int
theorem zeq.eqOf {x y:zeq} (h0:x.Stamp=y.Stamp) (h1:x.Kind=y.Kind) (h2:x.Candidate=y.Candidate) (h3:x.Marker=y.Marker):x=y:=by cases x; cases y; simp only at *; simp only [h0,h1,h2,h3]
def nGAppeal:zeq→List AV:=fun x=>[I x.Stamp.Time,I x.Stamp.Source,I x.Stamp.Seq,I x.Kind,I x.Candidate,I x.Marker]
abbrev dGAppeal:TyD:=TyD.of zeq nGAppeal (by
 intro x y h; simp only [nGAppeal,List.cons.injEq,AV.v.injEq,Value.int.injEq,Value.bool.injEq,Value.string.injEq,Value.pointer.injEq,AV.sl.injEq,AV.mp.injEq,true_and,and_true] at h
 exact (zeq.eqOf (zcN.eqOf (h.1) (h.2.1) (h.2.2.1)) (h.2.2.2.1) (h.2.2.2.2.1) (h.2.2.2.2.2)))
structure GOp where
 Kind:Int
 Entry:zft
 Script:zap
 Event:zaz
 Special:zdt
 Appeal:zeq
 Bounds:List Int
 Time:Int
 Number:Int
theorem GOp.eqOf {x y:GOp} (h0:x.Kind=y.Kind) (h1:x.Entry=y.Entry) (h2:x.Script=y.Script) (h3:x.Event=y.Event) (h4:x.Special=y.Special) (h5:x.Appeal=y.Appeal) (h6:x.Bounds=y.Bounds) (h7:x.Time=y.Time) (h8:x.Number=y.Number):x=y:=by cases x; cases y; simp only at *; simp only [h0,h1,h2,h3,h4,h5,h6,h7,h8]
def nGOp:GOp→List AV:=fun x=>[I x.Kind,I x.Entry.Candidate,I x.Entry.Centre,I x.Entry.Paper,I x.Script.Number,I x.Script.Paper,I x.Script.Candidate,I x.Script.Centre,I x.Script.Variant,.sl 1 (List.map zaO.enc x.Script.Pages),.sl 1 (List.map zaO.enc x.Script.Answers),I x.Event.Stamp.Time,I x.Event.Stamp.Source,I x.Event.Stamp.Seq,I x.Event.Kind,I x.Event.Script,I x.Event.Part,I x.Event.Value,I x.Event.Marker,.sl 1 (List.map zaO.enc x.Event.Pages),I x.Special.Candidate,I x.Special.Thousandths,I x.Appeal.Stamp.Time,I x.Appeal.Stamp.Source,I x.Appeal.Stamp.Seq,I x.Appeal.Kind,I x.Appeal.Candidate,I x.Appeal.Marker,.sl 1 (List.map zaO.enc x.Bounds),I x.Time,I x.Number]
abbrev dGOp:TyD:=TyD.of GOp nGOp (by
 intro x y h; simp only [nGOp,List.cons.injEq,AV.v.injEq,Value.int.injEq,Value.bool.injEq,Value.string.injEq,Value.pointer.injEq,AV.sl.injEq,AV.mp.injEq,true_and,and_true,TyD.minj zaO] at h
 exact (GOp.eqOf (h.1) (zft.eqOf (h.2.1) (h.2.2.1) (h.2.2.2.1)) (zap.eqOf (h.2.2.2.2.1) (h.2.2.2.2.2.1) (h.2.2.2.2.2.2.1) (h.2.2.2.2.2.2.2.1) (h.2.2.2.2.2.2.2.2.1) (h.2.2.2.2.2.2.2.2.2.1) (h.2.2.2.2.2.2.2.2.2.2.1)) (zaz.eqOf (zcN.eqOf (h.2.2.2.2.2.2.2.2.2.2.2.1) (h.2.2.2.2.2.2.2.2.2.2.2.2.1) (h.2.2.2.2.2.2.2.2.2.2.2.2.2.1)) (h.2.2.2.2.2.2.2.2.2.2.2.2.2.2.1) (h.2.2.2.2.2.2.2.2.2.2.2.2.2.2.2.1) (h.2.2.2.2.2.2.2.2.2.2.2.2.2.2.2.2.1) (h.2.2.2.2.2.2.2.2.2.2.2.2.2.2.2.2.2.1) (h.2.2.2.2.2.2.2.2.2.2.2.2.2.2.2.2.2.2.1) (h.2.2.2.2.2.2.2.2.2.2.2.2.2.2.2.2.2.2.2.1)) (zdt.eqOf (h.2.2.2.2.2.2.2.2.2.2.2.2.2.2.2.2.2.2.2.2.1) (h.2.2.2.2.2.2.2.2.2.2.2.2.2.2.2.2.2.2.2.2.2.1)) (zeq.eqOf (zcN.eqOf (h.2.2.2.2.2.2.2.2.2.2.2.2.2.2.2.2.2.2.2.2.2.2.1) (h.2.2.2.2.2.2.2.2.2.2.2.2.2.2.2.2.2.2.2.2.2.2.2.1) (h.2.2.2.2.2.2.2.2.2.2.2.2.2.2.2.2.2.2.2.2.2.2.2.2.1)) (h.2.2.2.2.2.2.2.2.2.2.2.2.2.2.2.2.2.2.2.2.2.2.2.2.2.1) (h.2.2.2.2.2.2.2.2.2.2.2.2.2.2.2.2.2.2.2.2.2.2.2.2.2.2.1) (h.2.2.2.2.2.2.2.2.2.2.2.2.2.2.2.2.2.2.2.2.2.2.2.2.2.2.2.1)) (h.2.2.2.2.2.2.2.2.2.2.2.2.2.2.2.2.2.2.2.2.2.2.2.2.2.2.2.2.1) (h.2.2.2.2.2.2.2.2.2.2.2.2.2.2.2.2.2.2.2.2.2.2.2.2.2.2.2.2.2.1) (h.2.2.2.2.2.2.2.2.2.2.2.2.2.2.2.2.2.2.2.2.2.2.2.2.2.2.2.2.2.2)))
def nL_GOp:(List GOp)→List AV:=fun x=>[.sl 31 (List.map dGOp.enc x)]
abbrev dL_GOp:TyD:=TyD.of (List GOp) nL_GOp (by
 intro x y h; simp only [nL_GOp,List.cons.injEq,AV.v.injEq,Value.int.injEq,Value.bool.injEq,Value.string.injEq,Value.pointer.injEq,AV.sl.injEq,AV.mp.injEq,true_and,and_true,TyD.minj dGOp] at h
 exact (h))
structure zds where
 Candidate:Int
 Kind:Int
 Grade:Int
 Total:Int
 Reason:Int
theorem zds.eqOf {x y:zds} (h0:x.Candidate=y.Candidate) (h1:x.Kind=y.Kind) (h2:x.Grade=y.Grade) (h3:x.Total=y.Total) (h4:x.Reason=y.Reason):x=y:=by cases x; cases y; simp only at *; simp only [h0,h1,h2,h3,h4]
def zhe:zds→List AV:=fun x=>[I x.Candidate,I x.Kind,I x.Grade,I x.Total,I x.Reason]
abbrev dGOutcome:TyD:=TyD.of zds zhe (by
 intro x y h; simp only [zhe,List.cons.injEq,AV.v.injEq,Value.int.injEq,Value.bool.injEq,Value.string.injEq,Value.pointer.injEq,AV.sl.injEq,AV.mp.injEq,true_and,and_true] at h
 exact (zds.eqOf (h.1) (h.2.1) (h.2.2.1) (h.2.2.2.1) (h.2.2.2.2)))
structure zaa where
 L:List Int
 At:Int
theorem zaa.eqOf {x y:zaa} (h0:x.L=y.L) (h1:x.At=y.At):x=y:=by cases x; cases y; simp only at *; simp only [h0,h1]
def zac:zaa→List AV:=fun x=>[.sl 1 (List.map zaO.enc x.L),I x.At]
abbrev zal:TyD:=TyD.of zaa zac (by
 intro x y h; simp only [zac,List.cons.injEq,AV.v.injEq,Value.int.injEq,Value.bool.injEq,Value.string.injEq,Value.pointer.injEq,AV.sl.injEq,AV.mp.injEq,true_and,and_true,TyD.minj zaO] at h
 exact (zaa.eqOf (h.1) (h.2)))
def zmT:(List zap)→List AV:=fun x=>[.sl 7 (List.map za7.enc x)]
abbrev dL_GScript:TyD:=TyD.of (List zap) zmT (by
 intro x y h; simp only [zmT,List.cons.injEq,AV.v.injEq,Value.int.injEq,Value.bool.injEq,Value.string.injEq,Value.pointer.injEq,AV.sl.injEq,AV.mp.injEq,true_and,and_true,TyD.minj za7] at h
 exact (h))
structure zbN where
 Markers:List zaJ
 Scripts:List zap
 Papers:List zaq
 Schemes:List zaQ
 Seeds:List GSeed
 Monitor:zaN
theorem zbN.eqOf {x y:zbN} (h0:x.Markers=y.Markers) (h1:x.Scripts=y.Scripts) (h2:x.Papers=y.Papers) (h3:x.Schemes=y.Schemes) (h4:x.Seeds=y.Seeds) (h5:x.Monitor=y.Monitor):x=y:=by cases x; cases y; simp only at *; simp only [h0,h1,h2,h3,h4,h5]
def zdR:zbN→List AV:=fun x=>[.sl 5 (List.map zby.enc x.Markers),.sl 7 (List.map za7.enc x.Scripts),.sl 3 (List.map zaZ.enc x.Papers),.sl 2 (List.map zbS.enc x.Schemes),.sl 2 (List.map zeP.enc x.Seeds),I x.Monitor.Part,I x.Monitor.Total,I x.Monitor.Window,I x.Monitor.Fails]
abbrev dGSetup:TyD:=TyD.of zbN zdR (by
 intro x y h; simp only [zdR,List.cons.injEq,AV.v.injEq,Value.int.injEq,Value.bool.injEq,Value.string.injEq,Value.pointer.injEq,AV.sl.injEq,AV.mp.injEq,true_and,and_true,TyD.minj zby,TyD.minj zaZ,TyD.minj zbS,TyD.minj za7,TyD.minj zeP] at h
 exact (zbN.eqOf (h.1) (h.2.1) (h.2.2.1) (h.2.2.2.1) (h.2.2.2.2.1) (zaN.eqOf (h.2.2.2.2.2.1) (h.2.2.2.2.2.2.1) (h.2.2.2.2.2.2.2.1) (h.2.2.2.2.2.2.2.2))))
def zjX:(List zaz)→List AV:=fun x=>[.sl 9 (List.map zbm.enc x)]
abbrev znZ:TyD:=TyD.of (List zaz) zjX (by
 intro x y h; simp only [zjX,List.cons.injEq,AV.v.injEq,Value.int.injEq,Value.bool.injEq,Value.string.injEq,Value.pointer.injEq,AV.sl.injEq,AV.mp.injEq,true_and,and_true,TyD.minj zbm] at h
 exact (h))
def nL_I_u8:(List Int)→List AV:=fun x=>[.sl 1 (List.map dI_u8.enc x)]
abbrev dL_I_u8:TyD:=TyD.of (List Int) nL_I_u8 (by
 intro x y h; simp only [nL_I_u8,List.cons.injEq,AV.v.injEq,Value.int.injEq,Value.bool.injEq,Value.string.injEq,Value.pointer.injEq,AV.sl.injEq,AV.mp.injEq,true_and,and_true,TyD.minj dI_u8] at h
 exact (h))
structure zaw where
 number:Option Addr
 list:Option Addr
theorem zaw.eqOf {x y:zaw} (h0:x.number=y.number) (h1:x.list=y.list):x=y:=by cases x; cases y; simp only at *; simp only [h0,h1]
def zae:zaw→List AV:=fun x=>[.v (.pointer x.number),.v (.pointer x.list)]
abbrev zcA:TyD:=TyD.of zaw zae (by
 intro x y h; simp only [zae,List.cons.injEq,AV.v.injEq,Value.int.injEq,Value.bool.injEq,Value.string.injEq,Value.pointer.injEq,AV.sl.injEq,AV.mp.injEq,true_and,and_true] at h
 exact (zaw.eqOf (h.1) (h.2)))
def ziz:(List zaw)→List AV:=fun x=>[.sl 2 (List.map zcA.enc x)]
abbrev zmC:TyD:=TyD.of (List zaw) ziz (by
 intro x y h; simp only [ziz,List.cons.injEq,AV.v.injEq,Value.int.injEq,Value.bool.injEq,Value.string.injEq,Value.pointer.injEq,AV.sl.injEq,AV.mp.injEq,true_and,and_true,TyD.minj zcA] at h
 exact (h))
structure zbO where
 keyword:ByteArray
 words:Int
theorem zbO.eqOf {x y:zbO} (h0:x.keyword=y.keyword) (h1:x.words=y.words):x=y:=by cases x; cases y; simp only at *; simp only [h0,h1]
def zbQ:zbO→List AV:=fun x=>[.v (.string x.keyword),I x.words]
abbrev zfH:TyD:=TyD.of zbO zbQ (by
 intro x y h; simp only [zbQ,List.cons.injEq,AV.v.injEq,Value.int.injEq,Value.bool.injEq,Value.string.injEq,Value.pointer.injEq,AV.sl.injEq,AV.mp.injEq,true_and,and_true] at h
 exact (zbO.eqOf (h.1) (h.2)))
def nL_Str:(List ByteArray)→List AV:=fun x=>[.sl 1 (List.map dStr.enc x)]
abbrev dL_Str:TyD:=TyD.of (List ByteArray) nL_Str (by
 intro x y h; simp only [nL_Str,List.cons.injEq,AV.v.injEq,Value.int.injEq,Value.bool.injEq,Value.string.injEq,Value.pointer.injEq,AV.sl.injEq,AV.mp.injEq,true_and,and_true,TyD.minj dStr] at h
 exact (h))
def nL_Ptr:(List (Option Addr))→List AV:=fun x=>[.sl 1 (List.map dPtr.enc x)]
abbrev dL_Ptr:TyD:=TyD.of (List (Option Addr)) nL_Ptr (by
 intro x y h; simp only [nL_Ptr,List.cons.injEq,AV.v.injEq,Value.int.injEq,Value.bool.injEq,Value.string.injEq,Value.pointer.injEq,AV.sl.injEq,AV.mp.injEq,true_and,and_true,TyD.minj dPtr] at h
 exact (h))
@[simp] theorem zmh {β:Type} (l:List zaz) (i:Nat) (k:zaz→Option β):elemD zbm (List.map zaU l) i k=(l[i]?).bind k:=zb0 zbm l i k
@[simp] theorem zc6 {β:Type} (l:List zaJ) (i:Nat) (k:zaJ→Option β):elemD zby (List.map zaT l) i k=(l[i]?).bind k:=zb0 zby l i k
@[simp] theorem zhb {β:Type} (l:List GOp) (i:Nat) (k:GOp→Option β):elemD dGOp (List.map nGOp l) i k=(l[i]?).bind k:=zb0 dGOp l i k
@[simp] theorem zcQ {β:Type} (l:List zaq) (i:Nat) (k:zaq→Option β):elemD zaZ (List.map zas l) i k=(l[i]?).bind k:=zb0 zaZ l i k
@[simp] theorem zcH {β:Type} (l:List GPart) (i:Nat) (k:GPart→Option β):elemD zdP (List.map zaK l) i k=(l[i]?).bind k:=zb0 zdP l i k
@[simp] theorem zcB {β:Type} (l:List zap) (i:Nat) (k:zap→Option β):elemD za7 (List.map zan l) i k=(l[i]?).bind k:=zb0 za7 l i k
@[simp] theorem zkA {β:Type} (l:List zbO) (i:Nat) (k:zbO→Option β):elemD zfH (List.map zbQ l) i k=(l[i]?).bind k:=zb0 zfH l i k
@[simp] theorem zn0 {β:Type} (l:List (List Int)) (i:Nat) (k:(List Int)→Option β):elemD zeQ (List.map zbw l) i k=(l[i]?).bind k:=zb0 zeQ l i k
def tyTab:List TyD:=[dRaw,dRaw,zaO,zaO,dBool,dI_u8,dI_u8,dRaw,dRaw,dStr,dStr,dStr,dI_u64,dRaw,dRaw,dPtr,dPtr,dPtr,dRaw,dRaw,dRaw,dI_i32,zeQ,dRaw,dRaw,dPtr,dRaw,dL_GMarker,dL_GPaper,dL_GSeed,dRaw,zem,dRaw,zgj,dL_GScheme,dL_GCurve,dL_GUnit,dRaw,zi4,dRaw,zeO,dRaw,zi6,dRaw,dL_GOp,dRaw,zaO,dRaw,dRaw,dRaw,dRaw,dRaw,dRaw,dRaw,dGEntry,dRaw,za7,dRaw,dGStamp,dRaw,zbm,dRaw,dGSpecial,dRaw,dGAppeal,dRaw,dGOp,dRaw,dRaw,dRaw,dRaw,dRaw,dGOutcome,dRaw,zal,dRaw,dRaw,dRaw,dRaw,dRaw,dRaw,dRaw,dL_GPart,dRaw,zaZ,dL_GPoint,dRaw,zfb,dRaw,dRaw,dRaw,dRaw,zeP,dRaw,dL_GScript,dRaw,dRaw,dGSetup,znZ,dRaw,dRaw,dPtr,dL_I_u8,dRaw,dRaw,dRaw,dRaw,dRaw,dRaw,dRaw,dRaw,dRaw,dRaw,dRaw,zmC,dRaw,dPtr,dRaw,zfH,dRaw,dL_Str,dPtr,dPtr,dRaw,zcA,dRaw,dRaw,dRaw,dRaw,dRaw,dRaw,dRaw,dRaw,dRaw,dRaw,dRaw,dL_L_I_i64,dRaw,zbS,dRaw,dRaw,dRaw,zby,dRaw,dGRatio,dRaw,zi5,dRaw,zh6,dRaw,dRaw,dRaw,zdP,dRaw,dRaw,dPtr,dRaw,dPtr,dPtr,dRaw,dPtr,dRaw,dRaw,dRaw,dRaw,dRaw,dRaw,dRaw,dRaw,dRaw,dRaw,dL_Ptr,dRaw,dRaw,dRaw,dRaw,dI_u64,dRaw,dRaw,dRaw,dRaw,dRaw,dI_u64,dRaw,dRaw,dRaw,dRaw,dI_u32,dRaw,dRaw,dRaw,dRaw,dRaw,dRaw,dRaw,dRaw,dRaw,dRaw,dRaw,dRaw,dRaw,dRaw,dRaw,dRaw,dRaw,dRaw,dRaw,dRaw,dI_u8,dI_u8,dRaw,dI_i32,dI_i32,dRaw,dRaw]
end Go.Proofs.YtdclabgakicjeaaDoor
end
