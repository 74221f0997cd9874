/- The types of the seat as data. -/
import Derived.Test.YtikogkgdkdmljaaGreatAb9
set_option linter.unusedSimpArgs false
set_option linter.unusedVariables false
noncomputable section
namespace Go.Proofs.YtikogkgdkdmljaaGreat
open Go.Ab
def zcV:(List Int)→List AV:=fun x=>[.sl 1 (List.map zaW.enc x)]
abbrev zhk:TyD:=TyD.of (List Int) zcV (by
 intro x y h; simp only [zcV,zbm,AV.v.injEq,Value.int.injEq,Value.bool.injEq,Value.string.injEq,AV.sl.injEq,AV.mp.injEq,true_and,and_true,TyD.minj zaW] at h
 exact (h))
structure za1 where
 ID:Int
 Centre:Int
 Level:Int
 Capacity:Int
 Papers:List Int
theorem za1.eqOf {x y:za1} (h0:x.ID=y.ID) (h1:x.Centre=y.Centre) (h2:x.Level=y.Level) (h3:x.Capacity=y.Capacity) (h4:x.Papers=y.Papers):x=y:=by cases x; cases y; simp only at *; simp only [h0,h1,h2,h3,h4]
def zaT:za1→List AV:=fun x=>[I x.ID,I x.Centre,I x.Level,I x.Capacity,.sl 1 (List.map zaW.enc x.Papers)]
abbrev zcF:TyD:=TyD.of za1 zaT (by
 intro x y h; simp only [zaT,zbm,AV.v.injEq,Value.int.injEq,Value.bool.injEq,Value.string.injEq,AV.sl.injEq,AV.mp.injEq,true_and,and_true,TyD.minj zaW] at h
 exact (za1.eqOf (h.1) (h.2.1) (h.2.2.1) (h.2.2.2.1) (h.2.2.2.2)))
def zxW:(List za1)→List AV:=fun x=>[.sl 5 (List.map zcF.enc x)]
abbrev dL_GMarker:TyD:=TyD.of (List za1) zxW (by
 intro x y h; simp only [zxW,zbm,AV.v.injEq,Value.int.injEq,Value.bool.injEq,Value.string.injEq,AV.sl.injEq,AV.mp.injEq,true_and,and_true,TyD.minj zcF] at h
 exact (h))
structure zaR where
 Number:Int
 Paper:Int
 Candidate:Int
 Centre:Int
 Variant:Int
 Pages:List Int
 Answers:List Int
theorem zaR.eqOf {x y:zaR} (h0:x.Number=y.Number) (h1:x.Paper=y.Paper) (h2:x.Candidate=y.Candidate) (h3:x.Centre=y.Centre) (h4:x.Variant=y.Variant) (h5:x.Pages=y.Pages) (h6:x.Answers=y.Answers):x=y:=by cases x; cases y; simp only at *; simp only [h0,h1,h2,h3,h4,h5,h6]
def za0:zaR→List AV:=fun x=>[I x.Number,I x.Paper,I x.Candidate,I x.Centre,I x.Variant,.sl 1 (List.map zaW.enc x.Pages),.sl 1 (List.map zaW.enc x.Answers)]
abbrev zb8:TyD:=TyD.of zaR za0 (by
 intro x y h; simp only [za0,zbm,AV.v.injEq,Value.int.injEq,Value.bool.injEq,Value.string.injEq,AV.sl.injEq,AV.mp.injEq,true_and,and_true,TyD.minj zaW] at h
 exact (zaR.eqOf (h.1) (h.2.1) (h.2.2.1) (h.2.2.2.1) (h.2.2.2.2.1) (h.2.2.2.2.2.1) (h.2.2.2.2.2.2)))
def zxY:(List zaR)→List AV:=fun x=>[.sl 7 (List.map zb8.enc x)]
abbrev dL_GScript:TyD:=TyD.of (List zaR) zxY (by
 intro x y h; simp only [zxY,zbm,AV.v.injEq,Value.int.injEq,Value.bool.injEq,Value.string.injEq,AV.sl.injEq,AV.mp.injEq,true_and,and_true,TyD.minj zb8] at h
 exact (h))
structure GPart where
 Kind:Int
 Max:Int
 Topic:Int
 Objective:Int
 Options:Int
 Key:Int
theorem GPart.eqOf {x y:GPart} (h0:x.Kind=y.Kind) (h1:x.Max=y.Max) (h2:x.Topic=y.Topic) (h3:x.Objective=y.Objective) (h4:x.Options=y.Options) (h5:x.Key=y.Key):x=y:=by cases x; cases y; simp only at *; simp only [h0,h1,h2,h3,h4,h5]
def zaQ:GPart→List AV:=fun x=>[I x.Kind,I x.Max,I x.Topic,I x.Objective,I x.Options,I x.Key]
abbrev zd5:TyD:=TyD.of GPart zaQ (by
 intro x y h; simp only [zaQ,zbm,AV.v.injEq,Value.int.injEq,Value.bool.injEq,Value.string.injEq,AV.sl.injEq,AV.mp.injEq,true_and,and_true] at h
 exact (GPart.eqOf (h.1) (h.2.1) (h.2.2.1) (h.2.2.2.1) (h.2.2.2.2.1) (h.2.2.2.2.2)))
def nL_GPart:(List GPart)→List AV:=fun x=>[.sl 6 (List.map zd5.enc x)]
abbrev dL_GPart:TyD:=TyD.of (List GPart) nL_GPart (by
 intro x y h; simp only [nL_GPart,zbm,AV.v.injEq,Value.int.injEq,Value.bool.injEq,Value.string.injEq,AV.sl.injEq,AV.mp.injEq,true_and,and_true,TyD.minj zd5] at h
 exact (h))
structure zaG where
 Code:Int
 Variant:Int
 Parts:List GPart
theorem zaG.eqOf {x y:zaG} (h0:x.Code=y.Code) (h1:x.Variant=y.Variant) (h2:x.Parts=y.Parts):x=y:=by cases x; cases y; simp only at *; simp only [h0,h1,h2]
def zaJ:zaG→List AV:=fun x=>[I x.Code,I x.Variant,.sl 6 (List.map zd5.enc x.Parts)]
abbrev zb6:TyD:=TyD.of zaG zaJ (by
 intro x y h; simp only [zaJ,zbm,AV.v.injEq,Value.int.injEq,Value.bool.injEq,Value.string.injEq,AV.sl.injEq,AV.mp.injEq,true_and,and_true,TyD.minj zd5] at h
 exact (zaG.eqOf (h.1) (h.2.1) (h.2.2)))
def zy8:(List zaG)→List AV:=fun x=>[.sl 3 (List.map zb6.enc x)]
abbrev dL_GPaper:TyD:=TyD.of (List zaG) zy8 (by
 intro x y h; simp only [zy8,zbm,AV.v.injEq,Value.int.injEq,Value.bool.injEq,Value.string.injEq,AV.sl.injEq,AV.mp.injEq,true_and,and_true,TyD.minj zb6] at h
 exact (h))
def zxZ:(List (List Int))→List AV:=fun x=>[.sl 1 (List.map zhk.enc x)]
abbrev dL_L_I_i64:TyD:=TyD.of (List (List Int)) zxZ (by
 intro x y h; simp only [zxZ,zbm,AV.v.injEq,Value.int.injEq,Value.bool.injEq,Value.string.injEq,AV.sl.injEq,AV.mp.injEq,true_and,and_true,TyD.minj zhk] at h
 exact (h))
structure zbt where
 Keys:List (List Int)
 Withdrawn:List Int
theorem zbt.eqOf {x y:zbt} (h0:x.Keys=y.Keys) (h1:x.Withdrawn=y.Withdrawn):x=y:=by cases x; cases y; simp only at *; simp only [h0,h1]
def zbY:zbt→List AV:=fun x=>[.sl 1 (List.map zhk.enc x.Keys),.sl 1 (List.map zaW.enc x.Withdrawn)]
abbrev zdH:TyD:=TyD.of zbt zbY (by
 intro x y h; simp only [zbY,zbm,AV.v.injEq,Value.int.injEq,Value.bool.injEq,Value.string.injEq,AV.sl.injEq,AV.mp.injEq,true_and,and_true,TyD.minj zaW,TyD.minj zhk] at h
 exact (zbt.eqOf (h.1) (h.2)))
def zxX:(List zbt)→List AV:=fun x=>[.sl 2 (List.map zdH.enc x)]
abbrev dL_GScheme:TyD:=TyD.of (List zbt) zxX (by
 intro x y h; simp only [zxX,zbm,AV.v.injEq,Value.int.injEq,Value.bool.injEq,Value.string.injEq,AV.sl.injEq,AV.mp.injEq,true_and,and_true,TyD.minj zdH] at h
 exact (h))
structure GSeed where
 Script:Int
 Marks:List Int
theorem GSeed.eqOf {x y:GSeed} (h0:x.Script=y.Script) (h1:x.Marks=y.Marks):x=y:=by cases x; cases y; simp only at *; simp only [h0,h1]
def zch:GSeed→List AV:=fun x=>[I x.Script,.sl 1 (List.map zaW.enc x.Marks)]
abbrev zfd:TyD:=TyD.of GSeed zch (by
 intro x y h; simp only [zch,zbm,AV.v.injEq,Value.int.injEq,Value.bool.injEq,Value.string.injEq,AV.sl.injEq,AV.mp.injEq,true_and,and_true,TyD.minj zaW] at h
 exact (GSeed.eqOf (h.1) (h.2)))
def nL_GSeed:(List GSeed)→List AV:=fun x=>[.sl 2 (List.map zfd.enc x)]
abbrev dL_GSeed:TyD:=TyD.of (List GSeed) nL_GSeed (by
 intro x y h; simp only [nL_GSeed,zbm,AV.v.injEq,Value.int.injEq,Value.bool.injEq,Value.string.injEq,AV.sl.injEq,AV.mp.injEq,true_and,and_true,TyD.minj zfd] at h
 exact (h))
structure za6 where
 Part:Int
 Total:Int
 Window:Int
 Fails:Int
theorem za6.eqOf {x y:za6} (h0:x.Part=y.Part) (h1:x.Total=y.Total) (h2:x.Window=y.Window) (h3:x.Fails=y.Fails):x=y:=by cases x; cases y; simp only at *; simp only [h0,h1,h2,h3]
def zbG:za6→List AV:=fun x=>[I x.Part,I x.Total,I x.Window,I x.Fails]
abbrev ziU:TyD:=TyD.of za6 zbG (by
 intro x y h; simp only [zbG,zbm,AV.v.injEq,Value.int.injEq,Value.bool.injEq,Value.string.injEq,AV.sl.injEq,AV.mp.injEq,true_and,and_true] at h
 exact (za6.eqOf (h.1) (h.2.1) (h.2.2.1) (h.2.2.2)))
structure zaz where
 Markers:List za1
 Scripts:List zaR
 Papers:List zaG
 Schemes:List zbt
 Seeds:List GSeed
 Monitor:za6
theorem zaz.eqOf {x y:zaz} (h0:x.Markers=y.Markers) (h1:x.Scripts=y.Scripts) (h2:x.Papers=y.Papers) (h3:x.Schemes=y.Schemes) (h4:x.Seeds=y.Seeds) (h5:x.Monitor=y.Monitor):x=y:=by cases x; cases y; simp only at *; simp only [h0,h1,h2,h3,h4,h5]
def zaq:zaz→List AV:=fun x=>[.sl 5 (List.map zcF.enc x.Markers),.sl 7 (List.map zb8.enc x.Scripts),.sl 3 (List.map zb6.enc x.Papers),.sl 2 (List.map zdH.enc x.Schemes),.sl 2 (List.map zfd.enc x.Seeds),I x.Monitor.Part,I x.Monitor.Total,I x.Monitor.Window,I x.Monitor.Fails]
abbrev zgL:TyD:=TyD.of zaz zaq (by
 intro x y h; simp only [zaq,zbm,AV.v.injEq,Value.int.injEq,Value.bool.injEq,Value.string.injEq,AV.sl.injEq,AV.mp.injEq,true_and,and_true,TyD.minj zcF,TyD.minj zb6,TyD.minj zdH,TyD.minj zb8,TyD.minj zfd] at h
 exact (zaz.eqOf (h.1) (h.2.1) (h.2.2.1) (h.2.2.2.1) (h.2.2.2.2.1) (za6.eqOf (h.2.2.2.2.2.1) (h.2.2.2.2.2.2.1) (h.2.2.2.2.2.2.2.1) (h.2.2.2.2.2.2.2.2))))
structure zaM where
 Time:Int
 Source:Int
 Seq:Int
theorem zaM.eqOf {x y:zaM} (h0:x.Time=y.Time) (h1:x.Source=y.Source) (h2:x.Seq=y.Seq):x=y:=by cases x; cases y; simp only at *; simp only [h0,h1,h2]
def zbD:zaM→List AV:=fun x=>[I x.Time,I x.Source,I x.Seq]
abbrev zmc:TyD:=TyD.of zaM zbD (by
 intro x y h; simp only [zbD,zbm,AV.v.injEq,Value.int.injEq,Value.bool.injEq,Value.string.injEq,AV.sl.injEq,AV.mp.injEq,true_and,and_true] at h
 exact (zaM.eqOf (h.1) (h.2.1) (h.2.2)))
structure zab where
 Stamp:zaM
 Kind:Int
 Script:Int
 Part:Int
 Value:Int
 Marker:Int
 Pages:List Int
theorem zab.eqOf {x y:zab} (h0:x.Stamp=y.Stamp) (h1:x.Kind=y.Kind) (h2:x.Script=y.Script) (h3:x.Part=y.Part) (h4:x.Value=y.Value) (h5:x.Marker=y.Marker) (h6:x.Pages=y.Pages):x=y:=by cases x; cases y; simp only at *; simp only [h0,h1,h2,h3,h4,h5,h6]
def zaa:zab→List AV:=fun x=>[I x.Stamp.Time,I x.Stamp.Source,I x.Stamp.Seq,I x.Kind,I x.Script,I x.Part,I x.Value,I x.Marker,.sl 1 (List.map zaW.enc x.Pages)]
abbrev zaw:TyD:=TyD.of zab zaa (by
 intro x y h; simp only [zaa,zbm,AV.v.injEq,Value.int.injEq,Value.bool.injEq,Value.string.injEq,AV.sl.injEq,AV.mp.injEq,true_and,and_true,TyD.minj zaW] at h
 exact (zab.eqOf (zaM.eqOf (h.1) (h.2.1) (h.2.2.1)) (h.2.2.2.1) (h.2.2.2.2.1) (h.2.2.2.2.2.1) (h.2.2.2.2.2.2.1) (h.2.2.2.2.2.2.2.1) (h.2.2.2.2.2.2.2.2)))
def ztq:(List zab)→List AV:=fun x=>[.sl 9 (List.map zaw.enc x)]
abbrev zzz:TyD:=TyD.of (List zab) ztq (by
 intro x y h; simp only [ztq,zbm,AV.v.injEq,Value.int.injEq,Value.bool.injEq,Value.string.injEq,AV.sl.injEq,AV.mp.injEq,true_and,and_true,TyD.minj zaw] at h
 exact (h))
structure zbv where
 Script:Int
 Part:Int
 Marker:Int
 Level:Int
 Value:Int
 Stamp:zaM
theorem zbv.eqOf {x y:zbv} (h0:x.Script=y.Script) (h1:x.Part=y.Part) (h2:x.Marker=y.Marker) (h3:x.Level=y.Level) (h4:x.Value=y.Value) (h5:x.Stamp=y.Stamp):x=y:=by cases x; cases y; simp only at *; simp only [h0,h1,h2,h3,h4,h5]
def zbd:zbv→List AV:=fun x=>[I x.Script,I x.Part,I x.Marker,I x.Level,I x.Value,I x.Stamp.Time,I x.Stamp.Source,I x.Stamp.Seq]
abbrev zca:TyD:=TyD.of zbv zbd (by
 intro x y h; simp only [zbd,zbm,AV.v.injEq,Value.int.injEq,Value.bool.injEq,Value.string.injEq,AV.sl.injEq,AV.mp.injEq,true_and,and_true] at h
 exact (zbv.eqOf (h.1) (h.2.1) (h.2.2.1) (h.2.2.2.1) (h.2.2.2.2.1) (zaM.eqOf (h.2.2.2.2.2.1) (h.2.2.2.2.2.2.1) (h.2.2.2.2.2.2.2))))
def zy7:(List zbv)→List AV:=fun x=>[.sl 8 (List.map zca.enc x)]
abbrev dL_GGiven:TyD:=TyD.of (List zbv) zy7 (by
 intro x y h; simp only [zy7,zbm,AV.v.injEq,Value.int.injEq,Value.bool.injEq,Value.string.injEq,AV.sl.injEq,AV.mp.injEq,true_and,and_true,TyD.minj zca] at h
 exact (h))
structure zba where
 Marker:Int
 Good:zaM
 At:zaM
 Until:zaM
 First:Bool
 Lifted:Bool
theorem zba.eqOf {x y:zba} (h0:x.Marker=y.Marker) (h1:x.Good=y.Good) (h2:x.At=y.At) (h3:x.Until=y.Until) (h4:x.First=y.First) (h5:x.Lifted=y.Lifted):x=y:=by cases x; cases y; simp only at *; simp only [h0,h1,h2,h3,h4,h5]
def zag:zba→List AV:=fun x=>[I x.Marker,I x.Good.Time,I x.Good.Source,I x.Good.Seq,I x.At.Time,I x.At.Source,I x.At.Seq,I x.Until.Time,I x.Until.Source,I x.Until.Seq,B x.First,B x.Lifted]
abbrev zb9:TyD:=TyD.of zba zag (by
 intro x y h; simp only [zag,zbm,AV.v.injEq,Value.int.injEq,Value.bool.injEq,Value.string.injEq,AV.sl.injEq,AV.mp.injEq,true_and,and_true] at h
 exact (zba.eqOf (h.1) (zaM.eqOf (h.2.1) (h.2.2.1) (h.2.2.2.1)) (zaM.eqOf (h.2.2.2.2.1) (h.2.2.2.2.2.1) (h.2.2.2.2.2.2.1)) (zaM.eqOf (h.2.2.2.2.2.2.2.1) (h.2.2.2.2.2.2.2.2.1) (h.2.2.2.2.2.2.2.2.2.1)) (h.2.2.2.2.2.2.2.2.2.2.1) (h.2.2.2.2.2.2.2.2.2.2.2)))
def zrQ:(List zba)→List AV:=fun x=>[.sl 12 (List.map zb9.enc x)]
abbrev zyp:TyD:=TyD.of (List zba) zrQ (by
 intro x y h; simp only [zrQ,zbm,AV.v.injEq,Value.int.injEq,Value.bool.injEq,Value.string.injEq,AV.sl.injEq,AV.mp.injEq,true_and,and_true,TyD.minj zb9] at h
 exact (h))
structure zbk where
 Given:List zbv
 Suspensions:List zba
theorem zbk.eqOf {x y:zbk} (h0:x.Given=y.Given) (h1:x.Suspensions=y.Suspensions):x=y:=by cases x; cases y; simp only at *; simp only [h0,h1]
def zbV:zbk→List AV:=fun x=>[.sl 8 (List.map zca.enc x.Given),.sl 12 (List.map zb9.enc x.Suspensions)]
abbrev zgR:TyD:=TyD.of zbk zbV (by
 intro x y h; simp only [zbV,zbm,AV.v.injEq,Value.int.injEq,Value.bool.injEq,Value.string.injEq,AV.sl.injEq,AV.mp.injEq,true_and,and_true,TyD.minj zca,TyD.minj zb9] at h
 exact (zbk.eqOf (h.1) (h.2)))
def zy6:(Int×Int×Int)→List AV:=fun x=>[I x.1,I x.2.1,I x.2.2]
abbrev zub:TyD:=TyD.of (Int×Int×Int) zy6 (by
 intro x y h; simp only [zy6,zbm,AV.v.injEq,Value.int.injEq,Value.bool.injEq,Value.string.injEq,AV.sl.injEq,AV.mp.injEq,true_and,and_true] at h
 exact (zeO (h.1) (zeO (h.2.1) (h.2.2))))
def zvt:((Int×Int×Int)×Int)→List AV:=fun x=>[.agg (zub.enc x.1),I x.2]
abbrev zoN:TyD:=TyD.of ((Int×Int×Int)×Int) zvt (by
 intro x y h; have h1:=(zcT h).1; have h2:=(zcT (zcT h).2).1
 exact zeO (zub.inj (AV.agg.inj h1)) (by simpa using h2))
def zoQ:(List ((Int×Int×Int)×Int))→List AV:=fun x=>[.mp (List.map zoN.enc x)]
abbrev zvi:TyD:=TyD.of (List ((Int×Int×Int)×Int)) zoQ (by
 intro x y h; simp only [zoQ,zbm,AV.v.injEq,Value.int.injEq,Value.bool.injEq,Value.string.injEq,AV.sl.injEq,AV.mp.injEq,true_and,and_true,TyD.minj zoN] at h
 exact (h))
structure GTask where
 Script:Int
 Marker:Int
theorem GTask.eqOf {x y:GTask} (h0:x.Script=y.Script) (h1:x.Marker=y.Marker):x=y:=by cases x; cases y; simp only at *; simp only [h0,h1]
def zfL:GTask→List AV:=fun x=>[I x.Script,I x.Marker]
abbrev zc8:TyD:=TyD.of GTask zfL (by
 intro x y h; simp only [zfL,zbm,AV.v.injEq,Value.int.injEq,Value.bool.injEq,Value.string.injEq,AV.sl.injEq,AV.mp.injEq,true_and,and_true] at h
 exact (GTask.eqOf (h.1) (h.2)))
def nL_GTask:(List GTask)→List AV:=fun x=>[.sl 2 (List.map zc8.enc x)]
abbrev dL_GTask:TyD:=TyD.of (List GTask) nL_GTask (by
 intro x y h; simp only [nL_GTask,zbm,AV.v.injEq,Value.int.injEq,Value.bool.injEq,Value.string.injEq,AV.sl.injEq,AV.mp.injEq,true_and,and_true,TyD.minj zc8] at h
 exact (h))
structure zae where
 L:List Int
 At:Int
theorem zae.eqOf {x y:zae} (h0:x.L=y.L) (h1:x.At=y.At):x=y:=by cases x; cases y; simp only at *; simp only [h0,h1]
def zar:zae→List AV:=fun x=>[.sl 1 (List.map zaW.enc x.L),I x.At]
abbrev zaZ:TyD:=TyD.of zae zar (by
 intro x y h; simp only [zar,zbm,AV.v.injEq,Value.int.injEq,Value.bool.injEq,Value.string.injEq,AV.sl.injEq,AV.mp.injEq,true_and,and_true,TyD.minj zaW] at h
 exact (zae.eqOf (h.1) (h.2)))
structure zay where
 script:Int
 part:Int
theorem zay.eqOf {x y:zay} (h0:x.script=y.script) (h1:x.part=y.part):x=y:=by cases x; cases y; simp only at *; simp only [h0,h1]
def zbe:zay→List AV:=fun x=>[I x.script,I x.part]
abbrev zcP:TyD:=TyD.of zay zbe (by
 intro x y h; simp only [zbe,zbm,AV.v.injEq,Value.int.injEq,Value.bool.injEq,Value.string.injEq,AV.sl.injEq,AV.mp.injEq,true_and,and_true] at h
 exact (zay.eqOf (h.1) (h.2)))
def zal:(zay×zaM)→List AV:=fun x=>[.agg (zcP.enc x.1),.agg (zmc.enc x.2)]
abbrev zc7:TyD:=TyD.of (zay×zaM) zal (by
 intro x y h; have h1:=(zcT h).1; have h2:=(zcT (zcT h).2).1
 exact zeO (zcP.inj (AV.agg.inj h1)) (zmc.inj (AV.agg.inj h2)))
def zkm:(List (zay×zaM))→List AV:=fun x=>[.mp (List.map zc7.enc x)]
abbrev zpT:TyD:=TyD.of (List (zay×zaM)) zkm (by
 intro x y h; simp only [zkm,zbm,AV.v.injEq,Value.int.injEq,Value.bool.injEq,Value.string.injEq,AV.sl.injEq,AV.mp.injEq,true_and,and_true,TyD.minj zc7] at h
 exact (h))
structure zbj where
 event:zab
 void:Bool
theorem zbj.eqOf {x y:zbj} (h0:x.event=y.event) (h1:x.void=y.void):x=y:=by cases x; cases y; simp only at *; simp only [h0,h1]
def zak:zbj→List AV:=fun x=>[I x.event.Stamp.Time,I x.event.Stamp.Source,I x.event.Stamp.Seq,I x.event.Kind,I x.event.Script,I x.event.Part,I x.event.Value,I x.event.Marker,.sl 1 (List.map zaW.enc x.event.Pages),B x.void]
abbrev zcB:TyD:=TyD.of zbj zak (by
 intro x y h; simp only [zak,zbm,AV.v.injEq,Value.int.injEq,Value.bool.injEq,Value.string.injEq,AV.sl.injEq,AV.mp.injEq,true_and,and_true,TyD.minj zaW] at h
 exact (zbj.eqOf (zab.eqOf (zaM.eqOf (h.1) (h.2.1) (h.2.2.1)) (h.2.2.2.1) (h.2.2.2.2.1) (h.2.2.2.2.2.1) (h.2.2.2.2.2.2.1) (h.2.2.2.2.2.2.2.1) (h.2.2.2.2.2.2.2.2.1)) (h.2.2.2.2.2.2.2.2.2)))
def zqA:(List zbj)→List AV:=fun x=>[.sl 10 (List.map zcB.enc x)]
abbrev zxw:TyD:=TyD.of (List zbj) zqA (by
 intro x y h; simp only [zqA,zbm,AV.v.injEq,Value.int.injEq,Value.bool.injEq,Value.string.injEq,AV.sl.injEq,AV.mp.injEq,true_and,and_true,TyD.minj zcB] at h
 exact (h))
def zau:(zay×Int)→List AV:=fun x=>[.agg (zcP.enc x.1),I x.2]
abbrev zdg:TyD:=TyD.of (zay×Int) zau (by
 intro x y h; have h1:=(zcT h).1; have h2:=(zcT (zcT h).2).1
 exact zeO (zcP.inj (AV.agg.inj h1)) (by simpa using h2))
def zkZ:(List (zay×Int))→List AV:=fun x=>[.mp (List.map zdg.enc x)]
abbrev zqg:TyD:=TyD.of (List (zay×Int)) zkZ (by
 intro x y h; simp only [zkZ,zbm,AV.v.injEq,Value.int.injEq,Value.bool.injEq,Value.string.injEq,AV.sl.injEq,AV.mp.injEq,true_and,and_true,TyD.minj zdg] at h
 exact (h))
def nL_Bool:(List Bool)→List AV:=fun x=>[.sl 1 (List.map dBool.enc x)]
abbrev dL_Bool:TyD:=TyD.of (List Bool) nL_Bool (by
 intro x y h; simp only [nL_Bool,zbm,AV.v.injEq,Value.int.injEq,Value.bool.injEq,Value.string.injEq,AV.sl.injEq,AV.mp.injEq,true_and,and_true,TyD.minj dBool] at h
 exact (h))
structure zc2 where
 Last:List Bool
 Suspended:Bool
theorem zc2.eqOf {x y:zc2} (h0:x.Last=y.Last) (h1:x.Suspended=y.Suspended):x=y:=by cases x; cases y; simp only at *; simp only [h0,h1]
def zje:zc2→List AV:=fun x=>[.sl 1 (List.map dBool.enc x.Last),B x.Suspended]
abbrev zrE:TyD:=TyD.of zc2 zje (by
 intro x y h; simp only [zje,zbm,AV.v.injEq,Value.int.injEq,Value.bool.injEq,Value.string.injEq,AV.sl.injEq,AV.mp.injEq,true_and,and_true,TyD.minj dBool] at h
 exact (zc2.eqOf (h.1) (h.2)))
structure zah where
 level:Int
 marks:List zbj
 period:Int
 started:zaM
 noted:List (zay×Int)
 watch:zc2
 good:zaM
 some:Bool
 suspensions:List zba
theorem zah.eqOf {x y:zah} (h0:x.level=y.level) (h1:x.marks=y.marks) (h2:x.period=y.period) (h3:x.started=y.started) (h4:x.noted=y.noted) (h5:x.watch=y.watch) (h6:x.good=y.good) (h7:x.some=y.some) (h8:x.suspensions=y.suspensions):x=y:=by cases x; cases y; simp only at *; simp only [h0,h1,h2,h3,h4,h5,h6,h7,h8]
def zc1:zah→List AV:=fun x=>[I x.level,.sl 10 (List.map zcB.enc x.marks),I x.period,I x.started.Time,I x.started.Source,I x.started.Seq,.mp (List.map zdg.enc x.noted),.sl 1 (List.map dBool.enc x.watch.Last),B x.watch.Suspended,I x.good.Time,I x.good.Source,I x.good.Seq,B x.some,.sl 12 (List.map zb9.enc x.suspensions)]
abbrev ze7:TyD:=TyD.of zah zc1 (by
 intro x y h; simp only [zc1,zbm,AV.v.injEq,Value.int.injEq,Value.bool.injEq,Value.string.injEq,AV.sl.injEq,AV.mp.injEq,true_and,and_true,TyD.minj dBool,TyD.minj zdg,TyD.minj zb9,TyD.minj zcB] at h
 exact (zah.eqOf (h.1) (h.2.1) (h.2.2.1) (zaM.eqOf (h.2.2.2.1) (h.2.2.2.2.1) (h.2.2.2.2.2.1)) (h.2.2.2.2.2.2.1) (zc2.eqOf (h.2.2.2.2.2.2.2.1) (h.2.2.2.2.2.2.2.2.1)) (zaM.eqOf (h.2.2.2.2.2.2.2.2.2.1) (h.2.2.2.2.2.2.2.2.2.2.1) (h.2.2.2.2.2.2.2.2.2.2.2.1)) (h.2.2.2.2.2.2.2.2.2.2.2.2.1) (h.2.2.2.2.2.2.2.2.2.2.2.2.2)))
def zbC:(zay×zab)→List AV:=fun x=>[.agg (zcP.enc x.1),.agg (zaw.enc x.2)]
abbrev zcA:TyD:=TyD.of (zay×zab) zbC (by
 intro x y h; have h1:=(zcT h).1; have h2:=(zcT (zcT h).2).1
 exact zeO (zcP.inj (AV.agg.inj h1)) (zaw.inj (AV.agg.inj h2)))
def zhS:(List (zay×zab))→List AV:=fun x=>[.mp (List.map zcA.enc x)]
abbrev znz:TyD:=TyD.of (List (zay×zab)) zhS (by
 intro x y h; simp only [zhS,zbm,AV.v.injEq,Value.int.injEq,Value.bool.injEq,Value.string.injEq,AV.sl.injEq,AV.mp.injEq,true_and,and_true,TyD.minj zcA] at h
 exact (h))
def zbK:(Int×Int)→List AV:=fun x=>[I x.1,I x.2]
abbrev zee:TyD:=TyD.of (Int×Int) zbK (by
 intro x y h; simp only [zbK,zbm,AV.v.injEq,Value.int.injEq,Value.bool.injEq,Value.string.injEq,AV.sl.injEq,AV.mp.injEq,true_and,and_true] at h
 exact (zeO (h.1) (h.2)))
structure za3 where
 first:Int
 disputed:Bool
theorem za3.eqOf {x y:za3} (h0:x.first=y.first) (h1:x.disputed=y.disputed):x=y:=by cases x; cases y; simp only at *; simp only [h0,h1]
def zbE:za3→List AV:=fun x=>[I x.first,B x.disputed]
abbrev zdZ:TyD:=TyD.of za3 zbE (by
 intro x y h; simp only [zbE,zbm,AV.v.injEq,Value.int.injEq,Value.bool.injEq,Value.string.injEq,AV.sl.injEq,AV.mp.injEq,true_and,and_true] at h
 exact (za3.eqOf (h.1) (h.2)))
def zbz:((Int×Int)×za3)→List AV:=fun x=>[.agg (zee.enc x.1),.agg (zdZ.enc x.2)]
abbrev zbT:TyD:=TyD.of ((Int×Int)×za3) zbz (by
 intro x y h; have h1:=(zcT h).1; have h2:=(zcT (zcT h).2).1
 exact zeO (zee.inj (AV.agg.inj h1)) (zdZ.inj (AV.agg.inj h2)))
def zjE:(List ((Int×Int)×za3))→List AV:=fun x=>[.mp (List.map zbT.enc x)]
abbrev zoW:TyD:=TyD.of (List ((Int×Int)×za3)) zjE (by
 intro x y h; simp only [zjE,zbm,AV.v.injEq,Value.int.injEq,Value.bool.injEq,Value.string.injEq,AV.sl.injEq,AV.mp.injEq,true_and,and_true,TyD.minj zbT] at h
 exact (h))
def zdF:((Int×Int)×Int)→List AV:=fun x=>[.agg (zee.enc x.1),I x.2]
abbrev ze5:TyD:=TyD.of ((Int×Int)×Int) zdF (by
 intro x y h; have h1:=(zcT h).1; have h2:=(zcT (zcT h).2).1
 exact zeO (zee.inj (AV.agg.inj h1)) (by simpa using h2))
def zoP:(List ((Int×Int)×Int))→List AV:=fun x=>[.mp (List.map ze5.enc x)]
abbrev zvh:TyD:=TyD.of (List ((Int×Int)×Int)) zoP (by
 intro x y h; simp only [zoP,zbm,AV.v.injEq,Value.int.injEq,Value.bool.injEq,Value.string.injEq,AV.sl.injEq,AV.mp.injEq,true_and,and_true,TyD.minj ze5] at h
 exact (h))
def zdS:((Int×Int)×Bool)→List AV:=fun x=>[.agg (zee.enc x.1),B x.2]
abbrev zfp:TyD:=TyD.of ((Int×Int)×Bool) zdS (by
 intro x y h; have h1:=(zcT h).1; have h2:=(zcT (zcT h).2).1
 exact zeO (zee.inj (AV.agg.inj h1)) (by simpa using h2))
def zp6:(List ((Int×Int)×Bool))→List AV:=fun x=>[.mp (List.map zfp.enc x)]
abbrev zwx:TyD:=TyD.of (List ((Int×Int)×Bool)) zp6 (by
 intro x y h; simp only [zp6,zbm,AV.v.injEq,Value.int.injEq,Value.bool.injEq,Value.string.injEq,AV.sl.injEq,AV.mp.injEq,true_and,and_true,TyD.minj zfp] at h
 exact (h))
@[simp] theorem zj2 {β:Type} (l:List zbv) (i:Nat) (k:zbv→Option β):elemD zca (List.map zbd l) i k=(l[i]?).bind k:=zd0 zca l i k
@[simp] theorem zbJ {β:Type} (l:List zab) (i:Nat) (k:zab→Option β):elemD zaw (List.map zaa l) i k=(l[i]?).bind k:=zd0 zaw l i k
@[simp] theorem zes {β:Type} (l:List za1) (i:Nat) (k:za1→Option β):elemD zcF (List.map zaT l) i k=(l[i]?).bind k:=zd0 zcF l i k
@[simp] theorem zfI {β:Type} (l:List zaG) (i:Nat) (k:zaG→Option β):elemD zb6 (List.map zaJ l) i k=(l[i]?).bind k:=zd0 zb6 l i k
@[simp] theorem zeo {β:Type} (l:List GPart) (i:Nat) (k:GPart→Option β):elemD zd5 (List.map zaQ l) i k=(l[i]?).bind k:=zd0 zd5 l i k
@[simp] theorem zzE {β:Type} (l:List zbt) (i:Nat) (k:zbt→Option β):elemD zdH (List.map zbY l) i k=(l[i]?).bind k:=zd0 zdH l i k
@[simp] theorem zgM {β:Type} (l:List zaR) (i:Nat) (k:zaR→Option β):elemD zb8 (List.map za0 l) i k=(l[i]?).bind k:=zd0 zb8 l i k
@[simp] theorem zvL {β:Type} (l:List GSeed) (i:Nat) (k:GSeed→Option β):elemD zfd (List.map zch l) i k=(l[i]?).bind k:=zd0 zfd l i k
@[simp] theorem zdy {β:Type} (l:List zba) (i:Nat) (k:zba→Option β):elemD zb9 (List.map zag l) i k=(l[i]?).bind k:=zd0 zb9 l i k
@[simp] theorem zgS {β:Type} (l:List zbj) (i:Nat) (k:zbj→Option β):elemD zcB (List.map zak l) i k=(l[i]?).bind k:=zd0 zcB l i k
@[simp] theorem zzF {β:Type} (l:List (List Int)) (i:Nat) (k:(List Int)→Option β):elemD zhk (List.map zcV l) i k=(l[i]?).bind k:=zd0 zhk l i k
def tyTab:List TyD:=[dRaw,dRaw,zaW,zaW,dBool,dI_u8,dI_u8,dRaw,dRaw,dStr,dStr,dStr,zoe,dRaw,dRaw,dRaw,dRaw,dRaw,dRaw,dRaw,dRaw,dI_i32,zhk,dRaw,dRaw,dRaw,dRaw,dL_GMarker,dL_GScript,dL_GPaper,dL_GScheme,dL_GSeed,dRaw,ziU,dRaw,zgL,dRaw,zzz,dRaw,dL_GGiven,zyp,dRaw,zgR,zaW,dRaw,dRaw,dRaw,dRaw,dRaw,zmc,dRaw,zca,dRaw,zb8,dRaw,dRaw,dRaw,dRaw,dRaw,dRaw,dRaw,zb9,dRaw,dRaw,zaw,dRaw,dRaw,zcF,zvi,dRaw,zub,dRaw,dRaw,dRaw,dRaw,dRaw,dRaw,dL_GTask,dRaw,dRaw,dRaw,dRaw,zaZ,dRaw,dRaw,dRaw,dRaw,dRaw,dRaw,dRaw,zfd,dRaw,dRaw,dL_GPart,dRaw,zb6,dRaw,dRaw,zd5,dRaw,dRaw,dRaw,dRaw,zpT,dRaw,dRaw,dRaw,zxw,zqg,dL_Bool,dRaw,zrE,dRaw,ze7,znz,dRaw,dRaw,zcP,dRaw,dRaw,dRaw,dRaw,dRaw,dRaw,dRaw,dRaw,dRaw,dRaw,dRaw,dL_L_I_i64,dRaw,zdH,dRaw,zcB,dRaw,dRaw,zc8,dRaw,dRaw,dRaw,dRaw,dRaw,dRaw,dRaw,dRaw,dRaw,dRaw,dRaw,dRaw,zoW,dRaw,zee,dRaw,zdZ,dRaw,dRaw,dRaw,dRaw,dRaw,dRaw,dRaw,dRaw,dRaw,dRaw,dRaw,dRaw,dRaw,dRaw,zoe,zvh,zwx,dRaw,dRaw,dRaw,dRaw,dRaw,dRaw,dRaw,dRaw,dRaw,dRaw,dRaw,dRaw,dRaw,dRaw,dRaw,dRaw,dRaw,dRaw,dRaw,dRaw,dRaw,dRaw,dRaw,dRaw,dRaw,zaW,dRaw,dRaw,dRaw,dRaw,dRaw,dRaw,dI_u32,dRaw,zoe,dRaw,dRaw,dRaw,dRaw,dRaw,dRaw,dRaw,dRaw,dRaw,dRaw,dRaw,dRaw,dRaw,dRaw,dRaw,dRaw,dRaw,dRaw,dRaw,zoe,dRaw,dRaw,dRaw,dRaw,dRaw,dRaw,dRaw,dRaw,dRaw,dRaw,dRaw,dRaw,dRaw,dRaw,dRaw,dRaw,dRaw,dRaw,dRaw,dRaw,dRaw,dRaw,dRaw,dRaw,dRaw,dRaw,dRaw,dI_u8,dI_u8,dRaw,dRaw,dI_i32,dI_i32,dRaw,dRaw,dRaw]
end Go.Proofs.YtikogkgdkdmljaaGreat
end
