/- The types of the seat as data. -/
import Derived.Test.YtikogkgdkdmljaaGreatAb9
set_option linter.unusedSimpArgs false
set_option linter.unusedVariables false
noncomputable section
namespace Go.Proofs.YtikogkgdkdmljaaGreat
open Go.Ab
def zcU:(List Int)→List AV:=fun x=>[.sl 1 (List.map zaW.enc x)]
abbrev zhj:TyD:=TyD.of (List Int) zcU (by
 intro x y h; simp only [zcU,zbj,AV.v.injEq,Value.int.injEq,Value.bool.injEq,Value.string.injEq,AV.sl.injEq,AV.mp.injEq,true_and,and_true,TyD.minj zaW] at h
 exact (h))
structure za6 where
 ID:Int
 Centre:Int
 Level:Int
 Capacity:Int
 Papers:List Int
theorem za6.eqOf {x y:za6} (h0:x.ID=y.ID) (h1:x.Centre=y.Centre) (h2:x.Level=y.Level) (h3:x.Capacity=y.Capacity) (h4:x.Papers=y.Papers):x=y:=by cases x; cases y; simp only at *; simp only [h0,h1,h2,h3,h4]
def za7:za6→List AV:=fun x=>[I x.ID,I x.Centre,I x.Level,I x.Capacity,.sl 1 (List.map zaW.enc x.Papers)]
abbrev zcJ:TyD:=TyD.of za6 za7 (by
 intro x y h; simp only [za7,zbj,AV.v.injEq,Value.int.injEq,Value.bool.injEq,Value.string.injEq,AV.sl.injEq,AV.mp.injEq,true_and,and_true,TyD.minj zaW] at h
 exact (za6.eqOf (h.1) (h.2.1) (h.2.2.1) (h.2.2.2.1) (h.2.2.2.2)))
def zxH:(List za6)→List AV:=fun x=>[.sl 5 (List.map zcJ.enc x)]
abbrev dL_GMarker:TyD:=TyD.of (List za6) zxH (by
 intro x y h; simp only [zxH,zbj,AV.v.injEq,Value.int.injEq,Value.bool.injEq,Value.string.injEq,AV.sl.injEq,AV.mp.injEq,true_and,and_true,TyD.minj zcJ] at h
 exact (h))
structure zaQ where
 Number:Int
 Paper:Int
 Candidate:Int
 Centre:Int
 Variant:Int
 Pages:List Int
 Answers:List Int
theorem zaQ.eqOf {x y:zaQ} (h0:x.Number=y.Number) (h1:x.Paper=y.Paper) (h2:x.Candidate=y.Candidate) (h3:x.Centre=y.Centre) (h4:x.Variant=y.Variant) (h5:x.Pages=y.Pages) (h6:x.Answers=y.Answers):x=y:=by cases x; cases y; simp only at *; simp only [h0,h1,h2,h3,h4,h5,h6]
def zaZ:zaQ→List AV:=fun x=>[I x.Number,I x.Paper,I x.Candidate,I x.Centre,I x.Variant,.sl 1 (List.map zaW.enc x.Pages),.sl 1 (List.map zaW.enc x.Answers)]
abbrev zb4:TyD:=TyD.of zaQ zaZ (by
 intro x y h; simp only [zaZ,zbj,AV.v.injEq,Value.int.injEq,Value.bool.injEq,Value.string.injEq,AV.sl.injEq,AV.mp.injEq,true_and,and_true,TyD.minj zaW] at h
 exact (zaQ.eqOf (h.1) (h.2.1) (h.2.2.1) (h.2.2.2.1) (h.2.2.2.2.1) (h.2.2.2.2.2.1) (h.2.2.2.2.2.2)))
def zxJ:(List zaQ)→List AV:=fun x=>[.sl 7 (List.map zb4.enc x)]
abbrev dL_GScript:TyD:=TyD.of (List zaQ) zxJ (by
 intro x y h; simp only [zxJ,zbj,AV.v.injEq,Value.int.injEq,Value.bool.injEq,Value.string.injEq,AV.sl.injEq,AV.mp.injEq,true_and,and_true,TyD.minj zb4] at h
 exact (h))
structure GPart where
 Kind:Int
 Max:Int
 Topic:Int
 Objective:Int
 Options:Int
 Key:Int
theorem GPart.eqOf {x y:GPart} (h0:x.Kind=y.Kind) (h1:x.Max=y.Max) (h2:x.Topic=y.Topic) (h3:x.Objective=y.Objective) (h4:x.Options=y.Options) (h5:x.Key=y.Key):x=y:=by cases x; cases y; simp only at *; simp only [h0,h1,h2,h3,h4,h5]
def zaP:GPart→List AV:=fun x=>[I x.Kind,I x.Max,I x.Topic,I x.Objective,I x.Options,I x.Key]
abbrev zdY:TyD:=TyD.of GPart zaP (by
 intro x y h; simp only [zaP,zbj,AV.v.injEq,Value.int.injEq,Value.bool.injEq,Value.string.injEq,AV.sl.injEq,AV.mp.injEq,true_and,and_true] at h
 exact (GPart.eqOf (h.1) (h.2.1) (h.2.2.1) (h.2.2.2.1) (h.2.2.2.2.1) (h.2.2.2.2.2)))
def nL_GPart:(List GPart)→List AV:=fun x=>[.sl 6 (List.map zdY.enc x)]
abbrev dL_GPart:TyD:=TyD.of (List GPart) nL_GPart (by
 intro x y h; simp only [nL_GPart,zbj,AV.v.injEq,Value.int.injEq,Value.bool.injEq,Value.string.injEq,AV.sl.injEq,AV.mp.injEq,true_and,and_true,TyD.minj zdY] at h
 exact (h))
structure zaG where
 Code:Int
 Variant:Int
 Parts:List GPart
theorem zaG.eqOf {x y:zaG} (h0:x.Code=y.Code) (h1:x.Variant=y.Variant) (h2:x.Parts=y.Parts):x=y:=by cases x; cases y; simp only at *; simp only [h0,h1,h2]
def zaJ:zaG→List AV:=fun x=>[I x.Code,I x.Variant,.sl 6 (List.map zdY.enc x.Parts)]
abbrev zb2:TyD:=TyD.of zaG zaJ (by
 intro x y h; simp only [zaJ,zbj,AV.v.injEq,Value.int.injEq,Value.bool.injEq,Value.string.injEq,AV.sl.injEq,AV.mp.injEq,true_and,and_true,TyD.minj zdY] at h
 exact (zaG.eqOf (h.1) (h.2.1) (h.2.2)))
def zyP:(List zaG)→List AV:=fun x=>[.sl 3 (List.map zb2.enc x)]
abbrev dL_GPaper:TyD:=TyD.of (List zaG) zyP (by
 intro x y h; simp only [zyP,zbj,AV.v.injEq,Value.int.injEq,Value.bool.injEq,Value.string.injEq,AV.sl.injEq,AV.mp.injEq,true_and,and_true,TyD.minj zb2] at h
 exact (h))
def zxK:(List (List Int))→List AV:=fun x=>[.sl 1 (List.map zhj.enc x)]
abbrev dL_L_I_i64:TyD:=TyD.of (List (List Int)) zxK (by
 intro x y h; simp only [zxK,zbj,AV.v.injEq,Value.int.injEq,Value.bool.injEq,Value.string.injEq,AV.sl.injEq,AV.mp.injEq,true_and,and_true,TyD.minj zhj] at h
 exact (h))
structure zbt where
 Keys:List (List Int)
 Withdrawn:List Int
theorem zbt.eqOf {x y:zbt} (h0:x.Keys=y.Keys) (h1:x.Withdrawn=y.Withdrawn):x=y:=by cases x; cases y; simp only at *; simp only [h0,h1]
def zbX:zbt→List AV:=fun x=>[.sl 1 (List.map zhj.enc x.Keys),.sl 1 (List.map zaW.enc x.Withdrawn)]
abbrev zdC:TyD:=TyD.of zbt zbX (by
 intro x y h; simp only [zbX,zbj,AV.v.injEq,Value.int.injEq,Value.bool.injEq,Value.string.injEq,AV.sl.injEq,AV.mp.injEq,true_and,and_true,TyD.minj zaW,TyD.minj zhj] at h
 exact (zbt.eqOf (h.1) (h.2)))
def zxI:(List zbt)→List AV:=fun x=>[.sl 2 (List.map zdC.enc x)]
abbrev dL_GScheme:TyD:=TyD.of (List zbt) zxI (by
 intro x y h; simp only [zxI,zbj,AV.v.injEq,Value.int.injEq,Value.bool.injEq,Value.string.injEq,AV.sl.injEq,AV.mp.injEq,true_and,and_true,TyD.minj zdC] at h
 exact (h))
structure GSeed where
 Script:Int
 Marks:List Int
theorem GSeed.eqOf {x y:GSeed} (h0:x.Script=y.Script) (h1:x.Marks=y.Marks):x=y:=by cases x; cases y; simp only at *; simp only [h0,h1]
def zcd:GSeed→List AV:=fun x=>[I x.Script,.sl 1 (List.map zaW.enc x.Marks)]
abbrev zfb:TyD:=TyD.of GSeed zcd (by
 intro x y h; simp only [zcd,zbj,AV.v.injEq,Value.int.injEq,Value.bool.injEq,Value.string.injEq,AV.sl.injEq,AV.mp.injEq,true_and,and_true,TyD.minj zaW] at h
 exact (GSeed.eqOf (h.1) (h.2)))
def nL_GSeed:(List GSeed)→List AV:=fun x=>[.sl 2 (List.map zfb.enc x)]
abbrev dL_GSeed:TyD:=TyD.of (List GSeed) nL_GSeed (by
 intro x y h; simp only [nL_GSeed,zbj,AV.v.injEq,Value.int.injEq,Value.bool.injEq,Value.string.injEq,AV.sl.injEq,AV.mp.injEq,true_and,and_true,TyD.minj zfb] at h
 exact (h))
structure za4 where
 Part:Int
 Total:Int
 Window:Int
 Fails:Int
theorem za4.eqOf {x y:za4} (h0:x.Part=y.Part) (h1:x.Total=y.Total) (h2:x.Window=y.Window) (h3:x.Fails=y.Fails):x=y:=by cases x; cases y; simp only at *; simp only [h0,h1,h2,h3]
def zbF:za4→List AV:=fun x=>[I x.Part,I x.Total,I x.Window,I x.Fails]
abbrev ziV:TyD:=TyD.of za4 zbF (by
 intro x y h; simp only [zbF,zbj,AV.v.injEq,Value.int.injEq,Value.bool.injEq,Value.string.injEq,AV.sl.injEq,AV.mp.injEq,true_and,and_true] at h
 exact (za4.eqOf (h.1) (h.2.1) (h.2.2.1) (h.2.2.2)))
structure zaB where
 Markers:List za6
 Scripts:List zaQ
 Papers:List zaG
 Schemes:List zbt
 Seeds:List GSeed
 Monitor:za4
theorem zaB.eqOf {x y:zaB} (h0:x.Markers=y.Markers) (h1:x.Scripts=y.Scripts) (h2:x.Papers=y.Papers) (h3:x.Schemes=y.Schemes) (h4:x.Seeds=y.Seeds) (h5:x.Monitor=y.Monitor):x=y:=by cases x; cases y; simp only at *; simp only [h0,h1,h2,h3,h4,h5]
def zaq:zaB→List AV:=fun x=>[.sl 5 (List.map zcJ.enc x.Markers),.sl 7 (List.map zb4.enc x.Scripts),.sl 3 (List.map zb2.enc x.Papers),.sl 2 (List.map zdC.enc x.Schemes),.sl 2 (List.map zfb.enc x.Seeds),I x.Monitor.Part,I x.Monitor.Total,I x.Monitor.Window,I x.Monitor.Fails]
abbrev zgK:TyD:=TyD.of zaB zaq (by
 intro x y h; simp only [zaq,zbj,AV.v.injEq,Value.int.injEq,Value.bool.injEq,Value.string.injEq,AV.sl.injEq,AV.mp.injEq,true_and,and_true,TyD.minj zcJ,TyD.minj zb2,TyD.minj zdC,TyD.minj zb4,TyD.minj zfb] at h
 exact (zaB.eqOf (h.1) (h.2.1) (h.2.2.1) (h.2.2.2.1) (h.2.2.2.2.1) (za4.eqOf (h.2.2.2.2.2.1) (h.2.2.2.2.2.2.1) (h.2.2.2.2.2.2.2.1) (h.2.2.2.2.2.2.2.2))))
structure zaM where
 Time:Int
 Source:Int
 Seq:Int
theorem zaM.eqOf {x y:zaM} (h0:x.Time=y.Time) (h1:x.Source=y.Source) (h2:x.Seq=y.Seq):x=y:=by cases x; cases y; simp only at *; simp only [h0,h1,h2]
def zbB:zaM→List AV:=fun x=>[I x.Time,I x.Source,I x.Seq]
abbrev zl8:TyD:=TyD.of zaM zbB (by
 intro x y h; simp only [zbB,zbj,AV.v.injEq,Value.int.injEq,Value.bool.injEq,Value.string.injEq,AV.sl.injEq,AV.mp.injEq,true_and,and_true] at h
 exact (zaM.eqOf (h.1) (h.2.1) (h.2.2)))
structure zab where
 Stamp:zaM
 Kind:Int
 Script:Int
 Part:Int
 Value:Int
 Marker:Int
 Pages:List Int
theorem zab.eqOf {x y:zab} (h0:x.Stamp=y.Stamp) (h1:x.Kind=y.Kind) (h2:x.Script=y.Script) (h3:x.Part=y.Part) (h4:x.Value=y.Value) (h5:x.Marker=y.Marker) (h6:x.Pages=y.Pages):x=y:=by cases x; cases y; simp only at *; simp only [h0,h1,h2,h3,h4,h5,h6]
def zaa:zab→List AV:=fun x=>[I x.Stamp.Time,I x.Stamp.Source,I x.Stamp.Seq,I x.Kind,I x.Script,I x.Part,I x.Value,I x.Marker,.sl 1 (List.map zaW.enc x.Pages)]
abbrev zar:TyD:=TyD.of zab zaa (by
 intro x y h; simp only [zaa,zbj,AV.v.injEq,Value.int.injEq,Value.bool.injEq,Value.string.injEq,AV.sl.injEq,AV.mp.injEq,true_and,and_true,TyD.minj zaW] at h
 exact (zab.eqOf (zaM.eqOf (h.1) (h.2.1) (h.2.2.1)) (h.2.2.2.1) (h.2.2.2.2.1) (h.2.2.2.2.2.1) (h.2.2.2.2.2.2.1) (h.2.2.2.2.2.2.2.1) (h.2.2.2.2.2.2.2.2)))
def zta:(List zab)→List AV:=fun x=>[.sl 9 (List.map zar.enc x)]
abbrev zzg:TyD:=TyD.of (List zab) zta (by
 intro x y h; simp only [zta,zbj,AV.v.injEq,Value.int.injEq,Value.bool.injEq,Value.string.injEq,AV.sl.injEq,AV.mp.injEq,true_and,and_true,TyD.minj zar] at h
 exact (h))
structure zbH where
 Script:Int
 Part:Int
 Marker:Int
 Level:Int
 Value:Int
 Stamp:zaM
theorem zbH.eqOf {x y:zbH} (h0:x.Script=y.Script) (h1:x.Part=y.Part) (h2:x.Marker=y.Marker) (h3:x.Level=y.Level) (h4:x.Value=y.Value) (h5:x.Stamp=y.Stamp):x=y:=by cases x; cases y; simp only at *; simp only [h0,h1,h2,h3,h4,h5]
def zbr:zbH→List AV:=fun x=>[I x.Script,I x.Part,I x.Marker,I x.Level,I x.Value,I x.Stamp.Time,I x.Stamp.Source,I x.Stamp.Seq]
abbrev zb9:TyD:=TyD.of zbH zbr (by
 intro x y h; simp only [zbr,zbj,AV.v.injEq,Value.int.injEq,Value.bool.injEq,Value.string.injEq,AV.sl.injEq,AV.mp.injEq,true_and,and_true] at h
 exact (zbH.eqOf (h.1) (h.2.1) (h.2.2.1) (h.2.2.2.1) (h.2.2.2.2.1) (zaM.eqOf (h.2.2.2.2.2.1) (h.2.2.2.2.2.2.1) (h.2.2.2.2.2.2.2))))
def zyO:(List zbH)→List AV:=fun x=>[.sl 8 (List.map zb9.enc x)]
abbrev dL_GGiven:TyD:=TyD.of (List zbH) zyO (by
 intro x y h; simp only [zyO,zbj,AV.v.injEq,Value.int.injEq,Value.bool.injEq,Value.string.injEq,AV.sl.injEq,AV.mp.injEq,true_and,and_true,TyD.minj zb9] at h
 exact (h))
structure zbd where
 Marker:Int
 Good:zaM
 At:zaM
 Until:zaM
 First:Bool
 Lifted:Bool
theorem zbd.eqOf {x y:zbd} (h0:x.Marker=y.Marker) (h1:x.Good=y.Good) (h2:x.At=y.At) (h3:x.Until=y.Until) (h4:x.First=y.First) (h5:x.Lifted=y.Lifted):x=y:=by cases x; cases y; simp only at *; simp only [h0,h1,h2,h3,h4,h5]
def zag:zbd→List AV:=fun x=>[I x.Marker,I x.Good.Time,I x.Good.Source,I x.Good.Seq,I x.At.Time,I x.At.Source,I x.At.Seq,I x.Until.Time,I x.Until.Source,I x.Until.Seq,B x.First,B x.Lifted]
abbrev zcc:TyD:=TyD.of zbd zag (by
 intro x y h; simp only [zag,zbj,AV.v.injEq,Value.int.injEq,Value.bool.injEq,Value.string.injEq,AV.sl.injEq,AV.mp.injEq,true_and,and_true] at h
 exact (zbd.eqOf (h.1) (zaM.eqOf (h.2.1) (h.2.2.1) (h.2.2.2.1)) (zaM.eqOf (h.2.2.2.2.1) (h.2.2.2.2.2.1) (h.2.2.2.2.2.2.1)) (zaM.eqOf (h.2.2.2.2.2.2.2.1) (h.2.2.2.2.2.2.2.2.1) (h.2.2.2.2.2.2.2.2.2.1)) (h.2.2.2.2.2.2.2.2.2.2.1) (h.2.2.2.2.2.2.2.2.2.2.2)))
def zrE:(List zbd)→List AV:=fun x=>[.sl 12 (List.map zcc.enc x)]
abbrev zx9:TyD:=TyD.of (List zbd) zrE (by
 intro x y h; simp only [zrE,zbj,AV.v.injEq,Value.int.injEq,Value.bool.injEq,Value.string.injEq,AV.sl.injEq,AV.mp.injEq,true_and,and_true,TyD.minj zcc] at h
 exact (h))
structure zbL where
 Given:List zbH
 Suspensions:List zbd
theorem zbL.eqOf {x y:zbL} (h0:x.Given=y.Given) (h1:x.Suspensions=y.Suspensions):x=y:=by cases x; cases y; simp only at *; simp only [h0,h1]
def zb7:zbL→List AV:=fun x=>[.sl 8 (List.map zb9.enc x.Given),.sl 12 (List.map zcc.enc x.Suspensions)]
abbrev zgQ:TyD:=TyD.of zbL zb7 (by
 intro x y h; simp only [zb7,zbj,AV.v.injEq,Value.int.injEq,Value.bool.injEq,Value.string.injEq,AV.sl.injEq,AV.mp.injEq,true_and,and_true,TyD.minj zb9,TyD.minj zcc] at h
 exact (zbL.eqOf (h.1) (h.2)))
def zyN:(Int×Int×Int)→List AV:=fun x=>[I x.1,I x.2.1,I x.2.2]
abbrev ztV:TyD:=TyD.of (Int×Int×Int) zyN (by
 intro x y h; simp only [zyN,zbj,AV.v.injEq,Value.int.injEq,Value.bool.injEq,Value.string.injEq,AV.sl.injEq,AV.mp.injEq,true_and,and_true] at h
 exact (zeJ (h.1) (zeJ (h.2.1) (h.2.2))))
def zve:((Int×Int×Int)×Int)→List AV:=fun x=>[.agg (ztV.enc x.1),I x.2]
abbrev zoE:TyD:=TyD.of ((Int×Int×Int)×Int) zve (by
 intro x y h; have h1:=(zcS h).1; have h2:=(zcS (zcS h).2).1
 exact zeJ (ztV.inj (AV.agg.inj h1)) (by simpa using h2))
def zoH:(List ((Int×Int×Int)×Int))→List AV:=fun x=>[.mp (List.map zoE.enc x)]
abbrev zu3:TyD:=TyD.of (List ((Int×Int×Int)×Int)) zoH (by
 intro x y h; simp only [zoH,zbj,AV.v.injEq,Value.int.injEq,Value.bool.injEq,Value.string.injEq,AV.sl.injEq,AV.mp.injEq,true_and,and_true,TyD.minj zoE] at h
 exact (h))
structure GTask where
 Script:Int
 Marker:Int
theorem GTask.eqOf {x y:GTask} (h0:x.Script=y.Script) (h1:x.Marker=y.Marker):x=y:=by cases x; cases y; simp only at *; simp only [h0,h1]
def zfH:GTask→List AV:=fun x=>[I x.Script,I x.Marker]
abbrev zc6:TyD:=TyD.of GTask zfH (by
 intro x y h; simp only [zfH,zbj,AV.v.injEq,Value.int.injEq,Value.bool.injEq,Value.string.injEq,AV.sl.injEq,AV.mp.injEq,true_and,and_true] at h
 exact (GTask.eqOf (h.1) (h.2)))
def nL_GTask:(List GTask)→List AV:=fun x=>[.sl 2 (List.map zc6.enc x)]
abbrev dL_GTask:TyD:=TyD.of (List GTask) nL_GTask (by
 intro x y h; simp only [nL_GTask,zbj,AV.v.injEq,Value.int.injEq,Value.bool.injEq,Value.string.injEq,AV.sl.injEq,AV.mp.injEq,true_and,and_true,TyD.minj zc6] at h
 exact (h))
structure zae where
 L:List Int
 At:Int
theorem zae.eqOf {x y:zae} (h0:x.L=y.L) (h1:x.At=y.At):x=y:=by cases x; cases y; simp only at *; simp only [h0,h1]
def zap:zae→List AV:=fun x=>[.sl 1 (List.map zaW.enc x.L),I x.At]
abbrev zaY:TyD:=TyD.of zae zap (by
 intro x y h; simp only [zap,zbj,AV.v.injEq,Value.int.injEq,Value.bool.injEq,Value.string.injEq,AV.sl.injEq,AV.mp.injEq,true_and,and_true,TyD.minj zaW] at h
 exact (zae.eqOf (h.1) (h.2)))
structure zaw where
 script:Int
 part:Int
theorem zaw.eqOf {x y:zaw} (h0:x.script=y.script) (h1:x.part=y.part):x=y:=by cases x; cases y; simp only at *; simp only [h0,h1]
def zbe:zaw→List AV:=fun x=>[I x.script,I x.part]
abbrev zcO:TyD:=TyD.of zaw zbe (by
 intro x y h; simp only [zbe,zbj,AV.v.injEq,Value.int.injEq,Value.bool.injEq,Value.string.injEq,AV.sl.injEq,AV.mp.injEq,true_and,and_true] at h
 exact (zaw.eqOf (h.1) (h.2)))
def zal:(zaw×zaM)→List AV:=fun x=>[.agg (zcO.enc x.1),.agg (zl8.enc x.2)]
abbrev zc5:TyD:=TyD.of (zaw×zaM) zal (by
 intro x y h; have h1:=(zcS h).1; have h2:=(zcS (zcS h).2).1
 exact zeJ (zcO.inj (AV.agg.inj h1)) (zl8.inj (AV.agg.inj h2)))
def zkh:(List (zaw×zaM))→List AV:=fun x=>[.mp (List.map zc5.enc x)]
abbrev zpH:TyD:=TyD.of (List (zaw×zaM)) zkh (by
 intro x y h; simp only [zkh,zbj,AV.v.injEq,Value.int.injEq,Value.bool.injEq,Value.string.injEq,AV.sl.injEq,AV.mp.injEq,true_and,and_true,TyD.minj zc5] at h
 exact (h))
structure zbn where
 event:zab
 void:Bool
theorem zbn.eqOf {x y:zbn} (h0:x.event=y.event) (h1:x.void=y.void):x=y:=by cases x; cases y; simp only at *; simp only [h0,h1]
def zaj:zbn→List AV:=fun x=>[I x.event.Stamp.Time,I x.event.Stamp.Source,I x.event.Stamp.Seq,I x.event.Kind,I x.event.Script,I x.event.Part,I x.event.Value,I x.event.Marker,.sl 1 (List.map zaW.enc x.event.Pages),B x.void]
abbrev zcB:TyD:=TyD.of zbn zaj (by
 intro x y h; simp only [zaj,zbj,AV.v.injEq,Value.int.injEq,Value.bool.injEq,Value.string.injEq,AV.sl.injEq,AV.mp.injEq,true_and,and_true,TyD.minj zaW] at h
 exact (zbn.eqOf (zab.eqOf (zaM.eqOf (h.1) (h.2.1) (h.2.2.1)) (h.2.2.2.1) (h.2.2.2.2.1) (h.2.2.2.2.2.1) (h.2.2.2.2.2.2.1) (h.2.2.2.2.2.2.2.1) (h.2.2.2.2.2.2.2.2.1)) (h.2.2.2.2.2.2.2.2.2)))
def zqo:(List zbn)→List AV:=fun x=>[.sl 10 (List.map zcB.enc x)]
abbrev zxh:TyD:=TyD.of (List zbn) zqo (by
 intro x y h; simp only [zqo,zbj,AV.v.injEq,Value.int.injEq,Value.bool.injEq,Value.string.injEq,AV.sl.injEq,AV.mp.injEq,true_and,and_true,TyD.minj zcB] at h
 exact (h))
def zas:(zaw×Int)→List AV:=fun x=>[.agg (zcO.enc x.1),I x.2]
abbrev zdf:TyD:=TyD.of (zaw×Int) zas (by
 intro x y h; have h1:=(zcS h).1; have h2:=(zcS (zcS h).2).1
 exact zeJ (zcO.inj (AV.agg.inj h1)) (by simpa using h2))
def zkW:(List (zaw×Int))→List AV:=fun x=>[.mp (List.map zdf.enc x)]
abbrev zp4:TyD:=TyD.of (List (zaw×Int)) zkW (by
 intro x y h; simp only [zkW,zbj,AV.v.injEq,Value.int.injEq,Value.bool.injEq,Value.string.injEq,AV.sl.injEq,AV.mp.injEq,true_and,and_true,TyD.minj zdf] at h
 exact (h))
def nL_Bool:(List Bool)→List AV:=fun x=>[.sl 1 (List.map dBool.enc x)]
abbrev dL_Bool:TyD:=TyD.of (List Bool) nL_Bool (by
 intro x y h; simp only [nL_Bool,zbj,AV.v.injEq,Value.int.injEq,Value.bool.injEq,Value.string.injEq,AV.sl.injEq,AV.mp.injEq,true_and,and_true,TyD.minj dBool] at h
 exact (h))
structure zda where
 Last:List Bool
 Suspended:Bool
theorem zda.eqOf {x y:zda} (h0:x.Last=y.Last) (h1:x.Suspended=y.Suspended):x=y:=by cases x; cases y; simp only at *; simp only [h0,h1]
def zje:zda→List AV:=fun x=>[.sl 1 (List.map dBool.enc x.Last),B x.Suspended]
abbrev zrq:TyD:=TyD.of zda zje (by
 intro x y h; simp only [zje,zbj,AV.v.injEq,Value.int.injEq,Value.bool.injEq,Value.string.injEq,AV.sl.injEq,AV.mp.injEq,true_and,and_true,TyD.minj dBool] at h
 exact (zda.eqOf (h.1) (h.2)))
structure zai where
 level:Int
 marks:List zbn
 period:Int
 started:zaM
 noted:List (zaw×Int)
 watch:zda
 good:zaM
 some:Bool
 suspensions:List zbd
theorem zai.eqOf {x y:zai} (h0:x.level=y.level) (h1:x.marks=y.marks) (h2:x.period=y.period) (h3:x.started=y.started) (h4:x.noted=y.noted) (h5:x.watch=y.watch) (h6:x.good=y.good) (h7:x.some=y.some) (h8:x.suspensions=y.suspensions):x=y:=by cases x; cases y; simp only at *; simp only [h0,h1,h2,h3,h4,h5,h6,h7,h8]
def zc1:zai→List AV:=fun x=>[I x.level,.sl 10 (List.map zcB.enc x.marks),I x.period,I x.started.Time,I x.started.Source,I x.started.Seq,.mp (List.map zdf.enc x.noted),.sl 1 (List.map dBool.enc x.watch.Last),B x.watch.Suspended,I x.good.Time,I x.good.Source,I x.good.Seq,B x.some,.sl 12 (List.map zcc.enc x.suspensions)]
abbrev ze4:TyD:=TyD.of zai zc1 (by
 intro x y h; simp only [zc1,zbj,AV.v.injEq,Value.int.injEq,Value.bool.injEq,Value.string.injEq,AV.sl.injEq,AV.mp.injEq,true_and,and_true,TyD.minj dBool,TyD.minj zdf,TyD.minj zcc,TyD.minj zcB] at h
 exact (zai.eqOf (h.1) (h.2.1) (h.2.2.1) (zaM.eqOf (h.2.2.2.1) (h.2.2.2.2.1) (h.2.2.2.2.2.1)) (h.2.2.2.2.2.2.1) (zda.eqOf (h.2.2.2.2.2.2.2.1) (h.2.2.2.2.2.2.2.2.1)) (zaM.eqOf (h.2.2.2.2.2.2.2.2.2.1) (h.2.2.2.2.2.2.2.2.2.2.1) (h.2.2.2.2.2.2.2.2.2.2.2.1)) (h.2.2.2.2.2.2.2.2.2.2.2.2.1) (h.2.2.2.2.2.2.2.2.2.2.2.2.2)))
def zbA:(zaw×zab)→List AV:=fun x=>[.agg (zcO.enc x.1),.agg (zar.enc x.2)]
abbrev zcA:TyD:=TyD.of (zaw×zab) zbA (by
 intro x y h; have h1:=(zcS h).1; have h2:=(zcS (zcS h).2).1
 exact zeJ (zcO.inj (AV.agg.inj h1)) (zar.inj (AV.agg.inj h2)))
def zhS:(List (zaw×zab))→List AV:=fun x=>[.mp (List.map zcA.enc x)]
abbrev znq:TyD:=TyD.of (List (zaw×zab)) zhS (by
 intro x y h; simp only [zhS,zbj,AV.v.injEq,Value.int.injEq,Value.bool.injEq,Value.string.injEq,AV.sl.injEq,AV.mp.injEq,true_and,and_true,TyD.minj zcA] at h
 exact (h))
def zbK:(Int×Int)→List AV:=fun x=>[I x.1,I x.2]
abbrev zd8:TyD:=TyD.of (Int×Int) zbK (by
 intro x y h; simp only [zbK,zbj,AV.v.injEq,Value.int.injEq,Value.bool.injEq,Value.string.injEq,AV.sl.injEq,AV.mp.injEq,true_and,and_true] at h
 exact (zeJ (h.1) (h.2)))
structure za0 where
 first:Int
 disputed:Bool
theorem za0.eqOf {x y:za0} (h0:x.first=y.first) (h1:x.disputed=y.disputed):x=y:=by cases x; cases y; simp only at *; simp only [h0,h1]
def zbC:za0→List AV:=fun x=>[I x.first,B x.disputed]
abbrev zdT:TyD:=TyD.of za0 zbC (by
 intro x y h; simp only [zbC,zbj,AV.v.injEq,Value.int.injEq,Value.bool.injEq,Value.string.injEq,AV.sl.injEq,AV.mp.injEq,true_and,and_true] at h
 exact (za0.eqOf (h.1) (h.2)))
def zby:((Int×Int)×za0)→List AV:=fun x=>[.agg (zd8.enc x.1),.agg (zdT.enc x.2)]
abbrev zbV:TyD:=TyD.of ((Int×Int)×za0) zby (by
 intro x y h; have h1:=(zcS h).1; have h2:=(zcS (zcS h).2).1
 exact zeJ (zd8.inj (AV.agg.inj h1)) (zdT.inj (AV.agg.inj h2)))
def zjF:(List ((Int×Int)×za0))→List AV:=fun x=>[.mp (List.map zbV.enc x)]
abbrev zoN:TyD:=TyD.of (List ((Int×Int)×za0)) zjF (by
 intro x y h; simp only [zjF,zbj,AV.v.injEq,Value.int.injEq,Value.bool.injEq,Value.string.injEq,AV.sl.injEq,AV.mp.injEq,true_and,and_true,TyD.minj zbV] at h
 exact (h))
def zdA:((Int×Int)×Int)→List AV:=fun x=>[.agg (zd8.enc x.1),I x.2]
abbrev ze2:TyD:=TyD.of ((Int×Int)×Int) zdA (by
 intro x y h; have h1:=(zcS h).1; have h2:=(zcS (zcS h).2).1
 exact zeJ (zd8.inj (AV.agg.inj h1)) (by simpa using h2))
def zoG:(List ((Int×Int)×Int))→List AV:=fun x=>[.mp (List.map ze2.enc x)]
abbrev zu2:TyD:=TyD.of (List ((Int×Int)×Int)) zoG (by
 intro x y h; simp only [zoG,zbj,AV.v.injEq,Value.int.injEq,Value.bool.injEq,Value.string.injEq,AV.sl.injEq,AV.mp.injEq,true_and,and_true,TyD.minj ze2] at h
 exact (h))
def zdM:((Int×Int)×Bool)→List AV:=fun x=>[.agg (zd8.enc x.1),B x.2]
abbrev zfm:TyD:=TyD.of ((Int×Int)×Bool) zdM (by
 intro x y h; have h1:=(zcS h).1; have h2:=(zcS (zcS h).2).1
 exact zeJ (zd8.inj (AV.agg.inj h1)) (by simpa using h2))
def zpU:(List ((Int×Int)×Bool))→List AV:=fun x=>[.mp (List.map zfm.enc x)]
abbrev zwi:TyD:=TyD.of (List ((Int×Int)×Bool)) zpU (by
 intro x y h; simp only [zpU,zbj,AV.v.injEq,Value.int.injEq,Value.bool.injEq,Value.string.injEq,AV.sl.injEq,AV.mp.injEq,true_and,and_true,TyD.minj zfm] at h
 exact (h))
@[simp] theorem zmx {β:Type} (l:List zbH) (i:Nat) (k:zbH→Option β):elemD zb9 (List.map zbr l) i k=(l[i]?).bind k:=zdU zb9 l i k
@[simp] theorem zbq {β:Type} (l:List zab) (i:Nat) (k:zab→Option β):elemD zar (List.map zaa l) i k=(l[i]?).bind k:=zdU zar l i k
@[simp] theorem ze5 {β:Type} (l:List za6) (i:Nat) (k:za6→Option β):elemD zcJ (List.map za7 l) i k=(l[i]?).bind k:=zdU zcJ l i k
@[simp] theorem zfE {β:Type} (l:List zaG) (i:Nat) (k:zaG→Option β):elemD zb2 (List.map zaJ l) i k=(l[i]?).bind k:=zdU zb2 l i k
@[simp] theorem zej {β:Type} (l:List GPart) (i:Nat) (k:GPart→Option β):elemD zdY (List.map zaP l) i k=(l[i]?).bind k:=zdU zdY l i k
@[simp] theorem zzl {β:Type} (l:List zbt) (i:Nat) (k:zbt→Option β):elemD zdC (List.map zbX l) i k=(l[i]?).bind k:=zdU zdC l i k
@[simp] theorem zgL {β:Type} (l:List zaQ) (i:Nat) (k:zaQ→Option β):elemD zb4 (List.map zaZ l) i k=(l[i]?).bind k:=zdU zb4 l i k
@[simp] theorem zvw {β:Type} (l:List GSeed) (i:Nat) (k:GSeed→Option β):elemD zfb (List.map zcd l) i k=(l[i]?).bind k:=zdU zfb l i k
@[simp] theorem zd5 {β:Type} (l:List zbd) (i:Nat) (k:zbd→Option β):elemD zcc (List.map zag l) i k=(l[i]?).bind k:=zdU zcc l i k
@[simp] theorem zgR {β:Type} (l:List zbn) (i:Nat) (k:zbn→Option β):elemD zcB (List.map zaj l) i k=(l[i]?).bind k:=zdU zcB l i k
@[simp] theorem zzm {β:Type} (l:List (List Int)) (i:Nat) (k:(List Int)→Option β):elemD zhj (List.map zcU l) i k=(l[i]?).bind k:=zdU zhj l i k
def tyTab:List TyD:=[dRaw,dRaw,zaW,zaW,dBool,dI_u8,dI_u8,dRaw,dRaw,dStr,dStr,dStr,zn4,dRaw,dRaw,dRaw,dRaw,dRaw,dRaw,dRaw,dRaw,dI_i32,zhj,dRaw,dRaw,dRaw,dRaw,dL_GMarker,dL_GScript,dL_GPaper,dL_GScheme,dL_GSeed,dRaw,ziV,dRaw,zgK,dRaw,zzg,dRaw,dL_GGiven,zx9,dRaw,zgQ,zaW,dRaw,dRaw,dRaw,dRaw,dRaw,zl8,dRaw,zb9,dRaw,zb4,dRaw,dRaw,dRaw,dRaw,dRaw,dRaw,dRaw,zcc,dRaw,dRaw,zar,dRaw,dRaw,zcJ,zu3,dRaw,ztV,dRaw,dRaw,dRaw,dRaw,dRaw,dRaw,dL_GTask,dRaw,dRaw,dRaw,dRaw,zaY,dRaw,dRaw,dRaw,dRaw,dRaw,dRaw,dRaw,zfb,dRaw,dRaw,dL_GPart,dRaw,zb2,dRaw,dRaw,zdY,dRaw,dRaw,dRaw,dRaw,zpH,dRaw,dRaw,dRaw,zxh,zp4,dL_Bool,dRaw,zrq,dRaw,ze4,znq,dRaw,dRaw,zcO,dRaw,dRaw,dRaw,dRaw,dRaw,dRaw,dRaw,dRaw,dRaw,dRaw,dRaw,dL_L_I_i64,dRaw,zdC,dRaw,zcB,dRaw,dRaw,zc6,dRaw,dRaw,dRaw,dRaw,dRaw,dRaw,dRaw,dRaw,dRaw,dRaw,dRaw,dRaw,zoN,dRaw,zd8,dRaw,zdT,dRaw,dRaw,dRaw,dRaw,dRaw,dRaw,dRaw,dRaw,dRaw,dRaw,dRaw,dRaw,dRaw,dRaw,zn4,zu2,zwi,dRaw,dRaw,dRaw,dRaw,dRaw,dRaw,dRaw,dRaw,dRaw,dRaw,dRaw,dRaw,dRaw,dRaw,dRaw,dRaw,dRaw,dRaw,dRaw,dRaw,dRaw,dRaw,dRaw,dRaw,dRaw,zaW,dRaw,dRaw,dRaw,dRaw,dRaw,dRaw,dI_u32,dRaw,zn4,dRaw,dRaw,dRaw,dRaw,dRaw,dRaw,dRaw,dRaw,dRaw,dRaw,dRaw,dRaw,dRaw,dRaw,dRaw,dRaw,dRaw,dRaw,dRaw,zn4,dRaw,dRaw,dRaw,dRaw,dRaw,dRaw,dRaw,dRaw,dRaw,dRaw,dRaw,dRaw,dRaw,dRaw,dRaw,dRaw,dRaw,dRaw,dRaw,dRaw,dRaw,dRaw,dRaw,dRaw,dRaw,dRaw,dRaw,dI_u8,dI_u8,dRaw,dRaw,dI_i32,dI_i32,dRaw,dRaw,dRaw]
end Go.Proofs.YtikogkgdkdmljaaGreat
end
