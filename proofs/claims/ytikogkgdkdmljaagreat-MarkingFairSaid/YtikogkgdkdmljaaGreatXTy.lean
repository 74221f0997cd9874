/- The types of the seat as data. -/
import Derived.Test.YtikogkgdkdmljaaGreatAb9
set_option linter.unusedSimpArgs false
set_option linter.unusedVariables false
noncomputable section
namespace Go.Proofs.YtikogkgdkdmljaaGreat
open Go.Ab
def zcV:(List Int)→List AV:=fun x=>[.sl 1 (List.map zaW.enc x)]
abbrev zho:TyD:=TyD.of (List Int) zcV (by
 intro x y h; simp only [zcV,zbn,AV.v.injEq,Value.int.injEq,Value.bool.injEq,Value.string.injEq,AV.sl.injEq,AV.mp.injEq,true_and,and_true,TyD.minj zaW] at h
 exact (h))
structure zaZ where
 ID:Int
 Centre:Int
 Level:Int
 Capacity:Int
 Papers:List Int
theorem zaZ.eqOf {x y:zaZ} (h0:x.ID=y.ID) (h1:x.Centre=y.Centre) (h2:x.Level=y.Level) (h3:x.Capacity=y.Capacity) (h4:x.Papers=y.Papers):x=y:=by cases x; cases y; simp only at *; simp only [h0,h1,h2,h3,h4]
def zaU:zaZ→List AV:=fun x=>[I x.ID,I x.Centre,I x.Level,I x.Capacity,.sl 1 (List.map zaW.enc x.Papers)]
abbrev zcw:TyD:=TyD.of zaZ zaU (by
 intro x y h; simp only [zaU,zbn,AV.v.injEq,Value.int.injEq,Value.bool.injEq,Value.string.injEq,AV.sl.injEq,AV.mp.injEq,true_and,and_true,TyD.minj zaW] at h
 exact (zaZ.eqOf (h.1) (h.2.1) (h.2.2.1) (h.2.2.2.1) (h.2.2.2.2)))
def zx6:(List zaZ)→List AV:=fun x=>[.sl 5 (List.map zcw.enc x)]
abbrev dL_GMarker:TyD:=TyD.of (List zaZ) zx6 (by
 intro x y h; simp only [zx6,zbn,AV.v.injEq,Value.int.injEq,Value.bool.injEq,Value.string.injEq,AV.sl.injEq,AV.mp.injEq,true_and,and_true,TyD.minj zcw] at h
 exact (h))
structure zaH where
 Number:Int
 Paper:Int
 Candidate:Int
 Centre:Int
 Variant:Int
 Pages:List Int
 Answers:List Int
theorem zaH.eqOf {x y:zaH} (h0:x.Number=y.Number) (h1:x.Paper=y.Paper) (h2:x.Candidate=y.Candidate) (h3:x.Centre=y.Centre) (h4:x.Variant=y.Variant) (h5:x.Pages=y.Pages) (h6:x.Answers=y.Answers):x=y:=by cases x; cases y; simp only at *; simp only [h0,h1,h2,h3,h4,h5,h6]
def zaO:zaH→List AV:=fun x=>[I x.Number,I x.Paper,I x.Candidate,I x.Centre,I x.Variant,.sl 1 (List.map zaW.enc x.Pages),.sl 1 (List.map zaW.enc x.Answers)]
abbrev zb5:TyD:=TyD.of zaH zaO (by
 intro x y h; simp only [zaO,zbn,AV.v.injEq,Value.int.injEq,Value.bool.injEq,Value.string.injEq,AV.sl.injEq,AV.mp.injEq,true_and,and_true,TyD.minj zaW] at h
 exact (zaH.eqOf (h.1) (h.2.1) (h.2.2.1) (h.2.2.2.1) (h.2.2.2.2.1) (h.2.2.2.2.2.1) (h.2.2.2.2.2.2)))
def zx8:(List zaH)→List AV:=fun x=>[.sl 7 (List.map zb5.enc x)]
abbrev dL_GScript:TyD:=TyD.of (List zaH) zx8 (by
 intro x y h; simp only [zx8,zbn,AV.v.injEq,Value.int.injEq,Value.bool.injEq,Value.string.injEq,AV.sl.injEq,AV.mp.injEq,true_and,and_true,TyD.minj zb5] at h
 exact (h))
structure GPart where
 Kind:Int
 Max:Int
 Topic:Int
 Objective:Int
 Options:Int
 Key:Int
theorem GPart.eqOf {x y:GPart} (h0:x.Kind=y.Kind) (h1:x.Max=y.Max) (h2:x.Topic=y.Topic) (h3:x.Objective=y.Objective) (h4:x.Options=y.Options) (h5:x.Key=y.Key):x=y:=by cases x; cases y; simp only at *; simp only [h0,h1,h2,h3,h4,h5]
def zaS:GPart→List AV:=fun x=>[I x.Kind,I x.Max,I x.Topic,I x.Objective,I x.Options,I x.Key]
abbrev zd3:TyD:=TyD.of GPart zaS (by
 intro x y h; simp only [zaS,zbn,AV.v.injEq,Value.int.injEq,Value.bool.injEq,Value.string.injEq,AV.sl.injEq,AV.mp.injEq,true_and,and_true] at h
 exact (GPart.eqOf (h.1) (h.2.1) (h.2.2.1) (h.2.2.2.1) (h.2.2.2.2.1) (h.2.2.2.2.2)))
def nL_GPart:(List GPart)→List AV:=fun x=>[.sl 6 (List.map zd3.enc x)]
abbrev dL_GPart:TyD:=TyD.of (List GPart) nL_GPart (by
 intro x y h; simp only [nL_GPart,zbn,AV.v.injEq,Value.int.injEq,Value.bool.injEq,Value.string.injEq,AV.sl.injEq,AV.mp.injEq,true_and,and_true,TyD.minj zd3] at h
 exact (h))
structure zaG where
 Code:Int
 Variant:Int
 Parts:List GPart
theorem zaG.eqOf {x y:zaG} (h0:x.Code=y.Code) (h1:x.Variant=y.Variant) (h2:x.Parts=y.Parts):x=y:=by cases x; cases y; simp only at *; simp only [h0,h1,h2]
def zaK:zaG→List AV:=fun x=>[I x.Code,I x.Variant,.sl 6 (List.map zd3.enc x.Parts)]
abbrev zca:TyD:=TyD.of zaG zaK (by
 intro x y h; simp only [zaK,zbn,AV.v.injEq,Value.int.injEq,Value.bool.injEq,Value.string.injEq,AV.sl.injEq,AV.mp.injEq,true_and,and_true,TyD.minj zd3] at h
 exact (zaG.eqOf (h.1) (h.2.1) (h.2.2)))
def zzj:(List zaG)→List AV:=fun x=>[.sl 3 (List.map zca.enc x)]
abbrev dL_GPaper:TyD:=TyD.of (List zaG) zzj (by
 intro x y h; simp only [zzj,zbn,AV.v.injEq,Value.int.injEq,Value.bool.injEq,Value.string.injEq,AV.sl.injEq,AV.mp.injEq,true_and,and_true,TyD.minj zca] at h
 exact (h))
def zx9:(List (List Int))→List AV:=fun x=>[.sl 1 (List.map zho.enc x)]
abbrev dL_L_I_i64:TyD:=TyD.of (List (List Int)) zx9 (by
 intro x y h; simp only [zx9,zbn,AV.v.injEq,Value.int.injEq,Value.bool.injEq,Value.string.injEq,AV.sl.injEq,AV.mp.injEq,true_and,and_true,TyD.minj zho] at h
 exact (h))
structure zbt where
 Keys:List (List Int)
 Withdrawn:List Int
theorem zbt.eqOf {x y:zbt} (h0:x.Keys=y.Keys) (h1:x.Withdrawn=y.Withdrawn):x=y:=by cases x; cases y; simp only at *; simp only [h0,h1]
def zb0:zbt→List AV:=fun x=>[.sl 1 (List.map zho.enc x.Keys),.sl 1 (List.map zaW.enc x.Withdrawn)]
abbrev zdE:TyD:=TyD.of zbt zb0 (by
 intro x y h; simp only [zb0,zbn,AV.v.injEq,Value.int.injEq,Value.bool.injEq,Value.string.injEq,AV.sl.injEq,AV.mp.injEq,true_and,and_true,TyD.minj zaW,TyD.minj zho] at h
 exact (zbt.eqOf (h.1) (h.2)))
def zx7:(List zbt)→List AV:=fun x=>[.sl 2 (List.map zdE.enc x)]
abbrev dL_GScheme:TyD:=TyD.of (List zbt) zx7 (by
 intro x y h; simp only [zx7,zbn,AV.v.injEq,Value.int.injEq,Value.bool.injEq,Value.string.injEq,AV.sl.injEq,AV.mp.injEq,true_and,and_true,TyD.minj zdE] at h
 exact (h))
structure GSeed where
 Script:Int
 Marks:List Int
theorem GSeed.eqOf {x y:GSeed} (h0:x.Script=y.Script) (h1:x.Marks=y.Marks):x=y:=by cases x; cases y; simp only at *; simp only [h0,h1]
def zbY:GSeed→List AV:=fun x=>[I x.Script,.sl 1 (List.map zaW.enc x.Marks)]
abbrev zeB:TyD:=TyD.of GSeed zbY (by
 intro x y h; simp only [zbY,zbn,AV.v.injEq,Value.int.injEq,Value.bool.injEq,Value.string.injEq,AV.sl.injEq,AV.mp.injEq,true_and,and_true,TyD.minj zaW] at h
 exact (GSeed.eqOf (h.1) (h.2)))
def nL_GSeed:(List GSeed)→List AV:=fun x=>[.sl 2 (List.map zeB.enc x)]
abbrev dL_GSeed:TyD:=TyD.of (List GSeed) nL_GSeed (by
 intro x y h; simp only [nL_GSeed,zbn,AV.v.injEq,Value.int.injEq,Value.bool.injEq,Value.string.injEq,AV.sl.injEq,AV.mp.injEq,true_and,and_true,TyD.minj zeB] at h
 exact (h))
structure za7 where
 Part:Int
 Total:Int
 Window:Int
 Fails:Int
theorem za7.eqOf {x y:za7} (h0:x.Part=y.Part) (h1:x.Total=y.Total) (h2:x.Window=y.Window) (h3:x.Fails=y.Fails):x=y:=by cases x; cases y; simp only at *; simp only [h0,h1,h2,h3]
def zbG:za7→List AV:=fun x=>[I x.Part,I x.Total,I x.Window,I x.Fails]
abbrev zi1:TyD:=TyD.of za7 zbG (by
 intro x y h; simp only [zbG,zbn,AV.v.injEq,Value.int.injEq,Value.bool.injEq,Value.string.injEq,AV.sl.injEq,AV.mp.injEq,true_and,and_true] at h
 exact (za7.eqOf (h.1) (h.2.1) (h.2.2.1) (h.2.2.2)))
structure zay where
 Markers:List zaZ
 Scripts:List zaH
 Papers:List zaG
 Schemes:List zbt
 Seeds:List GSeed
 Monitor:za7
theorem zay.eqOf {x y:zay} (h0:x.Markers=y.Markers) (h1:x.Scripts=y.Scripts) (h2:x.Papers=y.Papers) (h3:x.Schemes=y.Schemes) (h4:x.Seeds=y.Seeds) (h5:x.Monitor=y.Monitor):x=y:=by cases x; cases y; simp only at *; simp only [h0,h1,h2,h3,h4,h5]
def zas:zay→List AV:=fun x=>[.sl 5 (List.map zcw.enc x.Markers),.sl 7 (List.map zb5.enc x.Scripts),.sl 3 (List.map zca.enc x.Papers),.sl 2 (List.map zdE.enc x.Schemes),.sl 2 (List.map zeB.enc x.Seeds),I x.Monitor.Part,I x.Monitor.Total,I x.Monitor.Window,I x.Monitor.Fails]
abbrev zhR:TyD:=TyD.of zay zas (by
 intro x y h; simp only [zas,zbn,AV.v.injEq,Value.int.injEq,Value.bool.injEq,Value.string.injEq,AV.sl.injEq,AV.mp.injEq,true_and,and_true,TyD.minj zcw,TyD.minj zca,TyD.minj zdE,TyD.minj zb5,TyD.minj zeB] at h
 exact (zay.eqOf (h.1) (h.2.1) (h.2.2.1) (h.2.2.2.1) (h.2.2.2.2.1) (za7.eqOf (h.2.2.2.2.2.1) (h.2.2.2.2.2.2.1) (h.2.2.2.2.2.2.2.1) (h.2.2.2.2.2.2.2.2))))
structure zaN where
 Time:Int
 Source:Int
 Seq:Int
theorem zaN.eqOf {x y:zaN} (h0:x.Time=y.Time) (h1:x.Source=y.Source) (h2:x.Seq=y.Seq):x=y:=by cases x; cases y; simp only at *; simp only [h0,h1,h2]
def zbu:zaN→List AV:=fun x=>[I x.Time,I x.Source,I x.Seq]
abbrev zmc:TyD:=TyD.of zaN zbu (by
 intro x y h; simp only [zbu,zbn,AV.v.injEq,Value.int.injEq,Value.bool.injEq,Value.string.injEq,AV.sl.injEq,AV.mp.injEq,true_and,and_true] at h
 exact (zaN.eqOf (h.1) (h.2.1) (h.2.2)))
structure zab where
 Stamp:zaN
 Kind:Int
 Script:Int
 Part:Int
 Value:Int
 Marker:Int
 Pages:List Int
theorem zab.eqOf {x y:zab} (h0:x.Stamp=y.Stamp) (h1:x.Kind=y.Kind) (h2:x.Script=y.Script) (h3:x.Part=y.Part) (h4:x.Value=y.Value) (h5:x.Marker=y.Marker) (h6:x.Pages=y.Pages):x=y:=by cases x; cases y; simp only at *; simp only [h0,h1,h2,h3,h4,h5,h6]
def zaa:zab→List AV:=fun x=>[I x.Stamp.Time,I x.Stamp.Source,I x.Stamp.Seq,I x.Kind,I x.Script,I x.Part,I x.Value,I x.Marker,.sl 1 (List.map zaW.enc x.Pages)]
abbrev zav:TyD:=TyD.of zab zaa (by
 intro x y h; simp only [zaa,zbn,AV.v.injEq,Value.int.injEq,Value.bool.injEq,Value.string.injEq,AV.sl.injEq,AV.mp.injEq,true_and,and_true,TyD.minj zaW] at h
 exact (zab.eqOf (zaN.eqOf (h.1) (h.2.1) (h.2.2.1)) (h.2.2.2.1) (h.2.2.2.2.1) (h.2.2.2.2.2.1) (h.2.2.2.2.2.2.1) (h.2.2.2.2.2.2.2.1) (h.2.2.2.2.2.2.2.2)))
def ztp:(List zab)→List AV:=fun x=>[.sl 9 (List.map zav.enc x)]
abbrev zzJ:TyD:=TyD.of (List zab) ztp (by
 intro x y h; simp only [ztp,zbn,AV.v.injEq,Value.int.injEq,Value.bool.injEq,Value.string.injEq,AV.sl.injEq,AV.mp.injEq,true_and,and_true,TyD.minj zav] at h
 exact (h))
structure zbv where
 Script:Int
 Part:Int
 Marker:Int
 Level:Int
 Value:Int
 Stamp:zaN
theorem zbv.eqOf {x y:zbv} (h0:x.Script=y.Script) (h1:x.Part=y.Part) (h2:x.Marker=y.Marker) (h3:x.Level=y.Level) (h4:x.Value=y.Value) (h5:x.Stamp=y.Stamp):x=y:=by cases x; cases y; simp only at *; simp only [h0,h1,h2,h3,h4,h5]
def zbj:zbv→List AV:=fun x=>[I x.Script,I x.Part,I x.Marker,I x.Level,I x.Value,I x.Stamp.Time,I x.Stamp.Source,I x.Stamp.Seq]
abbrev zcd:TyD:=TyD.of zbv zbj (by
 intro x y h; simp only [zbj,zbn,AV.v.injEq,Value.int.injEq,Value.bool.injEq,Value.string.injEq,AV.sl.injEq,AV.mp.injEq,true_and,and_true] at h
 exact (zbv.eqOf (h.1) (h.2.1) (h.2.2.1) (h.2.2.2.1) (h.2.2.2.2.1) (zaN.eqOf (h.2.2.2.2.2.1) (h.2.2.2.2.2.2.1) (h.2.2.2.2.2.2.2))))
def zzi:(List zbv)→List AV:=fun x=>[.sl 8 (List.map zcd.enc x)]
abbrev dL_GGiven:TyD:=TyD.of (List zbv) zzi (by
 intro x y h; simp only [zzi,zbn,AV.v.injEq,Value.int.injEq,Value.bool.injEq,Value.string.injEq,AV.sl.injEq,AV.mp.injEq,true_and,and_true,TyD.minj zcd] at h
 exact (h))
structure zbc where
 Marker:Int
 Good:zaN
 At:zaN
 Until:zaN
 First:Bool
 Lifted:Bool
theorem zbc.eqOf {x y:zbc} (h0:x.Marker=y.Marker) (h1:x.Good=y.Good) (h2:x.At=y.At) (h3:x.Until=y.Until) (h4:x.First=y.First) (h5:x.Lifted=y.Lifted):x=y:=by cases x; cases y; simp only at *; simp only [h0,h1,h2,h3,h4,h5]
def zag:zbc→List AV:=fun x=>[I x.Marker,I x.Good.Time,I x.Good.Source,I x.Good.Seq,I x.At.Time,I x.At.Source,I x.At.Seq,I x.Until.Time,I x.Until.Source,I x.Until.Seq,B x.First,B x.Lifted]
abbrev zco:TyD:=TyD.of zbc zag (by
 intro x y h; simp only [zag,zbn,AV.v.injEq,Value.int.injEq,Value.bool.injEq,Value.string.injEq,AV.sl.injEq,AV.mp.injEq,true_and,and_true] at h
 exact (zbc.eqOf (h.1) (zaN.eqOf (h.2.1) (h.2.2.1) (h.2.2.2.1)) (zaN.eqOf (h.2.2.2.2.1) (h.2.2.2.2.2.1) (h.2.2.2.2.2.2.1)) (zaN.eqOf (h.2.2.2.2.2.2.2.1) (h.2.2.2.2.2.2.2.2.1) (h.2.2.2.2.2.2.2.2.2.1)) (h.2.2.2.2.2.2.2.2.2.2.1) (h.2.2.2.2.2.2.2.2.2.2.2)))
def zrW:(List zbc)→List AV:=fun x=>[.sl 12 (List.map zco.enc x)]
abbrev zyA:TyD:=TyD.of (List zbc) zrW (by
 intro x y h; simp only [zrW,zbn,AV.v.injEq,Value.int.injEq,Value.bool.injEq,Value.string.injEq,AV.sl.injEq,AV.mp.injEq,true_and,and_true,TyD.minj zco] at h
 exact (h))
structure zbX where
 Given:List zbv
 Suspensions:List zbc
theorem zbX.eqOf {x y:zbX} (h0:x.Given=y.Given) (h1:x.Suspensions=y.Suspensions):x=y:=by cases x; cases y; simp only at *; simp only [h0,h1]
def zdd:zbX→List AV:=fun x=>[.sl 8 (List.map zcd.enc x.Given),.sl 12 (List.map zco.enc x.Suspensions)]
abbrev zgR:TyD:=TyD.of zbX zdd (by
 intro x y h; simp only [zdd,zbn,AV.v.injEq,Value.int.injEq,Value.bool.injEq,Value.string.injEq,AV.sl.injEq,AV.mp.injEq,true_and,and_true,TyD.minj zcd,TyD.minj zco] at h
 exact (zbX.eqOf (h.1) (h.2)))
def zzh:(Int×Int×Int)→List AV:=fun x=>[I x.1,I x.2.1,I x.2.2]
abbrev zuf:TyD:=TyD.of (Int×Int×Int) zzh (by
 intro x y h; simp only [zzh,zbn,AV.v.injEq,Value.int.injEq,Value.bool.injEq,Value.string.injEq,AV.sl.injEq,AV.mp.injEq,true_and,and_true] at h
 exact (zeN (h.1) (zeN (h.2.1) (h.2.2))))
def zvy:((Int×Int×Int)×Int)→List AV:=fun x=>[.agg (zuf.enc x.1),I x.2]
abbrev zoO:TyD:=TyD.of ((Int×Int×Int)×Int) zvy (by
 intro x y h; have h1:=(zcT h).1; have h2:=(zcT (zcT h).2).1
 exact zeN (zuf.inj (AV.agg.inj h1)) (by simpa using h2))
def zoR:(List ((Int×Int×Int)×Int))→List AV:=fun x=>[.mp (List.map zoO.enc x)]
abbrev zvn:TyD:=TyD.of (List ((Int×Int×Int)×Int)) zoR (by
 intro x y h; simp only [zoR,zbn,AV.v.injEq,Value.int.injEq,Value.bool.injEq,Value.string.injEq,AV.sl.injEq,AV.mp.injEq,true_and,and_true,TyD.minj zoO] at h
 exact (h))
structure GTask where
 Script:Int
 Marker:Int
theorem GTask.eqOf {x y:GTask} (h0:x.Script=y.Script) (h1:x.Marker=y.Marker):x=y:=by cases x; cases y; simp only at *; simp only [h0,h1]
def zfI:GTask→List AV:=fun x=>[I x.Script,I x.Marker]
abbrev zc8:TyD:=TyD.of GTask zfI (by
 intro x y h; simp only [zfI,zbn,AV.v.injEq,Value.int.injEq,Value.bool.injEq,Value.string.injEq,AV.sl.injEq,AV.mp.injEq,true_and,and_true] at h
 exact (GTask.eqOf (h.1) (h.2)))
def nL_GTask:(List GTask)→List AV:=fun x=>[.sl 2 (List.map zc8.enc x)]
abbrev dL_GTask:TyD:=TyD.of (List GTask) nL_GTask (by
 intro x y h; simp only [nL_GTask,zbn,AV.v.injEq,Value.int.injEq,Value.bool.injEq,Value.string.injEq,AV.sl.injEq,AV.mp.injEq,true_and,and_true,TyD.minj zc8] at h
 exact (h))
structure zae where
 L:List Int
 At:Int
theorem zae.eqOf {x y:zae} (h0:x.L=y.L) (h1:x.At=y.At):x=y:=by cases x; cases y; simp only at *; simp only [h0,h1]
def zar:zae→List AV:=fun x=>[.sl 1 (List.map zaW.enc x.L),I x.At]
abbrev za1:TyD:=TyD.of zae zar (by
 intro x y h; simp only [zar,zbn,AV.v.injEq,Value.int.injEq,Value.bool.injEq,Value.string.injEq,AV.sl.injEq,AV.mp.injEq,true_and,and_true,TyD.minj zaW] at h
 exact (zae.eqOf (h.1) (h.2)))
structure zax where
 script:Int
 part:Int
theorem zax.eqOf {x y:zax} (h0:x.script=y.script) (h1:x.part=y.part):x=y:=by cases x; cases y; simp only at *; simp only [h0,h1]
def zbg:zax→List AV:=fun x=>[I x.script,I x.part]
abbrev zcP:TyD:=TyD.of zax zbg (by
 intro x y h; simp only [zbg,zbn,AV.v.injEq,Value.int.injEq,Value.bool.injEq,Value.string.injEq,AV.sl.injEq,AV.mp.injEq,true_and,and_true] at h
 exact (zax.eqOf (h.1) (h.2)))
def zal:(zax×zaN)→List AV:=fun x=>[.agg (zcP.enc x.1),.agg (zmc.enc x.2)]
abbrev zc7:TyD:=TyD.of (zax×zaN) zal (by
 intro x y h; have h1:=(zcT h).1; have h2:=(zcT (zcT h).2).1
 exact zeN (zcP.inj (AV.agg.inj h1)) (zmc.inj (AV.agg.inj h2)))
def zks:(List (zax×zaN))→List AV:=fun x=>[.mp (List.map zc7.enc x)]
abbrev zpT:TyD:=TyD.of (List (zax×zaN)) zks (by
 intro x y h; simp only [zks,zbn,AV.v.injEq,Value.int.injEq,Value.bool.injEq,Value.string.injEq,AV.sl.injEq,AV.mp.injEq,true_and,and_true,TyD.minj zc7] at h
 exact (h))
structure zbf where
 event:zab
 void:Bool
theorem zbf.eqOf {x y:zbf} (h0:x.event=y.event) (h1:x.void=y.void):x=y:=by cases x; cases y; simp only at *; simp only [h0,h1]
def zak:zbf→List AV:=fun x=>[I x.event.Stamp.Time,I x.event.Stamp.Source,I x.event.Stamp.Seq,I x.event.Kind,I x.event.Script,I x.event.Part,I x.event.Value,I x.event.Marker,.sl 1 (List.map zaW.enc x.event.Pages),B x.void]
abbrev zcC:TyD:=TyD.of zbf zak (by
 intro x y h; simp only [zak,zbn,AV.v.injEq,Value.int.injEq,Value.bool.injEq,Value.string.injEq,AV.sl.injEq,AV.mp.injEq,true_and,and_true,TyD.minj zaW] at h
 exact (zbf.eqOf (zab.eqOf (zaN.eqOf (h.1) (h.2.1) (h.2.2.1)) (h.2.2.2.1) (h.2.2.2.2.1) (h.2.2.2.2.2.1) (h.2.2.2.2.2.2.1) (h.2.2.2.2.2.2.2.1) (h.2.2.2.2.2.2.2.2.1)) (h.2.2.2.2.2.2.2.2.2)))
def zqD:(List zbf)→List AV:=fun x=>[.sl 10 (List.map zcC.enc x)]
abbrev zxE:TyD:=TyD.of (List zbf) zqD (by
 intro x y h; simp only [zqD,zbn,AV.v.injEq,Value.int.injEq,Value.bool.injEq,Value.string.injEq,AV.sl.injEq,AV.mp.injEq,true_and,and_true,TyD.minj zcC] at h
 exact (h))
def zat:(zax×Int)→List AV:=fun x=>[.agg (zcP.enc x.1),I x.2]
abbrev zdh:TyD:=TyD.of (zax×Int) zat (by
 intro x y h; have h1:=(zcT h).1; have h2:=(zcT (zcT h).2).1
 exact zeN (zcP.inj (AV.agg.inj h1)) (by simpa using h2))
def zk3:(List (zax×Int))→List AV:=fun x=>[.mp (List.map zdh.enc x)]
abbrev zqg:TyD:=TyD.of (List (zax×Int)) zk3 (by
 intro x y h; simp only [zk3,zbn,AV.v.injEq,Value.int.injEq,Value.bool.injEq,Value.string.injEq,AV.sl.injEq,AV.mp.injEq,true_and,and_true,TyD.minj zdh] at h
 exact (h))
def nL_Bool:(List Bool)→List AV:=fun x=>[.sl 1 (List.map dBool.enc x)]
abbrev dL_Bool:TyD:=TyD.of (List Bool) nL_Bool (by
 intro x y h; simp only [nL_Bool,zbn,AV.v.injEq,Value.int.injEq,Value.bool.injEq,Value.string.injEq,AV.sl.injEq,AV.mp.injEq,true_and,and_true,TyD.minj dBool] at h
 exact (h))
structure zc3 where
 Last:List Bool
 Suspended:Bool
theorem zc3.eqOf {x y:zc3} (h0:x.Last=y.Last) (h1:x.Suspended=y.Suspended):x=y:=by cases x; cases y; simp only at *; simp only [h0,h1]
def zjl:zc3→List AV:=fun x=>[.sl 1 (List.map dBool.enc x.Last),B x.Suspended]
abbrev zrJ:TyD:=TyD.of zc3 zjl (by
 intro x y h; simp only [zjl,zbn,AV.v.injEq,Value.int.injEq,Value.bool.injEq,Value.string.injEq,AV.sl.injEq,AV.mp.injEq,true_and,and_true,TyD.minj dBool] at h
 exact (zc3.eqOf (h.1) (h.2)))
structure zah where
 level:Int
 marks:List zbf
 period:Int
 started:zaN
 noted:List (zax×Int)
 watch:zc3
 good:zaN
 some:Bool
 suspensions:List zbc
theorem zah.eqOf {x y:zah} (h0:x.level=y.level) (h1:x.marks=y.marks) (h2:x.period=y.period) (h3:x.started=y.started) (h4:x.noted=y.noted) (h5:x.watch=y.watch) (h6:x.good=y.good) (h7:x.some=y.some) (h8:x.suspensions=y.suspensions):x=y:=by cases x; cases y; simp only at *; simp only [h0,h1,h2,h3,h4,h5,h6,h7,h8]
def zc1:zah→List AV:=fun x=>[I x.level,.sl 10 (List.map zcC.enc x.marks),I x.period,I x.started.Time,I x.started.Source,I x.started.Seq,.mp (List.map zdh.enc x.noted),.sl 1 (List.map dBool.enc x.watch.Last),B x.watch.Suspended,I x.good.Time,I x.good.Source,I x.good.Seq,B x.some,.sl 12 (List.map zco.enc x.suspensions)]
abbrev ze7:TyD:=TyD.of zah zc1 (by
 intro x y h; simp only [zc1,zbn,AV.v.injEq,Value.int.injEq,Value.bool.injEq,Value.string.injEq,AV.sl.injEq,AV.mp.injEq,true_and,and_true,TyD.minj dBool,TyD.minj zdh,TyD.minj zco,TyD.minj zcC] at h
 exact (zah.eqOf (h.1) (h.2.1) (h.2.2.1) (zaN.eqOf (h.2.2.2.1) (h.2.2.2.2.1) (h.2.2.2.2.2.1)) (h.2.2.2.2.2.2.1) (zc3.eqOf (h.2.2.2.2.2.2.2.1) (h.2.2.2.2.2.2.2.2.1)) (zaN.eqOf (h.2.2.2.2.2.2.2.2.2.1) (h.2.2.2.2.2.2.2.2.2.2.1) (h.2.2.2.2.2.2.2.2.2.2.2.1)) (h.2.2.2.2.2.2.2.2.2.2.2.2.1) (h.2.2.2.2.2.2.2.2.2.2.2.2.2)))
def zbD:(zax×zab)→List AV:=fun x=>[.agg (zcP.enc x.1),.agg (zav.enc x.2)]
abbrev zcB:TyD:=TyD.of (zax×zab) zbD (by
 intro x y h; have h1:=(zcT h).1; have h2:=(zcT (zcT h).2).1
 exact zeN (zcP.inj (AV.agg.inj h1)) (zav.inj (AV.agg.inj h2)))
def zhX:(List (zax×zab))→List AV:=fun x=>[.mp (List.map zcB.enc x)]
abbrev znu:TyD:=TyD.of (List (zax×zab)) zhX (by
 intro x y h; simp only [zhX,zbn,AV.v.injEq,Value.int.injEq,Value.bool.injEq,Value.string.injEq,AV.sl.injEq,AV.mp.injEq,true_and,and_true,TyD.minj zcB] at h
 exact (h))
def zbI:(Int×Int)→List AV:=fun x=>[I x.1,I x.2]
abbrev zec:TyD:=TyD.of (Int×Int) zbI (by
 intro x y h; simp only [zbI,zbn,AV.v.injEq,Value.int.injEq,Value.bool.injEq,Value.string.injEq,AV.sl.injEq,AV.mp.injEq,true_and,and_true] at h
 exact (zeN (h.1) (h.2)))
structure za3 where
 first:Int
 disputed:Bool
theorem za3.eqOf {x y:za3} (h0:x.first=y.first) (h1:x.disputed=y.disputed):x=y:=by cases x; cases y; simp only at *; simp only [h0,h1]
def zbE:za3→List AV:=fun x=>[I x.first,B x.disputed]
abbrev zdX:TyD:=TyD.of za3 zbE (by
 intro x y h; simp only [zbE,zbn,AV.v.injEq,Value.int.injEq,Value.bool.injEq,Value.string.injEq,AV.sl.injEq,AV.mp.injEq,true_and,and_true] at h
 exact (za3.eqOf (h.1) (h.2)))
def zbz:((Int×Int)×za3)→List AV:=fun x=>[.agg (zec.enc x.1),.agg (zdX.enc x.2)]
abbrev zbV:TyD:=TyD.of ((Int×Int)×za3) zbz (by
 intro x y h; have h1:=(zcT h).1; have h2:=(zcT (zcT h).2).1
 exact zeN (zec.inj (AV.agg.inj h1)) (zdX.inj (AV.agg.inj h2)))
def zjL:(List ((Int×Int)×za3))→List AV:=fun x=>[.mp (List.map zbV.enc x)]
abbrev zoX:TyD:=TyD.of (List ((Int×Int)×za3)) zjL (by
 intro x y h; simp only [zjL,zbn,AV.v.injEq,Value.int.injEq,Value.bool.injEq,Value.string.injEq,AV.sl.injEq,AV.mp.injEq,true_and,and_true,TyD.minj zbV] at h
 exact (h))
def zdA:((Int×Int)×Int)→List AV:=fun x=>[.agg (zec.enc x.1),I x.2]
abbrev ze4:TyD:=TyD.of ((Int×Int)×Int) zdA (by
 intro x y h; have h1:=(zcT h).1; have h2:=(zcT (zcT h).2).1
 exact zeN (zec.inj (AV.agg.inj h1)) (by simpa using h2))
def zoQ:(List ((Int×Int)×Int))→List AV:=fun x=>[.mp (List.map ze4.enc x)]
abbrev zvm:TyD:=TyD.of (List ((Int×Int)×Int)) zoQ (by
 intro x y h; simp only [zoQ,zbn,AV.v.injEq,Value.int.injEq,Value.bool.injEq,Value.string.injEq,AV.sl.injEq,AV.mp.injEq,true_and,and_true,TyD.minj ze4] at h
 exact (h))
def zdO:((Int×Int)×Bool)→List AV:=fun x=>[.agg (zec.enc x.1),B x.2]
abbrev zfp:TyD:=TyD.of ((Int×Int)×Bool) zdO (by
 intro x y h; have h1:=(zcT h).1; have h2:=(zcT (zcT h).2).1
 exact zeN (zec.inj (AV.agg.inj h1)) (by simpa using h2))
def zp6:(List ((Int×Int)×Bool))→List AV:=fun x=>[.mp (List.map zfp.enc x)]
abbrev zwF:TyD:=TyD.of (List ((Int×Int)×Bool)) zp6 (by
 intro x y h; simp only [zp6,zbn,AV.v.injEq,Value.int.injEq,Value.bool.injEq,Value.string.injEq,AV.sl.injEq,AV.mp.injEq,true_and,and_true,TyD.minj zfp] at h
 exact (h))
@[simp] theorem zmE {β:Type} (l:List zbv) (i:Nat) (k:zbv→Option β):elemD zcd (List.map zbj l) i k=(l[i]?).bind k:=zdY zcd l i k
@[simp] theorem zbH {β:Type} (l:List zab) (i:Nat) (k:zab→Option β):elemD zav (List.map zaa l) i k=(l[i]?).bind k:=zdY zav l i k
@[simp] theorem zdS {β:Type} (l:List zaZ) (i:Nat) (k:zaZ→Option β):elemD zcw (List.map zaU l) i k=(l[i]?).bind k:=zdY zcw l i k
@[simp] theorem zfF {β:Type} (l:List zaG) (i:Nat) (k:zaG→Option β):elemD zca (List.map zaK l) i k=(l[i]?).bind k:=zdY zca l i k
@[simp] theorem zen {β:Type} (l:List GPart) (i:Nat) (k:GPart→Option β):elemD zd3 (List.map zaS l) i k=(l[i]?).bind k:=zdY zd3 l i k
@[simp] theorem zzO {β:Type} (l:List zbt) (i:Nat) (k:zbt→Option β):elemD zdE (List.map zb0 l) i k=(l[i]?).bind k:=zdY zdE l i k
@[simp] theorem zgL {β:Type} (l:List zaH) (i:Nat) (k:zaH→Option β):elemD zb5 (List.map zaO l) i k=(l[i]?).bind k:=zdY zb5 l i k
@[simp] theorem znT {β:Type} (l:List GSeed) (i:Nat) (k:GSeed→Option β):elemD zeB (List.map zbY l) i k=(l[i]?).bind k:=zdY zeB l i k
@[simp] theorem ze5 {β:Type} (l:List zbc) (i:Nat) (k:zbc→Option β):elemD zco (List.map zag l) i k=(l[i]?).bind k:=zdY zco l i k
@[simp] theorem zgS {β:Type} (l:List zbf) (i:Nat) (k:zbf→Option β):elemD zcC (List.map zak l) i k=(l[i]?).bind k:=zdY zcC l i k
@[simp] theorem zzP {β:Type} (l:List (List Int)) (i:Nat) (k:(List Int)→Option β):elemD zho (List.map zcV l) i k=(l[i]?).bind k:=zdY zho l i k
def tyTab:List TyD:=[dRaw,dRaw,zaW,zaW,dBool,dI_u8,dI_u8,dRaw,dRaw,dStr,dStr,dStr,zoe,dRaw,dRaw,dRaw,dRaw,dRaw,dRaw,dRaw,dRaw,dI_i32,zho,dRaw,dRaw,dRaw,dRaw,dL_GMarker,dL_GScript,dL_GPaper,dL_GScheme,dL_GSeed,dRaw,zi1,dRaw,zhR,dRaw,zzJ,dRaw,dL_GGiven,zyA,dRaw,zgR,zaW,dRaw,dRaw,dRaw,dRaw,dRaw,zmc,dRaw,zcd,dRaw,zb5,dRaw,dRaw,dRaw,dRaw,dRaw,dRaw,dRaw,zco,dRaw,dRaw,zav,dRaw,dRaw,zcw,zvn,dRaw,zuf,dRaw,dRaw,dRaw,dRaw,dRaw,dRaw,dL_GTask,dRaw,dRaw,dRaw,dRaw,za1,dRaw,dRaw,dRaw,dRaw,dRaw,dRaw,dRaw,zeB,dRaw,dRaw,dL_GPart,dRaw,zca,dRaw,dRaw,zd3,dRaw,dRaw,dRaw,dRaw,zpT,dRaw,dRaw,dRaw,zxE,zqg,dL_Bool,dRaw,zrJ,dRaw,ze7,znu,dRaw,dRaw,zcP,dRaw,dRaw,dRaw,dRaw,dRaw,dRaw,dRaw,dRaw,dRaw,dRaw,dRaw,dL_L_I_i64,dRaw,zdE,dRaw,zcC,dRaw,dRaw,zc8,dRaw,dRaw,dRaw,dRaw,dRaw,dRaw,dRaw,dRaw,dRaw,dRaw,dRaw,dRaw,zoX,dRaw,zec,dRaw,zdX,dRaw,dRaw,dRaw,dRaw,dRaw,dRaw,dRaw,dRaw,dRaw,dRaw,dRaw,dRaw,dRaw,dRaw,zoe,zvm,zwF,dRaw,dRaw,dRaw,dRaw,dRaw,dRaw,dRaw,dRaw,dRaw,dRaw,dRaw,dRaw,dRaw,dRaw,dRaw,dRaw,dRaw,dRaw,dRaw,dRaw,dRaw,dRaw,dRaw,dRaw,dRaw,zaW,dRaw,dRaw,dRaw,dRaw,dRaw,dRaw,dI_u32,dRaw,zoe,dRaw,dRaw,dRaw,dRaw,dRaw,dRaw,dRaw,dRaw,dRaw,dRaw,dRaw,dRaw,dRaw,dRaw,dRaw,dRaw,dRaw,dRaw,dRaw,zoe,dRaw,dRaw,dRaw,dRaw,dRaw,dRaw,dRaw,dRaw,dRaw,dRaw,dRaw,dRaw,dRaw,dRaw,dRaw,dRaw,dRaw,dRaw,dRaw,dRaw,dRaw,dRaw,dRaw,dRaw,dRaw,dRaw,dRaw,dI_u8,dI_u8,dRaw,dRaw,dI_i32,dI_i32,dRaw,dRaw,dRaw]
end Go.Proofs.YtikogkgdkdmljaaGreat
end
