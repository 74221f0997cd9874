/- The types of the seat as data. -/
import Derived.Test.YtikogkgdkdmljaaGreatAb9
set_option linter.unusedSimpArgs false
set_option linter.unusedVariables false
noncomputable section
namespace Go.Proofs.YtikogkgdkdmljaaGreat
open Go.Ab
def zeR:(List Int)→List AV:=fun x=>[.sl 1 (List.map zbc.enc x)]
abbrev zkN:TyD:=TyD.of (List Int) zeR (by
 intro x y h; simp only [zeR,zbA,AV.v.injEq,Value.int.injEq,Value.bool.injEq,Value.string.injEq,AV.sl.injEq,AV.mp.injEq,true_and,and_true,TyD.minj zbc] at h
 exact (h))
structure zbh where
 ID:Int
 Centre:Int
 Level:Int
 Capacity:Int
 Papers:List Int
theorem zbh.eqOf {x y:zbh} (h0:x.ID=y.ID) (h1:x.Centre=y.Centre) (h2:x.Level=y.Level) (h3:x.Capacity=y.Capacity) (h4:x.Papers=y.Papers):x=y:=by cases x; cases y; simp only at *; simp only [h0,h1,h2,h3,h4]
def zbj:zbh→List AV:=fun x=>[I x.ID,I x.Centre,I x.Level,I x.Capacity,.sl 1 (List.map zbc.enc x.Papers)]
abbrev zeC:TyD:=TyD.of zbh zbj (by
 intro x y h; simp only [zbj,zbA,AV.v.injEq,Value.int.injEq,Value.bool.injEq,Value.string.injEq,AV.sl.injEq,AV.mp.injEq,true_and,and_true,TyD.minj zbc] at h
 exact (zbh.eqOf (h.1) (h.2.1) (h.2.2.1) (h.2.2.2.1) (h.2.2.2.2)))
def zBe:(List zbh)→List AV:=fun x=>[.sl 5 (List.map zeC.enc x)]
abbrev dL_GMarker:TyD:=TyD.of (List zbh) zBe (by
 intro x y h; simp only [zBe,zbA,AV.v.injEq,Value.int.injEq,Value.bool.injEq,Value.string.injEq,AV.sl.injEq,AV.mp.injEq,true_and,and_true,TyD.minj zeC] at h
 exact (h))
structure za0 where
 Number:Int
 Paper:Int
 Candidate:Int
 Centre:Int
 Variant:Int
 Pages:List Int
 Answers:List Int
theorem za0.eqOf {x y:za0} (h0:x.Number=y.Number) (h1:x.Paper=y.Paper) (h2:x.Candidate=y.Candidate) (h3:x.Centre=y.Centre) (h4:x.Variant=y.Variant) (h5:x.Pages=y.Pages) (h6:x.Answers=y.Answers):x=y:=by cases x; cases y; simp only at *; simp only [h0,h1,h2,h3,h4,h5,h6]
def za7:za0→List AV:=fun x=>[I x.Number,I x.Paper,I x.Candidate,I x.Centre,I x.Variant,.sl 1 (List.map zbc.enc x.Pages),.sl 1 (List.map zbc.enc x.Answers)]
abbrev zcY:TyD:=TyD.of za0 za7 (by
 intro x y h; simp only [za7,zbA,AV.v.injEq,Value.int.injEq,Value.bool.injEq,Value.string.injEq,AV.sl.injEq,AV.mp.injEq,true_and,and_true,TyD.minj zbc] at h
 exact (za0.eqOf (h.1) (h.2.1) (h.2.2.1) (h.2.2.2.1) (h.2.2.2.2.1) (h.2.2.2.2.2.1) (h.2.2.2.2.2.2)))
def zBg:(List za0)→List AV:=fun x=>[.sl 7 (List.map zcY.enc x)]
abbrev dL_GScript:TyD:=TyD.of (List za0) zBg (by
 intro x y h; simp only [zBg,zbA,AV.v.injEq,Value.int.injEq,Value.bool.injEq,Value.string.injEq,AV.sl.injEq,AV.mp.injEq,true_and,and_true,TyD.minj zcY] at h
 exact (h))
structure GPart where
 Kind:Int
 Max:Int
 Topic:Int
 Objective:Int
 Options:Int
 Key:Int
theorem GPart.eqOf {x y:GPart} (h0:x.Kind=y.Kind) (h1:x.Max=y.Max) (h2:x.Topic=y.Topic) (h3:x.Objective=y.Objective) (h4:x.Options=y.Options) (h5:x.Key=y.Key):x=y:=by cases x; cases y; simp only at *; simp only [h0,h1,h2,h3,h4,h5]
def zaZ:GPart→List AV:=fun x=>[I x.Kind,I x.Max,I x.Topic,I x.Objective,I x.Options,I x.Key]
abbrev zgr:TyD:=TyD.of GPart zaZ (by
 intro x y h; simp only [zaZ,zbA,AV.v.injEq,Value.int.injEq,Value.bool.injEq,Value.string.injEq,AV.sl.injEq,AV.mp.injEq,true_and,and_true] at h
 exact (GPart.eqOf (h.1) (h.2.1) (h.2.2.1) (h.2.2.2.1) (h.2.2.2.2.1) (h.2.2.2.2.2)))
def nL_GPart:(List GPart)→List AV:=fun x=>[.sl 6 (List.map zgr.enc x)]
abbrev dL_GPart:TyD:=TyD.of (List GPart) nL_GPart (by
 intro x y h; simp only [nL_GPart,zbA,AV.v.injEq,Value.int.injEq,Value.bool.injEq,Value.string.injEq,AV.sl.injEq,AV.mp.injEq,true_and,and_true,TyD.minj zgr] at h
 exact (h))
structure zaQ where
 Code:Int
 Variant:Int
 Parts:List GPart
theorem zaQ.eqOf {x y:zaQ} (h0:x.Code=y.Code) (h1:x.Variant=y.Variant) (h2:x.Parts=y.Parts):x=y:=by cases x; cases y; simp only at *; simp only [h0,h1,h2]
def zaU:zaQ→List AV:=fun x=>[I x.Code,I x.Variant,.sl 6 (List.map zgr.enc x.Parts)]
abbrev zcW:TyD:=TyD.of zaQ zaU (by
 intro x y h; simp only [zaU,zbA,AV.v.injEq,Value.int.injEq,Value.bool.injEq,Value.string.injEq,AV.sl.injEq,AV.mp.injEq,true_and,and_true,TyD.minj zgr] at h
 exact (zaQ.eqOf (h.1) (h.2.1) (h.2.2)))
def zCi:(List zaQ)→List AV:=fun x=>[.sl 3 (List.map zcW.enc x)]
abbrev dL_GPaper:TyD:=TyD.of (List zaQ) zCi (by
 intro x y h; simp only [zCi,zbA,AV.v.injEq,Value.int.injEq,Value.bool.injEq,Value.string.injEq,AV.sl.injEq,AV.mp.injEq,true_and,and_true,TyD.minj zcW] at h
 exact (h))
def zBh:(List (List Int))→List AV:=fun x=>[.sl 1 (List.map zkN.enc x)]
abbrev dL_L_I_i64:TyD:=TyD.of (List (List Int)) zBh (by
 intro x y h; simp only [zBh,zbA,AV.v.injEq,Value.int.injEq,Value.bool.injEq,Value.string.injEq,AV.sl.injEq,AV.mp.injEq,true_and,and_true,TyD.minj zkN] at h
 exact (h))
structure zbP where
 Keys:List (List Int)
 Withdrawn:List Int
theorem zbP.eqOf {x y:zbP} (h0:x.Keys=y.Keys) (h1:x.Withdrawn=y.Withdrawn):x=y:=by cases x; cases y; simp only at *; simp only [h0,h1]
def zcJ:zbP→List AV:=fun x=>[.sl 1 (List.map zkN.enc x.Keys),.sl 1 (List.map zbc.enc x.Withdrawn)]
abbrev zfS:TyD:=TyD.of zbP zcJ (by
 intro x y h; simp only [zcJ,zbA,AV.v.injEq,Value.int.injEq,Value.bool.injEq,Value.string.injEq,AV.sl.injEq,AV.mp.injEq,true_and,and_true,TyD.minj zbc,TyD.minj zkN] at h
 exact (zbP.eqOf (h.1) (h.2)))
def zBf:(List zbP)→List AV:=fun x=>[.sl 2 (List.map zfS.enc x)]
abbrev dL_GScheme:TyD:=TyD.of (List zbP) zBf (by
 intro x y h; simp only [zBf,zbA,AV.v.injEq,Value.int.injEq,Value.bool.injEq,Value.string.injEq,AV.sl.injEq,AV.mp.injEq,true_and,and_true,TyD.minj zfS] at h
 exact (h))
structure GSeed where
 Script:Int
 Marks:List Int
theorem GSeed.eqOf {x y:GSeed} (h0:x.Script=y.Script) (h1:x.Marks=y.Marks):x=y:=by cases x; cases y; simp only at *; simp only [h0,h1]
def zdg:GSeed→List AV:=fun x=>[I x.Script,.sl 1 (List.map zbc.enc x.Marks)]
abbrev zik:TyD:=TyD.of GSeed zdg (by
 intro x y h; simp only [zdg,zbA,AV.v.injEq,Value.int.injEq,Value.bool.injEq,Value.string.injEq,AV.sl.injEq,AV.mp.injEq,true_and,and_true,TyD.minj zbc] at h
 exact (GSeed.eqOf (h.1) (h.2)))
def nL_GSeed:(List GSeed)→List AV:=fun x=>[.sl 2 (List.map zik.enc x)]
abbrev dL_GSeed:TyD:=TyD.of (List GSeed) nL_GSeed (by
 intro x y h; simp only [nL_GSeed,zbA,AV.v.injEq,Value.int.injEq,Value.bool.injEq,Value.string.injEq,AV.sl.injEq,AV.mp.injEq,true_and,and_true,TyD.minj zik] at h
 exact (h))
structure zbf where
 Part:Int
 Total:Int
 Window:Int
 Fails:Int
theorem zbf.eqOf {x y:zbf} (h0:x.Part=y.Part) (h1:x.Total=y.Total) (h2:x.Window=y.Window) (h3:x.Fails=y.Fails):x=y:=by cases x; cases y; simp only at *; simp only [h0,h1,h2,h3]
def zb9:zbf→List AV:=fun x=>[I x.Part,I x.Total,I x.Window,I x.Fails]
abbrev zmx:TyD:=TyD.of zbf zb9 (by
 intro x y h; simp only [zb9,zbA,AV.v.injEq,Value.int.injEq,Value.bool.injEq,Value.string.injEq,AV.sl.injEq,AV.mp.injEq,true_and,and_true] at h
 exact (zbf.eqOf (h.1) (h.2.1) (h.2.2.1) (h.2.2.2)))
structure zaM where
 Markers:List zbh
 Scripts:List za0
 Papers:List zaQ
 Schemes:List zbP
 Seeds:List GSeed
 Monitor:zbf
theorem zaM.eqOf {x y:zaM} (h0:x.Markers=y.Markers) (h1:x.Scripts=y.Scripts) (h2:x.Papers=y.Papers) (h3:x.Schemes=y.Schemes) (h4:x.Seeds=y.Seeds) (h5:x.Monitor=y.Monitor):x=y:=by cases x; cases y; simp only at *; simp only [h0,h1,h2,h3,h4,h5]
def zaA:zaM→List AV:=fun x=>[.sl 5 (List.map zeC.enc x.Markers),.sl 7 (List.map zcY.enc x.Scripts),.sl 3 (List.map zcW.enc x.Papers),.sl 2 (List.map zfS.enc x.Schemes),.sl 2 (List.map zik.enc x.Seeds),I x.Monitor.Part,I x.Monitor.Total,I x.Monitor.Window,I x.Monitor.Fails]
abbrev zkb:TyD:=TyD.of zaM zaA (by
 intro x y h; simp only [zaA,zbA,AV.v.injEq,Value.int.injEq,Value.bool.injEq,Value.string.injEq,AV.sl.injEq,AV.mp.injEq,true_and,and_true,TyD.minj zeC,TyD.minj zcW,TyD.minj zfS,TyD.minj zcY,TyD.minj zik] at h
 exact (zaM.eqOf (h.1) (h.2.1) (h.2.2.1) (h.2.2.2.1) (h.2.2.2.2.1) (zbf.eqOf (h.2.2.2.2.2.1) (h.2.2.2.2.2.2.1) (h.2.2.2.2.2.2.2.1) (h.2.2.2.2.2.2.2.2))))
structure zaW where
 Time:Int
 Source:Int
 Seq:Int
theorem zaW.eqOf {x y:zaW} (h0:x.Time=y.Time) (h1:x.Source=y.Source) (h2:x.Seq=y.Seq):x=y:=by cases x; cases y; simp only at *; simp only [h0,h1,h2]
def zb5:zaW→List AV:=fun x=>[I x.Time,I x.Source,I x.Seq]
abbrev zpO:TyD:=TyD.of zaW zb5 (by
 intro x y h; simp only [zb5,zbA,AV.v.injEq,Value.int.injEq,Value.bool.injEq,Value.string.injEq,AV.sl.injEq,AV.mp.injEq,true_and,and_true] at h
 exact (zaW.eqOf (h.1) (h.2.1) (h.2.2)))
structure zab where
 Stamp:zaW
 Kind:Int
 Script:Int
 Part:Int
 Value:Int
 Marker:Int
 Pages:List Int
theorem zab.eqOf {x y:zab} (h0:x.Stamp=y.Stamp) (h1:x.Kind=y.Kind) (h2:x.Script=y.Script) (h3:x.Part=y.Part) (h4:x.Value=y.Value) (h5:x.Marker=y.Marker) (h6:x.Pages=y.Pages):x=y:=by cases x; cases y; simp only at *; simp only [h0,h1,h2,h3,h4,h5,h6]
def zaa:zab→List AV:=fun x=>[I x.Stamp.Time,I x.Stamp.Source,I x.Stamp.Seq,I x.Kind,I x.Script,I x.Part,I x.Value,I x.Marker,.sl 1 (List.map zbc.enc x.Pages)]
abbrev zaj:TyD:=TyD.of zab zaa (by
 intro x y h; simp only [zaa,zbA,AV.v.injEq,Value.int.injEq,Value.bool.injEq,Value.string.injEq,AV.sl.injEq,AV.mp.injEq,true_and,and_true,TyD.minj zbc] at h
 exact (zab.eqOf (zaW.eqOf (h.1) (h.2.1) (h.2.2.1)) (h.2.2.2.1) (h.2.2.2.2.1) (h.2.2.2.2.2.1) (h.2.2.2.2.2.2.1) (h.2.2.2.2.2.2.2.1) (h.2.2.2.2.2.2.2.2)))
def zwQ:(List zab)→List AV:=fun x=>[.sl 9 (List.map zaj.enc x)]
abbrev zCI:TyD:=TyD.of (List zab) zwQ (by
 intro x y h; simp only [zwQ,zbA,AV.v.injEq,Value.int.injEq,Value.bool.injEq,Value.string.injEq,AV.sl.injEq,AV.mp.injEq,true_and,and_true,TyD.minj zaj] at h
 exact (h))
structure zag where
 Script:Int
 Part:Int
 Marker:Int
 Level:Int
 Value:Int
 Stamp:zaW
theorem zag.eqOf {x y:zag} (h0:x.Script=y.Script) (h1:x.Part=y.Part) (h2:x.Marker=y.Marker) (h3:x.Level=y.Level) (h4:x.Value=y.Value) (h5:x.Stamp=y.Stamp):x=y:=by cases x; cases y; simp only at *; simp only [h0,h1,h2,h3,h4,h5]
def zad:zag→List AV:=fun x=>[I x.Script,I x.Part,I x.Marker,I x.Level,I x.Value,I x.Stamp.Time,I x.Stamp.Source,I x.Stamp.Seq]
abbrev zaL:TyD:=TyD.of zag zad (by
 intro x y h; simp only [zad,zbA,AV.v.injEq,Value.int.injEq,Value.bool.injEq,Value.string.injEq,AV.sl.injEq,AV.mp.injEq,true_and,and_true] at h
 exact (zag.eqOf (h.1) (h.2.1) (h.2.2.1) (h.2.2.2.1) (h.2.2.2.2.1) (zaW.eqOf (h.2.2.2.2.2.1) (h.2.2.2.2.2.2.1) (h.2.2.2.2.2.2.2))))
def zCh:(List zag)→List AV:=fun x=>[.sl 8 (List.map zaL.enc x)]
abbrev dL_GGiven:TyD:=TyD.of (List zag) zCh (by
 intro x y h; simp only [zCh,zbA,AV.v.injEq,Value.int.injEq,Value.bool.injEq,Value.string.injEq,AV.sl.injEq,AV.mp.injEq,true_and,and_true,TyD.minj zaL] at h
 exact (h))
structure zbq where
 Marker:Int
 Good:zaW
 At:zaW
 Until:zaW
 First:Bool
 Lifted:Bool
theorem zbq.eqOf {x y:zbq} (h0:x.Marker=y.Marker) (h1:x.Good=y.Good) (h2:x.At=y.At) (h3:x.Until=y.Until) (h4:x.First=y.First) (h5:x.Lifted=y.Lifted):x=y:=by cases x; cases y; simp only at *; simp only [h0,h1,h2,h3,h4,h5]
def zam:zbq→List AV:=fun x=>[I x.Marker,I x.Good.Time,I x.Good.Source,I x.Good.Seq,I x.At.Time,I x.At.Source,I x.At.Seq,I x.Until.Time,I x.Until.Source,I x.Until.Seq,B x.First,B x.Lifted]
abbrev zde:TyD:=TyD.of zbq zam (by
 intro x y h; simp only [zam,zbA,AV.v.injEq,Value.int.injEq,Value.bool.injEq,Value.string.injEq,AV.sl.injEq,AV.mp.injEq,true_and,and_true] at h
 exact (zbq.eqOf (h.1) (zaW.eqOf (h.2.1) (h.2.2.1) (h.2.2.2.1)) (zaW.eqOf (h.2.2.2.2.1) (h.2.2.2.2.2.1) (h.2.2.2.2.2.2.1)) (zaW.eqOf (h.2.2.2.2.2.2.2.1) (h.2.2.2.2.2.2.2.2.1) (h.2.2.2.2.2.2.2.2.2.1)) (h.2.2.2.2.2.2.2.2.2.2.1) (h.2.2.2.2.2.2.2.2.2.2.2)))
def zvi:(List zbq)→List AV:=fun x=>[.sl 12 (List.map zde.enc x)]
abbrev zBG:TyD:=TyD.of (List zbq) zvi (by
 intro x y h; simp only [zvi,zbA,AV.v.injEq,Value.int.injEq,Value.bool.injEq,Value.string.injEq,AV.sl.injEq,AV.mp.injEq,true_and,and_true,TyD.minj zde] at h
 exact (h))
structure zcl where
 Given:List zag
 Suspensions:List zbq
theorem zcl.eqOf {x y:zcl} (h0:x.Given=y.Given) (h1:x.Suspensions=y.Suspensions):x=y:=by cases x; cases y; simp only at *; simp only [h0,h1]
def zc6:zcl→List AV:=fun x=>[.sl 8 (List.map zaL.enc x.Given),.sl 12 (List.map zde.enc x.Suspensions)]
abbrev zkh:TyD:=TyD.of zcl zc6 (by
 intro x y h; simp only [zc6,zbA,AV.v.injEq,Value.int.injEq,Value.bool.injEq,Value.string.injEq,AV.sl.injEq,AV.mp.injEq,true_and,and_true,TyD.minj zaL,TyD.minj zde] at h
 exact (zcl.eqOf (h.1) (h.2)))
def zCg:(Int×Int×Int)→List AV:=fun x=>[I x.1,I x.2.1,I x.2.2]
abbrev zxC:TyD:=TyD.of (Int×Int×Int) zCg (by
 intro x y h; simp only [zCg,zbA,AV.v.injEq,Value.int.injEq,Value.bool.injEq,Value.string.injEq,AV.sl.injEq,AV.mp.injEq,true_and,and_true] at h
 exact (zhF (h.1) (zhF (h.2.1) (h.2.2))))
def zyP:((Int×Int×Int)×Int)→List AV:=fun x=>[.agg (zxC.enc x.1),I x.2]
abbrev zsf:TyD:=TyD.of ((Int×Int×Int)×Int) zyP (by
 intro x y h; have h1:=(zeO h).1; have h2:=(zeO (zeO h).2).1
 exact zhF (zxC.inj (AV.agg.inj h1)) (by simpa using h2))
def zsi:(List ((Int×Int×Int)×Int))→List AV:=fun x=>[.mp (List.map zsf.enc x)]
abbrev zyE:TyD:=TyD.of (List ((Int×Int×Int)×Int)) zsi (by
 intro x y h; simp only [zsi,zbA,AV.v.injEq,Value.int.injEq,Value.bool.injEq,Value.string.injEq,AV.sl.injEq,AV.mp.injEq,true_and,and_true,TyD.minj zsf] at h
 exact (h))
structure GTask where
 Script:Int
 Marker:Int
theorem GTask.eqOf {x y:GTask} (h0:x.Script=y.Script) (h1:x.Marker=y.Marker):x=y:=by cases x; cases y; simp only at *; simp only [h0,h1]
def ziZ:GTask→List AV:=fun x=>[I x.Script,I x.Marker]
abbrev zfa:TyD:=TyD.of GTask ziZ (by
 intro x y h; simp only [ziZ,zbA,AV.v.injEq,Value.int.injEq,Value.bool.injEq,Value.string.injEq,AV.sl.injEq,AV.mp.injEq,true_and,and_true] at h
 exact (GTask.eqOf (h.1) (h.2)))
def nL_GTask:(List GTask)→List AV:=fun x=>[.sl 2 (List.map zfa.enc x)]
abbrev dL_GTask:TyD:=TyD.of (List GTask) nL_GTask (by
 intro x y h; simp only [nL_GTask,zbA,AV.v.injEq,Value.int.injEq,Value.bool.injEq,Value.string.injEq,AV.sl.injEq,AV.mp.injEq,true_and,and_true,TyD.minj zfa] at h
 exact (h))
structure zai where
 L:List Int
 At:Int
theorem zai.eqOf {x y:zai} (h0:x.L=y.L) (h1:x.At=y.At):x=y:=by cases x; cases y; simp only at *; simp only [h0,h1]
def zaz:zai→List AV:=fun x=>[.sl 1 (List.map zbc.enc x.L),I x.At]
abbrev za6:TyD:=TyD.of zai zaz (by
 intro x y h; simp only [zaz,zbA,AV.v.injEq,Value.int.injEq,Value.bool.injEq,Value.string.injEq,AV.sl.injEq,AV.mp.injEq,true_and,and_true,TyD.minj zbc] at h
 exact (zai.eqOf (h.1) (h.2)))
structure zaG where
 script:Int
 part:Int
theorem zaG.eqOf {x y:zaG} (h0:x.script=y.script) (h1:x.part=y.part):x=y:=by cases x; cases y; simp only at *; simp only [h0,h1]
def zbr:zaG→List AV:=fun x=>[I x.script,I x.part]
abbrev zeI:TyD:=TyD.of zaG zbr (by
 intro x y h; simp only [zbr,zbA,AV.v.injEq,Value.int.injEq,Value.bool.injEq,Value.string.injEq,AV.sl.injEq,AV.mp.injEq,true_and,and_true] at h
 exact (zaG.eqOf (h.1) (h.2)))
def zaw:(zaG×zaW)→List AV:=fun x=>[.agg (zeI.enc x.1),.agg (zpO.enc x.2)]
abbrev ze9:TyD:=TyD.of (zaG×zaW) zaw (by
 intro x y h; have h1:=(zeO h).1; have h2:=(zeO (zeO h).2).1
 exact zhF (zeI.inj (AV.agg.inj h1)) (zpO.inj (AV.agg.inj h2)))
def znU:(List (zaG×zaW))→List AV:=fun x=>[.mp (List.map ze9.enc x)]
abbrev zth:TyD:=TyD.of (List (zaG×zaW)) znU (by
 intro x y h; simp only [znU,zbA,AV.v.injEq,Value.int.injEq,Value.bool.injEq,Value.string.injEq,AV.sl.injEq,AV.mp.injEq,true_and,and_true,TyD.minj ze9] at h
 exact (h))
structure zbF where
 event:zab
 void:Bool
theorem zbF.eqOf {x y:zbF} (h0:x.event=y.event) (h1:x.void=y.void):x=y:=by cases x; cases y; simp only at *; simp only [h0,h1]
def zas:zbF→List AV:=fun x=>[I x.event.Stamp.Time,I x.event.Stamp.Source,I x.event.Stamp.Seq,I x.event.Kind,I x.event.Script,I x.event.Part,I x.event.Value,I x.event.Marker,.sl 1 (List.map zbc.enc x.event.Pages),B x.void]
abbrev zef:TyD:=TyD.of zbF zas (by
 intro x y h; simp only [zas,zbA,AV.v.injEq,Value.int.injEq,Value.bool.injEq,Value.string.injEq,AV.sl.injEq,AV.mp.injEq,true_and,and_true,TyD.minj zbc] at h
 exact (zbF.eqOf (zab.eqOf (zaW.eqOf (h.1) (h.2.1) (h.2.2.1)) (h.2.2.2.1) (h.2.2.2.2.1) (h.2.2.2.2.2.1) (h.2.2.2.2.2.2.1) (h.2.2.2.2.2.2.2.1) (h.2.2.2.2.2.2.2.2.1)) (h.2.2.2.2.2.2.2.2.2)))
def ztY:(List zbF)→List AV:=fun x=>[.sl 10 (List.map zef.enc x)]
abbrev zAO:TyD:=TyD.of (List zbF) ztY (by
 intro x y h; simp only [ztY,zbA,AV.v.injEq,Value.int.injEq,Value.bool.injEq,Value.string.injEq,AV.sl.injEq,AV.mp.injEq,true_and,and_true,TyD.minj zef] at h
 exact (h))
def zaB:(zaG×Int)→List AV:=fun x=>[.agg (zeI.enc x.1),I x.2]
abbrev zfo:TyD:=TyD.of (zaG×Int) zaB (by
 intro x y h; have h1:=(zeO h).1; have h2:=(zeO (zeO h).2).1
 exact zhF (zeI.inj (AV.agg.inj h1)) (by simpa using h2))
def zoA:(List (zaG×Int))→List AV:=fun x=>[.mp (List.map zfo.enc x)]
abbrev ztG:TyD:=TyD.of (List (zaG×Int)) zoA (by
 intro x y h; simp only [zoA,zbA,AV.v.injEq,Value.int.injEq,Value.bool.injEq,Value.string.injEq,AV.sl.injEq,AV.mp.injEq,true_and,and_true,TyD.minj zfo] at h
 exact (h))
def nL_Bool:(List Bool)→List AV:=fun x=>[.sl 1 (List.map dBool.enc x)]
abbrev dL_Bool:TyD:=TyD.of (List Bool) nL_Bool (by
 intro x y h; simp only [nL_Bool,zbA,AV.v.injEq,Value.int.injEq,Value.bool.injEq,Value.string.injEq,AV.sl.injEq,AV.mp.injEq,true_and,and_true,TyD.minj dBool] at h
 exact (h))
structure zfi where
 Last:List Bool
 Suspended:Bool
theorem zfi.eqOf {x y:zfi} (h0:x.Last=y.Last) (h1:x.Suspended=y.Suspended):x=y:=by cases x; cases y; simp only at *; simp only [h0,h1]
def zmR:zfi→List AV:=fun x=>[.sl 1 (List.map dBool.enc x.Last),B x.Suspended]
abbrev zu5:TyD:=TyD.of zfi zmR (by
 intro x y h; simp only [zmR,zbA,AV.v.injEq,Value.int.injEq,Value.bool.injEq,Value.string.injEq,AV.sl.injEq,AV.mp.injEq,true_and,and_true,TyD.minj dBool] at h
 exact (zfi.eqOf (h.1) (h.2)))
structure zar where
 level:Int
 marks:List zbF
 period:Int
 started:zaW
 noted:List (zaG×Int)
 watch:zfi
 good:zaW
 some:Bool
 suspensions:List zbq
theorem zar.eqOf {x y:zar} (h0:x.level=y.level) (h1:x.marks=y.marks) (h2:x.period=y.period) (h3:x.started=y.started) (h4:x.noted=y.noted) (h5:x.watch=y.watch) (h6:x.good=y.good) (h7:x.some=y.some) (h8:x.suspensions=y.suspensions):x=y:=by cases x; cases y; simp only at *; simp only [h0,h1,h2,h3,h4,h5,h6,h7,h8]
def ze5:zar→List AV:=fun x=>[I x.level,.sl 10 (List.map zef.enc x.marks),I x.period,I x.started.Time,I x.started.Source,I x.started.Seq,.mp (List.map zfo.enc x.noted),.sl 1 (List.map dBool.enc x.watch.Last),B x.watch.Suspended,I x.good.Time,I x.good.Source,I x.good.Seq,B x.some,.sl 12 (List.map zde.enc x.suspensions)]
abbrev zh8:TyD:=TyD.of zar ze5 (by
 intro x y h; simp only [ze5,zbA,AV.v.injEq,Value.int.injEq,Value.bool.injEq,Value.string.injEq,AV.sl.injEq,AV.mp.injEq,true_and,and_true,TyD.minj dBool,TyD.minj zfo,TyD.minj zde,TyD.minj zef] at h
 exact (zar.eqOf (h.1) (h.2.1) (h.2.2.1) (zaW.eqOf (h.2.2.2.1) (h.2.2.2.2.1) (h.2.2.2.2.2.1)) (h.2.2.2.2.2.2.1) (zfi.eqOf (h.2.2.2.2.2.2.2.1) (h.2.2.2.2.2.2.2.2.1)) (zaW.eqOf (h.2.2.2.2.2.2.2.2.2.1) (h.2.2.2.2.2.2.2.2.2.2.1) (h.2.2.2.2.2.2.2.2.2.2.2.1)) (h.2.2.2.2.2.2.2.2.2.2.2.2.1) (h.2.2.2.2.2.2.2.2.2.2.2.2.2)))
def zb4:(zaG×zab)→List AV:=fun x=>[.agg (zeI.enc x.1),.agg (zaj.enc x.2)]
abbrev zed:TyD:=TyD.of (zaG×zab) zb4 (by
 intro x y h; have h1:=(zeO h).1; have h2:=(zeO (zeO h).2).1
 exact zhF (zeI.inj (AV.agg.inj h1)) (zaj.inj (AV.agg.inj h2)))
def zlp:(List (zaG×zab))→List AV:=fun x=>[.mp (List.map zed.enc x)]
abbrev zq4:TyD:=TyD.of (List (zaG×zab)) zlp (by
 intro x y h; simp only [zlp,zbA,AV.v.injEq,Value.int.injEq,Value.bool.injEq,Value.string.injEq,AV.sl.injEq,AV.mp.injEq,true_and,and_true,TyD.minj zed] at h
 exact (h))
def zce:(Int×Int)→List AV:=fun x=>[I x.1,I x.2]
abbrev zgI:TyD:=TyD.of (Int×Int) zce (by
 intro x y h; simp only [zce,zbA,AV.v.injEq,Value.int.injEq,Value.bool.injEq,Value.string.injEq,AV.sl.injEq,AV.mp.injEq,true_and,and_true] at h
 exact (zhF (h.1) (h.2)))
structure zbd where
 first:Int
 disputed:Bool
theorem zbd.eqOf {x y:zbd} (h0:x.first=y.first) (h1:x.disputed=y.disputed):x=y:=by cases x; cases y; simp only at *; simp only [h0,h1]
def zb6:zbd→List AV:=fun x=>[I x.first,B x.disputed]
abbrev zgm:TyD:=TyD.of zbd zb6 (by
 intro x y h; simp only [zb6,zbA,AV.v.injEq,Value.int.injEq,Value.bool.injEq,Value.string.injEq,AV.sl.injEq,AV.mp.injEq,true_and,and_true] at h
 exact (zbd.eqOf (h.1) (h.2)))
def zb0:((Int×Int)×zbd)→List AV:=fun x=>[.agg (zgI.enc x.1),.agg (zgm.enc x.2)]
abbrev zcD:TyD:=TyD.of ((Int×Int)×zbd) zb0 (by
 intro x y h; have h1:=(zeO h).1; have h2:=(zeO (zeO h).2).1
 exact zhF (zgI.inj (AV.agg.inj h1)) (zgm.inj (AV.agg.inj h2)))
def znk:(List ((Int×Int)×zbd))→List AV:=fun x=>[.mp (List.map zcD.enc x)]
abbrev zsp:TyD:=TyD.of (List ((Int×Int)×zbd)) znk (by
 intro x y h; simp only [znk,zbA,AV.v.injEq,Value.int.injEq,Value.bool.injEq,Value.string.injEq,AV.sl.injEq,AV.mp.injEq,true_and,and_true,TyD.minj zcD] at h
 exact (h))
def zfP:((Int×Int)×Int)→List AV:=fun x=>[.agg (zgI.enc x.1),I x.2]
abbrev zh5:TyD:=TyD.of ((Int×Int)×Int) zfP (by
 intro x y h; have h1:=(zeO h).1; have h2:=(zeO (zeO h).2).1
 exact zhF (zgI.inj (AV.agg.inj h1)) (by simpa using h2))
def zsh:(List ((Int×Int)×Int))→List AV:=fun x=>[.mp (List.map zh5.enc x)]
abbrev zyD:TyD:=TyD.of (List ((Int×Int)×Int)) zsh (by
 intro x y h; simp only [zsh,zbA,AV.v.injEq,Value.int.injEq,Value.bool.injEq,Value.string.injEq,AV.sl.injEq,AV.mp.injEq,true_and,and_true,TyD.minj zh5] at h
 exact (h))
def zgb:((Int×Int)×Bool)→List AV:=fun x=>[.agg (zgI.enc x.1),B x.2]
abbrev zix:TyD:=TyD.of ((Int×Int)×Bool) zgb (by
 intro x y h; have h1:=(zeO h).1; have h2:=(zeO (zeO h).2).1
 exact zhF (zgI.inj (AV.agg.inj h1)) (by simpa using h2))
def ztw:(List ((Int×Int)×Bool))→List AV:=fun x=>[.mp (List.map zix.enc x)]
abbrev zzP:TyD:=TyD.of (List ((Int×Int)×Bool)) ztw (by
 intro x y h; simp only [ztw,zbA,AV.v.injEq,Value.int.injEq,Value.bool.injEq,Value.string.injEq,AV.sl.injEq,AV.mp.injEq,true_and,and_true,TyD.minj zix] at h
 exact (h))
@[simp] theorem zqa {β:Type} (l:List zag) (i:Nat) (k:zag→Option β):elemD zaL (List.map zad l) i k=(l[i]?).bind k:=zgn zaL l i k
@[simp] theorem zbL {β:Type} (l:List zab) (i:Nat) (k:zab→Option β):elemD zaj (List.map zaa l) i k=(l[i]?).bind k:=zgn zaj l i k
@[simp] theorem zia {β:Type} (l:List zbh) (i:Nat) (k:zbh→Option β):elemD zeC (List.map zbj l) i k=(l[i]?).bind k:=zgn zeC l i k
@[simp] theorem ziW {β:Type} (l:List zaQ) (i:Nat) (k:zaQ→Option β):elemD zcW (List.map zaU l) i k=(l[i]?).bind k:=zgn zcW l i k
@[simp] theorem zgV {β:Type} (l:List GPart) (i:Nat) (k:GPart→Option β):elemD zgr (List.map zaZ l) i k=(l[i]?).bind k:=zgn zgr l i k
@[simp] theorem zCN {β:Type} (l:List zbP) (i:Nat) (k:zbP→Option β):elemD zfS (List.map zcJ l) i k=(l[i]?).bind k:=zgn zfS l i k
@[simp] theorem zkc {β:Type} (l:List za0) (i:Nat) (k:za0→Option β):elemD zcY (List.map za7 l) i k=(l[i]?).bind k:=zgn zcY l i k
@[simp] theorem zy6 {β:Type} (l:List GSeed) (i:Nat) (k:GSeed→Option β):elemD zik (List.map zdg l) i k=(l[i]?).bind k:=zgn zik l i k
@[simp] theorem zgE {β:Type} (l:List zbq) (i:Nat) (k:zbq→Option β):elemD zde (List.map zam l) i k=(l[i]?).bind k:=zgn zde l i k
@[simp] theorem zkj {β:Type} (l:List zbF) (i:Nat) (k:zbF→Option β):elemD zef (List.map zas l) i k=(l[i]?).bind k:=zgn zef l i k
@[simp] theorem zCO {β:Type} (l:List (List Int)) (i:Nat) (k:(List Int)→Option β):elemD zkN (List.map zeR l) i k=(l[i]?).bind k:=zgn zkN l i k
def tyTab:List TyD:=[dRaw,dRaw,zbc,zbc,dBool,dI_u8,dI_u8,dRaw,dRaw,dStr,dStr,dStr,zrG,dRaw,dRaw,dRaw,dRaw,dRaw,dRaw,dRaw,dRaw,dI_i32,zkN,dRaw,dRaw,dRaw,dRaw,dL_GMarker,dL_GScript,dL_GPaper,dL_GScheme,dL_GSeed,dRaw,zmx,dRaw,zkb,dRaw,zCI,dRaw,dL_GGiven,zBG,dRaw,zkh,zbc,dRaw,dRaw,dRaw,dRaw,dRaw,zpO,dRaw,zaL,dRaw,zcY,dRaw,dRaw,dRaw,dRaw,dRaw,dRaw,dRaw,zde,dRaw,dRaw,zaj,dRaw,dRaw,zeC,zyE,dRaw,zxC,dRaw,dRaw,dRaw,dRaw,dRaw,dRaw,dL_GTask,dRaw,dRaw,dRaw,dRaw,za6,dRaw,dRaw,dRaw,dRaw,dRaw,dRaw,dRaw,zik,dRaw,dRaw,dL_GPart,dRaw,zcW,dRaw,dRaw,zgr,dRaw,dRaw,dRaw,dRaw,zth,dRaw,dRaw,dRaw,zAO,ztG,dL_Bool,dRaw,zu5,dRaw,zh8,zq4,dRaw,dRaw,zeI,dRaw,dRaw,dRaw,dRaw,dRaw,dRaw,dRaw,dRaw,dRaw,dRaw,dRaw,dL_L_I_i64,dRaw,zfS,dRaw,zef,dRaw,dRaw,zfa,dRaw,dRaw,dRaw,dRaw,dRaw,dRaw,dRaw,dRaw,dRaw,dRaw,dRaw,dRaw,zsp,dRaw,zgI,dRaw,zgm,dRaw,dRaw,dRaw,dRaw,dRaw,dRaw,dRaw,dRaw,dRaw,dRaw,dRaw,dRaw,dRaw,dRaw,zrG,zyD,zzP,dRaw,dRaw,dRaw,dRaw,dRaw,dRaw,dRaw,dRaw,dRaw,dRaw,dRaw,dRaw,dRaw,dRaw,dRaw,dRaw,dRaw,dRaw,dRaw,dRaw,dRaw,dRaw,dRaw,dRaw,dRaw,zbc,dRaw,dRaw,dRaw,dRaw,dRaw,dRaw,dI_u32,dRaw,zrG,dRaw,dRaw,dRaw,dRaw,dRaw,dRaw,dRaw,dRaw,dRaw,dRaw,dRaw,dRaw,dRaw,dRaw,dRaw,dRaw,dRaw,dRaw,dRaw,zrG,dRaw,dRaw,dRaw,dRaw,dRaw,dRaw,dRaw,dRaw,dRaw,dRaw,dRaw,dRaw,dRaw,dRaw,dRaw,dRaw,dRaw,dRaw,dRaw,dRaw,dRaw,dRaw,dRaw,dRaw,dRaw,dRaw,dRaw,dI_u8,dI_u8,dRaw,dRaw,dI_i32,dI_i32,dRaw,dRaw,dRaw]
end Go.Proofs.YtikogkgdkdmljaaGreat
end
