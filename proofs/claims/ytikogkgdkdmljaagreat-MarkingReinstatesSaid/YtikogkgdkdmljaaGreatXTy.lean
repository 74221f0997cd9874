/- The types of the seat as data. -/
import Derived.Test.YtikogkgdkdmljaaGreatAb9
noncomputable section
namespace Go.Proofs.YtikogkgdkdmljaaGreat
open Go.Ab
def zeN:(List Int)→List AV:=fun x=>[.sl 1 (List.map zbg.enc x)]
abbrev zkH:TyD:=TyD.of (List Int) zeN (by
 intro x y h; simp only [zeN,zbC,AV.v.injEq,Value.int.injEq,Value.bool.injEq,Value.string.injEq,AV.sl.injEq,AV.mp.injEq,true_and,and_true,TyD.minj zbg] at h
 exact (h))
structure za3 where
 ID:Int
 Centre:Int
 Level:Int
 Capacity:Int
 Papers:List Int
theorem za3.eqOf {x y:za3} (h0:x.ID=y.ID) (h1:x.Centre=y.Centre) (h2:x.Level=y.Level) (h3:x.Capacity=y.Capacity) (h4:x.Papers=y.Papers):x=y:=by cases x; cases y; simp only at *; simp only [h0,h1,h2,h3,h4]
def za0:za3→List AV:=fun x=>[I x.ID,I x.Centre,I x.Level,I x.Capacity,.sl 1 (List.map zbg.enc x.Papers)]
abbrev zej:TyD:=TyD.of za3 za0 (by
 intro x y h; simp only [za0,zbC,AV.v.injEq,Value.int.injEq,Value.bool.injEq,Value.string.injEq,AV.sl.injEq,AV.mp.injEq,true_and,and_true,TyD.minj zbg] at h
 exact (za3.eqOf (h.1) (h.2.1) (h.2.2.1) (h.2.2.2.1) (h.2.2.2.2)))
def zAV:(List za3)→List AV:=fun x=>[.sl 5 (List.map zej.enc x)]
abbrev dL_GMarker:TyD:=TyD.of (List za3) zAV (by
 intro x y h; simp only [zAV,zbC,AV.v.injEq,Value.int.injEq,Value.bool.injEq,Value.string.injEq,AV.sl.injEq,AV.mp.injEq,true_and,and_true,TyD.minj zej] at h
 exact (h))
structure zaX where
 Number:Int
 Paper:Int
 Candidate:Int
 Centre:Int
 Variant:Int
 Pages:List Int
 Answers:List Int
theorem zaX.eqOf {x y:zaX} (h0:x.Number=y.Number) (h1:x.Paper=y.Paper) (h2:x.Candidate=y.Candidate) (h3:x.Centre=y.Centre) (h4:x.Variant=y.Variant) (h5:x.Pages=y.Pages) (h6:x.Answers=y.Answers):x=y:=by cases x; cases y; simp only at *; simp only [h0,h1,h2,h3,h4,h5,h6]
def za1:zaX→List AV:=fun x=>[I x.Number,I x.Paper,I x.Candidate,I x.Centre,I x.Variant,.sl 1 (List.map zbg.enc x.Pages),.sl 1 (List.map zbg.enc x.Answers)]
abbrev zc7:TyD:=TyD.of zaX za1 (by
 intro x y h; simp only [za1,zbC,AV.v.injEq,Value.int.injEq,Value.bool.injEq,Value.string.injEq,AV.sl.injEq,AV.mp.injEq,true_and,and_true,TyD.minj zbg] at h
 exact (zaX.eqOf (h.1) (h.2.1) (h.2.2.1) (h.2.2.2.1) (h.2.2.2.2.1) (h.2.2.2.2.2.1) (h.2.2.2.2.2.2)))
def zAX:(List zaX)→List AV:=fun x=>[.sl 7 (List.map zc7.enc x)]
abbrev dL_GScript:TyD:=TyD.of (List zaX) zAX (by
 intro x y h; simp only [zAX,zbC,AV.v.injEq,Value.int.injEq,Value.bool.injEq,Value.string.injEq,AV.sl.injEq,AV.mp.injEq,true_and,and_true,TyD.minj zc7] at h
 exact (h))
structure GPart where
 Kind:Int
 Max:Int
 Topic:Int
 Objective:Int
 Options:Int
 Key:Int
theorem GPart.eqOf {x y:GPart} (h0:x.Kind=y.Kind) (h1:x.Max=y.Max) (h2:x.Topic=y.Topic) (h3:x.Objective=y.Objective) (h4:x.Options=y.Options) (h5:x.Key=y.Key):x=y:=by cases x; cases y; simp only at *; simp only [h0,h1,h2,h3,h4,h5]
def zaY:GPart→List AV:=fun x=>[I x.Kind,I x.Max,I x.Topic,I x.Objective,I x.Options,I x.Key]
abbrev zgM:TyD:=TyD.of GPart zaY (by
 intro x y h; simp only [zaY,zbC,AV.v.injEq,Value.int.injEq,Value.bool.injEq,Value.string.injEq,AV.sl.injEq,AV.mp.injEq,true_and,and_true] at h
 exact (GPart.eqOf (h.1) (h.2.1) (h.2.2.1) (h.2.2.2.1) (h.2.2.2.2.1) (h.2.2.2.2.2)))
def nL_GPart:(List GPart)→List AV:=fun x=>[.sl 6 (List.map zgM.enc x)]
abbrev dL_GPart:TyD:=TyD.of (List GPart) nL_GPart (by
 intro x y h; simp only [nL_GPart,zbC,AV.v.injEq,Value.int.injEq,Value.bool.injEq,Value.string.injEq,AV.sl.injEq,AV.mp.injEq,true_and,and_true,TyD.minj zgM] at h
 exact (h))
structure zaP where
 Code:Int
 Variant:Int
 Parts:List GPart
theorem zaP.eqOf {x y:zaP} (h0:x.Code=y.Code) (h1:x.Variant=y.Variant) (h2:x.Parts=y.Parts):x=y:=by cases x; cases y; simp only at *; simp only [h0,h1,h2]
def zaV:zaP→List AV:=fun x=>[I x.Code,I x.Variant,.sl 6 (List.map zgM.enc x.Parts)]
abbrev zcY:TyD:=TyD.of zaP zaV (by
 intro x y h; simp only [zaV,zbC,AV.v.injEq,Value.int.injEq,Value.bool.injEq,Value.string.injEq,AV.sl.injEq,AV.mp.injEq,true_and,and_true,TyD.minj zgM] at h
 exact (zaP.eqOf (h.1) (h.2.1) (h.2.2)))
def zBV:(List zaP)→List AV:=fun x=>[.sl 3 (List.map zcY.enc x)]
abbrev dL_GPaper:TyD:=TyD.of (List zaP) zBV (by
 intro x y h; simp only [zBV,zbC,AV.v.injEq,Value.int.injEq,Value.bool.injEq,Value.string.injEq,AV.sl.injEq,AV.mp.injEq,true_and,and_true,TyD.minj zcY] at h
 exact (h))
def zAY:(List (List Int))→List AV:=fun x=>[.sl 1 (List.map zkH.enc x)]
abbrev dL_L_I_i64:TyD:=TyD.of (List (List Int)) zAY (by
 intro x y h; simp only [zAY,zbC,AV.v.injEq,Value.int.injEq,Value.bool.injEq,Value.string.injEq,AV.sl.injEq,AV.mp.injEq,true_and,and_true,TyD.minj zkH] at h
 exact (h))
structure zbM where
 Keys:List (List Int)
 Withdrawn:List Int
theorem zbM.eqOf {x y:zbM} (h0:x.Keys=y.Keys) (h1:x.Withdrawn=y.Withdrawn):x=y:=by cases x; cases y; simp only at *; simp only [h0,h1]
def zcK:zbM→List AV:=fun x=>[.sl 1 (List.map zkH.enc x.Keys),.sl 1 (List.map zbg.enc x.Withdrawn)]
abbrev zfK:TyD:=TyD.of zbM zcK (by
 intro x y h; simp only [zcK,zbC,AV.v.injEq,Value.int.injEq,Value.bool.injEq,Value.string.injEq,AV.sl.injEq,AV.mp.injEq,true_and,and_true,TyD.minj zbg,TyD.minj zkH] at h
 exact (zbM.eqOf (h.1) (h.2)))
def zAW:(List zbM)→List AV:=fun x=>[.sl 2 (List.map zfK.enc x)]
abbrev dL_GScheme:TyD:=TyD.of (List zbM) zAW (by
 intro x y h; simp only [zAW,zbC,AV.v.injEq,Value.int.injEq,Value.bool.injEq,Value.string.injEq,AV.sl.injEq,AV.mp.injEq,true_and,and_true,TyD.minj zfK] at h
 exact (h))
structure GSeed where
 Script:Int
 Marks:List Int
theorem GSeed.eqOf {x y:GSeed} (h0:x.Script=y.Script) (h1:x.Marks=y.Marks):x=y:=by cases x; cases y; simp only at *; simp only [h0,h1]
def zcE:GSeed→List AV:=fun x=>[I x.Script,.sl 1 (List.map zbg.enc x.Marks)]
abbrev zhe:TyD:=TyD.of GSeed zcE (by
 intro x y h; simp only [zcE,zbC,AV.v.injEq,Value.int.injEq,Value.bool.injEq,Value.string.injEq,AV.sl.injEq,AV.mp.injEq,true_and,and_true,TyD.minj zbg] at h
 exact (GSeed.eqOf (h.1) (h.2)))
def nL_GSeed:(List GSeed)→List AV:=fun x=>[.sl 2 (List.map zhe.enc x)]
abbrev dL_GSeed:TyD:=TyD.of (List GSeed) nL_GSeed (by
 intro x y h; simp only [nL_GSeed,zbC,AV.v.injEq,Value.int.injEq,Value.bool.injEq,Value.string.injEq,AV.sl.injEq,AV.mp.injEq,true_and,and_true,TyD.minj zhe] at h
 exact (h))
structure zbe where
 Part:Int
 Total:Int
 Window:Int
 Fails:Int
theorem zbe.eqOf {x y:zbe} (h0:x.Part=y.Part) (h1:x.Total=y.Total) (h2:x.Window=y.Window) (h3:x.Fails=y.Fails):x=y:=by cases x; cases y; simp only at *; simp only [h0,h1,h2,h3]
def zb4:zbe→List AV:=fun x=>[I x.Part,I x.Total,I x.Window,I x.Fails]
abbrev zmf:TyD:=TyD.of zbe zb4 (by
 intro x y h; simp only [zb4,zbC,AV.v.injEq,Value.int.injEq,Value.bool.injEq,Value.string.injEq,AV.sl.injEq,AV.mp.injEq,true_and,and_true] at h
 exact (zbe.eqOf (h.1) (h.2.1) (h.2.2.1) (h.2.2.2)))
structure zaI where
 Markers:List za3
 Scripts:List zaX
 Papers:List zaP
 Schemes:List zbM
 Seeds:List GSeed
 Monitor:zbe
theorem zaI.eqOf {x y:zaI} (h0:x.Markers=y.Markers) (h1:x.Scripts=y.Scripts) (h2:x.Papers=y.Papers) (h3:x.Schemes=y.Schemes) (h4:x.Seeds=y.Seeds) (h5:x.Monitor=y.Monitor):x=y:=by cases x; cases y; simp only at *; simp only [h0,h1,h2,h3,h4,h5]
def zaF:zaI→List AV:=fun x=>[.sl 5 (List.map zej.enc x.Markers),.sl 7 (List.map zc7.enc x.Scripts),.sl 3 (List.map zcY.enc x.Papers),.sl 2 (List.map zfK.enc x.Schemes),.sl 2 (List.map zhe.enc x.Seeds),I x.Monitor.Part,I x.Monitor.Total,I x.Monitor.Window,I x.Monitor.Fails]
abbrev zla:TyD:=TyD.of zaI zaF (by
 intro x y h; simp only [zaF,zbC,AV.v.injEq,Value.int.injEq,Value.bool.injEq,Value.string.injEq,AV.sl.injEq,AV.mp.injEq,true_and,and_true,TyD.minj zej,TyD.minj zcY,TyD.minj zfK,TyD.minj zc7,TyD.minj zhe] at h
 exact (zaI.eqOf (h.1) (h.2.1) (h.2.2.1) (h.2.2.2.1) (h.2.2.2.2.1) (zbe.eqOf (h.2.2.2.2.2.1) (h.2.2.2.2.2.2.1) (h.2.2.2.2.2.2.2.1) (h.2.2.2.2.2.2.2.2))))
structure zaW where
 Time:Int
 Source:Int
 Seq:Int
theorem zaW.eqOf {x y:zaW} (h0:x.Time=y.Time) (h1:x.Source=y.Source) (h2:x.Seq=y.Seq):x=y:=by cases x; cases y; simp only at *; simp only [h0,h1,h2]
def zcl:zaW→List AV:=fun x=>[I x.Time,I x.Source,I x.Seq]
abbrev zpp:TyD:=TyD.of zaW zcl (by
 intro x y h; simp only [zcl,zbC,AV.v.injEq,Value.int.injEq,Value.bool.injEq,Value.string.injEq,AV.sl.injEq,AV.mp.injEq,true_and,and_true] at h
 exact (zaW.eqOf (h.1) (h.2.1) (h.2.2)))
structure zab where
 Stamp:zaW
 Kind:Int
 Script:Int
 Part:Int
 Value:Int
 Marker:Int
 Pages:List Int
theorem zab.eqOf {x y:zab} (h0:x.Stamp=y.Stamp) (h1:x.Kind=y.Kind) (h2:x.Script=y.Script) (h3:x.Part=y.Part) (h4:x.Value=y.Value) (h5:x.Marker=y.Marker) (h6:x.Pages=y.Pages):x=y:=by cases x; cases y; simp only at *; simp only [h0,h1,h2,h3,h4,h5,h6]
def zaa:zab→List AV:=fun x=>[I x.Stamp.Time,I x.Stamp.Source,I x.Stamp.Seq,I x.Kind,I x.Script,I x.Part,I x.Value,I x.Marker,.sl 1 (List.map zbg.enc x.Pages)]
abbrev zai:TyD:=TyD.of zab zaa (by
 intro x y h; simp only [zaa,zbC,AV.v.injEq,Value.int.injEq,Value.bool.injEq,Value.string.injEq,AV.sl.injEq,AV.mp.injEq,true_and,and_true,TyD.minj zbg] at h
 exact (zab.eqOf (zaW.eqOf (h.1) (h.2.1) (h.2.2.1)) (h.2.2.2.1) (h.2.2.2.2.1) (h.2.2.2.2.2.1) (h.2.2.2.2.2.2.1) (h.2.2.2.2.2.2.2.1) (h.2.2.2.2.2.2.2.2)))
def zwo:(List zab)→List AV:=fun x=>[.sl 9 (List.map zai.enc x)]
abbrev zCi:TyD:=TyD.of (List zab) zwo (by
 intro x y h; simp only [zwo,zbC,AV.v.injEq,Value.int.injEq,Value.bool.injEq,Value.string.injEq,AV.sl.injEq,AV.mp.injEq,true_and,and_true,TyD.minj zai] at h
 exact (h))
structure zaf where
 Script:Int
 Part:Int
 Marker:Int
 Level:Int
 Value:Int
 Stamp:zaW
theorem zaf.eqOf {x y:zaf} (h0:x.Script=y.Script) (h1:x.Part=y.Part) (h2:x.Marker=y.Marker) (h3:x.Level=y.Level) (h4:x.Value=y.Value) (h5:x.Stamp=y.Stamp):x=y:=by cases x; cases y; simp only at *; simp only [h0,h1,h2,h3,h4,h5]
def zad:zaf→List AV:=fun x=>[I x.Script,I x.Part,I x.Marker,I x.Level,I x.Value,I x.Stamp.Time,I x.Stamp.Source,I x.Stamp.Seq]
abbrev zaJ:TyD:=TyD.of zaf zad (by
 intro x y h; simp only [zad,zbC,AV.v.injEq,Value.int.injEq,Value.bool.injEq,Value.string.injEq,AV.sl.injEq,AV.mp.injEq,true_and,and_true] at h
 exact (zaf.eqOf (h.1) (h.2.1) (h.2.2.1) (h.2.2.2.1) (h.2.2.2.2.1) (zaW.eqOf (h.2.2.2.2.2.1) (h.2.2.2.2.2.2.1) (h.2.2.2.2.2.2.2))))
def zBU:(List zaf)→List AV:=fun x=>[.sl 8 (List.map zaJ.enc x)]
abbrev dL_GGiven:TyD:=TyD.of (List zaf) zBU (by
 intro x y h; simp only [zBU,zbC,AV.v.injEq,Value.int.injEq,Value.bool.injEq,Value.string.injEq,AV.sl.injEq,AV.mp.injEq,true_and,and_true,TyD.minj zaJ] at h
 exact (h))
structure zbj where
 Marker:Int
 Good:zaW
 At:zaW
 Until:zaW
 First:Bool
 Lifted:Bool
theorem zbj.eqOf {x y:zbj} (h0:x.Marker=y.Marker) (h1:x.Good=y.Good) (h2:x.At=y.At) (h3:x.Until=y.Until) (h4:x.First=y.First) (h5:x.Lifted=y.Lifted):x=y:=by cases x; cases y; simp only at *; simp only [h0,h1,h2,h3,h4,h5]
def zan:zbj→List AV:=fun x=>[I x.Marker,I x.Good.Time,I x.Good.Source,I x.Good.Seq,I x.At.Time,I x.At.Source,I x.At.Seq,I x.Until.Time,I x.Until.Source,I x.Until.Seq,B x.First,B x.Lifted]
abbrev zde:TyD:=TyD.of zbj zan (by
 intro x y h; simp only [zan,zbC,AV.v.injEq,Value.int.injEq,Value.bool.injEq,Value.string.injEq,AV.sl.injEq,AV.mp.injEq,true_and,and_true] at h
 exact (zbj.eqOf (h.1) (zaW.eqOf (h.2.1) (h.2.2.1) (h.2.2.2.1)) (zaW.eqOf (h.2.2.2.2.1) (h.2.2.2.2.2.1) (h.2.2.2.2.2.2.1)) (zaW.eqOf (h.2.2.2.2.2.2.2.1) (h.2.2.2.2.2.2.2.2.1) (h.2.2.2.2.2.2.2.2.2.1)) (h.2.2.2.2.2.2.2.2.2.2.1) (h.2.2.2.2.2.2.2.2.2.2.2)))
def zuV:(List zbj)→List AV:=fun x=>[.sl 12 (List.map zde.enc x)]
abbrev zBl:TyD:=TyD.of (List zbj) zuV (by
 intro x y h; simp only [zuV,zbC,AV.v.injEq,Value.int.injEq,Value.bool.injEq,Value.string.injEq,AV.sl.injEq,AV.mp.injEq,true_and,and_true,TyD.minj zde] at h
 exact (h))
structure zbX where
 Given:List zaf
 Suspensions:List zbj
theorem zbX.eqOf {x y:zbX} (h0:x.Given=y.Given) (h1:x.Suspensions=y.Suspensions):x=y:=by cases x; cases y; simp only at *; simp only [h0,h1]
def zco:zbX→List AV:=fun x=>[.sl 8 (List.map zaJ.enc x.Given),.sl 12 (List.map zde.enc x.Suspensions)]
abbrev zj7:TyD:=TyD.of zbX zco (by
 intro x y h; simp only [zco,zbC,AV.v.injEq,Value.int.injEq,Value.bool.injEq,Value.string.injEq,AV.sl.injEq,AV.mp.injEq,true_and,and_true,TyD.minj zaJ,TyD.minj zde] at h
 exact (zbX.eqOf (h.1) (h.2)))
def zBT:(Int×Int×Int)→List AV:=fun x=>[I x.1,I x.2.1,I x.2.2]
abbrev zxd:TyD:=TyD.of (Int×Int×Int) zBT (by
 intro x y h; simp only [zBT,zbC,AV.v.injEq,Value.int.injEq,Value.bool.injEq,Value.string.injEq,AV.sl.injEq,AV.mp.injEq,true_and,and_true] at h
 exact (zg4 (h.1) (zg4 (h.2.1) (h.2.2))))
def zyr:((Int×Int×Int)×Int)→List AV:=fun x=>[.agg (zxd.enc x.1),I x.2]
abbrev zrJ:TyD:=TyD.of ((Int×Int×Int)×Int) zyr (by
 intro x y h; have h1:=(zeJ h).1; have h2:=(zeJ (zeJ h).2).1
 exact zg4 (zxd.inj (AV.agg.inj h1)) (by simpa using h2))
def zrM:(List ((Int×Int×Int)×Int))→List AV:=fun x=>[.mp (List.map zrJ.enc x)]
abbrev zyh:TyD:=TyD.of (List ((Int×Int×Int)×Int)) zrM (by
 intro x y h; simp only [zrM,zbC,AV.v.injEq,Value.int.injEq,Value.bool.injEq,Value.string.injEq,AV.sl.injEq,AV.mp.injEq,true_and,and_true,TyD.minj zrJ] at h
 exact (h))
structure GTask where
 Script:Int
 Marker:Int
theorem GTask.eqOf {x y:GTask} (h0:x.Script=y.Script) (h1:x.Marker=y.Marker):x=y:=by cases x; cases y; simp only at *; simp only [h0,h1]
def ziP:GTask→List AV:=fun x=>[I x.Script,I x.Marker]
abbrev ze7:TyD:=TyD.of GTask ziP (by
 intro x y h; simp only [ziP,zbC,AV.v.injEq,Value.int.injEq,Value.bool.injEq,Value.string.injEq,AV.sl.injEq,AV.mp.injEq,true_and,and_true] at h
 exact (GTask.eqOf (h.1) (h.2)))
def nL_GTask:(List GTask)→List AV:=fun x=>[.sl 2 (List.map ze7.enc x)]
abbrev dL_GTask:TyD:=TyD.of (List GTask) nL_GTask (by
 intro x y h; simp only [nL_GTask,zbC,AV.v.injEq,Value.int.injEq,Value.bool.injEq,Value.string.injEq,AV.sl.injEq,AV.mp.injEq,true_and,and_true,TyD.minj ze7] at h
 exact (h))
structure zak where
 L:List Int
 At:Int
theorem zak.eqOf {x y:zak} (h0:x.L=y.L) (h1:x.At=y.At):x=y:=by cases x; cases y; simp only at *; simp only [h0,h1]
def zaL:zak→List AV:=fun x=>[.sl 1 (List.map zbg.enc x.L),I x.At]
abbrev za5:TyD:=TyD.of zak zaL (by
 intro x y h; simp only [zaL,zbC,AV.v.injEq,Value.int.injEq,Value.bool.injEq,Value.string.injEq,AV.sl.injEq,AV.mp.injEq,true_and,and_true,TyD.minj zbg] at h
 exact (zak.eqOf (h.1) (h.2)))
structure zaB where
 script:Int
 part:Int
theorem zaB.eqOf {x y:zaB} (h0:x.script=y.script) (h1:x.part=y.part):x=y:=by cases x; cases y; simp only at *; simp only [h0,h1]
def zbq:zaB→List AV:=fun x=>[I x.script,I x.part]
abbrev zeD:TyD:=TyD.of zaB zbq (by
 intro x y h; simp only [zbq,zbC,AV.v.injEq,Value.int.injEq,Value.bool.injEq,Value.string.injEq,AV.sl.injEq,AV.mp.injEq,true_and,and_true] at h
 exact (zaB.eqOf (h.1) (h.2)))
def zav:(zaB×zaW)→List AV:=fun x=>[.agg (zeD.enc x.1),.agg (zpp.enc x.2)]
abbrev ze6:TyD:=TyD.of (zaB×zaW) zav (by
 intro x y h; have h1:=(zeJ h).1; have h2:=(zeJ (zeJ h).2).1
 exact zg4 (zeD.inj (AV.agg.inj h1)) (zpp.inj (AV.agg.inj h2)))
def znF:(List (zaB×zaW))→List AV:=fun x=>[.mp (List.map ze6.enc x)]
abbrev zsO:TyD:=TyD.of (List (zaB×zaW)) znF (by
 intro x y h; simp only [znF,zbC,AV.v.injEq,Value.int.injEq,Value.bool.injEq,Value.string.injEq,AV.sl.injEq,AV.mp.injEq,true_and,and_true,TyD.minj ze6] at h
 exact (h))
structure zbp where
 event:zab
 void:Bool
theorem zbp.eqOf {x y:zbp} (h0:x.event=y.event) (h1:x.void=y.void):x=y:=by cases x; cases y; simp only at *; simp only [h0,h1]
def zat:zbp→List AV:=fun x=>[I x.event.Stamp.Time,I x.event.Stamp.Source,I x.event.Stamp.Seq,I x.event.Kind,I x.event.Script,I x.event.Part,I x.event.Value,I x.event.Marker,.sl 1 (List.map zbg.enc x.event.Pages),B x.void]
abbrev zeb:TyD:=TyD.of zbp zat (by
 intro x y h; simp only [zat,zbC,AV.v.injEq,Value.int.injEq,Value.bool.injEq,Value.string.injEq,AV.sl.injEq,AV.mp.injEq,true_and,and_true,TyD.minj zbg] at h
 exact (zbp.eqOf (zab.eqOf (zaW.eqOf (h.1) (h.2.1) (h.2.2.1)) (h.2.2.2.1) (h.2.2.2.2.1) (h.2.2.2.2.2.1) (h.2.2.2.2.2.2.1) (h.2.2.2.2.2.2.2.1) (h.2.2.2.2.2.2.2.2.1)) (h.2.2.2.2.2.2.2.2.2)))
def zty:(List zbp)→List AV:=fun x=>[.sl 10 (List.map zeb.enc x)]
abbrev zAu:TyD:=TyD.of (List zbp) zty (by
 intro x y h; simp only [zty,zbC,AV.v.injEq,Value.int.injEq,Value.bool.injEq,Value.string.injEq,AV.sl.injEq,AV.mp.injEq,true_and,and_true,TyD.minj zeb] at h
 exact (h))
def zaA:(zaB×Int)→List AV:=fun x=>[.agg (zeD.enc x.1),I x.2]
abbrev zfj:TyD:=TyD.of (zaB×Int) zaA (by
 intro x y h; have h1:=(zeJ h).1; have h2:=(zeJ (zeJ h).2).1
 exact zg4 (zeD.inj (AV.agg.inj h1)) (by simpa using h2))
def zok:(List (zaB×Int))→List AV:=fun x=>[.mp (List.map zfj.enc x)]
abbrev zte:TyD:=TyD.of (List (zaB×Int)) zok (by
 intro x y h; simp only [zok,zbC,AV.v.injEq,Value.int.injEq,Value.bool.injEq,Value.string.injEq,AV.sl.injEq,AV.mp.injEq,true_and,and_true,TyD.minj zfj] at h
 exact (h))
def nL_Bool:(List Bool)→List AV:=fun x=>[.sl 1 (List.map dBool.enc x)]
abbrev dL_Bool:TyD:=TyD.of (List Bool) nL_Bool (by
 intro x y h; simp only [nL_Bool,zbC,AV.v.injEq,Value.int.injEq,Value.bool.injEq,Value.string.injEq,AV.sl.injEq,AV.mp.injEq,true_and,and_true,TyD.minj dBool] at h
 exact (h))
structure ze2 where
 Last:List Bool
 Suspended:Bool
theorem ze2.eqOf {x y:ze2} (h0:x.Last=y.Last) (h1:x.Suspended=y.Suspended):x=y:=by cases x; cases y; simp only at *; simp only [h0,h1]
def zmB:ze2→List AV:=fun x=>[.sl 1 (List.map dBool.enc x.Last),B x.Suspended]
abbrev zuG:TyD:=TyD.of ze2 zmB (by
 intro x y h; simp only [zmB,zbC,AV.v.injEq,Value.int.injEq,Value.bool.injEq,Value.string.injEq,AV.sl.injEq,AV.mp.injEq,true_and,and_true,TyD.minj dBool] at h
 exact (ze2.eqOf (h.1) (h.2)))
structure zal where
 level:Int
 marks:List zbp
 period:Int
 started:zaW
 noted:List (zaB×Int)
 watch:ze2
 good:zaW
 some:Bool
 suspensions:List zbj
theorem zal.eqOf {x y:zal} (h0:x.level=y.level) (h1:x.marks=y.marks) (h2:x.period=y.period) (h3:x.started=y.started) (h4:x.noted=y.noted) (h5:x.watch=y.watch) (h6:x.good=y.good) (h7:x.some=y.some) (h8:x.suspensions=y.suspensions):x=y:=by cases x; cases y; simp only at *; simp only [h0,h1,h2,h3,h4,h5,h6,h7,h8]
def ze0:zal→List AV:=fun x=>[I x.level,.sl 10 (List.map zeb.enc x.marks),I x.period,I x.started.Time,I x.started.Source,I x.started.Seq,.mp (List.map zfj.enc x.noted),.sl 1 (List.map dBool.enc x.watch.Last),B x.watch.Suspended,I x.good.Time,I x.good.Source,I x.good.Seq,B x.some,.sl 12 (List.map zde.enc x.suspensions)]
abbrev zhY:TyD:=TyD.of zal ze0 (by
 intro x y h; simp only [ze0,zbC,AV.v.injEq,Value.int.injEq,Value.bool.injEq,Value.string.injEq,AV.sl.injEq,AV.mp.injEq,true_and,and_true,TyD.minj dBool,TyD.minj zfj,TyD.minj zde,TyD.minj zeb] at h
 exact (zal.eqOf (h.1) (h.2.1) (h.2.2.1) (zaW.eqOf (h.2.2.2.1) (h.2.2.2.2.1) (h.2.2.2.2.2.1)) (h.2.2.2.2.2.2.1) (ze2.eqOf (h.2.2.2.2.2.2.2.1) (h.2.2.2.2.2.2.2.2.1)) (zaW.eqOf (h.2.2.2.2.2.2.2.2.2.1) (h.2.2.2.2.2.2.2.2.2.2.1) (h.2.2.2.2.2.2.2.2.2.2.2.1)) (h.2.2.2.2.2.2.2.2.2.2.2.2.1) (h.2.2.2.2.2.2.2.2.2.2.2.2.2)))
def zbZ:(zaB×zab)→List AV:=fun x=>[.agg (zeD.enc x.1),.agg (zai.enc x.2)]
abbrev zd9:TyD:=TyD.of (zaB×zab) zbZ (by
 intro x y h; have h1:=(zeJ h).1; have h2:=(zeJ (zeJ h).2).1
 exact zg4 (zeD.inj (AV.agg.inj h1)) (zai.inj (AV.agg.inj h2)))
def zlg:(List (zaB×zab))→List AV:=fun x=>[.mp (List.map zd9.enc x)]
abbrev zqz:TyD:=TyD.of (List (zaB×zab)) zlg (by
 intro x y h; simp only [zlg,zbC,AV.v.injEq,Value.int.injEq,Value.bool.injEq,Value.string.injEq,AV.sl.injEq,AV.mp.injEq,true_and,and_true,TyD.minj zd9] at h
 exact (h))
def zd8:(Int×Int)→List AV:=fun x=>[I x.1,I x.2]
abbrev zgA:TyD:=TyD.of (Int×Int) zd8 (by
 intro x y h; simp only [zd8,zbC,AV.v.injEq,Value.int.injEq,Value.bool.injEq,Value.string.injEq,AV.sl.injEq,AV.mp.injEq,true_and,and_true] at h
 exact (zg4 (h.1) (h.2)))
structure zbk where
 first:Int
 disputed:Bool
theorem zbk.eqOf {x y:zbk} (h0:x.first=y.first) (h1:x.disputed=y.disputed):x=y:=by cases x; cases y; simp only at *; simp only [h0,h1]
def zb0:zbk→List AV:=fun x=>[I x.first,B x.disputed]
abbrev zgf:TyD:=TyD.of zbk zb0 (by
 intro x y h; simp only [zb0,zbC,AV.v.injEq,Value.int.injEq,Value.bool.injEq,Value.string.injEq,AV.sl.injEq,AV.mp.injEq,true_and,and_true] at h
 exact (zbk.eqOf (h.1) (h.2)))
def zbW:((Int×Int)×zbk)→List AV:=fun x=>[.agg (zgA.enc x.1),.agg (zgf.enc x.2)]
abbrev zcz:TyD:=TyD.of ((Int×Int)×zbk) zbW (by
 intro x y h; have h1:=(zeJ h).1; have h2:=(zeJ (zeJ h).2).1
 exact zg4 (zgA.inj (AV.agg.inj h1)) (zgf.inj (AV.agg.inj h2)))
def zm5:(List ((Int×Int)×zbk))→List AV:=fun x=>[.mp (List.map zcz.enc x)]
abbrev zrT:TyD:=TyD.of (List ((Int×Int)×zbk)) zm5 (by
 intro x y h; simp only [zm5,zbC,AV.v.injEq,Value.int.injEq,Value.bool.injEq,Value.string.injEq,AV.sl.injEq,AV.mp.injEq,true_and,and_true,TyD.minj zcz] at h
 exact (h))
def zyq:((Int×Int)×Int)→List AV:=fun x=>[.agg (zgA.enc x.1),I x.2]
abbrev zhV:TyD:=TyD.of ((Int×Int)×Int) zyq (by
 intro x y h; have h1:=(zeJ h).1; have h2:=(zeJ (zeJ h).2).1
 exact zg4 (zgA.inj (AV.agg.inj h1)) (by simpa using h2))
def zrL:(List ((Int×Int)×Int))→List AV:=fun x=>[.mp (List.map zhV.enc x)]
abbrev zyg:TyD:=TyD.of (List ((Int×Int)×Int)) zrL (by
 intro x y h; simp only [zrL,zbC,AV.v.injEq,Value.int.injEq,Value.bool.injEq,Value.string.injEq,AV.sl.injEq,AV.mp.injEq,true_and,and_true,TyD.minj zhV] at h
 exact (h))
def zzO:((Int×Int)×Bool)→List AV:=fun x=>[.agg (zgA.enc x.1),B x.2]
abbrev zik:TyD:=TyD.of ((Int×Int)×Bool) zzO (by
 intro x y h; have h1:=(zeJ h).1; have h2:=(zeJ (zeJ h).2).1
 exact zg4 (zgA.inj (AV.agg.inj h1)) (by simpa using h2))
def zs4:(List ((Int×Int)×Bool))→List AV:=fun x=>[.mp (List.map zik.enc x)]
abbrev zzt:TyD:=TyD.of (List ((Int×Int)×Bool)) zs4 (by
 intro x y h; simp only [zs4,zbC,AV.v.injEq,Value.int.injEq,Value.bool.injEq,Value.string.injEq,AV.sl.injEq,AV.mp.injEq,true_and,and_true,TyD.minj zik] at h
 exact (h))
@[simp] theorem ziL {β:Type} (l:List zaf) (i:Nat) (k:zaf→Option β):elemD zaJ (List.map zad l) i k=(l[i]?).bind k:=zgg zaJ l i k
@[simp] theorem zfo {β:Type} (l:List zab) (i:Nat) (k:zab→Option β):elemD zai (List.map zaa l) i k=(l[i]?).bind k:=zgg zai l i k
@[simp] theorem zi5 {β:Type} (l:List za3) (i:Nat) (k:za3→Option β):elemD zej (List.map za0 l) i k=(l[i]?).bind k:=zgg zej l i k
@[simp] theorem ziM {β:Type} (l:List zaP) (i:Nat) (k:zaP→Option β):elemD zcY (List.map zaV l) i k=(l[i]?).bind k:=zgg zcY l i k
@[simp] theorem ziy {β:Type} (l:List GPart) (i:Nat) (k:GPart→Option β):elemD zgM (List.map zaY l) i k=(l[i]?).bind k:=zgg zgM l i k
@[simp] theorem zCm {β:Type} (l:List zbM) (i:Nat) (k:zbM→Option β):elemD zfK (List.map zcK l) i k=(l[i]?).bind k:=zgg zfK l i k
@[simp] theorem zoT {β:Type} (l:List zaX) (i:Nat) (k:zaX→Option β):elemD zc7 (List.map za1 l) i k=(l[i]?).bind k:=zgg zc7 l i k
@[simp] theorem zqX {β:Type} (l:List GSeed) (i:Nat) (k:GSeed→Option β):elemD zhe (List.map zcE l) i k=(l[i]?).bind k:=zgg zhe l i k
@[simp] theorem zgw {β:Type} (l:List zbj) (i:Nat) (k:zbj→Option β):elemD zde (List.map zan l) i k=(l[i]?).bind k:=zgg zde l i k
@[simp] theorem zj9 {β:Type} (l:List zbp) (i:Nat) (k:zbp→Option β):elemD zeb (List.map zat l) i k=(l[i]?).bind k:=zgg zeb l i k
@[simp] theorem zCn {β:Type} (l:List (List Int)) (i:Nat) (k:(List Int)→Option β):elemD zkH (List.map zeN l) i k=(l[i]?).bind k:=zgg zkH l i k
def tyTab:List TyD:=[dRaw,dRaw,zbg,zbg,dBool,dI_u8,dI_u8,dRaw,dRaw,dStr,dStr,dStr,zrd,dRaw,dRaw,dRaw,dRaw,dRaw,dRaw,dRaw,dRaw,dI_i32,zkH,dRaw,dRaw,dRaw,dRaw,dL_GMarker,dL_GScript,dL_GPaper,dL_GScheme,dL_GSeed,dRaw,zmf,dRaw,zla,dRaw,zCi,dRaw,dL_GGiven,zBl,dRaw,zj7,zbg,dRaw,dRaw,dRaw,dRaw,dRaw,zpp,dRaw,zaJ,dRaw,zc7,dRaw,dRaw,dRaw,dRaw,dRaw,dRaw,dRaw,zde,dRaw,dRaw,zai,dRaw,dRaw,zej,zyh,dRaw,zxd,dRaw,dRaw,dRaw,dRaw,dRaw,dRaw,dL_GTask,dRaw,dRaw,dRaw,dRaw,za5,dRaw,dRaw,dRaw,dRaw,dRaw,dRaw,dRaw,zhe,dRaw,dRaw,dL_GPart,dRaw,zcY,dRaw,dRaw,zgM,dRaw,dRaw,dRaw,dRaw,zsO,dRaw,dRaw,dRaw,zAu,zte,dL_Bool,dRaw,zuG,dRaw,zhY,zqz,dRaw,dRaw,zeD,dRaw,dRaw,dRaw,dRaw,dRaw,dRaw,dRaw,dRaw,dRaw,dRaw,dRaw,dL_L_I_i64,dRaw,zfK,dRaw,zeb,dRaw,dRaw,ze7,dRaw,dRaw,dRaw,dRaw,dRaw,dRaw,dRaw,dRaw,dRaw,dRaw,dRaw,dRaw,zrT,dRaw,zgA,dRaw,zgf,dRaw,dRaw,dRaw,dRaw,dRaw,dRaw,dRaw,dRaw,dRaw,dRaw,dRaw,dRaw,dRaw,dRaw,zrd,zyg,zzt,dRaw,dRaw,dRaw,dRaw,dRaw,dRaw,dRaw,dRaw,dRaw,dRaw,dRaw,dRaw,dRaw,dRaw,dRaw,dRaw,dRaw,dRaw,dRaw,dRaw,dRaw,dRaw,dRaw,dRaw,dRaw,zbg,dRaw,dRaw,dRaw,dRaw,dRaw,dRaw,dI_u32,dRaw,zrd,dRaw,dRaw,dRaw,dRaw,dRaw,dRaw,dRaw,dRaw,dRaw,dRaw,dRaw,dRaw,dRaw,dRaw,dRaw,dRaw,dRaw,dRaw,dRaw,zrd,dRaw,dRaw,dRaw,dRaw,dRaw,dRaw,dRaw,dRaw,dRaw,dRaw,dRaw,dRaw,dRaw,dRaw,dRaw,dRaw,dRaw,dRaw,dRaw,dRaw,dRaw,dRaw,dRaw,dRaw,dRaw,dRaw,dRaw,dI_u8,dI_u8,dRaw,dRaw,dI_i32,dI_i32,dRaw,dRaw,dRaw]
end Go.Proofs.YtikogkgdkdmljaaGreat
end
