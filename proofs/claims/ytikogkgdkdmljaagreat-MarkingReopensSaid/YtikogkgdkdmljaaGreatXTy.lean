/- The types of the seat as data. -/
import Derived.Test.YtikogkgdkdmljaaGreatAb9
set_option linter.unusedSimpArgs false
set_option linter.unusedVariables false
noncomputable section
namespace Go.Proofs.YtikogkgdkdmljaaGreat
open Go.Ab
def zcJ:(List Int)→List AV:=fun x=>[.sl 1 (List.map zaV.enc x)]
abbrev zg2:TyD:=TyD.of (List Int) zcJ (by
 intro x y h; simp only [zcJ,zbl,AV.v.injEq,Value.int.injEq,Value.bool.injEq,Value.string.injEq,AV.sl.injEq,AV.mp.injEq,true_and,and_true,TyD.minj zaV] at h
 exact (h))
structure za6 where
 ID:Int
 Centre:Int
 Level:Int
 Capacity:Int
 Papers:List Int
theorem za6.eqOf {x y:za6} (h0:x.ID=y.ID) (h1:x.Centre=y.Centre) (h2:x.Level=y.Level) (h3:x.Capacity=y.Capacity) (h4:x.Papers=y.Papers):x=y:=by cases x; cases y; simp only at *; simp only [h0,h1,h2,h3,h4]
def za5:za6→List AV:=fun x=>[I x.ID,I x.Centre,I x.Level,I x.Capacity,.sl 1 (List.map zaV.enc x.Papers)]
abbrev zcX:TyD:=TyD.of za6 za5 (by
 intro x y h; simp only [za5,zbl,AV.v.injEq,Value.int.injEq,Value.bool.injEq,Value.string.injEq,AV.sl.injEq,AV.mp.injEq,true_and,and_true,TyD.minj zaV] at h
 exact (za6.eqOf (h.1) (h.2.1) (h.2.2.1) (h.2.2.2.1) (h.2.2.2.2)))
def zwF:(List za6)→List AV:=fun x=>[.sl 5 (List.map zcX.enc x)]
abbrev dL_GMarker:TyD:=TyD.of (List za6) zwF (by
 intro x y h; simp only [zwF,zbl,AV.v.injEq,Value.int.injEq,Value.bool.injEq,Value.string.injEq,AV.sl.injEq,AV.mp.injEq,true_and,and_true,TyD.minj zcX] at h
 exact (h))
structure zaP where
 Number:Int
 Paper:Int
 Candidate:Int
 Centre:Int
 Variant:Int
 Pages:List Int
 Answers:List Int
theorem zaP.eqOf {x y:zaP} (h0:x.Number=y.Number) (h1:x.Paper=y.Paper) (h2:x.Candidate=y.Candidate) (h3:x.Centre=y.Centre) (h4:x.Variant=y.Variant) (h5:x.Pages=y.Pages) (h6:x.Answers=y.Answers):x=y:=by cases x; cases y; simp only at *; simp only [h0,h1,h2,h3,h4,h5,h6]
def zaT:zaP→List AV:=fun x=>[I x.Number,I x.Paper,I x.Candidate,I x.Centre,I x.Variant,.sl 1 (List.map zaV.enc x.Pages),.sl 1 (List.map zaV.enc x.Answers)]
abbrev zb5:TyD:=TyD.of zaP zaT (by
 intro x y h; simp only [zaT,zbl,AV.v.injEq,Value.int.injEq,Value.bool.injEq,Value.string.injEq,AV.sl.injEq,AV.mp.injEq,true_and,and_true,TyD.minj zaV] at h
 exact (zaP.eqOf (h.1) (h.2.1) (h.2.2.1) (h.2.2.2.1) (h.2.2.2.2.1) (h.2.2.2.2.2.1) (h.2.2.2.2.2.2)))
def zwH:(List zaP)→List AV:=fun x=>[.sl 7 (List.map zb5.enc x)]
abbrev dL_GScript:TyD:=TyD.of (List zaP) zwH (by
 intro x y h; simp only [zwH,zbl,AV.v.injEq,Value.int.injEq,Value.bool.injEq,Value.string.injEq,AV.sl.injEq,AV.mp.injEq,true_and,and_true,TyD.minj zb5] at h
 exact (h))
structure GPart where
 Kind:Int
 Max:Int
 Topic:Int
 Objective:Int
 Options:Int
 Key:Int
theorem GPart.eqOf {x y:GPart} (h0:x.Kind=y.Kind) (h1:x.Max=y.Max) (h2:x.Topic=y.Topic) (h3:x.Objective=y.Objective) (h4:x.Options=y.Options) (h5:x.Key=y.Key):x=y:=by cases x; cases y; simp only at *; simp only [h0,h1,h2,h3,h4,h5]
def zaO:GPart→List AV:=fun x=>[I x.Kind,I x.Max,I x.Topic,I x.Objective,I x.Options,I x.Key]
abbrev zec:TyD:=TyD.of GPart zaO (by
 intro x y h; simp only [zaO,zbl,AV.v.injEq,Value.int.injEq,Value.bool.injEq,Value.string.injEq,AV.sl.injEq,AV.mp.injEq,true_and,and_true] at h
 exact (GPart.eqOf (h.1) (h.2.1) (h.2.2.1) (h.2.2.2.1) (h.2.2.2.2.1) (h.2.2.2.2.2)))
def nL_GPart:(List GPart)→List AV:=fun x=>[.sl 6 (List.map zec.enc x)]
abbrev dL_GPart:TyD:=TyD.of (List GPart) nL_GPart (by
 intro x y h; simp only [nL_GPart,zbl,AV.v.injEq,Value.int.injEq,Value.bool.injEq,Value.string.injEq,AV.sl.injEq,AV.mp.injEq,true_and,and_true,TyD.minj zec] at h
 exact (h))
structure zaD where
 Code:Int
 Variant:Int
 Parts:List GPart
theorem zaD.eqOf {x y:zaD} (h0:x.Code=y.Code) (h1:x.Variant=y.Variant) (h2:x.Parts=y.Parts):x=y:=by cases x; cases y; simp only at *; simp only [h0,h1,h2]
def zaK:zaD→List AV:=fun x=>[I x.Code,I x.Variant,.sl 6 (List.map zec.enc x.Parts)]
abbrev zb1:TyD:=TyD.of zaD zaK (by
 intro x y h; simp only [zaK,zbl,AV.v.injEq,Value.int.injEq,Value.bool.injEq,Value.string.injEq,AV.sl.injEq,AV.mp.injEq,true_and,and_true,TyD.minj zec] at h
 exact (zaD.eqOf (h.1) (h.2.1) (h.2.2)))
def zxL:(List zaD)→List AV:=fun x=>[.sl 3 (List.map zb1.enc x)]
abbrev dL_GPaper:TyD:=TyD.of (List zaD) zxL (by
 intro x y h; simp only [zxL,zbl,AV.v.injEq,Value.int.injEq,Value.bool.injEq,Value.string.injEq,AV.sl.injEq,AV.mp.injEq,true_and,and_true,TyD.minj zb1] at h
 exact (h))
def zwI:(List (List Int))→List AV:=fun x=>[.sl 1 (List.map zg2.enc x)]
abbrev dL_L_I_i64:TyD:=TyD.of (List (List Int)) zwI (by
 intro x y h; simp only [zwI,zbl,AV.v.injEq,Value.int.injEq,Value.bool.injEq,Value.string.injEq,AV.sl.injEq,AV.mp.injEq,true_and,and_true,TyD.minj zg2] at h
 exact (h))
structure zbr where
 Keys:List (List Int)
 Withdrawn:List Int
theorem zbr.eqOf {x y:zbr} (h0:x.Keys=y.Keys) (h1:x.Withdrawn=y.Withdrawn):x=y:=by cases x; cases y; simp only at *; simp only [h0,h1]
def zbS:zbr→List AV:=fun x=>[.sl 1 (List.map zg2.enc x.Keys),.sl 1 (List.map zaV.enc x.Withdrawn)]
abbrev zdt:TyD:=TyD.of zbr zbS (by
 intro x y h; simp only [zbS,zbl,AV.v.injEq,Value.int.injEq,Value.bool.injEq,Value.string.injEq,AV.sl.injEq,AV.mp.injEq,true_and,and_true,TyD.minj zaV,TyD.minj zg2] at h
 exact (zbr.eqOf (h.1) (h.2)))
def zwG:(List zbr)→List AV:=fun x=>[.sl 2 (List.map zdt.enc x)]
abbrev dL_GScheme:TyD:=TyD.of (List zbr) zwG (by
 intro x y h; simp only [zwG,zbl,AV.v.injEq,Value.int.injEq,Value.bool.injEq,Value.string.injEq,AV.sl.injEq,AV.mp.injEq,true_and,and_true,TyD.minj zdt] at h
 exact (h))
structure GSeed where
 Script:Int
 Marks:List Int
theorem GSeed.eqOf {x y:GSeed} (h0:x.Script=y.Script) (h1:x.Marks=y.Marks):x=y:=by cases x; cases y; simp only at *; simp only [h0,h1]
def zb8:GSeed→List AV:=fun x=>[I x.Script,.sl 1 (List.map zaV.enc x.Marks)]
abbrev zeX:TyD:=TyD.of GSeed zb8 (by
 intro x y h; simp only [zb8,zbl,AV.v.injEq,Value.int.injEq,Value.bool.injEq,Value.string.injEq,AV.sl.injEq,AV.mp.injEq,true_and,and_true,TyD.minj zaV] at h
 exact (GSeed.eqOf (h.1) (h.2)))
def nL_GSeed:(List GSeed)→List AV:=fun x=>[.sl 2 (List.map zeX.enc x)]
abbrev dL_GSeed:TyD:=TyD.of (List GSeed) nL_GSeed (by
 intro x y h; simp only [nL_GSeed,zbl,AV.v.injEq,Value.int.injEq,Value.bool.injEq,Value.string.injEq,AV.sl.injEq,AV.mp.injEq,true_and,and_true,TyD.minj zeX] at h
 exact (h))
structure zaY where
 Part:Int
 Total:Int
 Window:Int
 Fails:Int
theorem zaY.eqOf {x y:zaY} (h0:x.Part=y.Part) (h1:x.Total=y.Total) (h2:x.Window=y.Window) (h3:x.Fails=y.Fails):x=y:=by cases x; cases y; simp only at *; simp only [h0,h1,h2,h3]
def zbC:zaY→List AV:=fun x=>[I x.Part,I x.Total,I x.Window,I x.Fails]
abbrev ziq:TyD:=TyD.of zaY zbC (by
 intro x y h; simp only [zbC,zbl,AV.v.injEq,Value.int.injEq,Value.bool.injEq,Value.string.injEq,AV.sl.injEq,AV.mp.injEq,true_and,and_true] at h
 exact (zaY.eqOf (h.1) (h.2.1) (h.2.2.1) (h.2.2.2)))
structure zaA where
 Markers:List za6
 Scripts:List zaP
 Papers:List zaD
 Schemes:List zbr
 Seeds:List GSeed
 Monitor:zaY
theorem zaA.eqOf {x y:zaA} (h0:x.Markers=y.Markers) (h1:x.Scripts=y.Scripts) (h2:x.Papers=y.Papers) (h3:x.Schemes=y.Schemes) (h4:x.Seeds=y.Seeds) (h5:x.Monitor=y.Monitor):x=y:=by cases x; cases y; simp only at *; simp only [h0,h1,h2,h3,h4,h5]
def zau:zaA→List AV:=fun x=>[.sl 5 (List.map zcX.enc x.Markers),.sl 7 (List.map zb5.enc x.Scripts),.sl 3 (List.map zb1.enc x.Papers),.sl 2 (List.map zdt.enc x.Schemes),.sl 2 (List.map zeX.enc x.Seeds),I x.Monitor.Part,I x.Monitor.Total,I x.Monitor.Window,I x.Monitor.Fails]
abbrev zhu:TyD:=TyD.of zaA zau (by
 intro x y h; simp only [zau,zbl,AV.v.injEq,Value.int.injEq,Value.bool.injEq,Value.string.injEq,AV.sl.injEq,AV.mp.injEq,true_and,and_true,TyD.minj zcX,TyD.minj zb1,TyD.minj zdt,TyD.minj zb5,TyD.minj zeX] at h
 exact (zaA.eqOf (h.1) (h.2.1) (h.2.2.1) (h.2.2.2.1) (h.2.2.2.2.1) (zaY.eqOf (h.2.2.2.2.2.1) (h.2.2.2.2.2.2.1) (h.2.2.2.2.2.2.2.1) (h.2.2.2.2.2.2.2.2))))
structure zaL where
 Time:Int
 Source:Int
 Seq:Int
theorem zaL.eqOf {x y:zaL} (h0:x.Time=y.Time) (h1:x.Source=y.Source) (h2:x.Seq=y.Seq):x=y:=by cases x; cases y; simp only at *; simp only [h0,h1,h2]
def zbB:zaL→List AV:=fun x=>[I x.Time,I x.Source,I x.Seq]
abbrev zlx:TyD:=TyD.of zaL zbB (by
 intro x y h; simp only [zbB,zbl,AV.v.injEq,Value.int.injEq,Value.bool.injEq,Value.string.injEq,AV.sl.injEq,AV.mp.injEq,true_and,and_true] at h
 exact (zaL.eqOf (h.1) (h.2.1) (h.2.2)))
structure zab where
 Stamp:zaL
 Kind:Int
 Script:Int
 Part:Int
 Value:Int
 Marker:Int
 Pages:List Int
theorem zab.eqOf {x y:zab} (h0:x.Stamp=y.Stamp) (h1:x.Kind=y.Kind) (h2:x.Script=y.Script) (h3:x.Part=y.Part) (h4:x.Value=y.Value) (h5:x.Marker=y.Marker) (h6:x.Pages=y.Pages):x=y:=by cases x; cases y; simp only at *; simp only [h0,h1,h2,h3,h4,h5,h6]
def zaa:zab→List AV:=fun x=>[I x.Stamp.Time,I x.Stamp.Source,I x.Stamp.Seq,I x.Kind,I x.Script,I x.Part,I x.Value,I x.Marker,.sl 1 (List.map zaV.enc x.Pages)]
abbrev zaz:TyD:=TyD.of zab zaa (by
 intro x y h; simp only [zaa,zbl,AV.v.injEq,Value.int.injEq,Value.bool.injEq,Value.string.injEq,AV.sl.injEq,AV.mp.injEq,true_and,and_true,TyD.minj zaV] at h
 exact (zab.eqOf (zaL.eqOf (h.1) (h.2.1) (h.2.2.1)) (h.2.2.2.1) (h.2.2.2.2.1) (h.2.2.2.2.2.1) (h.2.2.2.2.2.2.1) (h.2.2.2.2.2.2.2.1) (h.2.2.2.2.2.2.2.2)))
def zr8:(List zab)→List AV:=fun x=>[.sl 9 (List.map zaz.enc x)]
abbrev zya:TyD:=TyD.of (List zab) zr8 (by
 intro x y h; simp only [zr8,zbl,AV.v.injEq,Value.int.injEq,Value.bool.injEq,Value.string.injEq,AV.sl.injEq,AV.mp.injEq,true_and,and_true,TyD.minj zaz] at h
 exact (h))
structure zbp where
 Script:Int
 Part:Int
 Marker:Int
 Level:Int
 Value:Int
 Stamp:zaL
theorem zbp.eqOf {x y:zbp} (h0:x.Script=y.Script) (h1:x.Part=y.Part) (h2:x.Marker=y.Marker) (h3:x.Level=y.Level) (h4:x.Value=y.Value) (h5:x.Stamp=y.Stamp):x=y:=by cases x; cases y; simp only at *; simp only [h0,h1,h2,h3,h4,h5]
def za1:zbp→List AV:=fun x=>[I x.Script,I x.Part,I x.Marker,I x.Level,I x.Value,I x.Stamp.Time,I x.Stamp.Source,I x.Stamp.Seq]
abbrev zb3:TyD:=TyD.of zbp za1 (by
 intro x y h; simp only [za1,zbl,AV.v.injEq,Value.int.injEq,Value.bool.injEq,Value.string.injEq,AV.sl.injEq,AV.mp.injEq,true_and,and_true] at h
 exact (zbp.eqOf (h.1) (h.2.1) (h.2.2.1) (h.2.2.2.1) (h.2.2.2.2.1) (zaL.eqOf (h.2.2.2.2.2.1) (h.2.2.2.2.2.2.1) (h.2.2.2.2.2.2.2))))
def zxK:(List zbp)→List AV:=fun x=>[.sl 8 (List.map zb3.enc x)]
abbrev dL_GGiven:TyD:=TyD.of (List zbp) zxK (by
 intro x y h; simp only [zxK,zbl,AV.v.injEq,Value.int.injEq,Value.bool.injEq,Value.string.injEq,AV.sl.injEq,AV.mp.injEq,true_and,and_true,TyD.minj zb3] at h
 exact (h))
structure zbf where
 Marker:Int
 Good:zaL
 At:zaL
 Until:zaL
 First:Bool
 Lifted:Bool
theorem zbf.eqOf {x y:zbf} (h0:x.Marker=y.Marker) (h1:x.Good=y.Good) (h2:x.At=y.At) (h3:x.Until=y.Until) (h4:x.First=y.First) (h5:x.Lifted=y.Lifted):x=y:=by cases x; cases y; simp only at *; simp only [h0,h1,h2,h3,h4,h5]
def zag:zbf→List AV:=fun x=>[I x.Marker,I x.Good.Time,I x.Good.Source,I x.Good.Seq,I x.At.Time,I x.At.Source,I x.At.Seq,I x.Until.Time,I x.Until.Source,I x.Until.Seq,B x.First,B x.Lifted]
abbrev zcm:TyD:=TyD.of zbf zag (by
 intro x y h; simp only [zag,zbl,AV.v.injEq,Value.int.injEq,Value.bool.injEq,Value.string.injEq,AV.sl.injEq,AV.mp.injEq,true_and,and_true] at h
 exact (zbf.eqOf (h.1) (zaL.eqOf (h.2.1) (h.2.2.1) (h.2.2.2.1)) (zaL.eqOf (h.2.2.2.2.1) (h.2.2.2.2.2.1) (h.2.2.2.2.2.2.1)) (zaL.eqOf (h.2.2.2.2.2.2.2.1) (h.2.2.2.2.2.2.2.2.1) (h.2.2.2.2.2.2.2.2.2.1)) (h.2.2.2.2.2.2.2.2.2.2.1) (h.2.2.2.2.2.2.2.2.2.2.2)))
def zqG:(List zbf)→List AV:=fun x=>[.sl 12 (List.map zcm.enc x)]
abbrev zw5:TyD:=TyD.of (List zbf) zqG (by
 intro x y h; simp only [zqG,zbl,AV.v.injEq,Value.int.injEq,Value.bool.injEq,Value.string.injEq,AV.sl.injEq,AV.mp.injEq,true_and,and_true,TyD.minj zcm] at h
 exact (h))
structure zbU where
 Given:List zbp
 Suspensions:List zbf
theorem zbU.eqOf {x y:zbU} (h0:x.Given=y.Given) (h1:x.Suspensions=y.Suspensions):x=y:=by cases x; cases y; simp only at *; simp only [h0,h1]
def zc4:zbU→List AV:=fun x=>[.sl 8 (List.map zb3.enc x.Given),.sl 12 (List.map zcm.enc x.Suspensions)]
abbrev zgy:TyD:=TyD.of zbU zc4 (by
 intro x y h; simp only [zc4,zbl,AV.v.injEq,Value.int.injEq,Value.bool.injEq,Value.string.injEq,AV.sl.injEq,AV.mp.injEq,true_and,and_true,TyD.minj zb3,TyD.minj zcm] at h
 exact (zbU.eqOf (h.1) (h.2)))
def zxJ:(Int×Int×Int)→List AV:=fun x=>[I x.1,I x.2.1,I x.2.2]
abbrev zsT:TyD:=TyD.of (Int×Int×Int) zxJ (by
 intro x y h; simp only [zxJ,zbl,AV.v.injEq,Value.int.injEq,Value.bool.injEq,Value.string.injEq,AV.sl.injEq,AV.mp.injEq,true_and,and_true] at h
 exact (zey (h.1) (zey (h.2.1) (h.2.2))))
def zub:((Int×Int×Int)×Int)→List AV:=fun x=>[.agg (zsT.enc x.1),I x.2]
abbrev znJ:TyD:=TyD.of ((Int×Int×Int)×Int) zub (by
 intro x y h; have h1:=(zcH h).1; have h2:=(zcH (zcH h).2).1
 exact zey (zsT.inj (AV.agg.inj h1)) (by simpa using h2))
def znM:(List ((Int×Int×Int)×Int))→List AV:=fun x=>[.mp (List.map znJ.enc x)]
abbrev zt1:TyD:=TyD.of (List ((Int×Int×Int)×Int)) znM (by
 intro x y h; simp only [znM,zbl,AV.v.injEq,Value.int.injEq,Value.bool.injEq,Value.string.injEq,AV.sl.injEq,AV.mp.injEq,true_and,and_true,TyD.minj znJ] at h
 exact (h))
structure GTask where
 Script:Int
 Marker:Int
theorem GTask.eqOf {x y:GTask} (h0:x.Script=y.Script) (h1:x.Marker=y.Marker):x=y:=by cases x; cases y; simp only at *; simp only [h0,h1]
def zft:GTask→List AV:=fun x=>[I x.Script,I x.Marker]
abbrev zcY:TyD:=TyD.of GTask zft (by
 intro x y h; simp only [zft,zbl,AV.v.injEq,Value.int.injEq,Value.bool.injEq,Value.string.injEq,AV.sl.injEq,AV.mp.injEq,true_and,and_true] at h
 exact (GTask.eqOf (h.1) (h.2)))
def nL_GTask:(List GTask)→List AV:=fun x=>[.sl 2 (List.map zcY.enc x)]
abbrev dL_GTask:TyD:=TyD.of (List GTask) nL_GTask (by
 intro x y h; simp only [nL_GTask,zbl,AV.v.injEq,Value.int.injEq,Value.bool.injEq,Value.string.injEq,AV.sl.injEq,AV.mp.injEq,true_and,and_true,TyD.minj zcY] at h
 exact (h))
structure zae where
 L:List Int
 At:Int
theorem zae.eqOf {x y:zae} (h0:x.L=y.L) (h1:x.At=y.At):x=y:=by cases x; cases y; simp only at *; simp only [h0,h1]
def zaw:zae→List AV:=fun x=>[.sl 1 (List.map zaV.enc x.L),I x.At]
abbrev zaS:TyD:=TyD.of zae zaw (by
 intro x y h; simp only [zaw,zbl,AV.v.injEq,Value.int.injEq,Value.bool.injEq,Value.string.injEq,AV.sl.injEq,AV.mp.injEq,true_and,and_true,TyD.minj zaV] at h
 exact (zae.eqOf (h.1) (h.2)))
structure zao where
 script:Int
 part:Int
theorem zao.eqOf {x y:zao} (h0:x.script=y.script) (h1:x.part=y.part):x=y:=by cases x; cases y; simp only at *; simp only [h0,h1]
def zbb:zao→List AV:=fun x=>[I x.script,I x.part]
abbrev zcD:TyD:=TyD.of zao zbb (by
 intro x y h; simp only [zbb,zbl,AV.v.injEq,Value.int.injEq,Value.bool.injEq,Value.string.injEq,AV.sl.injEq,AV.mp.injEq,true_and,and_true] at h
 exact (zao.eqOf (h.1) (h.2)))
def zaj:(zao×zaL)→List AV:=fun x=>[.agg (zcD.enc x.1),.agg (zlx.enc x.2)]
abbrev zcW:TyD:=TyD.of (zao×zaL) zaj (by
 intro x y h; have h1:=(zcH h).1; have h2:=(zcH (zcH h).2).1
 exact zey (zcD.inj (AV.agg.inj h1)) (zlx.inj (AV.agg.inj h2)))
def zjR:(List (zao×zaL))→List AV:=fun x=>[.mp (List.map zcW.enc x)]
abbrev zoL:TyD:=TyD.of (List (zao×zaL)) zjR (by
 intro x y h; simp only [zjR,zbl,AV.v.injEq,Value.int.injEq,Value.bool.injEq,Value.string.injEq,AV.sl.injEq,AV.mp.injEq,true_and,and_true,TyD.minj zcW] at h
 exact (h))
structure zba where
 event:zab
 void:Bool
theorem zba.eqOf {x y:zba} (h0:x.event=y.event) (h1:x.void=y.void):x=y:=by cases x; cases y; simp only at *; simp only [h0,h1]
def zai:zba→List AV:=fun x=>[I x.event.Stamp.Time,I x.event.Stamp.Source,I x.event.Stamp.Seq,I x.event.Kind,I x.event.Script,I x.event.Part,I x.event.Value,I x.event.Marker,.sl 1 (List.map zaV.enc x.event.Pages),B x.void]
abbrev zct:TyD:=TyD.of zba zai (by
 intro x y h; simp only [zai,zbl,AV.v.injEq,Value.int.injEq,Value.bool.injEq,Value.string.injEq,AV.sl.injEq,AV.mp.injEq,true_and,and_true,TyD.minj zaV] at h
 exact (zba.eqOf (zab.eqOf (zaL.eqOf (h.1) (h.2.1) (h.2.2.1)) (h.2.2.2.1) (h.2.2.2.2.1) (h.2.2.2.2.2.1) (h.2.2.2.2.2.2.1) (h.2.2.2.2.2.2.2.1) (h.2.2.2.2.2.2.2.2.1)) (h.2.2.2.2.2.2.2.2.2)))
def zpq:(List zba)→List AV:=fun x=>[.sl 10 (List.map zct.enc x)]
abbrev zwf:TyD:=TyD.of (List zba) zpq (by
 intro x y h; simp only [zpq,zbl,AV.v.injEq,Value.int.injEq,Value.bool.injEq,Value.string.injEq,AV.sl.injEq,AV.mp.injEq,true_and,and_true,TyD.minj zct] at h
 exact (h))
def zaq:(zao×Int)→List AV:=fun x=>[.agg (zcD.enc x.1),I x.2]
abbrev zc7:TyD:=TyD.of (zao×Int) zaq (by
 intro x y h; have h1:=(zcH h).1; have h2:=(zcH (zcH h).2).1
 exact zey (zcD.inj (AV.agg.inj h1)) (by simpa using h2))
def zku:(List (zao×Int))→List AV:=fun x=>[.mp (List.map zc7.enc x)]
abbrev zo6:TyD:=TyD.of (List (zao×Int)) zku (by
 intro x y h; simp only [zku,zbl,AV.v.injEq,Value.int.injEq,Value.bool.injEq,Value.string.injEq,AV.sl.injEq,AV.mp.injEq,true_and,and_true,TyD.minj zc7] at h
 exact (h))
def nL_Bool:(List Bool)→List AV:=fun x=>[.sl 1 (List.map dBool.enc x)]
abbrev dL_Bool:TyD:=TyD.of (List Bool) nL_Bool (by
 intro x y h; simp only [nL_Bool,zbl,AV.v.injEq,Value.int.injEq,Value.bool.injEq,Value.string.injEq,AV.sl.injEq,AV.mp.injEq,true_and,and_true,TyD.minj dBool] at h
 exact (h))
structure zcR where
 Last:List Bool
 Suspended:Bool
theorem zcR.eqOf {x y:zcR} (h0:x.Last=y.Last) (h1:x.Suspended=y.Suspended):x=y:=by cases x; cases y; simp only at *; simp only [h0,h1]
def ziL:zcR→List AV:=fun x=>[.sl 1 (List.map dBool.enc x.Last),B x.Suspended]
abbrev zqu:TyD:=TyD.of zcR ziL (by
 intro x y h; simp only [ziL,zbl,AV.v.injEq,Value.int.injEq,Value.bool.injEq,Value.string.injEq,AV.sl.injEq,AV.mp.injEq,true_and,and_true,TyD.minj dBool] at h
 exact (zcR.eqOf (h.1) (h.2)))
structure zah where
 level:Int
 marks:List zba
 period:Int
 started:zaL
 noted:List (zao×Int)
 watch:zcR
 good:zaL
 some:Bool
 suspensions:List zbf
theorem zah.eqOf {x y:zah} (h0:x.level=y.level) (h1:x.marks=y.marks) (h2:x.period=y.period) (h3:x.started=y.started) (h4:x.noted=y.noted) (h5:x.watch=y.watch) (h6:x.good=y.good) (h7:x.some=y.some) (h8:x.suspensions=y.suspensions):x=y:=by cases x; cases y; simp only at *; simp only [h0,h1,h2,h3,h4,h5,h6,h7,h8]
def zcQ:zah→List AV:=fun x=>[I x.level,.sl 10 (List.map zct.enc x.marks),I x.period,I x.started.Time,I x.started.Source,I x.started.Seq,.mp (List.map zc7.enc x.noted),.sl 1 (List.map dBool.enc x.watch.Last),B x.watch.Suspended,I x.good.Time,I x.good.Source,I x.good.Seq,B x.some,.sl 12 (List.map zcm.enc x.suspensions)]
abbrev zeR:TyD:=TyD.of zah zcQ (by
 intro x y h; simp only [zcQ,zbl,AV.v.injEq,Value.int.injEq,Value.bool.injEq,Value.string.injEq,AV.sl.injEq,AV.mp.injEq,true_and,and_true,TyD.minj dBool,TyD.minj zc7,TyD.minj zcm,TyD.minj zct] at h
 exact (zah.eqOf (h.1) (h.2.1) (h.2.2.1) (zaL.eqOf (h.2.2.2.1) (h.2.2.2.2.1) (h.2.2.2.2.2.1)) (h.2.2.2.2.2.2.1) (zcR.eqOf (h.2.2.2.2.2.2.2.1) (h.2.2.2.2.2.2.2.2.1)) (zaL.eqOf (h.2.2.2.2.2.2.2.2.2.1) (h.2.2.2.2.2.2.2.2.2.2.1) (h.2.2.2.2.2.2.2.2.2.2.2.1)) (h.2.2.2.2.2.2.2.2.2.2.2.2.1) (h.2.2.2.2.2.2.2.2.2.2.2.2.2)))
def zby:(zao×zab)→List AV:=fun x=>[.agg (zcD.enc x.1),.agg (zaz.enc x.2)]
abbrev zcs:TyD:=TyD.of (zao×zab) zby (by
 intro x y h; have h1:=(zcH h).1; have h2:=(zcH (zcH h).2).1
 exact zey (zcD.inj (AV.agg.inj h1)) (zaz.inj (AV.agg.inj h2)))
def zhz:(List (zao×zab))→List AV:=fun x=>[.mp (List.map zcs.enc x)]
abbrev zmD:TyD:=TyD.of (List (zao×zab)) zhz (by
 intro x y h; simp only [zhz,zbl,AV.v.injEq,Value.int.injEq,Value.bool.injEq,Value.string.injEq,AV.sl.injEq,AV.mp.injEq,true_and,and_true,TyD.minj zcs] at h
 exact (h))
def zcr:(Int×Int)→List AV:=fun x=>[I x.1,I x.2]
abbrev zd1:TyD:=TyD.of (Int×Int) zcr (by
 intro x y h; simp only [zcr,zbl,AV.v.injEq,Value.int.injEq,Value.bool.injEq,Value.string.injEq,AV.sl.injEq,AV.mp.injEq,true_and,and_true] at h
 exact (zey (h.1) (h.2)))
structure za7 where
 first:Int
 disputed:Bool
theorem za7.eqOf {x y:za7} (h0:x.first=y.first) (h1:x.disputed=y.disputed):x=y:=by cases x; cases y; simp only at *; simp only [h0,h1]
def zbz:za7→List AV:=fun x=>[I x.first,B x.disputed]
abbrev zdO:TyD:=TyD.of za7 zbz (by
 intro x y h; simp only [zbz,zbl,AV.v.injEq,Value.int.injEq,Value.bool.injEq,Value.string.injEq,AV.sl.injEq,AV.mp.injEq,true_and,and_true] at h
 exact (za7.eqOf (h.1) (h.2)))
def zbv:((Int×Int)×za7)→List AV:=fun x=>[.agg (zd1.enc x.1),.agg (zdO.enc x.2)]
abbrev zbK:TyD:=TyD.of ((Int×Int)×za7) zbv (by
 intro x y h; have h1:=(zcH h).1; have h2:=(zcH (zcH h).2).1
 exact zey (zd1.inj (AV.agg.inj h1)) (zdO.inj (AV.agg.inj h2)))
def zjb:(List ((Int×Int)×za7))→List AV:=fun x=>[.mp (List.map zbK.enc x)]
abbrev znS:TyD:=TyD.of (List ((Int×Int)×za7)) zjb (by
 intro x y h; simp only [zjb,zbl,AV.v.injEq,Value.int.injEq,Value.bool.injEq,Value.string.injEq,AV.sl.injEq,AV.mp.injEq,true_and,and_true,TyD.minj zbK] at h
 exact (h))
def zua:((Int×Int)×Int)→List AV:=fun x=>[.agg (zd1.enc x.1),I x.2]
abbrev zeP:TyD:=TyD.of ((Int×Int)×Int) zua (by
 intro x y h; have h1:=(zcH h).1; have h2:=(zcH (zcH h).2).1
 exact zey (zd1.inj (AV.agg.inj h1)) (by simpa using h2))
def znL:(List ((Int×Int)×Int))→List AV:=fun x=>[.mp (List.map zeP.enc x)]
abbrev zt0:TyD:=TyD.of (List ((Int×Int)×Int)) znL (by
 intro x y h; simp only [znL,zbl,AV.v.injEq,Value.int.injEq,Value.bool.injEq,Value.string.injEq,AV.sl.injEq,AV.mp.injEq,true_and,and_true,TyD.minj zeP] at h
 exact (h))
def zvz:((Int×Int)×Bool)→List AV:=fun x=>[.agg (zd1.enc x.1),B x.2]
abbrev ze8:TyD:=TyD.of ((Int×Int)×Bool) zvz (by
 intro x y h; have h1:=(zcH h).1; have h2:=(zcH (zcH h).2).1
 exact zey (zd1.inj (AV.agg.inj h1)) (by simpa using h2))
def zoW:(List ((Int×Int)×Bool))→List AV:=fun x=>[.mp (List.map ze8.enc x)]
abbrev zvf:TyD:=TyD.of (List ((Int×Int)×Bool)) zoW (by
 intro x y h; simp only [zoW,zbl,AV.v.injEq,Value.int.injEq,Value.bool.injEq,Value.string.injEq,AV.sl.injEq,AV.mp.injEq,true_and,and_true,TyD.minj ze8] at h
 exact (h))
@[simp] theorem zjw {β:Type} (l:List zbp) (i:Nat) (k:zbp→Option β):elemD zb3 (List.map za1 l) i k=(l[i]?).bind k:=zdP zb3 l i k
@[simp] theorem zdd {β:Type} (l:List zab) (i:Nat) (k:zab→Option β):elemD zaz (List.map zaa l) i k=(l[i]?).bind k:=zdP zaz l i k
@[simp] theorem zk2 {β:Type} (l:List za6) (i:Nat) (k:za6→Option β):elemD zcX (List.map za5 l) i k=(l[i]?).bind k:=zdP zcX l i k
@[simp] theorem zfq {β:Type} (l:List zaD) (i:Nat) (k:zaD→Option β):elemD zb1 (List.map zaK l) i k=(l[i]?).bind k:=zdP zb1 l i k
@[simp] theorem zfh {β:Type} (l:List GPart) (i:Nat) (k:GPart→Option β):elemD zec (List.map zaO l) i k=(l[i]?).bind k:=zdP zec l i k
@[simp] theorem zye {β:Type} (l:List zbr) (i:Nat) (k:zbr→Option β):elemD zdt (List.map zbS l) i k=(l[i]?).bind k:=zdP zdt l i k
@[simp] theorem zk3 {β:Type} (l:List zaP) (i:Nat) (k:zaP→Option β):elemD zb5 (List.map zaT l) i k=(l[i]?).bind k:=zdP zb5 l i k
@[simp] theorem zup {β:Type} (l:List GSeed) (i:Nat) (k:GSeed→Option β):elemD zeX (List.map zb8 l) i k=(l[i]?).bind k:=zdP zeX l i k
@[simp] theorem zfK {β:Type} (l:List zbf) (i:Nat) (k:zbf→Option β):elemD zcm (List.map zag l) i k=(l[i]?).bind k:=zdP zcm l i k
@[simp] theorem zgz {β:Type} (l:List zba) (i:Nat) (k:zba→Option β):elemD zct (List.map zai l) i k=(l[i]?).bind k:=zdP zct l i k
@[simp] theorem zyf {β:Type} (l:List (List Int)) (i:Nat) (k:(List Int)→Option β):elemD zg2 (List.map zcJ l) i k=(l[i]?).bind k:=zdP zg2 l i k
def tyTab:List TyD:=[dRaw,dRaw,zaV,zaV,dBool,dI_u8,dI_u8,dRaw,dRaw,dStr,dStr,dStr,znb,dRaw,dRaw,dRaw,dRaw,dRaw,dRaw,dRaw,dRaw,dI_i32,zg2,dRaw,dRaw,dRaw,dRaw,dL_GMarker,dL_GScript,dL_GPaper,dL_GScheme,dL_GSeed,dRaw,ziq,dRaw,zhu,dRaw,zya,dRaw,dL_GGiven,zw5,dRaw,zgy,zaV,dRaw,dRaw,dRaw,dRaw,dRaw,zlx,dRaw,zb3,dRaw,zb5,dRaw,dRaw,dRaw,dRaw,dRaw,dRaw,dRaw,zcm,dRaw,dRaw,zaz,dRaw,dRaw,zcX,zt1,dRaw,zsT,dRaw,dRaw,dRaw,dRaw,dRaw,dRaw,dL_GTask,dRaw,dRaw,dRaw,dRaw,zaS,dRaw,dRaw,dRaw,dRaw,dRaw,dRaw,dRaw,zeX,dRaw,dRaw,dL_GPart,dRaw,zb1,dRaw,dRaw,zec,dRaw,dRaw,dRaw,dRaw,zoL,dRaw,dRaw,dRaw,zwf,zo6,dL_Bool,dRaw,zqu,dRaw,zeR,zmD,dRaw,dRaw,zcD,dRaw,dRaw,dRaw,dRaw,dRaw,dRaw,dRaw,dRaw,dRaw,dRaw,dRaw,dL_L_I_i64,dRaw,zdt,dRaw,zct,dRaw,dRaw,zcY,dRaw,dRaw,dRaw,dRaw,dRaw,dRaw,dRaw,dRaw,dRaw,dRaw,dRaw,dRaw,znS,dRaw,zd1,dRaw,zdO,dRaw,dRaw,dRaw,dRaw,dRaw,dRaw,dRaw,dRaw,dRaw,dRaw,dRaw,dRaw,dRaw,dRaw,znb,zt0,zvf,dRaw,dRaw,dRaw,dRaw,dRaw,dRaw,dRaw,dRaw,dRaw,dRaw,dRaw,dRaw,dRaw,dRaw,dRaw,dRaw,dRaw,dRaw,dRaw,dRaw,dRaw,dRaw,dRaw,dRaw,dRaw,zaV,dRaw,dRaw,dRaw,dRaw,dRaw,dRaw,dI_u32,dRaw,znb,dRaw,dRaw,dRaw,dRaw,dRaw,dRaw,dRaw,dRaw,dRaw,dRaw,dRaw,dRaw,dRaw,dRaw,dRaw,dRaw,dRaw,dRaw,dRaw,znb,dRaw,dRaw,dRaw,dRaw,dRaw,dRaw,dRaw,dRaw,dRaw,dRaw,dRaw,dRaw,dRaw,dRaw,dRaw,dRaw,dRaw,dRaw,dRaw,dRaw,dRaw,dRaw,dRaw,dRaw,dRaw,dRaw,dRaw,dI_u8,dI_u8,dRaw,dRaw,dI_i32,dI_i32,dRaw,dRaw,dRaw]
end Go.Proofs.YtikogkgdkdmljaaGreat
end
