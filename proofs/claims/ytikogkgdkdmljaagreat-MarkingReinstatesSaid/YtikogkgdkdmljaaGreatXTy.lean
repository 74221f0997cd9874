/- The types of the seat as data. -/
import Derived.Test.YtikogkgdkdmljaaGreatAb9
set_option linter.unusedSimpArgs false
set_option linter.unusedVariables false
noncomputable section
namespace Go.Proofs.YtikogkgdkdmljaaGreat
open Go.Ab
def zcQ:(List Int)→List AV:=fun x=>[.sl 1 (List.map zaX.enc x)]
abbrev zhd:TyD:=TyD.of (List Int) zcQ (by
 intro x y h; simp only [zcQ,zbm,AV.v.injEq,Value.int.injEq,Value.bool.injEq,Value.string.injEq,AV.sl.injEq,AV.mp.injEq,true_and,and_true,TyD.minj zaX] at h
 exact (h))
structure zaU where
 ID:Int
 Centre:Int
 Level:Int
 Capacity:Int
 Papers:List Int
theorem zaU.eqOf {x y:zaU} (h0:x.ID=y.ID) (h1:x.Centre=y.Centre) (h2:x.Level=y.Level) (h3:x.Capacity=y.Capacity) (h4:x.Papers=y.Papers):x=y:=by cases x; cases y; simp only at *; simp only [h0,h1,h2,h3,h4]
def zaR:zaU→List AV:=fun x=>[I x.ID,I x.Centre,I x.Level,I x.Capacity,.sl 1 (List.map zaX.enc x.Papers)]
abbrev zcA:TyD:=TyD.of zaU zaR (by
 intro x y h; simp only [zaR,zbm,AV.v.injEq,Value.int.injEq,Value.bool.injEq,Value.string.injEq,AV.sl.injEq,AV.mp.injEq,true_and,and_true,TyD.minj zaX] at h
 exact (zaU.eqOf (h.1) (h.2.1) (h.2.2.1) (h.2.2.2.1) (h.2.2.2.2)))
def zxq:(List zaU)→List AV:=fun x=>[.sl 5 (List.map zcA.enc x)]
abbrev dL_GMarker:TyD:=TyD.of (List zaU) zxq (by
 intro x y h; simp only [zxq,zbm,AV.v.injEq,Value.int.injEq,Value.bool.injEq,Value.string.injEq,AV.sl.injEq,AV.mp.injEq,true_and,and_true,TyD.minj zcA] at h
 exact (h))
structure zaN where
 Number:Int
 Paper:Int
 Candidate:Int
 Centre:Int
 Variant:Int
 Pages:List Int
 Answers:List Int
theorem zaN.eqOf {x y:zaN} (h0:x.Number=y.Number) (h1:x.Paper=y.Paper) (h2:x.Candidate=y.Candidate) (h3:x.Centre=y.Centre) (h4:x.Variant=y.Variant) (h5:x.Pages=y.Pages) (h6:x.Answers=y.Answers):x=y:=by cases x; cases y; simp only at *; simp only [h0,h1,h2,h3,h4,h5,h6]
def zaS:zaN→List AV:=fun x=>[I x.Number,I x.Paper,I x.Candidate,I x.Centre,I x.Variant,.sl 1 (List.map zaX.enc x.Pages),.sl 1 (List.map zaX.enc x.Answers)]
abbrev zb8:TyD:=TyD.of zaN zaS (by
 intro x y h; simp only [zaS,zbm,AV.v.injEq,Value.int.injEq,Value.bool.injEq,Value.string.injEq,AV.sl.injEq,AV.mp.injEq,true_and,and_true,TyD.minj zaX] at h
 exact (zaN.eqOf (h.1) (h.2.1) (h.2.2.1) (h.2.2.2.1) (h.2.2.2.2.1) (h.2.2.2.2.2.1) (h.2.2.2.2.2.2)))
def zxs:(List zaN)→List AV:=fun x=>[.sl 7 (List.map zb8.enc x)]
abbrev dL_GScript:TyD:=TyD.of (List zaN) zxs (by
 intro x y h; simp only [zxs,zbm,AV.v.injEq,Value.int.injEq,Value.bool.injEq,Value.string.injEq,AV.sl.injEq,AV.mp.injEq,true_and,and_true,TyD.minj zb8] at h
 exact (h))
structure GPart where
 Kind:Int
 Max:Int
 Topic:Int
 Objective:Int
 Options:Int
 Key:Int
theorem GPart.eqOf {x y:GPart} (h0:x.Kind=y.Kind) (h1:x.Max=y.Max) (h2:x.Topic=y.Topic) (h3:x.Objective=y.Objective) (h4:x.Options=y.Options) (h5:x.Key=y.Key):x=y:=by cases x; cases y; simp only at *; simp only [h0,h1,h2,h3,h4,h5]
def zaP:GPart→List AV:=fun x=>[I x.Kind,I x.Max,I x.Topic,I x.Objective,I x.Options,I x.Key]
abbrev zea:TyD:=TyD.of GPart zaP (by
 intro x y h; simp only [zaP,zbm,AV.v.injEq,Value.int.injEq,Value.bool.injEq,Value.string.injEq,AV.sl.injEq,AV.mp.injEq,true_and,and_true] at h
 exact (GPart.eqOf (h.1) (h.2.1) (h.2.2.1) (h.2.2.2.1) (h.2.2.2.2.1) (h.2.2.2.2.2)))
def nL_GPart:(List GPart)→List AV:=fun x=>[.sl 6 (List.map zea.enc x)]
abbrev dL_GPart:TyD:=TyD.of (List GPart) nL_GPart (by
 intro x y h; simp only [nL_GPart,zbm,AV.v.injEq,Value.int.injEq,Value.bool.injEq,Value.string.injEq,AV.sl.injEq,AV.mp.injEq,true_and,and_true,TyD.minj zea] at h
 exact (h))
structure zaE where
 Code:Int
 Variant:Int
 Parts:List GPart
theorem zaE.eqOf {x y:zaE} (h0:x.Code=y.Code) (h1:x.Variant=y.Variant) (h2:x.Parts=y.Parts):x=y:=by cases x; cases y; simp only at *; simp only [h0,h1,h2]
def zaL:zaE→List AV:=fun x=>[I x.Code,I x.Variant,.sl 6 (List.map zea.enc x.Parts)]
abbrev zb6:TyD:=TyD.of zaE zaL (by
 intro x y h; simp only [zaL,zbm,AV.v.injEq,Value.int.injEq,Value.bool.injEq,Value.string.injEq,AV.sl.injEq,AV.mp.injEq,true_and,and_true,TyD.minj zea] at h
 exact (zaE.eqOf (h.1) (h.2.1) (h.2.2)))
def zyv:(List zaE)→List AV:=fun x=>[.sl 3 (List.map zb6.enc x)]
abbrev dL_GPaper:TyD:=TyD.of (List zaE) zyv (by
 intro x y h; simp only [zyv,zbm,AV.v.injEq,Value.int.injEq,Value.bool.injEq,Value.string.injEq,AV.sl.injEq,AV.mp.injEq,true_and,and_true,TyD.minj zb6] at h
 exact (h))
def zxt:(List (List Int))→List AV:=fun x=>[.sl 1 (List.map zhd.enc x)]
abbrev dL_L_I_i64:TyD:=TyD.of (List (List Int)) zxt (by
 intro x y h; simp only [zxt,zbm,AV.v.injEq,Value.int.injEq,Value.bool.injEq,Value.string.injEq,AV.sl.injEq,AV.mp.injEq,true_and,and_true,TyD.minj zhd] at h
 exact (h))
structure zbr where
 Keys:List (List Int)
 Withdrawn:List Int
theorem zbr.eqOf {x y:zbr} (h0:x.Keys=y.Keys) (h1:x.Withdrawn=y.Withdrawn):x=y:=by cases x; cases y; simp only at *; simp only [h0,h1]
def zbX:zbr→List AV:=fun x=>[.sl 1 (List.map zhd.enc x.Keys),.sl 1 (List.map zaX.enc x.Withdrawn)]
abbrev zdu:TyD:=TyD.of zbr zbX (by
 intro x y h; simp only [zbX,zbm,AV.v.injEq,Value.int.injEq,Value.bool.injEq,Value.string.injEq,AV.sl.injEq,AV.mp.injEq,true_and,and_true,TyD.minj zaX,TyD.minj zhd] at h
 exact (zbr.eqOf (h.1) (h.2)))
def zxr:(List zbr)→List AV:=fun x=>[.sl 2 (List.map zdu.enc x)]
abbrev dL_GScheme:TyD:=TyD.of (List zbr) zxr (by
 intro x y h; simp only [zxr,zbm,AV.v.injEq,Value.int.injEq,Value.bool.injEq,Value.string.injEq,AV.sl.injEq,AV.mp.injEq,true_and,and_true,TyD.minj zdu] at h
 exact (h))
structure GSeed where
 Script:Int
 Marks:List Int
theorem GSeed.eqOf {x y:GSeed} (h0:x.Script=y.Script) (h1:x.Marks=y.Marks):x=y:=by cases x; cases y; simp only at *; simp only [h0,h1]
def zbU:GSeed→List AV:=fun x=>[I x.Script,.sl 1 (List.map zaX.enc x.Marks)]
abbrev zeq:TyD:=TyD.of GSeed zbU (by
 intro x y h; simp only [zbU,zbm,AV.v.injEq,Value.int.injEq,Value.bool.injEq,Value.string.injEq,AV.sl.injEq,AV.mp.injEq,true_and,and_true,TyD.minj zaX] at h
 exact (GSeed.eqOf (h.1) (h.2)))
def nL_GSeed:(List GSeed)→List AV:=fun x=>[.sl 2 (List.map zeq.enc x)]
abbrev dL_GSeed:TyD:=TyD.of (List GSeed) nL_GSeed (by
 intro x y h; simp only [nL_GSeed,zbm,AV.v.injEq,Value.int.injEq,Value.bool.injEq,Value.string.injEq,AV.sl.injEq,AV.mp.injEq,true_and,and_true,TyD.minj zeq] at h
 exact (h))
structure za2 where
 Part:Int
 Total:Int
 Window:Int
 Fails:Int
theorem za2.eqOf {x y:za2} (h0:x.Part=y.Part) (h1:x.Total=y.Total) (h2:x.Window=y.Window) (h3:x.Fails=y.Fails):x=y:=by cases x; cases y; simp only at *; simp only [h0,h1,h2,h3]
def zbD:za2→List AV:=fun x=>[I x.Part,I x.Total,I x.Window,I x.Fails]
abbrev ziD:TyD:=TyD.of za2 zbD (by
 intro x y h; simp only [zbD,zbm,AV.v.injEq,Value.int.injEq,Value.bool.injEq,Value.string.injEq,AV.sl.injEq,AV.mp.injEq,true_and,and_true] at h
 exact (za2.eqOf (h.1) (h.2.1) (h.2.2.1) (h.2.2.2)))
structure zay where
 Markers:List zaU
 Scripts:List zaN
 Papers:List zaE
 Schemes:List zbr
 Seeds:List GSeed
 Monitor:za2
theorem zay.eqOf {x y:zay} (h0:x.Markers=y.Markers) (h1:x.Scripts=y.Scripts) (h2:x.Papers=y.Papers) (h3:x.Schemes=y.Schemes) (h4:x.Seeds=y.Seeds) (h5:x.Monitor=y.Monitor):x=y:=by cases x; cases y; simp only at *; simp only [h0,h1,h2,h3,h4,h5]
def zau:zay→List AV:=fun x=>[.sl 5 (List.map zcA.enc x.Markers),.sl 7 (List.map zb8.enc x.Scripts),.sl 3 (List.map zb6.enc x.Papers),.sl 2 (List.map zdu.enc x.Schemes),.sl 2 (List.map zeq.enc x.Seeds),I x.Monitor.Part,I x.Monitor.Total,I x.Monitor.Window,I x.Monitor.Fails]
abbrev zhE:TyD:=TyD.of zay zau (by
 intro x y h; simp only [zau,zbm,AV.v.injEq,Value.int.injEq,Value.bool.injEq,Value.string.injEq,AV.sl.injEq,AV.mp.injEq,true_and,and_true,TyD.minj zcA,TyD.minj zb6,TyD.minj zdu,TyD.minj zb8,TyD.minj zeq] at h
 exact (zay.eqOf (h.1) (h.2.1) (h.2.2.1) (h.2.2.2.1) (h.2.2.2.2.1) (za2.eqOf (h.2.2.2.2.2.1) (h.2.2.2.2.2.2.1) (h.2.2.2.2.2.2.2.1) (h.2.2.2.2.2.2.2.2))))
structure zaM where
 Time:Int
 Source:Int
 Seq:Int
theorem zaM.eqOf {x y:zaM} (h0:x.Time=y.Time) (h1:x.Source=y.Source) (h2:x.Seq=y.Seq):x=y:=by cases x; cases y; simp only at *; simp only [h0,h1,h2]
def zbI:zaM→List AV:=fun x=>[I x.Time,I x.Source,I x.Seq]
abbrev zlK:TyD:=TyD.of zaM zbI (by
 intro x y h; simp only [zbI,zbm,AV.v.injEq,Value.int.injEq,Value.bool.injEq,Value.string.injEq,AV.sl.injEq,AV.mp.injEq,true_and,and_true] at h
 exact (zaM.eqOf (h.1) (h.2.1) (h.2.2)))
structure zab where
 Stamp:zaM
 Kind:Int
 Script:Int
 Part:Int
 Value:Int
 Marker:Int
 Pages:List Int
theorem zab.eqOf {x y:zab} (h0:x.Stamp=y.Stamp) (h1:x.Kind=y.Kind) (h2:x.Script=y.Script) (h3:x.Part=y.Part) (h4:x.Value=y.Value) (h5:x.Marker=y.Marker) (h6:x.Pages=y.Pages):x=y:=by cases x; cases y; simp only at *; simp only [h0,h1,h2,h3,h4,h5,h6]
def zaa:zab→List AV:=fun x=>[I x.Stamp.Time,I x.Stamp.Source,I x.Stamp.Seq,I x.Kind,I x.Script,I x.Part,I x.Value,I x.Marker,.sl 1 (List.map zaX.enc x.Pages)]
abbrev zaB:TyD:=TyD.of zab zaa (by
 intro x y h; simp only [zaa,zbm,AV.v.injEq,Value.int.injEq,Value.bool.injEq,Value.string.injEq,AV.sl.injEq,AV.mp.injEq,true_and,and_true,TyD.minj zaX] at h
 exact (zab.eqOf (zaM.eqOf (h.1) (h.2.1) (h.2.2.1)) (h.2.2.2.1) (h.2.2.2.2.1) (h.2.2.2.2.2.1) (h.2.2.2.2.2.2.1) (h.2.2.2.2.2.2.2.1) (h.2.2.2.2.2.2.2.2)))
def zsH:(List zab)→List AV:=fun x=>[.sl 9 (List.map zaB.enc x)]
abbrev zyT:TyD:=TyD.of (List zab) zsH (by
 intro x y h; simp only [zsH,zbm,AV.v.injEq,Value.int.injEq,Value.bool.injEq,Value.string.injEq,AV.sl.injEq,AV.mp.injEq,true_and,and_true,TyD.minj zaB] at h
 exact (h))
structure zbp where
 Script:Int
 Part:Int
 Marker:Int
 Level:Int
 Value:Int
 Stamp:zaM
theorem zbp.eqOf {x y:zbp} (h0:x.Script=y.Script) (h1:x.Part=y.Part) (h2:x.Marker=y.Marker) (h3:x.Level=y.Level) (h4:x.Value=y.Value) (h5:x.Stamp=y.Stamp):x=y:=by cases x; cases y; simp only at *; simp only [h0,h1,h2,h3,h4,h5]
def za5:zbp→List AV:=fun x=>[I x.Script,I x.Part,I x.Marker,I x.Level,I x.Value,I x.Stamp.Time,I x.Stamp.Source,I x.Stamp.Seq]
abbrev zb1:TyD:=TyD.of zbp za5 (by
 intro x y h; simp only [za5,zbm,AV.v.injEq,Value.int.injEq,Value.bool.injEq,Value.string.injEq,AV.sl.injEq,AV.mp.injEq,true_and,and_true] at h
 exact (zbp.eqOf (h.1) (h.2.1) (h.2.2.1) (h.2.2.2.1) (h.2.2.2.2.1) (zaM.eqOf (h.2.2.2.2.2.1) (h.2.2.2.2.2.2.1) (h.2.2.2.2.2.2.2))))
def zyu:(List zbp)→List AV:=fun x=>[.sl 8 (List.map zb1.enc x)]
abbrev dL_GGiven:TyD:=TyD.of (List zbp) zyu (by
 intro x y h; simp only [zyu,zbm,AV.v.injEq,Value.int.injEq,Value.bool.injEq,Value.string.injEq,AV.sl.injEq,AV.mp.injEq,true_and,and_true,TyD.minj zb1] at h
 exact (h))
structure za8 where
 Marker:Int
 Good:zaM
 At:zaM
 Until:zaM
 First:Bool
 Lifted:Bool
theorem za8.eqOf {x y:za8} (h0:x.Marker=y.Marker) (h1:x.Good=y.Good) (h2:x.At=y.At) (h3:x.Until=y.Until) (h4:x.First=y.First) (h5:x.Lifted=y.Lifted):x=y:=by cases x; cases y; simp only at *; simp only [h0,h1,h2,h3,h4,h5]
def zah:za8→List AV:=fun x=>[I x.Marker,I x.Good.Time,I x.Good.Source,I x.Good.Seq,I x.At.Time,I x.At.Source,I x.At.Seq,I x.Until.Time,I x.Until.Source,I x.Until.Seq,B x.First,B x.Lifted]
abbrev zcc:TyD:=TyD.of za8 zah (by
 intro x y h; simp only [zah,zbm,AV.v.injEq,Value.int.injEq,Value.bool.injEq,Value.string.injEq,AV.sl.injEq,AV.mp.injEq,true_and,and_true] at h
 exact (za8.eqOf (h.1) (zaM.eqOf (h.2.1) (h.2.2.1) (h.2.2.2.1)) (zaM.eqOf (h.2.2.2.2.1) (h.2.2.2.2.2.1) (h.2.2.2.2.2.2.1)) (zaM.eqOf (h.2.2.2.2.2.2.2.1) (h.2.2.2.2.2.2.2.2.1) (h.2.2.2.2.2.2.2.2.2.1)) (h.2.2.2.2.2.2.2.2.2.2.1) (h.2.2.2.2.2.2.2.2.2.2.2)))
def zrh:(List za8)→List AV:=fun x=>[.sl 12 (List.map zcc.enc x)]
abbrev zxR:TyD:=TyD.of (List za8) zrh (by
 intro x y h; simp only [zrh,zbm,AV.v.injEq,Value.int.injEq,Value.bool.injEq,Value.string.injEq,AV.sl.injEq,AV.mp.injEq,true_and,and_true,TyD.minj zcc] at h
 exact (h))
structure zbw where
 Given:List zbp
 Suspensions:List za8
theorem zbw.eqOf {x y:zbw} (h0:x.Given=y.Given) (h1:x.Suspensions=y.Suspensions):x=y:=by cases x; cases y; simp only at *; simp only [h0,h1]
def zbM:zbw→List AV:=fun x=>[.sl 8 (List.map zb1.enc x.Given),.sl 12 (List.map zcc.enc x.Suspensions)]
abbrev zgG:TyD:=TyD.of zbw zbM (by
 intro x y h; simp only [zbM,zbm,AV.v.injEq,Value.int.injEq,Value.bool.injEq,Value.string.injEq,AV.sl.injEq,AV.mp.injEq,true_and,and_true,TyD.minj zb1,TyD.minj zcc] at h
 exact (zbw.eqOf (h.1) (h.2)))
def zyt:(Int×Int×Int)→List AV:=fun x=>[I x.1,I x.2.1,I x.2.2]
abbrev ztw:TyD:=TyD.of (Int×Int×Int) zyt (by
 intro x y h; simp only [zyt,zbm,AV.v.injEq,Value.int.injEq,Value.bool.injEq,Value.string.injEq,AV.sl.injEq,AV.mp.injEq,true_and,and_true] at h
 exact (zeg (h.1) (zeg (h.2.1) (h.2.2))))
def zuQ:((Int×Int×Int)×Int)→List AV:=fun x=>[.agg (ztw.enc x.1),I x.2]
abbrev zn7:TyD:=TyD.of ((Int×Int×Int)×Int) zuQ (by
 intro x y h; have h1:=(zcM h).1; have h2:=(zcM (zcM h).2).1
 exact zeg (ztw.inj (AV.agg.inj h1)) (by simpa using h2))
def zoa:(List ((Int×Int×Int)×Int))→List AV:=fun x=>[.mp (List.map zn7.enc x)]
abbrev zuG:TyD:=TyD.of (List ((Int×Int×Int)×Int)) zoa (by
 intro x y h; simp only [zoa,zbm,AV.v.injEq,Value.int.injEq,Value.bool.injEq,Value.string.injEq,AV.sl.injEq,AV.mp.injEq,true_and,and_true,TyD.minj zn7] at h
 exact (h))
structure GTask where
 Script:Int
 Marker:Int
theorem GTask.eqOf {x y:GTask} (h0:x.Script=y.Script) (h1:x.Marker=y.Marker):x=y:=by cases x; cases y; simp only at *; simp only [h0,h1]
def zfx:GTask→List AV:=fun x=>[I x.Script,I x.Marker]
abbrev zc3:TyD:=TyD.of GTask zfx (by
 intro x y h; simp only [zfx,zbm,AV.v.injEq,Value.int.injEq,Value.bool.injEq,Value.string.injEq,AV.sl.injEq,AV.mp.injEq,true_and,and_true] at h
 exact (GTask.eqOf (h.1) (h.2)))
def nL_GTask:(List GTask)→List AV:=fun x=>[.sl 2 (List.map zc3.enc x)]
abbrev dL_GTask:TyD:=TyD.of (List GTask) nL_GTask (by
 intro x y h; simp only [nL_GTask,zbm,AV.v.injEq,Value.int.injEq,Value.bool.injEq,Value.string.injEq,AV.sl.injEq,AV.mp.injEq,true_and,and_true,TyD.minj zc3] at h
 exact (h))
structure zae where
 L:List Int
 At:Int
theorem zae.eqOf {x y:zae} (h0:x.L=y.L) (h1:x.At=y.At):x=y:=by cases x; cases y; simp only at *; simp only [h0,h1]
def zaA:zae→List AV:=fun x=>[.sl 1 (List.map zaX.enc x.L),I x.At]
abbrev zaW:TyD:=TyD.of zae zaA (by
 intro x y h; simp only [zaA,zbm,AV.v.injEq,Value.int.injEq,Value.bool.injEq,Value.string.injEq,AV.sl.injEq,AV.mp.injEq,true_and,and_true,TyD.minj zaX] at h
 exact (zae.eqOf (h.1) (h.2)))
structure zar where
 script:Int
 part:Int
theorem zar.eqOf {x y:zar} (h0:x.script=y.script) (h1:x.part=y.part):x=y:=by cases x; cases y; simp only at *; simp only [h0,h1]
def zbd:zar→List AV:=fun x=>[I x.script,I x.part]
abbrev zcI:TyD:=TyD.of zar zbd (by
 intro x y h; simp only [zbd,zbm,AV.v.injEq,Value.int.injEq,Value.bool.injEq,Value.string.injEq,AV.sl.injEq,AV.mp.injEq,true_and,and_true] at h
 exact (zar.eqOf (h.1) (h.2)))
def zal:(zar×zaM)→List AV:=fun x=>[.agg (zcI.enc x.1),.agg (zlK.enc x.2)]
abbrev zc2:TyD:=TyD.of (zar×zaM) zal (by
 intro x y h; have h1:=(zcM h).1; have h2:=(zcM (zcM h).2).1
 exact zeg (zcI.inj (AV.agg.inj h1)) (zlK.inj (AV.agg.inj h2)))
def zj3:(List (zar×zaM))→List AV:=fun x=>[.mp (List.map zc2.enc x)]
abbrev zpe:TyD:=TyD.of (List (zar×zaM)) zj3 (by
 intro x y h; simp only [zj3,zbm,AV.v.injEq,Value.int.injEq,Value.bool.injEq,Value.string.injEq,AV.sl.injEq,AV.mp.injEq,true_and,and_true,TyD.minj zc2] at h
 exact (h))
structure zbc where
 event:zab
 void:Bool
theorem zbc.eqOf {x y:zbc} (h0:x.event=y.event) (h1:x.void=y.void):x=y:=by cases x; cases y; simp only at *; simp only [h0,h1]
def zaj:zbc→List AV:=fun x=>[I x.event.Stamp.Time,I x.event.Stamp.Source,I x.event.Stamp.Seq,I x.event.Kind,I x.event.Script,I x.event.Part,I x.event.Value,I x.event.Marker,.sl 1 (List.map zaX.enc x.event.Pages),B x.void]
abbrev zcw:TyD:=TyD.of zbc zaj (by
 intro x y h; simp only [zaj,zbm,AV.v.injEq,Value.int.injEq,Value.bool.injEq,Value.string.injEq,AV.sl.injEq,AV.mp.injEq,true_and,and_true,TyD.minj zaX] at h
 exact (zbc.eqOf (zab.eqOf (zaM.eqOf (h.1) (h.2.1) (h.2.2.1)) (h.2.2.2.1) (h.2.2.2.2.1) (h.2.2.2.2.2.1) (h.2.2.2.2.2.2.1) (h.2.2.2.2.2.2.2.1) (h.2.2.2.2.2.2.2.2.1)) (h.2.2.2.2.2.2.2.2.2)))
def zpY:(List zbc)→List AV:=fun x=>[.sl 10 (List.map zcw.enc x)]
abbrev zwZ:TyD:=TyD.of (List zbc) zpY (by
 intro x y h; simp only [zpY,zbm,AV.v.injEq,Value.int.injEq,Value.bool.injEq,Value.string.injEq,AV.sl.injEq,AV.mp.injEq,true_and,and_true,TyD.minj zcw] at h
 exact (h))
def zaq:(zar×Int)→List AV:=fun x=>[.agg (zcI.enc x.1),I x.2]
abbrev zda:TyD:=TyD.of (zar×Int) zaq (by
 intro x y h; have h1:=(zcM h).1; have h2:=(zcM (zcM h).2).1
 exact zeg (zcI.inj (AV.agg.inj h1)) (by simpa using h2))
def zkH:(List (zar×Int))→List AV:=fun x=>[.mp (List.map zda.enc x)]
abbrev zpC:TyD:=TyD.of (List (zar×Int)) zkH (by
 intro x y h; simp only [zkH,zbm,AV.v.injEq,Value.int.injEq,Value.bool.injEq,Value.string.injEq,AV.sl.injEq,AV.mp.injEq,true_and,and_true,TyD.minj zda] at h
 exact (h))
def nL_Bool:(List Bool)→List AV:=fun x=>[.sl 1 (List.map dBool.enc x)]
abbrev dL_Bool:TyD:=TyD.of (List Bool) nL_Bool (by
 intro x y h; simp only [nL_Bool,zbm,AV.v.injEq,Value.int.injEq,Value.bool.injEq,Value.string.injEq,AV.sl.injEq,AV.mp.injEq,true_and,and_true,TyD.minj dBool] at h
 exact (h))
structure zcY where
 Last:List Bool
 Suspended:Bool
theorem zcY.eqOf {x y:zcY} (h0:x.Last=y.Last) (h1:x.Suspended=y.Suspended):x=y:=by cases x; cases y; simp only at *; simp only [h0,h1]
def ziZ:zcY→List AV:=fun x=>[.sl 1 (List.map dBool.enc x.Last),B x.Suspended]
abbrev zq1:TyD:=TyD.of zcY ziZ (by
 intro x y h; simp only [ziZ,zbm,AV.v.injEq,Value.int.injEq,Value.bool.injEq,Value.string.injEq,AV.sl.injEq,AV.mp.injEq,true_and,and_true,TyD.minj dBool] at h
 exact (zcY.eqOf (h.1) (h.2)))
structure zaf where
 level:Int
 marks:List zbc
 period:Int
 started:zaM
 noted:List (zar×Int)
 watch:zcY
 good:zaM
 some:Bool
 suspensions:List za8
theorem zaf.eqOf {x y:zaf} (h0:x.level=y.level) (h1:x.marks=y.marks) (h2:x.period=y.period) (h3:x.started=y.started) (h4:x.noted=y.noted) (h5:x.watch=y.watch) (h6:x.good=y.good) (h7:x.some=y.some) (h8:x.suspensions=y.suspensions):x=y:=by cases x; cases y; simp only at *; simp only [h0,h1,h2,h3,h4,h5,h6,h7,h8]
def zcW:zaf→List AV:=fun x=>[I x.level,.sl 10 (List.map zcw.enc x.marks),I x.period,I x.started.Time,I x.started.Source,I x.started.Seq,.mp (List.map zda.enc x.noted),.sl 1 (List.map dBool.enc x.watch.Last),B x.watch.Suspended,I x.good.Time,I x.good.Source,I x.good.Seq,B x.some,.sl 12 (List.map zcc.enc x.suspensions)]
abbrev zeU:TyD:=TyD.of zaf zcW (by
 intro x y h; simp only [zcW,zbm,AV.v.injEq,Value.int.injEq,Value.bool.injEq,Value.string.injEq,AV.sl.injEq,AV.mp.injEq,true_and,and_true,TyD.minj dBool,TyD.minj zda,TyD.minj zcc,TyD.minj zcw] at h
 exact (zaf.eqOf (h.1) (h.2.1) (h.2.2.1) (zaM.eqOf (h.2.2.2.1) (h.2.2.2.2.1) (h.2.2.2.2.2.1)) (h.2.2.2.2.2.2.1) (zcY.eqOf (h.2.2.2.2.2.2.2.1) (h.2.2.2.2.2.2.2.2.1)) (zaM.eqOf (h.2.2.2.2.2.2.2.2.2.1) (h.2.2.2.2.2.2.2.2.2.2.1) (h.2.2.2.2.2.2.2.2.2.2.2.1)) (h.2.2.2.2.2.2.2.2.2.2.2.2.1) (h.2.2.2.2.2.2.2.2.2.2.2.2.2)))
def zbz:(zar×zab)→List AV:=fun x=>[.agg (zcI.enc x.1),.agg (zaB.enc x.2)]
abbrev zcv:TyD:=TyD.of (zar×zab) zbz (by
 intro x y h; have h1:=(zcM h).1; have h2:=(zcM (zcM h).2).1
 exact zeg (zcI.inj (AV.agg.inj h1)) (zaB.inj (AV.agg.inj h2)))
def zhJ:(List (zar×zab))→List AV:=fun x=>[.mp (List.map zcv.enc x)]
abbrev zmU:TyD:=TyD.of (List (zar×zab)) zhJ (by
 intro x y h; simp only [zhJ,zbm,AV.v.injEq,Value.int.injEq,Value.bool.injEq,Value.string.injEq,AV.sl.injEq,AV.mp.injEq,true_and,and_true,TyD.minj zcv] at h
 exact (h))
def zcu:(Int×Int)→List AV:=fun x=>[I x.1,I x.2]
abbrev zd0:TyD:=TyD.of (Int×Int) zcu (by
 intro x y h; simp only [zcu,zbm,AV.v.injEq,Value.int.injEq,Value.bool.injEq,Value.string.injEq,AV.sl.injEq,AV.mp.injEq,true_and,and_true] at h
 exact (zeg (h.1) (h.2)))
structure zba where
 first:Int
 disputed:Bool
theorem zba.eqOf {x y:zba} (h0:x.first=y.first) (h1:x.disputed=y.disputed):x=y:=by cases x; cases y; simp only at *; simp only [h0,h1]
def zbA:zba→List AV:=fun x=>[I x.first,B x.disputed]
abbrev zdM:TyD:=TyD.of zba zbA (by
 intro x y h; simp only [zbA,zbm,AV.v.injEq,Value.int.injEq,Value.bool.injEq,Value.string.injEq,AV.sl.injEq,AV.mp.injEq,true_and,and_true] at h
 exact (zba.eqOf (h.1) (h.2)))
def zbv:((Int×Int)×zba)→List AV:=fun x=>[.agg (zd0.enc x.1),.agg (zdM.enc x.2)]
abbrev zbS:TyD:=TyD.of ((Int×Int)×zba) zbv (by
 intro x y h; have h1:=(zcM h).1; have h2:=(zcM (zcM h).2).1
 exact zeg (zd0.inj (AV.agg.inj h1)) (zdM.inj (AV.agg.inj h2)))
def zjr:(List ((Int×Int)×zba))→List AV:=fun x=>[.mp (List.map zbS.enc x)]
abbrev zog:TyD:=TyD.of (List ((Int×Int)×zba)) zjr (by
 intro x y h; simp only [zjr,zbm,AV.v.injEq,Value.int.injEq,Value.bool.injEq,Value.string.injEq,AV.sl.injEq,AV.mp.injEq,true_and,and_true,TyD.minj zbS] at h
 exact (h))
def zuP:((Int×Int)×Int)→List AV:=fun x=>[.agg (zd0.enc x.1),I x.2]
abbrev zeS:TyD:=TyD.of ((Int×Int)×Int) zuP (by
 intro x y h; have h1:=(zcM h).1; have h2:=(zcM (zcM h).2).1
 exact zeg (zd0.inj (AV.agg.inj h1)) (by simpa using h2))
def zn9:(List ((Int×Int)×Int))→List AV:=fun x=>[.mp (List.map zeS.enc x)]
abbrev zuF:TyD:=TyD.of (List ((Int×Int)×Int)) zn9 (by
 intro x y h; simp only [zn9,zbm,AV.v.injEq,Value.int.injEq,Value.bool.injEq,Value.string.injEq,AV.sl.injEq,AV.mp.injEq,true_and,and_true,TyD.minj zeS] at h
 exact (h))
def zwh:((Int×Int)×Bool)→List AV:=fun x=>[.agg (zd0.enc x.1),B x.2]
abbrev zfa:TyD:=TyD.of ((Int×Int)×Bool) zwh (by
 intro x y h; have h1:=(zcM h).1; have h2:=(zcM (zcM h).2).1
 exact zeg (zd0.inj (AV.agg.inj h1)) (by simpa using h2))
def zps:(List ((Int×Int)×Bool))→List AV:=fun x=>[.mp (List.map zfa.enc x)]
abbrev zvY:TyD:=TyD.of (List ((Int×Int)×Bool)) zps (by
 intro x y h; simp only [zps,zbm,AV.v.injEq,Value.int.injEq,Value.bool.injEq,Value.string.injEq,AV.sl.injEq,AV.mp.injEq,true_and,and_true,TyD.minj zfa] at h
 exact (h))
@[simp] theorem zft {β:Type} (l:List zbp) (i:Nat) (k:zbp→Option β):elemD zb1 (List.map za5 l) i k=(l[i]?).bind k:=zdN zb1 l i k
@[simp] theorem zdf {β:Type} (l:List zab) (i:Nat) (k:zab→Option β):elemD zaB (List.map zaa l) i k=(l[i]?).bind k:=zdN zaB l i k
@[simp] theorem zfJ {β:Type} (l:List zaU) (i:Nat) (k:zaU→Option β):elemD zcA (List.map zaR l) i k=(l[i]?).bind k:=zdN zcA l i k
@[simp] theorem zfu {β:Type} (l:List zaE) (i:Nat) (k:zaE→Option β):elemD zb6 (List.map zaL l) i k=(l[i]?).bind k:=zdN zb6 l i k
@[simp] theorem zfk {β:Type} (l:List GPart) (i:Nat) (k:GPart→Option β):elemD zea (List.map zaP l) i k=(l[i]?).bind k:=zdN zea l i k
@[simp] theorem zyX {β:Type} (l:List zbr) (i:Nat) (k:zbr→Option β):elemD zdu (List.map zbX l) i k=(l[i]?).bind k:=zdN zdu l i k
@[simp] theorem zle {β:Type} (l:List zaN) (i:Nat) (k:zaN→Option β):elemD zb8 (List.map zaS l) i k=(l[i]?).bind k:=zdN zb8 l i k
@[simp] theorem zni {β:Type} (l:List GSeed) (i:Nat) (k:GSeed→Option β):elemD zeq (List.map zbU l) i k=(l[i]?).bind k:=zdN zeq l i k
@[simp] theorem zdX {β:Type} (l:List za8) (i:Nat) (k:za8→Option β):elemD zcc (List.map zah l) i k=(l[i]?).bind k:=zdN zcc l i k
@[simp] theorem zgH {β:Type} (l:List zbc) (i:Nat) (k:zbc→Option β):elemD zcw (List.map zaj l) i k=(l[i]?).bind k:=zdN zcw l i k
@[simp] theorem zyY {β:Type} (l:List (List Int)) (i:Nat) (k:(List Int)→Option β):elemD zhd (List.map zcQ l) i k=(l[i]?).bind k:=zdN zhd l i k
def tyTab:List TyD:=[dRaw,dRaw,zaX,zaX,dBool,dI_u8,dI_u8,dRaw,dRaw,dStr,dStr,dStr,znA,dRaw,dRaw,dRaw,dRaw,dRaw,dRaw,dRaw,dRaw,dI_i32,zhd,dRaw,dRaw,dRaw,dRaw,dL_GMarker,dL_GScript,dL_GPaper,dL_GScheme,dL_GSeed,dRaw,ziD,dRaw,zhE,dRaw,zyT,dRaw,dL_GGiven,zxR,dRaw,zgG,zaX,dRaw,dRaw,dRaw,dRaw,dRaw,zlK,dRaw,zb1,dRaw,zb8,dRaw,dRaw,dRaw,dRaw,dRaw,dRaw,dRaw,zcc,dRaw,dRaw,zaB,dRaw,dRaw,zcA,zuG,dRaw,ztw,dRaw,dRaw,dRaw,dRaw,dRaw,dRaw,dL_GTask,dRaw,dRaw,dRaw,dRaw,zaW,dRaw,dRaw,dRaw,dRaw,dRaw,dRaw,dRaw,zeq,dRaw,dRaw,dL_GPart,dRaw,zb6,dRaw,dRaw,zea,dRaw,dRaw,dRaw,dRaw,zpe,dRaw,dRaw,dRaw,zwZ,zpC,dL_Bool,dRaw,zq1,dRaw,zeU,zmU,dRaw,dRaw,zcI,dRaw,dRaw,dRaw,dRaw,dRaw,dRaw,dRaw,dRaw,dRaw,dRaw,dRaw,dL_L_I_i64,dRaw,zdu,dRaw,zcw,dRaw,dRaw,zc3,dRaw,dRaw,dRaw,dRaw,dRaw,dRaw,dRaw,dRaw,dRaw,dRaw,dRaw,dRaw,zog,dRaw,zd0,dRaw,zdM,dRaw,dRaw,dRaw,dRaw,dRaw,dRaw,dRaw,dRaw,dRaw,dRaw,dRaw,dRaw,dRaw,dRaw,znA,zuF,zvY,dRaw,dRaw,dRaw,dRaw,dRaw,dRaw,dRaw,dRaw,dRaw,dRaw,dRaw,dRaw,dRaw,dRaw,dRaw,dRaw,dRaw,dRaw,dRaw,dRaw,dRaw,dRaw,dRaw,dRaw,dRaw,zaX,dRaw,dRaw,dRaw,dRaw,dRaw,dRaw,dI_u32,dRaw,znA,dRaw,dRaw,dRaw,dRaw,dRaw,dRaw,dRaw,dRaw,dRaw,dRaw,dRaw,dRaw,dRaw,dRaw,dRaw,dRaw,dRaw,dRaw,dRaw,znA,dRaw,dRaw,dRaw,dRaw,dRaw,dRaw,dRaw,dRaw,dRaw,dRaw,dRaw,dRaw,dRaw,dRaw,dRaw,dRaw,dRaw,dRaw,dRaw,dRaw,dRaw,dRaw,dRaw,dRaw,dRaw,dRaw,dRaw,dI_u8,dI_u8,dRaw,dRaw,dI_i32,dI_i32,dRaw,dRaw,dRaw]
end Go.Proofs.YtikogkgdkdmljaaGreat
end
