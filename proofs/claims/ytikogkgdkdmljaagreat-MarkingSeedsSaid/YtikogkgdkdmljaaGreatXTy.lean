/- The types of the seat as data. -/
import Derived.Test.YtikogkgdkdmljaaGreatAb9
set_option linter.unusedSimpArgs false
set_option linter.unusedVariables false
noncomputable section
namespace Go.Proofs.YtikogkgdkdmljaaGreat
open Go.Ab
def zcm:(List Int)→List AV:=fun x=>[.sl 1 (List.map zaS.enc x)]
abbrev zeE:TyD:=TyD.of (List Int) zcm (by
 intro x y h; simp only [zcm,zbn,AV.v.injEq,Value.int.injEq,Value.bool.injEq,Value.string.injEq,AV.sl.injEq,AV.mp.injEq,true_and,and_true,TyD.minj zaS] at h
 exact (h))
structure zaW where
 ID:Int
 Centre:Int
 Level:Int
 Capacity:Int
 Papers:List Int
theorem zaW.eqOf {x y:zaW} (h0:x.ID=y.ID) (h1:x.Centre=y.Centre) (h2:x.Level=y.Level) (h3:x.Capacity=y.Capacity) (h4:x.Papers=y.Papers):x=y:=by cases x; cases y; simp only at *; simp only [h0,h1,h2,h3,h4]
def zaX:zaW→List AV:=fun x=>[I x.ID,I x.Centre,I x.Level,I x.Capacity,.sl 1 (List.map zaS.enc x.Papers)]
abbrev zcx:TyD:=TyD.of zaW zaX (by
 intro x y h; simp only [zaX,zbn,AV.v.injEq,Value.int.injEq,Value.bool.injEq,Value.string.injEq,AV.sl.injEq,AV.mp.injEq,true_and,and_true,TyD.minj zaS] at h
 exact (zaW.eqOf (h.1) (h.2.1) (h.2.2.1) (h.2.2.2.1) (h.2.2.2.2)))
def zyU:(List zaW)→List AV:=fun x=>[.sl 5 (List.map zcx.enc x)]
abbrev dL_GMarker:TyD:=TyD.of (List zaW) zyU (by
 intro x y h; simp only [zyU,zbn,AV.v.injEq,Value.int.injEq,Value.bool.injEq,Value.string.injEq,AV.sl.injEq,AV.mp.injEq,true_and,and_true,TyD.minj zcx] at h
 exact (h))
structure zaJ where
 Number:Int
 Paper:Int
 Candidate:Int
 Centre:Int
 Variant:Int
 Pages:List Int
 Answers:List Int
theorem zaJ.eqOf {x y:zaJ} (h0:x.Number=y.Number) (h1:x.Paper=y.Paper) (h2:x.Candidate=y.Candidate) (h3:x.Centre=y.Centre) (h4:x.Variant=y.Variant) (h5:x.Pages=y.Pages) (h6:x.Answers=y.Answers):x=y:=by cases x; cases y; simp only at *; simp only [h0,h1,h2,h3,h4,h5,h6]
def zaN:zaJ→List AV:=fun x=>[I x.Number,I x.Paper,I x.Candidate,I x.Centre,I x.Variant,.sl 1 (List.map zaS.enc x.Pages),.sl 1 (List.map zaS.enc x.Answers)]
abbrev zb5:TyD:=TyD.of zaJ zaN (by
 intro x y h; simp only [zaN,zbn,AV.v.injEq,Value.int.injEq,Value.bool.injEq,Value.string.injEq,AV.sl.injEq,AV.mp.injEq,true_and,and_true,TyD.minj zaS] at h
 exact (zaJ.eqOf (h.1) (h.2.1) (h.2.2.1) (h.2.2.2.1) (h.2.2.2.2.1) (h.2.2.2.2.2.1) (h.2.2.2.2.2.2)))
def zyW:(List zaJ)→List AV:=fun x=>[.sl 7 (List.map zb5.enc x)]
abbrev dL_GScript:TyD:=TyD.of (List zaJ) zyW (by
 intro x y h; simp only [zyW,zbn,AV.v.injEq,Value.int.injEq,Value.bool.injEq,Value.string.injEq,AV.sl.injEq,AV.mp.injEq,true_and,and_true,TyD.minj zb5] at h
 exact (h))
structure GPart where
 Kind:Int
 Max:Int
 Topic:Int
 Objective:Int
 Options:Int
 Key:Int
theorem GPart.eqOf {x y:GPart} (h0:x.Kind=y.Kind) (h1:x.Max=y.Max) (h2:x.Topic=y.Topic) (h3:x.Objective=y.Objective) (h4:x.Options=y.Options) (h5:x.Key=y.Key):x=y:=by cases x; cases y; simp only at *; simp only [h0,h1,h2,h3,h4,h5]
def zaL:GPart→List AV:=fun x=>[I x.Kind,I x.Max,I x.Topic,I x.Objective,I x.Options,I x.Key]
abbrev zc1:TyD:=TyD.of GPart zaL (by
 intro x y h; simp only [zaL,zbn,AV.v.injEq,Value.int.injEq,Value.bool.injEq,Value.string.injEq,AV.sl.injEq,AV.mp.injEq,true_and,and_true] at h
 exact (GPart.eqOf (h.1) (h.2.1) (h.2.2.1) (h.2.2.2.1) (h.2.2.2.2.1) (h.2.2.2.2.2)))
def nL_GPart:(List GPart)→List AV:=fun x=>[.sl 6 (List.map zc1.enc x)]
abbrev dL_GPart:TyD:=TyD.of (List GPart) nL_GPart (by
 intro x y h; simp only [nL_GPart,zbn,AV.v.injEq,Value.int.injEq,Value.bool.injEq,Value.string.injEq,AV.sl.injEq,AV.mp.injEq,true_and,and_true,TyD.minj zc1] at h
 exact (h))
structure zaE where
 Code:Int
 Variant:Int
 Parts:List GPart
theorem zaE.eqOf {x y:zaE} (h0:x.Code=y.Code) (h1:x.Variant=y.Variant) (h2:x.Parts=y.Parts):x=y:=by cases x; cases y; simp only at *; simp only [h0,h1,h2]
def zaG:zaE→List AV:=fun x=>[I x.Code,I x.Variant,.sl 6 (List.map zc1.enc x.Parts)]
abbrev zbZ:TyD:=TyD.of zaE zaG (by
 intro x y h; simp only [zaG,zbn,AV.v.injEq,Value.int.injEq,Value.bool.injEq,Value.string.injEq,AV.sl.injEq,AV.mp.injEq,true_and,and_true,TyD.minj zc1] at h
 exact (zaE.eqOf (h.1) (h.2.1) (h.2.2)))
def zAa:(List zaE)→List AV:=fun x=>[.sl 3 (List.map zbZ.enc x)]
abbrev dL_GPaper:TyD:=TyD.of (List zaE) zAa (by
 intro x y h; simp only [zAa,zbn,AV.v.injEq,Value.int.injEq,Value.bool.injEq,Value.string.injEq,AV.sl.injEq,AV.mp.injEq,true_and,and_true,TyD.minj zbZ] at h
 exact (h))
def zyX:(List (List Int))→List AV:=fun x=>[.sl 1 (List.map zeE.enc x)]
abbrev dL_L_I_i64:TyD:=TyD.of (List (List Int)) zyX (by
 intro x y h; simp only [zyX,zbn,AV.v.injEq,Value.int.injEq,Value.bool.injEq,Value.string.injEq,AV.sl.injEq,AV.mp.injEq,true_and,and_true,TyD.minj zeE] at h
 exact (h))
structure zbl where
 Keys:List (List Int)
 Withdrawn:List Int
theorem zbl.eqOf {x y:zbl} (h0:x.Keys=y.Keys) (h1:x.Withdrawn=y.Withdrawn):x=y:=by cases x; cases y; simp only at *; simp only [h0,h1]
def zbA:zbl→List AV:=fun x=>[.sl 1 (List.map zeE.enc x.Keys),.sl 1 (List.map zaS.enc x.Withdrawn)]
abbrev zdq:TyD:=TyD.of zbl zbA (by
 intro x y h; simp only [zbA,zbn,AV.v.injEq,Value.int.injEq,Value.bool.injEq,Value.string.injEq,AV.sl.injEq,AV.mp.injEq,true_and,and_true,TyD.minj zaS,TyD.minj zeE] at h
 exact (zbl.eqOf (h.1) (h.2)))
def zyV:(List zbl)→List AV:=fun x=>[.sl 2 (List.map zdq.enc x)]
abbrev dL_GScheme:TyD:=TyD.of (List zbl) zyV (by
 intro x y h; simp only [zyV,zbn,AV.v.injEq,Value.int.injEq,Value.bool.injEq,Value.string.injEq,AV.sl.injEq,AV.mp.injEq,true_and,and_true,TyD.minj zdq] at h
 exact (h))
structure GSeed where
 Script:Int
 Marks:List Int
theorem GSeed.eqOf {x y:GSeed} (h0:x.Script=y.Script) (h1:x.Marks=y.Marks):x=y:=by cases x; cases y; simp only at *; simp only [h0,h1]
def zb0:GSeed→List AV:=fun x=>[I x.Script,.sl 1 (List.map zaS.enc x.Marks)]
abbrev zeK:TyD:=TyD.of GSeed zb0 (by
 intro x y h; simp only [zb0,zbn,AV.v.injEq,Value.int.injEq,Value.bool.injEq,Value.string.injEq,AV.sl.injEq,AV.mp.injEq,true_and,and_true,TyD.minj zaS] at h
 exact (GSeed.eqOf (h.1) (h.2)))
def nL_GSeed:(List GSeed)→List AV:=fun x=>[.sl 2 (List.map zeK.enc x)]
abbrev dL_GSeed:TyD:=TyD.of (List GSeed) nL_GSeed (by
 intro x y h; simp only [nL_GSeed,zbn,AV.v.injEq,Value.int.injEq,Value.bool.injEq,Value.string.injEq,AV.sl.injEq,AV.mp.injEq,true_and,and_true,TyD.minj zeK] at h
 exact (h))
structure za8 where
 Part:Int
 Total:Int
 Window:Int
 Fails:Int
theorem za8.eqOf {x y:za8} (h0:x.Part=y.Part) (h1:x.Total=y.Total) (h2:x.Window=y.Window) (h3:x.Fails=y.Fails):x=y:=by cases x; cases y; simp only at *; simp only [h0,h1,h2,h3]
def zbK:za8→List AV:=fun x=>[I x.Part,I x.Total,I x.Window,I x.Fails]
abbrev zje:TyD:=TyD.of za8 zbK (by
 intro x y h; simp only [zbK,zbn,AV.v.injEq,Value.int.injEq,Value.bool.injEq,Value.string.injEq,AV.sl.injEq,AV.mp.injEq,true_and,and_true] at h
 exact (za8.eqOf (h.1) (h.2.1) (h.2.2.1) (h.2.2.2)))
structure zay where
 Markers:List zaW
 Scripts:List zaJ
 Papers:List zaE
 Schemes:List zbl
 Seeds:List GSeed
 Monitor:za8
theorem zay.eqOf {x y:zay} (h0:x.Markers=y.Markers) (h1:x.Scripts=y.Scripts) (h2:x.Papers=y.Papers) (h3:x.Schemes=y.Schemes) (h4:x.Seeds=y.Seeds) (h5:x.Monitor=y.Monitor):x=y:=by cases x; cases y; simp only at *; simp only [h0,h1,h2,h3,h4,h5]
def zar:zay→List AV:=fun x=>[.sl 5 (List.map zcx.enc x.Markers),.sl 7 (List.map zb5.enc x.Scripts),.sl 3 (List.map zbZ.enc x.Papers),.sl 2 (List.map zdq.enc x.Schemes),.sl 2 (List.map zeK.enc x.Seeds),I x.Monitor.Part,I x.Monitor.Total,I x.Monitor.Window,I x.Monitor.Fails]
abbrev zgY:TyD:=TyD.of zay zar (by
 intro x y h; simp only [zar,zbn,AV.v.injEq,Value.int.injEq,Value.bool.injEq,Value.string.injEq,AV.sl.injEq,AV.mp.injEq,true_and,and_true,TyD.minj zcx,TyD.minj zbZ,TyD.minj zdq,TyD.minj zb5,TyD.minj zeK] at h
 exact (zay.eqOf (h.1) (h.2.1) (h.2.2.1) (h.2.2.2.1) (h.2.2.2.2.1) (za8.eqOf (h.2.2.2.2.2.1) (h.2.2.2.2.2.2.1) (h.2.2.2.2.2.2.2.1) (h.2.2.2.2.2.2.2.2))))
structure zaQ where
 Time:Int
 Source:Int
 Seq:Int
theorem zaQ.eqOf {x y:zaQ} (h0:x.Time=y.Time) (h1:x.Source=y.Source) (h2:x.Seq=y.Seq):x=y:=by cases x; cases y; simp only at *; simp only [h0,h1,h2]
def zbG:zaQ→List AV:=fun x=>[I x.Time,I x.Source,I x.Seq]
abbrev zmD:TyD:=TyD.of zaQ zbG (by
 intro x y h; simp only [zbG,zbn,AV.v.injEq,Value.int.injEq,Value.bool.injEq,Value.string.injEq,AV.sl.injEq,AV.mp.injEq,true_and,and_true] at h
 exact (zaQ.eqOf (h.1) (h.2.1) (h.2.2)))
structure zab where
 Stamp:zaQ
 Kind:Int
 Script:Int
 Part:Int
 Value:Int
 Marker:Int
 Pages:List Int
theorem zab.eqOf {x y:zab} (h0:x.Stamp=y.Stamp) (h1:x.Kind=y.Kind) (h2:x.Script=y.Script) (h3:x.Part=y.Part) (h4:x.Value=y.Value) (h5:x.Marker=y.Marker) (h6:x.Pages=y.Pages):x=y:=by cases x; cases y; simp only at *; simp only [h0,h1,h2,h3,h4,h5,h6]
def zaa:zab→List AV:=fun x=>[I x.Stamp.Time,I x.Stamp.Source,I x.Stamp.Seq,I x.Kind,I x.Script,I x.Part,I x.Value,I x.Marker,.sl 1 (List.map zaS.enc x.Pages)]
abbrev zax:TyD:=TyD.of zab zaa (by
 intro x y h; simp only [zaa,zbn,AV.v.injEq,Value.int.injEq,Value.bool.injEq,Value.string.injEq,AV.sl.injEq,AV.mp.injEq,true_and,and_true,TyD.minj zaS] at h
 exact (zab.eqOf (zaQ.eqOf (h.1) (h.2.1) (h.2.2.1)) (h.2.2.2.1) (h.2.2.2.2.1) (h.2.2.2.2.2.1) (h.2.2.2.2.2.2.1) (h.2.2.2.2.2.2.2.1) (h.2.2.2.2.2.2.2.2)))
def zuf:(List zab)→List AV:=fun x=>[.sl 9 (List.map zax.enc x)]
abbrev zAC:TyD:=TyD.of (List zab) zuf (by
 intro x y h; simp only [zuf,zbn,AV.v.injEq,Value.int.injEq,Value.bool.injEq,Value.string.injEq,AV.sl.injEq,AV.mp.injEq,true_and,and_true,TyD.minj zax] at h
 exact (h))
structure zbI where
 Script:Int
 Part:Int
 Marker:Int
 Level:Int
 Value:Int
 Stamp:zaQ
theorem zbI.eqOf {x y:zbI} (h0:x.Script=y.Script) (h1:x.Part=y.Part) (h2:x.Marker=y.Marker) (h3:x.Level=y.Level) (h4:x.Value=y.Value) (h5:x.Stamp=y.Stamp):x=y:=by cases x; cases y; simp only at *; simp only [h0,h1,h2,h3,h4,h5]
def zbo:zbI→List AV:=fun x=>[I x.Script,I x.Part,I x.Marker,I x.Level,I x.Value,I x.Stamp.Time,I x.Stamp.Source,I x.Stamp.Seq]
abbrev zcd:TyD:=TyD.of zbI zbo (by
 intro x y h; simp only [zbo,zbn,AV.v.injEq,Value.int.injEq,Value.bool.injEq,Value.string.injEq,AV.sl.injEq,AV.mp.injEq,true_and,and_true] at h
 exact (zbI.eqOf (h.1) (h.2.1) (h.2.2.1) (h.2.2.2.1) (h.2.2.2.2.1) (zaQ.eqOf (h.2.2.2.2.2.1) (h.2.2.2.2.2.2.1) (h.2.2.2.2.2.2.2))))
def zz9:(List zbI)→List AV:=fun x=>[.sl 8 (List.map zcd.enc x)]
abbrev dL_GGiven:TyD:=TyD.of (List zbI) zz9 (by
 intro x y h; simp only [zz9,zbn,AV.v.injEq,Value.int.injEq,Value.bool.injEq,Value.string.injEq,AV.sl.injEq,AV.mp.injEq,true_and,and_true,TyD.minj zcd] at h
 exact (h))
structure zbf where
 Marker:Int
 Good:zaQ
 At:zaQ
 Until:zaQ
 First:Bool
 Lifted:Bool
theorem zbf.eqOf {x y:zbf} (h0:x.Marker=y.Marker) (h1:x.Good=y.Good) (h2:x.At=y.At) (h3:x.Until=y.Until) (h4:x.First=y.First) (h5:x.Lifted=y.Lifted):x=y:=by cases x; cases y; simp only at *; simp only [h0,h1,h2,h3,h4,h5]
def zah:zbf→List AV:=fun x=>[I x.Marker,I x.Good.Time,I x.Good.Source,I x.Good.Seq,I x.At.Time,I x.At.Source,I x.At.Seq,I x.Until.Time,I x.Until.Source,I x.Until.Seq,B x.First,B x.Lifted]
abbrev zch:TyD:=TyD.of zbf zah (by
 intro x y h; simp only [zah,zbn,AV.v.injEq,Value.int.injEq,Value.bool.injEq,Value.string.injEq,AV.sl.injEq,AV.mp.injEq,true_and,and_true] at h
 exact (zbf.eqOf (h.1) (zaQ.eqOf (h.2.1) (h.2.2.1) (h.2.2.2.1)) (zaQ.eqOf (h.2.2.2.2.1) (h.2.2.2.2.2.1) (h.2.2.2.2.2.2.1)) (zaQ.eqOf (h.2.2.2.2.2.2.2.1) (h.2.2.2.2.2.2.2.2.1) (h.2.2.2.2.2.2.2.2.2.1)) (h.2.2.2.2.2.2.2.2.2.2.1) (h.2.2.2.2.2.2.2.2.2.2.2)))
def zsD:(List zbf)→List AV:=fun x=>[.sl 12 (List.map zch.enc x)]
abbrev zzs:TyD:=TyD.of (List zbf) zsD (by
 intro x y h; simp only [zsD,zbn,AV.v.injEq,Value.int.injEq,Value.bool.injEq,Value.string.injEq,AV.sl.injEq,AV.mp.injEq,true_and,and_true,TyD.minj zch] at h
 exact (h))
structure zbz where
 Given:List zbI
 Suspensions:List zbf
theorem zbz.eqOf {x y:zbz} (h0:x.Given=y.Given) (h1:x.Suspensions=y.Suspensions):x=y:=by cases x; cases y; simp only at *; simp only [h0,h1]
def zcj:zbz→List AV:=fun x=>[.sl 8 (List.map zcd.enc x.Given),.sl 12 (List.map zch.enc x.Suspensions)]
abbrev zg5:TyD:=TyD.of zbz zcj (by
 intro x y h; simp only [zcj,zbn,AV.v.injEq,Value.int.injEq,Value.bool.injEq,Value.string.injEq,AV.sl.injEq,AV.mp.injEq,true_and,and_true,TyD.minj zcd,TyD.minj zch] at h
 exact (zbz.eqOf (h.1) (h.2)))
def zfq:(Int×Int×Int)→List AV:=fun x=>[I x.1,I x.2.1,I x.2.2]
abbrev zrb:TyD:=TyD.of (Int×Int×Int) zfq (by
 intro x y h; simp only [zfq,zbn,AV.v.injEq,Value.int.injEq,Value.bool.injEq,Value.string.injEq,AV.sl.injEq,AV.mp.injEq,true_and,and_true] at h
 exact (zeY (h.1) (zeY (h.2.1) (h.2.2))))
def zek:((Int×Int×Int)×Int)→List AV:=fun x=>[.agg (zrb.enc x.1),I x.2]
abbrev zpo:TyD:=TyD.of ((Int×Int×Int)×Int) zek (by
 intro x y h; have h1:=(zcV h).1; have h2:=(zcV (zcV h).2).1
 exact zeY (zrb.inj (AV.agg.inj h1)) (by simpa using h2))
def zpr:(List ((Int×Int×Int)×Int))→List AV:=fun x=>[.mp (List.map zpo.enc x)]
abbrev zwe:TyD:=TyD.of (List ((Int×Int×Int)×Int)) zpr (by
 intro x y h; simp only [zpr,zbn,AV.v.injEq,Value.int.injEq,Value.bool.injEq,Value.string.injEq,AV.sl.injEq,AV.mp.injEq,true_and,and_true,TyD.minj zpo] at h
 exact (h))
structure GTask where
 Script:Int
 Marker:Int
theorem GTask.eqOf {x y:GTask} (h0:x.Script=y.Script) (h1:x.Marker=y.Marker):x=y:=by cases x; cases y; simp only at *; simp only [h0,h1]
def zfX:GTask→List AV:=fun x=>[I x.Script,I x.Marker]
abbrev zdb:TyD:=TyD.of GTask zfX (by
 intro x y h; simp only [zfX,zbn,AV.v.injEq,Value.int.injEq,Value.bool.injEq,Value.string.injEq,AV.sl.injEq,AV.mp.injEq,true_and,and_true] at h
 exact (GTask.eqOf (h.1) (h.2)))
def nL_GTask:(List GTask)→List AV:=fun x=>[.sl 2 (List.map zdb.enc x)]
abbrev dL_GTask:TyD:=TyD.of (List GTask) nL_GTask (by
 intro x y h; simp only [nL_GTask,zbn,AV.v.injEq,Value.int.injEq,Value.bool.injEq,Value.string.injEq,AV.sl.injEq,AV.mp.injEq,true_and,and_true,TyD.minj zdb] at h
 exact (h))
structure zae where
 L:List Int
 At:Int
theorem zae.eqOf {x y:zae} (h0:x.L=y.L) (h1:x.At=y.At):x=y:=by cases x; cases y; simp only at *; simp only [h0,h1]
def zas:zae→List AV:=fun x=>[.sl 1 (List.map zaS.enc x.L),I x.At]
abbrev za1:TyD:=TyD.of zae zas (by
 intro x y h; simp only [zas,zbn,AV.v.injEq,Value.int.injEq,Value.bool.injEq,Value.string.injEq,AV.sl.injEq,AV.mp.injEq,true_and,and_true,TyD.minj zaS] at h
 exact (zae.eqOf (h.1) (h.2)))
structure zat where
 script:Int
 part:Int
theorem zat.eqOf {x y:zat} (h0:x.script=y.script) (h1:x.part=y.part):x=y:=by cases x; cases y; simp only at *; simp only [h0,h1]
def zbg:zat→List AV:=fun x=>[I x.script,I x.part]
abbrev zcR:TyD:=TyD.of zat zbg (by
 intro x y h; simp only [zbg,zbn,AV.v.injEq,Value.int.injEq,Value.bool.injEq,Value.string.injEq,AV.sl.injEq,AV.mp.injEq,true_and,and_true] at h
 exact (zat.eqOf (h.1) (h.2)))
def zao:(zat×zaQ)→List AV:=fun x=>[.agg (zcR.enc x.1),.agg (zmD.enc x.2)]
abbrev zda:TyD:=TyD.of (zat×zaQ) zao (by
 intro x y h; have h1:=(zcV h).1; have h2:=(zcV (zcV h).2).1
 exact zeY (zcR.inj (AV.agg.inj h1)) (zmD.inj (AV.agg.inj h2)))
def zkH:(List (zat×zaQ))→List AV:=fun x=>[.mp (List.map zda.enc x)]
abbrev zqw:TyD:=TyD.of (List (zat×zaQ)) zkH (by
 intro x y h; simp only [zkH,zbn,AV.v.injEq,Value.int.injEq,Value.bool.injEq,Value.string.injEq,AV.sl.injEq,AV.mp.injEq,true_and,and_true,TyD.minj zda] at h
 exact (h))
structure zbh where
 event:zab
 void:Bool
theorem zbh.eqOf {x y:zbh} (h0:x.event=y.event) (h1:x.void=y.void):x=y:=by cases x; cases y; simp only at *; simp only [h0,h1]
def zan:zbh→List AV:=fun x=>[I x.event.Stamp.Time,I x.event.Stamp.Source,I x.event.Stamp.Seq,I x.event.Kind,I x.event.Script,I x.event.Part,I x.event.Value,I x.event.Marker,.sl 1 (List.map zaS.enc x.event.Pages),B x.void]
abbrev zcD:TyD:=TyD.of zbh zan (by
 intro x y h; simp only [zan,zbn,AV.v.injEq,Value.int.injEq,Value.bool.injEq,Value.string.injEq,AV.sl.injEq,AV.mp.injEq,true_and,and_true,TyD.minj zaS] at h
 exact (zbh.eqOf (zab.eqOf (zaQ.eqOf (h.1) (h.2.1) (h.2.2.1)) (h.2.2.2.1) (h.2.2.2.2.1) (h.2.2.2.2.2.1) (h.2.2.2.2.2.2.1) (h.2.2.2.2.2.2.2.1) (h.2.2.2.2.2.2.2.2.1)) (h.2.2.2.2.2.2.2.2.2)))
def zrj:(List zbh)→List AV:=fun x=>[.sl 10 (List.map zcD.enc x)]
abbrev zyt:TyD:=TyD.of (List zbh) zrj (by
 intro x y h; simp only [zrj,zbn,AV.v.injEq,Value.int.injEq,Value.bool.injEq,Value.string.injEq,AV.sl.injEq,AV.mp.injEq,true_and,and_true,TyD.minj zcD] at h
 exact (h))
def zau:(zat×Int)→List AV:=fun x=>[.agg (zcR.enc x.1),I x.2]
abbrev zdk:TyD:=TyD.of (zat×Int) zau (by
 intro x y h; have h1:=(zcV h).1; have h2:=(zcV (zcV h).2).1
 exact zeY (zcR.inj (AV.agg.inj h1)) (by simpa using h2))
def zlj:(List (zat×Int))→List AV:=fun x=>[.mp (List.map zdk.enc x)]
abbrev zqX:TyD:=TyD.of (List (zat×Int)) zlj (by
 intro x y h; simp only [zlj,zbn,AV.v.injEq,Value.int.injEq,Value.bool.injEq,Value.string.injEq,AV.sl.injEq,AV.mp.injEq,true_and,and_true,TyD.minj zdk] at h
 exact (h))
def nL_Bool:(List Bool)→List AV:=fun x=>[.sl 1 (List.map dBool.enc x)]
abbrev dL_Bool:TyD:=TyD.of (List Bool) nL_Bool (by
 intro x y h; simp only [nL_Bool,zbn,AV.v.injEq,Value.int.injEq,Value.bool.injEq,Value.string.injEq,AV.sl.injEq,AV.mp.injEq,true_and,and_true,TyD.minj dBool] at h
 exact (h))
structure zc6 where
 Last:List Bool
 Suspended:Bool
theorem zc6.eqOf {x y:zc6} (h0:x.Last=y.Last) (h1:x.Suspended=y.Suspended):x=y:=by cases x; cases y; simp only at *; simp only [h0,h1]
def zjw:zc6→List AV:=fun x=>[.sl 1 (List.map dBool.enc x.Last),B x.Suspended]
abbrev zsp:TyD:=TyD.of zc6 zjw (by
 intro x y h; simp only [zjw,zbn,AV.v.injEq,Value.int.injEq,Value.bool.injEq,Value.string.injEq,AV.sl.injEq,AV.mp.injEq,true_and,and_true,TyD.minj dBool] at h
 exact (zc6.eqOf (h.1) (h.2)))
structure zai where
 level:Int
 marks:List zbh
 period:Int
 started:zaQ
 noted:List (zat×Int)
 watch:zc6
 good:zaQ
 some:Bool
 suspensions:List zbf
theorem zai.eqOf {x y:zai} (h0:x.level=y.level) (h1:x.marks=y.marks) (h2:x.period=y.period) (h3:x.started=y.started) (h4:x.noted=y.noted) (h5:x.watch=y.watch) (h6:x.good=y.good) (h7:x.some=y.some) (h8:x.suspensions=y.suspensions):x=y:=by cases x; cases y; simp only at *; simp only [h0,h1,h2,h3,h4,h5,h6,h7,h8]
def zc4:zai→List AV:=fun x=>[I x.level,.sl 10 (List.map zcD.enc x.marks),I x.period,I x.started.Time,I x.started.Source,I x.started.Seq,.mp (List.map zdk.enc x.noted),.sl 1 (List.map dBool.enc x.watch.Last),B x.watch.Suspended,I x.good.Time,I x.good.Source,I x.good.Seq,B x.some,.sl 12 (List.map zch.enc x.suspensions)]
abbrev zfo:TyD:=TyD.of zai zc4 (by
 intro x y h; simp only [zc4,zbn,AV.v.injEq,Value.int.injEq,Value.bool.injEq,Value.string.injEq,AV.sl.injEq,AV.mp.injEq,true_and,and_true,TyD.minj dBool,TyD.minj zdk,TyD.minj zch,TyD.minj zcD] at h
 exact (zai.eqOf (h.1) (h.2.1) (h.2.2.1) (zaQ.eqOf (h.2.2.2.1) (h.2.2.2.2.1) (h.2.2.2.2.2.1)) (h.2.2.2.2.2.2.1) (zc6.eqOf (h.2.2.2.2.2.2.2.1) (h.2.2.2.2.2.2.2.2.1)) (zaQ.eqOf (h.2.2.2.2.2.2.2.2.2.1) (h.2.2.2.2.2.2.2.2.2.2.1) (h.2.2.2.2.2.2.2.2.2.2.2.1)) (h.2.2.2.2.2.2.2.2.2.2.2.2.1) (h.2.2.2.2.2.2.2.2.2.2.2.2.2)))
def zbF:(zat×zab)→List AV:=fun x=>[.agg (zcR.enc x.1),.agg (zax.enc x.2)]
abbrev zcC:TyD:=TyD.of (zat×zab) zbF (by
 intro x y h; have h1:=(zcV h).1; have h2:=(zcV (zcV h).2).1
 exact zeY (zcR.inj (AV.agg.inj h1)) (zax.inj (AV.agg.inj h2)))
def zic:(List (zat×zab))→List AV:=fun x=>[.mp (List.map zcC.enc x)]
abbrev znY:TyD:=TyD.of (List (zat×zab)) zic (by
 intro x y h; simp only [zic,zbn,AV.v.injEq,Value.int.injEq,Value.bool.injEq,Value.string.injEq,AV.sl.injEq,AV.mp.injEq,true_and,and_true,TyD.minj zcC] at h
 exact (h))
def zbM:(Int×Int)→List AV:=fun x=>[I x.1,I x.2]
abbrev zen:TyD:=TyD.of (Int×Int) zbM (by
 intro x y h; simp only [zbM,zbn,AV.v.injEq,Value.int.injEq,Value.bool.injEq,Value.string.injEq,AV.sl.injEq,AV.mp.injEq,true_and,and_true] at h
 exact (zeY (h.1) (h.2)))
structure za4 where
 first:Int
 disputed:Bool
theorem za4.eqOf {x y:za4} (h0:x.first=y.first) (h1:x.disputed=y.disputed):x=y:=by cases x; cases y; simp only at *; simp only [h0,h1]
def zbH:za4→List AV:=fun x=>[I x.first,B x.disputed]
abbrev zd5:TyD:=TyD.of za4 zbH (by
 intro x y h; simp only [zbH,zbn,AV.v.injEq,Value.int.injEq,Value.bool.injEq,Value.string.injEq,AV.sl.injEq,AV.mp.injEq,true_and,and_true] at h
 exact (za4.eqOf (h.1) (h.2)))
def zby:((Int×Int)×za4)→List AV:=fun x=>[.agg (zen.enc x.1),.agg (zd5.enc x.2)]
abbrev zbY:TyD:=TyD.of ((Int×Int)×za4) zby (by
 intro x y h; have h1:=(zcV h).1; have h2:=(zcV (zcV h).2).1
 exact zeY (zen.inj (AV.agg.inj h1)) (zd5.inj (AV.agg.inj h2)))
def zjW:(List ((Int×Int)×za4))→List AV:=fun x=>[.mp (List.map zbY.enc x)]
abbrev zpx:TyD:=TyD.of (List ((Int×Int)×za4)) zjW (by
 intro x y h; simp only [zjW,zbn,AV.v.injEq,Value.int.injEq,Value.bool.injEq,Value.string.injEq,AV.sl.injEq,AV.mp.injEq,true_and,and_true,TyD.minj zbY] at h
 exact (h))
def zdG:((Int×Int)×Int)→List AV:=fun x=>[.agg (zen.enc x.1),I x.2]
abbrev zfi:TyD:=TyD.of ((Int×Int)×Int) zdG (by
 intro x y h; have h1:=(zcV h).1; have h2:=(zcV (zcV h).2).1
 exact zeY (zen.inj (AV.agg.inj h1)) (by simpa using h2))
def zpq:(List ((Int×Int)×Int))→List AV:=fun x=>[.mp (List.map zfi.enc x)]
abbrev zwd:TyD:=TyD.of (List ((Int×Int)×Int)) zpq (by
 intro x y h; simp only [zpq,zbn,AV.v.injEq,Value.int.injEq,Value.bool.injEq,Value.string.injEq,AV.sl.injEq,AV.mp.injEq,true_and,and_true,TyD.minj zfi] at h
 exact (h))
def zdW:((Int×Int)×Bool)→List AV:=fun x=>[.agg (zen.enc x.1),B x.2]
abbrev zfE:TyD:=TyD.of ((Int×Int)×Bool) zdW (by
 intro x y h; have h1:=(zcV h).1; have h2:=(zcV (zcV h).2).1
 exact zeY (zen.inj (AV.agg.inj h1)) (by simpa using h2))
def zqN:(List ((Int×Int)×Bool))→List AV:=fun x=>[.mp (List.map zfE.enc x)]
abbrev zxw:TyD:=TyD.of (List ((Int×Int)×Bool)) zqN (by
 intro x y h; simp only [zqN,zbn,AV.v.injEq,Value.int.injEq,Value.bool.injEq,Value.string.injEq,AV.sl.injEq,AV.mp.injEq,true_and,and_true,TyD.minj zfE] at h
 exact (h))
@[simp] theorem zkj {β:Type} (l:List zbI) (i:Nat) (k:zbI→Option β):elemD zcd (List.map zbo l) i k=(l[i]?).bind k:=zd6 zcd l i k
@[simp] theorem zbD {β:Type} (l:List zab) (i:Nat) (k:zab→Option β):elemD zax (List.map zaa l) i k=(l[i]?).bind k:=zd6 zax l i k
@[simp] theorem zd0 {β:Type} (l:List zaW) (i:Nat) (k:zaW→Option β):elemD zcx (List.map zaX l) i k=(l[i]?).bind k:=zd6 zcx l i k
@[simp] theorem ze0 {β:Type} (l:List zaE) (i:Nat) (k:zaE→Option β):elemD zbZ (List.map zaG l) i k=(l[i]?).bind k:=zd6 zbZ l i k
@[simp] theorem zdx {β:Type} (l:List GPart) (i:Nat) (k:GPart→Option β):elemD zc1 (List.map zaL l) i k=(l[i]?).bind k:=zd6 zc1 l i k
@[simp] theorem zua {β:Type} (l:List zbl) (i:Nat) (k:zbl→Option β):elemD zdq (List.map zbA l) i k=(l[i]?).bind k:=zd6 zdq l i k
@[simp] theorem zgZ {β:Type} (l:List zaJ) (i:Nat) (k:zaJ→Option β):elemD zb5 (List.map zaN l) i k=(l[i]?).bind k:=zd6 zb5 l i k
@[simp] theorem zoo {β:Type} (l:List GSeed) (i:Nat) (k:GSeed→Option β):elemD zeK (List.map zb0 l) i k=(l[i]?).bind k:=zd6 zeK l i k
@[simp] theorem zej {β:Type} (l:List zbf) (i:Nat) (k:zbf→Option β):elemD zch (List.map zah l) i k=(l[i]?).bind k:=zd6 zch l i k
@[simp] theorem zg6 {β:Type} (l:List zbh) (i:Nat) (k:zbh→Option β):elemD zcD (List.map zan l) i k=(l[i]?).bind k:=zd6 zcD l i k
@[simp] theorem zAJ {β:Type} (l:List (List Int)) (i:Nat) (k:(List Int)→Option β):elemD zeE (List.map zcm l) i k=(l[i]?).bind k:=zd6 zeE l i k
def tyTab:List TyD:=[dRaw,dRaw,zaS,zaS,dBool,dI_u8,dI_u8,dRaw,dRaw,dStr,dStr,dStr,zoJ,dRaw,dRaw,dRaw,dRaw,dRaw,dRaw,dRaw,dRaw,dI_i32,zeE,dRaw,dRaw,dRaw,dRaw,dL_GMarker,dL_GScript,dL_GPaper,dL_GScheme,dL_GSeed,dRaw,zje,dRaw,zgY,dRaw,zAC,dRaw,dL_GGiven,zzs,dRaw,zg5,zaS,dRaw,dRaw,dRaw,dRaw,dRaw,zmD,dRaw,zcd,dRaw,zb5,dRaw,dRaw,dRaw,dRaw,dRaw,dRaw,dRaw,zch,dRaw,dRaw,zax,dRaw,dRaw,zcx,zwe,dRaw,zrb,dRaw,dRaw,dRaw,dRaw,dRaw,dRaw,dL_GTask,dRaw,dRaw,dRaw,dRaw,za1,dRaw,dRaw,dRaw,dRaw,dRaw,dRaw,dRaw,zeK,dRaw,dRaw,dL_GPart,dRaw,zbZ,dRaw,dRaw,zc1,dRaw,dRaw,dRaw,dRaw,zqw,dRaw,dRaw,dRaw,zyt,zqX,dL_Bool,dRaw,zsp,dRaw,zfo,znY,dRaw,dRaw,zcR,dRaw,dRaw,dRaw,dRaw,dRaw,dRaw,dRaw,dRaw,dRaw,dRaw,dRaw,dL_L_I_i64,dRaw,zdq,dRaw,zcD,dRaw,dRaw,zdb,dRaw,dRaw,dRaw,dRaw,dRaw,dRaw,dRaw,dRaw,dRaw,dRaw,dRaw,dRaw,zpx,dRaw,zen,dRaw,zd5,dRaw,dRaw,dRaw,dRaw,dRaw,dRaw,dRaw,dRaw,dRaw,dRaw,dRaw,dRaw,dRaw,dRaw,zoJ,zwd,zxw,dRaw,dRaw,dRaw,dRaw,dRaw,dRaw,dRaw,dRaw,dRaw,dRaw,dRaw,dRaw,dRaw,dRaw,dRaw,dRaw,dRaw,dRaw,dRaw,dRaw,dRaw,dRaw,dRaw,dRaw,dRaw,zaS,dRaw,dRaw,dRaw,dRaw,dRaw,dRaw,dI_u32,dRaw,zoJ,dRaw,dRaw,dRaw,dRaw,dRaw,dRaw,dRaw,dRaw,dRaw,dRaw,dRaw,dRaw,dRaw,dRaw,dRaw,dRaw,dRaw,dRaw,dRaw,zoJ,dRaw,dRaw,dRaw,dRaw,dRaw,dRaw,dRaw,dRaw,dRaw,dRaw,dRaw,dRaw,dRaw,dRaw,dRaw,dRaw,dRaw,dRaw,dRaw,dRaw,dRaw,dRaw,dRaw,dRaw,dRaw,dRaw,dRaw,dI_u8,dI_u8,dRaw,dRaw,dI_i32,dI_i32,dRaw,dRaw,dRaw]
end Go.Proofs.YtikogkgdkdmljaaGreat
end
