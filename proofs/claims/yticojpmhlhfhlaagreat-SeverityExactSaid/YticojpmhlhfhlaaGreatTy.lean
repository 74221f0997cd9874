/- The types of the seat as data. -/
import Derived.Test.YticojpmhlhfhlaaGreatAbDict
namespace Go.Proofs.YticojpmhlhfhlaaGreat
open Go.Ab
set_option linter.unusedSimpArgs false
set_option linter.unusedVariables false
noncomputable def zbB:(List Int)→List AV:=fun x=>[.sl 1 (List.map zag.enc x)]
noncomputable abbrev zdH:TyD:=TyD.of (List Int) zbB (by
 intro x y h
 simp only [zbB,List.cons.injEq,AV.v.injEq,Value.int.injEq,Value.bool.injEq,Value.string.injEq,AV.sl.injEq,AV.mp.injEq,true_and,and_true,TyD.minj zag] at h
 exact (h))
structure GJudged where
 Marker:Int
 Value:Int
 Final:Int
theorem GJudged.eqOf {x y:GJudged} (h0:x.Marker=y.Marker) (h1:x.Value=y.Value) (h2:x.Final=y.Final):x=y:=by
 cases x; cases y; simp only at *; simp only [h0,h1,h2]
noncomputable def zan:GJudged→List AV:=fun x=>[I x.Marker,I x.Value,I x.Final]
noncomputable abbrev zbg:TyD:=TyD.of GJudged zan (by
 intro x y h
 simp only [zan,List.cons.injEq,AV.v.injEq,Value.int.injEq,Value.bool.injEq,Value.string.injEq,AV.sl.injEq,AV.mp.injEq,true_and,and_true] at h
 exact (GJudged.eqOf (h.1) (h.2.1) (h.2.2)))
noncomputable def zi5:(List GJudged)→List AV:=fun x=>[.sl 3 (List.map zbg.enc x)]
noncomputable abbrev zuf:TyD:=TyD.of (List GJudged) zi5 (by
 intro x y h
 simp only [zi5,List.cons.injEq,AV.v.injEq,Value.int.injEq,Value.bool.injEq,Value.string.injEq,AV.sl.injEq,AV.mp.injEq,true_and,and_true,TyD.minj zbg] at h
 exact (h))
structure GMarker where
 ID:Int
 Centre:Int
 Level:Int
 Capacity:Int
 Papers:List Int
theorem GMarker.eqOf {x y:GMarker} (h0:x.ID=y.ID) (h1:x.Centre=y.Centre) (h2:x.Level=y.Level) (h3:x.Capacity=y.Capacity) (h4:x.Papers=y.Papers):x=y:=by
 cases x; cases y; simp only at *; simp only [h0,h1,h2,h3,h4]
noncomputable def zaO:GMarker→List AV:=fun x=>[I x.ID,I x.Centre,I x.Level,I x.Capacity,.sl 1 (List.map zag.enc x.Papers)]
noncomputable abbrev zb6:TyD:=TyD.of GMarker zaO (by
 intro x y h
 simp only [zaO,List.cons.injEq,AV.v.injEq,Value.int.injEq,Value.bool.injEq,Value.string.injEq,AV.sl.injEq,AV.mp.injEq,true_and,and_true,TyD.minj zag] at h
 exact (GMarker.eqOf (h.1) (h.2.1) (h.2.2.1) (h.2.2.2.1) (h.2.2.2.2)))
noncomputable def zFr:(List GMarker)→List AV:=fun x=>[.sl 5 (List.map zb6.enc x)]
noncomputable abbrev dL_GMarker:TyD:=TyD.of (List GMarker) zFr (by
 intro x y h
 simp only [zFr,List.cons.injEq,AV.v.injEq,Value.int.injEq,Value.bool.injEq,Value.string.injEq,AV.sl.injEq,AV.mp.injEq,true_and,and_true,TyD.minj zb6] at h
 exact (h))
structure GScript where
 Number:Int
 Paper:Int
 Candidate:Int
 Centre:Int
 Variant:Int
 Pages:List Int
 Answers:List Int
theorem GScript.eqOf {x y:GScript} (h0:x.Number=y.Number) (h1:x.Paper=y.Paper) (h2:x.Candidate=y.Candidate) (h3:x.Centre=y.Centre) (h4:x.Variant=y.Variant) (h5:x.Pages=y.Pages) (h6:x.Answers=y.Answers):x=y:=by
 cases x; cases y; simp only at *; simp only [h0,h1,h2,h3,h4,h5,h6]
noncomputable def zaw:GScript→List AV:=fun x=>[I x.Number,I x.Paper,I x.Candidate,I x.Centre,I x.Variant,.sl 1 (List.map zag.enc x.Pages),.sl 1 (List.map zag.enc x.Answers)]
noncomputable abbrev zbb:TyD:=TyD.of GScript zaw (by
 intro x y h
 simp only [zaw,List.cons.injEq,AV.v.injEq,Value.int.injEq,Value.bool.injEq,Value.string.injEq,AV.sl.injEq,AV.mp.injEq,true_and,and_true,TyD.minj zag] at h
 exact (GScript.eqOf (h.1) (h.2.1) (h.2.2.1) (h.2.2.2.1) (h.2.2.2.2.1) (h.2.2.2.2.2.1) (h.2.2.2.2.2.2)))
noncomputable def zEX:(List GScript)→List AV:=fun x=>[.sl 7 (List.map zbb.enc x)]
noncomputable abbrev dL_GScript:TyD:=TyD.of (List GScript) zEX (by
 intro x y h
 simp only [zEX,List.cons.injEq,AV.v.injEq,Value.int.injEq,Value.bool.injEq,Value.string.injEq,AV.sl.injEq,AV.mp.injEq,true_and,and_true,TyD.minj zbb] at h
 exact (h))
structure GPart where
 Kind:Int
 Max:Int
 Topic:Int
 Objective:Int
 Options:Int
 Key:Int
theorem GPart.eqOf {x y:GPart} (h0:x.Kind=y.Kind) (h1:x.Max=y.Max) (h2:x.Topic=y.Topic) (h3:x.Objective=y.Objective) (h4:x.Options=y.Options) (h5:x.Key=y.Key):x=y:=by
 cases x; cases y; simp only at *; simp only [h0,h1,h2,h3,h4,h5]
noncomputable def zav:GPart→List AV:=fun x=>[I x.Kind,I x.Max,I x.Topic,I x.Objective,I x.Options,I x.Key]
noncomputable abbrev zce:TyD:=TyD.of GPart zav (by
 intro x y h
 simp only [zav,List.cons.injEq,AV.v.injEq,Value.int.injEq,Value.bool.injEq,Value.string.injEq,AV.sl.injEq,AV.mp.injEq,true_and,and_true] at h
 exact (GPart.eqOf (h.1) (h.2.1) (h.2.2.1) (h.2.2.2.1) (h.2.2.2.2.1) (h.2.2.2.2.2)))
noncomputable def nL_GPart:(List GPart)→List AV:=fun x=>[.sl 6 (List.map zce.enc x)]
noncomputable abbrev dL_GPart:TyD:=TyD.of (List GPart) nL_GPart (by
 intro x y h
 simp only [nL_GPart,List.cons.injEq,AV.v.injEq,Value.int.injEq,Value.bool.injEq,Value.string.injEq,AV.sl.injEq,AV.mp.injEq,true_and,and_true,TyD.minj zce] at h
 exact (h))
structure GPaper where
 Code:Int
 Variant:Int
 Parts:List GPart
theorem GPaper.eqOf {x y:GPaper} (h0:x.Code=y.Code) (h1:x.Variant=y.Variant) (h2:x.Parts=y.Parts):x=y:=by
 cases x; cases y; simp only at *; simp only [h0,h1,h2]
noncomputable def zas:GPaper→List AV:=fun x=>[I x.Code,I x.Variant,.sl 6 (List.map zce.enc x.Parts)]
noncomputable abbrev zbj:TyD:=TyD.of GPaper zas (by
 intro x y h
 simp only [zas,List.cons.injEq,AV.v.injEq,Value.int.injEq,Value.bool.injEq,Value.string.injEq,AV.sl.injEq,AV.mp.injEq,true_and,and_true,TyD.minj zce] at h
 exact (GPaper.eqOf (h.1) (h.2.1) (h.2.2)))
noncomputable def zGt:(List GPaper)→List AV:=fun x=>[.sl 3 (List.map zbj.enc x)]
noncomputable abbrev dL_GPaper:TyD:=TyD.of (List GPaper) zGt (by
 intro x y h
 simp only [zGt,List.cons.injEq,AV.v.injEq,Value.int.injEq,Value.bool.injEq,Value.string.injEq,AV.sl.injEq,AV.mp.injEq,true_and,and_true,TyD.minj zbj] at h
 exact (h))
noncomputable def zFk:(List (List Int))→List AV:=fun x=>[.sl 1 (List.map zdH.enc x)]
noncomputable abbrev dL_L_I_i64:TyD:=TyD.of (List (List Int)) zFk (by
 intro x y h
 simp only [zFk,List.cons.injEq,AV.v.injEq,Value.int.injEq,Value.bool.injEq,Value.string.injEq,AV.sl.injEq,AV.mp.injEq,true_and,and_true,TyD.minj zdH] at h
 exact (h))
structure GScheme where
 Keys:List (List Int)
 Withdrawn:List Int
theorem GScheme.eqOf {x y:GScheme} (h0:x.Keys=y.Keys) (h1:x.Withdrawn=y.Withdrawn):x=y:=by
 cases x; cases y; simp only at *; simp only [h0,h1]
noncomputable def zaW:GScheme→List AV:=fun x=>[.sl 1 (List.map zdH.enc x.Keys),.sl 1 (List.map zag.enc x.Withdrawn)]
noncomputable abbrev zcg:TyD:=TyD.of GScheme zaW (by
 intro x y h
 simp only [zaW,List.cons.injEq,AV.v.injEq,Value.int.injEq,Value.bool.injEq,Value.string.injEq,AV.sl.injEq,AV.mp.injEq,true_and,and_true,TyD.minj zag,TyD.minj zdH] at h
 exact (GScheme.eqOf (h.1) (h.2)))
noncomputable def zFB:(List GScheme)→List AV:=fun x=>[.sl 2 (List.map zcg.enc x)]
noncomputable abbrev dL_GScheme:TyD:=TyD.of (List GScheme) zFB (by
 intro x y h
 simp only [zFB,List.cons.injEq,AV.v.injEq,Value.int.injEq,Value.bool.injEq,Value.string.injEq,AV.sl.injEq,AV.mp.injEq,true_and,and_true,TyD.minj zcg] at h
 exact (h))
structure GSeed where
 Script:Int
 Marks:List Int
theorem GSeed.eqOf {x y:GSeed} (h0:x.Script=y.Script) (h1:x.Marks=y.Marks):x=y:=by
 cases x; cases y; simp only at *; simp only [h0,h1]
noncomputable def zbT:GSeed→List AV:=fun x=>[I x.Script,.sl 1 (List.map zag.enc x.Marks)]
noncomputable abbrev zeH:TyD:=TyD.of GSeed zbT (by
 intro x y h
 simp only [zbT,List.cons.injEq,AV.v.injEq,Value.int.injEq,Value.bool.injEq,Value.string.injEq,AV.sl.injEq,AV.mp.injEq,true_and,and_true,TyD.minj zag] at h
 exact (GSeed.eqOf (h.1) (h.2)))
noncomputable def nL_GSeed:(List GSeed)→List AV:=fun x=>[.sl 2 (List.map zeH.enc x)]
noncomputable abbrev dL_GSeed:TyD:=TyD.of (List GSeed) nL_GSeed (by
 intro x y h
 simp only [nL_GSeed,List.cons.injEq,AV.v.injEq,Value.int.injEq,Value.bool.injEq,Value.string.injEq,AV.sl.injEq,AV.mp.injEq,true_and,and_true,TyD.minj zeH] at h
 exact (h))
structure GMonitorRule where
 Part:Int
 Total:Int
 Window:Int
 Fails:Int
theorem GMonitorRule.eqOf {x y:GMonitorRule} (h0:x.Part=y.Part) (h1:x.Total=y.Total) (h2:x.Window=y.Window) (h3:x.Fails=y.Fails):x=y:=by
 cases x; cases y; simp only at *; simp only [h0,h1,h2,h3]
noncomputable def zba:GMonitorRule→List AV:=fun x=>[I x.Part,I x.Total,I x.Window,I x.Fails]
noncomputable abbrev zly:TyD:=TyD.of GMonitorRule zba (by
 intro x y h
 simp only [zba,List.cons.injEq,AV.v.injEq,Value.int.injEq,Value.bool.injEq,Value.string.injEq,AV.sl.injEq,AV.mp.injEq,true_and,and_true] at h
 exact (GMonitorRule.eqOf (h.1) (h.2.1) (h.2.2.1) (h.2.2.2)))
structure GSetup where
 Markers:List GMarker
 Scripts:List GScript
 Papers:List GPaper
 Schemes:List GScheme
 Seeds:List GSeed
 Monitor:GMonitorRule
theorem GSetup.eqOf {x y:GSetup} (h0:x.Markers=y.Markers) (h1:x.Scripts=y.Scripts) (h2:x.Papers=y.Papers) (h3:x.Schemes=y.Schemes) (h4:x.Seeds=y.Seeds) (h5:x.Monitor=y.Monitor):x=y:=by
 cases x; cases y; simp only at *; simp only [h0,h1,h2,h3,h4,h5]
noncomputable def zat:GSetup→List AV:=fun x=>[.sl 5 (List.map zb6.enc x.Markers),.sl 7 (List.map zbb.enc x.Scripts),.sl 3 (List.map zbj.enc x.Papers),.sl 2 (List.map zcg.enc x.Schemes),.sl 2 (List.map zeH.enc x.Seeds),I x.Monitor.Part,I x.Monitor.Total,I x.Monitor.Window,I x.Monitor.Fails]
noncomputable abbrev zxd:TyD:=TyD.of GSetup zat (by
 intro x y h
 simp only [zat,List.cons.injEq,AV.v.injEq,Value.int.injEq,Value.bool.injEq,Value.string.injEq,AV.sl.injEq,AV.mp.injEq,true_and,and_true,TyD.minj zb6,TyD.minj zbj,TyD.minj zcg,TyD.minj zbb,TyD.minj zeH] at h
 exact (GSetup.eqOf (h.1) (h.2.1) (h.2.2.1) (h.2.2.2.1) (h.2.2.2.2.1) (GMonitorRule.eqOf (h.2.2.2.2.2.1) (h.2.2.2.2.2.2.1) (h.2.2.2.2.2.2.2.1) (h.2.2.2.2.2.2.2.2))))
structure GMarkRule where
 Double:Bool
 Tolerance:Int
theorem GMarkRule.eqOf {x y:GMarkRule} (h0:x.Double=y.Double) (h1:x.Tolerance=y.Tolerance):x=y:=by
 cases x; cases y; simp only at *; simp only [h0,h1]
noncomputable def zaU:GMarkRule→List AV:=fun x=>[B x.Double,I x.Tolerance]
noncomputable abbrev zqB:TyD:=TyD.of GMarkRule zaU (by
 intro x y h
 simp only [zaU,List.cons.injEq,AV.v.injEq,Value.int.injEq,Value.bool.injEq,Value.string.injEq,AV.sl.injEq,AV.mp.injEq,true_and,and_true] at h
 exact (GMarkRule.eqOf (h.1) (h.2)))
structure GStamp where
 Time:Int
 Source:Int
 Seq:Int
theorem GStamp.eqOf {x y:GStamp} (h0:x.Time=y.Time) (h1:x.Source=y.Source) (h2:x.Seq=y.Seq):x=y:=by
 cases x; cases y; simp only at *; simp only [h0,h1,h2]
noncomputable def zaT:GStamp→List AV:=fun x=>[I x.Time,I x.Source,I x.Seq]
noncomputable abbrev dGStamp:TyD:=TyD.of GStamp zaT (by
 intro x y h
 simp only [zaT,List.cons.injEq,AV.v.injEq,Value.int.injEq,Value.bool.injEq,Value.string.injEq,AV.sl.injEq,AV.mp.injEq,true_and,and_true] at h
 exact (GStamp.eqOf (h.1) (h.2.1) (h.2.2)))
structure GGiven where
 Script:Int
 Part:Int
 Marker:Int
 Level:Int
 Value:Int
 Stamp:GStamp
theorem GGiven.eqOf {x y:GGiven} (h0:x.Script=y.Script) (h1:x.Part=y.Part) (h2:x.Marker=y.Marker) (h3:x.Level=y.Level) (h4:x.Value=y.Value) (h5:x.Stamp=y.Stamp):x=y:=by
 cases x; cases y; simp only at *; simp only [h0,h1,h2,h3,h4,h5]
noncomputable def zao:GGiven→List AV:=fun x=>[I x.Script,I x.Part,I x.Marker,I x.Level,I x.Value,I x.Stamp.Time,I x.Stamp.Source,I x.Stamp.Seq]
noncomputable abbrev za6:TyD:=TyD.of GGiven zao (by
 intro x y h
 simp only [zao,List.cons.injEq,AV.v.injEq,Value.int.injEq,Value.bool.injEq,Value.string.injEq,AV.sl.injEq,AV.mp.injEq,true_and,and_true] at h
 exact (GGiven.eqOf (h.1) (h.2.1) (h.2.2.1) (h.2.2.2.1) (h.2.2.2.2.1) (GStamp.eqOf (h.2.2.2.2.2.1) (h.2.2.2.2.2.2.1) (h.2.2.2.2.2.2.2))))
noncomputable def zGL:(List GGiven)→List AV:=fun x=>[.sl 8 (List.map za6.enc x)]
noncomputable abbrev dL_GGiven:TyD:=TyD.of (List GGiven) zGL (by
 intro x y h
 simp only [zGL,List.cons.injEq,AV.v.injEq,Value.int.injEq,Value.bool.injEq,Value.string.injEq,AV.sl.injEq,AV.mp.injEq,true_and,and_true,TyD.minj za6] at h
 exact (h))
structure GSuspension where
 Marker:Int
 Good:GStamp
 At:GStamp
 Until:GStamp
 First:Bool
 Lifted:Bool
theorem GSuspension.eqOf {x y:GSuspension} (h0:x.Marker=y.Marker) (h1:x.Good=y.Good) (h2:x.At=y.At) (h3:x.Until=y.Until) (h4:x.First=y.First) (h5:x.Lifted=y.Lifted):x=y:=by
 cases x; cases y; simp only at *; simp only [h0,h1,h2,h3,h4,h5]
noncomputable def zaJ:GSuspension→List AV:=fun x=>[I x.Marker,I x.Good.Time,I x.Good.Source,I x.Good.Seq,I x.At.Time,I x.At.Source,I x.At.Seq,I x.Until.Time,I x.Until.Source,I x.Until.Seq,B x.First,B x.Lifted]
noncomputable abbrev zbG:TyD:=TyD.of GSuspension zaJ (by
 intro x y h
 simp only [zaJ,List.cons.injEq,AV.v.injEq,Value.int.injEq,Value.bool.injEq,Value.string.injEq,AV.sl.injEq,AV.mp.injEq,true_and,and_true] at h
 exact (GSuspension.eqOf (h.1) (GStamp.eqOf (h.2.1) (h.2.2.1) (h.2.2.2.1)) (GStamp.eqOf (h.2.2.2.2.1) (h.2.2.2.2.2.1) (h.2.2.2.2.2.2.1)) (GStamp.eqOf (h.2.2.2.2.2.2.2.1) (h.2.2.2.2.2.2.2.2.1) (h.2.2.2.2.2.2.2.2.2.1)) (h.2.2.2.2.2.2.2.2.2.2.1) (h.2.2.2.2.2.2.2.2.2.2.2)))
noncomputable def zxA:(List GSuspension)→List AV:=fun x=>[.sl 12 (List.map zbG.enc x)]
noncomputable abbrev zF3:TyD:=TyD.of (List GSuspension) zxA (by
 intro x y h
 simp only [zxA,List.cons.injEq,AV.v.injEq,Value.int.injEq,Value.bool.injEq,Value.string.injEq,AV.sl.injEq,AV.mp.injEq,true_and,and_true,TyD.minj zbG] at h
 exact (h))
structure GMarking where
 Given:List GGiven
 Suspensions:List GSuspension
theorem GMarking.eqOf {x y:GMarking} (h0:x.Given=y.Given) (h1:x.Suspensions=y.Suspensions):x=y:=by
 cases x; cases y; simp only at *; simp only [h0,h1]
noncomputable def zbk:GMarking→List AV:=fun x=>[.sl 8 (List.map za6.enc x.Given),.sl 12 (List.map zbG.enc x.Suspensions)]
noncomputable abbrev zsP:TyD:=TyD.of GMarking zbk (by
 intro x y h
 simp only [zbk,List.cons.injEq,AV.v.injEq,Value.int.injEq,Value.bool.injEq,Value.string.injEq,AV.sl.injEq,AV.mp.injEq,true_and,and_true,TyD.minj za6,TyD.minj zbG] at h
 exact (GMarking.eqOf (h.1) (h.2)))
structure GMarkEvent where
 Stamp:GStamp
 Kind:Int
 Script:Int
 Part:Int
 Value:Int
 Marker:Int
 Pages:List Int
theorem GMarkEvent.eqOf {x y:GMarkEvent} (h0:x.Stamp=y.Stamp) (h1:x.Kind=y.Kind) (h2:x.Script=y.Script) (h3:x.Part=y.Part) (h4:x.Value=y.Value) (h5:x.Marker=y.Marker) (h6:x.Pages=y.Pages):x=y:=by
 cases x; cases y; simp only at *; simp only [h0,h1,h2,h3,h4,h5,h6]
noncomputable def zab:GMarkEvent→List AV:=fun x=>[I x.Stamp.Time,I x.Stamp.Source,I x.Stamp.Seq,I x.Kind,I x.Script,I x.Part,I x.Value,I x.Marker,.sl 1 (List.map zag.enc x.Pages)]
noncomputable abbrev zaG:TyD:=TyD.of GMarkEvent zab (by
 intro x y h
 simp only [zab,List.cons.injEq,AV.v.injEq,Value.int.injEq,Value.bool.injEq,Value.string.injEq,AV.sl.injEq,AV.mp.injEq,true_and,and_true,TyD.minj zag] at h
 exact (GMarkEvent.eqOf (GStamp.eqOf (h.1) (h.2.1) (h.2.2.1)) (h.2.2.2.1) (h.2.2.2.2.1) (h.2.2.2.2.2.1) (h.2.2.2.2.2.2.1) (h.2.2.2.2.2.2.2.1) (h.2.2.2.2.2.2.2.2)))
noncomputable def zzB:(List GMarkEvent)→List AV:=fun x=>[.sl 9 (List.map zaG.enc x)]
noncomputable abbrev zHI:TyD:=TyD.of (List GMarkEvent) zzB (by
 intro x y h
 simp only [zzB,List.cons.injEq,AV.v.injEq,Value.int.injEq,Value.bool.injEq,Value.string.injEq,AV.sl.injEq,AV.mp.injEq,true_and,and_true,TyD.minj zaG] at h
 exact (h))
noncomputable def zzC:((List GJudged)×(List GJudged)×(List GJudged)×(List GJudged))→List AV:=fun x=>[.sl 3 (List.map zbg.enc x.1),.sl 3 (List.map zbg.enc x.2.1),.sl 3 (List.map zbg.enc x.2.2.1),.sl 3 (List.map zbg.enc x.2.2.2)]
noncomputable abbrev zHt:TyD:=TyD.of ((List GJudged)×(List GJudged)×(List GJudged)×(List GJudged)) zzC (by
 intro x y h
 simp only [zzC,List.cons.injEq,AV.v.injEq,Value.int.injEq,Value.bool.injEq,Value.string.injEq,AV.sl.injEq,AV.mp.injEq,true_and,and_true,TyD.minj zbg] at h
 exact (Prod.ext (h.1) (Prod.ext (h.2.1) (Prod.ext (h.2.2.1) (h.2.2.2)))))
noncomputable def zGR:(Int×Int×Int)→List AV:=fun x=>[I x.1,I x.2.1,I x.2.2]
noncomputable abbrev dA3_I_i64:TyD:=TyD.of (Int×Int×Int) zGR (by
 intro x y h
 simp only [zGR,List.cons.injEq,AV.v.injEq,Value.int.injEq,Value.bool.injEq,Value.string.injEq,AV.sl.injEq,AV.mp.injEq,true_and,and_true] at h
 exact (Prod.ext (h.1) (Prod.ext (h.2.1) (h.2.2))))
structure GRatio where
 Num:Int
 Den:Int
theorem GRatio.eqOf {x y:GRatio} (h0:x.Num=y.Num) (h1:x.Den=y.Den):x=y:=by
 cases x; cases y; simp only at *; simp only [h0,h1]
noncomputable def zae:GRatio→List AV:=fun x=>[I x.Num,I x.Den]
noncomputable abbrev zaR:TyD:=TyD.of GRatio zae (by
 intro x y h
 simp only [zae,List.cons.injEq,AV.v.injEq,Value.int.injEq,Value.bool.injEq,Value.string.injEq,AV.sl.injEq,AV.mp.injEq,true_and,and_true] at h
 exact (GRatio.eqOf (h.1) (h.2)))
noncomputable def zdO:((List Int)×(List Int))→List AV:=fun x=>[.sl 1 (List.map zag.enc x.1),.sl 1 (List.map zag.enc x.2)]
noncomputable abbrev zsD:TyD:=TyD.of ((List Int)×(List Int)) zdO (by
 intro x y h
 simp only [zdO,List.cons.injEq,AV.v.injEq,Value.int.injEq,Value.bool.injEq,Value.string.injEq,AV.sl.injEq,AV.mp.injEq,true_and,and_true,TyD.minj zag] at h
 exact (Prod.ext (h.1) (h.2)))
noncomputable def zw5:(((List Int)×(List Int))×((List Int)×(List Int))×((List Int)×(List Int))×((List Int)×(List Int)))→List AV:=fun x=>[.sl 1 (List.map zag.enc x.1.1),.sl 1 (List.map zag.enc x.1.2),.sl 1 (List.map zag.enc x.2.1.1),.sl 1 (List.map zag.enc x.2.1.2),.sl 1 (List.map zag.enc x.2.2.1.1),.sl 1 (List.map zag.enc x.2.2.1.2),.sl 1 (List.map zag.enc x.2.2.2.1),.sl 1 (List.map zag.enc x.2.2.2.2)]
noncomputable abbrev zFO:TyD:=TyD.of (((List Int)×(List Int))×((List Int)×(List Int))×((List Int)×(List Int))×((List Int)×(List Int))) zw5 (by
 intro x y h
 simp only [zw5,List.cons.injEq,AV.v.injEq,Value.int.injEq,Value.bool.injEq,Value.string.injEq,AV.sl.injEq,AV.mp.injEq,true_and,and_true,TyD.minj zag] at h
 exact (Prod.ext (Prod.ext (h.1) (h.2.1)) (Prod.ext (Prod.ext (h.2.2.1) (h.2.2.2.1)) (Prod.ext (Prod.ext (h.2.2.2.2.1) (h.2.2.2.2.2.1)) (Prod.ext (h.2.2.2.2.2.2.1) (h.2.2.2.2.2.2.2))))))
structure GmarkDice where
 L:List Int
 At:Int
theorem GmarkDice.eqOf {x y:GmarkDice} (h0:x.L=y.L) (h1:x.At=y.At):x=y:=by
 cases x; cases y; simp only at *; simp only [h0,h1]
noncomputable def zal:GmarkDice→List AV:=fun x=>[.sl 1 (List.map zag.enc x.L),I x.At]
noncomputable abbrev zaF:TyD:=TyD.of GmarkDice zal (by
 intro x y h
 simp only [zal,List.cons.injEq,AV.v.injEq,Value.int.injEq,Value.bool.injEq,Value.string.injEq,AV.sl.injEq,AV.mp.injEq,true_and,and_true,TyD.minj zag] at h
 exact (GmarkDice.eqOf (h.1) (h.2)))
noncomputable def nL_Bool:(List Bool)→List AV:=fun x=>[.sl 1 (List.map dBool.enc x)]
noncomputable abbrev dL_Bool:TyD:=TyD.of (List Bool) nL_Bool (by
 intro x y h
 simp only [nL_Bool,List.cons.injEq,AV.v.injEq,Value.int.injEq,Value.bool.injEq,Value.string.injEq,AV.sl.injEq,AV.mp.injEq,true_and,and_true,TyD.minj dBool] at h
 exact (h))
structure GVerdict where
 State:Int
 Value:Int
theorem GVerdict.eqOf {x y:GVerdict} (h0:x.State=y.State) (h1:x.Value=y.Value):x=y:=by
 cases x; cases y; simp only at *; simp only [h0,h1]
noncomputable def zaM:GVerdict→List AV:=fun x=>[I x.State,I x.Value]
noncomputable abbrev zbf:TyD:=TyD.of GVerdict zaM (by
 intro x y h
 simp only [zaM,List.cons.injEq,AV.v.injEq,Value.int.injEq,Value.bool.injEq,Value.string.injEq,AV.sl.injEq,AV.mp.injEq,true_and,and_true] at h
 exact (GVerdict.eqOf (h.1) (h.2)))
noncomputable def zCS:(List GVerdict)→List AV:=fun x=>[.sl 2 (List.map zbf.enc x)]
noncomputable abbrev zlD:TyD:=TyD.of (List GVerdict) zCS (by
 intro x y h
 simp only [zCS,List.cons.injEq,AV.v.injEq,Value.int.injEq,Value.bool.injEq,Value.string.injEq,AV.sl.injEq,AV.mp.injEq,true_and,and_true,TyD.minj zbf] at h
 exact (h))
noncomputable def zds:(Int×(List GVerdict))→List AV:=fun x=>[I x.1,.sl 2 (List.map zbf.enc x.2)]
noncomputable abbrev zrJ:TyD:=TyD.of (Int×(List GVerdict)) zds (by
 intro x y h
 have h1:=(List.cons.inj h).1
 have h2:=(List.cons.inj (List.cons.inj h).2).1
 exact Prod.ext (by simpa using h1) (by simpa only [AV.sl.injEq,true_and,TyD.minj zbf] using h2))
noncomputable def zrK:(List (Int×(List GVerdict)))→List AV:=fun x=>[.mp (List.map zrJ.enc x)]
noncomputable abbrev zzQ:TyD:=TyD.of (List (Int×(List GVerdict))) zrK (by
 intro x y h
 simp only [zrK,List.cons.injEq,AV.v.injEq,Value.int.injEq,Value.bool.injEq,Value.string.injEq,AV.sl.injEq,AV.mp.injEq,true_and,and_true,TyD.minj zrJ] at h
 exact (h))
noncomputable def zcu:(Int×Int)→List AV:=fun x=>[I x.1,I x.2]
noncomputable abbrev zpX:TyD:=TyD.of (Int×Int) zcu (by
 intro x y h
 simp only [zcu,List.cons.injEq,AV.v.injEq,Value.int.injEq,Value.bool.injEq,Value.string.injEq,AV.sl.injEq,AV.mp.injEq,true_and,and_true] at h
 exact (Prod.ext (h.1) (h.2)))
noncomputable def zdn:((Int×Int)×Int)→List AV:=fun x=>[.agg (zpX.enc x.1),I x.2]
noncomputable abbrev zfg:TyD:=TyD.of ((Int×Int)×Int) zdn (by
 intro x y h
 have h1:=(List.cons.inj h).1
 have h2:=(List.cons.inj (List.cons.inj h).2).1
 exact Prod.ext (zpX.inj (AV.agg.inj h1)) (by simpa using h2))
noncomputable def zt4:(List ((Int×Int)×Int))→List AV:=fun x=>[.mp (List.map zfg.enc x)]
noncomputable abbrev zCv:TyD:=TyD.of (List ((Int×Int)×Int)) zt4 (by
 intro x y h
 simp only [zt4,List.cons.injEq,AV.v.injEq,Value.int.injEq,Value.bool.injEq,Value.string.injEq,AV.sl.injEq,AV.mp.injEq,true_and,and_true,TyD.minj zfg] at h
 exact (h))
noncomputable def zdM:((Int×Int)×Bool)→List AV:=fun x=>[.agg (zpX.enc x.1),B x.2]
noncomputable abbrev zfI:TyD:=TyD.of ((Int×Int)×Bool) zdM (by
 intro x y h
 have h1:=(List.cons.inj h).1
 have h2:=(List.cons.inj (List.cons.inj h).2).1
 exact Prod.ext (zpX.inj (AV.agg.inj h1)) (by simpa using h2))
noncomputable def zuU:(List ((Int×Int)×Bool))→List AV:=fun x=>[.mp (List.map zfI.enc x)]
noncomputable abbrev zDN:TyD:=TyD.of (List ((Int×Int)×Bool)) zuU (by
 intro x y h
 simp only [zuU,List.cons.injEq,AV.v.injEq,Value.int.injEq,Value.bool.injEq,Value.string.injEq,AV.sl.injEq,AV.mp.injEq,true_and,and_true,TyD.minj zfI] at h
 exact (h))
structure GratioWide where
 hi:Int
 lo:Int
theorem GratioWide.eqOf {x y:GratioWide} (h0:x.hi=y.hi) (h1:x.lo=y.lo):x=y:=by
 cases x; cases y; simp only at *; simp only [h0,h1]
noncomputable def za9:GratioWide→List AV:=fun x=>[.v (.int .u64 x.hi),.v (.int .u64 x.lo)]
noncomputable abbrev zfU:TyD:=TyD.of GratioWide za9 (by
 intro x y h
 simp only [za9,List.cons.injEq,AV.v.injEq,Value.int.injEq,Value.bool.injEq,Value.string.injEq,AV.sl.injEq,AV.mp.injEq,true_and,and_true] at h
 exact (GratioWide.eqOf (h.1) (h.2)))
structure GratioSigned where
 neg:Bool
 abs:GratioWide
theorem GratioSigned.eqOf {x y:GratioSigned} (h0:x.neg=y.neg) (h1:x.abs=y.abs):x=y:=by
 cases x; cases y; simp only at *; simp only [h0,h1]
noncomputable def zib:GratioSigned→List AV:=fun x=>[B x.neg,.v (.int .u64 x.abs.hi),.v (.int .u64 x.abs.lo)]
noncomputable abbrev zlw:TyD:=TyD.of GratioSigned zib (by
 intro x y h
 simp only [zib,List.cons.injEq,AV.v.injEq,Value.int.injEq,Value.bool.injEq,Value.string.injEq,AV.sl.injEq,AV.mp.injEq,true_and,and_true] at h
 exact (GratioSigned.eqOf (h.1) (GratioWide.eqOf (h.2.1) (h.2.2))))
structure Gref01Wide where
 Hi:Int
 Lo:Int
theorem Gref01Wide.eqOf {x y:Gref01Wide} (h0:x.Hi=y.Hi) (h1:x.Lo=y.Lo):x=y:=by
 cases x; cases y; simp only at *; simp only [h0,h1]
noncomputable def zaY:Gref01Wide→List AV:=fun x=>[.v (.int .u64 x.Hi),.v (.int .u64 x.Lo)]
noncomputable abbrev zbE:TyD:=TyD.of Gref01Wide zaY (by
 intro x y h
 simp only [zaY,List.cons.injEq,AV.v.injEq,Value.int.injEq,Value.bool.injEq,Value.string.injEq,AV.sl.injEq,AV.mp.injEq,true_and,and_true] at h
 exact (Gref01Wide.eqOf (h.1) (h.2)))
structure GWatch where
 Last:List Bool
 Suspended:Bool
theorem GWatch.eqOf {x y:GWatch} (h0:x.Last=y.Last) (h1:x.Suspended=y.Suspended):x=y:=by
 cases x; cases y; simp only at *; simp only [h0,h1]
noncomputable def za7:GWatch→List AV:=fun x=>[.sl 1 (List.map dBool.enc x.Last),B x.Suspended]
noncomputable abbrev zxq:TyD:=TyD.of GWatch za7 (by
 intro x y h
 simp only [za7,List.cons.injEq,AV.v.injEq,Value.int.injEq,Value.bool.injEq,Value.string.injEq,AV.sl.injEq,AV.mp.injEq,true_and,and_true,TyD.minj dBool] at h
 exact (GWatch.eqOf (h.1) (h.2)))
structure Gref29Noted where
 part:Int
 value:Int
theorem Gref29Noted.eqOf {x y:Gref29Noted} (h0:x.part=y.part) (h1:x.value=y.value):x=y:=by
 cases x; cases y; simp only at *; simp only [h0,h1]
noncomputable def zaD:Gref29Noted→List AV:=fun x=>[I x.part,I x.value]
noncomputable abbrev zdL:TyD:=TyD.of Gref29Noted zaD (by
 intro x y h
 simp only [zaD,List.cons.injEq,AV.v.injEq,Value.int.injEq,Value.bool.injEq,Value.string.injEq,AV.sl.injEq,AV.mp.injEq,true_and,and_true] at h
 exact (Gref29Noted.eqOf (h.1) (h.2)))
noncomputable def zxj:(List Gref29Noted)→List AV:=fun x=>[.sl 2 (List.map zdL.enc x)]
noncomputable abbrev zdR:TyD:=TyD.of (List Gref29Noted) zxj (by
 intro x y h
 simp only [zxj,List.cons.injEq,AV.v.injEq,Value.int.injEq,Value.bool.injEq,Value.string.injEq,AV.sl.injEq,AV.mp.injEq,true_and,and_true,TyD.minj zdL] at h
 exact (h))
noncomputable def zaK:(Int×(List Gref29Noted))→List AV:=fun x=>[I x.1,.sl 2 (List.map zdL.enc x.2)]
noncomputable abbrev zoB:TyD:=TyD.of (Int×(List Gref29Noted)) zaK (by
 intro x y h
 have h1:=(List.cons.inj h).1
 have h2:=(List.cons.inj (List.cons.inj h).2).1
 exact Prod.ext (by simpa using h1) (by simpa only [AV.sl.injEq,true_and,TyD.minj zdL] using h2))
noncomputable def zoA:(List (Int×(List Gref29Noted)))→List AV:=fun x=>[.mp (List.map zoB.enc x)]
noncomputable abbrev zwY:TyD:=TyD.of (List (Int×(List Gref29Noted))) zoA (by
 intro x y h
 simp only [zoA,List.cons.injEq,AV.v.injEq,Value.int.injEq,Value.bool.injEq,Value.string.injEq,AV.sl.injEq,AV.mp.injEq,true_and,and_true,TyD.minj zoB] at h
 exact (h))
@[simp] theorem zD8 {β:Type} (l:List ((List Int)×(List Int))) (i:Nat) (k:((List Int)×(List Int))→Option β):elemD zsD (List.map zdO l) i k=(l[i]?).bind k:=zct zsD l i k
@[simp] theorem zbP {β:Type} (l:List GGiven) (i:Nat) (k:GGiven→Option β):elemD za6 (List.map zao l) i k=(l[i]?).bind k:=zct za6 l i k
@[simp] theorem zel {β:Type} (l:List GJudged) (i:Nat) (k:GJudged→Option β):elemD zbg (List.map zan l) i k=(l[i]?).bind k:=zct zbg l i k
@[simp] theorem zbv {β:Type} (l:List GMarkEvent) (i:Nat) (k:GMarkEvent→Option β):elemD zaG (List.map zab l) i k=(l[i]?).bind k:=zct zaG l i k
@[simp] theorem zfr {β:Type} (l:List GMarker) (i:Nat) (k:GMarker→Option β):elemD zb6 (List.map zaO l) i k=(l[i]?).bind k:=zct zb6 l i k
@[simp] theorem zdN {β:Type} (l:List GPaper) (i:Nat) (k:GPaper→Option β):elemD zbj (List.map zas l) i k=(l[i]?).bind k:=zct zbj l i k
@[simp] theorem zdk {β:Type} (l:List GPart) (i:Nat) (k:GPart→Option β):elemD zce (List.map zav l) i k=(l[i]?).bind k:=zct zce l i k
@[simp] theorem zo4 {β:Type} (l:List GScheme) (i:Nat) (k:GScheme→Option β):elemD zcg (List.map zaW l) i k=(l[i]?).bind k:=zct zcg l i k
@[simp] theorem zej {β:Type} (l:List GScript) (i:Nat) (k:GScript→Option β):elemD zbb (List.map zaw l) i k=(l[i]?).bind k:=zct zbb l i k
@[simp] theorem zsr {β:Type} (l:List GSeed) (i:Nat) (k:GSeed→Option β):elemD zeH (List.map zbT l) i k=(l[i]?).bind k:=zct zeH l i k
@[simp] theorem zua {β:Type} (l:List GSuspension) (i:Nat) (k:GSuspension→Option β):elemD zbG (List.map zaJ l) i k=(l[i]?).bind k:=zct zbG l i k
@[simp] theorem zjV {β:Type} (l:List GVerdict) (i:Nat) (k:GVerdict→Option β):elemD zbf (List.map zaM l) i k=(l[i]?).bind k:=zct zbf l i k
@[simp] theorem zoh {β:Type} (l:List Gref29Noted) (i:Nat) (k:Gref29Noted→Option β):elemD zdL (List.map zaD l) i k=(l[i]?).bind k:=zct zdL l i k
@[simp] theorem zFG {β:Type} (l:List (List GJudged)) (i:Nat) (k:(List GJudged)→Option β):elemD zuf (List.map zi5 l) i k=(l[i]?).bind k:=zct zuf l i k
@[simp] theorem zG2 {β:Type} (l:List (List Int)) (i:Nat) (k:(List Int)→Option β):elemD zdH (List.map zbB l) i k=(l[i]?).bind k:=zct zdH l i k
noncomputable def tyTab:List TyD:=[dRaw,dRaw,zag,zag,dBool,dI_u8,dI_u8,dRaw,dRaw,dStr,dStr,dStr,zs4,dRaw,dRaw,dRaw,dRaw,dRaw,dRaw,dRaw,dRaw,dI_i32,zdH,zuf,dRaw,dRaw,dRaw,dRaw,dL_GMarker,dL_GScript,dL_GPaper,dL_GScheme,dL_GSeed,dRaw,zly,dRaw,zxd,dRaw,dRaw,zqB,dRaw,dL_GGiven,zF3,dRaw,zsP,zag,dRaw,dRaw,zHI,dRaw,dRaw,dRaw,dRaw,zbg,dRaw,zHt,dRaw,dRaw,dRaw,dA3_I_i64,dRaw,zaR,dRaw,dRaw,dRaw,zsD,zFO,dRaw,dRaw,dRaw,zaF,dRaw,dRaw,dRaw,dRaw,dRaw,dRaw,dRaw,zeH,dRaw,dRaw,zbb,dRaw,dRaw,dRaw,dL_Bool,dRaw,dRaw,dRaw,dRaw,dRaw,dGStamp,dRaw,zaG,dRaw,dRaw,dRaw,zb6,dRaw,dRaw,dRaw,dRaw,za6,dRaw,dL_GPart,dRaw,zbj,dRaw,dRaw,zce,dRaw,zzQ,zlD,dRaw,dRaw,dRaw,zbf,dRaw,dRaw,dRaw,dRaw,dRaw,dRaw,dRaw,dRaw,dRaw,dRaw,dRaw,dRaw,dRaw,dRaw,dL_L_I_i64,dRaw,zcg,dRaw,dRaw,dRaw,dRaw,dRaw,dRaw,dRaw,dRaw,dRaw,dRaw,dRaw,dRaw,zCv,zDN,dRaw,dRaw,zpX,dRaw,dRaw,dRaw,dRaw,dRaw,dRaw,dRaw,dRaw,dRaw,dRaw,dRaw,dRaw,dRaw,dRaw,dRaw,dRaw,dRaw,zs4,dRaw,zs4,dRaw,zfU,dRaw,zlw,dRaw,dRaw,dRaw,dRaw,dRaw,dRaw,zbE,dRaw,dRaw,dRaw,dRaw,dRaw,zxq,zwY,dRaw,zbG,zdR,dRaw,zdL,dRaw,dRaw,dRaw,dRaw,dRaw,dRaw,dRaw,dRaw,dRaw,dRaw,dRaw,zag,dRaw,dRaw,dRaw,dRaw,dRaw,dRaw,dI_u32,dRaw,dRaw,dRaw,dRaw,dRaw,dRaw,dRaw,dRaw,dRaw,dRaw,dRaw,dRaw,dRaw,dRaw,dRaw,dRaw,dRaw,dRaw,dRaw,dRaw,dRaw,dRaw,dRaw,dRaw,zs4,dRaw,dRaw,dRaw,dRaw,dRaw,dRaw,dRaw,dRaw,dRaw,dRaw,dRaw,dRaw,dRaw,dRaw,dRaw,dRaw,dRaw,dRaw,dRaw,dRaw,dRaw,dRaw,dRaw,dRaw,dRaw,dRaw,dRaw,dRaw,dRaw,dI_u8,dI_u8,dRaw,dRaw,dI_i32,dI_i32,dRaw,dRaw,dRaw,dRaw,dRaw,dRaw]
end Go.Proofs.YticojpmhlhfhlaaGreat
