/- The types of the seat as data. -/
import Derived.Test.YtlecnobdfhlmnaaGreatAb8
set_option linter.unusedSimpArgs false
set_option linter.unusedVariables false
noncomputable section
namespace Go.Proofs.YtlecnobdfhlmnaaGreat
open Go.Ab
def zcH:(List Int)→List AV:=fun x=>[.sl 1 (List.map zbi.enc x)]
abbrev ziG:TyD:=TyD.of (List Int) zcH (by
 intro x y h; simp only [zcH,zbq,AV.v.injEq,Value.int.injEq,Value.bool.injEq,Value.string.injEq,AV.sl.injEq,AV.mp.injEq,true_and,and_true,TyD.minj zbi] at h
 exact (h))
structure zbk where
 ID:Int
 Centre:Int
 Level:Int
 Capacity:Int
 Papers:List Int
theorem zbk.eqOf {x y:zbk} (h0:x.ID=y.ID) (h1:x.Centre=y.Centre) (h2:x.Level=y.Level) (h3:x.Capacity=y.Capacity) (h4:x.Papers=y.Papers):x=y:=by cases x; cases y; simp only at *; simp only [h0,h1,h2,h3,h4]
def zbh:zbk→List AV:=fun x=>[I x.ID,I x.Centre,I x.Level,I x.Capacity,.sl 1 (List.map zbi.enc x.Papers)]
abbrev zc7:TyD:=TyD.of zbk zbh (by
 intro x y h; simp only [zbh,zbq,AV.v.injEq,Value.int.injEq,Value.bool.injEq,Value.string.injEq,AV.sl.injEq,AV.mp.injEq,true_and,and_true,TyD.minj zbi] at h
 exact (zbk.eqOf (h.1) (h.2.1) (h.2.2.1) (h.2.2.2.1) (h.2.2.2.2)))
def zAN:(List zbk)→List AV:=fun x=>[.sl 5 (List.map zc7.enc x)]
abbrev dL_GMarker:TyD:=TyD.of (List zbk) zAN (by
 intro x y h; simp only [zAN,zbq,AV.v.injEq,Value.int.injEq,Value.bool.injEq,Value.string.injEq,AV.sl.injEq,AV.mp.injEq,true_and,and_true,TyD.minj zc7] at h
 exact (h))
structure zaE where
 Number:Int
 Paper:Int
 Candidate:Int
 Centre:Int
 Variant:Int
 Pages:List Int
 Answers:List Int
theorem zaE.eqOf {x y:zaE} (h0:x.Number=y.Number) (h1:x.Paper=y.Paper) (h2:x.Candidate=y.Candidate) (h3:x.Centre=y.Centre) (h4:x.Variant=y.Variant) (h5:x.Pages=y.Pages) (h6:x.Answers=y.Answers):x=y:=by cases x; cases y; simp only at *; simp only [h0,h1,h2,h3,h4,h5,h6]
def za0:zaE→List AV:=fun x=>[I x.Number,I x.Paper,I x.Candidate,I x.Centre,I x.Variant,.sl 1 (List.map zbi.enc x.Pages),.sl 1 (List.map zbi.enc x.Answers)]
abbrev zco:TyD:=TyD.of zaE za0 (by
 intro x y h; simp only [za0,zbq,AV.v.injEq,Value.int.injEq,Value.bool.injEq,Value.string.injEq,AV.sl.injEq,AV.mp.injEq,true_and,and_true,TyD.minj zbi] at h
 exact (zaE.eqOf (h.1) (h.2.1) (h.2.2.1) (h.2.2.2.1) (h.2.2.2.2.1) (h.2.2.2.2.2.1) (h.2.2.2.2.2.2)))
def zAP:(List zaE)→List AV:=fun x=>[.sl 7 (List.map zco.enc x)]
abbrev dL_GScript:TyD:=TyD.of (List zaE) zAP (by
 intro x y h; simp only [zAP,zbq,AV.v.injEq,Value.int.injEq,Value.bool.injEq,Value.string.injEq,AV.sl.injEq,AV.mp.injEq,true_and,and_true,TyD.minj zco] at h
 exact (h))
structure GPart where
 Kind:Int
 Max:Int
 Topic:Int
 Objective:Int
 Options:Int
 Key:Int
theorem GPart.eqOf {x y:GPart} (h0:x.Kind=y.Kind) (h1:x.Max=y.Max) (h2:x.Topic=y.Topic) (h3:x.Objective=y.Objective) (h4:x.Options=y.Options) (h5:x.Key=y.Key):x=y:=by cases x; cases y; simp only at *; simp only [h0,h1,h2,h3,h4,h5]
def zaQ:GPart→List AV:=fun x=>[I x.Kind,I x.Max,I x.Topic,I x.Objective,I x.Options,I x.Key]
abbrev zd8:TyD:=TyD.of GPart zaQ (by
 intro x y h; simp only [zaQ,zbq,AV.v.injEq,Value.int.injEq,Value.bool.injEq,Value.string.injEq,AV.sl.injEq,AV.mp.injEq,true_and,and_true] at h
 exact (GPart.eqOf (h.1) (h.2.1) (h.2.2.1) (h.2.2.2.1) (h.2.2.2.2.1) (h.2.2.2.2.2)))
def nL_GPart:(List GPart)→List AV:=fun x=>[.sl 6 (List.map zd8.enc x)]
abbrev dL_GPart:TyD:=TyD.of (List GPart) nL_GPart (by
 intro x y h; simp only [nL_GPart,zbq,AV.v.injEq,Value.int.injEq,Value.bool.injEq,Value.string.injEq,AV.sl.injEq,AV.mp.injEq,true_and,and_true,TyD.minj zd8] at h
 exact (h))
structure zaJ where
 Code:Int
 Variant:Int
 Parts:List GPart
theorem zaJ.eqOf {x y:zaJ} (h0:x.Code=y.Code) (h1:x.Variant=y.Variant) (h2:x.Parts=y.Parts):x=y:=by cases x; cases y; simp only at *; simp only [h0,h1,h2]
def zaT:zaJ→List AV:=fun x=>[I x.Code,I x.Variant,.sl 6 (List.map zd8.enc x.Parts)]
abbrev zct:TyD:=TyD.of zaJ zaT (by
 intro x y h; simp only [zaT,zbq,AV.v.injEq,Value.int.injEq,Value.bool.injEq,Value.string.injEq,AV.sl.injEq,AV.mp.injEq,true_and,and_true,TyD.minj zd8] at h
 exact (zaJ.eqOf (h.1) (h.2.1) (h.2.2)))
def zB8:(List zaJ)→List AV:=fun x=>[.sl 3 (List.map zct.enc x)]
abbrev dL_GPaper:TyD:=TyD.of (List zaJ) zB8 (by
 intro x y h; simp only [zB8,zbq,AV.v.injEq,Value.int.injEq,Value.bool.injEq,Value.string.injEq,AV.sl.injEq,AV.mp.injEq,true_and,and_true,TyD.minj zct] at h
 exact (h))
def zAQ:(List (List Int))→List AV:=fun x=>[.sl 1 (List.map ziG.enc x)]
abbrev dL_L_I_i64:TyD:=TyD.of (List (List Int)) zAQ (by
 intro x y h; simp only [zAQ,zbq,AV.v.injEq,Value.int.injEq,Value.bool.injEq,Value.string.injEq,AV.sl.injEq,AV.mp.injEq,true_and,and_true,TyD.minj ziG] at h
 exact (h))
structure zbp where
 Keys:List (List Int)
 Withdrawn:List Int
theorem zbp.eqOf {x y:zbp} (h0:x.Keys=y.Keys) (h1:x.Withdrawn=y.Withdrawn):x=y:=by cases x; cases y; simp only at *; simp only [h0,h1]
def zbJ:zbp→List AV:=fun x=>[.sl 1 (List.map ziG.enc x.Keys),.sl 1 (List.map zbi.enc x.Withdrawn)]
abbrev zdT:TyD:=TyD.of zbp zbJ (by
 intro x y h; simp only [zbJ,zbq,AV.v.injEq,Value.int.injEq,Value.bool.injEq,Value.string.injEq,AV.sl.injEq,AV.mp.injEq,true_and,and_true,TyD.minj zbi,TyD.minj ziG] at h
 exact (zbp.eqOf (h.1) (h.2)))
def zAO:(List zbp)→List AV:=fun x=>[.sl 2 (List.map zdT.enc x)]
abbrev dL_GScheme:TyD:=TyD.of (List zbp) zAO (by
 intro x y h; simp only [zAO,zbq,AV.v.injEq,Value.int.injEq,Value.bool.injEq,Value.string.injEq,AV.sl.injEq,AV.mp.injEq,true_and,and_true,TyD.minj zdT] at h
 exact (h))
structure GSeed where
 Script:Int
 Marks:List Int
theorem GSeed.eqOf {x y:GSeed} (h0:x.Script=y.Script) (h1:x.Marks=y.Marks):x=y:=by cases x; cases y; simp only at *; simp only [h0,h1]
def zcd:GSeed→List AV:=fun x=>[I x.Script,.sl 1 (List.map zbi.enc x.Marks)]
abbrev zfk:TyD:=TyD.of GSeed zcd (by
 intro x y h; simp only [zcd,zbq,AV.v.injEq,Value.int.injEq,Value.bool.injEq,Value.string.injEq,AV.sl.injEq,AV.mp.injEq,true_and,and_true,TyD.minj zbi] at h
 exact (GSeed.eqOf (h.1) (h.2)))
def nL_GSeed:(List GSeed)→List AV:=fun x=>[.sl 2 (List.map zfk.enc x)]
abbrev dL_GSeed:TyD:=TyD.of (List GSeed) nL_GSeed (by
 intro x y h; simp only [nL_GSeed,zbq,AV.v.injEq,Value.int.injEq,Value.bool.injEq,Value.string.injEq,AV.sl.injEq,AV.mp.injEq,true_and,and_true,TyD.minj zfk] at h
 exact (h))
structure zbr where
 Part:Int
 Total:Int
 Window:Int
 Fails:Int
theorem zbr.eqOf {x y:zbr} (h0:x.Part=y.Part) (h1:x.Total=y.Total) (h2:x.Window=y.Window) (h3:x.Fails=y.Fails):x=y:=by cases x; cases y; simp only at *; simp only [h0,h1,h2,h3]
def zbU:zbr→List AV:=fun x=>[I x.Part,I x.Total,I x.Window,I x.Fails]
abbrev zkf:TyD:=TyD.of zbr zbU (by
 intro x y h; simp only [zbU,zbq,AV.v.injEq,Value.int.injEq,Value.bool.injEq,Value.string.injEq,AV.sl.injEq,AV.mp.injEq,true_and,and_true] at h
 exact (zbr.eqOf (h.1) (h.2.1) (h.2.2.1) (h.2.2.2)))
structure zak where
 Markers:List zbk
 Scripts:List zaE
 Papers:List zaJ
 Schemes:List zbp
 Seeds:List GSeed
 Monitor:zbr
theorem zak.eqOf {x y:zak} (h0:x.Markers=y.Markers) (h1:x.Scripts=y.Scripts) (h2:x.Papers=y.Papers) (h3:x.Schemes=y.Schemes) (h4:x.Seeds=y.Seeds) (h5:x.Monitor=y.Monitor):x=y:=by cases x; cases y; simp only at *; simp only [h0,h1,h2,h3,h4,h5]
def zaj:zak→List AV:=fun x=>[.sl 5 (List.map zc7.enc x.Markers),.sl 7 (List.map zco.enc x.Scripts),.sl 3 (List.map zct.enc x.Papers),.sl 2 (List.map zdT.enc x.Schemes),.sl 2 (List.map zfk.enc x.Seeds),I x.Monitor.Part,I x.Monitor.Total,I x.Monitor.Window,I x.Monitor.Fails]
abbrev zlT:TyD:=TyD.of zak zaj (by
 intro x y h; simp only [zaj,zbq,AV.v.injEq,Value.int.injEq,Value.bool.injEq,Value.string.injEq,AV.sl.injEq,AV.mp.injEq,true_and,and_true,TyD.minj zc7,TyD.minj zct,TyD.minj zdT,TyD.minj zco,TyD.minj zfk] at h
 exact (zak.eqOf (h.1) (h.2.1) (h.2.2.1) (h.2.2.2.1) (h.2.2.2.2.1) (zbr.eqOf (h.2.2.2.2.2.1) (h.2.2.2.2.2.2.1) (h.2.2.2.2.2.2.2.1) (h.2.2.2.2.2.2.2.2))))
structure zbe where
 Time:Int
 Source:Int
 Seq:Int
theorem zbe.eqOf {x y:zbe} (h0:x.Time=y.Time) (h1:x.Source=y.Source) (h2:x.Seq=y.Seq):x=y:=by cases x; cases y; simp only at *; simp only [h0,h1,h2]
def zcv:zbe→List AV:=fun x=>[I x.Time,I x.Source,I x.Seq]
abbrev zni:TyD:=TyD.of zbe zcv (by
 intro x y h; simp only [zcv,zbq,AV.v.injEq,Value.int.injEq,Value.bool.injEq,Value.string.injEq,AV.sl.injEq,AV.mp.injEq,true_and,and_true] at h
 exact (zbe.eqOf (h.1) (h.2.1) (h.2.2)))
structure zab where
 Stamp:zbe
 Kind:Int
 Script:Int
 Part:Int
 Value:Int
 Marker:Int
 Pages:List Int
theorem zab.eqOf {x y:zab} (h0:x.Stamp=y.Stamp) (h1:x.Kind=y.Kind) (h2:x.Script=y.Script) (h3:x.Part=y.Part) (h4:x.Value=y.Value) (h5:x.Marker=y.Marker) (h6:x.Pages=y.Pages):x=y:=by cases x; cases y; simp only at *; simp only [h0,h1,h2,h3,h4,h5,h6]
def zaa:zab→List AV:=fun x=>[I x.Stamp.Time,I x.Stamp.Source,I x.Stamp.Seq,I x.Kind,I x.Script,I x.Part,I x.Value,I x.Marker,.sl 1 (List.map zbi.enc x.Pages)]
abbrev zaV:TyD:=TyD.of zab zaa (by
 intro x y h; simp only [zaa,zbq,AV.v.injEq,Value.int.injEq,Value.bool.injEq,Value.string.injEq,AV.sl.injEq,AV.mp.injEq,true_and,and_true,TyD.minj zbi] at h
 exact (zab.eqOf (zbe.eqOf (h.1) (h.2.1) (h.2.2.1)) (h.2.2.2.1) (h.2.2.2.2.1) (h.2.2.2.2.2.1) (h.2.2.2.2.2.2.1) (h.2.2.2.2.2.2.2.1) (h.2.2.2.2.2.2.2.2)))
def zc4:(List zab)→List AV:=fun x=>[.sl 9 (List.map zaV.enc x)]
abbrev zg2:TyD:=TyD.of (List zab) zc4 (by
 intro x y h; simp only [zc4,zbq,AV.v.injEq,Value.int.injEq,Value.bool.injEq,Value.string.injEq,AV.sl.injEq,AV.mp.injEq,true_and,and_true,TyD.minj zaV] at h
 exact (h))
structure zai where
 Stamp:zbe
 Kind:Int
 Candidate:Int
 Marker:Int
theorem zai.eqOf {x y:zai} (h0:x.Stamp=y.Stamp) (h1:x.Kind=y.Kind) (h2:x.Candidate=y.Candidate) (h3:x.Marker=y.Marker):x=y:=by cases x; cases y; simp only at *; simp only [h0,h1,h2,h3]
def zag:zai→List AV:=fun x=>[I x.Stamp.Time,I x.Stamp.Source,I x.Stamp.Seq,I x.Kind,I x.Candidate,I x.Marker]
abbrev zbE:TyD:=TyD.of zai zag (by
 intro x y h; simp only [zag,zbq,AV.v.injEq,Value.int.injEq,Value.bool.injEq,Value.string.injEq,AV.sl.injEq,AV.mp.injEq,true_and,and_true] at h
 exact (zai.eqOf (zbe.eqOf (h.1) (h.2.1) (h.2.2.1)) (h.2.2.2.1) (h.2.2.2.2.1) (h.2.2.2.2.2)))
def zAM:(List zai)→List AV:=fun x=>[.sl 6 (List.map zbE.enc x)]
abbrev dL_GAppeal:TyD:=TyD.of (List zai) zAM (by
 intro x y h; simp only [zAM,zbq,AV.v.injEq,Value.int.injEq,Value.bool.injEq,Value.string.injEq,AV.sl.injEq,AV.mp.injEq,true_and,and_true,TyD.minj zbE] at h
 exact (h))
structure zaM where
 Days:Int
 Fails:Int
 Tolerance:Int
theorem zaM.eqOf {x y:zaM} (h0:x.Days=y.Days) (h1:x.Fails=y.Fails) (h2:x.Tolerance=y.Tolerance):x=y:=by cases x; cases y; simp only at *; simp only [h0,h1,h2]
def zaP:zaM→List AV:=fun x=>[I x.Days,I x.Fails,I x.Tolerance]
abbrev zjd:TyD:=TyD.of zaM zaP (by
 intro x y h; simp only [zaP,zbq,AV.v.injEq,Value.int.injEq,Value.bool.injEq,Value.string.injEq,AV.sl.injEq,AV.mp.injEq,true_and,and_true] at h
 exact (zaM.eqOf (h.1) (h.2.1) (h.2.2)))
structure za8 where
 Double:Bool
 Tolerance:Int
theorem za8.eqOf {x y:za8} (h0:x.Double=y.Double) (h1:x.Tolerance=y.Tolerance):x=y:=by cases x; cases y; simp only at *; simp only [h0,h1]
def zbA:za8→List AV:=fun x=>[B x.Double,I x.Tolerance]
abbrev zlS:TyD:=TyD.of za8 zbA (by
 intro x y h; simp only [zbA,zbq,AV.v.injEq,Value.int.injEq,Value.bool.injEq,Value.string.injEq,AV.sl.injEq,AV.mp.injEq,true_and,and_true] at h
 exact (za8.eqOf (h.1) (h.2)))
structure zbb where
 Script:Int
 Part:Int
 Marker:Int
 Level:Int
 Value:Int
 Stamp:zbe
theorem zbb.eqOf {x y:zbb} (h0:x.Script=y.Script) (h1:x.Part=y.Part) (h2:x.Marker=y.Marker) (h3:x.Level=y.Level) (h4:x.Value=y.Value) (h5:x.Stamp=y.Stamp):x=y:=by cases x; cases y; simp only at *; simp only [h0,h1,h2,h3,h4,h5]
def za7:zbb→List AV:=fun x=>[I x.Script,I x.Part,I x.Marker,I x.Level,I x.Value,I x.Stamp.Time,I x.Stamp.Source,I x.Stamp.Seq]
abbrev zc6:TyD:=TyD.of zbb za7 (by
 intro x y h; simp only [za7,zbq,AV.v.injEq,Value.int.injEq,Value.bool.injEq,Value.string.injEq,AV.sl.injEq,AV.mp.injEq,true_and,and_true] at h
 exact (zbb.eqOf (h.1) (h.2.1) (h.2.2.1) (h.2.2.2.1) (h.2.2.2.2.1) (zbe.eqOf (h.2.2.2.2.2.1) (h.2.2.2.2.2.2.1) (h.2.2.2.2.2.2.2))))
def zB7:(List zbb)→List AV:=fun x=>[.sl 8 (List.map zc6.enc x)]
abbrev dL_GGiven:TyD:=TyD.of (List zbb) zB7 (by
 intro x y h; simp only [zB7,zbq,AV.v.injEq,Value.int.injEq,Value.bool.injEq,Value.string.injEq,AV.sl.injEq,AV.mp.injEq,true_and,and_true,TyD.minj zc6] at h
 exact (h))
structure zbQ where
 Marker:Int
 Good:zbe
 At:zbe
 Until:zbe
 First:Bool
 Lifted:Bool
theorem zbQ.eqOf {x y:zbQ} (h0:x.Marker=y.Marker) (h1:x.Good=y.Good) (h2:x.At=y.At) (h3:x.Until=y.Until) (h4:x.First=y.First) (h5:x.Lifted=y.Lifted):x=y:=by cases x; cases y; simp only at *; simp only [h0,h1,h2,h3,h4,h5]
def zao:zbQ→List AV:=fun x=>[I x.Marker,I x.Good.Time,I x.Good.Source,I x.Good.Seq,I x.At.Time,I x.At.Source,I x.At.Seq,I x.Until.Time,I x.Until.Source,I x.Until.Seq,B x.First,B x.Lifted]
abbrev zcM:TyD:=TyD.of zbQ zao (by
 intro x y h; simp only [zao,zbq,AV.v.injEq,Value.int.injEq,Value.bool.injEq,Value.string.injEq,AV.sl.injEq,AV.mp.injEq,true_and,and_true] at h
 exact (zbQ.eqOf (h.1) (zbe.eqOf (h.2.1) (h.2.2.1) (h.2.2.2.1)) (zbe.eqOf (h.2.2.2.2.1) (h.2.2.2.2.2.1) (h.2.2.2.2.2.2.1)) (zbe.eqOf (h.2.2.2.2.2.2.2.1) (h.2.2.2.2.2.2.2.2.1) (h.2.2.2.2.2.2.2.2.2.1)) (h.2.2.2.2.2.2.2.2.2.2.1) (h.2.2.2.2.2.2.2.2.2.2.2)))
def ztA:(List zbQ)→List AV:=fun x=>[.sl 12 (List.map zcM.enc x)]
abbrev zBs:TyD:=TyD.of (List zbQ) ztA (by
 intro x y h; simp only [ztA,zbq,AV.v.injEq,Value.int.injEq,Value.bool.injEq,Value.string.injEq,AV.sl.injEq,AV.mp.injEq,true_and,and_true,TyD.minj zcM] at h
 exact (h))
structure zaG where
 Given:List zbb
 Suspensions:List zbQ
theorem zaG.eqOf {x y:zaG} (h0:x.Given=y.Given) (h1:x.Suspensions=y.Suspensions):x=y:=by cases x; cases y; simp only at *; simp only [h0,h1]
def zaK:zaG→List AV:=fun x=>[.sl 8 (List.map zc6.enc x.Given),.sl 12 (List.map zcM.enc x.Suspensions)]
abbrev zdM:TyD:=TyD.of zaG zaK (by
 intro x y h; simp only [zaK,zbq,AV.v.injEq,Value.int.injEq,Value.bool.injEq,Value.string.injEq,AV.sl.injEq,AV.mp.injEq,true_and,and_true,TyD.minj zc6,TyD.minj zcM] at h
 exact (zaG.eqOf (h.1) (h.2)))
def za4:(Int×Bool)→List AV:=fun x=>[I x.1,B x.2]
abbrev zg1:TyD:=TyD.of (Int×Bool) za4 (by
 intro x y h; have h1:=(zck h).1; have h2:=(zck (zck h).2).1
 exact zeW (by simpa using h1) (by simpa using h2))
def zvb:(List (Int×Bool))→List AV:=fun x=>[.mp (List.map zg1.enc x)]
abbrev zCO:TyD:=TyD.of (List (Int×Bool)) zvb (by
 intro x y h; simp only [zvb,zbq,AV.v.injEq,Value.int.injEq,Value.bool.injEq,Value.string.injEq,AV.sl.injEq,AV.mp.injEq,true_and,and_true,TyD.minj zg1] at h
 exact (h))
def zva:((List zai)×(List zai)×(List zai))→List AV:=fun x=>[.sl 6 (List.map zbE.enc x.1),.sl 6 (List.map zbE.enc x.2.1),.sl 6 (List.map zbE.enc x.2.2)]
abbrev zCN:TyD:=TyD.of ((List zai)×(List zai)×(List zai)) zva (by
 intro x y h; simp only [zva,zbq,AV.v.injEq,Value.int.injEq,Value.bool.injEq,Value.string.injEq,AV.sl.injEq,AV.mp.injEq,true_and,and_true,TyD.minj zbE] at h
 exact (zeW (h.1) (zeW (h.2.1) (h.2.2))))
def zr8:(zaM×zaM)→List AV:=fun x=>[I x.1.Days,I x.1.Fails,I x.1.Tolerance,I x.2.Days,I x.2.Fails,I x.2.Tolerance]
abbrev zAc:TyD:=TyD.of (zaM×zaM) zr8 (by
 intro x y h; simp only [zr8,zbq,AV.v.injEq,Value.int.injEq,Value.bool.injEq,Value.string.injEq,AV.sl.injEq,AV.mp.injEq,true_and,and_true] at h
 exact (zeW (zaM.eqOf (h.1) (h.2.1) (h.2.2.1)) (zaM.eqOf (h.2.2.2.1) (h.2.2.2.2.1) (h.2.2.2.2.2))))
structure zac where
 L:List Int
 At:Int
theorem zac.eqOf {x y:zac} (h0:x.L=y.L) (h1:x.At=y.At):x=y:=by cases x; cases y; simp only at *; simp only [h0,h1]
def zap:zac→List AV:=fun x=>[.sl 1 (List.map zbi.enc x.L),I x.At]
abbrev za6:TyD:=TyD.of zac zap (by
 intro x y h; simp only [zap,zbq,AV.v.injEq,Value.int.injEq,Value.bool.injEq,Value.string.injEq,AV.sl.injEq,AV.mp.injEq,true_and,and_true,TyD.minj zbi] at h
 exact (zac.eqOf (h.1) (h.2)))
def zaF:(Int×Int)→List AV:=fun x=>[I x.1,I x.2]
abbrev zgh:TyD:=TyD.of (Int×Int) zaF (by
 intro x y h; have h1:=(zck h).1; have h2:=(zck (zck h).2).1
 exact zeW (by simpa using h1) (by simpa using h2))
def ztC:(List (Int×Int))→List AV:=fun x=>[.mp (List.map zgh.enc x)]
abbrev zto:TyD:=TyD.of (List (Int×Int)) ztC (by
 intro x y h; simp only [ztC,zbq,AV.v.injEq,Value.int.injEq,Value.bool.injEq,Value.string.injEq,AV.sl.injEq,AV.mp.injEq,true_and,and_true,TyD.minj zgh] at h
 exact (h))
def zeN:(Int×zaG)→List AV:=fun x=>[I x.1,.agg (zdM.enc x.2)]
abbrev zpY:TyD:=TyD.of (Int×zaG) zeN (by
 intro x y h; have h1:=(zck h).1; have h2:=(zck (zck h).2).1
 exact zeW (by simpa using h1) (zdM.inj (AV.agg.inj h2)))
def zp2:(List (Int×zaG))→List AV:=fun x=>[.mp (List.map zpY.enc x)]
abbrev zxA:TyD:=TyD.of (List (Int×zaG)) zp2 (by
 intro x y h; simp only [zp2,zbq,AV.v.injEq,Value.int.injEq,Value.bool.injEq,Value.string.injEq,AV.sl.injEq,AV.mp.injEq,true_and,and_true,TyD.minj zpY] at h
 exact (h))
def nL_Bool:(List Bool)→List AV:=fun x=>[.sl 1 (List.map dBool.enc x)]
abbrev dL_Bool:TyD:=TyD.of (List Bool) nL_Bool (by
 intro x y h; simp only [nL_Bool,zbq,AV.v.injEq,Value.int.injEq,Value.bool.injEq,Value.string.injEq,AV.sl.injEq,AV.mp.injEq,true_and,and_true,TyD.minj dBool] at h
 exact (h))
def zbB:(Int×Int)→List AV:=fun x=>[I x.1,I x.2]
abbrev zef:TyD:=TyD.of (Int×Int) zbB (by
 intro x y h; simp only [zbB,zbq,AV.v.injEq,Value.int.injEq,Value.bool.injEq,Value.string.injEq,AV.sl.injEq,AV.mp.injEq,true_and,and_true] at h
 exact (zeW (h.1) (h.2)))
def zbd:((Int×Int)×zai)→List AV:=fun x=>[.agg (zef.enc x.1),.agg (zbE.enc x.2)]
abbrev zoo:TyD:=TyD.of ((Int×Int)×zai) zbd (by
 intro x y h; have h1:=(zck h).1; have h2:=(zck (zck h).2).1
 exact zeW (zef.inj (AV.agg.inj h1)) (zbE.inj (AV.agg.inj h2)))
def zoq:(List ((Int×Int)×zai))→List AV:=fun x=>[.mp (List.map zoo.enc x)]
abbrev zvt:TyD:=TyD.of (List ((Int×Int)×zai)) zoq (by
 intro x y h; simp only [zoq,zbq,AV.v.injEq,Value.int.injEq,Value.bool.injEq,Value.string.injEq,AV.sl.injEq,AV.mp.injEq,true_and,and_true,TyD.minj zoo] at h
 exact (h))
def zbj:((Int×Int)×Bool)→List AV:=fun x=>[.agg (zef.enc x.1),B x.2]
abbrev zgg:TyD:=TyD.of ((Int×Int)×Bool) zbj (by
 intro x y h; have h1:=(zck h).1; have h2:=(zck (zck h).2).1
 exact zeW (zef.inj (AV.agg.inj h1)) (by simpa using h2))
def zru:(List ((Int×Int)×Bool))→List AV:=fun x=>[.mp (List.map zgg.enc x)]
abbrev zyV:TyD:=TyD.of (List ((Int×Int)×Bool)) zru (by
 intro x y h; simp only [zru,zbq,AV.v.injEq,Value.int.injEq,Value.bool.injEq,Value.string.injEq,AV.sl.injEq,AV.mp.injEq,true_and,and_true,TyD.minj zgg] at h
 exact (h))
structure zaL where
 script:Int
 part:Int
theorem zaL.eqOf {x y:zaL} (h0:x.script=y.script) (h1:x.part=y.part):x=y:=by cases x; cases y; simp only at *; simp only [h0,h1]
def zbI:zaL→List AV:=fun x=>[I x.script,I x.part]
abbrev zdX:TyD:=TyD.of zaL zbI (by
 intro x y h; simp only [zbI,zbq,AV.v.injEq,Value.int.injEq,Value.bool.injEq,Value.string.injEq,AV.sl.injEq,AV.mp.injEq,true_and,and_true] at h
 exact (zaL.eqOf (h.1) (h.2)))
def zax:(zaL×zbe)→List AV:=fun x=>[.agg (zdX.enc x.1),.agg (zni.enc x.2)]
abbrev zdS:TyD:=TyD.of (zaL×zbe) zax (by
 intro x y h; have h1:=(zck h).1; have h2:=(zck (zck h).2).1
 exact zeW (zdX.inj (AV.agg.inj h1)) (zni.inj (AV.agg.inj h2)))
def zlv:(List (zaL×zbe))→List AV:=fun x=>[.mp (List.map zdS.enc x)]
abbrev zrf:TyD:=TyD.of (List (zaL×zbe)) zlv (by
 intro x y h; simp only [zlv,zbq,AV.v.injEq,Value.int.injEq,Value.bool.injEq,Value.string.injEq,AV.sl.injEq,AV.mp.injEq,true_and,and_true,TyD.minj zdS] at h
 exact (h))
structure zbC where
 event:zab
 void:Bool
theorem zbC.eqOf {x y:zbC} (h0:x.event=y.event) (h1:x.void=y.void):x=y:=by cases x; cases y; simp only at *; simp only [h0,h1]
def zar:zbC→List AV:=fun x=>[I x.event.Stamp.Time,I x.event.Stamp.Source,I x.event.Stamp.Seq,I x.event.Kind,I x.event.Script,I x.event.Part,I x.event.Value,I x.event.Marker,.sl 1 (List.map zbi.enc x.event.Pages),B x.void]
abbrev zdx:TyD:=TyD.of zbC zar (by
 intro x y h; simp only [zar,zbq,AV.v.injEq,Value.int.injEq,Value.bool.injEq,Value.string.injEq,AV.sl.injEq,AV.mp.injEq,true_and,and_true,TyD.minj zbi] at h
 exact (zbC.eqOf (zab.eqOf (zbe.eqOf (h.1) (h.2.1) (h.2.2.1)) (h.2.2.2.1) (h.2.2.2.2.1) (h.2.2.2.2.2.1) (h.2.2.2.2.2.2.1) (h.2.2.2.2.2.2.2.1) (h.2.2.2.2.2.2.2.2.1)) (h.2.2.2.2.2.2.2.2.2)))
def zr9:(List zbC)→List AV:=fun x=>[.sl 10 (List.map zdx.enc x)]
abbrev zAe:TyD:=TyD.of (List zbC) zr9 (by
 intro x y h; simp only [zr9,zbq,AV.v.injEq,Value.int.injEq,Value.bool.injEq,Value.string.injEq,AV.sl.injEq,AV.mp.injEq,true_and,and_true,TyD.minj zdx] at h
 exact (h))
def zaz:(zaL×Int)→List AV:=fun x=>[.agg (zdX.enc x.1),I x.2]
abbrev zd2:TyD:=TyD.of (zaL×Int) zaz (by
 intro x y h; have h1:=(zck h).1; have h2:=(zck (zck h).2).1
 exact zeW (zdX.inj (AV.agg.inj h1)) (by simpa using h2))
def zmf:(List (zaL×Int))→List AV:=fun x=>[.mp (List.map zd2.enc x)]
abbrev zrN:TyD:=TyD.of (List (zaL×Int)) zmf (by
 intro x y h; simp only [zmf,zbq,AV.v.injEq,Value.int.injEq,Value.bool.injEq,Value.string.injEq,AV.sl.injEq,AV.mp.injEq,true_and,and_true,TyD.minj zd2] at h
 exact (h))
structure zdQ where
 Last:List Bool
 Suspended:Bool
theorem zdQ.eqOf {x y:zdQ} (h0:x.Last=y.Last) (h1:x.Suspended=y.Suspended):x=y:=by cases x; cases y; simp only at *; simp only [h0,h1]
def zkw:zdQ→List AV:=fun x=>[.sl 1 (List.map dBool.enc x.Last),B x.Suspended]
abbrev ztn:TyD:=TyD.of zdQ zkw (by
 intro x y h; simp only [zkw,zbq,AV.v.injEq,Value.int.injEq,Value.bool.injEq,Value.string.injEq,AV.sl.injEq,AV.mp.injEq,true_and,and_true,TyD.minj dBool] at h
 exact (zdQ.eqOf (h.1) (h.2)))
structure zat where
 level:Int
 marks:List zbC
 period:Int
 started:zbe
 noted:List (zaL×Int)
 watch:zdQ
 good:zbe
 some:Bool
 suspensions:List zbQ
theorem zat.eqOf {x y:zat} (h0:x.level=y.level) (h1:x.marks=y.marks) (h2:x.period=y.period) (h3:x.started=y.started) (h4:x.noted=y.noted) (h5:x.watch=y.watch) (h6:x.good=y.good) (h7:x.some=y.some) (h8:x.suspensions=y.suspensions):x=y:=by cases x; cases y; simp only at *; simp only [h0,h1,h2,h3,h4,h5,h6,h7,h8]
def zd9:zat→List AV:=fun x=>[I x.level,.sl 10 (List.map zdx.enc x.marks),I x.period,I x.started.Time,I x.started.Source,I x.started.Seq,.mp (List.map zd2.enc x.noted),.sl 1 (List.map dBool.enc x.watch.Last),B x.watch.Suspended,I x.good.Time,I x.good.Source,I x.good.Seq,B x.some,.sl 12 (List.map zcM.enc x.suspensions)]
abbrev zh0:TyD:=TyD.of zat zd9 (by
 intro x y h; simp only [zd9,zbq,AV.v.injEq,Value.int.injEq,Value.bool.injEq,Value.string.injEq,AV.sl.injEq,AV.mp.injEq,true_and,and_true,TyD.minj dBool,TyD.minj zd2,TyD.minj zcM,TyD.minj zdx] at h
 exact (zat.eqOf (h.1) (h.2.1) (h.2.2.1) (zbe.eqOf (h.2.2.2.1) (h.2.2.2.2.1) (h.2.2.2.2.2.1)) (h.2.2.2.2.2.2.1) (zdQ.eqOf (h.2.2.2.2.2.2.2.1) (h.2.2.2.2.2.2.2.2.1)) (zbe.eqOf (h.2.2.2.2.2.2.2.2.2.1) (h.2.2.2.2.2.2.2.2.2.2.1) (h.2.2.2.2.2.2.2.2.2.2.2.1)) (h.2.2.2.2.2.2.2.2.2.2.2.2.1) (h.2.2.2.2.2.2.2.2.2.2.2.2.2)))
def zcy:(zaL×zab)→List AV:=fun x=>[.agg (zdX.enc x.1),.agg (zaV.enc x.2)]
abbrev zdf:TyD:=TyD.of (zaL×zab) zcy (by
 intro x y h; have h1:=(zck h).1; have h2:=(zck (zck h).2).1
 exact zeW (zdX.inj (AV.agg.inj h1)) (zaV.inj (AV.agg.inj h2)))
def zjj:(List (zaL×zab))→List AV:=fun x=>[.mp (List.map zdf.enc x)]
abbrev zoL:TyD:=TyD.of (List (zaL×zab)) zjj (by
 intro x y h; simp only [zjj,zbq,AV.v.injEq,Value.int.injEq,Value.bool.injEq,Value.string.injEq,AV.sl.injEq,AV.mp.injEq,true_and,and_true,TyD.minj zdf] at h
 exact (h))
def zxL:((Int×Int)×Int)→List AV:=fun x=>[.agg (zef.enc x.1),I x.2]
abbrev zfS:TyD:=TyD.of ((Int×Int)×Int) zxL (by
 intro x y h; have h1:=(zck h).1; have h2:=(zck (zck h).2).1
 exact zeW (zef.inj (AV.agg.inj h1)) (by simpa using h2))
def zp1:(List ((Int×Int)×Int))→List AV:=fun x=>[.mp (List.map zfS.enc x)]
abbrev zxz:TyD:=TyD.of (List ((Int×Int)×Int)) zp1 (by
 intro x y h; simp only [zp1,zbq,AV.v.injEq,Value.int.injEq,Value.bool.injEq,Value.string.injEq,AV.sl.injEq,AV.mp.injEq,true_and,and_true,TyD.minj zfS] at h
 exact (h))
structure zbx where
 first:Int
 disputed:Bool
theorem zbx.eqOf {x y:zbx} (h0:x.first=y.first) (h1:x.disputed=y.disputed):x=y:=by cases x; cases y; simp only at *; simp only [h0,h1]
def zbS:zbx→List AV:=fun x=>[I x.first,B x.disputed]
abbrev zeD:TyD:=TyD.of zbx zbS (by
 intro x y h; simp only [zbS,zbq,AV.v.injEq,Value.int.injEq,Value.bool.injEq,Value.string.injEq,AV.sl.injEq,AV.mp.injEq,true_and,and_true] at h
 exact (zbx.eqOf (h.1) (h.2)))
def zbO:((Int×Int)×zbx)→List AV:=fun x=>[.agg (zef.enc x.1),.agg (zeD.enc x.2)]
abbrev zcg:TyD:=TyD.of ((Int×Int)×zbx) zbO (by
 intro x y h; have h1:=(zck h).1; have h2:=(zck (zck h).2).1
 exact zeW (zef.inj (AV.agg.inj h1)) (zeD.inj (AV.agg.inj h2)))
def zkX:(List ((Int×Int)×zbx))→List AV:=fun x=>[.mp (List.map zcg.enc x)]
abbrev zqa:TyD:=TyD.of (List ((Int×Int)×zbx)) zkX (by
 intro x y h; simp only [zkX,zbq,AV.v.injEq,Value.int.injEq,Value.bool.injEq,Value.string.injEq,AV.sl.injEq,AV.mp.injEq,true_and,and_true,TyD.minj zcg] at h
 exact (h))
structure zb5 where
 State:Int
 Value:Int
theorem zb5.eqOf {x y:zb5} (h0:x.State=y.State) (h1:x.Value=y.Value):x=y:=by cases x; cases y; simp only at *; simp only [h0,h1]
def zb4:zb5→List AV:=fun x=>[I x.State,I x.Value]
abbrev zc9:TyD:=TyD.of zb5 zb4 (by
 intro x y h; simp only [zb4,zbq,AV.v.injEq,Value.int.injEq,Value.bool.injEq,Value.string.injEq,AV.sl.injEq,AV.mp.injEq,true_and,and_true] at h
 exact (zb5.eqOf (h.1) (h.2)))
def zx5:(List zb5)→List AV:=fun x=>[.sl 2 (List.map zc9.enc x)]
abbrev zEt:TyD:=TyD.of (List zb5) zx5 (by
 intro x y h; simp only [zx5,zbq,AV.v.injEq,Value.int.injEq,Value.bool.injEq,Value.string.injEq,AV.sl.injEq,AV.mp.injEq,true_and,and_true,TyD.minj zc9] at h
 exact (h))
def zsa:(List (List zab))→List AV:=fun x=>[.sl 1 (List.map zg2.enc x)]
abbrev zAf:TyD:=TyD.of (List (List zab)) zsa (by
 intro x y h; simp only [zsa,zbq,AV.v.injEq,Value.int.injEq,Value.bool.injEq,Value.string.injEq,AV.sl.injEq,AV.mp.injEq,true_and,and_true,TyD.minj zg2] at h
 exact (h))
structure zez where
 part:Int
 value:Int
theorem zez.eqOf {x y:zez} (h0:x.part=y.part) (h1:x.value=y.value):x=y:=by cases x; cases y; simp only at *; simp only [h0,h1]
def zwG:zez→List AV:=fun x=>[I x.part,I x.value]
abbrev zlf:TyD:=TyD.of zez zwG (by
 intro x y h; simp only [zwG,zbq,AV.v.injEq,Value.int.injEq,Value.bool.injEq,Value.string.injEq,AV.sl.injEq,AV.mp.injEq,true_and,and_true] at h
 exact (zez.eqOf (h.1) (h.2)))
def ztB:(List zez)→List AV:=fun x=>[.sl 2 (List.map zlf.enc x)]
abbrev zBt:TyD:=TyD.of (List zez) ztB (by
 intro x y h; simp only [ztB,zbq,AV.v.injEq,Value.int.injEq,Value.bool.injEq,Value.string.injEq,AV.sl.injEq,AV.mp.injEq,true_and,and_true,TyD.minj zlf] at h
 exact (h))
def zsO:(Int×(List zez))→List AV:=fun x=>[I x.1,.sl 2 (List.map zlf.enc x.2)]
abbrev zmz:TyD:=TyD.of (Int×(List zez)) zsO (by
 intro x y h; have h1:=(zck h).1; have h2:=(zck (zck h).2).1
 exact zeW (by simpa using h1) (by simpa only [AV.sl.injEq,true_and,TyD.minj zlf] using h2))
def zmE:(List (Int×(List zez)))→List AV:=fun x=>[.mp (List.map zmz.enc x)]
abbrev zsw:TyD:=TyD.of (List (Int×(List zez))) zmE (by
 intro x y h; simp only [zmE,zbq,AV.v.injEq,Value.int.injEq,Value.bool.injEq,Value.string.injEq,AV.sl.injEq,AV.mp.injEq,true_and,and_true,TyD.minj zmz] at h
 exact (h))
@[simp] theorem zeA {β:Type} (l:List zai) (i:Nat) (k:zai→Option β):elemD zbE (List.map zag l) i k=(l[i]?).bind k:=zdN zbE l i k
@[simp] theorem zgI {β:Type} (l:List zbb) (i:Nat) (k:zbb→Option β):elemD zc6 (List.map za7 l) i k=(l[i]?).bind k:=zdN zc6 l i k
@[simp] theorem zbW {β:Type} (l:List zab) (i:Nat) (k:zab→Option β):elemD zaV (List.map zaa l) i k=(l[i]?).bind k:=zdN zaV l i k
@[simp] theorem zeB {β:Type} (l:List zbk) (i:Nat) (k:zbk→Option β):elemD zc7 (List.map zbh l) i k=(l[i]?).bind k:=zdN zc7 l i k
@[simp] theorem ze4 {β:Type} (l:List zaJ) (i:Nat) (k:zaJ→Option β):elemD zct (List.map zaT l) i k=(l[i]?).bind k:=zdN zct l i k
@[simp] theorem zdF {β:Type} (l:List GPart) (i:Nat) (k:GPart→Option β):elemD zd8 (List.map zaQ l) i k=(l[i]?).bind k:=zdN zd8 l i k
@[simp] theorem zpM {β:Type} (l:List zbp) (i:Nat) (k:zbp→Option β):elemD zdT (List.map zbJ l) i k=(l[i]?).bind k:=zdN zdT l i k
@[simp] theorem zeC {β:Type} (l:List zaE) (i:Nat) (k:zaE→Option β):elemD zco (List.map za0 l) i k=(l[i]?).bind k:=zdN zco l i k
@[simp] theorem zmA {β:Type} (l:List GSeed) (i:Nat) (k:GSeed→Option β):elemD zfk (List.map zcd l) i k=(l[i]?).bind k:=zdN zfk l i k
@[simp] theorem zp0 {β:Type} (l:List zbQ) (i:Nat) (k:zbQ→Option β):elemD zcM (List.map zao l) i k=(l[i]?).bind k:=zdN zcM l i k
@[simp] theorem zlV {β:Type} (l:List zb5) (i:Nat) (k:zb5→Option β):elemD zc9 (List.map zb4 l) i k=(l[i]?).bind k:=zdN zc9 l i k
@[simp] theorem zlh {β:Type} (l:List zbC) (i:Nat) (k:zbC→Option β):elemD zdx (List.map zar l) i k=(l[i]?).bind k:=zdN zdx l i k
@[simp] theorem zh9 {β:Type} (l:List (List zab)) (i:Nat) (k:(List zab)→Option β):elemD zg2 (List.map zc4 l) i k=(l[i]?).bind k:=zdN zg2 l i k
@[simp] theorem zCS {β:Type} (l:List (List Int)) (i:Nat) (k:(List Int)→Option β):elemD ziG (List.map zcH l) i k=(l[i]?).bind k:=zdN ziG l i k
def tyTab:List TyD:=[dRaw,dRaw,zbi,zbi,dBool,dI_u8,dI_u8,dRaw,dRaw,dStr,dStr,dStr,dI_u64,dRaw,dRaw,dRaw,dRaw,dRaw,dRaw,dRaw,dRaw,dI_i32,ziG,dRaw,dRaw,dRaw,dRaw,dL_GMarker,dL_GScript,dL_GPaper,dL_GScheme,dL_GSeed,dRaw,zkf,dRaw,zlT,dRaw,zg2,dRaw,dL_GAppeal,dRaw,dRaw,zjd,dRaw,dRaw,zlS,dRaw,zbi,dRaw,dRaw,dRaw,dL_GGiven,zBs,dRaw,zdM,dRaw,dRaw,dRaw,dRaw,dRaw,zni,dRaw,zbE,dRaw,dRaw,zc7,dRaw,dRaw,zCO,dRaw,zc6,dRaw,dRaw,dRaw,dRaw,dRaw,dRaw,zCN,dRaw,dRaw,dRaw,zAc,dRaw,dRaw,dRaw,zaV,dRaw,dRaw,dRaw,zco,dRaw,dRaw,za6,dRaw,dRaw,dRaw,dRaw,dRaw,dRaw,dRaw,zfk,dRaw,dL_GPart,dRaw,zct,dRaw,dRaw,zd8,dRaw,dRaw,dRaw,dRaw,dRaw,zto,zto,dRaw,dRaw,dRaw,zxA,dRaw,dRaw,dRaw,dRaw,dRaw,dRaw,dRaw,dRaw,dRaw,dRaw,dL_Bool,dRaw,dRaw,dRaw,dRaw,dRaw,zvt,zyV,zef,dRaw,dRaw,dRaw,dRaw,dRaw,dRaw,dRaw,dRaw,dRaw,zcM,dRaw,dRaw,dRaw,dRaw,dRaw,dRaw,dRaw,dRaw,dRaw,dL_L_I_i64,dRaw,zdT,dRaw,dRaw,dRaw,dRaw,dRaw,dRaw,dRaw,dRaw,zrf,dRaw,dRaw,dRaw,zAe,zrN,dRaw,ztn,dRaw,zh0,zoL,dRaw,dRaw,zdX,dRaw,dRaw,dRaw,dRaw,dRaw,dRaw,dRaw,dRaw,dRaw,dRaw,zxz,dRaw,dRaw,dRaw,dRaw,dRaw,dRaw,dRaw,dRaw,dRaw,dRaw,dRaw,dI_u64,dRaw,zqa,dRaw,dRaw,zeD,dRaw,dRaw,zEt,dRaw,dRaw,dRaw,zc9,dRaw,dRaw,dRaw,dRaw,dRaw,dRaw,dRaw,dRaw,dRaw,dRaw,dRaw,dRaw,zdx,dRaw,dRaw,zAf,dRaw,dRaw,dRaw,dRaw,dRaw,dRaw,zsw,zBt,dRaw,zlf,dRaw,dRaw,dRaw,dRaw,dRaw,dRaw,zbi,dRaw,dRaw,dRaw,dRaw,dRaw,dRaw,dI_u32,dRaw,dI_u64,dRaw,dRaw,dRaw,dRaw,dRaw,dRaw,dRaw,dRaw,dRaw,dRaw,dRaw,dRaw,dRaw,dRaw,dRaw,dRaw,dRaw,dRaw,dRaw,dRaw,dRaw,dRaw,dRaw,dRaw,dRaw,dRaw,dRaw,dRaw,dRaw,dRaw,dRaw,dRaw,dRaw,dI_u64,dRaw,dRaw,dRaw,dRaw,dRaw,dRaw,dRaw,dRaw,dRaw,dRaw,dRaw,dRaw,dRaw,dRaw,dRaw,dRaw,dRaw,dRaw,dRaw,dRaw,dRaw,dRaw,dRaw,dRaw,dRaw,dRaw,dRaw,dRaw,dRaw,dRaw,dRaw,dRaw,dRaw,dRaw,dRaw,dRaw,dRaw,dRaw,dRaw,dRaw,dRaw,dRaw,dRaw,dRaw,dI_u8,dI_u8,dRaw,dRaw,dI_i32,dI_i32,dRaw,dRaw,dRaw]
end Go.Proofs.YtlecnobdfhlmnaaGreat
end
