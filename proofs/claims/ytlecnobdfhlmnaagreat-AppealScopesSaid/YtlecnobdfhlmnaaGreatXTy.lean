/- The types of the seat as data. -/
import Derived.Test.YtlecnobdfhlmnaaGreatAb8
set_option linter.unusedSimpArgs false
set_option linter.unusedVariables false
noncomputable section
namespace Go.Proofs.YtlecnobdfhlmnaaGreat
open Go.Ab
def zc9:(List Int)->List AV:=λx=>[.sl 1 (List.map zbi.enc x)]
abbrev zgC:TyD:=TyD.of (List Int) zc9 (by
 intro x y h;simp only[zc9,zax,AV.v.injEq,Value.int.injEq,Value.bool.injEq,Value.string.injEq,AV.sl.injEq,AV.mp.injEq,true_and,and_true,TyD.minj zbi]at h
 exact(h))
structure za3 where
 ID:Int
 Centre:Int
 Level:Int
 Capacity:Int
 Papers:List Int
theorem za3.eqOf{x y:za3}(h0:x.ID=y.ID)(h1:x.Centre=y.Centre)(h2:x.Level=y.Level)(h3:x.Capacity=y.Capacity)(h4:x.Papers=y.Papers):x=y:=by cases x;cases y;simp only at *;simp only[h0,h1,h2,h3,h4]
def zbb:za3->List AV:=λx=>[I x.ID,I x.Centre,I x.Level,I x.Capacity,.sl 1 (List.map zbi.enc x.Papers)]
abbrev zdU:TyD:=TyD.of za3 zbb (by
 intro x y h;simp only[zbb,zax,AV.v.injEq,Value.int.injEq,Value.bool.injEq,Value.string.injEq,AV.sl.injEq,AV.mp.injEq,true_and,and_true,TyD.minj zbi]at h
 exact(za3.eqOf (h.1) (h.2.1) (h.2.2.1) (h.2.2.2.1) (h.2.2.2.2)))
def zFr:(List za3)->List AV:=λx=>[.sl 5 (List.map zdU.enc x)]
abbrev dL_GMarker:TyD:=TyD.of (List za3) zFr (by
 intro x y h;simp only[zFr,zax,AV.v.injEq,Value.int.injEq,Value.bool.injEq,Value.string.injEq,AV.sl.injEq,AV.mp.injEq,true_and,and_true,TyD.minj zdU]at h
 exact(h))
structure zaT where
 Number:Int
 Paper:Int
 Candidate:Int
 Centre:Int
 Variant:Int
 Pages:List Int
 Answers:List Int
theorem zaT.eqOf{x y:zaT}(h0:x.Number=y.Number)(h1:x.Paper=y.Paper)(h2:x.Candidate=y.Candidate)(h3:x.Centre=y.Centre)(h4:x.Variant=y.Variant)(h5:x.Pages=y.Pages)(h6:x.Answers=y.Answers):x=y:=by cases x;cases y;simp only at *;simp only[h0,h1,h2,h3,h4,h5,h6]
def za1:zaT->List AV:=λx=>[I x.Number,I x.Paper,I x.Candidate,I x.Centre,I x.Variant,.sl 1 (List.map zbi.enc x.Pages),.sl 1 (List.map zbi.enc x.Answers)]
abbrev zc0:TyD:=TyD.of zaT za1 (by
 intro x y h;simp only[za1,zax,AV.v.injEq,Value.int.injEq,Value.bool.injEq,Value.string.injEq,AV.sl.injEq,AV.mp.injEq,true_and,and_true,TyD.minj zbi]at h
 exact(zaT.eqOf (h.1) (h.2.1) (h.2.2.1) (h.2.2.2.1) (h.2.2.2.2.1) (h.2.2.2.2.2.1) (h.2.2.2.2.2.2)))
def zFt:(List zaT)->List AV:=λx=>[.sl 7 (List.map zc0.enc x)]
abbrev dL_GScript:TyD:=TyD.of (List zaT) zFt (by
 intro x y h;simp only[zFt,zax,AV.v.injEq,Value.int.injEq,Value.bool.injEq,Value.string.injEq,AV.sl.injEq,AV.mp.injEq,true_and,and_true,TyD.minj zc0]at h
 exact(h))
structure GPart where
 Kind:Int
 Max:Int
 Topic:Int
 Objective:Int
 Options:Int
 Key:Int
theorem GPart.eqOf{x y:GPart}(h0:x.Kind=y.Kind)(h1:x.Max=y.Max)(h2:x.Topic=y.Topic)(h3:x.Objective=y.Objective)(h4:x.Options=y.Options)(h5:x.Key=y.Key):x=y:=by cases x;cases y;simp only at *;simp only[h0,h1,h2,h3,h4,h5]
def za0:GPart->List AV:=λx=>[I x.Kind,I x.Max,I x.Topic,I x.Objective,I x.Options,I x.Key]
abbrev zd9:TyD:=TyD.of GPart za0 (by
 intro x y h;simp only[za0,zax,AV.v.injEq,Value.int.injEq,Value.bool.injEq,Value.string.injEq,AV.sl.injEq,AV.mp.injEq,true_and,and_true]at h
 exact(GPart.eqOf (h.1) (h.2.1) (h.2.2.1) (h.2.2.2.1) (h.2.2.2.2.1) (h.2.2.2.2.2)))
def nL_GPart:(List GPart)->List AV:=λx=>[.sl 6 (List.map zd9.enc x)]
abbrev dL_GPart:TyD:=TyD.of (List GPart) nL_GPart (by
 intro x y h;simp only[nL_GPart,zax,AV.v.injEq,Value.int.injEq,Value.bool.injEq,Value.string.injEq,AV.sl.injEq,AV.mp.injEq,true_and,and_true,TyD.minj zd9]at h
 exact(h))
structure zaM where
 Code:Int
 Variant:Int
 Parts:List GPart
theorem zaM.eqOf{x y:zaM}(h0:x.Code=y.Code)(h1:x.Variant=y.Variant)(h2:x.Parts=y.Parts):x=y:=by cases x;cases y;simp only at *;simp only[h0,h1,h2]
def zaQ:zaM->List AV:=λx=>[I x.Code,I x.Variant,.sl 6 (List.map zd9.enc x.Parts)]
abbrev zcV:TyD:=TyD.of zaM zaQ (by
 intro x y h;simp only[zaQ,zax,AV.v.injEq,Value.int.injEq,Value.bool.injEq,Value.string.injEq,AV.sl.injEq,AV.mp.injEq,true_and,and_true,TyD.minj zd9]at h
 exact(zaM.eqOf (h.1) (h.2.1) (h.2.2)))
def zGU:(List zaM)->List AV:=λx=>[.sl 3 (List.map zcV.enc x)]
abbrev dL_GPaper:TyD:=TyD.of (List zaM) zGU (by
 intro x y h;simp only[zGU,zax,AV.v.injEq,Value.int.injEq,Value.bool.injEq,Value.string.injEq,AV.sl.injEq,AV.mp.injEq,true_and,and_true,TyD.minj zcV]at h
 exact(h))
def zFu:(List (List Int))->List AV:=λx=>[.sl 1 (List.map zgC.enc x)]
abbrev dL_L_I_i64:TyD:=TyD.of (List (List Int)) zFu (by
 intro x y h;simp only[zFu,zax,AV.v.injEq,Value.int.injEq,Value.bool.injEq,Value.string.injEq,AV.sl.injEq,AV.mp.injEq,true_and,and_true,TyD.minj zgC]at h
 exact(h))
structure zbu where
 Keys:List (List Int)
 Withdrawn:List Int
theorem zbu.eqOf{x y:zbu}(h0:x.Keys=y.Keys)(h1:x.Withdrawn=y.Withdrawn):x=y:=by cases x;cases y;simp only at *;simp only[h0,h1]
def zbL:zbu->List AV:=λx=>[.sl 1 (List.map zgC.enc x.Keys),.sl 1 (List.map zbi.enc x.Withdrawn)]
abbrev zeU:TyD:=TyD.of zbu zbL (by
 intro x y h;simp only[zbL,zax,AV.v.injEq,Value.int.injEq,Value.bool.injEq,Value.string.injEq,AV.sl.injEq,AV.mp.injEq,true_and,and_true,TyD.minj zbi,TyD.minj zgC]at h
 exact(zbu.eqOf (h.1) (h.2)))
def zFs:(List zbu)->List AV:=λx=>[.sl 2 (List.map zeU.enc x)]
abbrev dL_GScheme:TyD:=TyD.of (List zbu) zFs (by
 intro x y h;simp only[zFs,zax,AV.v.injEq,Value.int.injEq,Value.bool.injEq,Value.string.injEq,AV.sl.injEq,AV.mp.injEq,true_and,and_true,TyD.minj zeU]at h
 exact(h))
structure GSeed where
 Script:Int
 Marks:List Int
theorem GSeed.eqOf{x y:GSeed}(h0:x.Script=y.Script)(h1:x.Marks=y.Marks):x=y:=by cases x;cases y;simp only at *;simp only[h0,h1]
def zcA:GSeed->List AV:=λx=>[I x.Script,.sl 1 (List.map zbi.enc x.Marks)]
abbrev zfO:TyD:=TyD.of GSeed zcA (by
 intro x y h;simp only[zcA,zax,AV.v.injEq,Value.int.injEq,Value.bool.injEq,Value.string.injEq,AV.sl.injEq,AV.mp.injEq,true_and,and_true,TyD.minj zbi]at h
 exact(GSeed.eqOf (h.1) (h.2)))
def nL_GSeed:(List GSeed)->List AV:=λx=>[.sl 2 (List.map zfO.enc x)]
abbrev dL_GSeed:TyD:=TyD.of (List GSeed) nL_GSeed (by
 intro x y h;simp only[nL_GSeed,zax,AV.v.injEq,Value.int.injEq,Value.bool.injEq,Value.string.injEq,AV.sl.injEq,AV.mp.injEq,true_and,and_true,TyD.minj zfO]at h
 exact(h))
structure zbv where
 Part:Int
 Total:Int
 Window:Int
 Fails:Int
theorem zbv.eqOf{x y:zbv}(h0:x.Part=y.Part)(h1:x.Total=y.Total)(h2:x.Window=y.Window)(h3:x.Fails=y.Fails):x=y:=by cases x;cases y;simp only at *;simp only[h0,h1,h2,h3]
def zbQ:zbv->List AV:=λx=>[I x.Part,I x.Total,I x.Window,I x.Fails]
abbrev zne:TyD:=TyD.of zbv zbQ (by
 intro x y h;simp only[zbQ,zax,AV.v.injEq,Value.int.injEq,Value.bool.injEq,Value.string.injEq,AV.sl.injEq,AV.mp.injEq,true_and,and_true]at h
 exact(zbv.eqOf (h.1) (h.2.1) (h.2.2.1) (h.2.2.2)))
structure zan where
 Markers:List za3
 Scripts:List zaT
 Papers:List zaM
 Schemes:List zbu
 Seeds:List GSeed
 Monitor:zbv
theorem zan.eqOf{x y:zan}(h0:x.Markers=y.Markers)(h1:x.Scripts=y.Scripts)(h2:x.Papers=y.Papers)(h3:x.Schemes=y.Schemes)(h4:x.Seeds=y.Seeds)(h5:x.Monitor=y.Monitor):x=y:=by cases x;cases y;simp only at *;simp only[h0,h1,h2,h3,h4,h5]
def zas:zan->List AV:=λx=>[.sl 5 (List.map zdU.enc x.Markers),.sl 7 (List.map zc0.enc x.Scripts),.sl 3 (List.map zcV.enc x.Papers),.sl 2 (List.map zeU.enc x.Schemes),.sl 2 (List.map zfO.enc x.Seeds),I x.Monitor.Part,I x.Monitor.Total,I x.Monitor.Window,I x.Monitor.Fails]
abbrev zqy:TyD:=TyD.of zan zas (by
 intro x y h;simp only[zas,zax,AV.v.injEq,Value.int.injEq,Value.bool.injEq,Value.string.injEq,AV.sl.injEq,AV.mp.injEq,true_and,and_true,TyD.minj zdU,TyD.minj zcV,TyD.minj zeU,TyD.minj zc0,TyD.minj zfO]at h
 exact(zan.eqOf (h.1) (h.2.1) (h.2.2.1) (h.2.2.2.1) (h.2.2.2.2.1) (zbv.eqOf (h.2.2.2.2.2.1) (h.2.2.2.2.2.2.1) (h.2.2.2.2.2.2.2.1) (h.2.2.2.2.2.2.2.2))))
structure za6 where
 Time:Int
 Source:Int
 Seq:Int
theorem za6.eqOf{x y:za6}(h0:x.Time=y.Time)(h1:x.Source=y.Source)(h2:x.Seq=y.Seq):x=y:=by cases x;cases y;simp only at *;simp only[h0,h1,h2]
def zb6:za6->List AV:=λx=>[I x.Time,I x.Source,I x.Seq]
abbrev zqz:TyD:=TyD.of za6 zb6 (by
 intro x y h;simp only[zb6,zax,AV.v.injEq,Value.int.injEq,Value.bool.injEq,Value.string.injEq,AV.sl.injEq,AV.mp.injEq,true_and,and_true]at h
 exact(za6.eqOf (h.1) (h.2.1) (h.2.2)))
structure zac where
 Stamp:za6
 Kind:Int
 Script:Int
 Part:Int
 Value:Int
 Marker:Int
 Pages:List Int
theorem zac.eqOf{x y:zac}(h0:x.Stamp=y.Stamp)(h1:x.Kind=y.Kind)(h2:x.Script=y.Script)(h3:x.Part=y.Part)(h4:x.Value=y.Value)(h5:x.Marker=y.Marker)(h6:x.Pages=y.Pages):x=y:=by cases x;cases y;simp only at *;simp only[h0,h1,h2,h3,h4,h5,h6]
def zab:zac->List AV:=λx=>[I x.Stamp.Time,I x.Stamp.Source,I x.Stamp.Seq,I x.Kind,I x.Script,I x.Part,I x.Value,I x.Marker,.sl 1 (List.map zbi.enc x.Pages)]
abbrev zaZ:TyD:=TyD.of zac zab (by
 intro x y h;simp only[zab,zax,AV.v.injEq,Value.int.injEq,Value.bool.injEq,Value.string.injEq,AV.sl.injEq,AV.mp.injEq,true_and,and_true,TyD.minj zbi]at h
 exact(zac.eqOf (za6.eqOf (h.1) (h.2.1) (h.2.2.1)) (h.2.2.2.1) (h.2.2.2.2.1) (h.2.2.2.2.2.1) (h.2.2.2.2.2.2.1) (h.2.2.2.2.2.2.2.1) (h.2.2.2.2.2.2.2.2)))
def zex:(List zac)->List AV:=λx=>[.sl 9 (List.map zaZ.enc x)]
abbrev zjD:TyD:=TyD.of (List zac) zex (by
 intro x y h;simp only[zex,zax,AV.v.injEq,Value.int.injEq,Value.bool.injEq,Value.string.injEq,AV.sl.injEq,AV.mp.injEq,true_and,and_true,TyD.minj zaZ]at h
 exact(h))
structure zaA where
 Stamp:za6
 Kind:Int
 Candidate:Int
 Marker:Int
theorem zaA.eqOf{x y:zaA}(h0:x.Stamp=y.Stamp)(h1:x.Kind=y.Kind)(h2:x.Candidate=y.Candidate)(h3:x.Marker=y.Marker):x=y:=by cases x;cases y;simp only at *;simp only[h0,h1,h2,h3]
def zaw:zaA->List AV:=λx=>[I x.Stamp.Time,I x.Stamp.Source,I x.Stamp.Seq,I x.Kind,I x.Candidate,I x.Marker]
abbrev zcz:TyD:=TyD.of zaA zaw (by
 intro x y h;simp only[zaw,zax,AV.v.injEq,Value.int.injEq,Value.bool.injEq,Value.string.injEq,AV.sl.injEq,AV.mp.injEq,true_and,and_true]at h
 exact(zaA.eqOf (za6.eqOf (h.1) (h.2.1) (h.2.2.1)) (h.2.2.2.1) (h.2.2.2.2.1) (h.2.2.2.2.2)))
def zFq:(List zaA)->List AV:=λx=>[.sl 6 (List.map zcz.enc x)]
abbrev dL_GAppeal:TyD:=TyD.of (List zaA) zFq (by
 intro x y h;simp only[zFq,zax,AV.v.injEq,Value.int.injEq,Value.bool.injEq,Value.string.injEq,AV.sl.injEq,AV.mp.injEq,true_and,and_true,TyD.minj zcz]at h
 exact(h))
structure zbp where
 Days:Int
 Fails:Int
 Tolerance:Int
theorem zbp.eqOf{x y:zbp}(h0:x.Days=y.Days)(h1:x.Fails=y.Fails)(h2:x.Tolerance=y.Tolerance):x=y:=by cases x;cases y;simp only at *;simp only[h0,h1,h2]
def zck:zbp->List AV:=λx=>[I x.Days,I x.Fails,I x.Tolerance]
abbrev zog:TyD:=TyD.of zbp zck (by
 intro x y h;simp only[zck,zax,AV.v.injEq,Value.int.injEq,Value.bool.injEq,Value.string.injEq,AV.sl.injEq,AV.mp.injEq,true_and,and_true]at h
 exact(zbp.eqOf (h.1) (h.2.1) (h.2.2)))
structure zbG where
 Double:Bool
 Tolerance:Int
theorem zbG.eqOf{x y:zbG}(h0:x.Double=y.Double)(h1:x.Tolerance=y.Tolerance):x=y:=by cases x;cases y;simp only at *;simp only[h0,h1]
def zcp:zbG->List AV:=λx=>[B x.Double,I x.Tolerance]
abbrev zq3:TyD:=TyD.of zbG zcp (by
 intro x y h;simp only[zcp,zax,AV.v.injEq,Value.int.injEq,Value.bool.injEq,Value.string.injEq,AV.sl.injEq,AV.mp.injEq,true_and,and_true]at h
 exact(zbG.eqOf (h.1) (h.2)))
structure za5 where
 Script:Int
 Part:Int
 Marker:Int
 Level:Int
 Value:Int
 Stamp:za6
theorem za5.eqOf{x y:za5}(h0:x.Script=y.Script)(h1:x.Part=y.Part)(h2:x.Marker=y.Marker)(h3:x.Level=y.Level)(h4:x.Value=y.Value)(h5:x.Stamp=y.Stamp):x=y:=by cases x;cases y;simp only at *;simp only[h0,h1,h2,h3,h4,h5]
def zaC:za5->List AV:=λx=>[I x.Script,I x.Part,I x.Marker,I x.Level,I x.Value,I x.Stamp.Time,I x.Stamp.Source,I x.Stamp.Seq]
abbrev zdX:TyD:=TyD.of za5 zaC (by
 intro x y h;simp only[zaC,zax,AV.v.injEq,Value.int.injEq,Value.bool.injEq,Value.string.injEq,AV.sl.injEq,AV.mp.injEq,true_and,and_true]at h
 exact(za5.eqOf (h.1) (h.2.1) (h.2.2.1) (h.2.2.2.1) (h.2.2.2.2.1) (za6.eqOf (h.2.2.2.2.2.1) (h.2.2.2.2.2.2.1) (h.2.2.2.2.2.2.2))))
def zGT:(List za5)->List AV:=λx=>[.sl 8 (List.map zdX.enc x)]
abbrev dL_GGiven:TyD:=TyD.of (List za5) zGT (by
 intro x y h;simp only[zGT,zax,AV.v.injEq,Value.int.injEq,Value.bool.injEq,Value.string.injEq,AV.sl.injEq,AV.mp.injEq,true_and,and_true,TyD.minj zdX]at h
 exact(h))
structure zbS where
 Marker:Int
 Good:za6
 At:za6
 Until:za6
 First:Bool
 Lifted:Bool
theorem zbS.eqOf{x y:zbS}(h0:x.Marker=y.Marker)(h1:x.Good=y.Good)(h2:x.At=y.At)(h3:x.Until=y.Until)(h4:x.First=y.First)(h5:x.Lifted=y.Lifted):x=y:=by cases x;cases y;simp only at *;simp only[h0,h1,h2,h3,h4,h5]
def zat:zbS->List AV:=λx=>[I x.Marker,I x.Good.Time,I x.Good.Source,I x.Good.Seq,I x.At.Time,I x.At.Source,I x.At.Seq,I x.Until.Time,I x.Until.Source,I x.Until.Seq,B x.First,B x.Lifted]
abbrev zdJ:TyD:=TyD.of zbS zat (by
 intro x y h;simp only[zat,zax,AV.v.injEq,Value.int.injEq,Value.bool.injEq,Value.string.injEq,AV.sl.injEq,AV.mp.injEq,true_and,and_true]at h
 exact(zbS.eqOf (h.1) (za6.eqOf (h.2.1) (h.2.2.1) (h.2.2.2.1)) (za6.eqOf (h.2.2.2.2.1) (h.2.2.2.2.2.1) (h.2.2.2.2.2.2.1)) (za6.eqOf (h.2.2.2.2.2.2.2.1) (h.2.2.2.2.2.2.2.2.1) (h.2.2.2.2.2.2.2.2.2.1)) (h.2.2.2.2.2.2.2.2.2.2.1) (h.2.2.2.2.2.2.2.2.2.2.2)))
def zxp:(List zbS)->List AV:=λx=>[.sl 12 (List.map zdJ.enc x)]
abbrev zF9:TyD:=TyD.of (List zbS) zxp (by
 intro x y h;simp only[zxp,zax,AV.v.injEq,Value.int.injEq,Value.bool.injEq,Value.string.injEq,AV.sl.injEq,AV.mp.injEq,true_and,and_true,TyD.minj zdJ]at h
 exact(h))
structure za9 where
 Given:List za5
 Suspensions:List zbS
theorem za9.eqOf{x y:za9}(h0:x.Given=y.Given)(h1:x.Suspensions=y.Suspensions):x=y:=by cases x;cases y;simp only at *;simp only[h0,h1]
def zbI:za9->List AV:=λx=>[.sl 8 (List.map zdX.enc x.Given),.sl 12 (List.map zdJ.enc x.Suspensions)]
abbrev zfz:TyD:=TyD.of za9 zbI (by
 intro x y h;simp only[zbI,zax,AV.v.injEq,Value.int.injEq,Value.bool.injEq,Value.string.injEq,AV.sl.injEq,AV.mp.injEq,true_and,and_true,TyD.minj zdX,TyD.minj zdJ]at h
 exact(za9.eqOf (h.1) (h.2)))
def zbX:(Int×Bool)->List AV:=λx=>[I x.1,B x.2]
abbrev zjC:TyD:=TyD.of (Int×Bool) zbX (by
 intro x y h;have h1:=(zbq h).1;have h2:=(zbq (zbq h).2).1
 exact zde (by simpa using h1) (by simpa using h2))
def zy9:(List (Int×Bool))->List AV:=λx=>[.mp (List.map zjC.enc x)]
abbrev zHJ:TyD:=TyD.of (List (Int×Bool)) zy9 (by
 intro x y h;simp only[zy9,zax,AV.v.injEq,Value.int.injEq,Value.bool.injEq,Value.string.injEq,AV.sl.injEq,AV.mp.injEq,true_and,and_true,TyD.minj zjC]at h
 exact(h))
def zy8:((List zaA)×(List zaA)×(List zaA))->List AV:=λx=>[.sl 6 (List.map zcz.enc x.1),.sl 6 (List.map zcz.enc x.2.1),.sl 6 (List.map zcz.enc x.2.2)]
abbrev zHI:TyD:=TyD.of ((List zaA)×(List zaA)×(List zaA)) zy8 (by
 intro x y h;simp only[zy8,zax,AV.v.injEq,Value.int.injEq,Value.bool.injEq,Value.string.injEq,AV.sl.injEq,AV.mp.injEq,true_and,and_true,TyD.minj zcz]at h
 exact(zde (h.1) (zde (h.2.1) (h.2.2))))
def zvN:(zbp×zbp)->List AV:=λx=>[I x.1.Days,I x.1.Fails,I x.1.Tolerance,I x.2.Days,I x.2.Fails,I x.2.Tolerance]
abbrev zEL:TyD:=TyD.of (zbp×zbp) zvN (by
 intro x y h;simp only[zvN,zax,AV.v.injEq,Value.int.injEq,Value.bool.injEq,Value.string.injEq,AV.sl.injEq,AV.mp.injEq,true_and,and_true]at h
 exact(zde (zbp.eqOf (h.1) (h.2.1) (h.2.2.1)) (zbp.eqOf (h.2.2.2.1) (h.2.2.2.2.1) (h.2.2.2.2.2))))
structure zaj where
 L:List Int
 At:Int
theorem zaj.eqOf{x y:zaj}(h0:x.L=y.L)(h1:x.At=y.At):x=y:=by cases x;cases y;simp only at *;simp only[h0,h1]
def zaG:zaj->List AV:=λx=>[.sl 1 (List.map zbi.enc x.L),I x.At]
abbrev zbr:TyD:=TyD.of zaj zaG (by
 intro x y h;simp only[zaG,zax,AV.v.injEq,Value.int.injEq,Value.bool.injEq,Value.string.injEq,AV.sl.injEq,AV.mp.injEq,true_and,and_true,TyD.minj zbi]at h
 exact(zaj.eqOf (h.1) (h.2)))
def zb8:(Int×Int)->List AV:=λx=>[I x.1,I x.2]
abbrev ziL:TyD:=TyD.of (Int×Int) zb8 (by
 intro x y h;have h1:=(zbq h).1;have h2:=(zbq (zbq h).2).1
 exact zde (by simpa using h1) (by simpa using h2))
def zxr:(List (Int×Int))->List AV:=λx=>[.mp (List.map ziL.enc x)]
abbrev zxb:TyD:=TyD.of (List (Int×Int)) zxr (by
 intro x y h;simp only[zxr,zax,AV.v.injEq,Value.int.injEq,Value.bool.injEq,Value.string.injEq,AV.sl.injEq,AV.mp.injEq,true_and,and_true,TyD.minj ziL]at h
 exact(h))
def zg3:(Int×za9)->List AV:=λx=>[I x.1,.agg (zfz.enc x.2)]
abbrev ztQ:TyD:=TyD.of (Int×za9) zg3 (by
 intro x y h;have h1:=(zbq h).1;have h2:=(zbq (zbq h).2).1
 exact zde (by simpa using h1) (zfz.inj (AV.agg.inj h2)))
def ztU:(List (Int×za9))->List AV:=λx=>[.mp (List.map ztQ.enc x)]
abbrev zBT:TyD:=TyD.of (List (Int×za9)) ztU (by
 intro x y h;simp only[ztU,zax,AV.v.injEq,Value.int.injEq,Value.bool.injEq,Value.string.injEq,AV.sl.injEq,AV.mp.injEq,true_and,and_true,TyD.minj ztQ]at h
 exact(h))
def nL_Bool:(List Bool)->List AV:=λx=>[.sl 1 (List.map dBool.enc x)]
abbrev dL_Bool:TyD:=TyD.of (List Bool) nL_Bool (by
 intro x y h;simp only[nL_Bool,zax,AV.v.injEq,Value.int.injEq,Value.bool.injEq,Value.string.injEq,AV.sl.injEq,AV.mp.injEq,true_and,and_true,TyD.minj dBool]at h
 exact(h))
def zbT:(Int×Int)->List AV:=λx=>[I x.1,I x.2]
abbrev zgd:TyD:=TyD.of (Int×Int) zbT (by
 intro x y h;simp only[zbT,zax,AV.v.injEq,Value.int.injEq,Value.bool.injEq,Value.string.injEq,AV.sl.injEq,AV.mp.injEq,true_and,and_true]at h
 exact(zde (h.1) (h.2)))
def zbF:((Int×Int)×zaA)->List AV:=λx=>[.agg (zgd.enc x.1),.agg (zcz.enc x.2)]
abbrev zrX:TyD:=TyD.of ((Int×Int)×zaA) zbF (by
 intro x y h;have h1:=(zbq h).1;have h2:=(zbq (zbq h).2).1
 exact zde (zgd.inj (AV.agg.inj h1)) (zcz.inj (AV.agg.inj h2)))
def zr0:(List ((Int×Int)×zaA))->List AV:=λx=>[.mp (List.map zrX.enc x)]
abbrev zzv:TyD:=TyD.of (List ((Int×Int)×zaA)) zr0 (by
 intro x y h;simp only[zr0,zax,AV.v.injEq,Value.int.injEq,Value.bool.injEq,Value.string.injEq,AV.sl.injEq,AV.mp.injEq,true_and,and_true,TyD.minj zrX]at h
 exact(h))
def zbD:((Int×Int)×Bool)->List AV:=λx=>[.agg (zgd.enc x.1),B x.2]
abbrev ziK:TyD:=TyD.of ((Int×Int)×Bool) zbD (by
 intro x y h;have h1:=(zbq h).1;have h2:=(zbq (zbq h).2).1
 exact zde (zgd.inj (AV.agg.inj h1)) (by simpa using h2))
def zu9:(List ((Int×Int)×Bool))->List AV:=λx=>[.mp (List.map ziK.enc x)]
abbrev zDk:TyD:=TyD.of (List ((Int×Int)×Bool)) zu9 (by
 intro x y h;simp only[zu9,zax,AV.v.injEq,Value.int.injEq,Value.bool.injEq,Value.string.injEq,AV.sl.injEq,AV.mp.injEq,true_and,and_true,TyD.minj ziK]at h
 exact(h))
structure zaP where
 script:Int
 part:Int
theorem zaP.eqOf{x y:zaP}(h0:x.script=y.script)(h1:x.part=y.part):x=y:=by cases x;cases y;simp only at *;simp only[h0,h1]
def zcu:zaP->List AV:=λx=>[I x.script,I x.part]
abbrev zfK:TyD:=TyD.of zaP zcu (by
 intro x y h;simp only[zcu,zax,AV.v.injEq,Value.int.injEq,Value.bool.injEq,Value.string.injEq,AV.sl.injEq,AV.mp.injEq,true_and,and_true]at h
 exact(zaP.eqOf (h.1) (h.2)))
def zaL:(zaP×za6)->List AV:=λx=>[.agg (zfK.enc x.1),.agg (zqz.enc x.2)]
abbrev zfF:TyD:=TyD.of (zaP×za6) zaL (by
 intro x y h;have h1:=(zbq h).1;have h2:=(zbq (zbq h).2).1
 exact zde (zfK.inj (AV.agg.inj h1)) (zqz.inj (AV.agg.inj h2)))
def zoA:(List (zaP×za6))->List AV:=λx=>[.mp (List.map zfF.enc x)]
abbrev zuQ:TyD:=TyD.of (List (zaP×za6)) zoA (by
 intro x y h;simp only[zoA,zax,AV.v.injEq,Value.int.injEq,Value.bool.injEq,Value.string.injEq,AV.sl.injEq,AV.mp.injEq,true_and,and_true,TyD.minj zfF]at h
 exact(h))
structure zb5 where
 event:zac
 void:Bool
theorem zb5.eqOf{x y:zb5}(h0:x.event=y.event)(h1:x.void=y.void):x=y:=by cases x;cases y;simp only at *;simp only[h0,h1]
def zaH:zb5->List AV:=λx=>[I x.event.Stamp.Time,I x.event.Stamp.Source,I x.event.Stamp.Seq,I x.event.Kind,I x.event.Script,I x.event.Part,I x.event.Value,I x.event.Marker,.sl 1 (List.map zbi.enc x.event.Pages),B x.void]
abbrev zff:TyD:=TyD.of zb5 zaH (by
 intro x y h;simp only[zaH,zax,AV.v.injEq,Value.int.injEq,Value.bool.injEq,Value.string.injEq,AV.sl.injEq,AV.mp.injEq,true_and,and_true,TyD.minj zbi]at h
 exact(zb5.eqOf (zac.eqOf (za6.eqOf (h.1) (h.2.1) (h.2.2.1)) (h.2.2.2.1) (h.2.2.2.2.1) (h.2.2.2.2.2.1) (h.2.2.2.2.2.2.1) (h.2.2.2.2.2.2.2.1) (h.2.2.2.2.2.2.2.2.1)) (h.2.2.2.2.2.2.2.2.2)))
def zvO:(List zb5)->List AV:=λx=>[.sl 10 (List.map zff.enc x)]
abbrev zEN:TyD:=TyD.of (List zb5) zvO (by
 intro x y h;simp only[zvO,zax,AV.v.injEq,Value.int.injEq,Value.bool.injEq,Value.string.injEq,AV.sl.injEq,AV.mp.injEq,true_and,and_true,TyD.minj zff]at h
 exact(h))
def zaW:(zaP×Int)->List AV:=λx=>[.agg (zfK.enc x.1),I x.2]
abbrev zfV:TyD:=TyD.of (zaP×Int) zaW (by
 intro x y h;have h1:=(zbq h).1;have h2:=(zbq (zbq h).2).1
 exact zde (zfK.inj (AV.agg.inj h1)) (by simpa using h2))
def zpg:(List (zaP×Int))->List AV:=λx=>[.mp (List.map zfV.enc x)]
abbrev zvp:TyD:=TyD.of (List (zaP×Int)) zpg (by
 intro x y h;simp only[zpg,zax,AV.v.injEq,Value.int.injEq,Value.bool.injEq,Value.string.injEq,AV.sl.injEq,AV.mp.injEq,true_and,and_true,TyD.minj zfV]at h
 exact(h))
structure zbZ where
 Last:List Bool
 Suspended:Bool
theorem zbZ.eqOf{x y:zbZ}(h0:x.Last=y.Last)(h1:x.Suspended=y.Suspended):x=y:=by cases x;cases y;simp only at *;simp only[h0,h1]
def zdw:zbZ->List AV:=λx=>[.sl 1 (List.map dBool.enc x.Last),B x.Suspended]
abbrev zxa:TyD:=TyD.of zbZ zdw (by
 intro x y h;simp only[zdw,zax,AV.v.injEq,Value.int.injEq,Value.bool.injEq,Value.string.injEq,AV.sl.injEq,AV.mp.injEq,true_and,and_true,TyD.minj dBool]at h
 exact(zbZ.eqOf (h.1) (h.2)))
structure zay where
 level:Int
 marks:List zb5
 period:Int
 started:za6
 noted:List (zaP×Int)
 watch:zbZ
 good:za6
 some:Bool
 suspensions:List zbS
theorem zay.eqOf{x y:zay}(h0:x.level=y.level)(h1:x.marks=y.marks)(h2:x.period=y.period)(h3:x.started=y.started)(h4:x.noted=y.noted)(h5:x.watch=y.watch)(h6:x.good=y.good)(h7:x.some=y.some)(h8:x.suspensions=y.suspensions):x=y:=by cases x;cases y;simp only at *;simp only[h0,h1,h2,h3,h4,h5,h6,h7,h8]
def zf6:zay->List AV:=λx=>[I x.level,.sl 10 (List.map zff.enc x.marks),I x.period,I x.started.Time,I x.started.Source,I x.started.Seq,.mp (List.map zfV.enc x.noted),.sl 1 (List.map dBool.enc x.watch.Last),B x.watch.Suspended,I x.good.Time,I x.good.Source,I x.good.Seq,B x.some,.sl 12 (List.map zdJ.enc x.suspensions)]
abbrev zkF:TyD:=TyD.of zay zf6 (by
 intro x y h;simp only[zf6,zax,AV.v.injEq,Value.int.injEq,Value.bool.injEq,Value.string.injEq,AV.sl.injEq,AV.mp.injEq,true_and,and_true,TyD.minj dBool,TyD.minj zfV,TyD.minj zdJ,TyD.minj zff]at h
 exact(zay.eqOf (h.1) (h.2.1) (h.2.2.1) (za6.eqOf (h.2.2.2.1) (h.2.2.2.2.1) (h.2.2.2.2.2.1)) (h.2.2.2.2.2.2.1) (zbZ.eqOf (h.2.2.2.2.2.2.2.1) (h.2.2.2.2.2.2.2.2.1)) (za6.eqOf (h.2.2.2.2.2.2.2.2.2.1) (h.2.2.2.2.2.2.2.2.2.2.1) (h.2.2.2.2.2.2.2.2.2.2.2.1)) (h.2.2.2.2.2.2.2.2.2.2.2.2.1) (h.2.2.2.2.2.2.2.2.2.2.2.2.2)))
def zdK:(zaP×zac)->List AV:=λx=>[.agg (zfK.enc x.1),.agg (zaZ.enc x.2)]
abbrev zeM:TyD:=TyD.of (zaP×zac) zdK (by
 intro x y h;have h1:=(zbq h).1;have h2:=(zbq (zbq h).2).1
 exact zde (zfK.inj (AV.agg.inj h1)) (zaZ.inj (AV.agg.inj h2)))
def zma:(List (zaP×zac))->List AV:=λx=>[.mp (List.map zeM.enc x)]
abbrev zsa:TyD:=TyD.of (List (zaP×zac)) zma (by
 intro x y h;simp only[zma,zax,AV.v.injEq,Value.int.injEq,Value.bool.injEq,Value.string.injEq,AV.sl.injEq,AV.mp.injEq,true_and,and_true,TyD.minj zeM]at h
 exact(h))
def zgj:((Int×Int)×Int)->List AV:=λx=>[.agg (zgd.enc x.1),I x.2]
abbrev zik:TyD:=TyD.of ((Int×Int)×Int) zgj (by
 intro x y h;have h1:=(zbq h).1;have h2:=(zbq (zbq h).2).1
 exact zde (zgd.inj (AV.agg.inj h1)) (by simpa using h2))
def ztT:(List ((Int×Int)×Int))->List AV:=λx=>[.mp (List.map zik.enc x)]
abbrev zBS:TyD:=TyD.of (List ((Int×Int)×Int)) ztT (by
 intro x y h;simp only[ztT,zax,AV.v.injEq,Value.int.injEq,Value.bool.injEq,Value.string.injEq,AV.sl.injEq,AV.mp.injEq,true_and,and_true,TyD.minj zik]at h
 exact(h))
structure zbO where
 first:Int
 disputed:Bool
theorem zbO.eqOf{x y:zbO}(h0:x.first=y.first)(h1:x.disputed=y.disputed):x=y:=by cases x;cases y;simp only at *;simp only[h0,h1]
def zcK:zbO->List AV:=λx=>[I x.first,B x.disputed]
abbrev zgM:TyD:=TyD.of zbO zcK (by
 intro x y h;simp only[zcK,zax,AV.v.injEq,Value.int.injEq,Value.bool.injEq,Value.string.injEq,AV.sl.injEq,AV.mp.injEq,true_and,and_true]at h
 exact(zbO.eqOf (h.1) (h.2)))
def zcE:((Int×Int)×zbO)->List AV:=λx=>[.agg (zgd.enc x.1),.agg (zgM.enc x.2)]
abbrev zdn:TyD:=TyD.of ((Int×Int)×zbO) zcE (by
 intro x y h;have h1:=(zbq h).1;have h2:=(zbq (zbq h).2).1
 exact zde (zgd.inj (AV.agg.inj h1)) (zgM.inj (AV.agg.inj h2)))
def zn0:(List ((Int×Int)×zbO))->List AV:=λx=>[.mp (List.map zdn.enc x)]
abbrev zt5:TyD:=TyD.of (List ((Int×Int)×zbO)) zn0 (by
 intro x y h;simp only[zn0,zax,AV.v.injEq,Value.int.injEq,Value.bool.injEq,Value.string.injEq,AV.sl.injEq,AV.mp.injEq,true_and,and_true,TyD.minj zdn]at h
 exact(h))
structure zc8 where
 State:Int
 Value:Int
theorem zc8.eqOf{x y:zc8}(h0:x.State=y.State)(h1:x.Value=y.Value):x=y:=by cases x;cases y;simp only at *;simp only[h0,h1]
def zdj:zc8->List AV:=λx=>[I x.State,I x.Value]
abbrev zeF:TyD:=TyD.of zc8 zdj (by
 intro x y h;simp only[zdj,zax,AV.v.injEq,Value.int.injEq,Value.bool.injEq,Value.string.injEq,AV.sl.injEq,AV.mp.injEq,true_and,and_true]at h
 exact(zc8.eqOf (h.1) (h.2)))
def zCz:(List zc8)->List AV:=λx=>[.sl 2 (List.map zeF.enc x)]
abbrev zJT:TyD:=TyD.of (List zc8) zCz (by
 intro x y h;simp only[zCz,zax,AV.v.injEq,Value.int.injEq,Value.bool.injEq,Value.string.injEq,AV.sl.injEq,AV.mp.injEq,true_and,and_true,TyD.minj zeF]at h
 exact(h))
def zvP:(List (List zac))->List AV:=λx=>[.sl 1 (List.map zjD.enc x)]
abbrev zEO:TyD:=TyD.of (List (List zac)) zvP (by
 intro x y h;simp only[zvP,zax,AV.v.injEq,Value.int.injEq,Value.bool.injEq,Value.string.injEq,AV.sl.injEq,AV.mp.injEq,true_and,and_true,TyD.minj zjD]at h
 exact(h))
structure zbY where
 part:Int
 value:Int
theorem zbY.eqOf{x y:zbY}(h0:x.part=y.part)(h1:x.value=y.value):x=y:=by cases x;cases y;simp only at *;simp only[h0,h1]
def zb9:zbY->List AV:=λx=>[I x.part,I x.value]
abbrev zhf:TyD:=TyD.of zbY zb9 (by
 intro x y h;simp only[zb9,zax,AV.v.injEq,Value.int.injEq,Value.bool.injEq,Value.string.injEq,AV.sl.injEq,AV.mp.injEq,true_and,and_true]at h
 exact(zbY.eqOf (h.1) (h.2)))
def zxq:(List zbY)->List AV:=λx=>[.sl 2 (List.map zhf.enc x)]
abbrev ziM:TyD:=TyD.of (List zbY) zxq (by
 intro x y h;simp only[zxq,zax,AV.v.injEq,Value.int.injEq,Value.bool.injEq,Value.string.injEq,AV.sl.injEq,AV.mp.injEq,true_and,and_true,TyD.minj zhf]at h
 exact(h))
def zcy:(Int×(List zbY))->List AV:=λx=>[I x.1,.sl 2 (List.map zhf.enc x.2)]
abbrev zpC:TyD:=TyD.of (Int×(List zbY)) zcy (by
 intro x y h;have h1:=(zbq h).1;have h2:=(zbq (zbq h).2).1
 exact zde (by simpa using h1) (by simpa only[AV.sl.injEq,true_and,TyD.minj zhf]using h2))
def zpG:(List (Int×(List zbY)))->List AV:=λx=>[.mp (List.map zpC.enc x)]
abbrev zwm:TyD:=TyD.of (List (Int×(List zbY))) zpG (by
 intro x y h;simp only[zpG,zax,AV.v.injEq,Value.int.injEq,Value.bool.injEq,Value.string.injEq,AV.sl.injEq,AV.mp.injEq,true_and,and_true,TyD.minj zpC]at h
 exact(h))
@[simp] theorem zjE{β:Type}(l:List zaA)(i:Nat)(k:zaA->Option β):elemD zcz (List.map zaw l) i k=(l[i]?).bind k:=zfh zcz l i k
@[simp] theorem zf5{β:Type}(l:List za5)(i:Nat)(k:za5->Option β):elemD zdX (List.map zaC l) i k=(l[i]?).bind k:=zfh zdX l i k
@[simp] theorem zcs{β:Type}(l:List zac)(i:Nat)(k:zac->Option β):elemD zaZ (List.map zab l) i k=(l[i]?).bind k:=zfh zaZ l i k
@[simp] theorem zfB{β:Type}(l:List za3)(i:Nat)(k:za3->Option β):elemD zdU (List.map zbb l) i k=(l[i]?).bind k:=zfh zdU l i k
@[simp] theorem zfH{β:Type}(l:List zaM)(i:Nat)(k:zaM->Option β):elemD zcV (List.map zaQ l) i k=(l[i]?).bind k:=zfh zcV l i k
@[simp] theorem zej{β:Type}(l:List GPart)(i:Nat)(k:GPart->Option β):elemD zd9 (List.map za0 l) i k=(l[i]?).bind k:=zfh zd9 l i k
@[simp] theorem zpW{β:Type}(l:List zbu)(i:Nat)(k:zbu->Option β):elemD zeU (List.map zbL l) i k=(l[i]?).bind k:=zfh zeU l i k
@[simp] theorem zhs{β:Type}(l:List zaT)(i:Nat)(k:zaT->Option β):elemD zc0 (List.map za1 l) i k=(l[i]?).bind k:=zfh zc0 l i k
@[simp] theorem zls{β:Type}(l:List GSeed)(i:Nat)(k:GSeed->Option β):elemD zfO (List.map zcA l) i k=(l[i]?).bind k:=zfh zfO l i k
@[simp] theorem zpk{β:Type}(l:List zbS)(i:Nat)(k:zbS->Option β):elemD zdJ (List.map zat l) i k=(l[i]?).bind k:=zfh zdJ l i k
@[simp] theorem zoU{β:Type}(l:List zc8)(i:Nat)(k:zc8->Option β):elemD zeF (List.map zdj l) i k=(l[i]?).bind k:=zfh zeF l i k
@[simp] theorem zoi{β:Type}(l:List zb5)(i:Nat)(k:zb5->Option β):elemD zff (List.map zaH l) i k=(l[i]?).bind k:=zfh zff l i k
@[simp] theorem zpl{β:Type}(l:List zbY)(i:Nat)(k:zbY->Option β):elemD zhf (List.map zb9 l) i k=(l[i]?).bind k:=zfh zhf l i k
@[simp] theorem zkP{β:Type}(l:List (List zac))(i:Nat)(k:(List zac)->Option β):elemD zjD (List.map zex l) i k=(l[i]?).bind k:=zfh zjD l i k
@[simp] theorem zHY{β:Type}(l:List (List Int))(i:Nat)(k:(List Int)->Option β):elemD zgC (List.map zc9 l) i k=(l[i]?).bind k:=zfh zgC l i k
def tyTab:List TyD:=[dRaw,dRaw,zbi,zbi,dBool,dI_u8,dI_u8,dRaw,dRaw,dStr,dStr,dStr,dI_u64,dRaw,dRaw,dRaw,dRaw,dRaw,dRaw,dRaw,dRaw,dI_i32,zgC,dRaw,dRaw,dRaw,dRaw,dL_GMarker,dL_GScript,dL_GPaper,dL_GScheme,dL_GSeed,dRaw,zne,dRaw,zqy,dRaw,zjD,dRaw,dL_GAppeal,dRaw,dRaw,zog,dRaw,dRaw,zq3,dRaw,zbi,dRaw,dRaw,dRaw,dL_GGiven,zF9,dRaw,zfz,dRaw,dRaw,dRaw,dRaw,dRaw,zqz,dRaw,zcz,dRaw,dRaw,zdU,dRaw,dRaw,zHJ,dRaw,zdX,dRaw,dRaw,dRaw,dRaw,dRaw,dRaw,zHI,dRaw,dRaw,dRaw,zEL,dRaw,dRaw,dRaw,zaZ,dRaw,dRaw,dRaw,zc0,dRaw,dRaw,zbr,dRaw,dRaw,dRaw,dRaw,dRaw,dRaw,dRaw,zfO,dRaw,dL_GPart,dRaw,zcV,dRaw,dRaw,zd9,dRaw,dRaw,dRaw,dRaw,dRaw,zxb,zxb,dRaw,dRaw,dRaw,zBT,dRaw,dRaw,dRaw,dRaw,dRaw,dRaw,dRaw,dRaw,dRaw,dRaw,dL_Bool,dRaw,dRaw,dRaw,dRaw,dRaw,zzv,zDk,zgd,dRaw,dRaw,dRaw,dRaw,dRaw,dRaw,dRaw,dRaw,dRaw,zdJ,dRaw,dRaw,dRaw,dRaw,dRaw,dRaw,dRaw,dRaw,dRaw,dL_L_I_i64,dRaw,zeU,dRaw,dRaw,dRaw,dRaw,dRaw,dRaw,dRaw,dRaw,zuQ,dRaw,dRaw,dRaw,zEN,zvp,dRaw,zxa,dRaw,zkF,zsa,dRaw,dRaw,zfK,dRaw,dRaw,dRaw,dRaw,dRaw,dRaw,dRaw,dRaw,dRaw,dRaw,zBS,dRaw,dRaw,dRaw,dRaw,dRaw,dRaw,dRaw,dRaw,dRaw,dRaw,dRaw,dI_u64,dRaw,zt5,dRaw,dRaw,zgM,dRaw,dRaw,zJT,dRaw,dRaw,dRaw,zeF,dRaw,dRaw,dRaw,dRaw,dRaw,dRaw,dRaw,dRaw,dRaw,dRaw,dRaw,dRaw,zff,dRaw,dRaw,zEO,dRaw,dRaw,dRaw,dRaw,dRaw,dRaw,zwm,ziM,dRaw,zhf,dRaw,dRaw,dRaw,dRaw,dRaw,dRaw,zbi,dRaw,dRaw,dRaw,dRaw,dRaw,dRaw,dI_u32,dRaw,dI_u64,dRaw,dRaw,dRaw,dRaw,dRaw,dRaw,dRaw,dRaw,dRaw,dRaw,dRaw,dRaw,dRaw,dRaw,dRaw,dRaw,dRaw,dRaw,dRaw,dRaw,dRaw,dRaw,dRaw,dRaw,dRaw,dRaw,dRaw,dRaw,dRaw,dRaw,dRaw,dRaw,dRaw,dI_u64,dRaw,dRaw,dRaw,dRaw,dRaw,dRaw,dRaw,dRaw,dRaw,dRaw,dRaw,dRaw,dRaw,dRaw,dRaw,dRaw,dRaw,dRaw,dRaw,dRaw,dRaw,dRaw,dRaw,dRaw,dRaw,dRaw,dRaw,dRaw,dRaw,dRaw,dRaw,dRaw,dRaw,dRaw,dRaw,dRaw,dRaw,dRaw,dRaw,dRaw,dRaw,dRaw,dRaw,dRaw,dI_u8,dI_u8,dRaw,dRaw,dI_i32,dI_i32,dRaw,dRaw,dRaw]
abbrev mA:=List.map zab
abbrev mE:=List.map zaw
abbrev mB:=List.map za0
abbrev mC:=List.map zat
abbrev mF:=List.map zaC
abbrev mG:=List.map zaH
abbrev mH:=List.map zbb
abbrev mI:=List.map za1
abbrev mJ:=List.map zaQ
abbrev mR:=List.map zb8
abbrev mK:=List.map zaL
abbrev mO:=List.map zbX
abbrev mL:=List.map zaW
abbrev mM:=List.map zcA
abbrev mN:=List.map zbD
abbrev mP:=List.map zb9
abbrev mQ:=List.map zbF
abbrev mT:=List.map zc9
abbrev mU:=List.map zbL
abbrev mV:=List.map zcy
abbrev mW:=List.map zex
abbrev mX:=List.map zdj
abbrev mY:=List.map zcE
abbrev mZ:=List.map zgj
abbrev sA:=List.map zdK
abbrev sB:=List.map zg3
abbrev sC:=λx=>AV.sl 9 (mA x)
abbrev sD:=λx=>AV.sl 6 (mE x)
abbrev sE:=λx=>AV.sl 5 (mH x)
abbrev sF:=λx=>AV.mp (mK x)
abbrev sG:=λx=>AV.sl 3 (mJ x)
abbrev sH:=λx=>AV.sl 7 (mI x)
abbrev sI:=λx=>AV.sl 12 (mC x)
abbrev sJ:=λx=>AV.sl 10 (mG x)
abbrev sK:=λx=>AV.mp (mL x)
abbrev sN:=λx=>AV.sl 2 (mM x)
abbrev sM:=λx=>AV.sl 8 (mF x)
abbrev sL:=λx=>AV.sl 6 (mB x)
abbrev sO:=λx=>AV.sl 2 (mP x)
abbrev sP:=λx=>AV.sl 2 (mU x)
abbrev sQ:=λx=>AV.sl 1 (mW x)
abbrev sR:=λx=>AV.sl 1 (mT x)
abbrev sS:=λx=>AV.agg (zas x)
abbrev sT:=λx=>AV.agg (zaQ x)
abbrev sU:=λx=>AV.agg (zab x)
abbrev sW:=λx=>AV.agg (zbI x)
abbrev sV:=λx=>AV.agg (zb6 x)
abbrev sX:=λx=>AV.agg (za1 x)
abbrev sY:=λx=>AV.agg (zbL x)
abbrev sZ:=λx=>AV.agg (zbQ x)
abbrev pA:=λx=>AV.agg (zcp x)
abbrev pB:=λx=>AV.agg (zaC x)
abbrev pD:=λx=>AV.agg (zck x)
abbrev pC:=λx=>AV.agg (zaw x)
abbrev pE:=λx=>AV.agg (za0 x)
abbrev pF:=λx=>AV.agg (zdw x)
abbrev pG:=λx=>AV.agg (zbb x)
abbrev pH:=λx=>AV.agg (zcK x)
abbrev gQ:=λa b=>AV.loc a b 0 0
abbrev gR:=λa b (x:List (List AV))=>AV.row a b 0 (List.length x)
abbrev gS:=λb:Bool=>B b
abbrev gT:=λl:List (List AV)=>List.replicate (↑l.length:Int).toNat (B false::List.map AV.v [])
abbrev gU:=λl:List (List AV)=>List.replicate (↑l.length:Int).toNat (I 0::List.map AV.v [])
abbrev gV:=λl:List (List AV)=>List.replicate (↑l.length:Int).toNat (I 0::I 0::List.map AV.v [])
abbrev gW:=λl:List (List AV)=>List.replicate (↑l.length:Int).toNat (AV.sl 1 []::List.map AV.v [])
abbrev gX:Option (AV×Mem):=some (B false,[])
abbrev gY:Option (AV×Mem):=some (I 2,[])
abbrev gZ:Option (AV×Mem):=some (B true,[])
abbrev bC:Option (AV×Mem):=some (I 1,[])
abbrev bF:Option (AV×Mem):=some (I 0,[])
abbrev bG:Option (AV×Mem):=some (I 43,[])
abbrev bH:=AV.v (.slice none 0 0)
theorem bJ{α:Type}{a b:α}(h:a=b:=by kernel_rfl):some a=some b:=congrArg some h
end Go.Proofs.YtlecnobdfhlmnaaGreat
end
