/- The types of the seat as data. -/
import Derived.Test.YtdclabgakicjeaaGreatDoorAb2
set_option linter.unusedSimpArgs false
set_option linter.unusedVariables false
noncomputable section
namespace Go.Proofs.YtdclabgakicjeaaGreatDoor
open Go.Ab
def zaJ:(List Int)→List AV:=fun x=>[.sl 1 (List.map zaI.enc x)]
abbrev zc7:TyD:=TyD.of (List Int) zaJ (by
 intro x y h; simp only [zaJ,List.cons.injEq,AV.v.injEq,Value.int.injEq,Value.bool.injEq,Value.string.injEq,Value.pointer.injEq,AV.sl.injEq,AV.mp.injEq,true_and,and_true,TyD.minj zaI] at h
 exact (h))
structure ze2 where
 Candidate:Int
 Centre:Int
 Paper:Int
theorem ze2.eqOf {x y:ze2} (h0:x.Candidate=y.Candidate) (h1:x.Centre=y.Centre) (h2:x.Paper=y.Paper):x=y:=by cases x; cases y; simp only at *; simp only [h0,h1,h2]
def nGEntry:ze2→List AV:=fun x=>[I x.Candidate,I x.Centre,I x.Paper]
abbrev dGEntry:TyD:=TyD.of ze2 nGEntry (by
 intro x y h; simp only [nGEntry,List.cons.injEq,AV.v.injEq,Value.int.injEq,Value.bool.injEq,Value.string.injEq,Value.pointer.injEq,AV.sl.injEq,AV.mp.injEq,true_and,and_true] at h
 exact (ze2.eqOf (h.1) (h.2.1) (h.2.2)))
structure zav where
 Number:Int
 Paper:Int
 Candidate:Int
 Centre:Int
 Variant:Int
 Pages:List Int
 Answers:List Int
theorem zav.eqOf {x y:zav} (h0:x.Number=y.Number) (h1:x.Paper=y.Paper) (h2:x.Candidate=y.Candidate) (h3:x.Centre=y.Centre) (h4:x.Variant=y.Variant) (h5:x.Pages=y.Pages) (h6:x.Answers=y.Answers):x=y:=by cases x; cases y; simp only at *; simp only [h0,h1,h2,h3,h4,h5,h6]
def zat:zav→List AV:=fun x=>[I x.Number,I x.Paper,I x.Candidate,I x.Centre,I x.Variant,.sl 1 (List.map zaI.enc x.Pages),.sl 1 (List.map zaI.enc x.Answers)]
abbrev zbt:TyD:=TyD.of zav zat (by
 intro x y h; simp only [zat,List.cons.injEq,AV.v.injEq,Value.int.injEq,Value.bool.injEq,Value.string.injEq,Value.pointer.injEq,AV.sl.injEq,AV.mp.injEq,true_and,and_true,TyD.minj zaI] at h
 exact (zav.eqOf (h.1) (h.2.1) (h.2.2.1) (h.2.2.2.1) (h.2.2.2.2.1) (h.2.2.2.2.2.1) (h.2.2.2.2.2.2)))
structure zc1 where
 Time:Int
 Source:Int
 Seq:Int
theorem zc1.eqOf {x y:zc1} (h0:x.Time=y.Time) (h1:x.Source=y.Source) (h2:x.Seq=y.Seq):x=y:=by cases x; cases y; simp only at *; simp only [h0,h1,h2]
def nGStamp:zc1→List AV:=fun x=>[I x.Time,I x.Source,I x.Seq]
abbrev dGStamp:TyD:=TyD.of zc1 nGStamp (by
 intro x y h; simp only [nGStamp,List.cons.injEq,AV.v.injEq,Value.int.injEq,Value.bool.injEq,Value.string.injEq,Value.pointer.injEq,AV.sl.injEq,AV.mp.injEq,true_and,and_true] at h
 exact (zc1.eqOf (h.1) (h.2.1) (h.2.2)))
structure zaH where
 Stamp:zc1
 Kind:Int
 Script:Int
 Part:Int
 Value:Int
 Marker:Int
 Pages:List Int
theorem zaH.eqOf {x y:zaH} (h0:x.Stamp=y.Stamp) (h1:x.Kind=y.Kind) (h2:x.Script=y.Script) (h3:x.Part=y.Part) (h4:x.Value=y.Value) (h5:x.Marker=y.Marker) (h6:x.Pages=y.Pages):x=y:=by cases x; cases y; simp only at *; simp only [h0,h1,h2,h3,h4,h5,h6]
def za3:zaH→List AV:=fun x=>[I x.Stamp.Time,I x.Stamp.Source,I x.Stamp.Seq,I x.Kind,I x.Script,I x.Part,I x.Value,I x.Marker,.sl 1 (List.map zaI.enc x.Pages)]
abbrev zbF:TyD:=TyD.of zaH za3 (by
 intro x y h; simp only [za3,List.cons.injEq,AV.v.injEq,Value.int.injEq,Value.bool.injEq,Value.string.injEq,Value.pointer.injEq,AV.sl.injEq,AV.mp.injEq,true_and,and_true,TyD.minj zaI] at h
 exact (zaH.eqOf (zc1.eqOf (h.1) (h.2.1) (h.2.2.1)) (h.2.2.2.1) (h.2.2.2.2.1) (h.2.2.2.2.2.1) (h.2.2.2.2.2.2.1) (h.2.2.2.2.2.2.2.1) (h.2.2.2.2.2.2.2.2)))
structure zc5 where
 Candidate:Int
 Thousandths:Int
theorem zc5.eqOf {x y:zc5} (h0:x.Candidate=y.Candidate) (h1:x.Thousandths=y.Thousandths):x=y:=by cases x; cases y; simp only at *; simp only [h0,h1]
def znL:zc5→List AV:=fun x=>[I x.Candidate,I x.Thousandths]
abbrev dGSpecial:TyD:=TyD.of zc5 znL (by
 intro x y h; simp only [znL,List.cons.injEq,AV.v.injEq,Value.int.injEq,Value.bool.injEq,Value.string.injEq,Value.pointer.injEq,AV.sl.injEq,AV.mp.injEq,true_and,and_true] at h
 exact (zc5.eqOf (h.1) (h.2)))
structure zdM where
 Stamp:zc1
 Kind:Int
 Candidate:Int
 Marker:Int
theorem zdM.eqOf {x y:zdM} (h0:x.Stamp=y.Stamp) (h1:x.Kind=y.Kind) (h2:x.Candidate=y.Candidate) (h3:x.Marker=y.Marker):x=y:=by cases x; cases y; simp only at *; simp only [h0,h1,h2,h3]
def ziB:zdM→List AV:=fun x=>[I x.Stamp.Time,I x.Stamp.Source,I x.Stamp.Seq,I x.Kind,I x.Candidate,I x.Marker]
abbrev dGAppeal:TyD:=TyD.of zdM ziB (by
 intro x y h; simp only [ziB,List.cons.injEq,AV.v.injEq,Value.int.injEq,Value.bool.injEq,Value.string.injEq,Value.pointer.injEq,AV.sl.injEq,AV.mp.injEq,true_and,and_true] at h
 exact (zdM.eqOf (zc1.eqOf (h.1) (h.2.1) (h.2.2.1)) (h.2.2.2.1) (h.2.2.2.2.1) (h.2.2.2.2.2)))
structure GOp where
 Kind:Int
 Entry:ze2
 Script:zav
 Event:zaH
 Special:zc5
 Appeal:zdM
 Bounds:List Int
 Time:Int
 Number:Int
theorem GOp.eqOf {x y:GOp} (h0:x.Kind=y.Kind) (h1:x.Entry=y.Entry) (h2:x.Script=y.Script) (h3:x.Event=y.Event) (h4:x.Special=y.Special) (h5:x.Appeal=y.Appeal) (h6:x.Bounds=y.Bounds) (h7:x.Time=y.Time) (h8:x.Number=y.Number):x=y:=by cases x; cases y; simp only at *; simp only [h0,h1,h2,h3,h4,h5,h6,h7,h8]
def nGOp:GOp→List AV:=fun x=>[I x.Kind,I x.Entry.Candidate,I x.Entry.Centre,I x.Entry.Paper,I x.Script.Number,I x.Script.Paper,I x.Script.Candidate,I x.Script.Centre,I x.Script.Variant,.sl 1 (List.map zaI.enc x.Script.Pages),.sl 1 (List.map zaI.enc x.Script.Answers),I x.Event.Stamp.Time,I x.Event.Stamp.Source,I x.Event.Stamp.Seq,I x.Event.Kind,I x.Event.Script,I x.Event.Part,I x.Event.Value,I x.Event.Marker,.sl 1 (List.map zaI.enc x.Event.Pages),I x.Special.Candidate,I x.Special.Thousandths,I x.Appeal.Stamp.Time,I x.Appeal.Stamp.Source,I x.Appeal.Stamp.Seq,I x.Appeal.Kind,I x.Appeal.Candidate,I x.Appeal.Marker,.sl 1 (List.map zaI.enc x.Bounds),I x.Time,I x.Number]
abbrev dGOp:TyD:=TyD.of GOp nGOp (by
 intro x y h; simp only [nGOp,List.cons.injEq,AV.v.injEq,Value.int.injEq,Value.bool.injEq,Value.string.injEq,Value.pointer.injEq,AV.sl.injEq,AV.mp.injEq,true_and,and_true,TyD.minj zaI] at h
 exact (GOp.eqOf (h.1) (ze2.eqOf (h.2.1) (h.2.2.1) (h.2.2.2.1)) (zav.eqOf (h.2.2.2.2.1) (h.2.2.2.2.2.1) (h.2.2.2.2.2.2.1) (h.2.2.2.2.2.2.2.1) (h.2.2.2.2.2.2.2.2.1) (h.2.2.2.2.2.2.2.2.2.1) (h.2.2.2.2.2.2.2.2.2.2.1)) (zaH.eqOf (zc1.eqOf (h.2.2.2.2.2.2.2.2.2.2.2.1) (h.2.2.2.2.2.2.2.2.2.2.2.2.1) (h.2.2.2.2.2.2.2.2.2.2.2.2.2.1)) (h.2.2.2.2.2.2.2.2.2.2.2.2.2.2.1) (h.2.2.2.2.2.2.2.2.2.2.2.2.2.2.2.1) (h.2.2.2.2.2.2.2.2.2.2.2.2.2.2.2.2.1) (h.2.2.2.2.2.2.2.2.2.2.2.2.2.2.2.2.2.1) (h.2.2.2.2.2.2.2.2.2.2.2.2.2.2.2.2.2.2.1) (h.2.2.2.2.2.2.2.2.2.2.2.2.2.2.2.2.2.2.2.1)) (zc5.eqOf (h.2.2.2.2.2.2.2.2.2.2.2.2.2.2.2.2.2.2.2.2.1) (h.2.2.2.2.2.2.2.2.2.2.2.2.2.2.2.2.2.2.2.2.2.1)) (zdM.eqOf (zc1.eqOf (h.2.2.2.2.2.2.2.2.2.2.2.2.2.2.2.2.2.2.2.2.2.2.1) (h.2.2.2.2.2.2.2.2.2.2.2.2.2.2.2.2.2.2.2.2.2.2.2.1) (h.2.2.2.2.2.2.2.2.2.2.2.2.2.2.2.2.2.2.2.2.2.2.2.2.1)) (h.2.2.2.2.2.2.2.2.2.2.2.2.2.2.2.2.2.2.2.2.2.2.2.2.2.1) (h.2.2.2.2.2.2.2.2.2.2.2.2.2.2.2.2.2.2.2.2.2.2.2.2.2.2.1) (h.2.2.2.2.2.2.2.2.2.2.2.2.2.2.2.2.2.2.2.2.2.2.2.2.2.2.2.1)) (h.2.2.2.2.2.2.2.2.2.2.2.2.2.2.2.2.2.2.2.2.2.2.2.2.2.2.2.2.1) (h.2.2.2.2.2.2.2.2.2.2.2.2.2.2.2.2.2.2.2.2.2.2.2.2.2.2.2.2.2.1) (h.2.2.2.2.2.2.2.2.2.2.2.2.2.2.2.2.2.2.2.2.2.2.2.2.2.2.2.2.2.2)))
structure zaG where
 Candidate:Int
 Kind:Int
 Grade:Int
 Total:Int
 Reason:Int
theorem zaG.eqOf {x y:zaG} (h0:x.Candidate=y.Candidate) (h1:x.Kind=y.Kind) (h2:x.Grade=y.Grade) (h3:x.Total=y.Total) (h4:x.Reason=y.Reason):x=y:=by cases x; cases y; simp only at *; simp only [h0,h1,h2,h3,h4]
def zaF:zaG→List AV:=fun x=>[I x.Candidate,I x.Kind,I x.Grade,I x.Total,I x.Reason]
abbrev zcV:TyD:=TyD.of zaG zaF (by
 intro x y h; simp only [zaF,List.cons.injEq,AV.v.injEq,Value.int.injEq,Value.bool.injEq,Value.string.injEq,Value.pointer.injEq,AV.sl.injEq,AV.mp.injEq,true_and,and_true] at h
 exact (zaG.eqOf (h.1) (h.2.1) (h.2.2.1) (h.2.2.2.1) (h.2.2.2.2)))
def zpa:(List zaG)→List AV:=fun x=>[.sl 5 (List.map zcV.enc x)]
abbrev ztF:TyD:=TyD.of (List zaG) zpa (by
 intro x y h; simp only [zpa,List.cons.injEq,AV.v.injEq,Value.int.injEq,Value.bool.injEq,Value.string.injEq,Value.pointer.injEq,AV.sl.injEq,AV.mp.injEq,true_and,and_true,TyD.minj zcV] at h
 exact (h))
structure zaS where
 At:Int
 Time:Int
 Outcomes:List zaG
theorem zaS.eqOf {x y:zaS} (h0:x.At=y.At) (h1:x.Time=y.Time) (h2:x.Outcomes=y.Outcomes):x=y:=by cases x; cases y; simp only at *; simp only [h0,h1,h2]
def zaP:zaS→List AV:=fun x=>[I x.At,I x.Time,.sl 5 (List.map zcV.enc x.Outcomes)]
abbrev zcv:TyD:=TyD.of zaS zaP (by
 intro x y h; simp only [zaP,List.cons.injEq,AV.v.injEq,Value.int.injEq,Value.bool.injEq,Value.string.injEq,Value.pointer.injEq,AV.sl.injEq,AV.mp.injEq,true_and,and_true,TyD.minj zcV] at h
 exact (zaS.eqOf (h.1) (h.2.1) (h.2.2)))
def zk3:(List zaS)→List AV:=fun x=>[.sl 3 (List.map zcv.enc x)]
abbrev zqF:TyD:=TyD.of (List zaS) zk3 (by
 intro x y h; simp only [zk3,List.cons.injEq,AV.v.injEq,Value.int.injEq,Value.bool.injEq,Value.string.injEq,Value.pointer.injEq,AV.sl.injEq,AV.mp.injEq,true_and,and_true,TyD.minj zcv] at h
 exact (h))
structure zbI where
 ID:Int
 Candidate:Int
 Grade:Int
 Time:Int
 Replaces:Int
theorem zbI.eqOf {x y:zbI} (h0:x.ID=y.ID) (h1:x.Candidate=y.Candidate) (h2:x.Grade=y.Grade) (h3:x.Time=y.Time) (h4:x.Replaces=y.Replaces):x=y:=by cases x; cases y; simp only at *; simp only [h0,h1,h2,h3,h4]
def zbX:zbI→List AV:=fun x=>[I x.ID,I x.Candidate,I x.Grade,I x.Time,I x.Replaces]
abbrev zsv:TyD:=TyD.of zbI zbX (by
 intro x y h; simp only [zbX,List.cons.injEq,AV.v.injEq,Value.int.injEq,Value.bool.injEq,Value.string.injEq,Value.pointer.injEq,AV.sl.injEq,AV.mp.injEq,true_and,and_true] at h
 exact (zbI.eqOf (h.1) (h.2.1) (h.2.2.1) (h.2.2.2.1) (h.2.2.2.2)))
structure za5 where
 Kind:Int
 Certificate:zbI
theorem za5.eqOf {x y:za5} (h0:x.Kind=y.Kind) (h1:x.Certificate=y.Certificate):x=y:=by cases x; cases y; simp only at *; simp only [h0,h1]
def za0:za5→List AV:=fun x=>[I x.Kind,I x.Certificate.ID,I x.Certificate.Candidate,I x.Certificate.Grade,I x.Certificate.Time,I x.Certificate.Replaces]
abbrev zdf:TyD:=TyD.of za5 za0 (by
 intro x y h; simp only [za0,List.cons.injEq,AV.v.injEq,Value.int.injEq,Value.bool.injEq,Value.string.injEq,Value.pointer.injEq,AV.sl.injEq,AV.mp.injEq,true_and,and_true] at h
 exact (za5.eqOf (h.1) (zbI.eqOf (h.2.1) (h.2.2.1) (h.2.2.2.1) (h.2.2.2.2.1) (h.2.2.2.2.2))))
def znM:(List za5)→List AV:=fun x=>[.sl 6 (List.map zdf.enc x)]
abbrev zs2:TyD:=TyD.of (List za5) znM (by
 intro x y h; simp only [znM,List.cons.injEq,AV.v.injEq,Value.int.injEq,Value.bool.injEq,Value.string.injEq,Value.pointer.injEq,AV.sl.injEq,AV.mp.injEq,true_and,and_true,TyD.minj zdf] at h
 exact (h))
def zmH:(List zaH)→List AV:=fun x=>[.sl 9 (List.map zbF.enc x)]
abbrev zsw:TyD:=TyD.of (List zaH) zmH (by
 intro x y h; simp only [zmH,List.cons.injEq,AV.v.injEq,Value.int.injEq,Value.bool.injEq,Value.string.injEq,Value.pointer.injEq,AV.sl.injEq,AV.mp.injEq,true_and,and_true,TyD.minj zbF] at h
 exact (h))
structure zaL where
 Published:List zaS
 Outcomes:List zaG
 Log:List za5
 Reopened:List zaH
theorem zaL.eqOf {x y:zaL} (h0:x.Published=y.Published) (h1:x.Outcomes=y.Outcomes) (h2:x.Log=y.Log) (h3:x.Reopened=y.Reopened):x=y:=by cases x; cases y; simp only at *; simp only [h0,h1,h2,h3]
def zaC:zaL→List AV:=fun x=>[.sl 3 (List.map zcv.enc x.Published),.sl 5 (List.map zcV.enc x.Outcomes),.sl 6 (List.map zdf.enc x.Log),.sl 9 (List.map zbF.enc x.Reopened)]
abbrev ziu:TyD:=TyD.of zaL zaC (by
 intro x y h; simp only [zaC,List.cons.injEq,AV.v.injEq,Value.int.injEq,Value.bool.injEq,Value.string.injEq,Value.pointer.injEq,AV.sl.injEq,AV.mp.injEq,true_and,and_true,TyD.minj zdf,TyD.minj zbF,TyD.minj zcV,TyD.minj zcv] at h
 exact (zaL.eqOf (h.1) (h.2.1) (h.2.2.1) (h.2.2.2)))
structure za1 where
 ID:Int
 Centre:Int
 Level:Int
 Capacity:Int
 Papers:List Int
theorem za1.eqOf {x y:za1} (h0:x.ID=y.ID) (h1:x.Centre=y.Centre) (h2:x.Level=y.Level) (h3:x.Capacity=y.Capacity) (h4:x.Papers=y.Papers):x=y:=by cases x; cases y; simp only at *; simp only [h0,h1,h2,h3,h4]
def zbc:za1→List AV:=fun x=>[I x.ID,I x.Centre,I x.Level,I x.Capacity,.sl 1 (List.map zaI.enc x.Papers)]
abbrev zb4:TyD:=TyD.of za1 zbc (by
 intro x y h; simp only [zbc,List.cons.injEq,AV.v.injEq,Value.int.injEq,Value.bool.injEq,Value.string.injEq,Value.pointer.injEq,AV.sl.injEq,AV.mp.injEq,true_and,and_true,TyD.minj zaI] at h
 exact (za1.eqOf (h.1) (h.2.1) (h.2.2.1) (h.2.2.2.1) (h.2.2.2.2)))
def zqX:(List za1)→List AV:=fun x=>[.sl 5 (List.map zb4.enc x)]
abbrev dL_GMarker:TyD:=TyD.of (List za1) zqX (by
 intro x y h; simp only [zqX,List.cons.injEq,AV.v.injEq,Value.int.injEq,Value.bool.injEq,Value.string.injEq,Value.pointer.injEq,AV.sl.injEq,AV.mp.injEq,true_and,and_true,TyD.minj zb4] at h
 exact (h))
structure GPart where
 Kind:Int
 Max:Int
 Topic:Int
 Objective:Int
 Options:Int
 Key:Int
theorem GPart.eqOf {x y:GPart} (h0:x.Kind=y.Kind) (h1:x.Max=y.Max) (h2:x.Topic=y.Topic) (h3:x.Objective=y.Objective) (h4:x.Options=y.Options) (h5:x.Key=y.Key):x=y:=by cases x; cases y; simp only at *; simp only [h0,h1,h2,h3,h4,h5]
def za2:GPart→List AV:=fun x=>[I x.Kind,I x.Max,I x.Topic,I x.Objective,I x.Options,I x.Key]
abbrev ze5:TyD:=TyD.of GPart za2 (by
 intro x y h; simp only [za2,List.cons.injEq,AV.v.injEq,Value.int.injEq,Value.bool.injEq,Value.string.injEq,Value.pointer.injEq,AV.sl.injEq,AV.mp.injEq,true_and,and_true] at h
 exact (GPart.eqOf (h.1) (h.2.1) (h.2.2.1) (h.2.2.2.1) (h.2.2.2.2.1) (h.2.2.2.2.2)))
def nL_GPart:(List GPart)→List AV:=fun x=>[.sl 6 (List.map ze5.enc x)]
abbrev dL_GPart:TyD:=TyD.of (List GPart) nL_GPart (by
 intro x y h; simp only [nL_GPart,List.cons.injEq,AV.v.injEq,Value.int.injEq,Value.bool.injEq,Value.string.injEq,Value.pointer.injEq,AV.sl.injEq,AV.mp.injEq,true_and,and_true,TyD.minj ze5] at h
 exact (h))
structure zay where
 Code:Int
 Variant:Int
 Parts:List GPart
theorem zay.eqOf {x y:zay} (h0:x.Code=y.Code) (h1:x.Variant=y.Variant) (h2:x.Parts=y.Parts):x=y:=by cases x; cases y; simp only at *; simp only [h0,h1,h2]
def zaB:zay→List AV:=fun x=>[I x.Code,I x.Variant,.sl 6 (List.map ze5.enc x.Parts)]
abbrev zbj:TyD:=TyD.of zay zaB (by
 intro x y h; simp only [zaB,List.cons.injEq,AV.v.injEq,Value.int.injEq,Value.bool.injEq,Value.string.injEq,Value.pointer.injEq,AV.sl.injEq,AV.mp.injEq,true_and,and_true,TyD.minj ze5] at h
 exact (zay.eqOf (h.1) (h.2.1) (h.2.2)))
def zr7:(List zay)→List AV:=fun x=>[.sl 3 (List.map zbj.enc x)]
abbrev dL_GPaper:TyD:=TyD.of (List zay) zr7 (by
 intro x y h; simp only [zr7,List.cons.injEq,AV.v.injEq,Value.int.injEq,Value.bool.injEq,Value.string.injEq,Value.pointer.injEq,AV.sl.injEq,AV.mp.injEq,true_and,and_true,TyD.minj zbj] at h
 exact (h))
structure GSeed where
 Script:Int
 Marks:List Int
theorem GSeed.eqOf {x y:GSeed} (h0:x.Script=y.Script) (h1:x.Marks=y.Marks):x=y:=by cases x; cases y; simp only at *; simp only [h0,h1]
def nGSeed:GSeed→List AV:=fun x=>[I x.Script,.sl 1 (List.map zaI.enc x.Marks)]
abbrev zga:TyD:=TyD.of GSeed nGSeed (by
 intro x y h; simp only [nGSeed,List.cons.injEq,AV.v.injEq,Value.int.injEq,Value.bool.injEq,Value.string.injEq,Value.pointer.injEq,AV.sl.injEq,AV.mp.injEq,true_and,and_true,TyD.minj zaI] at h
 exact (GSeed.eqOf (h.1) (h.2)))
def nL_GSeed:(List GSeed)→List AV:=fun x=>[.sl 2 (List.map zga.enc x)]
abbrev dL_GSeed:TyD:=TyD.of (List GSeed) nL_GSeed (by
 intro x y h; simp only [nL_GSeed,List.cons.injEq,AV.v.injEq,Value.int.injEq,Value.bool.injEq,Value.string.injEq,Value.pointer.injEq,AV.sl.injEq,AV.mp.injEq,true_and,and_true,TyD.minj zga] at h
 exact (h))
structure za6 where
 Part:Int
 Total:Int
 Window:Int
 Fails:Int
theorem za6.eqOf {x y:za6} (h0:x.Part=y.Part) (h1:x.Total=y.Total) (h2:x.Window=y.Window) (h3:x.Fails=y.Fails):x=y:=by cases x; cases y; simp only at *; simp only [h0,h1,h2,h3]
def zjk:za6→List AV:=fun x=>[I x.Part,I x.Total,I x.Window,I x.Fails]
abbrev zfD:TyD:=TyD.of za6 zjk (by
 intro x y h; simp only [zjk,List.cons.injEq,AV.v.injEq,Value.int.injEq,Value.bool.injEq,Value.string.injEq,Value.pointer.injEq,AV.sl.injEq,AV.mp.injEq,true_and,and_true] at h
 exact (za6.eqOf (h.1) (h.2.1) (h.2.2.1) (h.2.2.2)))
structure zbC where
 Double:Bool
 Tolerance:Int
theorem zbC.eqOf {x y:zbC} (h0:x.Double=y.Double) (h1:x.Tolerance=y.Tolerance):x=y:=by cases x; cases y; simp only at *; simp only [h0,h1]
def zmn:zbC→List AV:=fun x=>[B x.Double,I x.Tolerance]
abbrev zhV:TyD:=TyD.of zbC zmn (by
 intro x y h; simp only [zmn,List.cons.injEq,AV.v.injEq,Value.int.injEq,Value.bool.injEq,Value.string.injEq,Value.pointer.injEq,AV.sl.injEq,AV.mp.injEq,true_and,and_true] at h
 exact (zbC.eqOf (h.1) (h.2)))
def zq0:(List (List Int))→List AV:=fun x=>[.sl 1 (List.map zc7.enc x)]
abbrev dL_L_I_i64:TyD:=TyD.of (List (List Int)) zq0 (by
 intro x y h; simp only [zq0,List.cons.injEq,AV.v.injEq,Value.int.injEq,Value.bool.injEq,Value.string.injEq,Value.pointer.injEq,AV.sl.injEq,AV.mp.injEq,true_and,and_true,TyD.minj zc7] at h
 exact (h))
structure za9 where
 Keys:List (List Int)
 Withdrawn:List Int
theorem za9.eqOf {x y:za9} (h0:x.Keys=y.Keys) (h1:x.Withdrawn=y.Withdrawn):x=y:=by cases x; cases y; simp only at *; simp only [h0,h1]
def zce:za9→List AV:=fun x=>[.sl 1 (List.map zc7.enc x.Keys),.sl 1 (List.map zaI.enc x.Withdrawn)]
abbrev zcy:TyD:=TyD.of za9 zce (by
 intro x y h; simp only [zce,List.cons.injEq,AV.v.injEq,Value.int.injEq,Value.bool.injEq,Value.string.injEq,Value.pointer.injEq,AV.sl.injEq,AV.mp.injEq,true_and,and_true,TyD.minj zaI,TyD.minj zc7] at h
 exact (za9.eqOf (h.1) (h.2)))
def zqY:(List za9)→List AV:=fun x=>[.sl 2 (List.map zcy.enc x)]
abbrev dL_GScheme:TyD:=TyD.of (List za9) zqY (by
 intro x y h; simp only [zqY,List.cons.injEq,AV.v.injEq,Value.int.injEq,Value.bool.injEq,Value.string.injEq,Value.pointer.injEq,AV.sl.injEq,AV.mp.injEq,true_and,and_true,TyD.minj zcy] at h
 exact (h))
structure zgZ where
 Num:Int
 Den:Int
theorem zgZ.eqOf {x y:zgZ} (h0:x.Num=y.Num) (h1:x.Den=y.Den):x=y:=by cases x; cases y; simp only at *; simp only [h0,h1]
def nGRatio:zgZ→List AV:=fun x=>[I x.Num,I x.Den]
abbrev dGRatio:TyD:=TyD.of zgZ nGRatio (by
 intro x y h; simp only [nGRatio,List.cons.injEq,AV.v.injEq,Value.int.injEq,Value.bool.injEq,Value.string.injEq,Value.pointer.injEq,AV.sl.injEq,AV.mp.injEq,true_and,and_true] at h
 exact (zgZ.eqOf (h.1) (h.2)))
structure zgY where
 X:zgZ
 Y:zgZ
theorem zgY.eqOf {x y:zgY} (h0:x.X=y.X) (h1:x.Y=y.Y):x=y:=by cases x; cases y; simp only at *; simp only [h0,h1]
def zjZ:zgY→List AV:=fun x=>[I x.X.Num,I x.X.Den,I x.Y.Num,I x.Y.Den]
abbrev zlH:TyD:=TyD.of zgY zjZ (by
 intro x y h; simp only [zjZ,List.cons.injEq,AV.v.injEq,Value.int.injEq,Value.bool.injEq,Value.string.injEq,Value.pointer.injEq,AV.sl.injEq,AV.mp.injEq,true_and,and_true] at h
 exact (zgY.eqOf (zgZ.eqOf (h.1) (h.2.1)) (zgZ.eqOf (h.2.2.1) (h.2.2.2))))
def zr8:(List zgY)→List AV:=fun x=>[.sl 4 (List.map zlH.enc x)]
abbrev dL_GPoint:TyD:=TyD.of (List zgY) zr8 (by
 intro x y h; simp only [zr8,List.cons.injEq,AV.v.injEq,Value.int.injEq,Value.bool.injEq,Value.string.injEq,Value.pointer.injEq,AV.sl.injEq,AV.mp.injEq,true_and,and_true,TyD.minj zlH] at h
 exact (h))
structure zc0 where
 Points:List zgY
theorem zc0.eqOf {x y:zc0} (h0:x.Points=y.Points):x=y:=by cases x; cases y; simp only at *; simp only [h0]
def zhK:zc0→List AV:=fun x=>[.sl 4 (List.map zlH.enc x.Points)]
abbrev zgz:TyD:=TyD.of zc0 zhK (by
 intro x y h; simp only [zhK,List.cons.injEq,AV.v.injEq,Value.int.injEq,Value.bool.injEq,Value.string.injEq,Value.pointer.injEq,AV.sl.injEq,AV.mp.injEq,true_and,and_true,TyD.minj zlH] at h
 exact (zc0.eqOf (h)))
def zr6:(List zc0)→List AV:=fun x=>[.sl 1 (List.map zgz.enc x)]
abbrev dL_GCurve:TyD:=TyD.of (List zc0) zr6 (by
 intro x y h; simp only [zr6,List.cons.injEq,AV.v.injEq,Value.int.injEq,Value.bool.injEq,Value.string.injEq,Value.pointer.injEq,AV.sl.injEq,AV.mp.injEq,true_and,and_true,TyD.minj zgz] at h
 exact (h))
structure GUnit where
 Paper:Int
 Weight:Int
 Max:Int
theorem GUnit.eqOf {x y:GUnit} (h0:x.Paper=y.Paper) (h1:x.Weight=y.Weight) (h2:x.Max=y.Max):x=y:=by cases x; cases y; simp only at *; simp only [h0,h1,h2]
def zh4:GUnit→List AV:=fun x=>[I x.Paper,I x.Weight,I x.Max]
abbrev zko:TyD:=TyD.of GUnit zh4 (by
 intro x y h; simp only [zh4,List.cons.injEq,AV.v.injEq,Value.int.injEq,Value.bool.injEq,Value.string.injEq,Value.pointer.injEq,AV.sl.injEq,AV.mp.injEq,true_and,and_true] at h
 exact (GUnit.eqOf (h.1) (h.2.1) (h.2.2)))
def nL_GUnit:(List GUnit)→List AV:=fun x=>[.sl 3 (List.map zko.enc x)]
abbrev dL_GUnit:TyD:=TyD.of (List GUnit) nL_GUnit (by
 intro x y h; simp only [nL_GUnit,List.cons.injEq,AV.v.injEq,Value.int.injEq,Value.bool.injEq,Value.string.injEq,Value.pointer.injEq,AV.sl.injEq,AV.mp.injEq,true_and,and_true,TyD.minj zko] at h
 exact (h))
structure zcK where
 Units:List GUnit
 Bounds:List Int
 Max:Int
theorem zcK.eqOf {x y:zcK} (h0:x.Units=y.Units) (h1:x.Bounds=y.Bounds) (h2:x.Max=y.Max):x=y:=by cases x; cases y; simp only at *; simp only [h0,h1,h2]
def nGAward:zcK→List AV:=fun x=>[.sl 3 (List.map zko.enc x.Units),.sl 1 (List.map zaI.enc x.Bounds),I x.Max]
abbrev zlG:TyD:=TyD.of zcK nGAward (by
 intro x y h; simp only [nGAward,List.cons.injEq,AV.v.injEq,Value.int.injEq,Value.bool.injEq,Value.string.injEq,Value.pointer.injEq,AV.sl.injEq,AV.mp.injEq,true_and,and_true,TyD.minj zko,TyD.minj zaI] at h
 exact (zcK.eqOf (h.1) (h.2.1) (h.2.2)))
structure zbi where
 Days:Int
 Fails:Int
 Tolerance:Int
theorem zbi.eqOf {x y:zbi} (h0:x.Days=y.Days) (h1:x.Fails=y.Fails) (h2:x.Tolerance=y.Tolerance):x=y:=by cases x; cases y; simp only at *; simp only [h0,h1,h2]
def zky:zbi→List AV:=fun x=>[I x.Days,I x.Fails,I x.Tolerance]
abbrev zf9:TyD:=TyD.of zbi zky (by
 intro x y h; simp only [zky,List.cons.injEq,AV.v.injEq,Value.int.injEq,Value.bool.injEq,Value.string.injEq,Value.pointer.injEq,AV.sl.injEq,AV.mp.injEq,true_and,and_true] at h
 exact (zbi.eqOf (h.1) (h.2.1) (h.2.2)))
structure zbf where
 Markers:List za1
 Papers:List zay
 Seeds:List GSeed
 Monitor:za6
 Mark:zbC
 Schemes:List za9
 Curves:List zc0
 Award:zcK
 Appeals:zbi
 Secret:Int
theorem zbf.eqOf {x y:zbf} (h0:x.Markers=y.Markers) (h1:x.Papers=y.Papers) (h2:x.Seeds=y.Seeds) (h3:x.Monitor=y.Monitor) (h4:x.Mark=y.Mark) (h5:x.Schemes=y.Schemes) (h6:x.Curves=y.Curves) (h7:x.Award=y.Award) (h8:x.Appeals=y.Appeals) (h9:x.Secret=y.Secret):x=y:=by cases x; cases y; simp only at *; simp only [h0,h1,h2,h3,h4,h5,h6,h7,h8,h9]
def zbU:zbf→List AV:=fun x=>[.sl 5 (List.map zb4.enc x.Markers),.sl 3 (List.map zbj.enc x.Papers),.sl 2 (List.map zga.enc x.Seeds),I x.Monitor.Part,I x.Monitor.Total,I x.Monitor.Window,I x.Monitor.Fails,B x.Mark.Double,I x.Mark.Tolerance,.sl 2 (List.map zcy.enc x.Schemes),.sl 1 (List.map zgz.enc x.Curves),.sl 3 (List.map zko.enc x.Award.Units),.sl 1 (List.map zaI.enc x.Award.Bounds),I x.Award.Max,I x.Appeals.Days,I x.Appeals.Fails,I x.Appeals.Tolerance,I x.Secret]
abbrev zlI:TyD:=TyD.of zbf zbU (by
 intro x y h; simp only [zbU,List.cons.injEq,AV.v.injEq,Value.int.injEq,Value.bool.injEq,Value.string.injEq,Value.pointer.injEq,AV.sl.injEq,AV.mp.injEq,true_and,and_true,TyD.minj zgz,TyD.minj zb4,TyD.minj zbj,TyD.minj zcy,TyD.minj zga,TyD.minj zko,TyD.minj zaI] at h
 exact (zbf.eqOf (h.1) (h.2.1) (h.2.2.1) (za6.eqOf (h.2.2.2.1) (h.2.2.2.2.1) (h.2.2.2.2.2.1) (h.2.2.2.2.2.2.1)) (zbC.eqOf (h.2.2.2.2.2.2.2.1) (h.2.2.2.2.2.2.2.2.1)) (h.2.2.2.2.2.2.2.2.2.1) (h.2.2.2.2.2.2.2.2.2.2.1) (zcK.eqOf (h.2.2.2.2.2.2.2.2.2.2.2.1) (h.2.2.2.2.2.2.2.2.2.2.2.2.1) (h.2.2.2.2.2.2.2.2.2.2.2.2.2.1)) (zbi.eqOf (h.2.2.2.2.2.2.2.2.2.2.2.2.2.2.1) (h.2.2.2.2.2.2.2.2.2.2.2.2.2.2.2.1) (h.2.2.2.2.2.2.2.2.2.2.2.2.2.2.2.2.1)) (h.2.2.2.2.2.2.2.2.2.2.2.2.2.2.2.2.2)))
def nL_GOp:(List GOp)→List AV:=fun x=>[.sl 31 (List.map dGOp.enc x)]
abbrev dL_GOp:TyD:=TyD.of (List GOp) nL_GOp (by
 intro x y h; simp only [nL_GOp,List.cons.injEq,AV.v.injEq,Value.int.injEq,Value.bool.injEq,Value.string.injEq,Value.pointer.injEq,AV.sl.injEq,AV.mp.injEq,true_and,and_true,TyD.minj dGOp] at h
 exact (h))
def nL_Str:(List ByteArray)→List AV:=fun x=>[.sl 1 (List.map dStr.enc x)]
abbrev dL_Str:TyD:=TyD.of (List ByteArray) nL_Str (by
 intro x y h; simp only [nL_Str,List.cons.injEq,AV.v.injEq,Value.int.injEq,Value.bool.injEq,Value.string.injEq,Value.pointer.injEq,AV.sl.injEq,AV.mp.injEq,true_and,and_true,TyD.minj dStr] at h
 exact (h))
def nA5_Str:(ByteArray×ByteArray×ByteArray×ByteArray×ByteArray)→List AV:=fun x=>[.v (.string x.1),.v (.string x.2.1),.v (.string x.2.2.1),.v (.string x.2.2.2.1),.v (.string x.2.2.2.2)]
abbrev dA5_Str:TyD:=TyD.of (ByteArray×ByteArray×ByteArray×ByteArray×ByteArray) nA5_Str (by
 intro x y h; simp only [nA5_Str,List.cons.injEq,AV.v.injEq,Value.int.injEq,Value.bool.injEq,Value.string.injEq,Value.pointer.injEq,AV.sl.injEq,AV.mp.injEq,true_and,and_true] at h
 exact (Prod.ext (h.1) (Prod.ext (h.2.1) (Prod.ext (h.2.2.1) (Prod.ext (h.2.2.2.1) (h.2.2.2.2))))))
structure zaa where
 L:List Int
 At:Int
theorem zaa.eqOf {x y:zaa} (h0:x.L=y.L) (h1:x.At=y.At):x=y:=by cases x; cases y; simp only at *; simp only [h0,h1]
def zac:zaa→List AV:=fun x=>[.sl 1 (List.map zaI.enc x.L),I x.At]
abbrev zao:TyD:=TyD.of zaa zac (by
 intro x y h; simp only [zac,List.cons.injEq,AV.v.injEq,Value.int.injEq,Value.bool.injEq,Value.string.injEq,Value.pointer.injEq,AV.sl.injEq,AV.mp.injEq,true_and,and_true,TyD.minj zaI] at h
 exact (zaa.eqOf (h.1) (h.2)))
def zqZ:(List zav)→List AV:=fun x=>[.sl 7 (List.map zbt.enc x)]
abbrev dL_GScript:TyD:=TyD.of (List zav) zqZ (by
 intro x y h; simp only [zqZ,List.cons.injEq,AV.v.injEq,Value.int.injEq,Value.bool.injEq,Value.string.injEq,Value.pointer.injEq,AV.sl.injEq,AV.mp.injEq,true_and,and_true,TyD.minj zbt] at h
 exact (h))
structure zcp where
 Markers:List za1
 Scripts:List zav
 Papers:List zay
 Schemes:List za9
 Seeds:List GSeed
 Monitor:za6
theorem zcp.eqOf {x y:zcp} (h0:x.Markers=y.Markers) (h1:x.Scripts=y.Scripts) (h2:x.Papers=y.Papers) (h3:x.Schemes=y.Schemes) (h4:x.Seeds=y.Seeds) (h5:x.Monitor=y.Monitor):x=y:=by cases x; cases y; simp only at *; simp only [h0,h1,h2,h3,h4,h5]
def zfc:zcp→List AV:=fun x=>[.sl 5 (List.map zb4.enc x.Markers),.sl 7 (List.map zbt.enc x.Scripts),.sl 3 (List.map zbj.enc x.Papers),.sl 2 (List.map zcy.enc x.Schemes),.sl 2 (List.map zga.enc x.Seeds),I x.Monitor.Part,I x.Monitor.Total,I x.Monitor.Window,I x.Monitor.Fails]
abbrev dGSetup:TyD:=TyD.of zcp zfc (by
 intro x y h; simp only [zfc,List.cons.injEq,AV.v.injEq,Value.int.injEq,Value.bool.injEq,Value.string.injEq,Value.pointer.injEq,AV.sl.injEq,AV.mp.injEq,true_and,and_true,TyD.minj zb4,TyD.minj zbj,TyD.minj zcy,TyD.minj zbt,TyD.minj zga] at h
 exact (zcp.eqOf (h.1) (h.2.1) (h.2.2.1) (h.2.2.2.1) (h.2.2.2.2.1) (za6.eqOf (h.2.2.2.2.2.1) (h.2.2.2.2.2.2.1) (h.2.2.2.2.2.2.2.1) (h.2.2.2.2.2.2.2.2))))
structure zaM where
 number:Option Addr
 list:Option Addr
theorem zaM.eqOf {x y:zaM} (h0:x.number=y.number) (h1:x.list=y.list):x=y:=by cases x; cases y; simp only at *; simp only [h0,h1]
def zaf:zaM→List AV:=fun x=>[.v (.pointer x.number),.v (.pointer x.list)]
abbrev zdB:TyD:=TyD.of zaM zaf (by
 intro x y h; simp only [zaf,List.cons.injEq,AV.v.injEq,Value.int.injEq,Value.bool.injEq,Value.string.injEq,Value.pointer.injEq,AV.sl.injEq,AV.mp.injEq,true_and,and_true] at h
 exact (zaM.eqOf (h.1) (h.2)))
def zk4:(List zaM)→List AV:=fun x=>[.sl 2 (List.map zdB.enc x)]
abbrev zqG:TyD:=TyD.of (List zaM) zk4 (by
 intro x y h; simp only [zk4,List.cons.injEq,AV.v.injEq,Value.int.injEq,Value.bool.injEq,Value.string.injEq,Value.pointer.injEq,AV.sl.injEq,AV.mp.injEq,true_and,and_true,TyD.minj zdB] at h
 exact (h))
structure zcq where
 keyword:ByteArray
 words:Int
theorem zcq.eqOf {x y:zcq} (h0:x.keyword=y.keyword) (h1:x.words=y.words):x=y:=by cases x; cases y; simp only at *; simp only [h0,h1]
def zcw:zcq→List AV:=fun x=>[.v (.string x.keyword),I x.words]
abbrev zhd:TyD:=TyD.of zcq zcw (by
 intro x y h; simp only [zcw,List.cons.injEq,AV.v.injEq,Value.int.injEq,Value.bool.injEq,Value.string.injEq,Value.pointer.injEq,AV.sl.injEq,AV.mp.injEq,true_and,and_true] at h
 exact (zcq.eqOf (h.1) (h.2)))
def nL_I_u8:(List Int)→List AV:=fun x=>[.sl 1 (List.map dI_u8.enc x)]
abbrev dL_I_u8:TyD:=TyD.of (List Int) nL_I_u8 (by
 intro x y h; simp only [nL_I_u8,List.cons.injEq,AV.v.injEq,Value.int.injEq,Value.bool.injEq,Value.string.injEq,Value.pointer.injEq,AV.sl.injEq,AV.mp.injEq,true_and,and_true,TyD.minj dI_u8] at h
 exact (h))
def zdy:(ByteArray×ByteArray)→List AV:=fun x=>[.v (.string x.1),.v (.string x.2)]
abbrev zdO:TyD:=TyD.of (ByteArray×ByteArray) zdy (by
 intro x y h; simp only [zdy,List.cons.injEq,AV.v.injEq,Value.int.injEq,Value.bool.injEq,Value.string.injEq,Value.pointer.injEq,AV.sl.injEq,AV.mp.injEq,true_and,and_true] at h
 exact (Prod.ext (h.1) (h.2)))
def zr5:(List (ByteArray×ByteArray))→List AV:=fun x=>[.sl 2 (List.map zdO.enc x)]
abbrev dL_A2_Str:TyD:=TyD.of (List (ByteArray×ByteArray)) zr5 (by
 intro x y h; simp only [zr5,List.cons.injEq,AV.v.injEq,Value.int.injEq,Value.bool.injEq,Value.string.injEq,Value.pointer.injEq,AV.sl.injEq,AV.mp.injEq,true_and,and_true,TyD.minj zdO] at h
 exact (h))
def nL_Ptr:(List (Option Addr))→List AV:=fun x=>[.sl 1 (List.map dPtr.enc x)]
abbrev dL_Ptr:TyD:=TyD.of (List (Option Addr)) nL_Ptr (by
 intro x y h; simp only [nL_Ptr,List.cons.injEq,AV.v.injEq,Value.int.injEq,Value.bool.injEq,Value.string.injEq,Value.pointer.injEq,AV.sl.injEq,AV.mp.injEq,true_and,and_true,TyD.minj dPtr] at h
 exact (h))
@[simp] theorem zgb {β:Type} (l:List (ByteArray×ByteArray)) (i:Nat) (k:(ByteArray×ByteArray)→Option β):elemD zdO (List.map zdy l) i k=(l[i]?).bind k:=zbV zdO l i k
@[simp] theorem zhW {β:Type} (l:List za5) (i:Nat) (k:za5→Option β):elemD zdf (List.map za0 l) i k=(l[i]?).bind k:=zbV zdf l i k
@[simp] theorem zp4 {β:Type} (l:List zaH) (i:Nat) (k:zaH→Option β):elemD zbF (List.map za3 l) i k=(l[i]?).bind k:=zbV zbF l i k
@[simp] theorem zec {β:Type} (l:List za1) (i:Nat) (k:za1→Option β):elemD zb4 (List.map zbc l) i k=(l[i]?).bind k:=zbV zb4 l i k
@[simp] theorem zgc {β:Type} (l:List GOp) (i:Nat) (k:GOp→Option β):elemD dGOp (List.map nGOp l) i k=(l[i]?).bind k:=zbV dGOp l i k
@[simp] theorem ziv {β:Type} (l:List zaG) (i:Nat) (k:zaG→Option β):elemD zcV (List.map zaF l) i k=(l[i]?).bind k:=zbV zcV l i k
@[simp] theorem zdS {β:Type} (l:List zay) (i:Nat) (k:zay→Option β):elemD zbj (List.map zaB l) i k=(l[i]?).bind k:=zbV zbj l i k
@[simp] theorem zdI {β:Type} (l:List GPart) (i:Nat) (k:GPart→Option β):elemD ze5 (List.map za2 l) i k=(l[i]?).bind k:=zbV ze5 l i k
@[simp] theorem ziX {β:Type} (l:List zaS) (i:Nat) (k:zaS→Option β):elemD zcv (List.map zaP l) i k=(l[i]?).bind k:=zbV zcv l i k
@[simp] theorem zdC {β:Type} (l:List zav) (i:Nat) (k:zav→Option β):elemD zbt (List.map zat l) i k=(l[i]?).bind k:=zbV zbt l i k
@[simp] theorem znA {β:Type} (l:List zcq) (i:Nat) (k:zcq→Option β):elemD zhd (List.map zcw l) i k=(l[i]?).bind k:=zbV zhd l i k
@[simp] theorem zjh {β:Type} (l:List (List Int)) (i:Nat) (k:(List Int)→Option β):elemD zc7 (List.map zaJ l) i k=(l[i]?).bind k:=zbV zc7 l i k
def tyTab:List TyD:=[dRaw,dRaw,zaI,zaI,dBool,dI_u8,dI_u8,dRaw,dRaw,dStr,dStr,dStr,dI_u64,dRaw,dRaw,dPtr,dPtr,dPtr,dRaw,dRaw,dRaw,dI_i32,zc7,dRaw,dGEntry,dRaw,zbt,dRaw,dGStamp,dRaw,zbF,dRaw,dGSpecial,dRaw,dGAppeal,dRaw,dGOp,dRaw,zcV,zqF,ztF,zs2,zsw,dRaw,ziu,dRaw,dRaw,dPtr,dRaw,dL_GMarker,dL_GPaper,dL_GSeed,dRaw,zfD,dRaw,zhV,dL_GScheme,dL_GCurve,dL_GUnit,dRaw,zlG,dRaw,zf9,dRaw,zlI,dRaw,dL_GOp,dRaw,dRaw,dPtr,dRaw,dRaw,zaI,dRaw,dRaw,dRaw,dL_Str,dRaw,dA5_Str,dRaw,dRaw,dRaw,dRaw,dRaw,dRaw,dRaw,dRaw,dRaw,dRaw,zao,dRaw,dRaw,dRaw,dRaw,dRaw,dRaw,dL_GPart,dRaw,zbj,dL_GPoint,dRaw,zgz,dRaw,dRaw,dRaw,zga,dRaw,dL_GScript,dRaw,dRaw,dGSetup,dRaw,dRaw,dRaw,dRaw,zqG,dRaw,dRaw,zhd,dRaw,dPtr,dPtr,dRaw,zdB,dRaw,dRaw,dRaw,dRaw,dPtr,dL_I_u8,dRaw,dRaw,dRaw,dRaw,dRaw,dRaw,dRaw,dRaw,dRaw,dRaw,dL_A2_Str,dRaw,zdO,dL_L_I_i64,dRaw,dRaw,dRaw,dRaw,dRaw,dRaw,dRaw,dRaw,dRaw,dRaw,dRaw,dRaw,dRaw,dRaw,dRaw,zcv,dRaw,zsv,dRaw,zdf,dRaw,dRaw,zcy,dRaw,dRaw,zb4,dRaw,dGRatio,dRaw,zlH,dRaw,zko,dRaw,dRaw,dRaw,ze5,dRaw,dRaw,dRaw,dPtr,dPtr,dRaw,dPtr,dRaw,dRaw,dPtr,dRaw,dRaw,dI_u64,dRaw,dL_Ptr,dRaw,dRaw,dRaw,dRaw,dRaw,dRaw,dRaw,dRaw,dRaw,dRaw,dRaw,dI_u64,dRaw,dRaw,dRaw,dRaw,dRaw,dRaw,dI_u32,dRaw,dRaw,dRaw,dRaw,dRaw,dRaw,dRaw,dRaw,dRaw,dRaw,dRaw,dRaw,dRaw,dRaw,dRaw,dRaw,dRaw,dRaw,dRaw,dI_u8,dI_u8,dRaw,dI_i32,dI_i32,dRaw,dRaw]
end Go.Proofs.YtdclabgakicjeaaGreatDoor
end
