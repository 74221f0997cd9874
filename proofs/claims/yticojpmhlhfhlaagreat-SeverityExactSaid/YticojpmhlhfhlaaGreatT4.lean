/- What the functions compute, between two cut points: printed by a program, checked by the kernel. -/
import Derived.Test.YticojpmhlhfhlaaGreatAnn
namespace Go.Proofs.YticojpmhlhfhlaaGreat
open Go.Ab
set_option maxRecDepth 100000
set_option linter.unusedVariables false
noncomputable def zo1 (a0:GSetup) (a1:List GMarkEvent) (x0:List (List AV)) (x1:List (List AV)) (x2:Int):Option (AV×Mem):=pt zwx 1 ⟨[(1,AV.sl 9 (List.map zab a1)),(2,AV.loc 2 9 0 0),(6,AV.row 14 1 0 ((List.replicate (↑(List.map zab a1).length:Int).toNat (AV.v (Go.Value.bool false) :: List.map AV.v [])).length)),(7,AV.row 7 12 0 (List.length x0)),(8,I x2)],[(2,⟨9,zaE,[zat a0],true⟩),(7,⟨12,zaI,x0,false⟩),(14,⟨1,zbn,x1,false⟩)]⟩
noncomputable def zlq (a0:GSetup) (a1:List GMarkEvent) (x0:List (List AV)) (x2:Int) (r4:(List GSuspension)×(List Bool)) (x5:List (List AV)) (x6:Int):Option (AV×Mem):=pt zwx 2 ⟨[(1,AV.sl 9 (List.map zab a1)),(2,AV.loc 2 9 0 0),(6,AV.row 14 1 0 ((List.replicate (↑(List.map zab a1).length:Int).toNat (AV.v (Go.Value.bool false) :: List.map AV.v [])).length)),(7,AV.row 7 12 0 (List.length (x0++(List.map zaJ r4.fst)))),(8,I x2),(10,AV.sl 1 (List.map nBool r4.snd)),(11,I x6)],[(2,⟨9,zaE,[zat a0],true⟩),(7,⟨12,zaI,x0++(List.map zaJ r4.fst),false⟩),(14,⟨1,zbn,x5,false⟩)]⟩
theorem zzw (a0:GSetup) (a1:List GMarkEvent) (x0:List (List AV)) (x1:List (List AV)) (x2:Int) {y:AV×Mem} (h:(
 brn (decide (x2 < (↑(List.map zaO a0.Markers).length:Int))) (chk ((0:Int)≤x2)<|
 elemD zb6 (List.map zaO a0.Markers) x2.toNat fun (c3:GMarker) =>
 callD zo0 (cw zoT [AV.agg (zat a0),AV.sl 9 (List.map zab a1),I c3.ID] []) fun (r4:(List GSuspension)×(List Bool)) =>
 chk (x0.length=x0.length)<|
 chk ((x0.length+(List.map zaJ r4.fst).length)*(88+1)≤1099511627776)<|
 chk ((x0++List.map zaJ r4.fst).length=(x0++List.map zaJ r4.fst).length)<|
 zlq a0 a1 x0 x2 r4 x1 0)
 (chk (0+x0.length≤x0.length)<|
 chk (0+(List.replicate (↑(List.map zab a1).length:Int).toNat (AV.v (Go.Value.bool false) :: List.map AV.v [])).length≤x1.length)<|
 some (AV.tup [AV.sl 12 (List.take x0.length x0),AV.sl 1 (List.take ((List.replicate (↑(List.map zab a1).length:Int).toNat (AV.v (Go.Value.bool false) :: List.map AV.v [])).length) x1)],[])))=some y):zo1 a0 a1 x0 x1 x2=some y:=
 pt_of zT [] (by kernel_rfl) h
theorem zzu (a0:GSetup) (a1:List GMarkEvent) (x0:List (List AV)) (x2:Int) (r4:(List GSuspension)×(List Bool)) (x5:List (List AV)) (x6:Int) {y:AV×Mem} (h:(
 brn (decide (x6 < (↑(List.map nBool r4.snd).length:Int))) (chk ((0:Int)≤x6)<|
 chk ((x6:Int) < ((↑(List.replicate (↑(List.map zab a1).length:Int).toNat (AV.v (Go.Value.bool false) :: List.map AV.v [])).length:Int)))<|
 elemD dBool x5 (0+x6.toNat) fun (c7:Bool) =>
 brn c7 (chk ((0:Int)≤x6)<|
 chk ((x6:Int) < ((↑(List.replicate (↑(List.map zab a1).length:Int).toNat (AV.v (Go.Value.bool false) :: List.map AV.v [])).length:Int)))<|
 elemD dBool x5 (0+x6.toNat) fun (c8:Bool) =>
 zlq a0 a1 x0 x2 r4 (List.set x5 (0+x6.toNat) (nBool true)) (w64 (x6+1)))
 (chk ((0:Int)≤x6)<|
 elemD dBool (List.map nBool r4.snd) x6.toNat fun (c9:Bool) =>
 chk ((0:Int)≤x6)<|
 chk ((x6:Int) < ((↑(List.replicate (↑(List.map zab a1).length:Int).toNat (AV.v (Go.Value.bool false) :: List.map AV.v [])).length:Int)))<|
 elemD dBool x5 (0+x6.toNat) fun (c10:Bool) =>
 zlq a0 a1 x0 x2 r4 (List.set x5 (0+x6.toNat) (nBool c9)) (w64 (x6+1))))
 (zo1 a0 a1 (x0++(List.map zaJ r4.fst)) x5 (w64 (x2+1))))=some y):zlq a0 a1 x0 x2 r4 x5 x6=some y:=
 pt_of zT [] (by kernel_rfl) h
theorem zJZ (a0:GSetup) (a1:List GMarkEvent) {y:AV×Mem} (h:(
 chk (((↑(List.map zab a1).length:Int):Int)=((↑(List.map zab a1).length:Int)))<|
 chk ((0:Int)≤((↑(List.map zab a1).length:Int)))<|
 chk ((↑(List.map zab a1).length:Int).toNat*(1+1)≤1099511627776)<|
 zo1 a0 a1 [] (List.replicate ((↑(List.map zab a1).length:Int).toNat) (nBool false)) 0)=some y):cw zsA [AV.agg (zat a0),AV.sl 9 (List.map zab a1)] []=some y:=
 zah zwx zT [] rfl (by kernel_rfl) (by kernel_rfl) (by kernel_rfl) (by kernel_rfl) (by kernel_rfl) h
noncomputable def zg1 (a0:List GSeed) (a1:Int) (x0:Int):Option (AV×Mem):=pt ztf 1 ⟨[(0,AV.sl 2 (List.map zbT a0)),(1,I a1),(6,I x0)],[]⟩
theorem zkW (a0:List GSeed) (a1:Int) (x0:Int) {y:AV×Mem} (h:(
 brn (decide (x0 < (↑(List.map zbT a0).length:Int))) (chk ((0:Int)≤x0)<|
 elemD zeH (List.map zbT a0) x0.toNat fun (c1:GSeed) =>
 brn (c1.Script == a1) (chk ((0:Int)≤x0)<|
 elemD zeH (List.map zbT a0) x0.toNat fun (c2:GSeed) =>
 chk ((List.map zaa c2.Marks).length*(8+1)≤1099511627776)<|
 chk ((List.map zaa c2.Marks).length=(List.map zaa c2.Marks).length)<|
 chk (0+(List.map zaa c2.Marks).length≤(List.map zaa c2.Marks).length)<|
 some (AV.tup [AV.sl 1 (List.take ((List.map zaa c2.Marks).length) (List.map zaa c2.Marks)),B true],[]))
 (zg1 a0 a1 (w64 (x0+1))))
 (chk (0+0≤0)<|
 some (AV.tup [AV.sl 1 (List.map zaa []),B false],[])))=some y):zg1 a0 a1 x0=some y:=
 pt_of zT [] (by kernel_rfl) h
theorem zAi (a0:List GSeed) (a1:Int) {y:AV×Mem} (h:(
 zg1 a0 a1 0)=some y):cw zdJ [AV.sl 2 (List.map zbT a0),I a1] []=some y:=
 zah ztf zT [] rfl (by kernel_rfl) (by kernel_rfl) (by kernel_rfl) (by kernel_rfl) (by kernel_rfl) h
theorem zIV (a0:GSetup) (a1:GMarkEvent) {y:AV×Mem} (h:(
 callD zhv (cw zj1 [AV.sl 7 (List.map zaw a0.Scripts),I a1.Script] []) fun (r0:GScript×Bool) =>
 brn (!r0.snd) (some (B false,[]))
 (brn (a1.Kind != 0) (some (B false,[]))
 (callD zkN (cw zpH [AV.sl 5 (List.map zaO a0.Markers),I a1.Stamp.Source,AV.agg (zaw r0.fst)] []) fun (r1:Bool) =>
 brn (!r1) (some (B false,[]))
 (callD zih (cw zlA [AV.sl 3 (List.map zas a0.Papers),AV.agg (zaw r0.fst)] []) fun (r2:Int×Bool) =>
 chk (0≤r2.fst)<|
 elemD zbj (List.map zas a0.Papers) (Int.toNat r2.fst) fun (c3:GPaper) =>
 callD zj8 (cw zm6 [AV.agg (zas c3),I a1.Part] []) fun (r4:Bool) =>
 brn r4 (brn (a1.Value == -1) (callD zfk (cw zgV [AV.sl 1 (List.map zaa a1.Pages),AV.sl 1 (List.map zaa r0.fst.Pages)] []) fun (r5:Bool) =>
 some (B r5,[]))
 (chk (0≤r2.fst)<|
 elemD zbj (List.map zas a0.Papers) (Int.toNat r2.fst) fun (c6:GPaper) =>
 chk (0≤r2.fst)<|
 elemD zcg (List.map zaW a0.Schemes) (Int.toNat r2.fst) fun (c7:GScheme) =>
 callD zju (cw zn9 [AV.agg (zas c6),AV.agg (zaW c7),I a1.Part,I a1.Value] []) fun (r8:Bool) =>
 brn r8 (callD zfk (cw zgV [AV.sl 1 (List.map zaa a1.Pages),AV.sl 1 (List.map zaa r0.fst.Pages)] []) fun (r9:Bool) =>
 some (B r9,[]))
 (some (B false,[]))))
 (some (B false,[]))))))=some y):cw zm5 [AV.agg (zat a0),AV.agg (zab a1)] []=some y:=
 zah zI8 zT [] rfl (by kernel_rfl) (by kernel_rfl) (by kernel_rfl) (by kernel_rfl) (by kernel_rfl) h
noncomputable def zd4 (a1:List GMarkEvent) (a2:Int) (r1:GMarker×Bool) (x2:Int):Option (AV×Mem):=pt zwj 1 ⟨[(1,AV.sl 9 (List.map zab a1)),(2,I a2),(7,AV.loc 7 5 0 0),(9,I x2)],[(7,⟨5,zcM,[zaO r1.fst],true⟩)]⟩
theorem ztW (a1:List GMarkEvent) (a2:Int) (r1:GMarker×Bool) (x2:Int) {y:AV×Mem} (h:(
 brn (decide (x2 < (↑(List.map zab a1).length:Int))) (brn (r1.fst.Level == 1) (chk ((0:Int)≤x2)<|
 elemD zaG (List.map zab a1) x2.toNat fun (c3:GMarkEvent) =>
 brn (c3.Kind == 2) (chk ((0:Int)≤x2)<|
 elemD zaG (List.map zab a1) x2.toNat fun (c4:GMarkEvent) =>
 chk ((0:Int)≤a2)<|
 elemD zaG (List.map zab a1) a2.toNat fun (c5:GMarkEvent) =>
 brn (c4.Script == c5.Script) (chk ((0:Int)≤x2)<|
 elemD zaG (List.map zab a1) x2.toNat fun (c6:GMarkEvent) =>
 brn (c6.Part == -1) (some (B true,[]))
 (chk ((0:Int)≤x2)<|
 elemD zaG (List.map zab a1) x2.toNat fun (c7:GMarkEvent) =>
 chk ((0:Int)≤a2)<|
 elemD zaG (List.map zab a1) a2.toNat fun (c8:GMarkEvent) =>
 brn (c7.Part == c8.Part) (some (B true,[]))
 (zd4 a1 a2 r1 (w64 (x2+1)))))
 (zd4 a1 a2 r1 (w64 (x2+1))))
 (zd4 a1 a2 r1 (w64 (x2+1))))
 (zd4 a1 a2 r1 (w64 (x2+1))))
 (some (B false,[])))=some y):zd4 a1 a2 r1 x2=some y:=
 pt_of zT [] (by kernel_rfl) h
theorem zEw (a0:GSetup) (a1:List GMarkEvent) (a2:Int) {y:AV×Mem} (h:(
 chk ((0:Int)≤a2)<|
 elemD zaG (List.map zab a1) a2.toNat fun (c0:GMarkEvent) =>
 callD zkd (cw zmx [AV.sl 5 (List.map zaO a0.Markers),I c0.Stamp.Source] []) fun (r1:GMarker×Bool) =>
 zd4 a1 a2 r1 (w64 (a2+1)))=some y):cw zl7 [AV.agg (zat a0),AV.sl 9 (List.map zab a1),I a2] []=some y:=
 zah zwj zT [] rfl (by kernel_rfl) (by kernel_rfl) (by kernel_rfl) (by kernel_rfl) (by kernel_rfl) h
noncomputable def znt (a0:List GMarker) (a1:Int) (x0:Int):Option (AV×Mem):=pt zAU 1 ⟨[(0,AV.sl 5 (List.map zaO a0)),(1,I a1),(4,AV.loc 4 5 0 0),(6,I x0)],[(4,⟨5,zcM,[[I 0,I 0,I 0,I 0,AV.v (.slice none 0 0)]],true⟩)]⟩
theorem zrV (a0:List GMarker) (a1:Int) (x0:Int) {y:AV×Mem} (h:(
 brn (decide (x0 < (↑(List.map zaO a0).length:Int))) (chk ((0:Int)≤x0)<|
 elemD zb6 (List.map zaO a0) x0.toNat fun (c1:GMarker) =>
 brn (c1.ID == a1) (chk ((0:Int)≤x0)<|
 elemD zb6 (List.map zaO a0) x0.toNat fun (c2:GMarker) =>
 some (AV.tup [AV.agg (zaO c2),B true],[]))
 (znt a0 a1 (w64 (x0+1))))
 (some (AV.tup [AV.agg (zaO (⟨0,0,0,0,[]⟩)),B false],[])))=some y):znt a0 a1 x0=some y:=
 pt_of zT [] (by kernel_rfl) h
theorem zIF (a0:List GMarker) (a1:Int) {y:AV×Mem} (h:(
 znt a0 a1 0)=some y):cw zmx [AV.sl 5 (List.map zaO a0),I a1] []=some y:=
 zah zAU zT [] rfl (by kernel_rfl) (by kernel_rfl) (by kernel_rfl) (by kernel_rfl) (by kernel_rfl) h
noncomputable def zoI (a0:List GGiven) (a1:GGiven) (x0:Int):Option (AV×Mem):=pt zsE 1 ⟨[(0,AV.row 950 8 0 (List.length (List.map zao a0))),(3,AV.loc 3 8 0 0),(5,I x0)],[(3,⟨8,za0,[zao a1],true⟩),(950,⟨8,za0,List.map zao a0,false⟩)]⟩
noncomputable def zkV (a0:List GGiven) (a1:GGiven) (x0:Int):Option (AV×Mem):=pt zsE 1004 ⟨[(0,AV.row 950 8 0 (List.length (List.map zao a0))),(3,AV.loc 3 8 0 0),(5,I x0),(18,B false)],[(3,⟨8,za0,[zao a1],true⟩),(950,⟨8,za0,List.map zao a0,false⟩)]⟩
noncomputable def zkA (a0:List GGiven) (a1:GGiven) (x0:Int):Option (AV×Mem):=pt zsE 1007 ⟨[(0,AV.row 950 8 0 (List.length (List.map zao a0))),(3,AV.loc 3 8 0 0),(5,I x0),(32,B false)],[(3,⟨8,za0,[zao a1],true⟩),(950,⟨8,za0,List.map zao a0,false⟩)]⟩
theorem zzt (a0:List GGiven) (a1:GGiven) (x0:Int) {y:AV×Mem} (h:(
 brn (decide (0 < x0)) (chk ((0:Int)≤(w64 (x0 - 1)))<|
 chk ((w64 (x0 - 1):Int) < ((↑(List.map zao a0).length:Int)))<|
 elemD za6 (List.map zao a0) (0+(w64 (x0 - 1)).toNat) fun (c1:GGiven) =>
 callD znc (cw zqj [AV.agg (zao a1),AV.agg (zao c1)] []) fun (r2:Bool) =>
 brn r2 (zoI a0 a1 (w64 (x0 - 1)))
 (zkV a0 a1 x0))
 (zkV a0 a1 x0))=some y):zoI a0 a1 x0=some y:=
 pt_of zT [7,4] (by kernel_rfl) h
theorem zDF (a0:List GGiven) (a1:GGiven) (x0:Int) {y:AV×Mem} (h:(
 brn (decide (0 < x0)) (chk ((0:Int)≤(w64 (x0 - 1)))<|
 chk ((w64 (x0 - 1):Int) < ((↑(List.map zao a0).length:Int)))<|
 elemD za6 (List.map zao a0) (0+(w64 (x0 - 1)).toNat) fun (c3:GGiven) =>
 callD znc (cw zqj [AV.agg (zao c3),AV.agg (zao a1)] []) fun (r4:Bool) =>
 brn (!r4) (chk ((0:Int)≤(w64 (x0 - 1)))<|
 chk ((w64 (x0 - 1):Int) < ((↑(List.map zao a0).length:Int)))<|
 elemD za6 (List.map zao a0) (0+(w64 (x0 - 1)).toNat) fun (c5:GGiven) =>
 chk ((List.map zao a0).length=((List.map zao a0).set (0+(w64 (x0 - 1)).toNat) [I a1.Script,I a1.Part,I a1.Marker,I a1.Level,I a1.Value,I a1.Stamp.Time,I a1.Stamp.Source,I a1.Stamp.Seq]).length)<|
 some (AV.new 8 za0 (List.set (List.map zao a0) (0+(w64 (x0 - 1)).toNat) (zao a1)),[]))
 (zkA a0 a1 x0))
 (zkA a0 a1 x0))=some y):zkV a0 a1 x0=some y:=
 pt_of zT [7,4] (by kernel_rfl) h
theorem zD2 (a0:List GGiven) (a1:GGiven) (x0:Int) {y:AV×Mem} (h:(
 chk ((List.map zao a0).length=(List.map zao a0).length)<|
 chk (((List.map zao a0).length+1)*(64+1)≤1099511627776)<|
 chk ((List.map zao a0++[[I a1.Script,I a1.Part,I a1.Marker,I a1.Level,I a1.Value,I a1.Stamp.Time,I a1.Stamp.Source,I a1.Stamp.Seq]]).length=(List.map zao a0++[[I a1.Script,I a1.Part,I a1.Marker,I a1.Level,I a1.Value,I a1.Stamp.Time,I a1.Stamp.Source,I a1.Stamp.Seq]]).length)<|
 chk ((0:Int)≤(w64 (x0+1)))<|
 chk ((w64 (x0+1)).toNat≤(List.map zao a0++[[I a1.Script,I a1.Part,I a1.Marker,I a1.Level,I a1.Value,I a1.Stamp.Time,I a1.Stamp.Source,I a1.Stamp.Seq]]).length)<|
 chk ((List.map zao a0++[[I a1.Script,I a1.Part,I a1.Marker,I a1.Level,I a1.Value,I a1.Stamp.Time,I a1.Stamp.Source,I a1.Stamp.Seq]]).length≤(List.map zao a0++[[I a1.Script,I a1.Part,I a1.Marker,I a1.Level,I a1.Value,I a1.Stamp.Time,I a1.Stamp.Source,I a1.Stamp.Seq]]).length)<|
 chk ((0:Int)≤x0)<|
 chk (x0.toNat≤(List.map zao a0++[[I a1.Script,I a1.Part,I a1.Marker,I a1.Level,I a1.Value,I a1.Stamp.Time,I a1.Stamp.Source,I a1.Stamp.Seq]]).length)<|
 chk ((List.map zao a0++[[I a1.Script,I a1.Part,I a1.Marker,I a1.Level,I a1.Value,I a1.Stamp.Time,I a1.Stamp.Source,I a1.Stamp.Seq]]).length≤(List.map zao a0++[[I a1.Script,I a1.Part,I a1.Marker,I a1.Level,I a1.Value,I a1.Stamp.Time,I a1.Stamp.Source,I a1.Stamp.Seq]]).length)<|
 chk (0+x0.toNat+((List.map zao a0++[[I a1.Script,I a1.Part,I a1.Marker,I a1.Level,I a1.Value,I a1.Stamp.Time,I a1.Stamp.Source,I a1.Stamp.Seq]]).length - x0.toNat)≤(List.map zao a0++[[I a1.Script,I a1.Part,I a1.Marker,I a1.Level,I a1.Value,I a1.Stamp.Time,I a1.Stamp.Source,I a1.Stamp.Seq]]).length)<|
 chk (0+(w64 (x0+1)).toNat+((List.map zao a0++[[I a1.Script,I a1.Part,I a1.Marker,I a1.Level,I a1.Value,I a1.Stamp.Time,I a1.Stamp.Source,I a1.Stamp.Seq]]).length - (w64 (x0+1)).toNat)≤(List.map zao a0++[[I a1.Script,I a1.Part,I a1.Marker,I a1.Level,I a1.Value,I a1.Stamp.Time,I a1.Stamp.Source,I a1.Stamp.Seq]]).length)<|
 chk ((0:Int)≤x0)<|
 chk ((x0:Int) < ((↑(List.map zao a0++[[I a1.Script,I a1.Part,I a1.Marker,I a1.Level,I a1.Value,I a1.Stamp.Time,I a1.Stamp.Source,I a1.Stamp.Seq]]).length:Int)))<|
 elemD za6 (((List.take (0+(w64 (x0+1)).toNat) ((List.map zao a0)++([zao a1])))++(List.take ((List.map zao a0++[[I a1.Script,I a1.Part,I a1.Marker,I a1.Level,I a1.Value,I a1.Stamp.Time,I a1.Stamp.Source,I a1.Stamp.Seq]]).length - (w64 (x0+1)).toNat) (List.take ((List.map zao a0++[[I a1.Script,I a1.Part,I a1.Marker,I a1.Level,I a1.Value,I a1.Stamp.Time,I a1.Stamp.Source,I a1.Stamp.Seq]]).length - x0.toNat) (List.drop (0+x0.toNat) ((List.map zao a0)++([zao a1]))))))++(List.drop (0+(w64 (x0+1)).toNat+Min.min (List.take ((List.map zao a0++[[I a1.Script,I a1.Part,I a1.Marker,I a1.Level,I a1.Value,I a1.Stamp.Time,I a1.Stamp.Source,I a1.Stamp.Seq]]).length - x0.toNat) (List.drop (0+x0.toNat) (List.map zao a0++[[I a1.Script,I a1.Part,I a1.Marker,I a1.Level,I a1.Value,I a1.Stamp.Time,I a1.Stamp.Source,I a1.Stamp.Seq]]))).length ((List.map zao a0++[[I a1.Script,I a1.Part,I a1.Marker,I a1.Level,I a1.Value,I a1.Stamp.Time,I a1.Stamp.Source,I a1.Stamp.Seq]]).length - (w64 (x0+1)).toNat)) ((List.map zao a0)++([zao a1])))) (0+x0.toNat) fun (c6:GGiven) =>
 chk ((List.map zao a0++[[I a1.Script,I a1.Part,I a1.Marker,I a1.Level,I a1.Value,I a1.Stamp.Time,I a1.Stamp.Source,I a1.Stamp.Seq]]).length=((List.take (0+(w64 (x0+1)).toNat) (List.map zao a0++[[I a1.Script,I a1.Part,I a1.Marker,I a1.Level,I a1.Value,I a1.Stamp.Time,I a1.Stamp.Source,I a1.Stamp.Seq]])++List.take ((List.map zao a0++[[I a1.Script,I a1.Part,I a1.Marker,I a1.Level,I a1.Value,I a1.Stamp.Time,I a1.Stamp.Source,I a1.Stamp.Seq]]).length - (w64 (x0+1)).toNat) (List.take ((List.map zao a0++[[I a1.Script,I a1.Part,I a1.Marker,I a1.Level,I a1.Value,I a1.Stamp.Time,I a1.Stamp.Source,I a1.Stamp.Seq]]).length - x0.toNat) (List.drop (0+x0.toNat) (List.map zao a0++[[I a1.Script,I a1.Part,I a1.Marker,I a1.Level,I a1.Value,I a1.Stamp.Time,I a1.Stamp.Source,I a1.Stamp.Seq]])))++List.drop (0+(w64 (x0+1)).toNat+Min.min (List.take ((List.map zao a0++[[I a1.Script,I a1.Part,I a1.Marker,I a1.Level,I a1.Value,I a1.Stamp.Time,I a1.Stamp.Source,I a1.Stamp.Seq]]).length - x0.toNat) (List.drop (0+x0.toNat) (List.map zao a0++[[I a1.Script,I a1.Part,I a1.Marker,I a1.Level,I a1.Value,I a1.Stamp.Time,I a1.Stamp.Source,I a1.Stamp.Seq]]))).length ((List.map zao a0++[[I a1.Script,I a1.Part,I a1.Marker,I a1.Level,I a1.Value,I a1.Stamp.Time,I a1.Stamp.Source,I a1.Stamp.Seq]]).length - (w64 (x0+1)).toNat)) (List.map zao a0++[[I a1.Script,I a1.Part,I a1.Marker,I a1.Level,I a1.Value,I a1.Stamp.Time,I a1.Stamp.Source,I a1.Stamp.Seq]])).set (0+x0.toNat) [I a1.Script,I a1.Part,I a1.Marker,I a1.Level,I a1.Value,I a1.Stamp.Time,I a1.Stamp.Source,I a1.Stamp.Seq]).length)<|
 some (AV.new 8 za0 (List.set (((List.take (0+(w64 (x0+1)).toNat) ((List.map zao a0)++([zao a1])))++(List.take ((List.map zao a0++[[I a1.Script,I a1.Part,I a1.Marker,I a1.Level,I a1.Value,I a1.Stamp.Time,I a1.Stamp.Source,I a1.Stamp.Seq]]).length - (w64 (x0+1)).toNat) (List.take ((List.map zao a0++[[I a1.Script,I a1.Part,I a1.Marker,I a1.Level,I a1.Value,I a1.Stamp.Time,I a1.Stamp.Source,I a1.Stamp.Seq]]).length - x0.toNat) (List.drop (0+x0.toNat) ((List.map zao a0)++([zao a1]))))))++(List.drop (0+(w64 (x0+1)).toNat+Min.min (List.take ((List.map zao a0++[[I a1.Script,I a1.Part,I a1.Marker,I a1.Level,I a1.Value,I a1.Stamp.Time,I a1.Stamp.Source,I a1.Stamp.Seq]]).length - x0.toNat) (List.drop (0+x0.toNat) (List.map zao a0++[[I a1.Script,I a1.Part,I a1.Marker,I a1.Level,I a1.Value,I a1.Stamp.Time,I a1.Stamp.Source,I a1.Stamp.Seq]]))).length ((List.map zao a0++[[I a1.Script,I a1.Part,I a1.Marker,I a1.Level,I a1.Value,I a1.Stamp.Time,I a1.Stamp.Source,I a1.Stamp.Seq]]).length - (w64 (x0+1)).toNat)) ((List.map zao a0)++([zao a1])))) (0+x0.toNat) (zao a1)),[]))=some y):zkA a0 a1 x0=some y:=
 pt_of zT [7,4] (by kernel_rfl) h
theorem zKh (a0:List GGiven) (a1:GGiven) {y:AV×Mem} (h:(
 zoI a0 a1 ((↑(List.map zao a0).length:Int)))=some y):cw zsx [AV.row 950 8 0 (List.length (List.map zao a0)),AV.agg (zao a1)] [(950,⟨8,za0,List.map zao a0,false⟩)]=some y:=
 zah zsE zT [7,4] rfl (by kernel_rfl) (by kernel_rfl) (by kernel_rfl) (by kernel_rfl) (by kernel_rfl) h
noncomputable def zp6 (a2:Int) (a3:Int) (c1:GMarker) (c3:GScript) (r5:Int×GmarkDice) (r7:Int×GmarkDice) (r8:Bool×GmarkDice):Option (AV×Mem):=pt zpq 1012 ⟨[(8,AV.loc 8 9 0 0),(10,AV.loc 10 9 0 0)],[(8,⟨9,zar,[[I 0,I 0,I 0,I 0,I 0,I 0,I 0,I 0,AV.v (.slice none 0 0)]],true⟩),(10,⟨9,zar,[[I a3,I c1.ID,I a2,I 0,I c3.Number,I r5.fst,I (w64 (r7.fst - 1)),I 0,AV.row 900 1 0 0]],true⟩),(900,⟨1,zaj,[],false⟩),(1000,⟨2,zad,[zal r8.snd],true⟩)]⟩
noncomputable def znL (a2:Int) (a3:Int) (c1:GMarker) (c3:GScript) (r5:Int×GmarkDice) (r7:Int×GmarkDice) (r8:Bool×GmarkDice):Option (AV×Mem):=pt zpq 1012 ⟨[(8,AV.loc 8 9 0 0),(10,AV.loc 10 9 0 0),(72,B false)],[(8,⟨9,zar,[[I 0,I 0,I 0,I 0,I 0,I 0,I 0,I 0,AV.v (.slice none 0 0)]],true⟩),(10,⟨9,zar,[[I a3,I c1.ID,I a2,I 0,I c3.Number,I r5.fst,I (w64 (r7.fst - 1)),I 0,AV.row 900 1 0 (List.length (List.map zaa c3.Pages))]],true⟩),(900,⟨1,zaj,List.map zaa c3.Pages,false⟩),(1000,⟨2,zad,[zal r8.snd],true⟩)]⟩
theorem zxQ (a2:Int) (a3:Int) (c1:GMarker) (c3:GScript) (r5:Int×GmarkDice) (r7:Int×GmarkDice) (r8:Bool×GmarkDice) {y:AV×Mem} (h:(
 chk (0+0≤0)<|
 some (AV.agg (zab (⟨⟨a3,c1.ID,a2⟩,0,c3.Number,r5.fst,w64 (r7.fst - 1),0,[]⟩)),[(1000,⟨2,zad,[zal r8.snd],true⟩)]))=some y):zp6 a2 a3 c1 c3 r5 r7 r8=some y:=
 pt_of zT [12] (by kernel_rfl) h
theorem zvI (a2:Int) (a3:Int) (c1:GMarker) (c3:GScript) (r5:Int×GmarkDice) (r7:Int×GmarkDice) (r8:Bool×GmarkDice) {y:AV×Mem} (h:(
 chk (0+(List.map zaa c3.Pages).length≤(List.map zaa c3.Pages).length)<|
 some (AV.agg [I a3,I c1.ID,I a2,I 0,I c3.Number,I r5.fst,I (w64 (r7.fst - 1)),I 0,AV.sl 1 (List.take ((List.map zaa c3.Pages).length) (List.map zaa c3.Pages))],[(1000,⟨2,zad,[zal r8.snd],true⟩)]))=some y):znL a2 a3 c1 c3 r5 r7 r8=some y:=
 pt_of zT [12] (by kernel_rfl) h
theorem zpl (a0:GmarkDice) (a1:GSetup) (a2:Int) (a3:Int) {y:AV×Mem} (h:(
 callD zaA (cw zaB [AV.loc 1000 2 0 0,I ((↑(List.map zaO a1.Markers).length:Int))] [(1000,⟨2,zad,[zal a0],true⟩)]) fun (r0:Int×GmarkDice) =>
 chk (0≤r0.fst)<|
 elemD zb6 (List.map zaO a1.Markers) (Int.toNat r0.fst) fun (c1:GMarker) =>
 brn ((↑(List.map zaw a1.Scripts).length:Int) == 0) (chk (0+0≤0)<|
 some (AV.agg (zab (⟨⟨a3,c1.ID,a2⟩,0,0,0,0,0,[]⟩)),[(1000,⟨2,zad,[zal r0.snd],true⟩)]))
 (callD zaA (cw zaB [AV.loc 1000 2 0 0,I ((↑(List.map zaw a1.Scripts).length:Int))] [(1000,⟨2,zad,[zal r0.snd],true⟩)]) fun (r2:Int×GmarkDice) =>
 chk (0≤r2.fst)<|
 elemD zbb (List.map zaw a1.Scripts) (Int.toNat r2.fst) fun (c3:GScript) =>
 callD zj9 (cw zm2 [AV.sl 3 (List.map zas a1.Papers),AV.agg (zaw c3)] []) fun (r4:GPaper) =>
 callD zaA (cw zaB [AV.loc 1000 2 0 0,I ((↑(List.map zav r4.Parts).length:Int))] [(1000,⟨2,zad,[zal r2.snd],true⟩)]) fun (r5:Int×GmarkDice) =>
 chk (0≤r5.fst)<|
 elemD zce (List.map zav r4.Parts) (Int.toNat r5.fst) fun (c6:GPart) =>
 callD zaA (cw zaB [AV.loc 1000 2 0 0,I (w64 (c6.Max+2))] [(1000,⟨2,zad,[zal r5.snd],true⟩)]) fun (r7:Int×GmarkDice) =>
 chk ((List.map zaa c3.Pages).length*(8+1)≤1099511627776)<|
 callD zcz (cw zc8 [AV.loc 1000 2 0 0,I 12] [(1000,⟨2,zad,[zal r7.snd],true⟩)]) fun (r8:Bool×GmarkDice) =>
 brn r8.fst (zp6 a2 a3 c1 c3 r5 r7 r8)
 (znL a2 a3 c1 c3 r5 r7 r8)))=some y):cw zpm [AV.loc 1000 2 0 0,AV.agg (zat a1),I a2,I a3] [(1000,⟨2,zad,[zal a0],true⟩)]=some y:=
 zah zpq zT [12] rfl (by kernel_rfl) (by kernel_rfl) (by kernel_rfl) (by kernel_rfl) (by kernel_rfl) h
noncomputable def zj7 (a0:List GPaper) (a1:GScript) (x0:Int):Option (AV×Mem):=pt zA6 1 ⟨[(0,AV.sl 3 (List.map zas a0)),(3,AV.loc 3 7 0 0),(4,AV.loc 4 3 0 0),(5,I x0)],[(3,⟨7,zbz,[zaw a1],true⟩),(4,⟨3,zbc,[[I 0,I 0,AV.v (.slice none 0 0)]],true⟩)]⟩
theorem zr1 (a0:List GPaper) (a1:GScript) (x0:Int) {y:AV×Mem} (h:(
 brn (decide (x0 < (↑(List.map zas a0).length:Int))) (chk ((0:Int)≤x0)<|
 elemD zbj (List.map zas a0) x0.toNat fun (c1:GPaper) =>
 brn (c1.Code == a1.Paper) (chk ((0:Int)≤x0)<|
 elemD zbj (List.map zas a0) x0.toNat fun (c2:GPaper) =>
 brn (c2.Variant == a1.Variant) (chk ((0:Int)≤x0)<|
 elemD zbj (List.map zas a0) x0.toNat fun (c3:GPaper) =>
 some (AV.agg (zas c3),[]))
 (zj7 a0 a1 (w64 (x0+1))))
 (zj7 a0 a1 (w64 (x0+1))))
 (some (AV.agg (zas (⟨0,0,[]⟩)),[])))=some y):zj7 a0 a1 x0=some y:=
 pt_of zT [] (by kernel_rfl) h
theorem zIS (a0:List GPaper) (a1:GScript) {y:AV×Mem} (h:(
 zj7 a0 a1 0)=some y):cw zm2 [AV.sl 3 (List.map zas a0),AV.agg (zaw a1)] []=some y:=
 zah zA6 zT [] rfl (by kernel_rfl) (by kernel_rfl) (by kernel_rfl) (by kernel_rfl) (by kernel_rfl) h
theorem zEF (a0:GSetup) {y:AV×Mem} (h:(
 callD znq (cw zr8 [AV.sl 5 (List.map zaO a0.Markers)] []) fun (r0:Int) =>
 brn (r0 != 0) (some (I 1,[]))
 (callD zgp (cw zka [AV.sl 7 (List.map zaw a0.Scripts)] []) fun (r1:Int) =>
 brn (r1 != 0) (some (I 1,[]))
 (callD zgq (cw zke [AV.agg (zat a0)] []) fun (r2:Bool) =>
 brn (!r2) (some (I 1,[]))
 (callD zfT (cw zjb [AV.agg (zat a0)] []) fun (r3:Bool) =>
 brn (!r3) (some (I 1,[]))
 (callD zhd (cw zkS [AV.agg (zat a0)] []) fun (r4:Bool) =>
 brn (!r4) (some (I 1,[]))
 (callD zl8 (cw zqR [AV.agg (zba a0.Monitor)] []) fun (r5:Int) =>
 brn (r5 != 0) (some (I 1,[]))
 (some (I 0,[]))))))))=some y):cw zmn [AV.agg (zat a0)] []=some y:=
 zah zFj zT [] rfl (by kernel_rfl) (by kernel_rfl) (by kernel_rfl) (by kernel_rfl) (by kernel_rfl) h
theorem zAa (a0:GMarkRule) {y:AV×Mem} (h:(
 brn (decide (a0.Tolerance < 0)) (some (I 2,[]))
 (brn (decide (40 < a0.Tolerance)) (some (I 2,[]))
 (some (I 0,[]))))=some y):cw zhX [AV.agg (zaU a0)] []=some y:=
 zah zzX zT [] rfl (by kernel_rfl) (by kernel_rfl) (by kernel_rfl) (by kernel_rfl) (by kernel_rfl) h
noncomputable def zeW (a0:GMarkRule) (a1:GSetup) (a2:GMarking) (a3:Int) (x1:Int):Option (AV×Mem):=pt zov 1 ⟨[(3,I a3),(4,AV.loc 4 2 0 0),(5,AV.loc 5 9 0 0),(6,AV.loc 6 2 0 0),(17,AV.sl 7 (List.map zaw a1.Scripts)),(18,I ((↑(List.map zaw a1.Scripts).length:Int))),(19,I x1)],[(4,⟨2,zcT,[zaU a0],true⟩),(5,⟨9,zaE,[zat a1],true⟩),(6,⟨2,zdj,[zbk a2],true⟩)]⟩
theorem zhN (a0:GMarkRule) (a1:GSetup) (a2:GMarking) (a3:Int) (x1:Int) {y:AV×Mem} (h:(
 brn (decide (x1 < (↑(List.map zaw a1.Scripts).length:Int))) (chk ((0:Int)≤x1)<|
 elemD zbb (List.map zaw a1.Scripts) x1.toNat fun (c2:GScript) =>
 brn (c2.Number == a3) (callD zfZ (cw zjm [AV.agg (zaU a0),AV.agg (zat a1),AV.agg (zbk a2),AV.agg (zaw c2)] []) fun (r3:(List GVerdict)) =>
 chk (0+(List.map zaM r3).length≤(List.map zaM r3).length)<|
 some (AV.tup [AV.sl 2 (List.take ((List.map zaM r3).length) (List.map zaM r3)),I 0],[]))
 (zeW a0 a1 a2 a3 (w64 (x1+1))))
 (some (AV.tup [AV.sl 2 (List.map zaM []),I 4],[])))=some y):zeW a0 a1 a2 a3 x1=some y:=
 pt_of zT [] (by kernel_rfl) h
theorem zwq (a0:GMarkRule) (a1:GSetup) (a2:GMarking) (a3:Int) {y:AV×Mem} (h:(
 callD zhU (cw zl4 [AV.agg (zaU a0),AV.agg (zat a1)] []) fun (r0:Bool) =>
 brn (!r0) (some (AV.tup [AV.sl 2 (List.map zaM []),I 1],[]))
 (zeW a0 a1 a2 a3 0))=some y):cw zjj [AV.agg (zaU a0),AV.agg (zat a1),AV.agg (zbk a2),I a3] []=some y:=
 zah zov zT [] rfl (by kernel_rfl) (by kernel_rfl) (by kernel_rfl) (by kernel_rfl) (by kernel_rfl) h
theorem zHK (a0:GMarkRule) {y:AV×Mem} (h:(
 brn (decide (a0.Tolerance < 0)) (some (I 2,[]))
 (brn (decide (40 < a0.Tolerance)) (some (I 2,[]))
 (some (I 0,[]))))=some y):cw zoN [AV.agg (zaU a0)] []=some y:=
 zah zG9 zT [] rfl (by kernel_rfl) (by kernel_rfl) (by kernel_rfl) (by kernel_rfl) (by kernel_rfl) h
end Go.Proofs.YticojpmhlhfhlaaGreat
