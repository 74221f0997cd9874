/- What the functions compute, between two cut points: printed by a program, checked by the kernel. -/
import Derived.Test.YticojpmhlhfhlaaGreatAnn
namespace Go.Proofs.YticojpmhlhfhlaaGreat
open Go.Ab
set_option maxRecDepth 100000
set_option linter.unusedVariables false
noncomputable def zkQ (a0:List GScript) (a1:Int) (x0:Int):Option (AV×Mem):=pt zxE 1 ⟨[(0,AV.sl 7 (List.map zaw a0)),(1,I a1),(4,AV.loc 4 7 0 0),(6,I x0)],[(4,⟨7,zbz,[[I 0,I 0,I 0,I 0,I 0,AV.v (.slice none 0 0),AV.v (.slice none 0 0)]],true⟩)]⟩
theorem zpz (a0:List GScript) (a1:Int) (x0:Int) {y:AV×Mem} (h:(
 brn (decide (x0 < (↑(List.map zaw a0).length:Int))) (chk ((0:Int)≤x0)<|
 elemD zbb (List.map zaw a0) x0.toNat fun (c1:GScript) =>
 brn (c1.Number == a1) (chk ((0:Int)≤x0)<|
 elemD zbb (List.map zaw a0) x0.toNat fun (c2:GScript) =>
 some (AV.tup [AV.agg (zaw c2),B true],[]))
 (zkQ a0 a1 (w64 (x0+1))))
 (some (AV.tup [AV.agg (zaw (⟨0,0,0,0,0,[],[]⟩)),B false],[])))=some y):zkQ a0 a1 x0=some y:=
 pt_of zT [] (by kernel_rfl) h
theorem zGh (a0:List GScript) (a1:Int) {y:AV×Mem} (h:(
 zkQ a0 a1 0)=some y):cw zj1 [AV.sl 7 (List.map zaw a0),I a1] []=some y:=
 zah zxE zT [] rfl (by kernel_rfl) (by kernel_rfl) (by kernel_rfl) (by kernel_rfl) (by kernel_rfl) h
theorem zDm (a0:List GMarker) (a1:Int) (a2:GScript) {y:AV×Mem} (h:(
 callD zkd (cw zmx [AV.sl 5 (List.map zaO a0),I a1] []) fun (r0:GMarker×Bool) =>
 brn r0.snd (callD zqO (cw zvx [AV.agg (zaO r0.fst),AV.agg (zaw a2)] []) fun (r1:Bool) =>
 some (B r1,[]))
 (some (B false,[])))=some y):cw zpH [AV.sl 5 (List.map zaO a0),I a1,AV.agg (zaw a2)] []=some y:=
 zah zDQ zT [] rfl (by kernel_rfl) (by kernel_rfl) (by kernel_rfl) (by kernel_rfl) (by kernel_rfl) h
theorem zI4 (a0:GPaper) (a1:Int) {y:AV×Mem} (h:(
 brn (decide (0≤a1)) (brn (decide (a1 < (↑(List.map zav a0.Parts).length:Int))) (chk ((0:Int)≤a1)<|
 elemD zce (List.map zav a0.Parts) a1.toNat fun (c0:GPart) =>
 some (B (c0.Kind == 1),[]))
 (some (B false,[])))
 (some (B false,[])))=some y):cw zm6 [AV.agg (zas a0),I a1] []=some y:=
 zah zJa zT [] rfl (by kernel_rfl) (by kernel_rfl) (by kernel_rfl) (by kernel_rfl) (by kernel_rfl) h
theorem zBI (a0:GPaper) (a1:GScheme) (a2:Int) (a3:Int) {y:AV×Mem} (h:(
 callD zgC (cw zie [AV.agg (zas a0),AV.agg (zaW a1)] []) fun (r0:Bool) =>
 brn (!r0) (some (B false,[]))
 (brn (decide (a2 < 0)) (some (B false,[]))
 (brn (decide ((↑(List.map zav a0.Parts).length:Int)≤a2)) (some (B false,[]))
 (chk ((0:Int)≤a2)<|
 elemD zce (List.map zav a0.Parts) a2.toNat fun (c1:GPart) =>
 chk ((0:Int)≤a2)<|
 elemD zce (List.map zav a0.Parts) a2.toNat fun (c2:GPart) =>
 brn (c2.Kind == 2) (brn (a3 == -1) (some (B true,[]))
 (brn (a3 == 0) (some (B true,[]))
 (some (B (a3 == c1.Max),[]))))
 (brn (decide (-1≤a3)) (some (B (decide (a3≤c1.Max)),[]))
 (some (B false,[])))))))=some y):cw zn9 [AV.agg (zas a0),AV.agg (zaW a1),I a2,I a3] []=some y:=
 zah zBL zT [] rfl (by kernel_rfl) (by kernel_rfl) (by kernel_rfl) (by kernel_rfl) (by kernel_rfl) h
noncomputable def zh0 (a0:List Int) (a1:List Int) (x0:Int):Option (AV×Mem):=pt zt1 1 ⟨[(0,AV.sl 1 (List.map zaa a0)),(1,AV.sl 1 (List.map zaa a1)),(5,I x0)],[]⟩
theorem zlY (a0:List Int) (a1:List Int) (x0:Int) {y:AV×Mem} (h:(
 brn (decide (x0 < (↑(List.map zaa a0).length:Int))) (chk ((0:Int)≤x0)<|
 elemD zag (List.map zaa a0) x0.toNat fun (c1:Int) =>
 chk ((0:Int)≤x0)<|
 elemD zag (List.map zaa a1) x0.toNat fun (c2:Int) =>
 brn (c1 != c2) (some (B false,[]))
 (zh0 a0 a1 (w64 (x0+1))))
 (some (B true,[])))=some y):zh0 a0 a1 x0=some y:=
 pt_of zT [] (by kernel_rfl) h
theorem zB5 (a0:List Int) (a1:List Int) {y:AV×Mem} (h:(
 brn ((↑(List.map zaa a0).length:Int) != (↑(List.map zaa a1).length:Int)) (some (B false,[]))
 (zh0 a0 a1 0))=some y):cw zgV [AV.sl 1 (List.map zaa a0),AV.sl 1 (List.map zaa a1)] []=some y:=
 zah zt1 zT [] rfl (by kernel_rfl) (by kernel_rfl) (by kernel_rfl) (by kernel_rfl) (by kernel_rfl) h
theorem zu6 (a0:GGiven) (a1:GGiven) {y:AV×Mem} (h:(
 brn (a0.Script != a1.Script) (some (B (decide (a0.Script < a1.Script)),[]))
 (brn (a0.Part != a1.Part) (some (B (decide (a0.Part < a1.Part)),[]))
 (some (B (decide (a0.Marker < a1.Marker)),[]))))=some y):cw zqj [AV.agg (zao a0),AV.agg (zao a1)] []=some y:=
 zah zI0 zT [] rfl (by kernel_rfl) (by kernel_rfl) (by kernel_rfl) (by kernel_rfl) (by kernel_rfl) h
noncomputable def zhD (a0:List GMarker) (x0:Int):Option (AV×Mem):=pt zxb 1 ⟨[(0,AV.sl 5 (List.map zaO a0)),(8,AV.sl 5 (List.map zaO a0)),(9,I ((↑(List.map zaO a0).length:Int))),(10,I x0)],[]⟩
theorem zhC (a0:List GMarker) (x0:Int) {y:AV×Mem} (h:(
 brn (decide (x0 < (↑(List.map zaO a0).length:Int))) (chk ((0:Int)≤x0)<|
 elemD zb6 (List.map zaO a0) x0.toNat fun (c1:GMarker) =>
 callD zgY (cw zla [AV.agg (zaO c1)] []) fun (r2:Bool) =>
 brn (!r2) (some (I 2,[]))
 (callD zmo (cw zqh [AV.sl 1 (List.map zaa c1.Papers)] []) fun (r3:Bool) =>
 brn (!r3) (some (I 43,[]))
 (brn (decide (0 < x0)) (chk ((0:Int)≤(w64 (x0 - 1)))<|
 elemD zb6 (List.map zaO a0) ((w64 (x0 - 1)).toNat) fun (c4:GMarker) =>
 brn (decide (c1.ID≤c4.ID)) (some (I 43,[]))
 (zhD a0 (w64 (x0+1))))
 (zhD a0 (w64 (x0+1))))))
 (some (I 0,[])))=some y):zhD a0 x0=some y:=
 pt_of zT [] (by kernel_rfl) h
theorem zxw (a0:List GMarker) {y:AV×Mem} (h:(
 brn (decide (16 < (↑(List.map zaO a0).length:Int))) (some (I 3,[]))
 (zhD a0 0))=some y):cw zr8 [AV.sl 5 (List.map zaO a0)] []=some y:=
 zah zxb zT [] rfl (by kernel_rfl) (by kernel_rfl) (by kernel_rfl) (by kernel_rfl) (by kernel_rfl) h
noncomputable def zdV (a0:List GScript) (x0:Int):Option (AV×Mem):=pt zqb 1 ⟨[(0,AV.sl 7 (List.map zaw a0)),(8,AV.sl 7 (List.map zaw a0)),(9,I ((↑(List.map zaw a0).length:Int))),(10,I x0)],[]⟩
theorem zc3 (a0:List GScript) (x0:Int) {y:AV×Mem} (h:(
 brn (decide (x0 < (↑(List.map zaw a0).length:Int))) (chk ((0:Int)≤x0)<|
 elemD zbb (List.map zaw a0) x0.toNat fun (c1:GScript) =>
 callD zhO (cw zk1 [I c1.Paper] []) fun (r2:Bool) =>
 brn (!r2) (some (I 2,[]))
 (brn (decide (c1.Candidate < 0)) (some (I 2,[]))
 (brn (decide (9999 < c1.Candidate)) (some (I 2,[]))
 (brn (decide (c1.Centre < 0)) (some (I 2,[]))
 (brn (decide (99 < c1.Centre)) (some (I 2,[]))
 (brn (decide (c1.Variant < 0)) (some (I 2,[]))
 (brn (decide (31 < c1.Variant)) (some (I 2,[]))
 (brn (c1.Number != w64 (w64 (c1.Paper*10000)+c1.Candidate)) (some (I 1,[]))
 (brn (decide (12 < (↑(List.map zaa c1.Pages).length:Int))) (some (I 1,[]))
 (brn (decide (0 < x0)) (chk ((0:Int)≤(w64 (x0 - 1)))<|
 elemD zbb (List.map zaw a0) ((w64 (x0 - 1)).toNat) fun (c3:GScript) =>
 brn (decide (c1.Number≤c3.Number)) (some (I 43,[]))
 (zdV a0 (w64 (x0+1))))
 (zdV a0 (w64 (x0+1)))))))))))))
 (some (I 0,[])))=some y):zdV a0 x0=some y:=
 pt_of zT [] (by kernel_rfl) h
theorem zpZ (a0:List GScript) {y:AV×Mem} (h:(
 brn (decide (60 < (↑(List.map zaw a0).length:Int))) (some (I 3,[]))
 (zdV a0 0))=some y):cw zka [AV.sl 7 (List.map zaw a0)] []=some y:=
 zah zqb zT [] rfl (by kernel_rfl) (by kernel_rfl) (by kernel_rfl) (by kernel_rfl) (by kernel_rfl) h
noncomputable def zfv (a0:GSetup) (x0:Int):Option (AV×Mem):=pt zp8 1 ⟨[(1,AV.loc 1 9 0 0),(19,AV.sl 3 (List.map zas a0.Papers)),(20,I ((↑(List.map zas a0.Papers).length:Int))),(21,I x0)],[(1,⟨9,zaE,[zat a0],true⟩)]⟩
theorem znF (a0:GSetup) (x0:Int) {y:AV×Mem} (h:(
 brn (decide (x0 < (↑(List.map zas a0.Papers).length:Int))) (chk ((0:Int)≤x0)<|
 elemD zbj (List.map zas a0.Papers) x0.toNat fun (c1:GPaper) =>
 chk ((0:Int)≤x0)<|
 elemD zcg (List.map zaW a0.Schemes) x0.toNat fun (c2:GScheme) =>
 callD zj5 (cw znz [AV.agg (zas c1),AV.agg (zaW c2)] []) fun (r3:Bool) =>
 brn (!r3) (some (B false,[]))
 (zfv a0 (w64 (x0+1))))
 (some (B true,[])))=some y):zfv a0 x0=some y:=
 pt_of zT [] (by kernel_rfl) h
theorem zxp (a0:GSetup) {y:AV×Mem} (h:(
 brn (decide (32 < (↑(List.map zas a0.Papers).length:Int))) (some (B false,[]))
 (brn ((↑(List.map zaW a0.Schemes).length:Int) != (↑(List.map zas a0.Papers).length:Int)) (some (B false,[]))
 (zfv a0 0)))=some y):cw zke [AV.agg (zat a0)] []=some y:=
 zah zp8 zT [] rfl (by kernel_rfl) (by kernel_rfl) (by kernel_rfl) (by kernel_rfl) (by kernel_rfl) h
noncomputable def zeY (a0:GSetup) (x0:Int):Option (AV×Mem):=pt zox 1 ⟨[(1,AV.loc 1 9 0 0),(10,AV.sl 7 (List.map zaw a0.Scripts)),(11,I ((↑(List.map zaw a0.Scripts).length:Int))),(12,I x0)],[(1,⟨9,zaE,[zat a0],true⟩)]⟩
theorem zm3 (a0:GSetup) (x0:Int) {y:AV×Mem} (h:(
 brn (decide (x0 < (↑(List.map zaw a0.Scripts).length:Int))) (chk ((0:Int)≤x0)<|
 elemD zbb (List.map zaw a0.Scripts) x0.toNat fun (c1:GScript) =>
 callD zgS (cw zjB [AV.agg (zat a0),AV.agg (zaw c1)] []) fun (r2:Int×Bool) =>
 brn (!r2.snd) (some (B false,[]))
 (chk (0≤r2.fst)<|
 elemD zbj (List.map zas a0.Papers) (Int.toNat r2.fst) fun (c3:GPaper) =>
 chk (0≤r2.fst)<|
 elemD zcg (List.map zaW a0.Schemes) (Int.toNat r2.fst) fun (c4:GScheme) =>
 callD zix (cw ziD [AV.agg (zas c3),AV.agg (zaW c4),AV.sl 1 (List.map zaa c1.Answers)] []) fun (r5:(List Int)×Int) =>
 brn (r5.snd != 0) (some (B false,[]))
 (zeY a0 (w64 (x0+1)))))
 (some (B true,[])))=some y):zeY a0 x0=some y:=
 pt_of zT [] (by kernel_rfl) h
theorem zwZ (a0:GSetup) {y:AV×Mem} (h:(
 zeY a0 0)=some y):cw zjb [AV.agg (zat a0)] []=some y:=
 zah zox zT [] rfl (by kernel_rfl) (by kernel_rfl) (by kernel_rfl) (by kernel_rfl) (by kernel_rfl) h
noncomputable def zf0 (a0:GSetup) (x0:Int):Option (AV×Mem):=pt zkT 1 ⟨[(1,AV.loc 1 9 0 0),(12,AV.sl 2 (List.map zbT a0.Seeds)),(13,I ((↑(List.map zbT a0.Seeds).length:Int))),(14,I x0)],[(1,⟨9,zaE,[zat a0],true⟩)]⟩
noncomputable def zeN (a0:GSetup) (x0:Int) (c1:GSeed):Option (AV×Mem):=pt zkT 1008 ⟨[(1,AV.loc 1 9 0 0),(4,AV.loc 4 2 0 0),(12,AV.sl 2 (List.map zbT a0.Seeds)),(13,I ((↑(List.map zbT a0.Seeds).length:Int))),(14,I x0),(32,B false)],[(1,⟨9,zaE,[zat a0],true⟩),(4,⟨2,zsp,[zbT c1],true⟩)]⟩
theorem zos (a0:GSetup) (x0:Int) {y:AV×Mem} (h:(
 brn (decide (x0 < (↑(List.map zbT a0.Seeds).length:Int))) (chk ((0:Int)≤x0)<|
 elemD zeH (List.map zbT a0.Seeds) x0.toNat fun (c1:GSeed) =>
 brn (decide (0 < x0)) (chk ((0:Int)≤(w64 (x0 - 1)))<|
 elemD zeH (List.map zbT a0.Seeds) ((w64 (x0 - 1)).toNat) fun (c2:GSeed) =>
 brn (decide (c1.Script≤c2.Script)) (some (B false,[]))
 (zeN a0 x0 c1))
 (zeN a0 x0 c1))
 (some (B true,[])))=some y):zf0 a0 x0=some y:=
 pt_of zT [8] (by kernel_rfl) h
theorem zug (a0:GSetup) (x0:Int) (c1:GSeed) {y:AV×Mem} (h:(
 callD zgM (cw zjO [AV.agg (zat a0),I c1.Script] []) fun (r3:Int×Bool) =>
 brn (!r3.snd) (some (B false,[]))
 (chk (0≤r3.fst)<|
 elemD zbj (List.map zas a0.Papers) (Int.toNat r3.fst) fun (c4:GPaper) =>
 callD zg4 (cw zlg [AV.agg (zas c4),AV.sl 1 (List.map zaa c1.Marks)] []) fun (r5:Bool) =>
 brn (!r5) (some (B false,[]))
 (zf0 a0 (w64 (x0+1)))))=some y):zeN a0 x0 c1=some y:=
 pt_of zT [8] (by kernel_rfl) h
theorem zyj (a0:GSetup) {y:AV×Mem} (h:(
 brn (decide (12 < (↑(List.map zbT a0.Seeds).length:Int))) (some (B false,[]))
 (zf0 a0 0))=some y):cw zkS [AV.agg (zat a0)] []=some y:=
 zah zkT zT [8] rfl (by kernel_rfl) (by kernel_rfl) (by kernel_rfl) (by kernel_rfl) (by kernel_rfl) h
theorem zET (a0:GMonitorRule) {y:AV×Mem} (h:(
 callD zgJ (cw zjy [I a0.Part] []) fun (r0:Bool) =>
 brn (!r0) (some (I 2,[]))
 (callD zgJ (cw zjy [I a0.Total] []) fun (r1:Bool) =>
 brn (!r1) (some (I 2,[]))
 (brn (decide (a0.Window < 1)) (some (I 2,[]))
 (brn (decide (20 < a0.Window)) (some (I 2,[]))
 (brn (decide (a0.Fails < 1)) (some (I 2,[]))
 (brn (decide (a0.Window < a0.Fails)) (some (I 2,[]))
 (some (I 0,[]))))))))=some y):cw zqR [AV.agg (zba a0)] []=some y:=
 zah zFy zT [] rfl (by kernel_rfl) (by kernel_rfl) (by kernel_rfl) (by kernel_rfl) (by kernel_rfl) h
theorem zz7 (a0:GMarkRule) (a1:GSetup) {y:AV×Mem} (h:(
 callD ziO (cw zmn [AV.agg (zat a1)] []) fun (r0:Int) =>
 brn (r0 == 0) (callD zfz (cw zhX [AV.agg (zaU a0)] []) fun (r1:Int) =>
 some (B (r1 == 0),[]))
 (some (B false,[])))=some y):cw zl4 [AV.agg (zaU a0),AV.agg (zat a1)] []=some y:=
 zah zzP zT [] rfl (by kernel_rfl) (by kernel_rfl) (by kernel_rfl) (by kernel_rfl) (by kernel_rfl) h
noncomputable def zcR (a0:GMarkRule) (a2:GMarking) (a3:GScript) (c1:GPaper) (c2:GScheme) (r3:(List Int)×Int) (r4:(List Int)×Bool) (x5:List (List AV)) (x6:Int):Option (AV×Mem):=pt zjk 1 ⟨[(4,AV.loc 4 2 0 0),(6,AV.loc 6 2 0 0),(7,AV.loc 7 7 0 0),(12,AV.loc 12 2 0 0),(13,AV.sl 1 (List.map zaa r3.fst)),(15,AV.sl 1 (List.map zaa r4.fst)),(16,B r4.snd),(17,AV.row 55 2 0 ((List.replicate (↑(List.map zav c1.Parts).length:Int).toNat (I 0 :: I 0 :: List.map AV.v [])).length)),(57,AV.sl 6 (List.map zav c1.Parts)),(58,I ((↑(List.map zav c1.Parts).length:Int))),(59,I x6)],[(4,⟨2,zcT,[zaU a0],true⟩),(6,⟨2,zdj,[zbk a2],true⟩),(7,⟨7,zbz,[zaw a3],true⟩),(12,⟨2,zbL,[zaW c2],true⟩),(55,⟨2,zco,x5,false⟩)]⟩
noncomputable def zd5 (a0:GMarkRule) (a2:GMarking) (a3:GScript) (c1:GPaper) (c2:GScheme) (r3:(List Int)×Int) (r4:(List Int)×Bool) (x5:List (List AV)) (x6:Int):Option (AV×Mem):=pt zjk 1011 ⟨[(4,AV.loc 4 2 0 0),(6,AV.loc 6 2 0 0),(7,AV.loc 7 7 0 0),(12,AV.loc 12 2 0 0),(13,AV.sl 1 (List.map zaa r3.fst)),(15,AV.sl 1 (List.map zaa r4.fst)),(16,B r4.snd),(17,AV.row 55 2 0 ((List.replicate (↑(List.map zav c1.Parts).length:Int).toNat (I 0 :: I 0 :: List.map AV.v [])).length)),(18,I x6),(57,AV.sl 6 (List.map zav c1.Parts)),(58,I ((↑(List.map zav c1.Parts).length:Int))),(59,I x6),(74,B true)],[(4,⟨2,zcT,[zaU a0],true⟩),(6,⟨2,zdj,[zbk a2],true⟩),(7,⟨7,zbz,[zaw a3],true⟩),(12,⟨2,zbL,[zaW c2],true⟩),(55,⟨2,zco,x5,false⟩)]⟩
theorem zmV (a0:GMarkRule) (a2:GMarking) (a3:GScript) (c1:GPaper) (c2:GScheme) (r3:(List Int)×Int) (r4:(List Int)×Bool) (x5:List (List AV)) (x6:Int) {y:AV×Mem} (h:(
 brn (decide (x6 < (↑(List.map zav c1.Parts).length:Int))) (chk ((0:Int)≤x6)<|
 elemD zce (List.map zav c1.Parts) x6.toNat fun (c7:GPart) =>
 brn (c7.Kind == 2) (zd5 a0 a2 a3 c1 c2 r3 r4 x5 x6)
 (chk ((0:Int)≤x6)<|
 elemD zag (List.map zaa c2.Withdrawn) x6.toNat fun (c8:Int) =>
 brn (c8 != 0) (zd5 a0 a2 a3 c1 c2 r3 r4 x5 x6)
 (brn r4.snd (chk ((0:Int)≤x6)<|
 elemD zag (List.map zaa r4.fst) x6.toNat fun (c9:Int) =>
 chk ((0:Int)≤x6)<|
 chk ((x6:Int) < ((↑(List.replicate (↑(List.map zav c1.Parts).length:Int).toNat (I 0 :: I 0 :: List.map AV.v [])).length:Int)))<|
 elemD zbf x5 (0+x6.toNat) fun (c10:GVerdict) =>
 zcR a0 a2 a3 c1 c2 r3 r4 (List.set x5 (0+x6.toNat) (zaM (⟨3,c9⟩))) (w64 (x6+1)))
 (callD zi4 (cw znb [AV.agg (zbk a2),I a3.Number,I x6] []) fun (r11:(List GGiven)) =>
 chk (0+(List.map zao r11).length≤(List.map zao r11).length)<|
 callD zg8 (cw zky [AV.agg (zaU a0),AV.sl 8 (List.take ((List.map zao r11).length) (List.map zao r11))] []) fun (r12:GVerdict) =>
 chk ((0:Int)≤x6)<|
 chk ((x6:Int) < ((↑(List.replicate (↑(List.map zav c1.Parts).length:Int).toNat (I 0 :: I 0 :: List.map AV.v [])).length:Int)))<|
 elemD zbf x5 (0+x6.toNat) fun (c13:GVerdict) =>
 zcR a0 a2 a3 c1 c2 r3 r4 (List.set x5 (0+x6.toNat) (zaM r12)) (w64 (x6+1))))))
 (chk ((List.replicate (↑(List.map zav c1.Parts).length:Int).toNat (I 0 :: I 0 :: List.map AV.v [])).length=x5.length)<|
 some (AV.new 2 zco x5,[])))=some y):zcR a0 a2 a3 c1 c2 r3 r4 x5 x6=some y:=
 pt_of zT [11] (by kernel_rfl) h
theorem zta (a0:GMarkRule) (a2:GMarking) (a3:GScript) (c1:GPaper) (c2:GScheme) (r3:(List Int)×Int) (r4:(List Int)×Bool) (x5:List (List AV)) (x6:Int) {y:AV×Mem} (h:(
 chk ((0:Int)≤x6)<|
 elemD zag (List.map zaa r3.fst) x6.toNat fun (c14:Int) =>
 chk ((0:Int)≤x6)<|
 chk ((x6:Int) < ((↑(List.replicate (↑(List.map zav c1.Parts).length:Int).toNat (I 0 :: I 0 :: List.map AV.v [])).length:Int)))<|
 elemD zbf x5 (0+x6.toNat) fun (c15:GVerdict) =>
 zcR a0 a2 a3 c1 c2 r3 r4 (List.set x5 (0+x6.toNat) (zaM (⟨3,if 0 > c14 then 0 else c14⟩))) (w64 (x6+1)))=some y):zd5 a0 a2 a3 c1 c2 r3 r4 x5 x6=some y:=
 pt_of zT [11] (by kernel_rfl) h
theorem zwB (a0:GMarkRule) (a1:GSetup) (a2:GMarking) (a3:GScript) {y:AV×Mem} (h:(
 callD zgM (cw zjO [AV.agg (zat a1),I a3.Number] []) fun (r0:Int×Bool) =>
 chk (0≤r0.fst)<|
 elemD zbj (List.map zas a1.Papers) (Int.toNat r0.fst) fun (c1:GPaper) =>
 chk (0≤r0.fst)<|
 elemD zcg (List.map zaW a1.Schemes) (Int.toNat r0.fst) fun (c2:GScheme) =>
 callD zix (cw ziD [AV.agg (zas c1),AV.agg (zaW c2),AV.sl 1 (List.map zaa a3.Answers)] []) fun (r3:(List Int)×Int) =>
 callD zfd (cw zhK [AV.agg (zat a1),I a3.Number] []) fun (r4:(List Int)×Bool) =>
 chk (((↑(List.map zav c1.Parts).length:Int):Int)=((↑(List.map zav c1.Parts).length:Int)))<|
 chk ((0:Int)≤((↑(List.map zav c1.Parts).length:Int)))<|
 chk ((↑(List.map zav c1.Parts).length:Int).toNat*(16+1)≤1099511627776)<|
 zcR a0 a2 a3 c1 c2 r3 r4 (List.replicate ((↑(List.map zav c1.Parts).length:Int).toNat) (zaM (⟨0,0⟩))) 0)=some y):cw zjm [AV.agg (zaU a0),AV.agg (zat a1),AV.agg (zbk a2),AV.agg (zaw a3)] []=some y:=
 zah zjk zT [11] rfl (by kernel_rfl) (by kernel_rfl) (by kernel_rfl) (by kernel_rfl) (by kernel_rfl) h
noncomputable def zch (a0:GMarkRule) (a1:List GGiven) (x0:Int) (x1:Int):Option (AV×Mem):=pt zr5 1 ⟨[(1,AV.sl 8 (List.map zao a1)),(2,AV.loc 2 2 0 0),(4,AV.loc 4 2 0 0),(5,I x0),(6,I x1)],[(2,⟨2,zcT,[zaU a0],true⟩),(4,⟨2,zco,[zaM (⟨0,0⟩)],true⟩)]⟩
noncomputable def zfF (a0:GMarkRule) (a1:List GGiven) (x12:Int) (x13:Int) (x14:Int) (x15:Int):Option (AV×Mem):=pt zr5 2 ⟨[(1,AV.sl 8 (List.map zao a1)),(2,AV.loc 2 2 0 0),(4,AV.loc 4 2 0 0),(7,I x12),(8,I x13),(9,I x14),(10,I x15)],[(2,⟨2,zcT,[zaU a0],true⟩),(4,⟨2,zco,[zaM (⟨0,0⟩)],true⟩)]⟩
theorem zu3 (a0:GMarkRule) (a1:List GGiven) (x0:Int) (x1:Int) {y:AV×Mem} (h:(
 brn (decide (x1 < (↑(List.map zao a1).length:Int))) (chk ((0:Int)≤x1)<|
 elemD za6 (List.map zao a1) x1.toNat fun (c2:GGiven) =>
 brn (decide (2≤c2.Level)) (brn (decide (x0 < 0)) (zch a0 a1 x1 (w64 (x1+1)))
 (chk ((0:Int)≤x1)<|
 elemD za6 (List.map zao a1) x1.toNat fun (c3:GGiven) =>
 chk ((0:Int)≤x0)<|
 elemD za6 (List.map zao a1) x0.toNat fun (c4:GGiven) =>
 brn (decide (c4.Level < c3.Level)) (zch a0 a1 x1 (w64 (x1+1)))
 (chk ((0:Int)≤x1)<|
 elemD za6 (List.map zao a1) x1.toNat fun (c5:GGiven) =>
 chk ((0:Int)≤x0)<|
 elemD za6 (List.map zao a1) x0.toNat fun (c6:GGiven) =>
 brn (c5.Level == c6.Level) (chk ((0:Int)≤x1)<|
 elemD za6 (List.map zao a1) x1.toNat fun (c7:GGiven) =>
 chk ((0:Int)≤x0)<|
 elemD za6 (List.map zao a1) x0.toNat fun (c8:GGiven) =>
 callD zeU (cw zf9 [AV.agg (zaT c7.Stamp),AV.agg (zaT c8.Stamp)] []) fun (r9:Bool) =>
 brn (!r9) (zch a0 a1 x1 (w64 (x1+1)))
 (zch a0 a1 x0 (w64 (x1+1))))
 (zch a0 a1 x0 (w64 (x1+1))))))
 (zch a0 a1 x0 (w64 (x1+1))))
 (brn (decide (0≤x0)) (chk ((0:Int)≤x0)<|
 elemD za6 (List.map zao a1) x0.toNat fun (c10:GGiven) =>
 some (AV.agg (zaM (⟨3,if 0 > c10.Value then 0 else c10.Value⟩)),[]))
 (brn ((↑(List.map zao a1).length:Int) == 0) (some (AV.agg (zaM (⟨0,0⟩)),[]))
 (brn ((↑(List.map zao a1).length:Int) == 1) (brn a0.Double (some (AV.agg (zaM (⟨1,0⟩)),[]))
 (chk ((0:Int)≤0)<|
 elemD za6 (List.map zao a1) (Int.toNat 0) fun (c11:GGiven) =>
 zfF a0 a1 0 (if 0 > c11.Value then 0 else c11.Value) 0 0))
 (chk ((0:Int)≤0)<|
 elemD za6 (List.map zao a1) (Int.toNat 0) fun (c16:GGiven) =>
 zfF a0 a1 0 (if 0 > c16.Value then 0 else c16.Value) 0 0)))))=some y):zch a0 a1 x0 x1=some y:=
 pt_of zT [] (by kernel_rfl) h
theorem zvi (a0:GMarkRule) (a1:List GGiven) (x12:Int) (x13:Int) (x14:Int) (x15:Int) {y:AV×Mem} (h:(
 brn (decide (x15 < (↑(List.map zao a1).length:Int))) (chk ((0:Int)≤x15)<|
 elemD za6 (List.map zao a1) x15.toNat fun (c17:GGiven) =>
 zfF a0 a1 (w64 (x12+if 0 > c17.Value then 0 else c17.Value)) (if (if 0 > c17.Value then 0 else c17.Value) < x13 then if 0 > c17.Value then 0 else c17.Value else x13) (if (if 0 > c17.Value then 0 else c17.Value) > x14 then if 0 > c17.Value then 0 else c17.Value else x14) (w64 (x15+1)))
 (brn (decide (1 < (↑(List.map zao a1).length:Int))) (brn (decide (a0.Tolerance < w64 (x14 - x13))) (some (AV.agg (zaM (⟨2,0⟩)),[]))
 (chk ((w64 (2*(↑(List.map zao a1).length:Int)):Int)≠0)<|
 some (AV.agg (zaM (⟨3,w64 ((w64 (w64 (2*x12)+(↑(List.map zao a1).length:Int))).tdiv (w64 (2*(↑(List.map zao a1).length:Int))))⟩)),[])))
 (chk ((w64 (2*(↑(List.map zao a1).length:Int)):Int)≠0)<|
 some (AV.agg (zaM (⟨3,w64 ((w64 (w64 (2*x12)+(↑(List.map zao a1).length:Int))).tdiv (w64 (2*(↑(List.map zao a1).length:Int))))⟩)),[]))))=some y):zfF a0 a1 x12 x13 x14 x15=some y:=
 pt_of zT [] (by kernel_rfl) h
theorem zFR (a0:GMarkRule) (a1:List GGiven) {y:AV×Mem} (h:(
 zch a0 a1 (-1) 0)=some y):cw zr3 [AV.agg (zaU a0),AV.sl 8 (List.map zao a1)] []=some y:=
 zah zr5 zT [] rfl (by kernel_rfl) (by kernel_rfl) (by kernel_rfl) (by kernel_rfl) (by kernel_rfl) h
noncomputable def zeB (a0:GMarking) (a1:Int) (a2:Int) (x0:List (List AV)) (x1:Int):Option (AV×Mem):=pt zvl 1 ⟨[(1,I a1),(2,I a2),(3,AV.loc 3 2 0 0),(7,AV.row 7 8 0 (List.length x0)),(8,I x1)],[(3,⟨2,zdj,[zbk a0],true⟩),(7,⟨8,za0,x0,false⟩)]⟩
theorem zs5 (a0:GMarking) (a1:Int) (a2:Int) (x0:List (List AV)) (x1:Int) {y:AV×Mem} (h:(
 brn (decide (x1 < (↑(List.map zao a0.Given).length:Int))) (chk ((0:Int)≤x1)<|
 elemD za6 (List.map zao a0.Given) x1.toNat fun (c2:GGiven) =>
 brn (c2.Script == a1) (chk ((0:Int)≤x1)<|
 elemD za6 (List.map zao a0.Given) x1.toNat fun (c3:GGiven) =>
 brn (c3.Part == a2) (chk ((0:Int)≤x1)<|
 elemD za6 (List.map zao a0.Given) x1.toNat fun (c4:GGiven) =>
 chk (x0.length=x0.length)<|
 chk ((x0.length+1)*(64+1)≤1099511627776)<|
 chk ((x0++[[I c4.Script,I c4.Part,I c4.Marker,I c4.Level,I c4.Value,I c4.Stamp.Time,I c4.Stamp.Source,I c4.Stamp.Seq]]).length=(x0++[[I c4.Script,I c4.Part,I c4.Marker,I c4.Level,I c4.Value,I c4.Stamp.Time,I c4.Stamp.Source,I c4.Stamp.Seq]]).length)<|
 zeB a0 a1 a2 (x0++([zao c4])) (w64 (x1+1)))
 (zeB a0 a1 a2 x0 (w64 (x1+1))))
 (zeB a0 a1 a2 x0 (w64 (x1+1))))
 (chk (x0.length=x0.length)<|
 some (AV.new 8 za0 x0,[])))=some y):zeB a0 a1 a2 x0 x1=some y:=
 pt_of zT [] (by kernel_rfl) h
theorem zDI (a0:GMarking) (a1:Int) (a2:Int) {y:AV×Mem} (h:(
 zeB a0 a1 a2 [] 0)=some y):cw zpI [AV.agg (zbk a0),I a1,I a2] []=some y:=
 zah zvl zT [] rfl (by kernel_rfl) (by kernel_rfl) (by kernel_rfl) (by kernel_rfl) (by kernel_rfl) h
theorem zjp (a0:List GJudged) {y:AV×Mem} (h:(
 callD zcc (cw zc7 [AV.sl 3 (List.map zan a0),AV.fn zcf []] []) fun (r0:Int) =>
 some (B (decide (0≤r0)),[]))=some y):cw zcG [AV.sl 3 (List.map zan a0),AV.fn zcf []] []=some y:=
 zah zjr zT [] rfl (by kernel_rfl) (by kernel_rfl) (by kernel_rfl) (by kernel_rfl) (by kernel_rfl) h
theorem zA9 (a0:GJudged) {y:AV×Mem} (h:(
 brn (decide (a0.Marker < 1)) (some (B true,[]))
 (brn (decide (99 < a0.Marker)) (some (B true,[]))
 (callD zdY (cw zfe [I a0.Value] []) fun (r0:Bool) =>
 brn (!r0) (some (B true,[]))
 (callD zdY (cw zfe [I a0.Final] []) fun (r1:Bool) =>
 some (B (!r1),[])))))=some y):cw zcf [AV.agg (zan a0)] []=some y:=
 zah zAy zT [] rfl (by kernel_rfl) (by kernel_rfl) (by kernel_rfl) (by kernel_rfl) (by kernel_rfl) h
end Go.Proofs.YticojpmhlhfhlaaGreat
