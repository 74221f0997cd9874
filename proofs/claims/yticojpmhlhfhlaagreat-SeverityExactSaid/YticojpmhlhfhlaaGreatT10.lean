/- What the functions compute, between two cut points: printed by a program, checked by the kernel. -/
import Derived.Test.YticojpmhlhfhlaaGreatAnn
namespace Go.Proofs.YticojpmhlhfhlaaGreat
open Go.Ab
set_option maxRecDepth 100000
set_option linter.unusedVariables false
noncomputable def zkO (a0:GPaper) (a1:GScheme) (x1:Int):Option (AV×Mem):=pt zx0 1 ⟨[(3,AV.loc 3 2 0 0),(29,AV.sl 6 (List.map zav a0.Parts)),(30,I ((↑(List.map zav a0.Parts).length:Int))),(31,I x1)],[(3,⟨2,zbL,[zaW a1],true⟩)]⟩
theorem zpk (a0:GPaper) (a1:GScheme) (x1:Int) {y:AV×Mem} (h:(
 brn (decide (x1 < (↑(List.map zav a0.Parts).length:Int))) (chk ((0:Int)≤x1)<|
 elemD zce (List.map zav a0.Parts) x1.toNat fun (c2:GPart) =>
 chk ((0:Int)≤x1)<|
 elemD zdH (List.map zbB a1.Keys) x1.toNat fun (c3:List Int) =>
 callD zi9 (cw zmX [AV.agg (zav c2),AV.sl 1 (List.map zaa c3)] []) fun (r4:Bool) =>
 brn (!r4) (some (B false,[]))
 (chk ((0:Int)≤x1)<|
 elemD zag (List.map zaa a1.Withdrawn) x1.toNat fun (c5:Int) =>
 callD zmq (cw zqC [I c5] []) fun (r6:Bool) =>
 brn (!r6) (some (B false,[]))
 (zkO a0 a1 (w64 (x1+1)))))
 (some (B true,[])))=some y):zkO a0 a1 x1=some y:=
 pt_of zT [] (by kernel_rfl) h
theorem zFV (a0:GPaper) (a1:GScheme) {y:AV×Mem} (h:(
 callD zjw (cw znT [AV.agg (zas a0)] []) fun (r0:Bool) =>
 brn (!r0) (some (B false,[]))
 (brn ((↑(List.map zbB a1.Keys).length:Int) != (↑(List.map zav a0.Parts).length:Int)) (some (B false,[]))
 (brn ((↑(List.map zaa a1.Withdrawn).length:Int) != (↑(List.map zav a0.Parts).length:Int)) (some (B false,[]))
 (zkO a0 a1 0))))=some y):cw znz [AV.agg (zas a0),AV.agg (zaW a1)] []=some y:=
 zah zx0 zT [] rfl (by kernel_rfl) (by kernel_rfl) (by kernel_rfl) (by kernel_rfl) (by kernel_rfl) h
noncomputable def zfB (a0:GSetup) (a1:GScript) (x0:Int):Option (AV×Mem):=pt ztQ 1 ⟨[(3,AV.loc 3 7 0 0),(9,AV.sl 3 (List.map zas a0.Papers)),(10,I ((↑(List.map zas a0.Papers).length:Int))),(11,I x0)],[(3,⟨7,zbz,[zaw a1],true⟩)]⟩
theorem zl1 (a0:GSetup) (a1:GScript) (x0:Int) {y:AV×Mem} (h:(
 brn (decide (x0 < (↑(List.map zas a0.Papers).length:Int))) (chk ((0:Int)≤x0)<|
 elemD zbj (List.map zas a0.Papers) x0.toNat fun (c1:GPaper) =>
 brn (c1.Code == a1.Paper) (brn (c1.Variant == a1.Variant) (some (AV.tup [I x0,B true],[]))
 (zfB a0 a1 (w64 (x0+1))))
 (zfB a0 a1 (w64 (x0+1))))
 (some (AV.tup [I 0,B false],[])))=some y):zfB a0 a1 x0=some y:=
 pt_of zT [] (by kernel_rfl) h
theorem zCc (a0:GSetup) (a1:GScript) {y:AV×Mem} (h:(
 zfB a0 a1 0)=some y):cw zjB [AV.agg (zat a0),AV.agg (zaw a1)] []=some y:=
 zah ztQ zT [] rfl (by kernel_rfl) (by kernel_rfl) (by kernel_rfl) (by kernel_rfl) (by kernel_rfl) h
noncomputable def zdq (a0:GPaper) (a1:GScheme) (a2:List Int) (x1:Int):Option (AV×Mem):=pt zq9 1 ⟨[(2,AV.sl 1 (List.map zaa a2)),(3,AV.loc 3 3 0 0),(4,AV.loc 4 2 0 0),(25,AV.sl 6 (List.map zav a0.Parts)),(26,I ((↑(List.map zav a0.Parts).length:Int))),(27,I x1)],[(3,⟨3,zbc,[zas a0],true⟩),(4,⟨2,zbL,[zaW a1],true⟩)]⟩
noncomputable def zdl (a0:GPaper) (a1:GScheme) (a2:List Int) (x4:List (List AV)) (x5:Int):Option (AV×Mem):=pt zq9 2 ⟨[(2,AV.sl 1 (List.map zaa a2)),(4,AV.loc 4 2 0 0),(11,AV.row 61 1 0 ((List.replicate (↑(List.map zav a0.Parts).length:Int).toNat (I 0 :: List.map AV.v [])).length)),(63,AV.sl 6 (List.map zav a0.Parts)),(64,I ((↑(List.map zav a0.Parts).length:Int))),(65,I x5)],[(4,⟨2,zbL,[zaW a1],true⟩),(61,⟨1,zaj,x4,false⟩)]⟩
theorem znX (a0:GPaper) (a1:GScheme) (a2:List Int) (x1:Int) {y:AV×Mem} (h:(
 brn (decide (x1 < (↑(List.map zav a0.Parts).length:Int))) (chk ((0:Int)≤x1)<|
 elemD zce (List.map zav a0.Parts) x1.toNat fun (c2:GPart) =>
 chk ((0:Int)≤x1)<|
 elemD zag (List.map zaa a2) x1.toNat fun (c3:Int) =>
 brn (c2.Kind == 2) (brn (c3 != -1) (brn (c3 != -2) (brn (decide (c3 < 0)) (some (AV.tup [AV.sl 1 (List.map zaa []),I 2],[]))
 (brn (decide (c2.Options≤c3)) (some (AV.tup [AV.sl 1 (List.map zaa []),I 2],[]))
 (zdq a0 a1 a2 (w64 (x1+1)))))
 (zdq a0 a1 a2 (w64 (x1+1))))
 (zdq a0 a1 a2 (w64 (x1+1))))
 (zdq a0 a1 a2 (w64 (x1+1))))
 (chk (((↑(List.map zav a0.Parts).length:Int):Int)=((↑(List.map zav a0.Parts).length:Int)))<|
 chk ((0:Int)≤((↑(List.map zav a0.Parts).length:Int)))<|
 chk ((↑(List.map zav a0.Parts).length:Int).toNat*(8+1)≤1099511627776)<|
 zdl a0 a1 a2 (List.replicate ((↑(List.map zav a0.Parts).length:Int).toNat) (zaa 0)) 0))=some y):zdq a0 a1 a2 x1=some y:=
 pt_of zT [] (by kernel_rfl) h
theorem zuc (a0:GPaper) (a1:GScheme) (a2:List Int) (x4:List (List AV)) (x5:Int) {y:AV×Mem} (h:(
 brn (decide (x5 < (↑(List.map zav a0.Parts).length:Int))) (chk ((0:Int)≤x5)<|
 elemD zce (List.map zav a0.Parts) x5.toNat fun (c6:GPart) =>
 brn (c6.Kind == 1) (chk ((0:Int)≤x5)<|
 chk ((x5:Int) < ((↑(List.replicate (↑(List.map zav a0.Parts).length:Int).toNat (I 0 :: List.map AV.v [])).length:Int)))<|
 elemD zag x4 (0+x5.toNat) fun (c7:Int) =>
 zdl a0 a1 a2 (List.set x4 (0+x5.toNat) (zaa (-2))) (w64 (x5+1)))
 (chk ((0:Int)≤x5)<|
 elemD zdH (List.map zbB a1.Keys) x5.toNat fun (c8:List Int) =>
 chk ((0:Int)≤x5)<|
 elemD zag (List.map zaa a2) x5.toNat fun (c9:Int) =>
 callD zk8 (cw zpw [AV.agg (zav c6),AV.sl 1 (List.map zaa c8),I c9] []) fun (r10:Bool) =>
 brn r10 (chk ((0:Int)≤x5)<|
 chk ((x5:Int) < ((↑(List.replicate (↑(List.map zav a0.Parts).length:Int).toNat (I 0 :: List.map AV.v [])).length:Int)))<|
 elemD zag x4 (0+x5.toNat) fun (c11:Int) =>
 zdl a0 a1 a2 (List.set x4 (0+x5.toNat) (zaa c6.Max)) (w64 (x5+1)))
 (chk ((0:Int)≤x5)<|
 elemD zag (List.map zaa a2) x5.toNat fun (c12:Int) =>
 brn (c12 == -1) (chk ((0:Int)≤x5)<|
 chk ((x5:Int) < ((↑(List.replicate (↑(List.map zav a0.Parts).length:Int).toNat (I 0 :: List.map AV.v [])).length:Int)))<|
 elemD zag x4 (0+x5.toNat) fun (c13:Int) =>
 zdl a0 a1 a2 (List.set x4 (0+x5.toNat) (zaa (-1))) (w64 (x5+1)))
 (zdl a0 a1 a2 x4 (w64 (x5+1))))))
 (chk (0+(List.replicate (↑(List.map zav a0.Parts).length:Int).toNat (I 0 :: List.map AV.v [])).length≤x4.length)<|
 some (AV.tup [AV.sl 1 (List.take ((List.replicate (↑(List.map zav a0.Parts).length:Int).toNat (I 0 :: List.map AV.v [])).length) x4),I 0],[])))=some y):zdl a0 a1 a2 x4 x5=some y:=
 pt_of zT [] (by kernel_rfl) h
theorem zqi (a0:GPaper) (a1:GScheme) (a2:List Int) {y:AV×Mem} (h:(
 callD zj5 (cw znz [AV.agg (zas a0),AV.agg (zaW a1)] []) fun (r0:Bool) =>
 brn (!r0) (some (AV.tup [AV.sl 1 (List.map zaa []),I 1],[]))
 (brn ((↑(List.map zaa a2).length:Int) != (↑(List.map zav a0.Parts).length:Int)) (some (AV.tup [AV.sl 1 (List.map zaa []),I 22],[]))
 (zdq a0 a1 a2 0)))=some y):cw ziD [AV.agg (zas a0),AV.agg (zaW a1),AV.sl 1 (List.map zaa a2)] []=some y:=
 zah zq9 zT [] rfl (by kernel_rfl) (by kernel_rfl) (by kernel_rfl) (by kernel_rfl) (by kernel_rfl) h
theorem zBZ (a0:GSetup) (a1:Int) {y:AV×Mem} (h:(
 callD ziW (cw zmG [AV.agg (zat a0),I a1] []) fun (r0:GScript×Bool) =>
 brn (!r0.snd) (some (AV.tup [I 0,B false],[]))
 (callD zgS (cw zjB [AV.agg (zat a0),AV.agg (zaw r0.fst)] []) fun (r1:Int×Bool) =>
 some (AV.tup [I r1.fst,B r1.snd],[])))=some y):cw zjO [AV.agg (zat a0),I a1] []=some y:=
 zah zBM zT [] rfl (by kernel_rfl) (by kernel_rfl) (by kernel_rfl) (by kernel_rfl) (by kernel_rfl) h
noncomputable def zfX (a0:GPaper) (a1:List Int) (x0:Int):Option (AV×Mem):=pt zq6 1 ⟨[(1,AV.sl 1 (List.map zaa a1)),(14,AV.sl 6 (List.map zav a0.Parts)),(15,I ((↑(List.map zav a0.Parts).length:Int))),(16,I x0)],[]⟩
theorem zoE (a0:GPaper) (a1:List Int) (x0:Int) {y:AV×Mem} (h:(
 brn (decide (x0 < (↑(List.map zav a0.Parts).length:Int))) (chk ((0:Int)≤x0)<|
 elemD zce (List.map zav a0.Parts) x0.toNat fun (c1:GPart) =>
 chk ((0:Int)≤x0)<|
 elemD zag (List.map zaa a1) x0.toNat fun (c2:Int) =>
 brn (decide (c2 < 0)) (some (B false,[]))
 (chk ((0:Int)≤x0)<|
 elemD zag (List.map zaa a1) x0.toNat fun (c3:Int) =>
 brn (decide (c1.Max < c3)) (some (B false,[]))
 (zfX a0 a1 (w64 (x0+1)))))
 (some (B true,[])))=some y):zfX a0 a1 x0=some y:=
 pt_of zT [] (by kernel_rfl) h
theorem zyv (a0:GPaper) (a1:List Int) {y:AV×Mem} (h:(
 brn ((↑(List.map zaa a1).length:Int) != (↑(List.map zav a0.Parts).length:Int)) (some (B false,[]))
 (zfX a0 a1 0))=some y):cw zlg [AV.agg (zas a0),AV.sl 1 (List.map zaa a1)] []=some y:=
 zah zq6 zT [] rfl (by kernel_rfl) (by kernel_rfl) (by kernel_rfl) (by kernel_rfl) (by kernel_rfl) h
theorem zCp (a0:Int) {y:AV×Mem} (h:(
 brn (decide (0≤a0)) (some (B (decide (a0≤200)),[]))
 (some (B false,[])))=some y):cw zjy [I a0] []=some y:=
 zah zBS zT [] rfl (by kernel_rfl) (by kernel_rfl) (by kernel_rfl) (by kernel_rfl) (by kernel_rfl) h
noncomputable def zem (a0:GSetup) (a1:Int) (x0:Int):Option (AV×Mem):=pt zmy 1 ⟨[(1,I a1),(9,AV.sl 2 (List.map zbT a0.Seeds)),(10,I ((↑(List.map zbT a0.Seeds).length:Int))),(11,I x0)],[]⟩
theorem zgE (a0:GSetup) (a1:Int) (x0:Int) {y:AV×Mem} (h:(
 brn (decide (x0 < (↑(List.map zbT a0.Seeds).length:Int))) (chk ((0:Int)≤x0)<|
 elemD zeH (List.map zbT a0.Seeds) x0.toNat fun (c1:GSeed) =>
 brn (c1.Script == a1) (some (AV.tup [AV.sl 1 (List.map zaa c1.Marks),B true],[]))
 (zem a0 a1 (w64 (x0+1))))
 (some (AV.tup [AV.sl 1 (List.map zaa []),B false],[])))=some y):zem a0 a1 x0=some y:=
 pt_of zT [] (by kernel_rfl) h
theorem zuJ (a0:GSetup) (a1:Int) {y:AV×Mem} (h:(
 zem a0 a1 0)=some y):cw zhK [AV.agg (zat a0),I a1] []=some y:=
 zah zmy zT [] rfl (by kernel_rfl) (by kernel_rfl) (by kernel_rfl) (by kernel_rfl) (by kernel_rfl) h
noncomputable def zeh (a0:GMarkRule) (a1:List GGiven) (x8:Int) (x9:Int) (x10:Int):Option (AV×Mem):=pt zqF 1 ⟨[(1,AV.sl 8 (List.map zao a1)),(2,AV.loc 2 2 0 0),(4,AV.loc 4 2 0 0),(7,I x8),(8,I x9),(43,AV.sl 8 (List.map zao a1)),(44,I ((↑(List.map zao a1).length:Int))),(45,I x10)],[(2,⟨2,zcT,[zaU a0],true⟩),(4,⟨2,zco,[zaM (⟨0,0⟩)],true⟩)]⟩
theorem zon (a0:GMarkRule) (a1:List GGiven) (x8:Int) (x9:Int) (x10:Int) {y:AV×Mem} (h:(
 brn (decide (x10 < (↑(List.map zao a1).length:Int))) (chk ((0:Int)≤x10)<|
 elemD za6 (List.map zao a1) x10.toNat fun (c11:GGiven) =>
 callD zb5 (cw zcj [AV.agg (zao c11)] []) fun (r12:Int) =>
 callD zb5 (cw zcj [AV.agg (zao c11)] []) fun (r13:Int) =>
 zeh a0 a1 (if r12 < x8 then r12 else x8) (if r13 > x9 then r13 else x9) (w64 (x10+1)))
 (brn (decide (a0.Tolerance < w64 (x9 - x8))) (some (AV.agg (zaM (⟨2,0⟩)),[]))
 (callD ziA (cw zmA [AV.sl 8 (List.map zao a1)] []) fun (r14:Int) =>
 some (AV.agg (zaM (⟨3,r14⟩)),[]))))=some y):zeh a0 a1 x8 x9 x10=some y:=
 pt_of zT [] (by kernel_rfl) h
theorem zyU (a0:GMarkRule) (a1:List GGiven) {y:AV×Mem} (h:(
 callD zf4 (cw zjl [AV.sl 8 (List.map zao a1)] []) fun (r0:GGiven×Bool) =>
 brn r0.snd (callD zb5 (cw zcj [AV.agg (zao r0.fst)] []) fun (r1:Int) =>
 some (AV.agg (zaM (⟨3,r1⟩)),[]))
 (brn ((↑(List.map zao a1).length:Int) == 0) (some (AV.agg (zaM (⟨0,0⟩)),[]))
 (brn ((↑(List.map zao a1).length:Int) == 1) (brn a0.Double (some (AV.agg (zaM (⟨1,0⟩)),[]))
 (chk ((0:Int)≤0)<|
 elemD za6 (List.map zao a1) (Int.toNat 0) fun (c2:GGiven) =>
 callD zb5 (cw zcj [AV.agg (zao c2)] []) fun (r3:Int) =>
 some (AV.agg (zaM (⟨3,r3⟩)),[])))
 (chk ((0:Int)≤0)<|
 elemD za6 (List.map zao a1) (Int.toNat 0) fun (c4:GGiven) =>
 callD zb5 (cw zcj [AV.agg (zao c4)] []) fun (r5:Int) =>
 chk ((0:Int)≤0)<|
 elemD za6 (List.map zao a1) (Int.toNat 0) fun (c6:GGiven) =>
 callD zb5 (cw zcj [AV.agg (zao c6)] []) fun (r7:Int) =>
 zeh a0 a1 r5 r7 0))))=some y):cw zky [AV.agg (zaU a0),AV.sl 8 (List.map zao a1)] []=some y:=
 zah zqF zT [] rfl (by kernel_rfl) (by kernel_rfl) (by kernel_rfl) (by kernel_rfl) (by kernel_rfl) h
noncomputable def zdS (a0:GMarking) (a1:Int) (a2:Int) (x0:List (List AV)) (x1:Int):Option (AV×Mem):=pt zsS 1 ⟨[(1,I a1),(2,I a2),(7,AV.row 7 8 0 (List.length x0)),(11,AV.sl 8 (List.map zao a0.Given)),(12,I ((↑(List.map zao a0.Given).length:Int))),(13,I x1)],[(7,⟨8,za0,x0,false⟩)]⟩
theorem zru (a0:GMarking) (a1:Int) (a2:Int) (x0:List (List AV)) (x1:Int) {y:AV×Mem} (h:(
 brn (decide (x1 < (↑(List.map zao a0.Given).length:Int))) (chk ((0:Int)≤x1)<|
 elemD za6 (List.map zao a0.Given) x1.toNat fun (c2:GGiven) =>
 brn (c2.Script == a1) (brn (c2.Part == a2) (chk (x0.length=x0.length)<|
 chk ((x0.length+1)*(64+1)≤1099511627776)<|
 chk ((x0++[[I c2.Script,I c2.Part,I c2.Marker,I c2.Level,I c2.Value,I c2.Stamp.Time,I c2.Stamp.Source,I c2.Stamp.Seq]]).length=(x0++[[I c2.Script,I c2.Part,I c2.Marker,I c2.Level,I c2.Value,I c2.Stamp.Time,I c2.Stamp.Source,I c2.Stamp.Seq]]).length)<|
 zdS a0 a1 a2 (x0++([zao c2])) (w64 (x1+1)))
 (zdS a0 a1 a2 x0 (w64 (x1+1))))
 (zdS a0 a1 a2 x0 (w64 (x1+1))))
 (chk (x0.length=x0.length)<|
 some (AV.new 8 za0 x0,[])))=some y):zdS a0 a1 a2 x0 x1=some y:=
 pt_of zT [] (by kernel_rfl) h
theorem zAx (a0:GMarking) (a1:Int) (a2:Int) {y:AV×Mem} (h:(
 zdS a0 a1 a2 [] 0)=some y):cw znb [AV.agg (zbk a0),I a1,I a2] []=some y:=
 zah zsS zT [] rfl (by kernel_rfl) (by kernel_rfl) (by kernel_rfl) (by kernel_rfl) (by kernel_rfl) h
noncomputable def zb0 (a0:List GJudged) (x0:Int):Option (AV×Mem):=pt zfa 1 ⟨[(0,AV.sl 3 (List.map zan a0)),(1,AV.fn zcf []),(7,I ((↑(List.map zan a0).length:Int))),(8,I x0)],[]⟩
theorem zcQ (a0:List GJudged) (x0:Int) {y:AV×Mem} (h:(
 brn (decide (x0 < (↑(List.map zan a0).length:Int))) (chk ((0:Int)≤x0)<|
 elemD zbg (List.map zan a0) x0.toNat fun (c1:GJudged) =>
 callD ziH (cw zcf [AV.agg (zan c1)] []) fun (r2:Bool) =>
 brn r2 (some (I x0,[]))
 (zb0 a0 (w64 (x0+1))))
 (some (I (-1),[])))=some y):zb0 a0 x0=some y:=
 pt_of zT [] (by kernel_rfl) h
theorem zkK (a0:List GJudged) {y:AV×Mem} (h:(
 zb0 a0 0)=some y):cw zc7 [AV.sl 3 (List.map zan a0),AV.fn zcf []] []=some y:=
 zah zfa zT [] rfl (by kernel_rfl) (by kernel_rfl) (by kernel_rfl) (by kernel_rfl) (by kernel_rfl) h
noncomputable def zbD (a0:List Int) (a1:Int) (a2:Int) (s:List GRatio) (x0:List (List AV)) (x1:Int):Option (AV×Mem):=pt zea 1 ⟨[(0,AV.row 1000 1 0 ((List.map zaa a0).length)),(1,I a1),(2,I a2),(3,AV.fn zaf [AV.fa 2 (List.map zae s)]),(8,I x1)],[(1000,⟨1,zaj,x0,false⟩)]⟩
noncomputable def zcA (a0:List Int) (a1:Int) (a2:Int) (s:List GRatio) (x1:Int) (x2:List (List AV)) (x3:Int):Option (AV×Mem):=pt zea 2 ⟨[(0,AV.row 1000 1 0 ((List.map zaa a0).length)),(1,I a1),(2,I a2),(3,AV.fn zaf [AV.fa 2 (List.map zae s)]),(8,I x1),(9,I x3)],[(1000,⟨1,zaj,x2,false⟩)]⟩
theorem zgj (a0:List Int) (a1:Int) (a2:Int) (s:List GRatio) (x0:List (List AV)) (x1:Int) {y:AV×Mem} (h:(
 brn (decide (x1 < a2)) (zcA a0 a1 a2 s x1 x0 x1)
 (some (AV.tup [],[(1000,⟨1,zaj,x0,false⟩)])))=some y):zbD a0 a1 a2 s x0 x1=some y:=
 pt_of zT [] (by kernel_rfl) h
theorem zgr (a0:List Int) (a1:Int) (a2:Int) (s:List GRatio) (x1:Int) (x2:List (List AV)) (x3:Int) {y:AV×Mem} (h:(
 brn (decide (a1 < x3)) (chk ((0:Int)≤x3)<|
 chk ((x3:Int) < ((↑(List.map zaa a0).length:Int)))<|
 elemD zag x2 (0+x3.toNat) fun (c4:Int) =>
 chk ((0:Int)≤(w64 (x3 - 1)))<|
 chk ((w64 (x3 - 1):Int) < ((↑(List.map zaa a0).length:Int)))<|
 elemD zag x2 (0+(w64 (x3 - 1)).toNat) fun (c5:Int) =>
 callD zaV (cw zaf [I c4,I c5,AV.fa 2 (List.map zae s)] []) fun (r6:Int) =>
 brn (decide (r6 < 0)) (chk ((0:Int)≤(w64 (x3 - 1)))<|
 chk ((w64 (x3 - 1):Int) < ((↑(List.map zaa a0).length:Int)))<|
 elemD zag x2 (0+(w64 (x3 - 1)).toNat) fun (c7:Int) =>
 chk ((0:Int)≤x3)<|
 chk ((x3:Int) < ((↑(List.map zaa a0).length:Int)))<|
 elemD zag x2 (0+x3.toNat) fun (c8:Int) =>
 chk ((0:Int)≤x3)<|
 chk ((x3:Int) < ((↑(List.map zaa a0).length:Int)))<|
 elemD zag x2 (0+x3.toNat) fun (c9:Int) =>
 chk ((0:Int)≤(w64 (x3 - 1)))<|
 chk ((w64 (x3 - 1):Int) < ((↑(List.map zaa a0).length:Int)))<|
 elemD zag (List.set x2 (0+x3.toNat) (zaa c7)) (0+(w64 (x3 - 1)).toNat) fun (c10:Int) =>
 zcA a0 a1 a2 s x1 (List.set (List.set x2 (0+x3.toNat) (zaa c7)) (0+(w64 (x3 - 1)).toNat) (zaa c8)) (w64 (x3 - 1)))
 (zbD a0 a1 a2 s x2 (w64 (x1+1))))
 (zbD a0 a1 a2 s x2 (w64 (x1+1))))=some y):zcA a0 a1 a2 s x1 x2 x3=some y:=
 pt_of zT [] (by kernel_rfl) h
theorem zoq (a0:List Int) (a1:Int) (a2:Int) (s:List GRatio) {y:AV×Mem} (h:(
 zbD a0 a1 a2 s (List.map zaa a0) (w64 (a1+1)))=some y):cw zd8 [AV.row 1000 1 0 (List.length (List.map zaa a0)),I a1,I a2,AV.fn zaf [AV.fa 2 (List.map zae s)]] [(1000,⟨1,zaj,List.map zaa a0,false⟩)]=some y:=
 zah zea zT [] rfl (by kernel_rfl) (by kernel_rfl) (by kernel_rfl) (by kernel_rfl) (by kernel_rfl) h
noncomputable def zdz (a0:List Int) (a1:Int) (a2:Int) (s:List GRatio) (x0:List (List AV)) (x1:Int):Option (AV×Mem):=pt zfN 1 ⟨[(0,AV.row 1000 1 0 ((List.map zaa a0).length)),(3,AV.fn zaf [AV.fa 2 (List.map zae s)]),(8,I a1),(9,I 0),(10,I (w64 (a2 - a1))),(11,I x1)],[(1000,⟨1,zaj,x0,false⟩)]⟩
noncomputable def zdw (a0:List Int) (a1:Int) (s:List GRatio) (x3:List (List AV)) (x4:Int):Option (AV×Mem):=pt zfN 2 ⟨[(0,AV.row 1000 1 0 ((List.map zaa a0).length)),(3,AV.fn zaf [AV.fa 2 (List.map zae s)]),(8,I a1),(9,I 0),(12,I x4)],[(1000,⟨1,zaj,x3,false⟩)]⟩
theorem ziQ (a0:List Int) (a1:Int) (a2:Int) (s:List GRatio) (x0:List (List AV)) (x1:Int) {y:AV×Mem} (h:(
 brn (decide (0≤x1)) (callD zbt (cw zcP [AV.row 1000 1 0 ((List.map zaa a0).length),I x1,I (w64 (a2 - a1)),I a1,AV.fn zaf [AV.fa 2 (List.map zae s)]] [(1000,⟨1,zaj,x0,false⟩)]) fun (r2:(List Int)) =>
 zdz a0 a1 a2 s (List.map zaa r2) (w64 (x1 - 1)))
 (zdw a0 a1 s x0 (w64 (w64 (a2 - a1) - 1))))=some y):zdz a0 a1 a2 s x0 x1=some y:=
 pt_of zT [] (by kernel_rfl) h
theorem zi1 (a0:List Int) (a1:Int) (s:List GRatio) (x3:List (List AV)) (x4:Int) {y:AV×Mem} (h:(
 brn (decide (0≤x4)) (chk ((0:Int)≤(w64 (a1+x4)))<|
 chk ((w64 (a1+x4):Int) < ((↑(List.map zaa a0).length:Int)))<|
 elemD zag x3 (0+(w64 (a1+x4)).toNat) fun (c5:Int) =>
 chk ((0:Int)≤a1)<|
 chk ((a1:Int) < ((↑(List.map zaa a0).length:Int)))<|
 elemD zag x3 (0+a1.toNat) fun (c6:Int) =>
 chk ((0:Int)≤a1)<|
 chk ((a1:Int) < ((↑(List.map zaa a0).length:Int)))<|
 elemD zag x3 (0+a1.toNat) fun (c7:Int) =>
 chk ((0:Int)≤(w64 (a1+x4)))<|
 chk ((w64 (a1+x4):Int) < ((↑(List.map zaa a0).length:Int)))<|
 elemD zag (List.set x3 (0+a1.toNat) (zaa c5)) (0+(w64 (a1+x4)).toNat) fun (c8:Int) =>
 callD zbt (cw zcP [AV.row 1000 1 0 ((List.map zaa a0).length),I 0,I x4,I a1,AV.fn zaf [AV.fa 2 (List.map zae s)]] [(1000,⟨1,zaj,List.set (List.set x3 (0+a1.toNat) (zaa c5)) (0+(w64 (a1+x4)).toNat) (zaa c6),false⟩)]) fun (r9:(List Int)) =>
 zdw a0 a1 s (List.map zaa r9) (w64 (x4 - 1)))
 (some (AV.tup [],[(1000,⟨1,zaj,x3,false⟩)])))=some y):zdw a0 a1 s x3 x4=some y:=
 pt_of zT [] (by kernel_rfl) h
theorem zr7 (a0:List Int) (a1:Int) (a2:Int) (s:List GRatio) {y:AV×Mem} (h:(
 chk ((2:Int)≠0)<|
 zdz a0 a1 a2 s (List.map zaa a0) (w64 ((w64 (w64 (a2 - a1) - 1)).tdiv 2)))=some y):cw zfP [AV.row 1000 1 0 (List.length (List.map zaa a0)),I a1,I a2,AV.fn zaf [AV.fa 2 (List.map zae s)]] [(1000,⟨1,zaj,List.map zaa a0,false⟩)]=some y:=
 zah zfN zT [] rfl (by kernel_rfl) (by kernel_rfl) (by kernel_rfl) (by kernel_rfl) (by kernel_rfl) h
noncomputable def zb2 (a0:List Int) (a1:Int) (a2:Int) (r0:Int) (x1:Int) (x2:List (List AV)) (x3:Int):Option (AV×Mem):=pt zcW 1 ⟨[(0,AV.row 1000 1 0 ((List.map zaa a0).length)),(1,I a1),(8,I (w64 (a2 - a1))),(9,AV.loc 9 1 0 0),(10,AV.v (.int .u64 r0)),(11,I x3)],[(9,⟨1,zbX,[zqn x1],true⟩),(1000,⟨1,zaj,x2,false⟩)]⟩
noncomputable def zci (a0:List Int) (a1:Int) (a2:Int) (r0:Int) (x2:List (List AV)) (x3:Int) (r4:Int×Int):Option (AV×Mem):=pt zcW 1010 ⟨[(0,AV.row 1000 1 0 ((List.map zaa a0).length)),(1,I a1),(8,I (w64 (a2 - a1))),(9,AV.loc 9 1 0 0),(10,AV.v (.int .u64 r0)),(11,I x3),(12,I (w64 (w64 (wu64 (↑((r4.fst % Int.ofNat (2 ^ 64)).toNat &&& (wu64 (r0 - 1) % Int.ofNat (2 ^ 64)).toNat):Int)) - w64 (a2 - a1))))],[(9,⟨1,zbX,[zqn r4.snd],true⟩),(1000,⟨1,zaj,x2,false⟩)]⟩
noncomputable def zeV (a0:List Int) (a1:Int) (a2:Int) (r0:Int) (x2:List (List AV)) (x3:Int) (r4:Int×Int):Option (AV×Mem):=pt zcW 1010 ⟨[(0,AV.row 1000 1 0 ((List.map zaa a0).length)),(1,I a1),(8,I (w64 (a2 - a1))),(9,AV.loc 9 1 0 0),(10,AV.v (.int .u64 r0)),(11,I x3),(12,I (w64 (wu64 (↑((r4.fst % Int.ofNat (2 ^ 64)).toNat &&& (wu64 (r0 - 1) % Int.ofNat (2 ^ 64)).toNat):Int)))),(45,B false)],[(9,⟨1,zbX,[zqn r4.snd],true⟩),(1000,⟨1,zaj,x2,false⟩)]⟩
theorem zcB (a0:List Int) (a1:Int) (a2:Int) (r0:Int) (x1:Int) (x2:List (List AV)) (x3:Int) {y:AV×Mem} (h:(
 chk ((4:Int)≠0)<|
 brn (decide (x3≤w64 (w64 (a1+w64 (w64 ((w64 (a2 - a1)).tdiv 4)*2))+1))) (callD zje (cw zjh [AV.loc 1000 1 0 0] [(1000,⟨1,zbX,[zqn x1],true⟩)]) fun (r4:Int×Int) =>
 brn (decide (w64 (a2 - a1)≤w64 (wu64 (↑((r4.fst % Int.ofNat (2 ^ 64)).toNat &&& (wu64 (r0 - 1) % Int.ofNat (2 ^ 64)).toNat):Int)))) (zci a0 a1 a2 r0 x2 x3 r4)
 (zeV a0 a1 a2 r0 x2 x3 r4))
 (some (AV.tup [],[(1000,⟨1,zaj,x2,false⟩)])))=some y):zb2 a0 a1 a2 r0 x1 x2 x3=some y:=
 pt_of zT [10] (by kernel_rfl) h
theorem zl0 (a0:List Int) (a1:Int) (a2:Int) (r0:Int) (x2:List (List AV)) (x3:Int) (r4:Int×Int) {y:AV×Mem} (h:(
 chk ((0:Int)≤(w64 (a1+w64 (w64 (wu64 (↑((r4.fst % Int.ofNat (2 ^ 64)).toNat &&& (wu64 (r0 - 1) % Int.ofNat (2 ^ 64)).toNat):Int)) - w64 (a2 - a1)))))<|
 chk ((w64 (a1+w64 (w64 (wu64 (↑((r4.fst % Int.ofNat (2 ^ 64)).toNat &&& (wu64 (r0 - 1) % Int.ofNat (2 ^ 64)).toNat):Int)) - w64 (a2 - a1))):Int) < ((↑(List.map zaa a0).length:Int)))<|
 elemD zag x2 (0+(w64 (a1+w64 (w64 (wu64 (↑((r4.fst % Int.ofNat (2 ^ 64)).toNat &&& (wu64 (r0 - 1) % Int.ofNat (2 ^ 64)).toNat):Int)) - w64 (a2 - a1)))).toNat) fun (c5:Int) =>
 chk ((0:Int)≤x3)<|
 chk ((x3:Int) < ((↑(List.map zaa a0).length:Int)))<|
 elemD zag x2 (0+x3.toNat) fun (c6:Int) =>
 chk ((0:Int)≤x3)<|
 chk ((x3:Int) < ((↑(List.map zaa a0).length:Int)))<|
 elemD zag x2 (0+x3.toNat) fun (c7:Int) =>
 chk ((0:Int)≤(w64 (a1+w64 (w64 (wu64 (↑((r4.fst % Int.ofNat (2 ^ 64)).toNat &&& (wu64 (r0 - 1) % Int.ofNat (2 ^ 64)).toNat):Int)) - w64 (a2 - a1)))))<|
 chk ((w64 (a1+w64 (w64 (wu64 (↑((r4.fst % Int.ofNat (2 ^ 64)).toNat &&& (wu64 (r0 - 1) % Int.ofNat (2 ^ 64)).toNat):Int)) - w64 (a2 - a1))):Int) < ((↑(List.map zaa a0).length:Int)))<|
 elemD zag (List.set x2 (0+x3.toNat) (zaa c5)) (0+(w64 (a1+w64 (w64 (wu64 (↑((r4.fst % Int.ofNat (2 ^ 64)).toNat &&& (wu64 (r0 - 1) % Int.ofNat (2 ^ 64)).toNat):Int)) - w64 (a2 - a1)))).toNat) fun (c8:Int) =>
 zb2 a0 a1 a2 r0 r4.snd (List.set (List.set x2 (0+x3.toNat) (zaa c5)) (0+(w64 (a1+w64 (w64 (wu64 (↑((r4.fst % Int.ofNat (2 ^ 64)).toNat &&& (wu64 (r0 - 1) % Int.ofNat (2 ^ 64)).toNat):Int)) - w64 (a2 - a1)))).toNat) (zaa c6)) (w64 (x3+1)))=some y):zci a0 a1 a2 r0 x2 x3 r4=some y:=
 pt_of zT [10] (by kernel_rfl) h
theorem zkD (a0:List Int) (a1:Int) (a2:Int) (r0:Int) (x2:List (List AV)) (x3:Int) (r4:Int×Int) {y:AV×Mem} (h:(
 chk ((0:Int)≤(w64 (a1+w64 (wu64 (↑((r4.fst % Int.ofNat (2 ^ 64)).toNat &&& (wu64 (r0 - 1) % Int.ofNat (2 ^ 64)).toNat):Int)))))<|
 chk ((w64 (a1+w64 (wu64 (↑((r4.fst % Int.ofNat (2 ^ 64)).toNat &&& (wu64 (r0 - 1) % Int.ofNat (2 ^ 64)).toNat):Int))):Int) < ((↑(List.map zaa a0).length:Int)))<|
 elemD zag x2 (0+(w64 (a1+w64 (wu64 (↑((r4.fst % Int.ofNat (2 ^ 64)).toNat &&& (wu64 (r0 - 1) % Int.ofNat (2 ^ 64)).toNat):Int)))).toNat) fun (c9:Int) =>
 chk ((0:Int)≤x3)<|
 chk ((x3:Int) < ((↑(List.map zaa a0).length:Int)))<|
 elemD zag x2 (0+x3.toNat) fun (c10:Int) =>
 chk ((0:Int)≤x3)<|
 chk ((x3:Int) < ((↑(List.map zaa a0).length:Int)))<|
 elemD zag x2 (0+x3.toNat) fun (c11:Int) =>
 chk ((0:Int)≤(w64 (a1+w64 (wu64 (↑((r4.fst % Int.ofNat (2 ^ 64)).toNat &&& (wu64 (r0 - 1) % Int.ofNat (2 ^ 64)).toNat):Int)))))<|
 chk ((w64 (a1+w64 (wu64 (↑((r4.fst % Int.ofNat (2 ^ 64)).toNat &&& (wu64 (r0 - 1) % Int.ofNat (2 ^ 64)).toNat):Int))):Int) < ((↑(List.map zaa a0).length:Int)))<|
 elemD zag (List.set x2 (0+x3.toNat) (zaa c9)) (0+(w64 (a1+w64 (wu64 (↑((r4.fst % Int.ofNat (2 ^ 64)).toNat &&& (wu64 (r0 - 1) % Int.ofNat (2 ^ 64)).toNat):Int)))).toNat) fun (c12:Int) =>
 zb2 a0 a1 a2 r0 r4.snd (List.set (List.set x2 (0+x3.toNat) (zaa c9)) (0+(w64 (a1+w64 (wu64 (↑((r4.fst % Int.ofNat (2 ^ 64)).toNat &&& (wu64 (r0 - 1) % Int.ofNat (2 ^ 64)).toNat):Int)))).toNat) (zaa c10)) (w64 (x3+1)))=some y):zeV a0 a1 a2 r0 x2 x3 r4=some y:=
 pt_of zT [10] (by kernel_rfl) h
theorem zhs (a0:List Int) (a1:Int) (a2:Int) (s:List GRatio) {y:AV×Mem} (h:(
 brn (decide (8≤w64 (a2 - a1))) (callD zdW (cw zh8 [I (w64 (a2 - a1))] []) fun (r0:Int) =>
 chk ((4:Int)≠0)<|
 zb2 a0 a1 a2 r0 (wu64 (w64 (a2 - a1))) (List.map zaa a0) (w64 (w64 (a1+w64 (w64 ((w64 (a2 - a1)).tdiv 4)*2)) - 1)))
 (some (AV.tup [],[(1000,⟨1,zaj,List.map zaa a0,false⟩)])))=some y):cw zec [AV.row 1000 1 0 (List.length (List.map zaa a0)),I a1,I a2,AV.fn zaf [AV.fa 2 (List.map zae s)]] [(1000,⟨1,zaj,List.map zaa a0,false⟩)]=some y:=
 zah zcW zT [10] rfl (by kernel_rfl) (by kernel_rfl) (by kernel_rfl) (by kernel_rfl) (by kernel_rfl) h
noncomputable def zgc (a0:List Int) (s:List GRatio) (r0:Int×Int) (r1:Int×Int) (r2:Int×Int):Option (AV×Mem):=pt zeP 1011 ⟨[(0,AV.sl 1 (List.map zaa a0)),(3,AV.fn zaf [AV.fa 2 (List.map zae s)]),(11,AV.loc 11 1 0 0),(12,I r0.fst),(13,I r1.fst),(14,I r2.fst)],[(11,⟨1,zaj,[zaa r2.snd],true⟩)]⟩
noncomputable def zfD (a0:List Int) (a1:Int) (a2:Int) (s:List GRatio):Option (AV×Mem):=pt zeP 1011 ⟨[(0,AV.sl 1 (List.map zaa a0)),(3,AV.fn zaf [AV.fa 2 (List.map zae s)]),(11,AV.loc 11 1 0 0),(12,I (w64 (a1+w64 (w64 ((w64 (a2 - a1)).tdiv 4)*1)))),(13,I (w64 (a1+w64 (w64 ((w64 (a2 - a1)).tdiv 4)*2)))),(14,I (w64 (a1+w64 (w64 ((w64 (a2 - a1)).tdiv 4)*3)))),(36,B false)],[(11,⟨1,zaj,[zaa 0],true⟩)]⟩
theorem zmJ (a0:List Int) (s:List GRatio) (r0:Int×Int) (r1:Int×Int) (r2:Int×Int) {y:AV×Mem} (h:(
 callD zdd (cw zdb [AV.sl 1 (List.map zaa a0),I r0.fst,I r1.fst,I r2.fst,AV.loc 1004 1 0 0,AV.fn zaf [AV.fa 2 (List.map zae s)]] [(1004,⟨1,zaj,[zaa r2.snd],true⟩)]) fun (r3:Int×Int) =>
 brn (r3.snd == 0) (some (AV.tup [I r3.fst,I 1],[]))
 (brn (r3.snd == 12) (some (AV.tup [I r3.fst,I 2],[]))
 (some (AV.tup [I r3.fst,I 0],[]))))=some y):zgc a0 s r0 r1 r2=some y:=
 pt_of zT [11] (by kernel_rfl) h
theorem zlS (a0:List Int) (a1:Int) (a2:Int) (s:List GRatio) {y:AV×Mem} (h:(
 callD zdd (cw zdb [AV.sl 1 (List.map zaa a0),I (w64 (a1+w64 (w64 ((w64 (a2 - a1)).tdiv 4)*1))),I (w64 (a1+w64 (w64 ((w64 (a2 - a1)).tdiv 4)*2))),I (w64 (a1+w64 (w64 ((w64 (a2 - a1)).tdiv 4)*3))),AV.loc 1004 1 0 0,AV.fn zaf [AV.fa 2 (List.map zae s)]] [(1004,⟨1,zaj,[zaa 0],true⟩)]) fun (r4:Int×Int) =>
 brn (r4.snd == 0) (some (AV.tup [I r4.fst,I 1],[]))
 (brn (r4.snd == 12) (some (AV.tup [I r4.fst,I 2],[]))
 (some (AV.tup [I r4.fst,I 0],[]))))=some y):zfD a0 a1 a2 s=some y:=
 pt_of zT [11] (by kernel_rfl) h
theorem zeO (a0:List Int) (a1:Int) (a2:Int) (s:List GRatio) {y:AV×Mem} (h:(
 chk ((4:Int)≠0)<|
 chk ((4:Int)≠0)<|
 chk ((4:Int)≠0)<|
 brn (decide (8≤w64 (a2 - a1))) (brn (decide (50≤w64 (a2 - a1))) (callD zb8 (cw zb9 [AV.sl 1 (List.map zaa a0),I (w64 (a1+w64 (w64 ((w64 (a2 - a1)).tdiv 4)*1))),AV.loc 1002 1 0 0,AV.fn zaf [AV.fa 2 (List.map zae s)]] [(1002,⟨1,zaj,[zaa 0],true⟩)]) fun (r0:Int×Int) =>
 callD zb8 (cw zb9 [AV.sl 1 (List.map zaa a0),I (w64 (a1+w64 (w64 ((w64 (a2 - a1)).tdiv 4)*2))),AV.loc 1002 1 0 0,AV.fn zaf [AV.fa 2 (List.map zae s)]] [(1002,⟨1,zaj,[zaa r0.snd],true⟩)]) fun (r1:Int×Int) =>
 callD zb8 (cw zb9 [AV.sl 1 (List.map zaa a0),I (w64 (a1+w64 (w64 ((w64 (a2 - a1)).tdiv 4)*3))),AV.loc 1002 1 0 0,AV.fn zaf [AV.fa 2 (List.map zae s)]] [(1002,⟨1,zaj,[zaa r1.snd],true⟩)]) fun (r2:Int×Int) =>
 zgc a0 s r0 r1 r2)
 (zfD a0 a1 a2 s))
 (some (AV.tup [I (w64 (a1+w64 (w64 ((w64 (a2 - a1)).tdiv 4)*2))),I 1],[])))=some y):cw zdf [AV.sl 1 (List.map zaa a0),I a1,I a2,AV.fn zaf [AV.fa 2 (List.map zae s)]] []=some y:=
 zah zeP zT [11] rfl (by kernel_rfl) (by kernel_rfl) (by kernel_rfl) (by kernel_rfl) (by kernel_rfl) h
noncomputable def zcK (a0:List Int) (x0:List (List AV)) (x1:Int) (x2:Int):Option (AV×Mem):=pt zhA 1 ⟨[(0,AV.row 1000 1 0 ((List.map zaa a0).length)),(8,I x1),(9,I x2)],[(1000,⟨1,zaj,x0,false⟩)]⟩
theorem zgQ (a0:List Int) (x0:List (List AV)) (x1:Int) (x2:Int) {y:AV×Mem} (h:(
 brn (decide (x1 < x2)) (chk ((0:Int)≤x2)<|
 chk ((x2:Int) < ((↑(List.map zaa a0).length:Int)))<|
 elemD zag x0 (0+x2.toNat) fun (c3:Int) =>
 chk ((0:Int)≤x1)<|
 chk ((x1:Int) < ((↑(List.map zaa a0).length:Int)))<|
 elemD zag x0 (0+x1.toNat) fun (c4:Int) =>
 chk ((0:Int)≤x1)<|
 chk ((x1:Int) < ((↑(List.map zaa a0).length:Int)))<|
 elemD zag x0 (0+x1.toNat) fun (c5:Int) =>
 chk ((0:Int)≤x2)<|
 chk ((x2:Int) < ((↑(List.map zaa a0).length:Int)))<|
 elemD zag (List.set x0 (0+x1.toNat) (zaa c3)) (0+x2.toNat) fun (c6:Int) =>
 zcK a0 (List.set (List.set x0 (0+x1.toNat) (zaa c3)) (0+x2.toNat) (zaa c4)) (w64 (x1+1)) (w64 (x2 - 1)))
 (some (AV.tup [],[(1000,⟨1,zaj,x0,false⟩)])))=some y):zcK a0 x0 x1 x2=some y:=
 pt_of zT [] (by kernel_rfl) h
theorem zpJ (a0:List Int) (a1:Int) (a2:Int) (s:List GRatio) {y:AV×Mem} (h:(
 zcK a0 (List.map zaa a0) a1 (w64 (a2 - 1)))=some y):cw zc5 [AV.row 1000 1 0 (List.length (List.map zaa a0)),I a1,I a2,AV.fn zaf [AV.fa 2 (List.map zae s)]] [(1000,⟨1,zaj,List.map zaa a0,false⟩)]=some y:=
 zah zhA zT [] rfl (by kernel_rfl) (by kernel_rfl) (by kernel_rfl) (by kernel_rfl) (by kernel_rfl) h
end Go.Proofs.YticojpmhlhfhlaaGreat
