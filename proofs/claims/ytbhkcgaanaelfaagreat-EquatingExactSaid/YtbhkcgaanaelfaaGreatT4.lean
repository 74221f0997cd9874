/- What the functions compute, between two cut points: printed by a program, checked by the kernel. -/
import Derived.Test.YtbhkcgaanaelfaaGreatAnn
namespace Go.Proofs.YtbhkcgaanaelfaaGreat
open Go.Ab
set_option maxRecDepth 100000
set_option linter.unusedVariables false
noncomputable def ziF (a0:GDistribution) (a2:Int) (r1:(List Int)×Int) (x2:List (List AV)) (x3:Int):Option (AV×Mem):=pt zrw 1 ⟨[(3,AV.loc 3 1 0 0),(6,AV.loc 6 1 0 0),(8,AV.sl 1 (List.map zai r1.fst)),(10,AV.loc 10 1 0 0),(11,I x3)],[(3,⟨1,zan,[zab a0],true⟩),(6,⟨1,zan,[[AV.v (.slice none 0 0)]],true⟩),(10,⟨1,zan,[[AV.row 901 1 0 ((List.replicate (w64 (a2+1)).toNat (I 0 :: List.map AV.v [])).length)]],true⟩),(901,⟨1,zaJ,x2,false⟩)]⟩
theorem zp3 (a0:GDistribution) (a2:Int) (r1:(List Int)×Int) (x2:List (List AV)) (x3:Int) {y:AV×Mem} (h:(
 brn (decide (x3 < (↑(List.map zai a0.Counts).length:Int))) (chk ((0:Int)≤x3)<|
 elemD zaw (List.map zai r1.fst) x3.toNat fun (c4:Int) =>
 chk (0≤c4)<|
 chk ((c4:Int) < ((↑(List.replicate (w64 (a2+1)).toNat (I 0 :: List.map AV.v [])).length:Int)))<|
 elemD zaw x2 (0+Int.toNat c4) fun (c5:Int) =>
 chk ((0:Int)≤x3)<|
 elemD zaw (List.map zai a0.Counts) x3.toNat fun (c6:Int) =>
 chk (0≤c4)<|
 chk ((c4:Int) < ((↑(List.replicate (w64 (a2+1)).toNat (I 0 :: List.map AV.v [])).length:Int)))<|
 elemD zaw x2 (0+Int.toNat c4) fun (c7:Int) =>
 ziF a0 a2 r1 (List.set x2 (0+Int.toNat c4) (zai (w64 (c5+c6)))) (w64 (x3+1)))
 (chk (0+(List.replicate (w64 (a2+1)).toNat (I 0 :: List.map AV.v [])).length≤x2.length)<|
 some (AV.tup [AV.agg [AV.sl 1 (List.take ((List.replicate (w64 (a2+1)).toNat (I 0 :: List.map AV.v [])).length) x2)],I 0],[])))=some y):ziF a0 a2 r1 x2 x3=some y:=
 pt_of zT [] (by kernel_rfl) h
theorem znL (a0:GDistribution) (a1:GCurve) (a2:Int) {y:AV×Mem} (h:(
 callD zcZ (cw zdh [AV.agg (zab a0)] []) fun (r0:Bool) =>
 brn (!r0) (some (AV.tup [AV.agg (zab ⟨[]⟩),I 1],[]))
 (callD zjP (cw zmL [AV.agg (zak a1),I (w64 ((↑(List.map zai a0.Counts).length:Int) - 1)),I a2] []) fun (r1:(List Int)×Int) =>
 brn (r1.snd != 0) (some (AV.tup [AV.agg (zab ⟨[]⟩),I r1.snd],[]))
 (chk ((w64 (a2+1):Int)=(w64 (a2+1)))<|
 chk ((0:Int)≤(w64 (a2+1)))<|
 chk ((w64 (a2+1)).toNat*(8+1)≤1099511627776)<|
 ziF a0 a2 r1 (List.replicate ((w64 (a2+1)).toNat) (zai 0)) 0)))=some y):cw zot [AV.agg (zab a0),AV.agg (zak a1),I a2] []=some y:=
 zaj zrw zT [] rfl (by kernel_rfl) (by kernel_rfl) (by kernel_rfl) (by kernel_rfl) (by kernel_rfl) h
noncomputable def zlJ (a0:List Int) (a1:List Int) (x0:Int):Option (AV×Mem):=pt zu6 1 ⟨[(0,AV.sl 1 (List.map zai a0)),(1,AV.sl 1 (List.map zai a1)),(12,I ((↑(List.map zai a0).length:Int))),(13,I x0)],[]⟩
theorem zsz (a0:List Int) (a1:List Int) (x0:Int) {y:AV×Mem} (h:(
 brn (decide (x0 < (↑(List.map zai a0).length:Int))) (chk ((0:Int)≤x0)<|
 elemD zaw (List.map zai a0) x0.toNat fun (c1:Int) =>
 chk ((0:Int)≤x0)<|
 elemD zaw (List.map zai a1) x0.toNat fun (c2:Int) =>
 brn (c1 != c2) (some (B false,[]))
 (zlJ a0 a1 (w64 (x0+1))))
 (some (B true,[])))=some y):zlJ a0 a1 x0=some y:=
 pt_of zT [] (by kernel_rfl) h
theorem zAx (a0:List Int) (a1:List Int) {y:AV×Mem} (h:(
 brn ((↑(List.map zai a0).length:Int) != (↑(List.map zai a1).length:Int)) (some (B false,[]))
 (zlJ a0 a1 0))=some y):cw zq0 [AV.sl 1 (List.map zai a0),AV.sl 1 (List.map zai a1)] []=some y:=
 zaj zu6 zT [] rfl (by kernel_rfl) (by kernel_rfl) (by kernel_rfl) (by kernel_rfl) (by kernel_rfl) h
noncomputable def zlL (a0:GDistribution) (a1:GDistribution) (x0:Int):Option (AV×Mem):=pt zuv 1 ⟨[(2,AV.loc 2 1 0 0),(3,AV.loc 3 1 0 0),(5,I x0)],[(2,⟨1,zan,[zab a0],true⟩),(3,⟨1,zan,[zab a1],true⟩)]⟩
theorem zsx (a0:GDistribution) (a1:GDistribution) (x0:Int) {y:AV×Mem} (h:(
 brn (decide (x0 < (↑(List.map zai a0.Counts).length:Int))) (chk ((0:Int)≤x0)<|
 elemD zaw (List.map zai a0.Counts) x0.toNat fun (c1:Int) =>
 chk ((0:Int)≤x0)<|
 elemD zaw (List.map zai a1.Counts) x0.toNat fun (c2:Int) =>
 brn (c1 != c2) (some (B false,[]))
 (zlL a0 a1 (w64 (x0+1))))
 (some (B true,[])))=some y):zlL a0 a1 x0=some y:=
 pt_of zT [] (by kernel_rfl) h
theorem zBk (a0:GDistribution) (a1:GDistribution) {y:AV×Mem} (h:(
 brn ((↑(List.map zai a0.Counts).length:Int) != (↑(List.map zai a1.Counts).length:Int)) (some (B false,[]))
 (zlL a0 a1 0))=some y):cw zqC [AV.agg (zab a0),AV.agg (zab a1)] []=some y:=
 zaj zuv zT [] rfl (by kernel_rfl) (by kernel_rfl) (by kernel_rfl) (by kernel_rfl) (by kernel_rfl) h
theorem zw9 (a0:GmarkDice) (a1:List Int) {y:AV×Mem} (h:(
 callD zbH (cw zbZ [AV.loc 1000 2 0 0,I ((↑(List.map zai a1).length:Int))] [(1000,⟨2,zaq,[zaR a0],true⟩)]) fun (r0:Int×GmarkDice) =>
 chk (0≤r0.fst)<|
 elemD zaw (List.map zai a1) (Int.toNat r0.fst) fun (c1:Int) =>
 some (I c1,[(1000,⟨2,zaq,[zaR r0.snd],true⟩)]))=some y):cw znj [AV.loc 1000 2 0 0,AV.sl 1 (List.map zai a1)] [(1000,⟨2,zaq,[zaR a0],true⟩)]=some y:=
 zaj zw8 zT [] rfl (by kernel_rfl) (by kernel_rfl) (by kernel_rfl) (by kernel_rfl) (by kernel_rfl) h
noncomputable def zln (a0:List GPoint) (r0:(List GPoint)×Int) (r5:GRatio×GconversionSteps) (r8:GRatio×GconversionSteps):Option (AV×Mem):=pt zkn 1009 ⟨[(0,AV.sl 4 (List.map zag a0)),(2,AV.loc 2 1 0 0),(4,AV.sl 4 (List.map zag r0.fst)),(6,AV.loc 6 1 0 0),(7,AV.loc 7 2 0 0),(8,AV.loc 8 2 0 0)],[(2,⟨1,zay,[[AV.v (.slice none 0 0)]],true⟩),(6,⟨1,zas,[zaE r8.snd],true⟩),(7,⟨2,zae,[zaa r5.fst],true⟩),(8,⟨2,zae,[zaa r8.fst],true⟩)]⟩
noncomputable def zjY (a0:List GPoint) (r0:(List GPoint)×Int) (r1:GRatio) (r2:GRatio):Option (AV×Mem):=pt zkn 1009 ⟨[(0,AV.sl 4 (List.map zag a0)),(2,AV.loc 2 1 0 0),(4,AV.sl 4 (List.map zag r0.fst)),(6,AV.loc 6 1 0 0),(7,AV.loc 7 2 0 0),(8,AV.loc 8 2 0 0),(24,B false)],[(2,⟨1,zay,[[AV.v (.slice none 0 0)]],true⟩),(6,⟨1,zas,[zaE ⟨0⟩],true⟩),(7,⟨2,zae,[zaa r1],true⟩),(8,⟨2,zae,[zaa r2],true⟩)]⟩
theorem zhn (a0:List GPoint) (r0:(List GPoint)×Int) (r5:GRatio×GconversionSteps) (r8:GRatio×GconversionSteps) {y:AV×Mem} (h:(
 brn (r8.snd.e != 0) (some (AV.tup [AV.agg (zak ⟨[]⟩),I r8.snd.e],[]))
 (callD zb9 (cw zb7 [AV.sl 4 (List.map zag a0),AV.agg (zaa r5.fst)] []) fun (r9:GPoint×Int) =>
 brn (r9.snd != 0) (some (AV.tup [AV.agg (zak ⟨[]⟩),I r9.snd],[]))
 (callD zb9 (cw zb7 [AV.sl 4 (List.map zag a0),AV.agg (zaa r8.fst)] []) fun (r10:GPoint×Int) =>
 brn (r10.snd != 0) (some (AV.tup [AV.agg (zak ⟨[]⟩),I r10.snd],[]))
 (brn (decide (410 < w64 ((↑(List.map zag r0.fst).length:Int)+2))) (some (AV.tup [AV.agg (zak ⟨[]⟩),I 3],[]))
 (chk (1=1)<|
 chk ((1+(List.map zag r0.fst).length)*(32+1)≤1099511627776)<|
 chk (([[I r9.fst.X.Num,I r9.fst.X.Den,I r9.fst.Y.Num,I r9.fst.Y.Den]]++List.map zag r0.fst).length=([[I r9.fst.X.Num,I r9.fst.X.Den,I r9.fst.Y.Num,I r9.fst.Y.Den]]++List.map zag r0.fst).length)<|
 chk ((([[I r9.fst.X.Num,I r9.fst.X.Den,I r9.fst.Y.Num,I r9.fst.Y.Den]]++List.map zag r0.fst).length+1)*(32+1)≤1099511627776)<|
 chk (0+([[I r9.fst.X.Num,I r9.fst.X.Den,I r9.fst.Y.Num,I r9.fst.Y.Den]]++List.map zag r0.fst++[[I r10.fst.X.Num,I r10.fst.X.Den,I r10.fst.Y.Num,I r10.fst.Y.Den]]).length≤([[I r9.fst.X.Num,I r9.fst.X.Den,I r9.fst.Y.Num,I r9.fst.Y.Den]]++List.map zag r0.fst++[[I r10.fst.X.Num,I r10.fst.X.Den,I r10.fst.Y.Num,I r10.fst.Y.Den]]).length)<|
 some (AV.tup [AV.agg [AV.sl 4 (List.take (([[I r9.fst.X.Num,I r9.fst.X.Den,I r9.fst.Y.Num,I r9.fst.Y.Den]]++List.map zag r0.fst++[[I r10.fst.X.Num,I r10.fst.X.Den,I r10.fst.Y.Num,I r10.fst.Y.Den]]).length) ((([[I r9.fst.X.Num,I r9.fst.X.Den,I r9.fst.Y.Num,I r9.fst.Y.Den]])++(List.map zag r0.fst))++([[I r10.fst.X.Num,I r10.fst.X.Den,I r10.fst.Y.Num,I r10.fst.Y.Den]])))],I 0],[]))))))=some y):zln a0 r0 r5 r8=some y:=
 pt_of zT [9] (by kernel_rfl) h
theorem zpP (a0:List GPoint) (r0:(List GPoint)×Int) (r1:GRatio) (r2:GRatio) {y:AV×Mem} (h:(
 callD zb9 (cw zb7 [AV.sl 4 (List.map zag a0),AV.agg (zaa r1)] []) fun (r11:GPoint×Int) =>
 brn (r11.snd != 0) (some (AV.tup [AV.agg (zak ⟨[]⟩),I r11.snd],[]))
 (callD zb9 (cw zb7 [AV.sl 4 (List.map zag a0),AV.agg (zaa r2)] []) fun (r12:GPoint×Int) =>
 brn (r12.snd != 0) (some (AV.tup [AV.agg (zak ⟨[]⟩),I r12.snd],[]))
 (brn (decide (410 < w64 ((↑(List.map zag r0.fst).length:Int)+2))) (some (AV.tup [AV.agg (zak ⟨[]⟩),I 3],[]))
 (chk (1=1)<|
 chk ((1+(List.map zag r0.fst).length)*(32+1)≤1099511627776)<|
 chk (([[I r11.fst.X.Num,I r11.fst.X.Den,I r11.fst.Y.Num,I r11.fst.Y.Den]]++List.map zag r0.fst).length=([[I r11.fst.X.Num,I r11.fst.X.Den,I r11.fst.Y.Num,I r11.fst.Y.Den]]++List.map zag r0.fst).length)<|
 chk ((([[I r11.fst.X.Num,I r11.fst.X.Den,I r11.fst.Y.Num,I r11.fst.Y.Den]]++List.map zag r0.fst).length+1)*(32+1)≤1099511627776)<|
 chk (0+([[I r11.fst.X.Num,I r11.fst.X.Den,I r11.fst.Y.Num,I r11.fst.Y.Den]]++List.map zag r0.fst++[[I r12.fst.X.Num,I r12.fst.X.Den,I r12.fst.Y.Num,I r12.fst.Y.Den]]).length≤([[I r11.fst.X.Num,I r11.fst.X.Den,I r11.fst.Y.Num,I r11.fst.Y.Den]]++List.map zag r0.fst++[[I r12.fst.X.Num,I r12.fst.X.Den,I r12.fst.Y.Num,I r12.fst.Y.Den]]).length)<|
 some (AV.tup [AV.agg [AV.sl 4 (List.take (([[I r11.fst.X.Num,I r11.fst.X.Den,I r11.fst.Y.Num,I r11.fst.Y.Den]]++List.map zag r0.fst++[[I r12.fst.X.Num,I r12.fst.X.Den,I r12.fst.Y.Num,I r12.fst.Y.Den]]).length) ((([[I r11.fst.X.Num,I r11.fst.X.Den,I r11.fst.Y.Num,I r11.fst.Y.Den]])++(List.map zag r0.fst))++([[I r12.fst.X.Num,I r12.fst.X.Den,I r12.fst.Y.Num,I r12.fst.Y.Den]])))],I 0],[])))))=some y):zjY a0 r0 r1 r2=some y:=
 pt_of zT [9] (by kernel_rfl) h
theorem zuo (a0:List GPoint) {y:AV×Mem} (h:(
 callD zhW (cw zh1 [AV.sl 4 (List.map zag a0)] []) fun (r0:(List GPoint)×Int) =>
 brn (r0.snd != 0) (some (AV.tup [AV.agg (zak ⟨[]⟩),I r0.snd],[]))
 (callD zcf (cw zcL [I 0] []) fun (r1:GRatio) =>
 callD zcf (cw zcL [I 1] []) fun (r2:GRatio) =>
 brn (decide (0 < (↑(List.map zag r0.fst).length:Int))) (chk ((0:Int)≤0)<|
 elemD zau (List.map zag r0.fst) (Int.toNat 0) fun (c3:GPoint) =>
 callD zcf (cw zcL [I 1] []) fun (r4:GRatio) =>
 callD zaD (cw zap [AV.loc 1000 1 0 0,AV.fn zbQ [],AV.agg (zaa c3.X),AV.agg (zaa r4)] [(1000,⟨1,zas,[zaE ⟨0⟩],true⟩)]) fun (r5:GRatio×GconversionSteps) =>
 chk ((0:Int)≤(w64 ((↑(List.map zag r0.fst).length:Int) - 1)))<|
 elemD zau (List.map zag r0.fst) ((w64 ((↑(List.map zag r0.fst).length:Int) - 1)).toNat) fun (c6:GPoint) =>
 callD zcf (cw zcL [I 1] []) fun (r7:GRatio) =>
 callD zaD (cw zap [AV.loc 1000 1 0 0,AV.fn zcO [],AV.agg (zaa c6.X),AV.agg (zaa r7)] [(1000,⟨1,zas,[zaE r5.snd],true⟩)]) fun (r8:GRatio×GconversionSteps) =>
 zln a0 r0 r5 r8)
 (zjY a0 r0 r1 r2)))=some y):cw zfJ [AV.sl 4 (List.map zag a0)] []=some y:=
 zaj zkn zT [9] rfl (by kernel_rfl) (by kernel_rfl) (by kernel_rfl) (by kernel_rfl) (by kernel_rfl) h
noncomputable def zdc (a0:List GPoint) (x0:List (List AV)) (x1:GRatio) (x2:Int):Option (AV×Mem):=pt zg5 1 ⟨[(0,AV.sl 4 (List.map zag a0)),(2,AV.loc 2 1 0 0),(4,AV.row 4 2 0 (List.length x0)),(5,AV.loc 5 2 0 0),(6,I x2)],[(2,⟨1,zay,[[AV.v (.slice none 0 0)]],true⟩),(4,⟨2,zae,x0,false⟩),(5,⟨2,zae,[zaa x1],true⟩)]⟩
noncomputable def zoG (a0:List GPoint) (x0:List (List AV)) (r6:GRatio×Bool) (r8:GRatio×Bool):Option (AV×Mem):=pt zg5 1019 ⟨[(0,AV.sl 4 (List.map zag a0)),(2,AV.loc 2 1 0 0),(4,AV.row 4 2 0 (List.length x0)),(9,AV.loc 9 2 0 0),(10,AV.loc 10 2 0 0)],[(2,⟨1,zay,[[AV.v (.slice none 0 0)]],true⟩),(4,⟨2,zae,x0,false⟩),(9,⟨2,zae,[zaa r6.fst],true⟩),(10,⟨2,zae,[zaa r8.fst],true⟩)]⟩
noncomputable def zno (a0:List GPoint) (x0:List (List AV)):Option (AV×Mem):=pt zg5 1019 ⟨[(0,AV.sl 4 (List.map zag a0)),(2,AV.loc 2 1 0 0),(4,AV.row 4 2 0 (List.length x0)),(9,AV.loc 9 2 0 0),(10,AV.loc 10 2 0 0),(57,B false)],[(2,⟨1,zay,[[AV.v (.slice none 0 0)]],true⟩),(4,⟨2,zae,x0,false⟩),(9,⟨2,zae,[zaa (⟨0,1⟩)],true⟩),(10,⟨2,zae,[zaa (⟨1,1⟩)],true⟩)]⟩
noncomputable def zby (a0:List GPoint) (x9:List (List AV)) (x10:List (List AV)) (x11:Int):Option (AV×Mem):=pt zg5 2 ⟨[(0,AV.sl 4 (List.map zag a0)),(2,AV.loc 2 1 0 0),(15,AV.loc 15 1 0 0),(16,AV.row 16 2 0 (List.length x9)),(17,I x11)],[(2,⟨1,zay,[[AV.v (.slice none 0 0)]],true⟩),(15,⟨1,zay,[[AV.row 900 4 0 (List.length x10)]],true⟩),(16,⟨2,zae,x9,false⟩),(900,⟨4,zaC,x10,false⟩)]⟩
noncomputable def zda (a0:List GPoint) (x9:List (List AV)) (x10:List (List AV)) (x11:Int) (x14:GRatio) (x15:Bool) (x16:Int):Option (AV×Mem):=pt zg5 3 ⟨[(0,AV.sl 4 (List.map zag a0)),(2,AV.loc 2 1 0 0),(15,AV.loc 15 1 0 0),(16,AV.row 16 2 0 (List.length x9)),(17,I x11),(18,AV.loc 18 2 0 0),(19,B x15),(20,I x16)],[(2,⟨1,zay,[[AV.v (.slice none 0 0)]],true⟩),(15,⟨1,zay,[[AV.row 900 4 0 (List.length x10)]],true⟩),(16,⟨2,zae,x9,false⟩),(18,⟨2,zae,[zaa x14],true⟩),(900,⟨4,zaC,x10,false⟩)]⟩
theorem zjs (a0:List GPoint) (x0:List (List AV)) (x1:GRatio) (x2:Int) {y:AV×Mem} (h:(
 brn (decide (w64 (x2+1) < (↑(List.map zag a0).length:Int))) (callD zhH (cw zhN [AV.sl 4 (List.map zag a0),I x2] []) fun (r3:GRatio×Bool) =>
 brn (!r3.snd) (some (AV.tup [AV.agg (zak ⟨[]⟩),I 6],[]))
 (brn (decide (0 < x2)) (brn (!(r3.fst.Num == x1.Num && (r3.fst.Den == x1.Den && true))) (chk ((0:Int)≤x2)<|
 elemD zau (List.map zag a0) x2.toNat fun (c4:GPoint) =>
 chk (x0.length=x0.length)<|
 chk ((x0.length+1)*(16+1)≤1099511627776)<|
 chk ((x0++[[I c4.X.Num,I c4.X.Den]]).length=(x0++[[I c4.X.Num,I c4.X.Den]]).length)<|
 zdc a0 (x0++([zaa c4.X])) r3.fst (w64 (x2+1)))
 (zdc a0 x0 r3.fst (w64 (x2+1))))
 (zdc a0 x0 r3.fst (w64 (x2+1)))))
 (brn (decide (0 < (↑x0.length:Int))) (chk ((0:Int)≤0)<|
 chk ((0:Int) < (↑x0.length:Int))<|
 elemD zaf x0 (0+Int.toNat 0) fun (c5:GRatio) =>
 callD zld (cw zlr [AV.agg (zaa c5),I (-1)] []) fun (r6:GRatio×Bool) =>
 chk ((0:Int)≤(w64 ((↑x0.length:Int) - 1)))<|
 chk ((w64 ((↑x0.length:Int) - 1):Int) < (↑x0.length:Int))<|
 elemD zaf x0 (0+(w64 ((↑x0.length:Int) - 1)).toNat) fun (c7:GRatio) =>
 callD zld (cw zlr [AV.agg (zaa c7),I 1] []) fun (r8:GRatio×Bool) =>
 brn (!r6.snd) (some (AV.tup [AV.agg (zak ⟨[]⟩),I 6],[]))
 (brn (!r8.snd) (some (AV.tup [AV.agg (zak ⟨[]⟩),I 6],[]))
 (zoG a0 x0 r6 r8)))
 (zno a0 x0)))=some y):zdc a0 x0 x1 x2=some y:=
 pt_of zT [19] (by kernel_rfl) h
theorem zua (a0:List GPoint) (x0:List (List AV)) (r6:GRatio×Bool) (r8:GRatio×Bool) {y:AV×Mem} (h:(
 chk (0+x0.length≤x0.length)<|
 chk (1=1)<|
 chk ((1+(List.take x0.length x0).length)*(16+1)≤1099511627776)<|
 chk (([[I r6.fst.Num,I r6.fst.Den]]++List.take x0.length x0).length=([[I r6.fst.Num,I r6.fst.Den]]++List.take x0.length x0).length)<|
 chk ((([[I r6.fst.Num,I r6.fst.Den]]++List.take x0.length x0).length+1)*(16+1)≤1099511627776)<|
 chk (([[I r6.fst.Num,I r6.fst.Den]]++List.take x0.length x0++[[I r8.fst.Num,I r8.fst.Den]]).length=([[I r6.fst.Num,I r6.fst.Den]]++List.take x0.length x0++[[I r8.fst.Num,I r8.fst.Den]]).length)<|
 zby a0 ((([zaa r6.fst])++(List.take x0.length x0))++([zaa r8.fst])) [] 0)=some y):zoG a0 x0 r6 r8=some y:=
 pt_of zT [19] (by kernel_rfl) h
theorem zsp (a0:List GPoint) (x0:List (List AV)) {y:AV×Mem} (h:(
 chk (0+x0.length≤x0.length)<|
 chk (1=1)<|
 chk ((1+(List.take x0.length x0).length)*(16+1)≤1099511627776)<|
 chk (([[I 0,I 1]]++List.take x0.length x0).length=([[I 0,I 1]]++List.take x0.length x0).length)<|
 chk ((([[I 0,I 1]]++List.take x0.length x0).length+1)*(16+1)≤1099511627776)<|
 chk (([[I 0,I 1]]++List.take x0.length x0++[[I 1,I 1]]).length=([[I 0,I 1]]++List.take x0.length x0++[[I 1,I 1]]).length)<|
 zby a0 ((([zaa (⟨0,1⟩)])++(List.take x0.length x0))++([zaa (⟨1,1⟩)])) [] 0)=some y):zno a0 x0=some y:=
 pt_of zT [19] (by kernel_rfl) h
theorem zhk (a0:List GPoint) (x9:List (List AV)) (x10:List (List AV)) (x11:Int) {y:AV×Mem} (h:(
 brn (decide (x11 < (↑x9.length:Int))) (chk ((0:Int)≤x11)<|
 chk ((x11:Int) < (↑x9.length:Int))<|
 elemD zaf x9 (0+x11.toNat) fun (c12:GRatio) =>
 callD zcH (cw zcF [AV.sl 4 (List.map zag a0),AV.agg (zaa c12)] []) fun (r13:GRatio×Bool) =>
 zda a0 x9 x10 x11 r13.fst r13.snd 0)
 (brn (decide (410 < (↑x10.length:Int))) (some (AV.tup [AV.agg (zak ⟨[]⟩),I 3],[]))
 (chk (0+x10.length≤x10.length)<|
 some (AV.tup [AV.agg [AV.sl 4 (List.take x10.length x10)],I 0],[]))))=some y):zby a0 x9 x10 x11=some y:=
 pt_of zT [19] (by kernel_rfl) h
theorem zfQ (a0:List GPoint) (x9:List (List AV)) (x10:List (List AV)) (x11:Int) (x14:GRatio) (x15:Bool) (x16:Int) {y:AV×Mem} (h:(
 brn (decide (x16 < (↑(List.map zag a0).length:Int))) (chk ((0:Int)≤x16)<|
 elemD zau (List.map zag a0) x16.toNat fun (c17:GPoint) =>
 chk ((0:Int)≤x11)<|
 chk ((x11:Int) < (↑x9.length:Int))<|
 elemD zaf x9 (0+x11.toNat) fun (c18:GRatio) =>
 brn (c17.X.Num == c18.Num && (c17.X.Den == c18.Den && true)) (brn (decide (0 < x11)) (brn (decide (w64 (x11+1) < (↑x9.length:Int))) (chk ((0:Int)≤x16)<|
 elemD zau (List.map zag a0) x16.toNat fun (c19:GPoint) =>
 zda a0 x9 x10 x11 c19.Y true (w64 (x16+1)))
 (zda a0 x9 x10 x11 x14 x15 (w64 (x16+1))))
 (zda a0 x9 x10 x11 x14 x15 (w64 (x16+1))))
 (zda a0 x9 x10 x11 x14 x15 (w64 (x16+1))))
 (brn (!x15) (some (AV.tup [AV.agg (zak ⟨[]⟩),I 6],[]))
 (chk ((0:Int)≤x11)<|
 chk ((x11:Int) < (↑x9.length:Int))<|
 elemD zaf x9 (0+x11.toNat) fun (c20:GRatio) =>
 chk (x10.length=x10.length)<|
 chk ((x10.length+1)*(32+1)≤1099511627776)<|
 zby a0 x9 (x10++([zag (⟨⟨c20.Num,c20.Den⟩,⟨x14.Num,x14.Den⟩⟩)])) (w64 (x11+1)))))=some y):zda a0 x9 x10 x11 x14 x15 x16=some y:=
 pt_of zT [19] (by kernel_rfl) h
theorem zyF (a0:List GPoint) {y:AV×Mem} (h:(
 zdc a0 [] (⟨0,0⟩) 0)=some y):cw zlR [AV.sl 4 (List.map zag a0)] []=some y:=
 zaj zg5 zT [19] rfl (by kernel_rfl) (by kernel_rfl) (by kernel_rfl) (by kernel_rfl) (by kernel_rfl) h
noncomputable def zdS (a0:List GPoint) (x0:Int):Option (AV×Mem):=pt zmr 1 ⟨[(0,AV.sl 4 (List.map zag a0)),(5,AV.sl 4 (List.map zag a0)),(6,I ((↑(List.map zag a0).length:Int))),(7,I x0)],[]⟩
theorem zlB (a0:List GPoint) (x0:Int) {y:AV×Mem} (h:(
 brn (decide (x0 < (↑(List.map zag a0).length:Int))) (chk ((0:Int)≤x0)<|
 elemD zau (List.map zag a0) x0.toNat fun (c1:GPoint) =>
 callD zbc (cw zbk [AV.agg (zaa c1.X)] []) fun (r2:Bool) =>
 brn (!r2) (some (B false,[]))
 (callD zbc (cw zbk [AV.agg (zaa c1.Y)] []) fun (r3:Bool) =>
 brn (!r3) (some (B false,[]))
 (brn (decide (0 < x0)) (chk ((0:Int)≤(w64 (x0 - 1)))<|
 elemD zau (List.map zag a0) ((w64 (x0 - 1)).toNat) fun (c4:GPoint) =>
 callD zlG (cw znN [AV.agg (zaa c4.X),AV.agg (zaa c1.X)] []) fun (r5:Bool) =>
 brn (!r5) (some (B false,[]))
 (chk ((0:Int)≤(w64 (x0 - 1)))<|
 elemD zau (List.map zag a0) ((w64 (x0 - 1)).toNat) fun (c6:GPoint) =>
 callD zlG (cw znN [AV.agg (zaa c6.Y),AV.agg (zaa c1.Y)] []) fun (r7:Bool) =>
 brn (!r7) (some (B false,[]))
 (zdS a0 (w64 (x0+1)))))
 (zdS a0 (w64 (x0+1))))))
 (some (B true,[])))=some y):zdS a0 x0=some y:=
 pt_of zT [] (by kernel_rfl) h
theorem zrW (a0:List GPoint) {y:AV×Mem} (h:(
 zdS a0 0)=some y):cw zmt [AV.sl 4 (List.map zag a0)] []=some y:=
 zaj zmr zT [] rfl (by kernel_rfl) (by kernel_rfl) (by kernel_rfl) (by kernel_rfl) (by kernel_rfl) h
noncomputable def zhq (a0:List GPoint) (x0:Int):Option (AV×Mem):=pt zsH 1 ⟨[(0,AV.sl 4 (List.map zag a0)),(3,I x0)],[]⟩
theorem zrb (a0:List GPoint) (x0:Int) {y:AV×Mem} (h:(
 brn (decide (x0 < (↑(List.map zag a0).length:Int))) (chk ((0:Int)≤x0)<|
 elemD zau (List.map zag a0) x0.toNat fun (c1:GPoint) =>
 callD zbl (cw zbm [AV.agg (zaa c1.X)] []) fun (r2:Bool) =>
 brn (!r2) (some (B false,[]))
 (chk ((0:Int)≤x0)<|
 elemD zau (List.map zag a0) x0.toNat fun (c3:GPoint) =>
 callD zbl (cw zbm [AV.agg (zaa c3.Y)] []) fun (r4:Bool) =>
 brn (!r4) (some (B false,[]))
 (brn (decide (0 < x0)) (chk ((0:Int)≤(w64 (x0 - 1)))<|
 elemD zau (List.map zag a0) ((w64 (x0 - 1)).toNat) fun (c5:GPoint) =>
 chk ((0:Int)≤x0)<|
 elemD zau (List.map zag a0) x0.toNat fun (c6:GPoint) =>
 callD zeA (cw zfo [AV.agg (zaa c5.X),AV.agg (zaa c6.X)] []) fun (r7:Bool) =>
 brn (!r7) (some (B false,[]))
 (chk ((0:Int)≤(w64 (x0 - 1)))<|
 elemD zau (List.map zag a0) ((w64 (x0 - 1)).toNat) fun (c8:GPoint) =>
 chk ((0:Int)≤x0)<|
 elemD zau (List.map zag a0) x0.toNat fun (c9:GPoint) =>
 callD zeA (cw zfo [AV.agg (zaa c8.Y),AV.agg (zaa c9.Y)] []) fun (r10:Bool) =>
 brn (!r10) (some (B false,[]))
 (zhq a0 (w64 (x0+1)))))
 (zhq a0 (w64 (x0+1))))))
 (some (B (decide (2≤(↑(List.map zag a0).length:Int))),[])))=some y):zhq a0 x0=some y:=
 pt_of zT [] (by kernel_rfl) h
theorem zyG (a0:List GPoint) {y:AV×Mem} (h:(
 zhq a0 0)=some y):cw zsw [AV.sl 4 (List.map zag a0)] []=some y:=
 zaj zsH zT [] rfl (by kernel_rfl) (by kernel_rfl) (by kernel_rfl) (by kernel_rfl) (by kernel_rfl) h
noncomputable def zdT (a0:List GPoint) (a1:List GPoint) (x0:Int):Option (AV×Mem):=pt zl9 1 ⟨[(0,AV.sl 4 (List.map zag a0)),(1,AV.sl 4 (List.map zag a1)),(12,I ((↑(List.map zag a0).length:Int))),(13,I x0)],[]⟩
theorem zd0 (a0:List GPoint) (a1:List GPoint) (x0:Int) {y:AV×Mem} (h:(
 brn (decide (x0 < (↑(List.map zag a0).length:Int))) (chk ((0:Int)≤x0)<|
 elemD zau (List.map zag a0) x0.toNat fun (c1:GPoint) =>
 chk ((0:Int)≤x0)<|
 elemD zau (List.map zag a1) x0.toNat fun (c2:GPoint) =>
 brn (!(c1.X.Num == c2.X.Num && (c1.X.Den == c2.X.Den && true) && (c1.Y.Num == c2.Y.Num && (c1.Y.Den == c2.Y.Den && true) && true))) (some (B false,[]))
 (zdT a0 a1 (w64 (x0+1))))
 (some (B true,[])))=some y):zdT a0 a1 x0=some y:=
 pt_of zT [] (by kernel_rfl) h
noncomputable def zff (a0:List GPoint) (x0:List (List AV)) (x1:Int):Option (AV×Mem):=pt zmu 1 ⟨[(3,AV.row 8 4 0 ((List.replicate (↑(List.map zag a0).length:Int).toNat (I 0 :: I 0 :: I 0 :: I 0 :: List.map AV.v [])).length)),(9,AV.sl 4 (List.map zag a0)),(10,I ((↑(List.map zag a0).length:Int))),(11,I x1)],[(8,⟨4,zaC,x0,false⟩)]⟩
theorem zll (a0:List GPoint) (x0:List (List AV)) (x1:Int) {y:AV×Mem} (h:(
 brn (decide (x1 < (↑(List.map zag a0).length:Int))) (chk ((0:Int)≤x1)<|
 elemD zau (List.map zag a0) x1.toNat fun (c2:GPoint) =>
 chk ((0:Int)≤x1)<|
 chk ((x1:Int) < ((↑(List.replicate (↑(List.map zag a0).length:Int).toNat (I 0 :: I 0 :: I 0 :: I 0 :: List.map AV.v [])).length:Int)))<|
 elemD zau x0 (0+x1.toNat) fun (c3:GPoint) =>
 zff a0 (List.set x0 (0+x1.toNat) (zag (⟨⟨c2.Y.Num,c2.Y.Den⟩,⟨c2.X.Num,c2.X.Den⟩⟩))) (w64 (x1+1)))
 (chk ((List.replicate (↑(List.map zag a0).length:Int).toNat (I 0 :: I 0 :: I 0 :: I 0 :: List.map AV.v [])).length=x0.length)<|
 some (AV.new 4 zaC x0,[])))=some y):zff a0 x0 x1=some y:=
 pt_of zT [] (by kernel_rfl) h
theorem zr4 (a0:List GPoint) {y:AV×Mem} (h:(
 chk (((↑(List.map zag a0).length:Int):Int)=((↑(List.map zag a0).length:Int)))<|
 chk ((0:Int)≤((↑(List.map zag a0).length:Int)))<|
 chk ((↑(List.map zag a0).length:Int).toNat*(32+1)≤1099511627776)<|
 zff a0 (List.replicate ((↑(List.map zag a0).length:Int).toNat) (zag (⟨⟨0,0⟩,⟨0,0⟩⟩))) 0)=some y):cw zin [AV.sl 4 (List.map zag a0)] []=some y:=
 zaj zmu zT [] rfl (by kernel_rfl) (by kernel_rfl) (by kernel_rfl) (by kernel_rfl) (by kernel_rfl) h
noncomputable def zlW (a0:List GPoint) (x0:List (List AV)) (x1:Int):Option (AV×Mem):=pt zvk 1 ⟨[(0,AV.sl 4 (List.map zag a0)),(3,AV.row 3 4 0 (List.length x0)),(4,I x1)],[(3,⟨4,zaC,x0,false⟩)]⟩
theorem zsi (a0:List GPoint) (x0:List (List AV)) (x1:Int) {y:AV×Mem} (h:(
 brn (decide (x1 < (↑(List.map zag a0).length:Int))) (chk ((0:Int)≤x1)<|
 elemD zau (List.map zag a0) x1.toNat fun (c2:GPoint) =>
 chk ((0:Int)≤x1)<|
 elemD zau (List.map zag a0) x1.toNat fun (c3:GPoint) =>
 chk (x0.length=x0.length)<|
 chk ((x0.length+1)*(32+1)≤1099511627776)<|
 chk ((x0++[[I c2.Y.Num,I c2.Y.Den,I c3.X.Num,I c3.X.Den]]).length=(x0++[[I c2.Y.Num,I c2.Y.Den,I c3.X.Num,I c3.X.Den]]).length)<|
 zlW a0 (x0++([zag (⟨⟨c2.Y.Num,c2.Y.Den⟩,⟨c3.X.Num,c3.X.Den⟩⟩)])) (w64 (x1+1)))
 (chk (x0.length=x0.length)<|
 some (AV.new 4 zaC x0,[])))=some y):zlW a0 x0 x1=some y:=
 pt_of zT [] (by kernel_rfl) h
theorem zAO (a0:List GPoint) {y:AV×Mem} (h:(
 zlW a0 [] 0)=some y):cw zq5 [AV.sl 4 (List.map zag a0)] []=some y:=
 zaj zvk zT [] rfl (by kernel_rfl) (by kernel_rfl) (by kernel_rfl) (by kernel_rfl) (by kernel_rfl) h
theorem zp9 (a0:List GPoint) (a1:GRatio) {y:AV×Mem} (h:(
 callD zm1 (cw zpT [I (w64 (w64 ((↑(List.map zag a0).length:Int) - 1) - 1)),AV.fn zdC [AV.fp [I a1.Num,I a1.Den],AV.fp [AV.sl 4 (List.map zag a0)]]] []) fun (r0:Int) =>
 chk ((0:Int)≤(w64 (w64 (1+r0) - 1)))<|
 elemD zau (List.map zag a0) ((w64 (w64 (1+r0) - 1)).toNat) fun (c1:GPoint) =>
 chk ((0:Int)≤(w64 (1+r0)))<|
 elemD zau (List.map zag a0) ((w64 (1+r0)).toNat) fun (c2:GPoint) =>
 callD zc4 (cw zcq [AV.loc 1000 1 0 0,AV.agg (zag c1),AV.agg (zag c2)] [(1000,⟨1,zas,[zaE ⟨0⟩],true⟩)]) fun (r3:GRatio×GconversionSteps) =>
 callD zaD (cw zap [AV.loc 1000 1 0 0,AV.fn zbQ [],AV.agg (zaa a1),AV.agg (zaa c1.X)] [(1000,⟨1,zas,[zaE r3.snd],true⟩)]) fun (r4:GRatio×GconversionSteps) =>
 callD zaD (cw zap [AV.loc 1000 1 0 0,AV.fn zdr [],AV.agg (zaa r4.fst),AV.agg (zaa r3.fst)] [(1000,⟨1,zas,[zaE r4.snd],true⟩)]) fun (r5:GRatio×GconversionSteps) =>
 callD zaD (cw zap [AV.loc 1000 1 0 0,AV.fn zcO [],AV.agg (zaa c1.Y),AV.agg (zaa r5.fst)] [(1000,⟨1,zas,[zaE r5.snd],true⟩)]) fun (r6:GRatio×GconversionSteps) =>
 some (AV.tup [AV.agg (zaa r6.fst),I r6.snd.e],[]))=some y):cw zbq [AV.sl 4 (List.map zag a0),AV.agg (zaa a1)] []=some y:=
 zaj zvS zT [] rfl (by kernel_rfl) (by kernel_rfl) (by kernel_rfl) (by kernel_rfl) (by kernel_rfl) h
theorem zkY (a0:List GRatio) {y:AV×Mem} (h:(
 callD zqf (cw zqb [AV.v (.int .u64 (wu64 (↑(List.map zaa a0).length:Int)))] []) fun (r0:Int) =>
 callD zaI (cw zcg [AV.row 1000 2 0 (List.length (List.map zaa a0)),I 0,I ((↑(List.map zaa a0).length:Int)),I r0,AV.fn zah []] [(1000,⟨2,zae,List.map zaa a0,false⟩)]) fun (r1:(List GRatio)) =>
 some (AV.tup [],[(1000,⟨2,zae,List.map zaa r1,false⟩)]))=some y):cw zbJ [AV.row 1000 2 0 (List.length (List.map zaa a0)),AV.fn zah []] [(1000,⟨2,zae,List.map zaa a0,false⟩)]=some y:=
 zaj zk0 zT [] rfl (by kernel_rfl) (by kernel_rfl) (by kernel_rfl) (by kernel_rfl) (by kernel_rfl) h
theorem zxo (a0:GRatio) (a1:GRatio) {y:AV×Mem} (h:(
 callD zbc (cw zbk [AV.agg (zaa a0)] []) fun (r0:Bool) =>
 brn (!r0) (some (I 0,[]))
 (callD zbc (cw zbk [AV.agg (zaa a1)] []) fun (r1:Bool) =>
 brn (!r1) (some (I 0,[]))
 (callD zdN (cw zdM [I a0.Num,AV.v (.int .u64 (wu64 a1.Den))] []) fun (r2:GratioSigned) =>
 callD zdN (cw zdM [I a1.Num,AV.v (.int .u64 (wu64 a0.Den))] []) fun (r3:GratioSigned) =>
 brn r2.neg (brn r3.neg (callD zd6 (cw zd7 [AV.agg (zax r3.abs),AV.agg (zax r2.abs)] []) fun (r4:Int) =>
 some (I r4,[]))
 (brn r2.neg (some (I (-1),[]))
 (brn r3.neg (some (I 1,[]))
 (callD zd6 (cw zd7 [AV.agg (zax r2.abs),AV.agg (zax r3.abs)] []) fun (r5:Int) =>
 some (I r5,[])))))
 (brn r2.neg (some (I (-1),[]))
 (brn r3.neg (some (I 1,[]))
 (callD zd6 (cw zd7 [AV.agg (zax r2.abs),AV.agg (zax r3.abs)] []) fun (r6:Int) =>
 some (I r6,[])))))))=some y):cw zah [AV.agg (zaa a0),AV.agg (zaa a1)] []=some y:=
 zaj zxQ zT [] rfl (by kernel_rfl) (by kernel_rfl) (by kernel_rfl) (by kernel_rfl) (by kernel_rfl) h
end Go.Proofs.YtbhkcgaanaelfaaGreat
