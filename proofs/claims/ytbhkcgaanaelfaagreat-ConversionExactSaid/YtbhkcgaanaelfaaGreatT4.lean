/- What the functions compute, between two cut points: printed by a program, checked by the kernel. -/
import Derived.Test.YtbhkcgaanaelfaaGreatAnn
namespace Go.Proofs.YtbhkcgaanaelfaaGreat
open Go.Ab
set_option maxRecDepth 100000
set_option linter.unusedVariables false
theorem zsU (a0:GmarkDice) (a1:List Int) {y:AV×Mem} (h:(
 callD zaX (cw zaU [AV.loc 1000 2 0 0,I ((↑(List.map zbl a1).length:Int))] [(1000,⟨2,zal,[zaA a0],true⟩)]) fun (r0:Int×GmarkDice) =>
 chk (0≤r0.fst)<|
 elemD zaY (List.map zbl a1) (Int.toNat r0.fst) fun (c1:Int) =>
 some (I c1,[(1000,⟨2,zal,[zaA r0.snd],true⟩)]))=some y):cw zhG [AV.loc 1000 2 0 0,AV.sl 1 (List.map zbl a1)] [(1000,⟨2,zal,[zaA a0],true⟩)]=some y:=
 zaj zsN zT [] rfl (by kernel_rfl) (by kernel_rfl) (by kernel_rfl) (by kernel_rfl) (by kernel_rfl) h
noncomputable def zji (a0:List GPoint) (r0:(List GPoint)×Int) (r5:GRatio×GconversionSteps) (r8:GRatio×GconversionSteps):Option (AV×Mem):=pt zil 1009 ⟨[(0,AV.sl 4 (List.map zae a0)),(2,AV.loc 2 1 0 0),(4,AV.sl 4 (List.map zae r0.fst)),(6,AV.loc 6 1 0 0),(7,AV.loc 7 2 0 0),(8,AV.loc 8 2 0 0)],[(2,⟨1,zau,[[AV.v (.slice none 0 0)]],true⟩),(6,⟨1,zap,[zaw r8.snd],true⟩),(7,⟨2,zac,[zaa r5.fst],true⟩),(8,⟨2,zac,[zaa r8.fst],true⟩)]⟩
noncomputable def zhV (a0:List GPoint) (r0:(List GPoint)×Int) (r1:GRatio) (r2:GRatio):Option (AV×Mem):=pt zil 1009 ⟨[(0,AV.sl 4 (List.map zae a0)),(2,AV.loc 2 1 0 0),(4,AV.sl 4 (List.map zae r0.fst)),(6,AV.loc 6 1 0 0),(7,AV.loc 7 2 0 0),(8,AV.loc 8 2 0 0),(24,B false)],[(2,⟨1,zau,[[AV.v (.slice none 0 0)]],true⟩),(6,⟨1,zap,[zaw ⟨0⟩],true⟩),(7,⟨2,zac,[zaa r1],true⟩),(8,⟨2,zac,[zaa r2],true⟩)]⟩
theorem zgc (a0:List GPoint) (r0:(List GPoint)×Int) (r5:GRatio×GconversionSteps) (r8:GRatio×GconversionSteps) {y:AV×Mem} (h:(
 brn (r8.snd.e != 0) (some (AV.tup [AV.agg (zah ⟨[]⟩),I r8.snd.e],[]))
 (callD zb8 (cw zb2 [AV.sl 4 (List.map zae a0),AV.agg (zaa r5.fst)] []) fun (r9:GPoint×Int) =>
 brn (r9.snd != 0) (some (AV.tup [AV.agg (zah ⟨[]⟩),I r9.snd],[]))
 (callD zb8 (cw zb2 [AV.sl 4 (List.map zae a0),AV.agg (zaa r8.fst)] []) fun (r10:GPoint×Int) =>
 brn (r10.snd != 0) (some (AV.tup [AV.agg (zah ⟨[]⟩),I r10.snd],[]))
 (brn (decide (410 < w64 ((↑(List.map zae r0.fst).length:Int)+2))) (some (AV.tup [AV.agg (zah ⟨[]⟩),I 3],[]))
 (chk (1=1)<|
 chk ((1+(List.map zae r0.fst).length)*(32+1)≤1099511627776)<|
 chk (([[I r9.fst.X.Num,I r9.fst.X.Den,I r9.fst.Y.Num,I r9.fst.Y.Den]]++List.map zae r0.fst).length=([[I r9.fst.X.Num,I r9.fst.X.Den,I r9.fst.Y.Num,I r9.fst.Y.Den]]++List.map zae r0.fst).length)<|
 chk ((([[I r9.fst.X.Num,I r9.fst.X.Den,I r9.fst.Y.Num,I r9.fst.Y.Den]]++List.map zae r0.fst).length+1)*(32+1)≤1099511627776)<|
 chk (0+([[I r9.fst.X.Num,I r9.fst.X.Den,I r9.fst.Y.Num,I r9.fst.Y.Den]]++List.map zae r0.fst++[[I r10.fst.X.Num,I r10.fst.X.Den,I r10.fst.Y.Num,I r10.fst.Y.Den]]).length≤([[I r9.fst.X.Num,I r9.fst.X.Den,I r9.fst.Y.Num,I r9.fst.Y.Den]]++List.map zae r0.fst++[[I r10.fst.X.Num,I r10.fst.X.Den,I r10.fst.Y.Num,I r10.fst.Y.Den]]).length)<|
 some (AV.tup [AV.agg [AV.sl 4 (List.take (([[I r9.fst.X.Num,I r9.fst.X.Den,I r9.fst.Y.Num,I r9.fst.Y.Den]]++List.map zae r0.fst++[[I r10.fst.X.Num,I r10.fst.X.Den,I r10.fst.Y.Num,I r10.fst.Y.Den]]).length) ((([[I r9.fst.X.Num,I r9.fst.X.Den,I r9.fst.Y.Num,I r9.fst.Y.Den]])++(List.map zae r0.fst))++([[I r10.fst.X.Num,I r10.fst.X.Den,I r10.fst.Y.Num,I r10.fst.Y.Den]])))],I 0],[]))))))=some y):zji a0 r0 r5 r8=some y:=
 pt_of zT [9] (by kernel_rfl) h
theorem zl2 (a0:List GPoint) (r0:(List GPoint)×Int) (r1:GRatio) (r2:GRatio) {y:AV×Mem} (h:(
 callD zb8 (cw zb2 [AV.sl 4 (List.map zae a0),AV.agg (zaa r1)] []) fun (r11:GPoint×Int) =>
 brn (r11.snd != 0) (some (AV.tup [AV.agg (zah ⟨[]⟩),I r11.snd],[]))
 (callD zb8 (cw zb2 [AV.sl 4 (List.map zae a0),AV.agg (zaa r2)] []) fun (r12:GPoint×Int) =>
 brn (r12.snd != 0) (some (AV.tup [AV.agg (zah ⟨[]⟩),I r12.snd],[]))
 (brn (decide (410 < w64 ((↑(List.map zae r0.fst).length:Int)+2))) (some (AV.tup [AV.agg (zah ⟨[]⟩),I 3],[]))
 (chk (1=1)<|
 chk ((1+(List.map zae r0.fst).length)*(32+1)≤1099511627776)<|
 chk (([[I r11.fst.X.Num,I r11.fst.X.Den,I r11.fst.Y.Num,I r11.fst.Y.Den]]++List.map zae r0.fst).length=([[I r11.fst.X.Num,I r11.fst.X.Den,I r11.fst.Y.Num,I r11.fst.Y.Den]]++List.map zae r0.fst).length)<|
 chk ((([[I r11.fst.X.Num,I r11.fst.X.Den,I r11.fst.Y.Num,I r11.fst.Y.Den]]++List.map zae r0.fst).length+1)*(32+1)≤1099511627776)<|
 chk (0+([[I r11.fst.X.Num,I r11.fst.X.Den,I r11.fst.Y.Num,I r11.fst.Y.Den]]++List.map zae r0.fst++[[I r12.fst.X.Num,I r12.fst.X.Den,I r12.fst.Y.Num,I r12.fst.Y.Den]]).length≤([[I r11.fst.X.Num,I r11.fst.X.Den,I r11.fst.Y.Num,I r11.fst.Y.Den]]++List.map zae r0.fst++[[I r12.fst.X.Num,I r12.fst.X.Den,I r12.fst.Y.Num,I r12.fst.Y.Den]]).length)<|
 some (AV.tup [AV.agg [AV.sl 4 (List.take (([[I r11.fst.X.Num,I r11.fst.X.Den,I r11.fst.Y.Num,I r11.fst.Y.Den]]++List.map zae r0.fst++[[I r12.fst.X.Num,I r12.fst.X.Den,I r12.fst.Y.Num,I r12.fst.Y.Den]]).length) ((([[I r11.fst.X.Num,I r11.fst.X.Den,I r11.fst.Y.Num,I r11.fst.Y.Den]])++(List.map zae r0.fst))++([[I r12.fst.X.Num,I r12.fst.X.Den,I r12.fst.Y.Num,I r12.fst.Y.Den]])))],I 0],[])))))=some y):zhV a0 r0 r1 r2=some y:=
 pt_of zT [9] (by kernel_rfl) h
theorem zqh (a0:List GPoint) {y:AV×Mem} (h:(
 callD zgF (cw zgy [AV.sl 4 (List.map zae a0)] []) fun (r0:(List GPoint)×Int) =>
 brn (r0.snd != 0) (some (AV.tup [AV.agg (zah ⟨[]⟩),I r0.snd],[]))
 (callD zca (cw zcG [I 0] []) fun (r1:GRatio) =>
 callD zca (cw zcG [I 1] []) fun (r2:GRatio) =>
 brn (decide (0 < (↑(List.map zae r0.fst).length:Int))) (chk ((0:Int)≤0)<|
 elemD zaq (List.map zae r0.fst) (Int.toNat 0) fun (c3:GPoint) =>
 callD zca (cw zcG [I 1] []) fun (r4:GRatio) =>
 callD zav (cw zan [AV.loc 1000 1 0 0,AV.fn zbW [],AV.agg (zaa c3.X),AV.agg (zaa r4)] [(1000,⟨1,zap,[zaw ⟨0⟩],true⟩)]) fun (r5:GRatio×GconversionSteps) =>
 chk ((0:Int)≤(w64 ((↑(List.map zae r0.fst).length:Int) - 1)))<|
 elemD zaq (List.map zae r0.fst) ((w64 ((↑(List.map zae r0.fst).length:Int) - 1)).toNat) fun (c6:GPoint) =>
 callD zca (cw zcG [I 1] []) fun (r7:GRatio) =>
 callD zav (cw zan [AV.loc 1000 1 0 0,AV.fn zcI [],AV.agg (zaa c6.X),AV.agg (zaa r7)] [(1000,⟨1,zap,[zaw r5.snd],true⟩)]) fun (r8:GRatio×GconversionSteps) =>
 zji a0 r0 r5 r8)
 (zhV a0 r0 r1 r2)))=some y):cw zcN [AV.sl 4 (List.map zae a0)] []=some y:=
 zaj zil zT [9] rfl (by kernel_rfl) (by kernel_rfl) (by kernel_rfl) (by kernel_rfl) (by kernel_rfl) h
noncomputable def zc2 (a0:List GPoint) (x0:List (List AV)) (x1:GRatio) (x2:Int):Option (AV×Mem):=pt zf1 1 ⟨[(0,AV.sl 4 (List.map zae a0)),(2,AV.loc 2 1 0 0),(4,AV.row 4 2 0 (List.length x0)),(5,AV.loc 5 2 0 0),(6,I x2)],[(2,⟨1,zau,[[AV.v (.slice none 0 0)]],true⟩),(4,⟨2,zac,x0,false⟩),(5,⟨2,zac,[zaa x1],true⟩)]⟩
noncomputable def zlq (a0:List GPoint) (x0:List (List AV)) (r6:GRatio×Bool) (r8:GRatio×Bool):Option (AV×Mem):=pt zf1 1019 ⟨[(0,AV.sl 4 (List.map zae a0)),(2,AV.loc 2 1 0 0),(4,AV.row 4 2 0 (List.length x0)),(9,AV.loc 9 2 0 0),(10,AV.loc 10 2 0 0)],[(2,⟨1,zau,[[AV.v (.slice none 0 0)]],true⟩),(4,⟨2,zac,x0,false⟩),(9,⟨2,zac,[zaa r6.fst],true⟩),(10,⟨2,zac,[zaa r8.fst],true⟩)]⟩
noncomputable def zkI (a0:List GPoint) (x0:List (List AV)):Option (AV×Mem):=pt zf1 1019 ⟨[(0,AV.sl 4 (List.map zae a0)),(2,AV.loc 2 1 0 0),(4,AV.row 4 2 0 (List.length x0)),(9,AV.loc 9 2 0 0),(10,AV.loc 10 2 0 0),(57,B false)],[(2,⟨1,zau,[[AV.v (.slice none 0 0)]],true⟩),(4,⟨2,zac,x0,false⟩),(9,⟨2,zac,[zaa (⟨0,1⟩)],true⟩),(10,⟨2,zac,[zaa (⟨1,1⟩)],true⟩)]⟩
noncomputable def zbG (a0:List GPoint) (x9:List (List AV)) (x10:List (List AV)) (x11:Int):Option (AV×Mem):=pt zf1 2 ⟨[(0,AV.sl 4 (List.map zae a0)),(2,AV.loc 2 1 0 0),(15,AV.loc 15 1 0 0),(16,AV.row 16 2 0 (List.length x9)),(17,I x11)],[(2,⟨1,zau,[[AV.v (.slice none 0 0)]],true⟩),(15,⟨1,zau,[[AV.row 900 4 0 (List.length x10)]],true⟩),(16,⟨2,zac,x9,false⟩),(900,⟨4,za0,x10,false⟩)]⟩
noncomputable def zc0 (a0:List GPoint) (x9:List (List AV)) (x10:List (List AV)) (x11:Int) (x14:GRatio) (x15:Bool) (x16:Int):Option (AV×Mem):=pt zf1 3 ⟨[(0,AV.sl 4 (List.map zae a0)),(2,AV.loc 2 1 0 0),(15,AV.loc 15 1 0 0),(16,AV.row 16 2 0 (List.length x9)),(17,I x11),(18,AV.loc 18 2 0 0),(19,B x15),(20,I x16)],[(2,⟨1,zau,[[AV.v (.slice none 0 0)]],true⟩),(15,⟨1,zau,[[AV.row 900 4 0 (List.length x10)]],true⟩),(16,⟨2,zac,x9,false⟩),(18,⟨2,zac,[zaa x14],true⟩),(900,⟨4,za0,x10,false⟩)]⟩
theorem zhK (a0:List GPoint) (x0:List (List AV)) (x1:GRatio) (x2:Int) {y:AV×Mem} (h:(
 brn (decide (w64 (x2+1) < (↑(List.map zae a0).length:Int))) (callD zgu (cw zgs [AV.sl 4 (List.map zae a0),I x2] []) fun (r3:GRatio×Bool) =>
 brn (!r3.snd) (some (AV.tup [AV.agg (zah ⟨[]⟩),I 6],[]))
 (brn (decide (0 < x2)) (brn (!(r3.fst.Num == x1.Num && (r3.fst.Den == x1.Den && true))) (chk ((0:Int)≤x2)<|
 elemD zaq (List.map zae a0) x2.toNat fun (c4:GPoint) =>
 chk (x0.length=x0.length)<|
 chk ((x0.length+1)*(16+1)≤1099511627776)<|
 chk ((x0++[[I c4.X.Num,I c4.X.Den]]).length=(x0++[[I c4.X.Num,I c4.X.Den]]).length)<|
 zc2 a0 (x0++([zaa c4.X])) r3.fst (w64 (x2+1)))
 (zc2 a0 x0 r3.fst (w64 (x2+1))))
 (zc2 a0 x0 r3.fst (w64 (x2+1)))))
 (brn (decide (0 < (↑x0.length:Int))) (chk ((0:Int)≤0)<|
 chk ((0:Int) < (↑x0.length:Int))<|
 elemD zad x0 (0+Int.toNat 0) fun (c5:GRatio) =>
 callD zi3 (cw ziV [AV.agg (zaa c5),I (-1)] []) fun (r6:GRatio×Bool) =>
 chk ((0:Int)≤(w64 ((↑x0.length:Int) - 1)))<|
 chk ((w64 ((↑x0.length:Int) - 1):Int) < (↑x0.length:Int))<|
 elemD zad x0 (0+(w64 ((↑x0.length:Int) - 1)).toNat) fun (c7:GRatio) =>
 callD zi3 (cw ziV [AV.agg (zaa c7),I 1] []) fun (r8:GRatio×Bool) =>
 brn (!r6.snd) (some (AV.tup [AV.agg (zah ⟨[]⟩),I 6],[]))
 (brn (!r8.snd) (some (AV.tup [AV.agg (zah ⟨[]⟩),I 6],[]))
 (zlq a0 x0 r6 r8)))
 (zkI a0 x0)))=some y):zc2 a0 x0 x1 x2=some y:=
 pt_of zT [19] (by kernel_rfl) h
theorem zqj (a0:List GPoint) (x0:List (List AV)) (r6:GRatio×Bool) (r8:GRatio×Bool) {y:AV×Mem} (h:(
 chk (0+x0.length≤x0.length)<|
 chk (1=1)<|
 chk ((1+(List.take x0.length x0).length)*(16+1)≤1099511627776)<|
 chk (([[I r6.fst.Num,I r6.fst.Den]]++List.take x0.length x0).length=([[I r6.fst.Num,I r6.fst.Den]]++List.take x0.length x0).length)<|
 chk ((([[I r6.fst.Num,I r6.fst.Den]]++List.take x0.length x0).length+1)*(16+1)≤1099511627776)<|
 chk (([[I r6.fst.Num,I r6.fst.Den]]++List.take x0.length x0++[[I r8.fst.Num,I r8.fst.Den]]).length=([[I r6.fst.Num,I r6.fst.Den]]++List.take x0.length x0++[[I r8.fst.Num,I r8.fst.Den]]).length)<|
 zbG a0 ((([zaa r6.fst])++(List.take x0.length x0))++([zaa r8.fst])) [] 0)=some y):zlq a0 x0 r6 r8=some y:=
 pt_of zT [19] (by kernel_rfl) h
theorem zoB (a0:List GPoint) (x0:List (List AV)) {y:AV×Mem} (h:(
 chk (0+x0.length≤x0.length)<|
 chk (1=1)<|
 chk ((1+(List.take x0.length x0).length)*(16+1)≤1099511627776)<|
 chk (([[I 0,I 1]]++List.take x0.length x0).length=([[I 0,I 1]]++List.take x0.length x0).length)<|
 chk ((([[I 0,I 1]]++List.take x0.length x0).length+1)*(16+1)≤1099511627776)<|
 chk (([[I 0,I 1]]++List.take x0.length x0++[[I 1,I 1]]).length=([[I 0,I 1]]++List.take x0.length x0++[[I 1,I 1]]).length)<|
 zbG a0 ((([zaa (⟨0,1⟩)])++(List.take x0.length x0))++([zaa (⟨1,1⟩)])) [] 0)=some y):zkI a0 x0=some y:=
 pt_of zT [19] (by kernel_rfl) h
theorem zgf (a0:List GPoint) (x9:List (List AV)) (x10:List (List AV)) (x11:Int) {y:AV×Mem} (h:(
 brn (decide (x11 < (↑x9.length:Int))) (chk ((0:Int)≤x11)<|
 chk ((x11:Int) < (↑x9.length:Int))<|
 elemD zad x9 (0+x11.toNat) fun (c12:GRatio) =>
 callD zcy (cw zcA [AV.sl 4 (List.map zae a0),AV.agg (zaa c12)] []) fun (r13:GRatio×Bool) =>
 zc0 a0 x9 x10 x11 r13.fst r13.snd 0)
 (brn (decide (410 < (↑x10.length:Int))) (some (AV.tup [AV.agg (zah ⟨[]⟩),I 3],[]))
 (chk (0+x10.length≤x10.length)<|
 some (AV.tup [AV.agg [AV.sl 4 (List.take x10.length x10)],I 0],[]))))=some y):zbG a0 x9 x10 x11=some y:=
 pt_of zT [19] (by kernel_rfl) h
theorem ze6 (a0:List GPoint) (x9:List (List AV)) (x10:List (List AV)) (x11:Int) (x14:GRatio) (x15:Bool) (x16:Int) {y:AV×Mem} (h:(
 brn (decide (x16 < (↑(List.map zae a0).length:Int))) (chk ((0:Int)≤x16)<|
 elemD zaq (List.map zae a0) x16.toNat fun (c17:GPoint) =>
 chk ((0:Int)≤x11)<|
 chk ((x11:Int) < (↑x9.length:Int))<|
 elemD zad x9 (0+x11.toNat) fun (c18:GRatio) =>
 brn (c17.X.Num == c18.Num && (c17.X.Den == c18.Den && true)) (brn (decide (0 < x11)) (brn (decide (w64 (x11+1) < (↑x9.length:Int))) (chk ((0:Int)≤x16)<|
 elemD zaq (List.map zae a0) x16.toNat fun (c19:GPoint) =>
 zc0 a0 x9 x10 x11 c19.Y true (w64 (x16+1)))
 (zc0 a0 x9 x10 x11 x14 x15 (w64 (x16+1))))
 (zc0 a0 x9 x10 x11 x14 x15 (w64 (x16+1))))
 (zc0 a0 x9 x10 x11 x14 x15 (w64 (x16+1))))
 (brn (!x15) (some (AV.tup [AV.agg (zah ⟨[]⟩),I 6],[]))
 (chk ((0:Int)≤x11)<|
 chk ((x11:Int) < (↑x9.length:Int))<|
 elemD zad x9 (0+x11.toNat) fun (c20:GRatio) =>
 chk (x10.length=x10.length)<|
 chk ((x10.length+1)*(32+1)≤1099511627776)<|
 zbG a0 x9 (x10++([zae (⟨⟨c20.Num,c20.Den⟩,⟨x14.Num,x14.Den⟩⟩)])) (w64 (x11+1)))))=some y):zc0 a0 x9 x10 x11 x14 x15 x16=some y:=
 pt_of zT [19] (by kernel_rfl) h
theorem zur (a0:List GPoint) {y:AV×Mem} (h:(
 zc2 a0 [] (⟨0,0⟩) 0)=some y):cw ze4 [AV.sl 4 (List.map zae a0)] []=some y:=
 zaj zf1 zT [19] rfl (by kernel_rfl) (by kernel_rfl) (by kernel_rfl) (by kernel_rfl) (by kernel_rfl) h
noncomputable def zdx (a0:List GPoint) (x0:Int):Option (AV×Mem):=pt zjO 1 ⟨[(0,AV.sl 4 (List.map zae a0)),(5,AV.sl 4 (List.map zae a0)),(6,I ((↑(List.map zae a0).length:Int))),(7,I x0)],[]⟩
theorem zjd (a0:List GPoint) (x0:Int) {y:AV×Mem} (h:(
 brn (decide (x0 < (↑(List.map zae a0).length:Int))) (chk ((0:Int)≤x0)<|
 elemD zaq (List.map zae a0) x0.toNat fun (c1:GPoint) =>
 callD zbg (cw zbn [AV.agg (zaa c1.X)] []) fun (r2:Bool) =>
 brn (!r2) (some (B false,[]))
 (callD zbg (cw zbn [AV.agg (zaa c1.Y)] []) fun (r3:Bool) =>
 brn (!r3) (some (B false,[]))
 (brn (decide (0 < x0)) (chk ((0:Int)≤(w64 (x0 - 1)))<|
 elemD zaq (List.map zae a0) ((w64 (x0 - 1)).toNat) fun (c4:GPoint) =>
 callD zjj (cw zk3 [AV.agg (zaa c4.X),AV.agg (zaa c1.X)] []) fun (r5:Bool) =>
 brn (!r5) (some (B false,[]))
 (chk ((0:Int)≤(w64 (x0 - 1)))<|
 elemD zaq (List.map zae a0) ((w64 (x0 - 1)).toNat) fun (c6:GPoint) =>
 callD zjj (cw zk3 [AV.agg (zaa c6.Y),AV.agg (zaa c1.Y)] []) fun (r7:Bool) =>
 brn (!r7) (some (B false,[]))
 (zdx a0 (w64 (x0+1)))))
 (zdx a0 (w64 (x0+1))))))
 (some (B true,[])))=some y):zdx a0 x0=some y:=
 pt_of zT [] (by kernel_rfl) h
theorem zn6 (a0:List GPoint) {y:AV×Mem} (h:(
 zdx a0 0)=some y):cw zjP [AV.sl 4 (List.map zae a0)] []=some y:=
 zaj zjO zT [] rfl (by kernel_rfl) (by kernel_rfl) (by kernel_rfl) (by kernel_rfl) (by kernel_rfl) h
noncomputable def zf8 (a0:List GPoint) (x0:Int):Option (AV×Mem):=pt zoJ 1 ⟨[(0,AV.sl 4 (List.map zae a0)),(3,I x0)],[]⟩
theorem zm2 (a0:List GPoint) (x0:Int) {y:AV×Mem} (h:(
 brn (decide (x0 < (↑(List.map zae a0).length:Int))) (chk ((0:Int)≤x0)<|
 elemD zaq (List.map zae a0) x0.toNat fun (c1:GPoint) =>
 callD zbo (cw zbm [AV.agg (zaa c1.X)] []) fun (r2:Bool) =>
 brn (!r2) (some (B false,[]))
 (chk ((0:Int)≤x0)<|
 elemD zaq (List.map zae a0) x0.toNat fun (c3:GPoint) =>
 callD zbo (cw zbm [AV.agg (zaa c3.Y)] []) fun (r4:Bool) =>
 brn (!r4) (some (B false,[]))
 (brn (decide (0 < x0)) (chk ((0:Int)≤(w64 (x0 - 1)))<|
 elemD zaq (List.map zae a0) ((w64 (x0 - 1)).toNat) fun (c5:GPoint) =>
 chk ((0:Int)≤x0)<|
 elemD zaq (List.map zae a0) x0.toNat fun (c6:GPoint) =>
 callD zd6 (cw zew [AV.agg (zaa c5.X),AV.agg (zaa c6.X)] []) fun (r7:Bool) =>
 brn (!r7) (some (B false,[]))
 (chk ((0:Int)≤(w64 (x0 - 1)))<|
 elemD zaq (List.map zae a0) ((w64 (x0 - 1)).toNat) fun (c8:GPoint) =>
 chk ((0:Int)≤x0)<|
 elemD zaq (List.map zae a0) x0.toNat fun (c9:GPoint) =>
 callD zd6 (cw zew [AV.agg (zaa c8.Y),AV.agg (zaa c9.Y)] []) fun (r10:Bool) =>
 brn (!r10) (some (B false,[]))
 (zf8 a0 (w64 (x0+1)))))
 (zf8 a0 (w64 (x0+1))))))
 (some (B (decide (2≤(↑(List.map zae a0).length:Int))),[])))=some y):zf8 a0 x0=some y:=
 pt_of zT [] (by kernel_rfl) h
theorem zuJ (a0:List GPoint) {y:AV×Mem} (h:(
 zf8 a0 0)=some y):cw zoT [AV.sl 4 (List.map zae a0)] []=some y:=
 zaj zoJ zT [] rfl (by kernel_rfl) (by kernel_rfl) (by kernel_rfl) (by kernel_rfl) (by kernel_rfl) h
noncomputable def zcH (a0:List GPoint) (a1:List GPoint) (x0:Int):Option (AV×Mem):=pt zfz 1 ⟨[(0,AV.sl 4 (List.map zae a0)),(1,AV.sl 4 (List.map zae a1)),(12,I ((↑(List.map zae a0).length:Int))),(13,I x0)],[]⟩
theorem zdy (a0:List GPoint) (a1:List GPoint) (x0:Int) {y:AV×Mem} (h:(
 brn (decide (x0 < (↑(List.map zae a0).length:Int))) (chk ((0:Int)≤x0)<|
 elemD zaq (List.map zae a0) x0.toNat fun (c1:GPoint) =>
 chk ((0:Int)≤x0)<|
 elemD zaq (List.map zae a1) x0.toNat fun (c2:GPoint) =>
 brn (!(c1.X.Num == c2.X.Num && (c1.X.Den == c2.X.Den && true) && (c1.Y.Num == c2.Y.Num && (c1.Y.Den == c2.Y.Den && true) && true))) (some (B false,[]))
 (zcH a0 a1 (w64 (x0+1))))
 (some (B true,[])))=some y):zcH a0 a1 x0=some y:=
 pt_of zT [] (by kernel_rfl) h
theorem zjC (a0:List GPoint) (a1:List GPoint) {y:AV×Mem} (h:(
 brn ((↑(List.map zae a0).length:Int) != (↑(List.map zae a1).length:Int)) (some (B false,[]))
 (zcH a0 a1 0))=some y):cw zdR [AV.sl 4 (List.map zae a0),AV.sl 4 (List.map zae a1)] []=some y:=
 zaj zfz zT [] rfl (by kernel_rfl) (by kernel_rfl) (by kernel_rfl) (by kernel_rfl) (by kernel_rfl) h
noncomputable def zeu (a0:List GPoint) (x0:List (List AV)) (x1:Int):Option (AV×Mem):=pt zjY 1 ⟨[(3,AV.row 8 4 0 ((List.replicate (↑(List.map zae a0).length:Int).toNat (I 0 :: I 0 :: I 0 :: I 0 :: List.map AV.v [])).length)),(9,AV.sl 4 (List.map zae a0)),(10,I ((↑(List.map zae a0).length:Int))),(11,I x1)],[(8,⟨4,za0,x0,false⟩)]⟩
theorem zi6 (a0:List GPoint) (x0:List (List AV)) (x1:Int) {y:AV×Mem} (h:(
 brn (decide (x1 < (↑(List.map zae a0).length:Int))) (chk ((0:Int)≤x1)<|
 elemD zaq (List.map zae a0) x1.toNat fun (c2:GPoint) =>
 chk ((0:Int)≤x1)<|
 chk ((x1:Int) < ((↑(List.replicate (↑(List.map zae a0).length:Int).toNat (I 0 :: I 0 :: I 0 :: I 0 :: List.map AV.v [])).length:Int)))<|
 elemD zaq x0 (0+x1.toNat) fun (c3:GPoint) =>
 zeu a0 (List.set x0 (0+x1.toNat) (zae (⟨⟨c2.Y.Num,c2.Y.Den⟩,⟨c2.X.Num,c2.X.Den⟩⟩))) (w64 (x1+1)))
 (chk ((List.replicate (↑(List.map zae a0).length:Int).toNat (I 0 :: I 0 :: I 0 :: I 0 :: List.map AV.v [])).length=x0.length)<|
 some (AV.new 4 za0 x0,[])))=some y):zeu a0 x0 x1=some y:=
 pt_of zT [] (by kernel_rfl) h
theorem zok (a0:List GPoint) {y:AV×Mem} (h:(
 chk (((↑(List.map zae a0).length:Int):Int)=((↑(List.map zae a0).length:Int)))<|
 chk ((0:Int)≤((↑(List.map zae a0).length:Int)))<|
 chk ((↑(List.map zae a0).length:Int).toNat*(32+1)≤1099511627776)<|
 zeu a0 (List.replicate ((↑(List.map zae a0).length:Int).toNat) (zae (⟨⟨0,0⟩,⟨0,0⟩⟩))) 0)=some y):cw zd3 [AV.sl 4 (List.map zae a0)] []=some y:=
 zaj zjY zT [] rfl (by kernel_rfl) (by kernel_rfl) (by kernel_rfl) (by kernel_rfl) (by kernel_rfl) h
noncomputable def zjw (a0:List GPoint) (x0:List (List AV)) (x1:Int):Option (AV×Mem):=pt zqO 1 ⟨[(0,AV.sl 4 (List.map zae a0)),(3,AV.row 3 4 0 (List.length x0)),(4,I x1)],[(3,⟨4,za0,x0,false⟩)]⟩
theorem zoH (a0:List GPoint) (x0:List (List AV)) (x1:Int) {y:AV×Mem} (h:(
 brn (decide (x1 < (↑(List.map zae a0).length:Int))) (chk ((0:Int)≤x1)<|
 elemD zaq (List.map zae a0) x1.toNat fun (c2:GPoint) =>
 chk ((0:Int)≤x1)<|
 elemD zaq (List.map zae a0) x1.toNat fun (c3:GPoint) =>
 chk (x0.length=x0.length)<|
 chk ((x0.length+1)*(32+1)≤1099511627776)<|
 chk ((x0++[[I c2.Y.Num,I c2.Y.Den,I c3.X.Num,I c3.X.Den]]).length=(x0++[[I c2.Y.Num,I c2.Y.Den,I c3.X.Num,I c3.X.Den]]).length)<|
 zjw a0 (x0++([zae (⟨⟨c2.Y.Num,c2.Y.Den⟩,⟨c3.X.Num,c3.X.Den⟩⟩)])) (w64 (x1+1)))
 (chk (x0.length=x0.length)<|
 some (AV.new 4 za0 x0,[])))=some y):zjw a0 x0 x1=some y:=
 pt_of zT [] (by kernel_rfl) h
theorem zxI (a0:List GPoint) {y:AV×Mem} (h:(
 zjw a0 [] 0)=some y):cw zja [AV.sl 4 (List.map zae a0)] []=some y:=
 zaj zqO zT [] rfl (by kernel_rfl) (by kernel_rfl) (by kernel_rfl) (by kernel_rfl) (by kernel_rfl) h
theorem zmo (a0:List GPoint) (a1:GRatio) {y:AV×Mem} (h:(
 callD zj5 (cw zmi [I (w64 (w64 ((↑(List.map zae a0).length:Int) - 1) - 1)),AV.fn zdi [AV.fp [I a1.Num,I a1.Den],AV.fp [AV.sl 4 (List.map zae a0)]]] []) fun (r0:Int) =>
 chk ((0:Int)≤(w64 (w64 (1+r0) - 1)))<|
 elemD zaq (List.map zae a0) ((w64 (w64 (1+r0) - 1)).toNat) fun (c1:GPoint) =>
 chk ((0:Int)≤(w64 (1+r0)))<|
 elemD zaq (List.map zae a0) ((w64 (1+r0)).toNat) fun (c2:GPoint) =>
 callD zcV (cw zci [AV.loc 1000 1 0 0,AV.agg (zae c1),AV.agg (zae c2)] [(1000,⟨1,zap,[zaw ⟨0⟩],true⟩)]) fun (r3:GRatio×GconversionSteps) =>
 callD zav (cw zan [AV.loc 1000 1 0 0,AV.fn zbW [],AV.agg (zaa a1),AV.agg (zaa c1.X)] [(1000,⟨1,zap,[zaw r3.snd],true⟩)]) fun (r4:GRatio×GconversionSteps) =>
 callD zav (cw zan [AV.loc 1000 1 0 0,AV.fn zdH [],AV.agg (zaa r4.fst),AV.agg (zaa r3.fst)] [(1000,⟨1,zap,[zaw r4.snd],true⟩)]) fun (r5:GRatio×GconversionSteps) =>
 callD zav (cw zan [AV.loc 1000 1 0 0,AV.fn zcI [],AV.agg (zaa c1.Y),AV.agg (zaa r5.fst)] [(1000,⟨1,zap,[zaw r5.snd],true⟩)]) fun (r6:GRatio×GconversionSteps) =>
 some (AV.tup [AV.agg (zaa r6.fst),I r6.snd.e],[]))=some y):cw zbu [AV.sl 4 (List.map zae a0),AV.agg (zaa a1)] []=some y:=
 zaj zr1 zT [] rfl (by kernel_rfl) (by kernel_rfl) (by kernel_rfl) (by kernel_rfl) (by kernel_rfl) h
theorem ziM (a0:List GRatio) {y:AV×Mem} (h:(
 callD zjt (cw zmD [AV.v (.int .u64 (wu64 (↑(List.map zaa a0).length:Int)))] []) fun (r0:Int) =>
 callD zaz (cw zcb [AV.row 1000 2 0 (List.length (List.map zaa a0)),I 0,I ((↑(List.map zaa a0).length:Int)),I r0,AV.fn zag []] [(1000,⟨2,zac,List.map zaa a0,false⟩)]) fun (r1:(List GRatio)) =>
 some (AV.tup [],[(1000,⟨2,zac,List.map zaa r1,false⟩)]))=some y):cw zbM [AV.row 1000 2 0 (List.length (List.map zaa a0)),AV.fn zag []] [(1000,⟨2,zac,List.map zaa a0,false⟩)]=some y:=
 zaj ziN zT [] rfl (by kernel_rfl) (by kernel_rfl) (by kernel_rfl) (by kernel_rfl) (by kernel_rfl) h
theorem ztx (a0:GRatio) (a1:GRatio) {y:AV×Mem} (h:(
 callD zbg (cw zbn [AV.agg (zaa a0)] []) fun (r0:Bool) =>
 brn (!r0) (some (I 0,[]))
 (callD zbg (cw zbn [AV.agg (zaa a1)] []) fun (r1:Bool) =>
 brn (!r1) (some (I 0,[]))
 (callD zdu (cw zdt [I a0.Num,AV.v (.int .u64 (wu64 a1.Den))] []) fun (r2:GratioSigned) =>
 callD zdu (cw zdt [I a1.Num,AV.v (.int .u64 (wu64 a0.Den))] []) fun (r3:GratioSigned) =>
 brn r2.neg (brn r3.neg (callD zcF (cw zdJ [AV.agg (zax r3.abs),AV.agg (zax r2.abs)] []) fun (r4:Int) =>
 some (I r4,[]))
 (brn r2.neg (some (I (-1),[]))
 (brn r3.neg (some (I 1,[]))
 (callD zcF (cw zdJ [AV.agg (zax r2.abs),AV.agg (zax r3.abs)] []) fun (r5:Int) =>
 some (I r5,[])))))
 (brn r2.neg (some (I (-1),[]))
 (brn r3.neg (some (I 1,[]))
 (callD zcF (cw zdJ [AV.agg (zax r2.abs),AV.agg (zax r3.abs)] []) fun (r6:Int) =>
 some (I r6,[])))))))=some y):cw zag [AV.agg (zaa a0),AV.agg (zaa a1)] []=some y:=
 zaj ztF zT [] rfl (by kernel_rfl) (by kernel_rfl) (by kernel_rfl) (by kernel_rfl) (by kernel_rfl) h
end Go.Proofs.YtbhkcgaanaelfaaGreat
