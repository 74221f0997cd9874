/- What the functions compute, between two cut points: printed by a program, checked by the kernel. -/
import Derived.Test.YtbhkcgaanaelfaaGreatAnn
namespace Go.Proofs.YtbhkcgaanaelfaaGreat
open Go.Ab
set_option maxRecDepth 100000
set_option linter.unusedVariables false
noncomputable def zbK (x5:List (List AV)) (x6:GmarkDice) (x7:Nat) (x8:Nat):Option (AV×Mem):=pt zsq 1013 ⟨[(4,AV.loc 4 1 0 0),(5,AV.row 5 4 x7 x8)],[(4,⟨1,zau,[[AV.v (.slice none 0 0)]],true⟩),(5,⟨4,za0,x5,false⟩),(1000,⟨2,zal,[zaA x6],true⟩)]⟩
theorem zsW (x5:List (List AV)) (x6:GmarkDice) (x7:Nat) (x8:Nat) {y:AV×Mem} (h:(
 chk (x7+x8≤x5.length)<|
 some (AV.agg [AV.sl 4 (List.take x8 (List.drop x7 x5))],[(1000,⟨2,zal,[zaA x6],true⟩)]))=some y):zbK x5 x6 x7 x8=some y:=
 pt_of zT [13] (by kernel_rfl) h
theorem zyi (a0:GmarkDice) (a1:GCurve) {y:AV×Mem} (h:(
 chk ((List.map zae a1.Points).length*(32+1)≤1099511627776)<|
 chk ((List.map zae a1.Points).length=(List.map zae a1.Points).length)<|
 callD zaX (cw zaU [AV.loc 1000 2 0 0,I ((↑(List.map zae a1.Points).length:Int))] [(1000,⟨2,zal,[zaA a0],true⟩)]) fun (r0:Int×GmarkDice) =>
 chk (0≤r0.fst)<|
 chk ((r0.fst:Int) < ((↑(List.map zae a1.Points).length:Int)))<|
 callD zaX (cw zaU [AV.loc 1000 2 0 0,I 5] [(1000,⟨2,zal,[zaA r0.snd],true⟩)]) fun (r1:Int×GmarkDice) =>
 brn (r1.fst == 0) (callD zaX (cw zaU [AV.loc 1000 2 0 0,I 9] [(1000,⟨2,zal,[zaA r1.snd],true⟩)]) fun (r2:Int×GmarkDice) =>
 callD zaH (cw zaJ [I (w64 (r2.fst - 4))] []) fun (r3:GRatio) =>
 elemD zaq (List.map zae a1.Points) (0+Int.toNat r0.fst) fun (c4:GPoint) =>
 zbK (List.set (List.map zae a1.Points) (0+Int.toNat r0.fst) (zae (⟨⟨r3.Num,r3.Den⟩,⟨c4.Y.Num,c4.Y.Den⟩⟩))) r2.snd 0 ((List.map zae a1.Points).length))
 (brn (r1.fst == 1) (callD zaX (cw zaU [AV.loc 1000 2 0 0,I 9] [(1000,⟨2,zal,[zaA r1.snd],true⟩)]) fun (r9:Int×GmarkDice) =>
 callD zaH (cw zaJ [I (w64 (r9.fst - 4))] []) fun (r10:GRatio) =>
 elemD zaq (List.map zae a1.Points) (0+Int.toNat r0.fst) fun (c11:GPoint) =>
 zbK (List.set (List.map zae a1.Points) (0+Int.toNat r0.fst) (zae (⟨⟨c11.X.Num,c11.X.Den⟩,⟨r10.Num,r10.Den⟩⟩))) r9.snd 0 ((List.map zae a1.Points).length))
 (brn (r1.fst == 2) (callD zga (cw zhG [AV.loc 1000 2 0 0,AV.sl 1 (List.map zbl ([0,2,-1]))] [(1000,⟨2,zal,[zaA r1.snd],true⟩)]) fun (r12:Int×GmarkDice) =>
 elemD zaq (List.map zae a1.Points) (0+Int.toNat r0.fst) fun (c13:GPoint) =>
 zbK (List.set (List.map zae a1.Points) (0+Int.toNat r0.fst) (zae (⟨⟨c13.X.Num,r12.fst⟩,⟨c13.Y.Num,c13.Y.Den⟩⟩))) r12.snd 0 ((List.map zae a1.Points).length))
 (brn (r1.fst == 3) (chk ((0:Int)≤1)<|
 chk (0≤Int.toNat 1)<|
 chk (Int.toNat 1≤(List.map zae a1.Points).length)<|
 zbK (List.map zae a1.Points) r1.snd (0+0) (Int.toNat 1 - 0))
 (callD zaH (cw zaJ [I 1152921504606846976] []) fun (r14:GRatio) =>
 chk ((0:Int)≤(w64 ((↑(List.map zae a1.Points).length:Int) - 1)))<|
 chk ((w64 ((↑(List.map zae a1.Points).length:Int) - 1):Int) < ((↑(List.map zae a1.Points).length:Int)))<|
 elemD zaq (List.map zae a1.Points) (0+(w64 ((↑(List.map zae a1.Points).length:Int) - 1)).toNat) fun (c15:GPoint) =>
 zbK (List.set (List.map zae a1.Points) (0+(w64 ((↑(List.map zae a1.Points).length:Int) - 1)).toNat) (zae (⟨⟨c15.X.Num,c15.X.Den⟩,⟨r14.Num,r14.Den⟩⟩))) r1.snd 0 ((List.map zae a1.Points).length))))))=some y):cw zjX [AV.loc 1000 2 0 0,AV.agg (zah a1)] [(1000,⟨2,zal,[zaA a0],true⟩)]=some y:=
 zaj zsq zT [13] rfl (by kernel_rfl) (by kernel_rfl) (by kernel_rfl) (by kernel_rfl) (by kernel_rfl) h
theorem zim (a0:GCurve) {y:AV×Mem} (h:(
 callD zcD (cw zcY [AV.agg (zah a0)] []) fun (r0:Bool) =>
 brn (!r0) (some (AV.tup [AV.agg (zah ⟨[]⟩),I 1],[]))
 (callD zcn (cw zcN [AV.sl 4 (List.map zae a0.Points)] []) fun (r1:GCurve×Int) =>
 some (AV.tup [AV.agg (zah r1.fst),I r1.snd],[])))=some y):cw zcO [AV.agg (zah a0)] []=some y:=
 zaj zqu zT [] rfl (by kernel_rfl) (by kernel_rfl) (by kernel_rfl) (by kernel_rfl) (by kernel_rfl) h
theorem zo1 (a0:GCurve) {y:AV×Mem} (h:(
 callD zd8 (cw zeR [AV.agg (zah a0)] []) fun (r0:Bool) =>
 brn (!r0) (some (AV.tup [AV.agg (zah ⟨[]⟩),I 1],[]))
 (callD zef (cw ze4 [AV.sl 4 (List.map zae a0.Points)] []) fun (r1:GCurve×Int) =>
 some (AV.tup [AV.agg (zah r1.fst),I r1.snd],[])))=some y):cw zhb [AV.agg (zah a0)] []=some y:=
 zaj zuM zT [] rfl (by kernel_rfl) (by kernel_rfl) (by kernel_rfl) (by kernel_rfl) (by kernel_rfl) h
theorem zq1 (a0:GCurve) {y:AV×Mem} (h:(
 brn (decide (2≤(↑(List.map zae a0.Points).length:Int))) (brn (decide ((↑(List.map zae a0.Points).length:Int)≤410)) (callD zfb (cw zjP [AV.sl 4 (List.map zae a0.Points)] []) fun (r0:Bool) =>
 some (B r0,[]))
 (some (B false,[])))
 (some (B false,[])))=some y):cw zcY [AV.agg (zah a0)] []=some y:=
 zaj zqG zT [] rfl (by kernel_rfl) (by kernel_rfl) (by kernel_rfl) (by kernel_rfl) (by kernel_rfl) h
theorem zwo (a0:GCurve) {y:AV×Mem} (h:(
 brn (decide ((↑(List.map zae a0.Points).length:Int)≤410)) (callD zjp (cw zoT [AV.sl 4 (List.map zae a0.Points)] []) fun (r0:Bool) =>
 some (B r0,[]))
 (some (B false,[])))=some y):cw zeR [AV.agg (zah a0)] []=some y:=
 zaj zwh zT [] rfl (by kernel_rfl) (by kernel_rfl) (by kernel_rfl) (by kernel_rfl) (by kernel_rfl) h
noncomputable def zis (a0:GCurve) (a1:GCurve) (x0:Int):Option (AV×Mem):=pt zpY 1 ⟨[(2,AV.loc 2 1 0 0),(3,AV.loc 3 1 0 0),(5,I x0)],[(2,⟨1,zau,[zah a0],true⟩),(3,⟨1,zau,[zah a1],true⟩)]⟩
theorem zle (a0:GCurve) (a1:GCurve) (x0:Int) {y:AV×Mem} (h:(
 brn (decide (x0 < (↑(List.map zae a0.Points).length:Int))) (chk ((0:Int)≤x0)<|
 elemD zaq (List.map zae a0.Points) x0.toNat fun (c1:GPoint) =>
 chk ((0:Int)≤x0)<|
 elemD zaq (List.map zae a1.Points) x0.toNat fun (c2:GPoint) =>
 brn (!(c1.X.Num == c2.X.Num && (c1.X.Den == c2.X.Den && true) && (c1.Y.Num == c2.Y.Num && (c1.Y.Den == c2.Y.Den && true) && true))) (some (B false,[]))
 (zis a0 a1 (w64 (x0+1))))
 (some (B true,[])))=some y):zis a0 a1 x0=some y:=
 pt_of zT [] (by kernel_rfl) h
theorem zwt (a0:GCurve) (a1:GCurve) {y:AV×Mem} (h:(
 brn ((↑(List.map zae a0.Points).length:Int) != (↑(List.map zae a1.Points).length:Int)) (some (B false,[]))
 (zis a0 a1 0))=some y):cw zfu [AV.agg (zah a0),AV.agg (zah a1)] []=some y:=
 zaj zpY zT [] rfl (by kernel_rfl) (by kernel_rfl) (by kernel_rfl) (by kernel_rfl) (by kernel_rfl) h
theorem zjK (a0:GCurve) (a1:GCurve) {y:AV×Mem} (h:(
 callD zdn (cw zcO [AV.agg (zah a0)] []) fun (r0:GCurve×Int) =>
 brn (r0.snd != 0) (some (B false,[]))
 (callD zdn (cw zcO [AV.agg (zah a1)] []) fun (r1:GCurve×Int) =>
 brn (r1.snd == 0) (callD zcQ (cw zdR [AV.sl 4 (List.map zae r0.fst.Points),AV.sl 4 (List.map zae r1.fst.Points)] []) fun (r2:Bool) =>
 some (B r2,[]))
 (some (B false,[]))))=some y):cw zjM [AV.agg (zah a0),AV.agg (zah a1)] []=some y:=
 zaj zr2 zT [] rfl (by kernel_rfl) (by kernel_rfl) (by kernel_rfl) (by kernel_rfl) (by kernel_rfl) h
theorem znq (a0:GCurve) (a1:GCurve) {y:AV×Mem} (h:(
 callD zf5 (cw zhb [AV.agg (zah a0)] []) fun (r0:GCurve×Int) =>
 callD zf5 (cw zhb [AV.agg (zah a1)] []) fun (r1:GCurve×Int) =>
 brn (r0.snd == 0) (brn (r1.snd == 0) (callD zeN (cw zfu [AV.agg (zah r0.fst),AV.agg (zah r1.fst)] []) fun (r2:Bool) =>
 some (B r2,[]))
 (some (B false,[])))
 (some (B false,[])))=some y):cw zm7 [AV.agg (zah a0),AV.agg (zah a1)] []=some y:=
 zaj zw4 zT [] rfl (by kernel_rfl) (by kernel_rfl) (by kernel_rfl) (by kernel_rfl) (by kernel_rfl) h
theorem zla (a0:GCurve) {y:AV×Mem} (h:(
 callD zcD (cw zcY [AV.agg (zah a0)] []) fun (r0:Bool) =>
 brn (!r0) (some (AV.tup [AV.agg (zah ⟨[]⟩),I 1],[]))
 (callD zc9 (cw zd3 [AV.sl 4 (List.map zae a0.Points)] []) fun (r1:(List GPoint)) =>
 chk (0+(List.map zae r1).length≤(List.map zae r1).length)<|
 callD zcn (cw zcN [AV.sl 4 (List.take ((List.map zae r1).length) (List.map zae r1))] []) fun (r2:GCurve×Int) =>
 chk (0+(List.map zae r1).length≤(List.map zae r1).length)<|
 some (AV.tup [AV.agg (zah r2.fst),I r2.snd],[])))=some y):cw zhH [AV.agg (zah a0)] []=some y:=
 zaj zpP zT [] rfl (by kernel_rfl) (by kernel_rfl) (by kernel_rfl) (by kernel_rfl) (by kernel_rfl) h
theorem znV (a0:GCurve) {y:AV×Mem} (h:(
 callD zd8 (cw zeR [AV.agg (zah a0)] []) fun (r0:Bool) =>
 brn (!r0) (some (AV.tup [AV.agg (zah ⟨[]⟩),I 1],[]))
 (callD zg9 (cw zja [AV.sl 4 (List.map zae a0.Points)] []) fun (r1:(List GPoint)) =>
 chk (0+(List.map zae r1).length≤(List.map zae r1).length)<|
 callD zef (cw ze4 [AV.sl 4 (List.take ((List.map zae r1).length) (List.map zae r1))] []) fun (r2:GCurve×Int) =>
 chk (0+(List.map zae r1).length≤(List.map zae r1).length)<|
 some (AV.tup [AV.agg (zah r2.fst),I r2.snd],[])))=some y):cw zk6 [AV.agg (zah a0)] []=some y:=
 zaj ztD zT [] rfl (by kernel_rfl) (by kernel_rfl) (by kernel_rfl) (by kernel_rfl) (by kernel_rfl) h
noncomputable def zfd (a0:GCurve) (a1:GCurve) (x2:List (List AV)) (x3:Int):Option (AV×Mem):=pt zfR 1 ⟨[(2,AV.loc 2 1 0 0),(3,AV.loc 3 1 0 0),(4,AV.loc 4 1 0 0),(6,AV.row 6 2 0 (List.length x2)),(30,AV.sl 4 (List.map zae a0.Points)),(31,I ((↑(List.map zae a0.Points).length:Int))),(32,I x3)],[(2,⟨1,zau,[zah a0],true⟩),(3,⟨1,zau,[zah a1],true⟩),(4,⟨1,zau,[[AV.v (.slice none 0 0)]],true⟩),(6,⟨2,zac,x2,false⟩)]⟩
noncomputable def zff (a0:GCurve) (a1:GCurve) (r5:(List GPoint)) (x6:List (List AV)) (x7:Int):Option (AV×Mem):=pt zfR 2 ⟨[(2,AV.loc 2 1 0 0),(3,AV.loc 3 1 0 0),(4,AV.loc 4 1 0 0),(6,AV.row 6 2 0 (List.length x6)),(9,AV.row 44 4 0 (List.length (List.map zae r5))),(46,AV.sl 4 (List.map zae a1.Points)),(47,I ((↑(List.map zae a1.Points).length:Int))),(48,I x7)],[(2,⟨1,zau,[zah a0],true⟩),(3,⟨1,zau,[zah a1],true⟩),(4,⟨1,zau,[[AV.v (.slice none 0 0)]],true⟩),(6,⟨2,zac,x6,false⟩),(44,⟨4,za0,List.map zae r5,false⟩)]⟩
noncomputable def zfc (a0:GCurve) (a1:GCurve) (r11:Nat×(List GRatio)) (x12:List (List AV)) (x13:Int):Option (AV×Mem):=pt zfR 3 ⟨[(2,AV.loc 2 1 0 0),(3,AV.loc 3 1 0 0),(4,AV.loc 4 1 0 0),(14,AV.row 74 4 0 ((List.replicate (↑r11.fst:Int).toNat (I 0 :: I 0 :: I 0 :: I 0 :: List.map AV.v [])).length)),(75,AV.row 6 2 0 r11.fst),(76,I (↑r11.fst:Int)),(77,I x13)],[(2,⟨1,zau,[zah a0],true⟩),(3,⟨1,zau,[zah a1],true⟩),(4,⟨1,zau,[[AV.v (.slice none 0 0)]],true⟩),(6,⟨2,zac,List.map zaa r11.snd,false⟩),(74,⟨4,za0,x12,false⟩)]⟩
theorem zj1 (a0:GCurve) (a1:GCurve) (x2:List (List AV)) (x3:Int) {y:AV×Mem} (h:(
 brn (decide (x3 < (↑(List.map zae a0.Points).length:Int))) (chk ((0:Int)≤x3)<|
 elemD zaq (List.map zae a0.Points) x3.toNat fun (c4:GPoint) =>
 chk (x2.length=x2.length)<|
 chk ((x2.length+1)*(16+1)≤1099511627776)<|
 chk ((x2++[[I c4.X.Num,I c4.X.Den]]).length=(x2++[[I c4.X.Num,I c4.X.Den]]).length)<|
 zfd a0 a1 (x2++([zaa c4.X])) (w64 (x3+1)))
 (callD zc9 (cw zd3 [AV.sl 4 (List.map zae a0.Points)] []) fun (r5:(List GPoint)) =>
 zff a0 a1 r5 x2 0))=some y):zfd a0 a1 x2 x3=some y:=
 pt_of zT [] (by kernel_rfl) h
theorem zj3 (a0:GCurve) (a1:GCurve) (r5:(List GPoint)) (x6:List (List AV)) (x7:Int) {y:AV×Mem} (h:(
 brn (decide (x7 < (↑(List.map zae a1.Points).length:Int))) (chk ((0:Int)≤x7)<|
 elemD zaq (List.map zae a1.Points) x7.toNat fun (c8:GPoint) =>
 chk (0+(List.map zae r5).length≤(List.map zae r5).length)<|
 callD zbs (cw zbu [AV.sl 4 (List.take ((List.map zae r5).length) (List.map zae r5)),AV.agg (zaa c8.X)] []) fun (r9:GRatio×Int) =>
 brn (r9.snd != 0) (some (AV.tup [AV.agg (zah ⟨[]⟩),I r9.snd],[]))
 (chk (x6.length=x6.length)<|
 chk ((x6.length+1)*(16+1)≤1099511627776)<|
 chk ((x6++[[I r9.fst.Num,I r9.fst.Den]]).length=(x6++[[I r9.fst.Num,I r9.fst.Den]]).length)<|
 zff a0 a1 r5 (x6++([zaa r9.fst])) (w64 (x7+1))))
 (callD zbq (cw zbM [AV.row 1000 2 0 (List.length x6),AV.fn zag []] [(1000,⟨2,zac,x6,false⟩)]) fun (r10:(List GRatio)) =>
 callD zbQ (cw zbP [AV.row 1000 2 0 x6.length] [(1000,⟨2,zac,List.map zaa r10,false⟩)]) fun (r11:Nat×(List GRatio)) =>
 chk (((↑r11.fst:Int):Int)=(↑r11.fst:Int))<|
 chk ((0:Int)≤(↑r11.fst:Int))<|
 chk ((↑r11.fst:Int).toNat*(32+1)≤1099511627776)<|
 zfc a0 a1 r11 (List.replicate ((↑r11.fst:Int).toNat) (zae (⟨⟨0,0⟩,⟨0,0⟩⟩))) 0))=some y):zff a0 a1 r5 x6 x7=some y:=
 pt_of zT [] (by kernel_rfl) h
theorem zjU (a0:GCurve) (a1:GCurve) (r11:Nat×(List GRatio)) (x12:List (List AV)) (x13:Int) {y:AV×Mem} (h:(
 brn (decide (x13 < (↑r11.fst:Int))) (chk ((0:Int)≤x13)<|
 chk ((x13:Int) < (↑r11.fst:Int))<|
 elemD zad (List.map zaa r11.snd) (0+x13.toNat) fun (c14:GRatio) =>
 callD zbs (cw zbu [AV.sl 4 (List.map zae a0.Points),AV.agg (zaa c14)] []) fun (r15:GRatio×Int) =>
 brn (r15.snd != 0) (some (AV.tup [AV.agg (zah ⟨[]⟩),I r15.snd],[]))
 (callD zbs (cw zbu [AV.sl 4 (List.map zae a1.Points),AV.agg (zaa r15.fst)] []) fun (r16:GRatio×Int) =>
 brn (r16.snd != 0) (some (AV.tup [AV.agg (zah ⟨[]⟩),I r16.snd],[]))
 (chk ((0:Int)≤x13)<|
 chk ((x13:Int) < ((↑(List.replicate (↑r11.fst:Int).toNat (I 0 :: I 0 :: I 0 :: I 0 :: List.map AV.v [])).length:Int)))<|
 elemD zaq x12 (0+x13.toNat) fun (c17:GPoint) =>
 zfc a0 a1 r11 (List.set x12 (0+x13.toNat) (zae (⟨⟨c14.Num,c14.Den⟩,⟨r16.fst.Num,r16.fst.Den⟩⟩))) (w64 (x13+1)))))
 (chk (0+(List.replicate (↑r11.fst:Int).toNat (I 0 :: I 0 :: I 0 :: I 0 :: List.map AV.v [])).length≤x12.length)<|
 callD zcn (cw zcN [AV.sl 4 (List.take ((List.replicate (↑r11.fst:Int).toNat (I 0 :: I 0 :: I 0 :: I 0 :: List.map AV.v [])).length) x12)] []) fun (r18:GCurve×Int) =>
 chk (0+(List.replicate (↑r11.fst:Int).toNat (I 0 :: I 0 :: I 0 :: I 0 :: List.map AV.v [])).length≤x12.length)<|
 chk (0+(List.replicate (↑r11.fst:Int).toNat (I 0 :: I 0 :: I 0 :: I 0 :: List.map AV.v [])).length≤x12.length)<|
 some (AV.tup [AV.agg (zah r18.fst),I r18.snd],[])))=some y):zfc a0 a1 r11 x12 x13=some y:=
 pt_of zT [] (by kernel_rfl) h
theorem zhC (a0:GCurve) (a1:GCurve) {y:AV×Mem} (h:(
 callD zcD (cw zcY [AV.agg (zah a0)] []) fun (r0:Bool) =>
 brn (!r0) (some (AV.tup [AV.agg (zah ⟨[]⟩),I 1],[]))
 (callD zcD (cw zcY [AV.agg (zah a1)] []) fun (r1:Bool) =>
 brn (!r1) (some (AV.tup [AV.agg (zah ⟨[]⟩),I 1],[]))
 (zfd a0 a1 [] 0)))=some y):cw zhN [AV.agg (zah a0),AV.agg (zah a1)] []=some y:=
 zaj zfR zT [] rfl (by kernel_rfl) (by kernel_rfl) (by kernel_rfl) (by kernel_rfl) (by kernel_rfl) h
noncomputable def zgS (a0:GCurve) (a1:GCurve) (x2:List (List AV)) (x3:Int):Option (AV×Mem):=pt ziH 1 ⟨[(2,AV.loc 2 1 0 0),(3,AV.loc 3 1 0 0),(4,AV.loc 4 1 0 0),(6,AV.row 6 2 0 (List.length x2)),(7,I x3)],[(2,⟨1,zau,[zah a0],true⟩),(3,⟨1,zau,[zah a1],true⟩),(4,⟨1,zau,[[AV.v (.slice none 0 0)]],true⟩),(6,⟨2,zac,x2,false⟩)]⟩
noncomputable def zgN (a0:GCurve) (a1:GCurve) (r6:(List GPoint)) (x7:List (List AV)) (x8:Int):Option (AV×Mem):=pt ziH 2 ⟨[(2,AV.loc 2 1 0 0),(3,AV.loc 3 1 0 0),(4,AV.loc 4 1 0 0),(6,AV.row 6 2 0 (List.length x7)),(8,AV.row 43 4 0 (List.length (List.map zae r6))),(9,I x8)],[(2,⟨1,zau,[zah a0],true⟩),(3,⟨1,zau,[zah a1],true⟩),(4,⟨1,zau,[[AV.v (.slice none 0 0)]],true⟩),(6,⟨2,zac,x7,false⟩),(43,⟨4,za0,List.map zae r6,false⟩)]⟩
noncomputable def zgO (a0:GCurve) (a1:GCurve) (x7:List (List AV)) (x12:List (List AV)) (x13:Int):Option (AV×Mem):=pt ziH 3 ⟨[(2,AV.loc 2 1 0 0),(3,AV.loc 3 1 0 0),(4,AV.loc 4 1 0 0),(6,AV.row 6 2 0 (List.length x7)),(12,AV.row 12 4 0 (List.length x12)),(13,I x13)],[(2,⟨1,zau,[zah a0],true⟩),(3,⟨1,zau,[zah a1],true⟩),(4,⟨1,zau,[[AV.v (.slice none 0 0)]],true⟩),(6,⟨2,zac,x7,false⟩),(12,⟨4,za0,x12,false⟩)]⟩
theorem zmA (a0:GCurve) (a1:GCurve) (x2:List (List AV)) (x3:Int) {y:AV×Mem} (h:(
 brn (decide (x3 < (↑(List.map zae a0.Points).length:Int))) (chk ((0:Int)≤x3)<|
 elemD zaq (List.map zae a0.Points) x3.toNat fun (c4:GPoint) =>
 chk (x2.length=x2.length)<|
 callD zg6 (cw zg8 [AV.row 950 2 0 (List.length x2),AV.agg (zaa c4.X)] [(950,⟨2,zac,x2,false⟩)]) fun (r5:(List GRatio)) =>
 chk ((List.map zaa r5).length=(List.map zaa r5).length)<|
 zgS a0 a1 (List.map zaa r5) (w64 (x3+1)))
 (callD zg9 (cw zja [AV.sl 4 (List.map zae a0.Points)] []) fun (r6:(List GPoint)) =>
 zgN a0 a1 r6 x2 0))=some y):zgS a0 a1 x2 x3=some y:=
 pt_of zT [] (by kernel_rfl) h
theorem zmx (a0:GCurve) (a1:GCurve) (r6:(List GPoint)) (x7:List (List AV)) (x8:Int) {y:AV×Mem} (h:(
 brn (decide (x8 < (↑(List.map zae a1.Points).length:Int))) (chk ((0:Int)≤x8)<|
 elemD zaq (List.map zae a1.Points) x8.toNat fun (c9:GPoint) =>
 chk (0+(List.map zae r6).length≤(List.map zae r6).length)<|
 callD zcy (cw zcA [AV.sl 4 (List.take ((List.map zae r6).length) (List.map zae r6)),AV.agg (zaa c9.X)] []) fun (r10:GRatio×Bool) =>
 brn (!r10.snd) (some (AV.tup [AV.agg (zah ⟨[]⟩),I 6],[]))
 (chk (x7.length=x7.length)<|
 callD zg6 (cw zg8 [AV.row 950 2 0 (List.length x7),AV.agg (zaa r10.fst)] [(950,⟨2,zac,x7,false⟩)]) fun (r11:(List GRatio)) =>
 chk ((List.map zaa r11).length=(List.map zaa r11).length)<|
 zgN a0 a1 r6 (List.map zaa r11) (w64 (x8+1))))
 (zgO a0 a1 x7 [] 0))=some y):zgN a0 a1 r6 x7 x8=some y:=
 pt_of zT [] (by kernel_rfl) h
theorem zmv (a0:GCurve) (a1:GCurve) (x7:List (List AV)) (x12:List (List AV)) (x13:Int) {y:AV×Mem} (h:(
 brn (decide (x13 < (↑x7.length:Int))) (chk ((0:Int)≤x13)<|
 chk ((x13:Int) < (↑x7.length:Int))<|
 elemD zad x7 (0+x13.toNat) fun (c14:GRatio) =>
 callD zcy (cw zcA [AV.sl 4 (List.map zae a0.Points),AV.agg (zaa c14)] []) fun (r15:GRatio×Bool) =>
 brn (!r15.snd) (some (AV.tup [AV.agg (zah ⟨[]⟩),I 6],[]))
 (callD zcy (cw zcA [AV.sl 4 (List.map zae a1.Points),AV.agg (zaa r15.fst)] []) fun (r16:GRatio×Bool) =>
 brn (!r16.snd) (some (AV.tup [AV.agg (zah ⟨[]⟩),I 6],[]))
 (chk ((0:Int)≤x13)<|
 chk ((x13:Int) < (↑x7.length:Int))<|
 elemD zad x7 (0+x13.toNat) fun (c17:GRatio) =>
 chk (x12.length=x12.length)<|
 chk ((x12.length+1)*(32+1)≤1099511627776)<|
 chk ((x12++[[I c17.Num,I c17.Den,I r16.fst.Num,I r16.fst.Den]]).length=(x12++[[I c17.Num,I c17.Den,I r16.fst.Num,I r16.fst.Den]]).length)<|
 zgO a0 a1 x7 (x12++([zae (⟨⟨c17.Num,c17.Den⟩,⟨r16.fst.Num,r16.fst.Den⟩⟩)])) (w64 (x13+1)))))
 (chk (0+x12.length≤x12.length)<|
 callD zef (cw ze4 [AV.sl 4 (List.take x12.length x12)] []) fun (r18:GCurve×Int) =>
 chk (0+x12.length≤x12.length)<|
 chk (0+x12.length≤x12.length)<|
 some (AV.tup [AV.agg (zah r18.fst),I r18.snd],[])))=some y):zgO a0 a1 x7 x12 x13=some y:=
 pt_of zT [] (by kernel_rfl) h
theorem zkM (a0:GCurve) (a1:GCurve) {y:AV×Mem} (h:(
 callD zd8 (cw zeR [AV.agg (zah a0)] []) fun (r0:Bool) =>
 brn (!r0) (some (AV.tup [AV.agg (zah ⟨[]⟩),I 1],[]))
 (callD zd8 (cw zeR [AV.agg (zah a1)] []) fun (r1:Bool) =>
 brn (!r1) (some (AV.tup [AV.agg (zah ⟨[]⟩),I 1],[]))
 (zgS a0 a1 [] 0)))=some y):cw zkO [AV.agg (zah a0),AV.agg (zah a1)] []=some y:=
 zaj ziH zT [] rfl (by kernel_rfl) (by kernel_rfl) (by kernel_rfl) (by kernel_rfl) (by kernel_rfl) h
noncomputable def zd2 (r1:Int×GmarkDice) (x2:Int) (x3:Int) (x4:Int):Option (AV×Mem):=pt zmr 1 ⟨[(2,AV.loc 2 2 0 0),(3,I x2),(4,I x3),(5,I x4)],[(2,⟨2,zac,[zaa (⟨0,0⟩)],true⟩),(1000,⟨2,zal,[zaA r1.snd],true⟩)]⟩
theorem zdh (r1:Int×GmarkDice) (x2:Int) (x3:Int) (x4:Int) {y:AV×Mem} (h:(
 brn (decide (1 < x4)) (chk ((x4:Int)≠0)<|
 brn (x2.tmod x4 == 0) (chk ((x4:Int)≠0)<|
 brn (x3.tmod x4 == 0) (chk ((x4:Int)≠0)<|
 chk ((x4:Int)≠0)<|
 zd2 r1 (w64 (x2.tdiv x4)) (w64 (x3.tdiv x4)) (w64 (x4 - 1)))
 (zd2 r1 x2 x3 (w64 (x4 - 1))))
 (zd2 r1 x2 x3 (w64 (x4 - 1))))
 (brn (x2 == 0) (some (AV.agg (zaa (⟨x2,1⟩)),[(1000,⟨2,zal,[zaA r1.snd],true⟩)]))
 (some (AV.agg (zaa (⟨x2,x3⟩)),[(1000,⟨2,zal,[zaA r1.snd],true⟩)]))))=some y):zd2 r1 x2 x3 x4=some y:=
 pt_of zT [] (by kernel_rfl) h
theorem zr8 (a0:GmarkDice) {y:AV×Mem} (h:(
 callD zaX (cw zaU [AV.loc 1000 2 0 0,I 21] [(1000,⟨2,zal,[zaA a0],true⟩)]) fun (r0:Int×GmarkDice) =>
 callD zaX (cw zaU [AV.loc 1000 2 0 0,I 5] [(1000,⟨2,zal,[zaA r0.snd],true⟩)]) fun (r1:Int×GmarkDice) =>
 zd2 r1 (w64 (r0.fst - 10)) (w64 (1+r1.fst)) 5)=some y):cw zfF [AV.loc 1000 2 0 0] [(1000,⟨2,zal,[zaA a0],true⟩)]=some y:=
 zaj zmr zT [] rfl (by kernel_rfl) (by kernel_rfl) (by kernel_rfl) (by kernel_rfl) (by kernel_rfl) h
theorem zvs (a0:Int) {y:AV×Mem} (h:(
 some (AV.agg (zaa (⟨a0,1⟩)),[]))=some y):cw zaJ [I a0] []=some y:=
 zaj zvU zT [] rfl (by kernel_rfl) (by kernel_rfl) (by kernel_rfl) (by kernel_rfl) (by kernel_rfl) h
theorem zhu (a0:GmarkDice) (a1:Int) {y:AV×Mem} (h:(
 brn (decide ((↑(List.map zbl a0.L).length:Int)≤a0.At)) (some (I 0,[(1000,⟨2,zal,[zaA a0],true⟩)]))
 (brn (decide (a1 < 1)) (some (I 0,[(1000,⟨2,zal,[zaA a0],true⟩)]))
 (chk ((0:Int)≤a0.At)<|
 elemD zaY (List.map zbl a0.L) a0.At.toNat fun (c0:Int) =>
 chk ((a1:Int)≠0)<|
 brn (decide (Int.tmod c0 a1 < 0)) (some (I (w64 (Int.tmod c0 a1+a1)),[(1000,⟨2,zal,[zaA (⟨a0.L,w64 (a0.At+1)⟩)],true⟩)]))
 (some (I (Int.tmod c0 a1),[(1000,⟨2,zal,[zaA (⟨a0.L,w64 (a0.At+1)⟩)],true⟩)])))))=some y):cw zaU [AV.loc 1000 2 0 0,I a1] [(1000,⟨2,zal,[zaA a0],true⟩)]=some y:=
 zaj zs9 zT [] rfl (by kernel_rfl) (by kernel_rfl) (by kernel_rfl) (by kernel_rfl) (by kernel_rfl) h
theorem zfx (a0:GCurve) (a1:GRatio) {y:AV×Mem} (h:(
 callD zcD (cw zcY [AV.agg (zah a0)] []) fun (r0:Bool) =>
 brn (!r0) (some (AV.tup [AV.agg (zaa (⟨0,0⟩)),I 1],[]))
 (callD zbg (cw zbn [AV.agg (zaa a1)] []) fun (r1:Bool) =>
 brn (!r1) (some (AV.tup [AV.agg (zaa (⟨0,0⟩)),I 1],[]))
 (callD zbs (cw zbu [AV.sl 4 (List.map zae a0.Points),AV.agg (zaa a1)] []) fun (r2:GRatio×Int) =>
 some (AV.tup [AV.agg (zaa r2.fst),I r2.snd],[]))))=some y):cw zcs [AV.agg (zah a0),AV.agg (zaa a1)] []=some y:=
 zaj zrF zT [] rfl (by kernel_rfl) (by kernel_rfl) (by kernel_rfl) (by kernel_rfl) (by kernel_rfl) h
theorem zk5 (a0:GCurve) (a1:GRatio) {y:AV×Mem} (h:(
 callD zd8 (cw zeR [AV.agg (zah a0)] []) fun (r0:Bool) =>
 brn (!r0) (some (AV.tup [AV.agg (zaa (⟨0,0⟩)),I 1],[]))
 (callD zbo (cw zbm [AV.agg (zaa a1)] []) fun (r1:Bool) =>
 brn (!r1) (some (AV.tup [AV.agg (zaa (⟨0,0⟩)),I 1],[]))
 (callD zcy (cw zcA [AV.sl 4 (List.map zae a0.Points),AV.agg (zaa a1)] []) fun (r2:GRatio×Bool) =>
 brn (!r2.snd) (some (AV.tup [AV.agg (zaa (⟨0,0⟩)),I 6],[]))
 (some (AV.tup [AV.agg (zaa r2.fst),I 0],[])))))=some y):cw ziY [AV.agg (zah a0),AV.agg (zaa a1)] []=some y:=
 zaj zwB zT [] rfl (by kernel_rfl) (by kernel_rfl) (by kernel_rfl) (by kernel_rfl) (by kernel_rfl) h
theorem zdI (a0:GCurve) (a1:Int) (a2:Int) {y:AV×Mem} (h:(
 brn (decide (a1 < 0)) (some (AV.tup [I 0,I 2],[]))
 (brn (decide (200 < a1)) (some (AV.tup [I 0,I 2],[]))
 (brn (decide (a2 < 0)) (some (AV.tup [I 0,I 2],[]))
 (brn (decide (200 < a2)) (some (AV.tup [I 0,I 2],[]))
 (callD zca (cw zcG [I a1] []) fun (r0:GRatio) =>
 callD zdP (cw zcs [AV.agg (zah a0),AV.agg (zaa r0)] []) fun (r1:GRatio×Int) =>
 brn (r1.snd != 0) (some (AV.tup [I 0,I r1.snd],[]))
 (callD zkg (cw zmh [AV.agg (zaa r1.fst)] []) fun (r2:Int) =>
 some (AV.tup [I (if a2 < if 0 > r2 then 0 else r2 then a2 else if 0 > r2 then 0 else r2),I 0],[])))))))=some y):cw zhv [AV.agg (zah a0),I a1,I a2] []=some y:=
 zaj zpw zT [] rfl (by kernel_rfl) (by kernel_rfl) (by kernel_rfl) (by kernel_rfl) (by kernel_rfl) h
theorem zfr (a0:GCurve) (a1:Int) (a2:Int) {y:AV×Mem} (h:(
 brn (decide (a1 < 0)) (some (AV.tup [I 0,I 2],[]))
 (brn (decide (200 < a1)) (some (AV.tup [I 0,I 2],[]))
 (brn (decide (a2 < 0)) (some (AV.tup [I 0,I 2],[]))
 (brn (decide (200 < a2)) (some (AV.tup [I 0,I 2],[]))
 (callD zjh (cw ziY [AV.agg (zah a0),AV.agg (zaa (⟨a1,1⟩))] []) fun (r0:GRatio×Int) =>
 brn (r0.snd != 0) (some (AV.tup [I 0,I r0.snd],[]))
 (callD zj9 (cw zmc [AV.agg (zaa r0.fst)] []) fun (r1:Int) =>
 some (AV.tup [I (if (if r1 < a2 then r1 else a2) > 0 then if r1 < a2 then r1 else a2 else 0),I 0],[])))))))=some y):cw zkX [AV.agg (zah a0),I a1,I a2] []=some y:=
 zaj ztR zT [] rfl (by kernel_rfl) (by kernel_rfl) (by kernel_rfl) (by kernel_rfl) (by kernel_rfl) h
theorem zeI (a0:GRatio) (a1:GRatio) {y:AV×Mem} (h:(
 callD zbg (cw zbn [AV.agg (zaa a0)] []) fun (r0:Bool) =>
 brn (!r0) (some (AV.tup [AV.agg (zah ⟨[]⟩),I 1],[]))
 (callD zbg (cw zbn [AV.agg (zaa a1)] []) fun (r1:Bool) =>
 brn (!r1) (some (AV.tup [AV.agg (zah ⟨[]⟩),I 1],[]))
 (brn (decide (a0.Num≤0)) (some (AV.tup [AV.agg (zah ⟨[]⟩),I 2],[]))
 (callD zh1 (cw zcI [AV.agg (zaa a0),AV.agg (zaa a1)] []) fun (r2:GRatio×Int) =>
 brn (r2.snd != 0) (some (AV.tup [AV.agg (zah ⟨[]⟩),I r2.snd],[]))
 (callD zca (cw zcG [I 0] []) fun (r3:GRatio) =>
 callD zca (cw zcG [I 1] []) fun (r4:GRatio) =>
 some (AV.tup [AV.agg (zah (⟨[⟨⟨r3.Num,r3.Den⟩,⟨a1.Num,a1.Den⟩⟩,⟨⟨r4.Num,r4.Den⟩,⟨r2.fst.Num,r2.fst.Den⟩⟩]⟩)),I 0],[]))))))=some y):cw zfG [AV.agg (zaa a0),AV.agg (zaa a1)] []=some y:=
 zaj zrL zT [] rfl (by kernel_rfl) (by kernel_rfl) (by kernel_rfl) (by kernel_rfl) (by kernel_rfl) h
theorem zi1 (a0:GRatio) (a1:GRatio) {y:AV×Mem} (h:(
 callD zbo (cw zbm [AV.agg (zaa a0)] []) fun (r0:Bool) =>
 brn (!r0) (some (AV.tup [AV.agg (zah ⟨[]⟩),I 1],[]))
 (callD zbo (cw zbm [AV.agg (zaa a1)] []) fun (r1:Bool) =>
 brn (!r1) (some (AV.tup [AV.agg (zah ⟨[]⟩),I 1],[]))
 (brn (decide (a0.Num≤0)) (some (AV.tup [AV.agg (zah ⟨[]⟩),I 2],[]))
 (callD zd4 (cw zeq [AV.agg (zaa a1),AV.agg (zaa a0)] []) fun (r2:GRatio×Int) =>
 brn (r2.snd != 0) (some (AV.tup [AV.agg (zah ⟨[]⟩),I r2.snd],[]))
 (some (AV.tup [AV.agg (zah (⟨[⟨⟨0,1⟩,⟨a1.Num,a1.Den⟩⟩,⟨⟨1,1⟩,⟨r2.fst.Num,r2.fst.Den⟩⟩]⟩)),I 0],[]))))))=some y):cw zm4 [AV.agg (zaa a0),AV.agg (zaa a1)] []=some y:=
 zaj zwO zT [] rfl (by kernel_rfl) (by kernel_rfl) (by kernel_rfl) (by kernel_rfl) (by kernel_rfl) h
theorem zw3 (a0:GRatio) (a1:GRatio) {y:AV×Mem} (h:(
 callD ziB (cw zk8 [AV.agg (zaa a0),AV.agg (zaa a1)] []) fun (r0:Int) =>
 some (B (decide (r0 < 0)),[]))=some y):cw zew [AV.agg (zaa a0),AV.agg (zaa a1)] []=some y:=
 zaj zwL zT [] rfl (by kernel_rfl) (by kernel_rfl) (by kernel_rfl) (by kernel_rfl) (by kernel_rfl) h
end Go.Proofs.YtbhkcgaanaelfaaGreat
