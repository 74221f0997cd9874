/- What the functions compute, between two cut points: printed by a program, checked by the kernel. -/
import Derived.Test.YtbhkcgaanaelfaaGreatAnn
namespace Go.Proofs.YtbhkcgaanaelfaaGreat
open Go.Ab
set_option maxRecDepth 100000
set_option linter.unusedVariables false
theorem zub (a0:GCurve) {y:AV×Mem} (h:(
 callD zdZ (cw zeQ [AV.agg (zak a0)] []) fun (r0:Bool) =>
 brn (!r0) (some (AV.tup [AV.agg (zak ⟨[]⟩),I 1],[]))
 (callD zew (cw zfJ [AV.sl 4 (List.map zag a0.Points)] []) fun (r1:GCurve×Int) =>
 some (AV.tup [AV.agg (zak r1.fst),I r1.snd],[])))=some y):cw zhs [AV.agg (zak a0)] []=some y:=
 zaj zt6 zT [] rfl (by kernel_rfl) (by kernel_rfl) (by kernel_rfl) (by kernel_rfl) (by kernel_rfl) h
theorem zuM (a0:GCurve) {y:AV×Mem} (h:(
 brn (decide (2≤(↑(List.map zag a0.Points).length:Int))) (brn (decide ((↑(List.map zag a0.Points).length:Int)≤410)) (callD zf3 (cw zmt [AV.sl 4 (List.map zag a0.Points)] []) fun (r0:Bool) =>
 some (B r0,[]))
 (some (B false,[])))
 (some (B false,[])))=some y):cw zeQ [AV.agg (zak a0)] []=some y:=
 zaj zuX zT [] rfl (by kernel_rfl) (by kernel_rfl) (by kernel_rfl) (by kernel_rfl) (by kernel_rfl) h
theorem zAa (a0:GCurve) {y:AV×Mem} (h:(
 brn (decide ((↑(List.map zag a0.Points).length:Int)≤410)) (callD zlY (cw zsw [AV.sl 4 (List.map zag a0.Points)] []) fun (r0:Bool) =>
 some (B r0,[]))
 (some (B false,[])))=some y):cw zjR [AV.agg (zak a0)] []=some y:=
 zaj zzY zT [] rfl (by kernel_rfl) (by kernel_rfl) (by kernel_rfl) (by kernel_rfl) (by kernel_rfl) h
noncomputable def zkN (a0:GCurve) (a1:GCurve) (x0:Int):Option (AV×Mem):=pt zt2 1 ⟨[(2,AV.loc 2 1 0 0),(3,AV.loc 3 1 0 0),(5,I x0)],[(2,⟨1,zay,[zak a0],true⟩),(3,⟨1,zay,[zak a1],true⟩)]⟩
theorem zoq (a0:GCurve) (a1:GCurve) (x0:Int) {y:AV×Mem} (h:(
 brn (decide (x0 < (↑(List.map zag a0.Points).length:Int))) (chk ((0:Int)≤x0)<|
 elemD zau (List.map zag a0.Points) x0.toNat fun (c1:GPoint) =>
 chk ((0:Int)≤x0)<|
 elemD zau (List.map zag a1.Points) x0.toNat fun (c2:GPoint) =>
 brn (!(c1.X.Num == c2.X.Num && (c1.X.Den == c2.X.Den && true) && (c1.Y.Num == c2.Y.Num && (c1.Y.Den == c2.Y.Den && true) && true))) (some (B false,[]))
 (zkN a0 a1 (w64 (x0+1))))
 (some (B true,[])))=some y):zkN a0 a1 x0=some y:=
 pt_of zT [] (by kernel_rfl) h
theorem zz1 (a0:GCurve) (a1:GCurve) {y:AV×Mem} (h:(
 brn ((↑(List.map zag a0.Points).length:Int) != (↑(List.map zag a1.Points).length:Int)) (some (B false,[]))
 (zkN a0 a1 0))=some y):cw zgr [AV.agg (zak a0),AV.agg (zak a1)] []=some y:=
 zaj zt2 zT [] rfl (by kernel_rfl) (by kernel_rfl) (by kernel_rfl) (by kernel_rfl) (by kernel_rfl) h
noncomputable def zf0 (a0:GCurve) (a1:GCurve) (x2:List (List AV)) (x3:Int):Option (AV×Mem):=pt zgG 1 ⟨[(2,AV.loc 2 1 0 0),(3,AV.loc 3 1 0 0),(4,AV.loc 4 1 0 0),(6,AV.row 6 2 0 (List.length x2)),(30,AV.sl 4 (List.map zag a0.Points)),(31,I ((↑(List.map zag a0.Points).length:Int))),(32,I x3)],[(2,⟨1,zay,[zak a0],true⟩),(3,⟨1,zay,[zak a1],true⟩),(4,⟨1,zay,[[AV.v (.slice none 0 0)]],true⟩),(6,⟨2,zae,x2,false⟩)]⟩
noncomputable def zf1 (a0:GCurve) (a1:GCurve) (r5:(List GPoint)) (x6:List (List AV)) (x7:Int):Option (AV×Mem):=pt zgG 2 ⟨[(2,AV.loc 2 1 0 0),(3,AV.loc 3 1 0 0),(4,AV.loc 4 1 0 0),(6,AV.row 6 2 0 (List.length x6)),(9,AV.row 44 4 0 (List.length (List.map zag r5))),(46,AV.sl 4 (List.map zag a1.Points)),(47,I ((↑(List.map zag a1.Points).length:Int))),(48,I x7)],[(2,⟨1,zay,[zak a0],true⟩),(3,⟨1,zay,[zak a1],true⟩),(4,⟨1,zay,[[AV.v (.slice none 0 0)]],true⟩),(6,⟨2,zae,x6,false⟩),(44,⟨4,zaC,List.map zag r5,false⟩)]⟩
noncomputable def zfX (a0:GCurve) (a1:GCurve) (r11:Nat×(List GRatio)) (x12:List (List AV)) (x13:Int):Option (AV×Mem):=pt zgG 3 ⟨[(2,AV.loc 2 1 0 0),(3,AV.loc 3 1 0 0),(4,AV.loc 4 1 0 0),(14,AV.row 74 4 0 ((List.replicate (↑r11.fst:Int).toNat (I 0 :: I 0 :: I 0 :: I 0 :: List.map AV.v [])).length)),(75,AV.row 6 2 0 r11.fst),(76,I (↑r11.fst:Int)),(77,I x13)],[(2,⟨1,zay,[zak a0],true⟩),(3,⟨1,zay,[zak a1],true⟩),(4,⟨1,zay,[[AV.v (.slice none 0 0)]],true⟩),(6,⟨2,zae,List.map zaa r11.snd,false⟩),(74,⟨4,zaC,x12,false⟩)]⟩
theorem zmx (a0:GCurve) (a1:GCurve) (x2:List (List AV)) (x3:Int) {y:AV×Mem} (h:(
 brn (decide (x3 < (↑(List.map zag a0.Points).length:Int))) (chk ((0:Int)≤x3)<|
 elemD zau (List.map zag a0.Points) x3.toNat fun (c4:GPoint) =>
 chk (x2.length=x2.length)<|
 chk ((x2.length+1)*(16+1)≤1099511627776)<|
 chk ((x2++[[I c4.X.Num,I c4.X.Den]]).length=(x2++[[I c4.X.Num,I c4.X.Den]]).length)<|
 zf0 a0 a1 (x2++([zaa c4.X])) (w64 (x3+1)))
 (callD zfZ (cw zin [AV.sl 4 (List.map zag a0.Points)] []) fun (r5:(List GPoint)) =>
 zf1 a0 a1 r5 x2 0))=some y):zf0 a0 a1 x2 x3=some y:=
 pt_of zT [] (by kernel_rfl) h
theorem zmF (a0:GCurve) (a1:GCurve) (r5:(List GPoint)) (x6:List (List AV)) (x7:Int) {y:AV×Mem} (h:(
 brn (decide (x7 < (↑(List.map zag a1.Points).length:Int))) (chk ((0:Int)≤x7)<|
 elemD zau (List.map zag a1.Points) x7.toNat fun (c8:GPoint) =>
 chk (0+(List.map zag r5).length≤(List.map zag r5).length)<|
 callD zbs (cw zbq [AV.sl 4 (List.take ((List.map zag r5).length) (List.map zag r5)),AV.agg (zaa c8.X)] []) fun (r9:GRatio×Int) =>
 brn (r9.snd != 0) (some (AV.tup [AV.agg (zak ⟨[]⟩),I r9.snd],[]))
 (chk (x6.length=x6.length)<|
 chk ((x6.length+1)*(16+1)≤1099511627776)<|
 chk ((x6++[[I r9.fst.Num,I r9.fst.Den]]).length=(x6++[[I r9.fst.Num,I r9.fst.Den]]).length)<|
 zf1 a0 a1 r5 (x6++([zaa r9.fst])) (w64 (x7+1))))
 (callD zbo (cw zbJ [AV.row 1000 2 0 (List.length x6),AV.fn zah []] [(1000,⟨2,zae,x6,false⟩)]) fun (r10:(List GRatio)) =>
 callD zbT (cw zbU [AV.row 1000 2 0 x6.length] [(1000,⟨2,zae,List.map zaa r10,false⟩)]) fun (r11:Nat×(List GRatio)) =>
 chk (((↑r11.fst:Int):Int)=(↑r11.fst:Int))<|
 chk ((0:Int)≤(↑r11.fst:Int))<|
 chk ((↑r11.fst:Int).toNat*(32+1)≤1099511627776)<|
 zfX a0 a1 r11 (List.replicate ((↑r11.fst:Int).toNat) (zag (⟨⟨0,0⟩,⟨0,0⟩⟩))) 0))=some y):zf1 a0 a1 r5 x6 x7=some y:=
 pt_of zT [] (by kernel_rfl) h
theorem zmC (a0:GCurve) (a1:GCurve) (r11:Nat×(List GRatio)) (x12:List (List AV)) (x13:Int) {y:AV×Mem} (h:(
 brn (decide (x13 < (↑r11.fst:Int))) (chk ((0:Int)≤x13)<|
 chk ((x13:Int) < (↑r11.fst:Int))<|
 elemD zaf (List.map zaa r11.snd) (0+x13.toNat) fun (c14:GRatio) =>
 callD zbs (cw zbq [AV.sl 4 (List.map zag a0.Points),AV.agg (zaa c14)] []) fun (r15:GRatio×Int) =>
 brn (r15.snd != 0) (some (AV.tup [AV.agg (zak ⟨[]⟩),I r15.snd],[]))
 (callD zbs (cw zbq [AV.sl 4 (List.map zag a1.Points),AV.agg (zaa r15.fst)] []) fun (r16:GRatio×Int) =>
 brn (r16.snd != 0) (some (AV.tup [AV.agg (zak ⟨[]⟩),I r16.snd],[]))
 (chk ((0:Int)≤x13)<|
 chk ((x13:Int) < ((↑(List.replicate (↑r11.fst:Int).toNat (I 0 :: I 0 :: I 0 :: I 0 :: List.map AV.v [])).length:Int)))<|
 elemD zau x12 (0+x13.toNat) fun (c17:GPoint) =>
 zfX a0 a1 r11 (List.set x12 (0+x13.toNat) (zag (⟨⟨c14.Num,c14.Den⟩,⟨r16.fst.Num,r16.fst.Den⟩⟩))) (w64 (x13+1)))))
 (chk (0+(List.replicate (↑r11.fst:Int).toNat (I 0 :: I 0 :: I 0 :: I 0 :: List.map AV.v [])).length≤x12.length)<|
 callD zew (cw zfJ [AV.sl 4 (List.take ((List.replicate (↑r11.fst:Int).toNat (I 0 :: I 0 :: I 0 :: I 0 :: List.map AV.v [])).length) x12)] []) fun (r18:GCurve×Int) =>
 chk (0+(List.replicate (↑r11.fst:Int).toNat (I 0 :: I 0 :: I 0 :: I 0 :: List.map AV.v [])).length≤x12.length)<|
 chk (0+(List.replicate (↑r11.fst:Int).toNat (I 0 :: I 0 :: I 0 :: I 0 :: List.map AV.v [])).length≤x12.length)<|
 some (AV.tup [AV.agg (zak r18.fst),I r18.snd],[])))=some y):zfX a0 a1 r11 x12 x13=some y:=
 pt_of zT [] (by kernel_rfl) h
theorem zjJ (a0:GCurve) (a1:GCurve) {y:AV×Mem} (h:(
 callD zdZ (cw zeQ [AV.agg (zak a0)] []) fun (r0:Bool) =>
 brn (!r0) (some (AV.tup [AV.agg (zak ⟨[]⟩),I 1],[]))
 (callD zdZ (cw zeQ [AV.agg (zak a1)] []) fun (r1:Bool) =>
 brn (!r1) (some (AV.tup [AV.agg (zak ⟨[]⟩),I 1],[]))
 (zf0 a0 a1 [] 0)))=some y):cw zjv [AV.agg (zak a0),AV.agg (zak a1)] []=some y:=
 zaj zgG zT [] rfl (by kernel_rfl) (by kernel_rfl) (by kernel_rfl) (by kernel_rfl) (by kernel_rfl) h
noncomputable def ziz (a0:GCurve) (a1:GCurve) (x2:List (List AV)) (x3:Int):Option (AV×Mem):=pt zkU 1 ⟨[(2,AV.loc 2 1 0 0),(3,AV.loc 3 1 0 0),(4,AV.loc 4 1 0 0),(6,AV.row 6 2 0 (List.length x2)),(7,I x3)],[(2,⟨1,zay,[zak a0],true⟩),(3,⟨1,zay,[zak a1],true⟩),(4,⟨1,zay,[[AV.v (.slice none 0 0)]],true⟩),(6,⟨2,zae,x2,false⟩)]⟩
noncomputable def ziD (a0:GCurve) (a1:GCurve) (r6:(List GPoint)) (x7:List (List AV)) (x8:Int):Option (AV×Mem):=pt zkU 2 ⟨[(2,AV.loc 2 1 0 0),(3,AV.loc 3 1 0 0),(4,AV.loc 4 1 0 0),(6,AV.row 6 2 0 (List.length x7)),(8,AV.row 43 4 0 (List.length (List.map zag r6))),(9,I x8)],[(2,⟨1,zay,[zak a0],true⟩),(3,⟨1,zay,[zak a1],true⟩),(4,⟨1,zay,[[AV.v (.slice none 0 0)]],true⟩),(6,⟨2,zae,x7,false⟩),(43,⟨4,zaC,List.map zag r6,false⟩)]⟩
noncomputable def ziK (a0:GCurve) (a1:GCurve) (x7:List (List AV)) (x12:List (List AV)) (x13:Int):Option (AV×Mem):=pt zkU 3 ⟨[(2,AV.loc 2 1 0 0),(3,AV.loc 3 1 0 0),(4,AV.loc 4 1 0 0),(6,AV.row 6 2 0 (List.length x7)),(12,AV.row 12 4 0 (List.length x12)),(13,I x13)],[(2,⟨1,zay,[zak a0],true⟩),(3,⟨1,zay,[zak a1],true⟩),(4,⟨1,zay,[[AV.v (.slice none 0 0)]],true⟩),(6,⟨2,zae,x7,false⟩),(12,⟨4,zaC,x12,false⟩)]⟩
theorem zp7 (a0:GCurve) (a1:GCurve) (x2:List (List AV)) (x3:Int) {y:AV×Mem} (h:(
 brn (decide (x3 < (↑(List.map zag a0.Points).length:Int))) (chk ((0:Int)≤x3)<|
 elemD zau (List.map zag a0.Points) x3.toNat fun (c4:GPoint) =>
 chk (x2.length=x2.length)<|
 callD ziT (cw zi3 [AV.row 950 2 0 (List.length x2),AV.agg (zaa c4.X)] [(950,⟨2,zae,x2,false⟩)]) fun (r5:(List GRatio)) =>
 chk ((List.map zaa r5).length=(List.map zaa r5).length)<|
 ziz a0 a1 (List.map zaa r5) (w64 (x3+1)))
 (callD zow (cw zq5 [AV.sl 4 (List.map zag a0.Points)] []) fun (r6:(List GPoint)) =>
 ziD a0 a1 r6 x2 0))=some y):ziz a0 a1 x2 x3=some y:=
 pt_of zT [] (by kernel_rfl) h
theorem zpY (a0:GCurve) (a1:GCurve) (r6:(List GPoint)) (x7:List (List AV)) (x8:Int) {y:AV×Mem} (h:(
 brn (decide (x8 < (↑(List.map zag a1.Points).length:Int))) (chk ((0:Int)≤x8)<|
 elemD zau (List.map zag a1.Points) x8.toNat fun (c9:GPoint) =>
 chk (0+(List.map zag r6).length≤(List.map zag r6).length)<|
 callD zcH (cw zcF [AV.sl 4 (List.take ((List.map zag r6).length) (List.map zag r6)),AV.agg (zaa c9.X)] []) fun (r10:GRatio×Bool) =>
 brn (!r10.snd) (some (AV.tup [AV.agg (zak ⟨[]⟩),I 6],[]))
 (chk (x7.length=x7.length)<|
 callD ziT (cw zi3 [AV.row 950 2 0 (List.length x7),AV.agg (zaa r10.fst)] [(950,⟨2,zae,x7,false⟩)]) fun (r11:(List GRatio)) =>
 chk ((List.map zaa r11).length=(List.map zaa r11).length)<|
 ziD a0 a1 r6 (List.map zaa r11) (w64 (x8+1))))
 (ziK a0 a1 x7 [] 0))=some y):ziD a0 a1 r6 x7 x8=some y:=
 pt_of zT [] (by kernel_rfl) h
theorem zp4 (a0:GCurve) (a1:GCurve) (x7:List (List AV)) (x12:List (List AV)) (x13:Int) {y:AV×Mem} (h:(
 brn (decide (x13 < (↑x7.length:Int))) (chk ((0:Int)≤x13)<|
 chk ((x13:Int) < (↑x7.length:Int))<|
 elemD zaf x7 (0+x13.toNat) fun (c14:GRatio) =>
 callD zcH (cw zcF [AV.sl 4 (List.map zag a0.Points),AV.agg (zaa c14)] []) fun (r15:GRatio×Bool) =>
 brn (!r15.snd) (some (AV.tup [AV.agg (zak ⟨[]⟩),I 6],[]))
 (callD zcH (cw zcF [AV.sl 4 (List.map zag a1.Points),AV.agg (zaa r15.fst)] []) fun (r16:GRatio×Bool) =>
 brn (!r16.snd) (some (AV.tup [AV.agg (zak ⟨[]⟩),I 6],[]))
 (chk ((0:Int)≤x13)<|
 chk ((x13:Int) < (↑x7.length:Int))<|
 elemD zaf x7 (0+x13.toNat) fun (c17:GRatio) =>
 chk (x12.length=x12.length)<|
 chk ((x12.length+1)*(32+1)≤1099511627776)<|
 chk ((x12++[[I c17.Num,I c17.Den,I r16.fst.Num,I r16.fst.Den]]).length=(x12++[[I c17.Num,I c17.Den,I r16.fst.Num,I r16.fst.Den]]).length)<|
 ziK a0 a1 x7 (x12++([zag (⟨⟨c17.Num,c17.Den⟩,⟨r16.fst.Num,r16.fst.Den⟩⟩)])) (w64 (x13+1)))))
 (chk (0+x12.length≤x12.length)<|
 callD ziS (cw zlR [AV.sl 4 (List.take x12.length x12)] []) fun (r18:GCurve×Int) =>
 chk (0+x12.length≤x12.length)<|
 chk (0+x12.length≤x12.length)<|
 some (AV.tup [AV.agg (zak r18.fst),I r18.snd],[])))=some y):ziK a0 a1 x7 x12 x13=some y:=
 pt_of zT [] (by kernel_rfl) h
theorem zor (a0:GCurve) (a1:GCurve) {y:AV×Mem} (h:(
 callD zhL (cw zjR [AV.agg (zak a0)] []) fun (r0:Bool) =>
 brn (!r0) (some (AV.tup [AV.agg (zak ⟨[]⟩),I 1],[]))
 (callD zhL (cw zjR [AV.agg (zak a1)] []) fun (r1:Bool) =>
 brn (!r1) (some (AV.tup [AV.agg (zak ⟨[]⟩),I 1],[]))
 (ziz a0 a1 [] 0)))=some y):cw znW [AV.agg (zak a0),AV.agg (zak a1)] []=some y:=
 zaj zkU zT [] rfl (by kernel_rfl) (by kernel_rfl) (by kernel_rfl) (by kernel_rfl) (by kernel_rfl) h
theorem zjo (a0:GmarkDice) (a1:Int) {y:AV×Mem} (h:(
 brn (decide ((↑(List.map zai a0.L).length:Int)≤a0.At)) (some (I 0,[(1000,⟨2,zaq,[zaR a0],true⟩)]))
 (brn (decide (a1 < 1)) (some (I 0,[(1000,⟨2,zaq,[zaR a0],true⟩)]))
 (chk ((0:Int)≤a0.At)<|
 elemD zaw (List.map zai a0.L) a0.At.toNat fun (c0:Int) =>
 chk ((a1:Int)≠0)<|
 brn (decide (Int.tmod c0 a1 < 0)) (some (I (w64 (Int.tmod c0 a1+a1)),[(1000,⟨2,zaq,[zaR (⟨a0.L,w64 (a0.At+1)⟩)],true⟩)]))
 (some (I (Int.tmod c0 a1),[(1000,⟨2,zaq,[zaR (⟨a0.L,w64 (a0.At+1)⟩)],true⟩)])))))=some y):cw zbZ [AV.loc 1000 2 0 0,I a1] [(1000,⟨2,zaq,[zaR a0],true⟩)]=some y:=
 zaj zwV zT [] rfl (by kernel_rfl) (by kernel_rfl) (by kernel_rfl) (by kernel_rfl) (by kernel_rfl) h
theorem zgw (a0:GCurve) (a1:GRatio) {y:AV×Mem} (h:(
 callD zdZ (cw zeQ [AV.agg (zak a0)] []) fun (r0:Bool) =>
 brn (!r0) (some (AV.tup [AV.agg (zaa (⟨0,0⟩)),I 1],[]))
 (callD zbc (cw zbk [AV.agg (zaa a1)] []) fun (r1:Bool) =>
 brn (!r1) (some (AV.tup [AV.agg (zaa (⟨0,0⟩)),I 1],[]))
 (callD zbs (cw zbq [AV.sl 4 (List.map zag a0.Points),AV.agg (zaa a1)] []) fun (r2:GRatio×Int) =>
 some (AV.tup [AV.agg (zaa r2.fst),I r2.snd],[]))))=some y):cw zdu [AV.agg (zak a0),AV.agg (zaa a1)] []=some y:=
 zaj zv6 zT [] rfl (by kernel_rfl) (by kernel_rfl) (by kernel_rfl) (by kernel_rfl) (by kernel_rfl) h
theorem znF (a0:GCurve) (a1:GRatio) {y:AV×Mem} (h:(
 callD zhL (cw zjR [AV.agg (zak a0)] []) fun (r0:Bool) =>
 brn (!r0) (some (AV.tup [AV.agg (zaa (⟨0,0⟩)),I 1],[]))
 (callD zbl (cw zbm [AV.agg (zaa a1)] []) fun (r1:Bool) =>
 brn (!r1) (some (AV.tup [AV.agg (zaa (⟨0,0⟩)),I 1],[]))
 (callD zcH (cw zcF [AV.sl 4 (List.map zag a0.Points),AV.agg (zaa a1)] []) fun (r2:GRatio×Bool) =>
 brn (!r2.snd) (some (AV.tup [AV.agg (zaa (⟨0,0⟩)),I 6],[]))
 (some (AV.tup [AV.agg (zaa r2.fst),I 0],[])))))=some y):cw znP [AV.agg (zak a0),AV.agg (zaa a1)] []=some y:=
 zaj zBw zT [] rfl (by kernel_rfl) (by kernel_rfl) (by kernel_rfl) (by kernel_rfl) (by kernel_rfl) h
theorem zec (a0:GCurve) (a1:Int) (a2:Int) {y:AV×Mem} (h:(
 brn (decide (a1 < 0)) (some (AV.tup [I 0,I 2],[]))
 (brn (decide (200 < a1)) (some (AV.tup [I 0,I 2],[]))
 (brn (decide (a2 < 0)) (some (AV.tup [I 0,I 2],[]))
 (brn (decide (200 < a2)) (some (AV.tup [I 0,I 2],[]))
 (callD zcf (cw zcL [I a1] []) fun (r0:GRatio) =>
 callD zeo (cw zdu [AV.agg (zak a0),AV.agg (zaa r0)] []) fun (r1:GRatio×Int) =>
 brn (r1.snd != 0) (some (AV.tup [I 0,I r1.snd],[]))
 (callD zmU (cw zpO [AV.agg (zaa r1.fst)] []) fun (r2:Int) =>
 some (AV.tup [I (if a2 < if 0 > r2 then 0 else r2 then a2 else if 0 > r2 then 0 else r2),I 0],[])))))))=some y):cw zjM [AV.agg (zak a0),I a1,I a2] []=some y:=
 zaj ztq zT [] rfl (by kernel_rfl) (by kernel_rfl) (by kernel_rfl) (by kernel_rfl) (by kernel_rfl) h
theorem zgm (a0:GCurve) (a1:Int) (a2:Int) {y:AV×Mem} (h:(
 brn (decide (a1 < 0)) (some (AV.tup [I 0,I 2],[]))
 (brn (decide (200 < a1)) (some (AV.tup [I 0,I 2],[]))
 (brn (decide (a2 < 0)) (some (AV.tup [I 0,I 2],[]))
 (brn (decide (200 < a2)) (some (AV.tup [I 0,I 2],[]))
 (callD zn3 (cw znP [AV.agg (zak a0),AV.agg (zaa (⟨a1,1⟩))] []) fun (r0:GRatio×Int) =>
 brn (r0.snd != 0) (some (AV.tup [I 0,I r0.snd],[]))
 (callD zm2 (cw zpw [AV.agg (zaa r0.fst)] []) fun (r1:Int) =>
 some (AV.tup [I (if (if r1 < a2 then r1 else a2) > 0 then if r1 < a2 then r1 else a2 else 0),I 0],[])))))))=some y):cw znG [AV.agg (zak a0),I a1,I a2] []=some y:=
 zaj zyb zT [] rfl (by kernel_rfl) (by kernel_rfl) (by kernel_rfl) (by kernel_rfl) (by kernel_rfl) h
theorem zfs (a0:GRatio) (a1:GRatio) {y:AV×Mem} (h:(
 callD zbc (cw zbk [AV.agg (zaa a0)] []) fun (r0:Bool) =>
 brn (!r0) (some (AV.tup [AV.agg (zak ⟨[]⟩),I 1],[]))
 (callD zbc (cw zbk [AV.agg (zaa a1)] []) fun (r1:Bool) =>
 brn (!r1) (some (AV.tup [AV.agg (zak ⟨[]⟩),I 1],[]))
 (brn (decide (a0.Num≤0)) (some (AV.tup [AV.agg (zak ⟨[]⟩),I 2],[]))
 (callD zii (cw zcO [AV.agg (zaa a0),AV.agg (zaa a1)] []) fun (r2:GRatio×Int) =>
 brn (r2.snd != 0) (some (AV.tup [AV.agg (zak ⟨[]⟩),I r2.snd],[]))
 (callD zcf (cw zcL [I 0] []) fun (r3:GRatio) =>
 callD zcf (cw zcL [I 1] []) fun (r4:GRatio) =>
 some (AV.tup [AV.agg (zak (⟨[⟨⟨r3.Num,r3.Den⟩,⟨a1.Num,a1.Den⟩⟩,⟨⟨r4.Num,r4.Den⟩,⟨r2.fst.Num,r2.fst.Den⟩⟩]⟩)),I 0],[]))))))=some y):cw ziM [AV.agg (zaa a0),AV.agg (zaa a1)] []=some y:=
 zaj zvZ zT [] rfl (by kernel_rfl) (by kernel_rfl) (by kernel_rfl) (by kernel_rfl) (by kernel_rfl) h
theorem zk4 (a0:GRatio) (a1:GRatio) {y:AV×Mem} (h:(
 callD zbl (cw zbm [AV.agg (zaa a0)] []) fun (r0:Bool) =>
 brn (!r0) (some (AV.tup [AV.agg (zak ⟨[]⟩),I 1],[]))
 (callD zbl (cw zbm [AV.agg (zaa a1)] []) fun (r1:Bool) =>
 brn (!r1) (some (AV.tup [AV.agg (zak ⟨[]⟩),I 1],[]))
 (brn (decide (a0.Num≤0)) (some (AV.tup [AV.agg (zak ⟨[]⟩),I 2],[]))
 (callD zd5 (cw zeB [AV.agg (zaa a1),AV.agg (zaa a0)] []) fun (r2:GRatio×Int) =>
 brn (r2.snd != 0) (some (AV.tup [AV.agg (zak ⟨[]⟩),I r2.snd],[]))
 (some (AV.tup [AV.agg (zak (⟨[⟨⟨0,1⟩,⟨a1.Num,a1.Den⟩⟩,⟨⟨1,1⟩,⟨r2.fst.Num,r2.fst.Den⟩⟩]⟩)),I 0],[]))))))=some y):cw zqJ [AV.agg (zaa a0),AV.agg (zaa a1)] []=some y:=
 zaj zBg zT [] rfl (by kernel_rfl) (by kernel_rfl) (by kernel_rfl) (by kernel_rfl) (by kernel_rfl) h
theorem zA1 {y:AV×Mem} (h:(
 callD zc2 (cw zc1 [AV.agg (zab (⟨[1,1]⟩)),AV.agg (zab (⟨[1,1,1,1]⟩))] []) fun (r0:GCurve×Int) =>
 callD zhK (cw zj4 [I 0] []) fun (r1:GRatio) =>
 callD zeo (cw zdu [AV.agg (zak r0.fst),AV.agg (zaa r1)] []) fun (r2:GRatio×Int) =>
 callD ze5 (cw ze6 [AV.agg (zab (⟨[1,1]⟩)),AV.agg (zab (⟨[1,1,1,1]⟩))] []) fun (r3:GCurve×Int) =>
 callD zhK (cw zj4 [I 5] []) fun (r4:GRatio) =>
 callD zeo (cw zdu [AV.agg (zak r3.fst),AV.agg (zaa r4)] []) fun (r5:GRatio×Int) =>
 brn (r0.snd == 0) (brn (r2.snd == 0) (brn (r3.snd == 0) (brn (r5.snd == 0) (brn (r2.fst.Num == 1 && (r2.fst.Den == 2 && true)) (callD zhK (cw zj4 [I 6] []) fun (r6:GRatio) =>
 some (B (r5.fst.Num == r6.Num && (r5.fst.Den == r6.Den && true)),[]))
 (some (B false,[])))
 (some (B false,[])))
 (some (B false,[])))
 (some (B false,[])))
 (some (B false,[])))=some y):cw ziW [] []=some y:=
 zaj zBb zT [] rfl (by kernel_rfl) (by kernel_rfl) (by kernel_rfl) (by kernel_rfl) (by kernel_rfl) h
noncomputable def zdi (x1:List (List AV)) (x2:GmarkDice) (x3:Int) (x4:Int):Option (AV×Mem):=pt zlb 1 ⟨[(0,AV.loc 1000 2 0 0),(6,AV.loc 6 1 0 0),(7,AV.loc 7 1 0 0),(8,I x3),(9,I x4)],[(6,⟨1,zan,[[AV.v (.slice none 0 0)]],true⟩),(7,⟨1,zan,[[AV.row 900 1 0 (List.length x1)]],true⟩),(900,⟨1,zaJ,x1,false⟩),(1000,⟨2,zaq,[zaR x2],true⟩)]⟩
theorem zj6 (x1:List (List AV)) (x2:GmarkDice) (x3:Int) (x4:Int) {y:AV×Mem} (h:(
 brn (decide (0 < x4)) (callD zju (cw znj [AV.loc 1000 2 0 0,AV.sl 1 (List.map zai ([0,1,2,5,0]))] [(1000,⟨2,zaq,[zaR x2],true⟩)]) fun (r6:Int×GmarkDice) =>
 chk (x1.length=x1.length)<|
 chk ((x1.length+1)*(8+1)≤1099511627776)<|
 zdi (x1++([zai (w64 (x3+r6.fst))])) r6.snd x3 (w64 (x4 - 1)))
 (chk (0+x1.length≤x1.length)<|
 some (AV.agg [AV.sl 1 (List.take x1.length x1)],[(1000,⟨2,zaq,[zaR x2],true⟩)])))=some y):zdi x1 x2 x3 x4=some y:=
 pt_of zT [] (by kernel_rfl) h
theorem zk8 (a0:GmarkDice) (a1:Int) (a2:Bool) {y:AV×Mem} (h:(
 brn a2 (callD zbH (cw zbZ [AV.loc 1000 2 0 0,I (w64 (a1+1))] [(1000,⟨2,zaq,[zaR a0],true⟩)]) fun (r0:Int×GmarkDice) =>
 zdi [] r0.snd 1 (w64 (1+r0.fst)))
 (callD zbH (cw zbZ [AV.loc 1000 2 0 0,I (w64 (a1+1))] [(1000,⟨2,zaq,[zaR a0],true⟩)]) fun (r5:Int×GmarkDice) =>
 zdi [] r5.snd 0 (w64 (1+r5.fst))))=some y):cw zdX [AV.loc 1000 2 0 0,I a1,B a2] [(1000,⟨2,zaq,[zaR a0],true⟩)]=some y:=
 zaj zlb zT [] rfl (by kernel_rfl) (by kernel_rfl) (by kernel_rfl) (by kernel_rfl) (by kernel_rfl) h
theorem ziu (a0:Int) (a1:GDistribution) (a2:GDistribution) {y:AV×Mem} (h:(
 brn (a0 == 0) (callD ze5 (cw ze6 [AV.agg (zab a1),AV.agg (zab a2)] []) fun (r0:GCurve×Int) =>
 some (AV.tup [AV.agg (zak r0.fst),I r0.snd],[]))
 (brn (a0 == 1) (callD zgu (cw ziA [AV.agg (zab a1),AV.agg (zab a2)] []) fun (r1:GCurve×Int) =>
 some (AV.tup [AV.agg (zak r1.fst),I r1.snd],[]))
 (brn (a0 == 2) (callD zc2 (cw zc1 [AV.agg (zab a1),AV.agg (zab a2)] []) fun (r2:GCurve×Int) =>
 some (AV.tup [AV.agg (zak r2.fst),I r2.snd],[]))
 (some (AV.tup [AV.agg (zak ⟨[]⟩),I 2],[])))))=some y):cw zgA [I a0,AV.agg (zab a1),AV.agg (zab a2)] []=some y:=
 zaj zvA zT [] rfl (by kernel_rfl) (by kernel_rfl) (by kernel_rfl) (by kernel_rfl) (by kernel_rfl) h
theorem zm9 (a0:GDistribution) (a1:GDistribution) (a2:GDistribution) (a3:GDistribution) (a4:Int) {y:AV×Mem} (h:(
 callD zfr (cw zgA [I a4,AV.agg (zab a0),AV.agg (zab a1)] []) fun (r0:GCurve×Int) =>
 brn (r0.snd != 0) (some (AV.tup [AV.agg (zak ⟨[]⟩),I r0.snd],[]))
 (callD zfr (cw zgA [I a4,AV.agg (zab a2),AV.agg (zab a3)] []) fun (r1:GCurve×Int) =>
 brn (r1.snd != 0) (some (AV.tup [AV.agg (zak ⟨[]⟩),I r1.snd],[]))
 (callD zgM (cw zjv [AV.agg (zak r0.fst),AV.agg (zak r1.fst)] []) fun (r2:GCurve×Int) =>
 some (AV.tup [AV.agg (zak r2.fst),I r2.snd],[]))))=some y):cw znf [AV.agg (zab a0),AV.agg (zab a1),AV.agg (zab a2),AV.agg (zab a3),I a4] []=some y:=
 zaj zwT zT [] rfl (by kernel_rfl) (by kernel_rfl) (by kernel_rfl) (by kernel_rfl) (by kernel_rfl) h
theorem zzS (a0:Int) {y:AV×Mem} (h:(
 some (AV.agg (zaa (⟨a0,1⟩)),[]))=some y):cw zj4 [I a0] []=some y:=
 zaj zzz zT [] rfl (by kernel_rfl) (by kernel_rfl) (by kernel_rfl) (by kernel_rfl) (by kernel_rfl) h
theorem zBI (a0:GRatio) (a1:GRatio) {y:AV×Mem} (h:(
 callD zkJ (cw zoc [AV.agg (zaa a0),AV.agg (zaa a1)] []) fun (r0:Int) =>
 some (B (decide (r0 < 0)),[]))=some y):cw zfo [AV.agg (zaa a0),AV.agg (zaa a1)] []=some y:=
 zaj zBt zT [] rfl (by kernel_rfl) (by kernel_rfl) (by kernel_rfl) (by kernel_rfl) (by kernel_rfl) h
end Go.Proofs.YtbhkcgaanaelfaaGreat
