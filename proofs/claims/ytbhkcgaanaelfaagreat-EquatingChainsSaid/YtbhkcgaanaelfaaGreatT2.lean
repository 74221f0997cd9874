/- What the functions compute, between two cut points: printed by a program, checked by the kernel. -/
import Derived.Test.YtbhkcgaanaelfaaGreatAnn
namespace Go.Proofs.YtbhkcgaanaelfaaGreat
open Go.Ab
set_option maxRecDepth 100000
set_option linter.unusedVariables false
theorem zqm (a0:GCurve) {y:AV×Mem} (h:(
 callD zdw (cw zeb [AV.agg (zao a0)] []) fun (r0:Bool) =>
 brn (!r0) (some (AV.tup [AV.agg (zao ⟨[]⟩),I 1],[]))
 (callD zdS (cw zeR [AV.sl 4 (List.map zak a0.Points)] []) fun (r1:GCurve×Int) =>
 some (AV.tup [AV.agg (zao r1.fst),I r1.snd],[])))=some y):cw zgp [AV.agg (zao a0)] []=some y:=
 zai zqq zT [] rfl (by kernel_rfl) (by kernel_rfl) (by kernel_rfl) (by kernel_rfl) (by kernel_rfl) h
theorem zqW (a0:GCurve) {y:AV×Mem} (h:(
 brn (decide (2≤(↑(List.map zak a0.Points).length:Int))) (brn (decide ((↑(List.map zak a0.Points).length:Int)≤410)) (callD ze9 (cw zj5 [AV.sl 4 (List.map zak a0.Points)] []) fun (r0:Bool) =>
 some (B r0,[]))
 (some (B false,[])))
 (some (B false,[])))=some y):cw zeb [AV.agg (zao a0)] []=some y:=
 zai zqU zT [] rfl (by kernel_rfl) (by kernel_rfl) (by kernel_rfl) (by kernel_rfl) (by kernel_rfl) h
noncomputable def zfa (a0:GCurve) (a1:GCurve) (x2:List (List AV)) (x3:Int):Option (AV×Mem):=pt zfL 1 ⟨[(2,AV.loc 2 1 0 0),(3,AV.loc 3 1 0 0),(4,AV.loc 4 1 0 0),(6,AV.row 6 2 0 (List.length x2)),(30,AV.sl 4 (List.map zak a0.Points)),(31,I ((↑(List.map zak a0.Points).length:Int))),(32,I x3)],[(2,⟨1,zba,[zao a0],true⟩),(3,⟨1,zba,[zao a1],true⟩),(4,⟨1,zba,[[AV.v (.slice none 0 0)]],true⟩),(6,⟨2,zac,x2,false⟩)]⟩
noncomputable def zff (a0:GCurve) (a1:GCurve) (r5:(List GPoint)) (x6:List (List AV)) (x7:Int):Option (AV×Mem):=pt zfL 2 ⟨[(2,AV.loc 2 1 0 0),(3,AV.loc 3 1 0 0),(4,AV.loc 4 1 0 0),(6,AV.row 6 2 0 (List.length x6)),(9,AV.row 44 4 0 (List.length (List.map zak r5))),(46,AV.sl 4 (List.map zak a1.Points)),(47,I ((↑(List.map zak a1.Points).length:Int))),(48,I x7)],[(2,⟨1,zba,[zao a0],true⟩),(3,⟨1,zba,[zao a1],true⟩),(4,⟨1,zba,[[AV.v (.slice none 0 0)]],true⟩),(6,⟨2,zac,x6,false⟩),(44,⟨4,za0,List.map zak r5,false⟩)]⟩
noncomputable def zfd (a0:GCurve) (a1:GCurve) (r11:Nat×(List GRatio)) (x12:List (List AV)) (x13:Int):Option (AV×Mem):=pt zfL 3 ⟨[(2,AV.loc 2 1 0 0),(3,AV.loc 3 1 0 0),(4,AV.loc 4 1 0 0),(14,AV.row 74 4 0 ((List.replicate (↑r11.fst:Int).toNat (I 0 :: I 0 :: I 0 :: I 0 :: List.map AV.v [])).length)),(75,AV.row 6 2 0 r11.fst),(76,I (↑r11.fst:Int)),(77,I x13)],[(2,⟨1,zba,[zao a0],true⟩),(3,⟨1,zba,[zao a1],true⟩),(4,⟨1,zba,[[AV.v (.slice none 0 0)]],true⟩),(6,⟨2,zac,List.map zaa r11.snd,false⟩),(74,⟨4,za0,x12,false⟩)]⟩
theorem zj8 (a0:GCurve) (a1:GCurve) (x2:List (List AV)) (x3:Int) {y:AV×Mem} (h:(
 brn (decide (x3 < (↑(List.map zak a0.Points).length:Int))) (chk ((0:Int)≤x3)<|
 elemD zaB (List.map zak a0.Points) x3.toNat fun (c4:GPoint) =>
 chk (x2.length=x2.length)<|
 chk ((x2.length+1)*(16+1)≤1099511627776)<|
 chk ((x2++[[I c4.X.Num,I c4.X.Den]]).length=(x2++[[I c4.X.Num,I c4.X.Den]]).length)<|
 zfa a0 a1 (x2++([zaa c4.X])) (w64 (x3+1)))
 (callD zfe (cw zgX [AV.sl 4 (List.map zak a0.Points)] []) fun (r5:(List GPoint)) =>
 zff a0 a1 r5 x2 0))=some y):zfa a0 a1 x2 x3=some y:=
 pt_of zT [] (by kernel_rfl) h
theorem zj6 (a0:GCurve) (a1:GCurve) (r5:(List GPoint)) (x6:List (List AV)) (x7:Int) {y:AV×Mem} (h:(
 brn (decide (x7 < (↑(List.map zak a1.Points).length:Int))) (chk ((0:Int)≤x7)<|
 elemD zaB (List.map zak a1.Points) x7.toNat fun (c8:GPoint) =>
 chk (0+(List.map zak r5).length≤(List.map zak r5).length)<|
 callD zbp (cw zbq [AV.sl 4 (List.take ((List.map zak r5).length) (List.map zak r5)),AV.agg (zaa c8.X)] []) fun (r9:GRatio×Int) =>
 brn (r9.snd != 0) (some (AV.tup [AV.agg (zao ⟨[]⟩),I r9.snd],[]))
 (chk (x6.length=x6.length)<|
 chk ((x6.length+1)*(16+1)≤1099511627776)<|
 chk ((x6++[[I r9.fst.Num,I r9.fst.Den]]).length=(x6++[[I r9.fst.Num,I r9.fst.Den]]).length)<|
 zff a0 a1 r5 (x6++([zaa r9.fst])) (w64 (x7+1))))
 (callD zbd (cw zbz [AV.row 1000 2 0 (List.length x6),AV.fn zad []] [(1000,⟨2,zac,x6,false⟩)]) fun (r10:(List GRatio)) =>
 callD zbL (cw zbG [AV.row 1000 2 0 x6.length] [(1000,⟨2,zac,List.map zaa r10,false⟩)]) fun (r11:Nat×(List GRatio)) =>
 chk (((↑r11.fst:Int):Int)=(↑r11.fst:Int))<|
 chk ((0:Int)≤(↑r11.fst:Int))<|
 chk ((↑r11.fst:Int).toNat*(32+1)≤1099511627776)<|
 zfd a0 a1 r11 (List.replicate ((↑r11.fst:Int).toNat) (zak (⟨⟨0,0⟩,⟨0,0⟩⟩))) 0))=some y):zff a0 a1 r5 x6 x7=some y:=
 pt_of zT [] (by kernel_rfl) h
theorem zkq (a0:GCurve) (a1:GCurve) (r11:Nat×(List GRatio)) (x12:List (List AV)) (x13:Int) {y:AV×Mem} (h:(
 brn (decide (x13 < (↑r11.fst:Int))) (chk ((0:Int)≤x13)<|
 chk ((x13:Int) < (↑r11.fst:Int))<|
 elemD zab (List.map zaa r11.snd) (0+x13.toNat) fun (c14:GRatio) =>
 callD zbp (cw zbq [AV.sl 4 (List.map zak a0.Points),AV.agg (zaa c14)] []) fun (r15:GRatio×Int) =>
 brn (r15.snd != 0) (some (AV.tup [AV.agg (zao ⟨[]⟩),I r15.snd],[]))
 (callD zbp (cw zbq [AV.sl 4 (List.map zak a1.Points),AV.agg (zaa r15.fst)] []) fun (r16:GRatio×Int) =>
 brn (r16.snd != 0) (some (AV.tup [AV.agg (zao ⟨[]⟩),I r16.snd],[]))
 (chk ((0:Int)≤x13)<|
 chk ((x13:Int) < ((↑(List.replicate (↑r11.fst:Int).toNat (I 0 :: I 0 :: I 0 :: I 0 :: List.map AV.v [])).length:Int)))<|
 elemD zaB x12 (0+x13.toNat) fun (c17:GPoint) =>
 zfd a0 a1 r11 (List.set x12 (0+x13.toNat) (zak (⟨⟨c14.Num,c14.Den⟩,⟨r16.fst.Num,r16.fst.Den⟩⟩))) (w64 (x13+1)))))
 (chk (0+(List.replicate (↑r11.fst:Int).toNat (I 0 :: I 0 :: I 0 :: I 0 :: List.map AV.v [])).length≤x12.length)<|
 callD zdS (cw zeR [AV.sl 4 (List.take ((List.replicate (↑r11.fst:Int).toNat (I 0 :: I 0 :: I 0 :: I 0 :: List.map AV.v [])).length) x12)] []) fun (r18:GCurve×Int) =>
 chk (0+(List.replicate (↑r11.fst:Int).toNat (I 0 :: I 0 :: I 0 :: I 0 :: List.map AV.v [])).length≤x12.length)<|
 chk (0+(List.replicate (↑r11.fst:Int).toNat (I 0 :: I 0 :: I 0 :: I 0 :: List.map AV.v [])).length≤x12.length)<|
 some (AV.tup [AV.agg (zao r18.fst),I r18.snd],[])))=some y):zfd a0 a1 r11 x12 x13=some y:=
 pt_of zT [] (by kernel_rfl) h
theorem zpi (a0:GCurve) (a1:GCurve) {y:AV×Mem} (h:(
 callD zdw (cw zeb [AV.agg (zao a0)] []) fun (r0:Bool) =>
 brn (!r0) (some (AV.tup [AV.agg (zao ⟨[]⟩),I 1],[]))
 (callD zdw (cw zeb [AV.agg (zao a1)] []) fun (r1:Bool) =>
 brn (!r1) (some (AV.tup [AV.agg (zao ⟨[]⟩),I 1],[]))
 (zfa a0 a1 [] 0)))=some y):cw zhS [AV.agg (zao a0),AV.agg (zao a1)] []=some y:=
 zai zfL zT [] rfl (by kernel_rfl) (by kernel_rfl) (by kernel_rfl) (by kernel_rfl) (by kernel_rfl) h
theorem zhV (a0:GmarkDice) (a1:Int) {y:AV×Mem} (h:(
 brn (decide ((↑(List.map zaj a0.L).length:Int)≤a0.At)) (some (I 0,[(1000,⟨2,zar,[zbu a0],true⟩)]))
 (brn (decide (a1 < 1)) (some (I 0,[(1000,⟨2,zar,[zbu a0],true⟩)]))
 (chk ((0:Int)≤a0.At)<|
 elemD zay (List.map zaj a0.L) a0.At.toNat fun (c0:Int) =>
 chk ((a1:Int)≠0)<|
 brn (decide (Int.tmod c0 a1 < 0)) (some (I (w64 (Int.tmod c0 a1+a1)),[(1000,⟨2,zar,[zbu (⟨a0.L,w64 (a0.At+1)⟩)],true⟩)]))
 (some (I (Int.tmod c0 a1),[(1000,⟨2,zar,[zbu (⟨a0.L,w64 (a0.At+1)⟩)],true⟩)])))))=some y):cw zgh [AV.loc 1000 2 0 0,I a1] [(1000,⟨2,zar,[zbu a0],true⟩)]=some y:=
 zai zsE zT [] rfl (by kernel_rfl) (by kernel_rfl) (by kernel_rfl) (by kernel_rfl) (by kernel_rfl) h
theorem zmL (a0:GCurve) (a1:GRatio) {y:AV×Mem} (h:(
 callD zdw (cw zeb [AV.agg (zao a0)] []) fun (r0:Bool) =>
 brn (!r0) (some (AV.tup [AV.agg (zaa (⟨0,0⟩)),I 1],[]))
 (callD zbc (cw zbi [AV.agg (zaa a1)] []) fun (r1:Bool) =>
 brn (!r1) (some (AV.tup [AV.agg (zaa (⟨0,0⟩)),I 1],[]))
 (callD zbp (cw zbq [AV.sl 4 (List.map zak a0.Points),AV.agg (zaa a1)] []) fun (r2:GRatio×Int) =>
 some (AV.tup [AV.agg (zaa r2.fst),I r2.snd],[]))))=some y):cw zbA [AV.agg (zao a0),AV.agg (zaa a1)] []=some y:=
 zai zrN zT [] rfl (by kernel_rfl) (by kernel_rfl) (by kernel_rfl) (by kernel_rfl) (by kernel_rfl) h
theorem zdO (a0:GRatio) (a1:GRatio) {y:AV×Mem} (h:(
 callD zbc (cw zbi [AV.agg (zaa a0)] []) fun (r0:Bool) =>
 brn (!r0) (some (AV.tup [AV.agg (zao ⟨[]⟩),I 1],[]))
 (callD zbc (cw zbi [AV.agg (zaa a1)] []) fun (r1:Bool) =>
 brn (!r1) (some (AV.tup [AV.agg (zao ⟨[]⟩),I 1],[]))
 (brn (decide (a0.Num≤0)) (some (AV.tup [AV.agg (zao ⟨[]⟩),I 2],[]))
 (callD zgY (cw zcH [AV.agg (zaa a0),AV.agg (zaa a1)] []) fun (r2:GRatio×Int) =>
 brn (r2.snd != 0) (some (AV.tup [AV.agg (zao ⟨[]⟩),I r2.snd],[]))
 (callD zcD (cw zcW [I 0] []) fun (r3:GRatio) =>
 callD zcD (cw zcW [I 1] []) fun (r4:GRatio) =>
 some (AV.tup [AV.agg (zao (⟨[⟨⟨r3.Num,r3.Den⟩,⟨a1.Num,a1.Den⟩⟩,⟨⟨r4.Num,r4.Den⟩,⟨r2.fst.Num,r2.fst.Den⟩⟩]⟩)),I 0],[]))))))=some y):cw zfJ [AV.agg (zaa a0),AV.agg (zaa a1)] []=some y:=
 zai zr0 zT [] rfl (by kernel_rfl) (by kernel_rfl) (by kernel_rfl) (by kernel_rfl) (by kernel_rfl) h
theorem zjn (a0:GRatio) (a1:GRatio) {y:AV×Mem} (h:(
 callD zbQ (cw zbO [AV.agg (zaa a0)] []) fun (r0:Bool) =>
 brn (!r0) (some (AV.tup [AV.agg (zao ⟨[]⟩),I 1],[]))
 (callD zbQ (cw zbO [AV.agg (zaa a1)] []) fun (r1:Bool) =>
 brn (!r1) (some (AV.tup [AV.agg (zao ⟨[]⟩),I 1],[]))
 (brn (decide (a0.Num≤0)) (some (AV.tup [AV.agg (zao ⟨[]⟩),I 2],[]))
 (callD zkl (cw zl3 [AV.agg (zaa a1),AV.agg (zaa a0)] []) fun (r2:GRatio×Int) =>
 brn (r2.snd != 0) (some (AV.tup [AV.agg (zao ⟨[]⟩),I r2.snd],[]))
 (some (AV.tup [AV.agg (zao (⟨[⟨⟨0,1⟩,⟨a1.Num,a1.Den⟩⟩,⟨⟨1,1⟩,⟨r2.fst.Num,r2.fst.Den⟩⟩]⟩)),I 0],[]))))))=some y):cw zns [AV.agg (zaa a0),AV.agg (zaa a1)] []=some y:=
 zai zxP zT [] rfl (by kernel_rfl) (by kernel_rfl) (by kernel_rfl) (by kernel_rfl) (by kernel_rfl) h
theorem zxY {y:AV×Mem} (h:(
 callD zdo (cw zef [AV.agg (zae (⟨[1,1]⟩)),AV.agg (zae (⟨[1,1,1,1]⟩))] []) fun (r0:GCurve×Int) =>
 callD zd0 (cw zeL [I 0] []) fun (r1:GRatio) =>
 callD zbB (cw zbA [AV.agg (zao r0.fst),AV.agg (zaa r1)] []) fun (r2:GRatio×Int) =>
 callD zfy (cw zfq [AV.agg (zae (⟨[1,1]⟩)),AV.agg (zae (⟨[1,1,1,1]⟩))] []) fun (r3:GCurve×Int) =>
 callD zd0 (cw zeL [I 5] []) fun (r4:GRatio) =>
 callD zbB (cw zbA [AV.agg (zao r3.fst),AV.agg (zaa r4)] []) fun (r5:GRatio×Int) =>
 brn (r0.snd == 0) (brn (r2.snd == 0) (brn (r3.snd == 0) (brn (r5.snd == 0) (brn (r2.fst.Num == 1 && (r2.fst.Den == 2 && true)) (callD zd0 (cw zeL [I 6] []) fun (r6:GRatio) =>
 some (B (r5.fst.Num == r6.Num && (r5.fst.Den == r6.Den && true)),[]))
 (some (B false,[])))
 (some (B false,[])))
 (some (B false,[])))
 (some (B false,[])))
 (some (B false,[])))=some y):cw zhp [] []=some y:=
 zai zwH zT [] rfl (by kernel_rfl) (by kernel_rfl) (by kernel_rfl) (by kernel_rfl) (by kernel_rfl) h
noncomputable def zc6 (x1:List (List AV)) (x2:GmarkDice) (x3:Int) (x4:Int):Option (AV×Mem):=pt zjz 1 ⟨[(0,AV.loc 1000 2 0 0),(6,AV.loc 6 1 0 0),(7,AV.loc 7 1 0 0),(8,I x3),(9,I x4)],[(6,⟨1,zaG,[[AV.v (.slice none 0 0)]],true⟩),(7,⟨1,zaG,[[AV.row 900 1 0 (List.length x1)]],true⟩),(900,⟨1,zaF,x1,false⟩),(1000,⟨2,zar,[zbu x2],true⟩)]⟩
theorem zim (x1:List (List AV)) (x2:GmarkDice) (x3:Int) (x4:Int) {y:AV×Mem} (h:(
 brn (decide (0 < x4)) (callD zh5 (cw zkO [AV.loc 1000 2 0 0,AV.sl 1 (List.map zaj ([0,1,2,5,0]))] [(1000,⟨2,zar,[zbu x2],true⟩)]) fun (r6:Int×GmarkDice) =>
 chk (x1.length=x1.length)<|
 chk ((x1.length+1)*(8+1)≤1099511627776)<|
 zc6 (x1++([zaj (w64 (x3+r6.fst))])) r6.snd x3 (w64 (x4 - 1)))
 (chk (0+x1.length≤x1.length)<|
 some (AV.agg [AV.sl 1 (List.take x1.length x1)],[(1000,⟨2,zar,[zbu x2],true⟩)])))=some y):zc6 x1 x2 x3 x4=some y:=
 pt_of zT [] (by kernel_rfl) h
theorem znA (a0:GmarkDice) (a1:Int) (a2:Bool) {y:AV×Mem} (h:(
 brn a2 (callD zeY (cw zgh [AV.loc 1000 2 0 0,I (w64 (a1+1))] [(1000,⟨2,zar,[zbu a0],true⟩)]) fun (r0:Int×GmarkDice) =>
 zc6 [] r0.snd 1 (w64 (1+r0.fst)))
 (callD zeY (cw zgh [AV.loc 1000 2 0 0,I (w64 (a1+1))] [(1000,⟨2,zar,[zbu a0],true⟩)]) fun (r5:Int×GmarkDice) =>
 zc6 [] r5.snd 0 (w64 (1+r5.fst))))=some y):cw zcT [AV.loc 1000 2 0 0,I a1,B a2] [(1000,⟨2,zar,[zbu a0],true⟩)]=some y:=
 zai zjz zT [] rfl (by kernel_rfl) (by kernel_rfl) (by kernel_rfl) (by kernel_rfl) (by kernel_rfl) h
theorem zeG (a0:Int) (a1:GDistribution) (a2:GDistribution) {y:AV×Mem} (h:(
 brn (a0 == 0) (callD zfy (cw zfq [AV.agg (zae a1),AV.agg (zae a2)] []) fun (r0:GCurve×Int) =>
 some (AV.tup [AV.agg (zao r0.fst),I r0.snd],[]))
 (brn (a0 == 1) (callD zhg (cw zeI [AV.agg (zae a1),AV.agg (zae a2)] []) fun (r1:GCurve×Int) =>
 some (AV.tup [AV.agg (zao r1.fst),I r1.snd],[]))
 (brn (a0 == 2) (callD zdo (cw zef [AV.agg (zae a1),AV.agg (zae a2)] []) fun (r2:GCurve×Int) =>
 some (AV.tup [AV.agg (zao r2.fst),I r2.snd],[]))
 (some (AV.tup [AV.agg (zao ⟨[]⟩),I 2],[])))))=some y):cw zbV [I a0,AV.agg (zae a1),AV.agg (zae a2)] []=some y:=
 zai zrL zT [] rfl (by kernel_rfl) (by kernel_rfl) (by kernel_rfl) (by kernel_rfl) (by kernel_rfl) h
theorem zkL (a0:GDistribution) (a1:GDistribution) (a2:GDistribution) (a3:GDistribution) (a4:Int) {y:AV×Mem} (h:(
 callD zcN (cw zbV [I a4,AV.agg (zae a0),AV.agg (zae a1)] []) fun (r0:GCurve×Int) =>
 brn (r0.snd != 0) (some (AV.tup [AV.agg (zao ⟨[]⟩),I r0.snd],[]))
 (callD zcN (cw zbV [I a4,AV.agg (zae a2),AV.agg (zae a3)] []) fun (r1:GCurve×Int) =>
 brn (r1.snd != 0) (some (AV.tup [AV.agg (zao ⟨[]⟩),I r1.snd],[]))
 (callD zfV (cw zhS [AV.agg (zao r0.fst),AV.agg (zao r1.fst)] []) fun (r2:GCurve×Int) =>
 some (AV.tup [AV.agg (zao r2.fst),I r2.snd],[]))))=some y):cw zeX [AV.agg (zae a0),AV.agg (zae a1),AV.agg (zae a2),AV.agg (zae a3),I a4] []=some y:=
 zai zsN zT [] rfl (by kernel_rfl) (by kernel_rfl) (by kernel_rfl) (by kernel_rfl) (by kernel_rfl) h
theorem zwp (a0:Int) {y:AV×Mem} (h:(
 some (AV.agg (zaa (⟨a0,1⟩)),[]))=some y):cw zeL [I a0] []=some y:=
 zai zv5 zT [] rfl (by kernel_rfl) (by kernel_rfl) (by kernel_rfl) (by kernel_rfl) (by kernel_rfl) h
theorem zwE (a0:GRatio) (a1:GRatio) {y:AV×Mem} (h:(
 callD ziV (cw zln [AV.agg (zaa a0),AV.agg (zaa a1)] []) fun (r0:Int) =>
 some (B (decide (r0 < 0)),[]))=some y):cw zlf [AV.agg (zaa a0),AV.agg (zaa a1)] []=some y:=
 zai zwQ zT [] rfl (by kernel_rfl) (by kernel_rfl) (by kernel_rfl) (by kernel_rfl) (by kernel_rfl) h
end Go.Proofs.YtbhkcgaanaelfaaGreat
