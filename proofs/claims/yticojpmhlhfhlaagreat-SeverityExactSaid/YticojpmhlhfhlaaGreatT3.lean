/- What the functions compute, between two cut points: printed by a program, checked by the kernel. -/
import Derived.Test.YticojpmhlhfhlaaGreatAnn
namespace Go.Proofs.YticojpmhlhfhlaaGreat
open Go.Ab
set_option maxRecDepth 100000
set_option linter.unusedVariables false
noncomputable def zcr (a0:List Int) (a1:List Int) (x3:List (List AV)) (x4:List (List AV)) (x5:Int) (x6:Int):Option (AV×Mem):=pt zpA 1 ⟨[(0,AV.sl 1 (List.map zaa a0)),(1,AV.sl 1 (List.map zaa a1)),(4,AV.loc 4 2 0 0),(6,I ((↑(List.map zaa a0).length:Int))),(7,AV.loc 7 1 0 0),(8,AV.loc 8 1 0 0),(9,I x5),(31,I ((↑(List.map zaa a0).length:Int))),(32,I x6)],[(4,⟨2,ze8,[zae (⟨0,0⟩)],true⟩),(7,⟨1,zuz,x3,false⟩),(8,⟨1,zuz,x4,false⟩)]⟩
noncomputable def ziv (a0:List Int) (x3:List (List AV)) (x4:List (List AV)) (x5:Int) (x21:Int) (x22:Int):Option (AV×Mem):=pt zpA 2 ⟨[(4,AV.loc 4 2 0 0),(6,I ((↑(List.map zaa a0).length:Int))),(7,AV.loc 7 1 0 0),(8,AV.loc 8 1 0 0),(9,I x5),(11,I x21),(78,I x22)],[(4,⟨2,ze8,[zae (⟨0,0⟩)],true⟩),(7,⟨1,zuz,x3,false⟩),(8,⟨1,zuz,x4,false⟩)]⟩
theorem zmI (a0:List Int) (a1:List Int) (x3:List (List AV)) (x4:List (List AV)) (x5:Int) (x6:Int) {y:AV×Mem} (h:(
 brn (decide (x6 < (↑(List.map zaa a0).length:Int))) (chk ((0:Int)≤x6)<|
 elemD zag (List.map zaa a0) x6.toNat fun (c7:Int) =>
 callD zdY (cw zfe [I c7] []) fun (r8:Bool) =>
 brn (!r8) (callD za5 (cw za8 [] []) fun (r9:GRatio) =>
 some (AV.tup [AV.agg (zae r9),B false],[]))
 (chk ((0:Int)≤x6)<|
 elemD zag (List.map zaa a1) x6.toNat fun (c10:Int) =>
 callD zdY (cw zfe [I c10] []) fun (r11:Bool) =>
 brn (!r11) (callD za5 (cw za8 [] []) fun (r12:GRatio) =>
 some (AV.tup [AV.agg (zae r12),B false],[]))
 (chk ((0:Int)≤x6)<|
 elemD zag (List.map zaa a0) x6.toNat fun (c13:Int) =>
 chk (0≤c13)<|
 chk ((c13:Int) < (↑41:Int))<|
 elemD zag x3 (0+Int.toNat c13) fun (c14:Int) =>
 chk (0≤c13)<|
 chk ((c13:Int) < (↑41:Int))<|
 elemD zag x3 (0+Int.toNat c13) fun (c15:Int) =>
 chk ((0:Int)≤x6)<|
 elemD zag (List.map zaa a1) x6.toNat fun (c16:Int) =>
 chk (0≤c16)<|
 chk ((c16:Int) < (↑41:Int))<|
 elemD zag x4 (0+Int.toNat c16) fun (c17:Int) =>
 chk (0≤c16)<|
 chk ((c16:Int) < (↑41:Int))<|
 elemD zag x4 (0+Int.toNat c16) fun (c18:Int) =>
 chk ((0:Int)≤x6)<|
 elemD zag (List.map zaa a0) x6.toNat fun (c19:Int) =>
 chk ((0:Int)≤x6)<|
 elemD zag (List.map zaa a1) x6.toNat fun (c20:Int) =>
 brn (c19 == c20) (zcr a0 a1 (List.set x3 (0+Int.toNat c13) (zaa (w64 (c14+1)))) (List.set x4 (0+Int.toNat c16) (zaa (w64 (c17+1)))) (w64 (x5+1)) (w64 (x6+1)))
 (zcr a0 a1 (List.set x3 (0+Int.toNat c13) (zaa (w64 (c14+1)))) (List.set x4 (0+Int.toNat c16) (zaa (w64 (c17+1)))) x5 (w64 (x6+1))))))
 (ziv a0 x3 x4 x5 0 0))=some y):zcr a0 a1 x3 x4 x5 x6=some y:=
 pt_of zT [] (by kernel_rfl) h
theorem zsL (a0:List Int) (x3:List (List AV)) (x4:List (List AV)) (x5:Int) (x21:Int) (x22:Int) {y:AV×Mem} (h:(
 brn (decide (x22 < 41)) (chk ((0:Int)≤x22)<|
 chk ((x22:Int) < (↑41:Int))<|
 elemD zag x3 (0+x22.toNat) fun (c23:Int) =>
 chk ((0:Int)≤x22)<|
 chk ((x22:Int) < (↑41:Int))<|
 elemD zag x4 (0+x22.toNat) fun (c24:Int) =>
 ziv a0 x3 x4 x5 (w64 (x21+w64 (c23*c24))) (w64 (x22+1)))
 (brn (x21 == w64 ((↑(List.map zaa a0).length:Int)*(↑(List.map zaa a0).length:Int))) (callD za5 (cw za8 [] []) fun (r25:GRatio) =>
 some (AV.tup [AV.agg (zae r25),B false],[]))
 (callD zeQ (cw zhl [I (w64 (w64 (x5*(↑(List.map zaa a0).length:Int)) - x21)),I (w64 (w64 ((↑(List.map zaa a0).length:Int)*(↑(List.map zaa a0).length:Int)) - x21))] []) fun (r26:GRatio×Int) =>
 brn (r26.snd != 0) (callD za5 (cw za8 [] []) fun (r27:GRatio) =>
 some (AV.tup [AV.agg (zae r27),B false],[]))
 (some (AV.tup [AV.agg (zae r26.fst),B true],[])))))=some y):ziv a0 x3 x4 x5 x21 x22=some y:=
 pt_of zT [] (by kernel_rfl) h
theorem zC4 (a0:List Int) (a1:List Int) {y:AV×Mem} (h:(
 brn ((↑(List.map zaa a1).length:Int) != (↑(List.map zaa a0).length:Int)) (callD za5 (cw za8 [] []) fun (r0:GRatio) =>
 some (AV.tup [AV.agg (zae r0),B false],[]))
 (brn ((↑(List.map zaa a0).length:Int) == 0) (callD za5 (cw za8 [] []) fun (r1:GRatio) =>
 some (AV.tup [AV.agg (zae r1),B false],[]))
 (brn (decide (500 < (↑(List.map zaa a0).length:Int))) (callD za5 (cw za8 [] []) fun (r2:GRatio) =>
 some (AV.tup [AV.agg (zae r2),B false],[]))
 (zcr a0 a1 ([zaa 0,zaa 0,zaa 0,zaa 0,zaa 0,zaa 0,zaa 0,zaa 0,zaa 0,zaa 0,zaa 0,zaa 0,zaa 0,zaa 0,zaa 0,zaa 0,zaa 0,zaa 0,zaa 0,zaa 0,zaa 0,zaa 0,zaa 0,zaa 0,zaa 0,zaa 0,zaa 0,zaa 0,zaa 0,zaa 0,zaa 0,zaa 0,zaa 0,zaa 0,zaa 0,zaa 0,zaa 0,zaa 0,zaa 0,zaa 0,zaa 0]) ([zaa 0,zaa 0,zaa 0,zaa 0,zaa 0,zaa 0,zaa 0,zaa 0,zaa 0,zaa 0,zaa 0,zaa 0,zaa 0,zaa 0,zaa 0,zaa 0,zaa 0,zaa 0,zaa 0,zaa 0,zaa 0,zaa 0,zaa 0,zaa 0,zaa 0,zaa 0,zaa 0,zaa 0,zaa 0,zaa 0,zaa 0,zaa 0,zaa 0,zaa 0,zaa 0,zaa 0,zaa 0,zaa 0,zaa 0,zaa 0,zaa 0]) 0 0))))=some y):cw zo8 [AV.sl 1 (List.map zaa a0),AV.sl 1 (List.map zaa a1)] []=some y:=
 zah zpA zT [] rfl (by kernel_rfl) (by kernel_rfl) (by kernel_rfl) (by kernel_rfl) (by kernel_rfl) h
noncomputable def zdB (a0:List Int) (a1:List Int) (x0:List (List AV)) (x1:List (List AV)) (x2:Int) (x3:Int):Option (AV×Mem):=pt ztE 1 ⟨[(0,AV.sl 1 (List.map zaa a0)),(1,AV.sl 1 (List.map zaa a1)),(4,AV.loc 4 2 0 0),(6,AV.loc 6 2 0 0),(7,I ((↑(List.map zaa a0).length:Int))),(8,AV.row 32 1 0 41),(9,AV.row 33 1 0 41),(10,I x2),(11,I x3)],[(4,⟨2,ze8,[zae (⟨0,0⟩)],true⟩),(6,⟨2,ze8,[zae (⟨0,1⟩)],true⟩),(32,⟨1,zaj,x0,false⟩),(33,⟨1,zaj,x1,false⟩)]⟩
noncomputable def zl5 (a0:List Int) (x0:List (List AV)) (x1:List (List AV)) (x2:Int) (x16:Int) (x17:Int):Option (AV×Mem):=pt ztE 2 ⟨[(4,AV.loc 4 2 0 0),(6,AV.loc 6 2 0 0),(7,I ((↑(List.map zaa a0).length:Int))),(8,AV.row 32 1 0 41),(9,AV.row 33 1 0 41),(10,I x2),(12,I x16),(13,I x17)],[(4,⟨2,ze8,[zae (⟨0,0⟩)],true⟩),(6,⟨2,ze8,[zae (⟨0,1⟩)],true⟩),(32,⟨1,zaj,x0,false⟩),(33,⟨1,zaj,x1,false⟩)]⟩
theorem zqW (a0:List Int) (a1:List Int) (x0:List (List AV)) (x1:List (List AV)) (x2:Int) (x3:Int) {y:AV×Mem} (h:(
 brn (decide (x3 < (↑(List.map zaa a0).length:Int))) (chk ((0:Int)≤x3)<|
 elemD zag (List.map zaa a0) x3.toNat fun (c4:Int) =>
 brn (decide (c4 < 0)) (some (AV.tup [AV.agg (zae (⟨0,1⟩)),B false],[]))
 (chk ((0:Int)≤x3)<|
 elemD zag (List.map zaa a0) x3.toNat fun (c5:Int) =>
 brn (decide (40 < c5)) (some (AV.tup [AV.agg (zae (⟨0,1⟩)),B false],[]))
 (chk ((0:Int)≤x3)<|
 elemD zag (List.map zaa a1) x3.toNat fun (c6:Int) =>
 brn (decide (c6 < 0)) (some (AV.tup [AV.agg (zae (⟨0,1⟩)),B false],[]))
 (chk ((0:Int)≤x3)<|
 elemD zag (List.map zaa a1) x3.toNat fun (c7:Int) =>
 brn (decide (40 < c7)) (some (AV.tup [AV.agg (zae (⟨0,1⟩)),B false],[]))
 (chk ((0:Int)≤x3)<|
 elemD zag (List.map zaa a0) x3.toNat fun (c8:Int) =>
 chk (0≤c8)<|
 chk ((c8:Int) < (↑41:Int))<|
 elemD zag x0 (0+Int.toNat c8) fun (c9:Int) =>
 chk (0≤c8)<|
 chk ((c8:Int) < (↑41:Int))<|
 elemD zag x0 (0+Int.toNat c8) fun (c10:Int) =>
 chk ((0:Int)≤x3)<|
 elemD zag (List.map zaa a1) x3.toNat fun (c11:Int) =>
 chk (0≤c11)<|
 chk ((c11:Int) < (↑41:Int))<|
 elemD zag x1 (0+Int.toNat c11) fun (c12:Int) =>
 chk (0≤c11)<|
 chk ((c11:Int) < (↑41:Int))<|
 elemD zag x1 (0+Int.toNat c11) fun (c13:Int) =>
 chk ((0:Int)≤x3)<|
 elemD zag (List.map zaa a0) x3.toNat fun (c14:Int) =>
 chk ((0:Int)≤x3)<|
 elemD zag (List.map zaa a1) x3.toNat fun (c15:Int) =>
 brn (c14 == c15) (zdB a0 a1 (List.set x0 (0+Int.toNat c8) (zaa (w64 (c9+1)))) (List.set x1 (0+Int.toNat c11) (zaa (w64 (c12+1)))) (w64 (x2+1)) (w64 (x3+1)))
 (zdB a0 a1 (List.set x0 (0+Int.toNat c8) (zaa (w64 (c9+1)))) (List.set x1 (0+Int.toNat c11) (zaa (w64 (c12+1)))) x2 (w64 (x3+1))))))))
 (zl5 a0 x0 x1 x2 0 0))=some y):zdB a0 a1 x0 x1 x2 x3=some y:=
 pt_of zT [] (by kernel_rfl) h
theorem zv4 (a0:List Int) (x0:List (List AV)) (x1:List (List AV)) (x2:Int) (x16:Int) (x17:Int) {y:AV×Mem} (h:(
 brn (decide (x17≤40)) (chk ((0:Int)≤x17)<|
 chk ((x17:Int) < (↑41:Int))<|
 elemD zag x0 (0+x17.toNat) fun (c18:Int) =>
 chk ((0:Int)≤x17)<|
 chk ((x17:Int) < (↑41:Int))<|
 elemD zag x1 (0+x17.toNat) fun (c19:Int) =>
 zl5 a0 x0 x1 x2 (w64 (x16+w64 (c18*c19))) (w64 (x17+1)))
 (brn (x16 == w64 ((↑(List.map zaa a0).length:Int)*(↑(List.map zaa a0).length:Int))) (some (AV.tup [AV.agg (zae (⟨0,1⟩)),B false],[]))
 (callD zji (cw zoD [I (w64 (w64 (x2*(↑(List.map zaa a0).length:Int)) - x16)),I (w64 (w64 ((↑(List.map zaa a0).length:Int)*(↑(List.map zaa a0).length:Int)) - x16))] []) fun (r20:GRatio×Int) =>
 some (AV.tup [AV.agg (zae r20.fst),B true],[]))))=some y):zl5 a0 x0 x1 x2 x16 x17=some y:=
 pt_of zT [] (by kernel_rfl) h
theorem zHi (a0:List Int) (a1:List Int) {y:AV×Mem} (h:(
 brn ((↑(List.map zaa a0).length:Int) != (↑(List.map zaa a1).length:Int)) (some (AV.tup [AV.agg (zae (⟨0,1⟩)),B false],[]))
 (brn ((↑(List.map zaa a0).length:Int) == 0) (some (AV.tup [AV.agg (zae (⟨0,1⟩)),B false],[]))
 (brn (decide (500 < (↑(List.map zaa a0).length:Int))) (some (AV.tup [AV.agg (zae (⟨0,1⟩)),B false],[]))
 (chk ((41:Int)=41)<|
 chk ((0:Int)≤41)<|
 chk (Int.toNat 41*(8+1)≤1099511627776)<|
 chk ((41:Int)=41)<|
 chk ((0:Int)≤41)<|
 chk (Int.toNat 41*(8+1)≤1099511627776)<|
 zdB a0 a1 (List.replicate (Int.toNat 41) (zaa 0)) (List.replicate (Int.toNat 41) (zaa 0)) 0 0))))=some y):cw ztx [AV.sl 1 (List.map zaa a0),AV.sl 1 (List.map zaa a1)] []=some y:=
 zah ztE zT [] rfl (by kernel_rfl) (by kernel_rfl) (by kernel_rfl) (by kernel_rfl) (by kernel_rfl) h
noncomputable def zh9 (r0:GPaper×GmarkDice) (r2:GPaper×GmarkDice):Option (AV×Mem):=pt ziU 1004 ⟨[(0,AV.loc 1000 2 0 0),(4,AV.row 4 3 0 (List.length (([[I r0.fst.Code,I r0.fst.Variant,AV.sl 6 (List.map zav r0.fst.Parts)]])++([[I r2.fst.Code,I r2.fst.Variant,AV.sl 6 (List.map zav r2.fst.Parts)]]))))],[(4,⟨3,zbc,([zas r0.fst])++([zas r2.fst]),false⟩),(1000,⟨2,zad,[zal r2.snd],true⟩)]⟩
noncomputable def zhe (r0:GPaper×GmarkDice) (r1:Bool×GmarkDice):Option (AV×Mem):=pt ziU 1004 ⟨[(0,AV.loc 1000 2 0 0),(4,AV.row 4 3 0 (List.length ([[I r0.fst.Code,I r0.fst.Variant,AV.sl 6 (List.map zav r0.fst.Parts)]]))),(11,B false)],[(4,⟨3,zbc,[zas r0.fst],false⟩),(1000,⟨2,zad,[zal r1.snd],true⟩)]⟩
noncomputable def zcw (x5:List (List AV)) (x6:List (List AV)) (x7:GmarkDice) (x8:Int):Option (AV×Mem):=pt ziU 1 ⟨[(0,AV.loc 1000 2 0 0),(4,AV.row 4 3 0 (List.length x5)),(5,AV.row 5 2 0 (List.length x6)),(6,I x8)],[(4,⟨3,zbc,x5,false⟩),(5,⟨2,zbL,x6,false⟩),(1000,⟨2,zad,[zal x7],true⟩)]⟩
theorem znO (r0:GPaper×GmarkDice) (r2:GPaper×GmarkDice) {y:AV×Mem} (h:(
 callD zcz (cw zc8 [AV.loc 1000 2 0 0,I 2] [(1000,⟨2,zad,[zal r2.snd],true⟩)]) fun (r3:Bool×GmarkDice) =>
 brn r3.fst (callD zd2 (cw zdm [AV.loc 1000 2 0 0,I 1,I 0] [(1000,⟨2,zad,[zal r3.snd],true⟩)]) fun (r4:GPaper×GmarkDice) =>
 chk (2=2)<|
 chk ((2+1)*(40+1)≤1099511627776)<|
 chk (3=3)<|
 zcw ((([zas r0.fst])++([zas r2.fst]))++([zas r4.fst])) [] r4.snd 0)
 (zcw (([zas r0.fst])++([zas r2.fst])) [] r3.snd 0))=some y):zh9 r0 r2=some y:=
 pt_of zT [4] (by kernel_rfl) h
theorem zmr (r0:GPaper×GmarkDice) (r1:Bool×GmarkDice) {y:AV×Mem} (h:(
 callD zcz (cw zc8 [AV.loc 1000 2 0 0,I 2] [(1000,⟨2,zad,[zal r1.snd],true⟩)]) fun (r9:Bool×GmarkDice) =>
 brn r9.fst (callD zd2 (cw zdm [AV.loc 1000 2 0 0,I 1,I 0] [(1000,⟨2,zad,[zal r9.snd],true⟩)]) fun (r10:GPaper×GmarkDice) =>
 chk (1=1)<|
 chk ((1+1)*(40+1)≤1099511627776)<|
 chk (2=2)<|
 zcw (([zas r0.fst])++([zas r10.fst])) [] r10.snd 0)
 (zcw ([zas r0.fst]) [] r9.snd 0))=some y):zhe r0 r1=some y:=
 pt_of zT [4] (by kernel_rfl) h
theorem zra (x5:List (List AV)) (x6:List (List AV)) (x7:GmarkDice) (x8:Int) {y:AV×Mem} (h:(
 brn (decide (x8 < (↑x5.length:Int))) (chk ((0:Int)≤x8)<|
 chk ((x8:Int) < (↑x5.length:Int))<|
 elemD zbj x5 (0+x8.toNat) fun (c11:GPaper) =>
 callD ziq (cw zmQ [AV.loc 1000 2 0 0,AV.agg (zas c11)] [(1000,⟨2,zad,[zal x7],true⟩)]) fun (r12:GScheme×GmarkDice) =>
 chk (x6.length=x6.length)<|
 chk ((x6.length+1)*(48+1)≤1099511627776)<|
 chk ((x6++[[AV.sl 1 (List.map zbB r12.fst.Keys),AV.sl 1 (List.map zaa r12.fst.Withdrawn)]]).length=(x6++[[AV.sl 1 (List.map zbB r12.fst.Keys),AV.sl 1 (List.map zaa r12.fst.Withdrawn)]]).length)<|
 zcw x5 (x6++([zaW r12.fst])) r12.snd (w64 (x8+1)))
 (chk (0+x5.length≤x5.length)<|
 chk (0+x6.length≤x6.length)<|
 some (AV.tup [AV.sl 3 (List.take x5.length x5),AV.sl 2 (List.take x6.length x6)],[(1000,⟨2,zad,[zal x7],true⟩)])))=some y):zcw x5 x6 x7 x8=some y:=
 pt_of zT [4] (by kernel_rfl) h
theorem zs6 (a0:GmarkDice) {y:AV×Mem} (h:(
 callD zd2 (cw zdm [AV.loc 1000 2 0 0,I 0,I 0] [(1000,⟨2,zad,[zal a0],true⟩)]) fun (r0:GPaper×GmarkDice) =>
 chk (1=1)<|
 callD zcz (cw zc8 [AV.loc 1000 2 0 0,I 2] [(1000,⟨2,zad,[zal r0.snd],true⟩)]) fun (r1:Bool×GmarkDice) =>
 brn r1.fst (callD zd2 (cw zdm [AV.loc 1000 2 0 0,I 0,I 1] [(1000,⟨2,zad,[zal r1.snd],true⟩)]) fun (r2:GPaper×GmarkDice) =>
 chk (1=1)<|
 chk ((1+1)*(40+1)≤1099511627776)<|
 chk (2=2)<|
 zh9 r0 r2)
 (zhe r0 r1))=some y):cw zf8 [AV.loc 1000 2 0 0] [(1000,⟨2,zad,[zal a0],true⟩)]=some y:=
 zah ziU zT [4] rfl (by kernel_rfl) (by kernel_rfl) (by kernel_rfl) (by kernel_rfl) (by kernel_rfl) h
noncomputable def zgx (x1:List (List AV)) (x2:GmarkDice) (x3:Int) (x4:Int):Option (AV×Mem):=pt zrQ 1 ⟨[(0,AV.loc 1000 2 0 0),(3,AV.row 3 5 0 (List.length x1)),(4,I x3),(5,I x4)],[(3,⟨5,zcM,x1,false⟩),(1000,⟨2,zad,[zal x2],true⟩)]⟩
theorem zp2 (x1:List (List AV)) (x2:GmarkDice) (x3:Int) (x4:Int) {y:AV×Mem} (h:(
 brn (decide (0 < x4)) (callD zaA (cw zaB [AV.loc 1000 2 0 0,I 3] [(1000,⟨2,zad,[zal x2],true⟩)]) fun (r5:Int×GmarkDice) =>
 callD zdI (cw zeu [AV.loc 1000 2 0 0,AV.sl 1 (List.map zaa ([-1,-1,1,2,3]))] [(1000,⟨2,zad,[zal r5.snd],true⟩)]) fun (r6:Int×GmarkDice) =>
 callD zdI (cw zeu [AV.loc 1000 2 0 0,AV.sl 1 (List.map zaa ([1,1,1,2,3]))] [(1000,⟨2,zad,[zal r6.snd],true⟩)]) fun (r7:Int×GmarkDice) =>
 callD zdI (cw zeu [AV.loc 1000 2 0 0,AV.sl 1 (List.map zaa ([3,2,6,0,1]))] [(1000,⟨2,zad,[zal r7.snd],true⟩)]) fun (r8:Int×GmarkDice) =>
 callD zaA (cw zaB [AV.loc 1000 2 0 0,I 4] [(1000,⟨2,zad,[zal r8.snd],true⟩)]) fun (r9:Int×GmarkDice) =>
 chk (0≤r9.fst)<|
 elemD zdH ([zbB ([0,1]),zbB [0],zbB [1],zbB ([0,1])]) (Int.toNat r9.fst) fun (c10:List Int) =>
 chk (x1.length=x1.length)<|
 chk ((x1.length+1)*(56+1)≤1099511627776)<|
 chk ((x1++[[I (w64 (x3+w64 (1+r5.fst))),I r6.fst,I r7.fst,I r8.fst,AV.sl 1 (List.map zaa c10)]]).length=(x1++[[I (w64 (x3+w64 (1+r5.fst))),I r6.fst,I r7.fst,I r8.fst,AV.sl 1 (List.map zaa c10)]]).length)<|
 zgx (x1++([zaO (⟨w64 (x3+w64 (1+r5.fst)),r6.fst,r7.fst,r8.fst,c10⟩)])) r9.snd (w64 (x3+w64 (1+r5.fst))) (w64 (x4 - 1)))
 (chk (x1.length=x1.length)<|
 some (AV.new 5 zcM x1,[(1000,⟨2,zad,[zal x2],true⟩)])))=some y):zgx x1 x2 x3 x4=some y:=
 pt_of zT [] (by kernel_rfl) h
theorem zz2 (a0:GmarkDice) {y:AV×Mem} (h:(
 callD zaA (cw zaB [AV.loc 1000 2 0 0,I 4] [(1000,⟨2,zad,[zal a0],true⟩)]) fun (r0:Int×GmarkDice) =>
 zgx [] r0.snd 0 (w64 (2+r0.fst)))=some y):cw zlW [AV.loc 1000 2 0 0] [(1000,⟨2,zad,[zal a0],true⟩)]=some y:=
 zah zrQ zT [] rfl (by kernel_rfl) (by kernel_rfl) (by kernel_rfl) (by kernel_rfl) (by kernel_rfl) h
noncomputable def zcS (a1:List GPaper) (a2:Int) (x0:List (List AV)) (x1:GmarkDice) (x2:Int):Option (AV×Mem):=pt zh2 1 ⟨[(0,AV.loc 1000 2 0 0),(1,AV.sl 3 (List.map zas a1)),(2,I a2),(7,AV.row 7 7 0 (List.length x0)),(8,I x2)],[(7,⟨7,zbz,x0,false⟩),(1000,⟨2,zad,[zal x1],true⟩)]⟩
noncomputable def zeJ (a1:List GPaper) (a2:Int) (x0:List (List AV)) (x1:GmarkDice) (x2:Int) (x3:List (List AV)) (x4:Int):Option (AV×Mem):=pt zh2 2 ⟨[(0,AV.loc 1000 2 0 0),(1,AV.sl 3 (List.map zas a1)),(2,I a2),(7,AV.row 7 7 0 (List.length x0)),(8,I x2),(9,AV.row 9 3 0 (List.length x3)),(10,I x4)],[(7,⟨7,zbz,x0,false⟩),(9,⟨3,zbc,x3,false⟩),(1000,⟨2,zad,[zal x1],true⟩)]⟩
noncomputable def zeD (a1:List GPaper) (a2:Int) (x2:Int) (x3:List (List AV)) (x7:List (List AV)) (x8:GmarkDice) (x9:Int):Option (AV×Mem):=pt zh2 3 ⟨[(0,AV.loc 1000 2 0 0),(1,AV.sl 3 (List.map zas a1)),(2,I a2),(7,AV.row 7 7 0 (List.length x7)),(8,I x2),(9,AV.row 9 3 0 (List.length x3)),(11,I x9)],[(7,⟨7,zbz,x7,false⟩),(9,⟨3,zbc,x3,false⟩),(1000,⟨2,zad,[zal x8],true⟩)]⟩
theorem zp3 (a1:List GPaper) (a2:Int) (x0:List (List AV)) (x1:GmarkDice) (x2:Int) {y:AV×Mem} (h:(
 brn (decide (x2 < 2)) (zeJ a1 a2 x0 x1 x2 [] 0)
 (chk (x0.length=x0.length)<|
 some (AV.new 7 zbz x0,[(1000,⟨2,zad,[zal x1],true⟩)])))=some y):zcS a1 a2 x0 x1 x2=some y:=
 pt_of zT [] (by kernel_rfl) h
theorem zkc (a1:List GPaper) (a2:Int) (x0:List (List AV)) (x1:GmarkDice) (x2:Int) (x3:List (List AV)) (x4:Int) {y:AV×Mem} (h:(
 brn (decide (x4 < (↑(List.map zas a1).length:Int))) (chk ((0:Int)≤x4)<|
 elemD zbj (List.map zas a1) x4.toNat fun (c5:GPaper) =>
 brn (c5.Code == x2) (chk ((0:Int)≤x4)<|
 elemD zbj (List.map zas a1) x4.toNat fun (c6:GPaper) =>
 chk (x3.length=x3.length)<|
 chk ((x3.length+1)*(40+1)≤1099511627776)<|
 chk ((x3++[[I c6.Code,I c6.Variant,AV.sl 6 (List.map zav c6.Parts)]]).length=(x3++[[I c6.Code,I c6.Variant,AV.sl 6 (List.map zav c6.Parts)]]).length)<|
 zeJ a1 a2 x0 x1 x2 (x3++([zas c6])) (w64 (x4+1)))
 (zeJ a1 a2 x0 x1 x2 x3 (w64 (x4+1))))
 (zeD a1 a2 x2 x3 x0 x1 1))=some y):zeJ a1 a2 x0 x1 x2 x3 x4=some y:=
 pt_of zT [] (by kernel_rfl) h
theorem zgh (a1:List GPaper) (a2:Int) (x2:Int) (x3:List (List AV)) (x7:List (List AV)) (x8:GmarkDice) (x9:Int) {y:AV×Mem} (h:(
 brn (decide (x9≤a2)) (brn (decide (0 < (↑x3.length:Int))) (callD zaA (cw zaB [AV.loc 1000 2 0 0,I 5] [(1000,⟨2,zad,[zal x8],true⟩)]) fun (r10:Int×GmarkDice) =>
 brn (decide (0 < r10.fst)) (callD zaA (cw zaB [AV.loc 1000 2 0 0,I (↑x3.length:Int)] [(1000,⟨2,zad,[zal r10.snd],true⟩)]) fun (r11:Int×GmarkDice) =>
 chk (0≤r11.fst)<|
 chk ((r11.fst:Int) < (↑x3.length:Int))<|
 elemD zbj x3 (0+Int.toNat r11.fst) fun (c12:GPaper) =>
 callD zis (cw zmP [AV.loc 1000 2 0 0,AV.agg (zas c12),I x9] [(1000,⟨2,zad,[zal r11.snd],true⟩)]) fun (r13:GScript×GmarkDice) =>
 chk (x7.length=x7.length)<|
 chk ((x7.length+1)*(88+1)≤1099511627776)<|
 chk ((x7++[[I r13.fst.Number,I r13.fst.Paper,I r13.fst.Candidate,I r13.fst.Centre,I r13.fst.Variant,AV.sl 1 (List.map zaa r13.fst.Pages),AV.sl 1 (List.map zaa r13.fst.Answers)]]).length=(x7++[[I r13.fst.Number,I r13.fst.Paper,I r13.fst.Candidate,I r13.fst.Centre,I r13.fst.Variant,AV.sl 1 (List.map zaa r13.fst.Pages),AV.sl 1 (List.map zaa r13.fst.Answers)]]).length)<|
 zeD a1 a2 x2 x3 (x7++([zaw r13.fst])) r13.snd (w64 (x9+1)))
 (zeD a1 a2 x2 x3 x7 r10.snd (w64 (x9+1))))
 (zcS a1 a2 x7 x8 (w64 (x2+1))))
 (zcS a1 a2 x7 x8 (w64 (x2+1))))=some y):zeD a1 a2 x2 x3 x7 x8 x9=some y:=
 pt_of zT [] (by kernel_rfl) h
theorem zzM (a0:GmarkDice) (a1:List GPaper) (a2:Int) {y:AV×Mem} (h:(
 zcS a1 a2 [] a0 0)=some y):cw zlP [AV.loc 1000 2 0 0,AV.sl 3 (List.map zas a1),I a2] [(1000,⟨2,zad,[zal a0],true⟩)]=some y:=
 zah zh2 zT [] rfl (by kernel_rfl) (by kernel_rfl) (by kernel_rfl) (by kernel_rfl) (by kernel_rfl) h
theorem zAb (a0:GmarkDice) {y:AV×Mem} (h:(
 callD zaA (cw zaB [AV.loc 1000 2 0 0,I 3] [(1000,⟨2,zad,[zal a0],true⟩)]) fun (r0:Int×GmarkDice) =>
 callD zaA (cw zaB [AV.loc 1000 2 0 0,I 2] [(1000,⟨2,zad,[zal r0.snd],true⟩)]) fun (r1:Int×GmarkDice) =>
 callD zaA (cw zaB [AV.loc 1000 2 0 0,I 3] [(1000,⟨2,zad,[zal r1.snd],true⟩)]) fun (r2:Int×GmarkDice) =>
 callD zaA (cw zaB [AV.loc 1000 2 0 0,I (w64 (1+r0.fst))] [(1000,⟨2,zad,[zal r2.snd],true⟩)]) fun (r3:Int×GmarkDice) =>
 some (AV.agg (zba (⟨r1.fst,r2.fst,w64 (1+r0.fst),w64 (1+r3.fst)⟩)),[(1000,⟨2,zad,[zal r3.snd],true⟩)]))=some y):cw zlR [AV.loc 1000 2 0 0] [(1000,⟨2,zad,[zal a0],true⟩)]=some y:=
 zah zzJ zT [] rfl (by kernel_rfl) (by kernel_rfl) (by kernel_rfl) (by kernel_rfl) (by kernel_rfl) h
theorem zEb (a0:GmarkDice) (a1:Int) {y:AV×Mem} (h:(
 callD zaA (cw zaB [AV.loc 1000 2 0 0,I a1] [(1000,⟨2,zad,[zal a0],true⟩)]) fun (r0:Int×GmarkDice) =>
 some (B (r0.fst == w64 (a1 - 1)),[(1000,⟨2,zad,[zal r0.snd],true⟩)]))=some y):cw zc8 [AV.loc 1000 2 0 0,I a1] [(1000,⟨2,zad,[zal a0],true⟩)]=some y:=
 zah zD6 zT [] rfl (by kernel_rfl) (by kernel_rfl) (by kernel_rfl) (by kernel_rfl) (by kernel_rfl) h
noncomputable def ziR (a2:GScript) (r0:GPaper) (x1:List (List AV)) (x2:GmarkDice) (x3:Int):Option (AV×Mem):=pt zvg 1 ⟨[(0,AV.loc 1000 2 0 0),(6,AV.loc 6 2 0 0),(7,AV.loc 7 2 0 0),(8,AV.loc 8 3 0 0),(9,I x3)],[(6,⟨2,zsp,[[I 0,AV.v (.slice none 0 0)]],true⟩),(7,⟨2,zsp,[[I a2.Number,AV.row 900 1 0 (List.length x1)]],true⟩),(8,⟨3,zbc,[zas r0],true⟩),(900,⟨1,zaj,x1,false⟩),(1000,⟨2,zad,[zal x2],true⟩)]⟩
theorem zsH (a2:GScript) (r0:GPaper) (x1:List (List AV)) (x2:GmarkDice) (x3:Int) {y:AV×Mem} (h:(
 brn (decide (x3 < (↑(List.map zav r0.Parts).length:Int))) (chk ((0:Int)≤x3)<|
 elemD zce (List.map zav r0.Parts) x3.toNat fun (c4:GPart) =>
 callD zaA (cw zaB [AV.loc 1000 2 0 0,I (w64 (c4.Max+1))] [(1000,⟨2,zad,[zal x2],true⟩)]) fun (r5:Int×GmarkDice) =>
 chk (x1.length=x1.length)<|
 chk ((x1.length+1)*(8+1)≤1099511627776)<|
 ziR a2 r0 (x1++([zaa r5.fst])) r5.snd (w64 (x3+1)))
 (chk (0+x1.length≤x1.length)<|
 some (AV.agg [I a2.Number,AV.sl 1 (List.take x1.length x1)],[(1000,⟨2,zad,[zal x2],true⟩)])))=some y):ziR a2 r0 x1 x2 x3=some y:=
 pt_of zT [] (by kernel_rfl) h
theorem zDs (a0:GmarkDice) (a1:List GPaper) (a2:GScript) {y:AV×Mem} (h:(
 callD zj9 (cw zm2 [AV.sl 3 (List.map zas a1),AV.agg (zaw a2)] []) fun (r0:GPaper) =>
 ziR a2 r0 [] a0 0)=some y):cw zpg [AV.loc 1000 2 0 0,AV.sl 3 (List.map zas a1),AV.agg (zaw a2)] [(1000,⟨2,zad,[zal a0],true⟩)]=some y:=
 zah zvg zT [] rfl (by kernel_rfl) (by kernel_rfl) (by kernel_rfl) (by kernel_rfl) (by kernel_rfl) h
noncomputable def ziN (a0:GSetup) (x3:Int):Option (AV×Mem):=pt zo7 1 ⟨[(1,AV.loc 1 9 0 0),(3,I x3)],[(1,⟨9,zaE,[zat a0],true⟩)]⟩
noncomputable def ziC (a0:GSetup) (x7:Int):Option (AV×Mem):=pt zo7 2 ⟨[(1,AV.loc 1 9 0 0),(4,I x7)],[(1,⟨9,zaE,[zat a0],true⟩)]⟩
noncomputable def zgA (a0:GSetup) (x14:Int):Option (AV×Mem):=pt zo7 3 ⟨[(1,AV.loc 1 9 0 0),(9,I x14)],[(1,⟨9,zaE,[zat a0],true⟩)]⟩
theorem zvT (a0:GSetup) (x3:Int) {y:AV×Mem} (h:(
 brn (decide (x3 < (↑(List.map zas a0.Papers).length:Int))) (chk ((0:Int)≤x3)<|
 elemD zbj (List.map zas a0.Papers) x3.toNat fun (c4:GPaper) =>
 chk ((0:Int)≤x3)<|
 elemD zcg (List.map zaW a0.Schemes) x3.toNat fun (c5:GScheme) =>
 callD zgC (cw zie [AV.agg (zas c4),AV.agg (zaW c5)] []) fun (r6:Bool) =>
 brn (!r6) (some (I 1,[]))
 (ziN a0 (w64 (x3+1))))
 (ziC a0 0))=some y):ziN a0 x3=some y:=
 pt_of zT [] (by kernel_rfl) h
theorem zvY (a0:GSetup) (x7:Int) {y:AV×Mem} (h:(
 brn (decide (x7 < (↑(List.map zaw a0.Scripts).length:Int))) (chk ((0:Int)≤x7)<|
 elemD zbb (List.map zaw a0.Scripts) x7.toNat fun (c8:GScript) =>
 callD zih (cw zlA [AV.sl 3 (List.map zas a0.Papers),AV.agg (zaw c8)] []) fun (r9:Int×Bool) =>
 brn (!r9.snd) (some (I 1,[]))
 (chk (0≤r9.fst)<|
 elemD zbj (List.map zas a0.Papers) (Int.toNat r9.fst) fun (c10:GPaper) =>
 chk (0≤r9.fst)<|
 elemD zcg (List.map zaW a0.Schemes) (Int.toNat r9.fst) fun (c11:GScheme) =>
 chk ((0:Int)≤x7)<|
 elemD zbb (List.map zaw a0.Scripts) x7.toNat fun (c12:GScript) =>
 callD zjS (cw zjW [AV.agg (zas c10),AV.agg (zaW c11),AV.sl 1 (List.map zaa c12.Answers)] []) fun (r13:(List Int)×Int) =>
 brn (r13.snd != 0) (some (I 1,[]))
 (ziC a0 (w64 (x7+1)))))
 (zgA a0 0))=some y):ziC a0 x7=some y:=
 pt_of zT [] (by kernel_rfl) h
theorem zwl (a0:GSetup) (x14:Int) {y:AV×Mem} (h:(
 brn (decide (x14 < (↑(List.map zbT a0.Seeds).length:Int))) (chk ((0:Int)≤x14)<|
 elemD zeH (List.map zbT a0.Seeds) x14.toNat fun (c15:GSeed) =>
 callD zgo (cw ziP [AV.agg (zat a0),I c15.Script] []) fun (r16:Int×Bool) =>
 brn (!r16.snd) (some (I 1,[]))
 (chk (0≤r16.fst)<|
 elemD zbj (List.map zas a0.Papers) (Int.toNat r16.fst) fun (c17:GPaper) =>
 chk ((0:Int)≤x14)<|
 elemD zeH (List.map zbT a0.Seeds) x14.toNat fun (c18:GSeed) =>
 callD zqp (cw zvw [AV.agg (zas c17),AV.sl 1 (List.map zaa c18.Marks)] []) fun (r19:Bool) =>
 brn (!r19) (some (I 1,[]))
 (brn (decide (0 < x14)) (chk ((0:Int)≤x14)<|
 elemD zeH (List.map zbT a0.Seeds) x14.toNat fun (c20:GSeed) =>
 chk ((0:Int)≤(w64 (x14 - 1)))<|
 elemD zeH (List.map zbT a0.Seeds) ((w64 (x14 - 1)).toNat) fun (c21:GSeed) =>
 brn (decide (c20.Script≤c21.Script)) (some (I 1,[]))
 (zgA a0 (w64 (x14+1))))
 (zgA a0 (w64 (x14+1))))))
 (some (I 0,[])))=some y):zgA a0 x14=some y:=
 pt_of zT [] (by kernel_rfl) h
theorem zHu (a0:GSetup) {y:AV×Mem} (h:(
 callD zoY (cw ztp [AV.sl 5 (List.map zaO a0.Markers)] []) fun (r0:Int) =>
 brn (r0 != 0) (some (I 1,[]))
 (callD zg6 (cw zkw [AV.sl 7 (List.map zaw a0.Scripts)] []) fun (r1:Int) =>
 brn (r1 != 0) (some (I 1,[]))
 (brn ((↑(List.map zaW a0.Schemes).length:Int) != (↑(List.map zas a0.Papers).length:Int)) (some (I 1,[]))
 (brn (decide (32 < (↑(List.map zas a0.Papers).length:Int))) (some (I 1,[]))
 (brn (decide (12 < (↑(List.map zbT a0.Seeds).length:Int))) (some (I 1,[]))
 (callD zic (cw zlr [AV.agg (zba a0.Monitor)] []) fun (r2:Int) =>
 brn (r2 != 0) (some (I 1,[]))
 (ziN a0 0)))))))=some y):cw zlx [AV.agg (zat a0)] []=some y:=
 zah zo7 zT [] rfl (by kernel_rfl) (by kernel_rfl) (by kernel_rfl) (by kernel_rfl) (by kernel_rfl) h
noncomputable def zcH (a0:List GMarkEvent) (r0:(List ((Int×Int)×Int))×(List ((Int×Int)×Bool))) (x1:List (List AV)) (x2:Int):Option (AV×Mem):=pt zt6 1 ⟨[(0,AV.sl 9 (List.map zab a0)),(4,AV.mp (List.map zdn r0.fst)),(5,AV.mp (List.map zdM r0.snd)),(6,AV.row 6 9 0 (List.length x1)),(7,I x2)],[(6,⟨9,zar,x1,false⟩)]⟩
theorem zrH (a0:List GMarkEvent) (r0:(List ((Int×Int)×Int))×(List ((Int×Int)×Bool))) (x1:List (List AV)) (x2:Int) {y:AV×Mem} (h:(
 brn (decide (x2 < (↑(List.map zab a0).length:Int))) (chk ((0:Int)≤x2)<|
 elemD zaG (List.map zab a0) x2.toNat fun (c3:GMarkEvent) =>
 chk ((0:Int)≤x2)<|
 elemD zaG (List.map zab a0) x2.toNat fun (c4:GMarkEvent) =>
 mapD zP 150 false zag (I 0) (List.map zdn r0.fst) (AV.agg (zcu (c3.Stamp.Source,c4.Stamp.Seq))) fun (c5:Int) (b6:Bool) =>
 brn b6 (brn (c5 == x2) (mapD zP 150 false dBool (B false) (List.map zdM r0.snd) (AV.agg (zcu (c3.Stamp.Source,c4.Stamp.Seq))) fun (c7:Bool) (b8:Bool) =>
 brn (!c7) (chk ((0:Int)≤x2)<|
 elemD zaG (List.map zab a0) x2.toNat fun (c9:GMarkEvent) =>
 chk ((List.map zaa c9.Pages).length*(8+1)≤1099511627776)<|
 chk (0+(List.map zaa c9.Pages).length≤(List.map zaa c9.Pages).length)<|
 chk (0+(List.map zaa c9.Pages).length≤(List.map zaa c9.Pages).length)<|
 chk (x1.length=x1.length)<|
 chk ((x1.length+1)*(88+1)≤1099511627776)<|
 chk ((x1++[[I c9.Stamp.Time,I c9.Stamp.Source,I c9.Stamp.Seq,I c9.Kind,I c9.Script,I c9.Part,I c9.Value,I c9.Marker,AV.sl 1 (List.take (List.map zaa c9.Pages).length (List.map zaa c9.Pages))]]).length=(x1++[[I c9.Stamp.Time,I c9.Stamp.Source,I c9.Stamp.Seq,I c9.Kind,I c9.Script,I c9.Part,I c9.Value,I c9.Marker,AV.sl 1 (List.take (List.map zaa c9.Pages).length (List.map zaa c9.Pages))]]).length)<|
 zcH a0 r0 (x1++([[I c9.Stamp.Time,I c9.Stamp.Source,I c9.Stamp.Seq,I c9.Kind,I c9.Script,I c9.Part,I c9.Value,I c9.Marker,AV.sl 1 (List.take ((List.map zaa c9.Pages).length) (List.map zaa c9.Pages))]])) (w64 (x2+1)))
 (zcH a0 r0 x1 (w64 (x2+1))))
 (zcH a0 r0 x1 (w64 (x2+1))))
 (zcH a0 r0 x1 (w64 (x2+1))))
 (brn (decide (2000 < (↑x1.length:Int))) (some (AV.tup [AV.sl 9 (List.map zab []),I 3],[]))
 (chk (0+x1.length≤x1.length)<|
 callD zkk (cw zmN [AV.sl 9 (List.take x1.length x1)] []) fun (r10:(List GMarkEvent)) =>
 chk (0+x1.length≤x1.length)<|
 chk (0+x1.length≤x1.length)<|
 chk (0+(List.map zab r10).length≤(List.map zab r10).length)<|
 some (AV.tup [AV.sl 9 (List.take ((List.map zab r10).length) (List.map zab r10)),I 0],[]))))=some y):zcH a0 r0 x1 x2=some y:=
 pt_of zT [] (by kernel_rfl) h
theorem zB3 (a0:List GMarkEvent) {y:AV×Mem} (h:(
 callD zkC (cw zpn [AV.sl 9 (List.map zab a0)] []) fun (r0:(List ((Int×Int)×Int))×(List ((Int×Int)×Bool))) =>
 zcH a0 r0 [] 0)=some y):cw zoj [AV.sl 9 (List.map zab a0)] []=some y:=
 zah zt6 zT [] rfl (by kernel_rfl) (by kernel_rfl) (by kernel_rfl) (by kernel_rfl) (by kernel_rfl) h
end Go.Proofs.YticojpmhlhfhlaaGreat
