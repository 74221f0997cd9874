/- What the functions compute, between two cut points: printed by a program, checked by the kernel. -/
import Derived.Test.YtbhkcgaanaelfaaGreatAnn
namespace Go.Proofs.YtbhkcgaanaelfaaGreat
open Go.Ab
set_option maxRecDepth 100000
set_option linter.unusedVariables false
noncomputable def zcD (a0:List GRatio) (a1:Int) (a2:Int) (a3:Int) (c0:GRatio) (c1:GRatio) (c2:GRatio) (c3:GRatio) (x4:Int):Option (AV×Mem):=pt zaP 1 ⟨[(0,AV.row 1000 2 0 ((List.map zaa a0).length)),(1,I a1),(4,AV.fn zah []),(12,I x4),(13,I (w64 (a2 - 1)))],[(1000,⟨2,zae,List.set (List.set (List.map zaa a0) (0+a1.toNat) (zaa c0)) (0+a3.toNat) (zaa c1),false⟩)]⟩
noncomputable def zbp (a0:List GRatio) (a1:Int) (a2:Int) (a3:Int) (c0:GRatio) (c1:GRatio) (c2:GRatio) (c3:GRatio) (x4:Int):Option (AV×Mem):=pt zaP 2 ⟨[(0,AV.row 1000 2 0 ((List.map zaa a0).length)),(1,I a1),(4,AV.fn zah []),(12,I x4),(13,I (w64 (a2 - 1))),(47,B false)],[(1000,⟨2,zae,List.set (List.set (List.map zaa a0) (0+a1.toNat) (zaa c0)) (0+a3.toNat) (zaa c1),false⟩)]⟩
noncomputable def zcm (a0:List GRatio) (a1:Int) (a2:Int) (a3:Int) (c0:GRatio) (c1:GRatio) (c2:GRatio) (c3:GRatio) (x4:Int) (x11:Int):Option (AV×Mem):=pt zaP 2 ⟨[(0,AV.row 1000 2 0 ((List.map zaa a0).length)),(1,I a1),(4,AV.fn zah []),(12,I x4),(13,I x11)],[(1000,⟨2,zae,List.set (List.set (List.map zaa a0) (0+a1.toNat) (zaa c0)) (0+a3.toNat) (zaa c1),false⟩)]⟩
noncomputable def za1 (a0:List GRatio) (a1:Int) (a2:Int) (a3:Int) (c0:GRatio) (c1:GRatio) (c2:GRatio) (c3:GRatio) (x4:Int) (x12:Int):Option (AV×Mem):=pt zaP 1007 ⟨[(0,AV.row 1000 2 0 ((List.map zaa a0).length)),(1,I a1),(4,AV.fn zah []),(12,I x4),(13,I x12),(66,B false)],[(1000,⟨2,zae,List.set (List.set (List.map zaa a0) (0+a1.toNat) (zaa c0)) (0+a3.toNat) (zaa c1),false⟩)]⟩
noncomputable def zcE (a0:List GRatio) (a1:Int) (x24:List (List AV)) (x25:Int) (x26:Int):Option (AV×Mem):=pt zaP 3 ⟨[(0,AV.row 1000 2 0 ((List.map zaa a0).length)),(1,I a1),(4,AV.fn zah []),(12,I x25),(13,I x26)],[(1000,⟨2,zae,x24,false⟩)]⟩
noncomputable def zcB (a0:List GRatio) (a1:Int) (x24:List (List AV)) (x26:Int) (x27:Int):Option (AV×Mem):=pt zaP 4 ⟨[(0,AV.row 1000 2 0 ((List.map zaa a0).length)),(1,I a1),(4,AV.fn zah []),(12,I x27),(13,I x26)],[(1000,⟨2,zae,x24,false⟩)]⟩
noncomputable def zbL (a0:List GRatio) (a1:Int) (x24:List (List AV)) (x26:Int) (x27:Int):Option (AV×Mem):=pt zaP 5 ⟨[(0,AV.row 1000 2 0 ((List.map zaa a0).length)),(1,I a1),(4,AV.fn zah []),(12,I x27),(13,I x26),(120,B false)],[(1000,⟨2,zae,x24,false⟩)]⟩
noncomputable def zci (a0:List GRatio) (a1:Int) (x24:List (List AV)) (x27:Int) (x34:Int):Option (AV×Mem):=pt zaP 5 ⟨[(0,AV.row 1000 2 0 ((List.map zaa a0).length)),(1,I a1),(4,AV.fn zah []),(12,I x27),(13,I x34)],[(1000,⟨2,zae,x24,false⟩)]⟩
noncomputable def za0 (a0:List GRatio) (a1:Int) (x24:List (List AV)) (x27:Int) (x35:Int):Option (AV×Mem):=pt zaP 1017 ⟨[(0,AV.row 1000 2 0 ((List.map zaa a0).length)),(1,I a1),(4,AV.fn zah []),(12,I x27),(13,I x35),(139,B false)],[(1000,⟨2,zae,x24,false⟩)]⟩
theorem zfR (a0:List GRatio) (a1:Int) (a2:Int) (a3:Int) (c0:GRatio) (c1:GRatio) (c2:GRatio) (c3:GRatio) (x4:Int) {y:AV×Mem} (h:(
 brn (decide (x4≤w64 (a2 - 1))) (chk ((0:Int)≤x4)<|
 chk ((x4:Int) < ((↑(List.map zaa a0).length:Int)))<|
 elemD zaf (List.set (List.set (List.map zaa a0) (0+a1.toNat) (zaa c0)) (0+a3.toNat) (zaa c1)) (0+x4.toNat) fun (c5:GRatio) =>
 chk ((0:Int)≤a1)<|
 chk ((a1:Int) < ((↑(List.map zaa a0).length:Int)))<|
 elemD zaf (List.set (List.set (List.map zaa a0) (0+a1.toNat) (zaa c0)) (0+a3.toNat) (zaa c1)) (0+a1.toNat) fun (c6:GRatio) =>
 callD zaH (cw zah [AV.agg (zaa c5),AV.agg (zaa c6)] []) fun (r7:Int) =>
 brn (decide (r7 < 0)) (zcD a0 a1 a2 a3 c0 c1 c2 c3 (w64 (x4+1)))
 (zbp a0 a1 a2 a3 c0 c1 c2 c3 x4))
 (zbp a0 a1 a2 a3 c0 c1 c2 c3 x4))=some y):zcD a0 a1 a2 a3 c0 c1 c2 c3 x4=some y:=
 pt_of zT [17,7] (by kernel_rfl) h
theorem zkX (a0:List GRatio) (a1:Int) (a2:Int) (a3:Int) (c0:GRatio) (c1:GRatio) (c2:GRatio) (c3:GRatio) (x4:Int) {y:AV×Mem} (h:(
 brn (decide (x4≤w64 (a2 - 1))) (chk ((0:Int)≤(w64 (a2 - 1)))<|
 chk ((w64 (a2 - 1):Int) < ((↑(List.map zaa a0).length:Int)))<|
 elemD zaf (List.set (List.set (List.map zaa a0) (0+a1.toNat) (zaa c0)) (0+a3.toNat) (zaa c1)) (0+(w64 (a2 - 1)).toNat) fun (c8:GRatio) =>
 chk ((0:Int)≤a1)<|
 chk ((a1:Int) < ((↑(List.map zaa a0).length:Int)))<|
 elemD zaf (List.set (List.set (List.map zaa a0) (0+a1.toNat) (zaa c0)) (0+a3.toNat) (zaa c1)) (0+a1.toNat) fun (c9:GRatio) =>
 callD zaH (cw zah [AV.agg (zaa c8),AV.agg (zaa c9)] []) fun (r10:Int) =>
 brn (!decide (r10 < 0)) (zcm a0 a1 a2 a3 c0 c1 c2 c3 x4 (w64 (w64 (a2 - 1) - 1)))
 (za1 a0 a1 a2 a3 c0 c1 c2 c3 x4 (w64 (a2 - 1))))
 (za1 a0 a1 a2 a3 c0 c1 c2 c3 x4 (w64 (a2 - 1))))=some y):zbp a0 a1 a2 a3 c0 c1 c2 c3 x4=some y:=
 pt_of zT [17,7] (by kernel_rfl) h
theorem zfu (a0:List GRatio) (a1:Int) (a2:Int) (a3:Int) (c0:GRatio) (c1:GRatio) (c2:GRatio) (c3:GRatio) (x4:Int) (x11:Int) {y:AV×Mem} (h:(
 brn (decide (x4≤x11)) (chk ((0:Int)≤x11)<|
 chk ((x11:Int) < ((↑(List.map zaa a0).length:Int)))<|
 elemD zaf (List.set (List.set (List.map zaa a0) (0+a1.toNat) (zaa c0)) (0+a3.toNat) (zaa c1)) (0+x11.toNat) fun (c13:GRatio) =>
 chk ((0:Int)≤a1)<|
 chk ((a1:Int) < ((↑(List.map zaa a0).length:Int)))<|
 elemD zaf (List.set (List.set (List.map zaa a0) (0+a1.toNat) (zaa c0)) (0+a3.toNat) (zaa c1)) (0+a1.toNat) fun (c14:GRatio) =>
 callD zaH (cw zah [AV.agg (zaa c13),AV.agg (zaa c14)] []) fun (r15:Int) =>
 brn (!decide (r15 < 0)) (zcm a0 a1 a2 a3 c0 c1 c2 c3 x4 (w64 (x11 - 1)))
 (za1 a0 a1 a2 a3 c0 c1 c2 c3 x4 x11))
 (za1 a0 a1 a2 a3 c0 c1 c2 c3 x4 x11))=some y):zcm a0 a1 a2 a3 c0 c1 c2 c3 x4 x11=some y:=
 pt_of zT [17,7] (by kernel_rfl) h
theorem zfc (a0:List GRatio) (a1:Int) (a2:Int) (a3:Int) (c0:GRatio) (c1:GRatio) (c2:GRatio) (c3:GRatio) (x4:Int) (x12:Int) {y:AV×Mem} (h:(
 brn (decide (x12 < x4)) (chk ((0:Int)≤a1)<|
 chk ((a1:Int) < ((↑(List.map zaa a0).length:Int)))<|
 elemD zaf (List.set (List.set (List.map zaa a0) (0+a1.toNat) (zaa c0)) (0+a3.toNat) (zaa c1)) (0+a1.toNat) fun (c16:GRatio) =>
 chk ((0:Int)≤x12)<|
 chk ((x12:Int) < ((↑(List.map zaa a0).length:Int)))<|
 elemD zaf (List.set (List.set (List.map zaa a0) (0+a1.toNat) (zaa c0)) (0+a3.toNat) (zaa c1)) (0+x12.toNat) fun (c17:GRatio) =>
 chk ((0:Int)≤x12)<|
 chk ((x12:Int) < ((↑(List.map zaa a0).length:Int)))<|
 elemD zaf (List.set (List.set (List.map zaa a0) (0+a1.toNat) (zaa c0)) (0+a3.toNat) (zaa c1)) (0+x12.toNat) fun (c18:GRatio) =>
 chk ((0:Int)≤a1)<|
 chk ((a1:Int) < ((↑(List.map zaa a0).length:Int)))<|
 elemD zaf (List.set (List.set (List.set (List.map zaa a0) (0+a1.toNat) (zaa c0)) (0+a3.toNat) (zaa c1)) (0+x12.toNat) (zaa c16)) (0+a1.toNat) fun (c19:GRatio) =>
 some (AV.tup [I x12,B true],[(1000,⟨2,zae,List.set (List.set (List.set (List.set (List.map zaa a0) (0+a1.toNat) (zaa c0)) (0+a3.toNat) (zaa c1)) (0+x12.toNat) (zaa c16)) (0+a1.toNat) (zaa c17),false⟩)]))
 (chk ((0:Int)≤x12)<|
 chk ((x12:Int) < ((↑(List.map zaa a0).length:Int)))<|
 elemD zaf (List.set (List.set (List.map zaa a0) (0+a1.toNat) (zaa c0)) (0+a3.toNat) (zaa c1)) (0+x12.toNat) fun (c20:GRatio) =>
 chk ((0:Int)≤x4)<|
 chk ((x4:Int) < ((↑(List.map zaa a0).length:Int)))<|
 elemD zaf (List.set (List.set (List.map zaa a0) (0+a1.toNat) (zaa c0)) (0+a3.toNat) (zaa c1)) (0+x4.toNat) fun (c21:GRatio) =>
 chk ((0:Int)≤x4)<|
 chk ((x4:Int) < ((↑(List.map zaa a0).length:Int)))<|
 elemD zaf (List.set (List.set (List.map zaa a0) (0+a1.toNat) (zaa c0)) (0+a3.toNat) (zaa c1)) (0+x4.toNat) fun (c22:GRatio) =>
 chk ((0:Int)≤x12)<|
 chk ((x12:Int) < ((↑(List.map zaa a0).length:Int)))<|
 elemD zaf (List.set (List.set (List.set (List.map zaa a0) (0+a1.toNat) (zaa c0)) (0+a3.toNat) (zaa c1)) (0+x4.toNat) (zaa c20)) (0+x12.toNat) fun (c23:GRatio) =>
 zcE a0 a1 (List.set (List.set (List.set (List.set (List.map zaa a0) (0+a1.toNat) (zaa c0)) (0+a3.toNat) (zaa c1)) (0+x4.toNat) (zaa c20)) (0+x12.toNat) (zaa c21)) (w64 (x4+1)) (w64 (x12 - 1))))=some y):za1 a0 a1 a2 a3 c0 c1 c2 c3 x4 x12=some y:=
 pt_of zT [17,7] (by kernel_rfl) h
theorem zfS (a0:List GRatio) (a1:Int) (x24:List (List AV)) (x25:Int) (x26:Int) {y:AV×Mem} (h:(
 zcB a0 a1 x24 x26 x25)=some y):zcE a0 a1 x24 x25 x26=some y:=
 pt_of zT [17,7] (by kernel_rfl) h
theorem zfT (a0:List GRatio) (a1:Int) (x24:List (List AV)) (x26:Int) (x27:Int) {y:AV×Mem} (h:(
 brn (decide (x27≤x26)) (chk ((0:Int)≤x27)<|
 chk ((x27:Int) < ((↑(List.map zaa a0).length:Int)))<|
 elemD zaf x24 (0+x27.toNat) fun (c28:GRatio) =>
 chk ((0:Int)≤a1)<|
 chk ((a1:Int) < ((↑(List.map zaa a0).length:Int)))<|
 elemD zaf x24 (0+a1.toNat) fun (c29:GRatio) =>
 callD zaH (cw zah [AV.agg (zaa c28),AV.agg (zaa c29)] []) fun (r30:Int) =>
 brn (decide (r30 < 0)) (zcB a0 a1 x24 x26 (w64 (x27+1)))
 (zbL a0 a1 x24 x26 x27))
 (zbL a0 a1 x24 x26 x27))=some y):zcB a0 a1 x24 x26 x27=some y:=
 pt_of zT [17,7] (by kernel_rfl) h
theorem zk2 (a0:List GRatio) (a1:Int) (x24:List (List AV)) (x26:Int) (x27:Int) {y:AV×Mem} (h:(
 brn (decide (x27≤x26)) (chk ((0:Int)≤x26)<|
 chk ((x26:Int) < ((↑(List.map zaa a0).length:Int)))<|
 elemD zaf x24 (0+x26.toNat) fun (c31:GRatio) =>
 chk ((0:Int)≤a1)<|
 chk ((a1:Int) < ((↑(List.map zaa a0).length:Int)))<|
 elemD zaf x24 (0+a1.toNat) fun (c32:GRatio) =>
 callD zaH (cw zah [AV.agg (zaa c31),AV.agg (zaa c32)] []) fun (r33:Int) =>
 brn (!decide (r33 < 0)) (zci a0 a1 x24 x27 (w64 (x26 - 1)))
 (za0 a0 a1 x24 x27 x26))
 (za0 a0 a1 x24 x27 x26))=some y):zbL a0 a1 x24 x26 x27=some y:=
 pt_of zT [17,7] (by kernel_rfl) h
theorem zfx (a0:List GRatio) (a1:Int) (x24:List (List AV)) (x27:Int) (x34:Int) {y:AV×Mem} (h:(
 brn (decide (x27≤x34)) (chk ((0:Int)≤x34)<|
 chk ((x34:Int) < ((↑(List.map zaa a0).length:Int)))<|
 elemD zaf x24 (0+x34.toNat) fun (c36:GRatio) =>
 chk ((0:Int)≤a1)<|
 chk ((a1:Int) < ((↑(List.map zaa a0).length:Int)))<|
 elemD zaf x24 (0+a1.toNat) fun (c37:GRatio) =>
 callD zaH (cw zah [AV.agg (zaa c36),AV.agg (zaa c37)] []) fun (r38:Int) =>
 brn (!decide (r38 < 0)) (zci a0 a1 x24 x27 (w64 (x34 - 1)))
 (za0 a0 a1 x24 x27 x34))
 (za0 a0 a1 x24 x27 x34))=some y):zci a0 a1 x24 x27 x34=some y:=
 pt_of zT [17,7] (by kernel_rfl) h
theorem ze9 (a0:List GRatio) (a1:Int) (x24:List (List AV)) (x27:Int) (x35:Int) {y:AV×Mem} (h:(
 brn (decide (x35 < x27)) (chk ((0:Int)≤a1)<|
 chk ((a1:Int) < ((↑(List.map zaa a0).length:Int)))<|
 elemD zaf x24 (0+a1.toNat) fun (c39:GRatio) =>
 chk ((0:Int)≤x35)<|
 chk ((x35:Int) < ((↑(List.map zaa a0).length:Int)))<|
 elemD zaf x24 (0+x35.toNat) fun (c40:GRatio) =>
 chk ((0:Int)≤x35)<|
 chk ((x35:Int) < ((↑(List.map zaa a0).length:Int)))<|
 elemD zaf x24 (0+x35.toNat) fun (c41:GRatio) =>
 chk ((0:Int)≤a1)<|
 chk ((a1:Int) < ((↑(List.map zaa a0).length:Int)))<|
 elemD zaf (List.set x24 (0+x35.toNat) (zaa c39)) (0+a1.toNat) fun (c42:GRatio) =>
 some (AV.tup [I x35,B false],[(1000,⟨2,zae,List.set (List.set x24 (0+x35.toNat) (zaa c39)) (0+a1.toNat) (zaa c40),false⟩)]))
 (chk ((0:Int)≤x35)<|
 chk ((x35:Int) < ((↑(List.map zaa a0).length:Int)))<|
 elemD zaf x24 (0+x35.toNat) fun (c43:GRatio) =>
 chk ((0:Int)≤x27)<|
 chk ((x27:Int) < ((↑(List.map zaa a0).length:Int)))<|
 elemD zaf x24 (0+x27.toNat) fun (c44:GRatio) =>
 chk ((0:Int)≤x27)<|
 chk ((x27:Int) < ((↑(List.map zaa a0).length:Int)))<|
 elemD zaf x24 (0+x27.toNat) fun (c45:GRatio) =>
 chk ((0:Int)≤x35)<|
 chk ((x35:Int) < ((↑(List.map zaa a0).length:Int)))<|
 elemD zaf (List.set x24 (0+x27.toNat) (zaa c43)) (0+x35.toNat) fun (c46:GRatio) =>
 zcE a0 a1 (List.set (List.set x24 (0+x27.toNat) (zaa c43)) (0+x35.toNat) (zaa c44)) (w64 (x27+1)) (w64 (x35 - 1))))=some y):za0 a0 a1 x24 x27 x35=some y:=
 pt_of zT [17,7] (by kernel_rfl) h
theorem zlO (a0:List GRatio) (a1:Int) (a2:Int) (a3:Int) {y:AV×Mem} (h:(
 chk ((0:Int)≤a3)<|
 chk ((a3:Int) < ((↑(List.map zaa a0).length:Int)))<|
 elemD zaf (List.map zaa a0) (0+a3.toNat) fun (c0:GRatio) =>
 chk ((0:Int)≤a1)<|
 chk ((a1:Int) < ((↑(List.map zaa a0).length:Int)))<|
 elemD zaf (List.map zaa a0) (0+a1.toNat) fun (c1:GRatio) =>
 chk ((0:Int)≤a1)<|
 chk ((a1:Int) < ((↑(List.map zaa a0).length:Int)))<|
 elemD zaf (List.map zaa a0) (0+a1.toNat) fun (c2:GRatio) =>
 chk ((0:Int)≤a3)<|
 chk ((a3:Int) < ((↑(List.map zaa a0).length:Int)))<|
 elemD zaf (List.set (List.map zaa a0) (0+a1.toNat) (zaa c0)) (0+a3.toNat) fun (c3:GRatio) =>
 zcD a0 a1 a2 a3 c0 c1 c2 c3 (w64 (a1+1)))=some y):cw zcQ [AV.row 1000 2 0 (List.length (List.map zaa a0)),I a1,I a2,I a3,AV.fn zah []] [(1000,⟨2,zae,List.map zaa a0,false⟩)]=some y:=
 zaj zaP zT [17,7] rfl (by kernel_rfl) (by kernel_rfl) (by kernel_rfl) (by kernel_rfl) (by kernel_rfl) h
abbrev zet:ByteArray:={ data:={ toList:=[0,1,2,2,3,3,3,3,4,4,4,4,4,4,4,4,5,5,5,5,5,5,5,5,5,5,5,5,5,5,5,5,6,6,6,6,6,6,6,6,6,6,6,6,6,6,6,6,6,6,6,6,6,6,6,6,6,6,6,6,6,6,6,6,7,7,7,7,7,7,7,7,7,7,7,7,7,7,7,7,7,7,7,7,7,7,7,7,7,7,7,7,7,7,7,7,7,7,7,7,7,7,7,7,7,7,7,7,7,7,7,7,7,7,7,7,7,7,7,7,7,7,7,7,7,7,7,7,8,8,8,8,8,8,8,8,8,8,8,8,8,8,8,8,8,8,8,8,8,8,8,8,8,8,8,8,8,8,8,8,8,8,8,8,8,8,8,8,8,8,8,8,8,8,8,8,8,8,8,8,8,8,8,8,8,8,8,8,8,8,8,8,8,8,8,8,8,8,8,8,8,8,8,8,8,8,8,8,8,8,8,8,8,8,8,8,8,8,8,8,8,8,8,8,8,8,8,8,8,8,8,8,8,8,8,8,8,8,8,8,8,8,8,8,8,8,8,8,8,8,8,8,8,8,8,8] } }
noncomputable def zqa (a0:Int):Option (AV×Mem):=pt zhg 1004 ⟨[(0,AV.v (.int .u64 (a0.fdiv (2 ^ Min.min (Int.toNat 32) 64)))),(2,I 32)],[]⟩
noncomputable def zoI (a0:Int):Option (AV×Mem):=pt zhg 1004 ⟨[(0,AV.v (.int .u64 a0)),(2,I 0),(4,B false)],[]⟩
noncomputable def ziL (x0:Int) (x1:Int):Option (AV×Mem):=pt zhg 1007 ⟨[(0,AV.v (.int .u64 x0)),(2,I x1)],[]⟩
noncomputable def zhv (x2:Int) (x3:Int):Option (AV×Mem):=pt zhg 1007 ⟨[(0,AV.v (.int .u64 x2)),(2,I x3),(8,B false)],[]⟩
noncomputable def ziy (x4:Int) (x5:Int):Option (AV×Mem):=pt zhg 1010 ⟨[(0,AV.v (.int .u64 x4)),(2,I x5)],[]⟩
noncomputable def zhy (x6:Int) (x7:Int):Option (AV×Mem):=pt zhg 1010 ⟨[(0,AV.v (.int .u64 x6)),(2,I x7),(14,B false)],[]⟩
theorem zv0 (a0:Int) {y:AV×Mem} (h:(
 brn (decide (65536≤a0.fdiv (2 ^ Min.min (Int.toNat 32) 64))) (chk ((0:Int)≤16)<|
 ziL ((a0.fdiv (2 ^ Min.min (Int.toNat 32) 64)).fdiv (2 ^ Min.min (Int.toNat 16) 64)) (w64 (32+16)))
 (zhv (a0.fdiv (2 ^ Min.min (Int.toNat 32) 64)) 32))=some y):zqa a0=some y:=
 pt_of zT [10,7,4] (by kernel_rfl) h
theorem zul (a0:Int) {y:AV×Mem} (h:(
 brn (decide (65536≤a0)) (chk ((0:Int)≤16)<|
 ziL (a0.fdiv (2 ^ Min.min (Int.toNat 16) 64)) (w64 (0+16)))
 (zhv a0 0))=some y):zoI a0=some y:=
 pt_of zT [10,7,4] (by kernel_rfl) h
theorem zvG (x0:Int) (x1:Int) {y:AV×Mem} (h:(
 brn (decide (256≤x0)) (chk ((0:Int)≤8)<|
 ziy (x0.fdiv (2 ^ Min.min (Int.toNat 8) 64)) (w64 (x1+8)))
 (zhy x0 x1))=some y):ziL x0 x1=some y:=
 pt_of zT [10,7,4] (by kernel_rfl) h
theorem zt8 (x2:Int) (x3:Int) {y:AV×Mem} (h:(
 brn (decide (256≤x2)) (chk ((0:Int)≤8)<|
 ziy (x2.fdiv (2 ^ Min.min (Int.toNat 8) 64)) (w64 (x3+8)))
 (zhy x2 x3))=some y):zhv x2 x3=some y:=
 pt_of zT [10,7,4] (by kernel_rfl) h
theorem zvQ (x4:Int) (x5:Int) {y:AV×Mem} (h:(
 chk ((0:Int)≤(IntKind.u8.wrap x4))<|
 chk ((IntKind.u8.wrap x4:Int) < (↑zet.size:Int))<|
 some (I (w64 (x5+w64 (strAt zet (IntKind.u8.wrap x4)))),[]))=some y):ziy x4 x5=some y:=
 pt_of zT [10,7,4] (by kernel_rfl) h
theorem zug (x6:Int) (x7:Int) {y:AV×Mem} (h:(
 chk ((0:Int)≤(IntKind.u8.wrap x6))<|
 chk ((IntKind.u8.wrap x6:Int) < (↑zet.size:Int))<|
 some (I (w64 (x7+w64 (strAt zet (IntKind.u8.wrap x6)))),[]))=some y):zhy x6 x7=some y:=
 pt_of zT [10,7,4] (by kernel_rfl) h
theorem zBy (a0:Int) {y:AV×Mem} (h:(
 brn (decide (4294967296≤a0)) (chk ((0:Int)≤32)<|
 zqa a0)
 (zoI a0))=some y):cw zly [AV.v (.int .u64 a0)] []=some y:=
 zaj zhg zT [10,7,4] rfl (by kernel_rfl) (by kernel_rfl) (by kernel_rfl) (by kernel_rfl) (by kernel_rfl) h
theorem ztJ (a0:Int) (a1:Int) {y:AV×Mem} (h:(
 callD zh3 (cw zhY [AV.v (.int .u64 a0)] []) fun (r0:Bool) =>
 callD zh3 (cw zhY [AV.v (.int .u64 a1)] []) fun (r1:Bool) =>
 brn r0 (brn r1 (some (I 0,[]))
 (some (I (-1),[])))
 (brn r1 (some (I 1,[]))
 (brn (decide (a0 < a1)) (some (I (-1),[]))
 (brn (decide (a1 < a0)) (some (I 1,[]))
 (some (I 0,[]))))))=some y):cw zgN [AV.v (.int .u64 a0),AV.v (.int .u64 a1)] []=some y:=
 zaj zs7 zT [] rfl (by kernel_rfl) (by kernel_rfl) (by kernel_rfl) (by kernel_rfl) (by kernel_rfl) h
noncomputable def zcP (a0:Gref01Wide) (a1:Gref01Wide) (x0:Gref01Wide) (x1:Gref01Wide) (x2:Int):Option (AV×Mem):=pt zi8 1 ⟨[(2,AV.loc 2 2 0 0),(3,AV.loc 3 2 0 0),(4,AV.loc 4 2 0 0),(5,AV.loc 5 2 0 0),(6,AV.loc 6 2 0 0),(7,AV.loc 7 2 0 0),(8,I x2)],[(2,⟨2,zaU,[zal a0],true⟩),(3,⟨2,zaU,[zal a1],true⟩),(4,⟨2,zaU,[zal (⟨0,0⟩)],true⟩),(5,⟨2,zaU,[zal (⟨0,0⟩)],true⟩),(6,⟨2,zaU,[zal x0],true⟩),(7,⟨2,zaU,[zal x1],true⟩)]⟩
noncomputable def zki (a0:Gref01Wide) (a1:Gref01Wide) (x0:Gref01Wide) (x1:Gref01Wide) (x2:Int):Option (AV×Mem):=pt zi8 1010 ⟨[(2,AV.loc 2 2 0 0),(3,AV.loc 3 2 0 0),(4,AV.loc 4 2 0 0),(5,AV.loc 5 2 0 0),(6,AV.loc 6 2 0 0),(7,AV.loc 7 2 0 0),(8,I x2),(9,AV.v (.int .u64 (wu64 (↑((a0.Hi.fdiv (2 ^ Min.min (wu64 (w64 (x2 - 64))).toNat 64) % Int.ofNat (2 ^ 64)).toNat &&& (1 % Int.ofNat (2 ^ 64)).toNat):Int))))],[(2,⟨2,zaU,[zal a0],true⟩),(3,⟨2,zaU,[zal a1],true⟩),(4,⟨2,zaU,[zal (⟨0,0⟩)],true⟩),(5,⟨2,zaU,[zal (⟨0,0⟩)],true⟩),(6,⟨2,zaU,[zal x0],true⟩),(7,⟨2,zaU,[zal x1],true⟩)]⟩
noncomputable def ziP (a0:Gref01Wide) (a1:Gref01Wide) (x0:Gref01Wide) (x1:Gref01Wide) (x2:Int):Option (AV×Mem):=pt zi8 1010 ⟨[(2,AV.loc 2 2 0 0),(3,AV.loc 3 2 0 0),(4,AV.loc 4 2 0 0),(5,AV.loc 5 2 0 0),(6,AV.loc 6 2 0 0),(7,AV.loc 7 2 0 0),(8,I x2),(9,AV.v (.int .u64 (wu64 (↑((a0.Lo.fdiv (2 ^ Min.min (wu64 (x2.tmod 64)).toNat 64) % Int.ofNat (2 ^ 64)).toNat &&& (1 % Int.ofNat (2 ^ 64)).toNat):Int)))),(45,B false)],[(2,⟨2,zaU,[zal a0],true⟩),(3,⟨2,zaU,[zal a1],true⟩),(4,⟨2,zaU,[zal (⟨0,0⟩)],true⟩),(5,⟨2,zaU,[zal (⟨0,0⟩)],true⟩),(6,⟨2,zaU,[zal x0],true⟩),(7,⟨2,zaU,[zal x1],true⟩)]⟩
noncomputable def zcV (a0:Gref01Wide) (a1:Gref01Wide) (x2:Int) (x5:Gref01Wide) (x6:Gref01Wide):Option (AV×Mem):=pt zi8 1015 ⟨[(2,AV.loc 2 2 0 0),(3,AV.loc 3 2 0 0),(4,AV.loc 4 2 0 0),(5,AV.loc 5 2 0 0),(6,AV.loc 6 2 0 0),(7,AV.loc 7 2 0 0),(8,I x2),(72,B true)],[(2,⟨2,zaU,[zal a0],true⟩),(3,⟨2,zaU,[zal a1],true⟩),(4,⟨2,zaU,[zal (⟨0,0⟩)],true⟩),(5,⟨2,zaU,[zal (⟨0,0⟩)],true⟩),(6,⟨2,zaU,[zal x5],true⟩),(7,⟨2,zaU,[zal x6],true⟩)]⟩
theorem zqS (a0:Gref01Wide) (a1:Gref01Wide) (x0:Gref01Wide) (x1:Gref01Wide) (x2:Int) {y:AV×Mem} (h:(
 brn (decide (0≤x2)) (chk ((64:Int)≠0)<|
 chk ((0:Int)≤(wu64 (x2.tmod 64)))<|
 brn (decide (64≤x2)) (chk ((0:Int)≤(wu64 (w64 (x2 - 64))))<|
 zki a0 a1 x0 x1 x2)
 (ziP a0 a1 x0 x1 x2))
 (some (AV.tup [AV.agg (zal x0),AV.agg (zal x1)],[])))=some y):zcP a0 a1 x0 x1 x2=some y:=
 pt_of zT [15,10] (by kernel_rfl) h
theorem zup (a0:Gref01Wide) (a1:Gref01Wide) (x0:Gref01Wide) (x1:Gref01Wide) (x2:Int) {y:AV×Mem} (h:(
 chk ((0:Int)≤63)<|
 callD zeM (cw zfv [AV.agg (zal x1)] []) fun (r3:Gref01Wide) =>
 callD zeM (cw zfv [AV.agg (zal x0)] []) fun (r4:Gref01Wide) =>
 brn (x1.Hi.fdiv (2 ^ Min.min (Int.toNat 63) 64) == 1) (zcV a0 a1 x2 r4 (⟨r3.Hi,wu64 (↑((r3.Lo % Int.ofNat (2 ^ 64)).toNat ||| (wu64 (↑((a0.Hi.fdiv (2 ^ Min.min (wu64 (w64 (x2 - 64))).toNat 64) % Int.ofNat (2 ^ 64)).toNat &&& (1 % Int.ofNat (2 ^ 64)).toNat):Int) % Int.ofNat (2 ^ 64)).toNat):Int)⟩))
 (callD zgq (cw zhI [AV.agg (zal (⟨r3.Hi,wu64 (↑((r3.Lo % Int.ofNat (2 ^ 64)).toNat ||| (wu64 (↑((a0.Hi.fdiv (2 ^ Min.min (wu64 (w64 (x2 - 64))).toNat 64) % Int.ofNat (2 ^ 64)).toNat &&& (1 % Int.ofNat (2 ^ 64)).toNat):Int) % Int.ofNat (2 ^ 64)).toNat):Int)⟩)),AV.agg (zal a1)] []) fun (r7:Int) =>
 brn (decide (0≤r7)) (zcV a0 a1 x2 r4 (⟨r3.Hi,wu64 (↑((r3.Lo % Int.ofNat (2 ^ 64)).toNat ||| (wu64 (↑((a0.Hi.fdiv (2 ^ Min.min (wu64 (w64 (x2 - 64))).toNat 64) % Int.ofNat (2 ^ 64)).toNat &&& (1 % Int.ofNat (2 ^ 64)).toNat):Int) % Int.ofNat (2 ^ 64)).toNat):Int)⟩))
 (zcP a0 a1 r4 (⟨r3.Hi,wu64 (↑((r3.Lo % Int.ofNat (2 ^ 64)).toNat ||| (wu64 (↑((a0.Hi.fdiv (2 ^ Min.min (wu64 (w64 (x2 - 64))).toNat 64) % Int.ofNat (2 ^ 64)).toNat &&& (1 % Int.ofNat (2 ^ 64)).toNat):Int) % Int.ofNat (2 ^ 64)).toNat):Int)⟩) (w64 (x2 - 1)))))=some y):zki a0 a1 x0 x1 x2=some y:=
 pt_of zT [15,10] (by kernel_rfl) h
theorem zsr (a0:Gref01Wide) (a1:Gref01Wide) (x0:Gref01Wide) (x1:Gref01Wide) (x2:Int) {y:AV×Mem} (h:(
 chk ((0:Int)≤63)<|
 callD zeM (cw zfv [AV.agg (zal x1)] []) fun (r8:Gref01Wide) =>
 callD zeM (cw zfv [AV.agg (zal x0)] []) fun (r9:Gref01Wide) =>
 brn (x1.Hi.fdiv (2 ^ Min.min (Int.toNat 63) 64) == 1) (zcV a0 a1 x2 r9 (⟨r8.Hi,wu64 (↑((r8.Lo % Int.ofNat (2 ^ 64)).toNat ||| (wu64 (↑((a0.Lo.fdiv (2 ^ Min.min (wu64 (x2.tmod 64)).toNat 64) % Int.ofNat (2 ^ 64)).toNat &&& (1 % Int.ofNat (2 ^ 64)).toNat):Int) % Int.ofNat (2 ^ 64)).toNat):Int)⟩))
 (callD zgq (cw zhI [AV.agg (zal (⟨r8.Hi,wu64 (↑((r8.Lo % Int.ofNat (2 ^ 64)).toNat ||| (wu64 (↑((a0.Lo.fdiv (2 ^ Min.min (wu64 (x2.tmod 64)).toNat 64) % Int.ofNat (2 ^ 64)).toNat &&& (1 % Int.ofNat (2 ^ 64)).toNat):Int) % Int.ofNat (2 ^ 64)).toNat):Int)⟩)),AV.agg (zal a1)] []) fun (r10:Int) =>
 brn (decide (0≤r10)) (zcV a0 a1 x2 r9 (⟨r8.Hi,wu64 (↑((r8.Lo % Int.ofNat (2 ^ 64)).toNat ||| (wu64 (↑((a0.Lo.fdiv (2 ^ Min.min (wu64 (x2.tmod 64)).toNat 64) % Int.ofNat (2 ^ 64)).toNat &&& (1 % Int.ofNat (2 ^ 64)).toNat):Int) % Int.ofNat (2 ^ 64)).toNat):Int)⟩))
 (zcP a0 a1 r9 (⟨r8.Hi,wu64 (↑((r8.Lo % Int.ofNat (2 ^ 64)).toNat ||| (wu64 (↑((a0.Lo.fdiv (2 ^ Min.min (wu64 (x2.tmod 64)).toNat 64) % Int.ofNat (2 ^ 64)).toNat &&& (1 % Int.ofNat (2 ^ 64)).toNat):Int) % Int.ofNat (2 ^ 64)).toNat):Int)⟩) (w64 (x2 - 1)))))=some y):ziP a0 a1 x0 x1 x2=some y:=
 pt_of zT [15,10] (by kernel_rfl) h
theorem zuh (a0:Gref01Wide) (a1:Gref01Wide) (x2:Int) (x5:Gref01Wide) (x6:Gref01Wide) {y:AV×Mem} (h:(
 callD zhM (cw zjZ [AV.agg (zal x6),AV.agg (zal a1)] []) fun (r11:Gref01Wide) =>
 zcP a0 a1 (⟨x5.Hi,wu64 (↑((x5.Lo % Int.ofNat (2 ^ 64)).toNat ||| (1 % Int.ofNat (2 ^ 64)).toNat):Int)⟩) r11 (w64 (x2 - 1)))=some y):zcV a0 a1 x2 x5 x6=some y:=
 pt_of zT [15,10] (by kernel_rfl) h
theorem zyO (a0:Gref01Wide) (a1:Gref01Wide) {y:AV×Mem} (h:(
 brn (a0.Hi == 0) (brn (a1.Hi == 0) (chk ((a1.Lo:Int)≠0)<|
 chk ((a1.Lo:Int)≠0)<|
 some (AV.tup [AV.agg (zal (⟨0,wu64 (a0.Lo.tdiv a1.Lo)⟩)),AV.agg (zal (⟨0,a0.Lo.tmod a1.Lo⟩))],[]))
 (zcP a0 a1 (⟨0,0⟩) (⟨0,0⟩) 127))
 (zcP a0 a1 (⟨0,0⟩) (⟨0,0⟩) 127))=some y):cw ziY [AV.agg (zal a0),AV.agg (zal a1)] []=some y:=
 zaj zi8 zT [15,10] rfl (by kernel_rfl) (by kernel_rfl) (by kernel_rfl) (by kernel_rfl) (by kernel_rfl) h
theorem zvR (a0:GratioWide) (a1:GratioWide) {y:AV×Mem} (h:(
 brn (Int.ofNat ((a0.lo.toNat+a1.lo.toNat+Int.toNat 0) / 2 ^ 64) == 0) (some (AV.agg (zax (⟨Int.ofNat ((a0.hi.toNat+a1.hi.toNat+Int.toNat 0) % 2 ^ 64),Int.ofNat ((a0.lo.toNat+a1.lo.toNat+Int.toNat 0) % 2 ^ 64)⟩)),[]))
 (brn (Int.ofNat ((a0.lo.toNat+a1.lo.toNat+Int.toNat 0) / 2 ^ 64) == 1) (some (AV.agg (zax (⟨Int.ofNat ((a0.hi.toNat+a1.hi.toNat+Int.toNat 1) % 2 ^ 64),Int.ofNat ((a0.lo.toNat+a1.lo.toNat+Int.toNat 0) % 2 ^ 64)⟩)),[]))
 (none)))=some y):cw zmk [AV.agg (zax a0),AV.agg (zax a1)] []=some y:=
 zaj zvz zT [] rfl (by kernel_rfl) (by kernel_rfl) (by kernel_rfl) (by kernel_rfl) (by kernel_rfl) h
theorem zuA (a0:GratioWide) (a1:GratioWide) {y:AV×Mem} (h:(
 brn (Int.ofNat (if a0.lo.toNat < a1.lo.toNat+Int.toNat 0 then 1 else 0) == 0) (some (AV.agg (zax (⟨Int.ofNat ((a0.hi.toNat+2 ^ 64 - a1.hi.toNat - Int.toNat 0) % 2 ^ 64),Int.ofNat ((a0.lo.toNat+2 ^ 64 - a1.lo.toNat - Int.toNat 0) % 2 ^ 64)⟩)),[]))
 (brn (Int.ofNat (if a0.lo.toNat < a1.lo.toNat+Int.toNat 0 then 1 else 0) == 1) (some (AV.agg (zax (⟨Int.ofNat ((a0.hi.toNat+2 ^ 64 - a1.hi.toNat - Int.toNat 1) % 2 ^ 64),Int.ofNat ((a0.lo.toNat+2 ^ 64 - a1.lo.toNat - Int.toNat 0) % 2 ^ 64)⟩)),[]))
 (none)))=some y):cw zhX [AV.agg (zax a0),AV.agg (zax a1)] []=some y:=
 zaj zvh zT [] rfl (by kernel_rfl) (by kernel_rfl) (by kernel_rfl) (by kernel_rfl) (by kernel_rfl) h
theorem zAu (a0:Int) (a1:Int) (a2:Int) {y:AV×Mem} (h:(
 chk ((a2:Int)≠0)<|
 callD zlF (cw zk6 [AV.v (.int .u64 (a0.tmod a2)),AV.v (.int .u64 a1),AV.v (.int .u64 a2)] []) fun (r0:Int×Int) =>
 some (AV.v (.int .u64 r0.snd),[]))=some y):cw znH [AV.v (.int .u64 a0),AV.v (.int .u64 a1),AV.v (.int .u64 a2)] []=some y:=
 zaj zA8 zT [] rfl (by kernel_rfl) (by kernel_rfl) (by kernel_rfl) (by kernel_rfl) (by kernel_rfl) h
end Go.Proofs.YtbhkcgaanaelfaaGreat
