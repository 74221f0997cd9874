/- What the functions compute, between two cut points: printed by a program, checked by the kernel. -/
import Derived.Test.YtbhkcgaanaelfaaGreatAnn
namespace Go.Proofs.YtbhkcgaanaelfaaGreat
open Go.Ab
set_option maxRecDepth 100000
set_option linter.unusedVariables false
noncomputable def zcx (a0:List GRatio) (a1:Int) (a2:Int) (a3:Int) (c0:GRatio) (c1:GRatio) (c2:GRatio) (c3:GRatio) (x4:Int):Option (AV×Mem):=pt zaI 1 ⟨[(0,AV.row 1000 2 0 ((List.map zaa a0).length)),(1,I a1),(4,AV.fn zad []),(12,I x4),(13,I (w64 (a2 - 1)))],[(1000,⟨2,zac,List.set (List.set (List.map zaa a0) (0+a1.toNat) (zaa c0)) (0+a3.toNat) (zaa c1),false⟩)]⟩
noncomputable def zbe (a0:List GRatio) (a1:Int) (a2:Int) (a3:Int) (c0:GRatio) (c1:GRatio) (c2:GRatio) (c3:GRatio) (x4:Int):Option (AV×Mem):=pt zaI 2 ⟨[(0,AV.row 1000 2 0 ((List.map zaa a0).length)),(1,I a1),(4,AV.fn zad []),(12,I x4),(13,I (w64 (a2 - 1))),(47,B false)],[(1000,⟨2,zac,List.set (List.set (List.map zaa a0) (0+a1.toNat) (zaa c0)) (0+a3.toNat) (zaa c1),false⟩)]⟩
noncomputable def zcd (a0:List GRatio) (a1:Int) (a2:Int) (a3:Int) (c0:GRatio) (c1:GRatio) (c2:GRatio) (c3:GRatio) (x4:Int) (x11:Int):Option (AV×Mem):=pt zaI 2 ⟨[(0,AV.row 1000 2 0 ((List.map zaa a0).length)),(1,I a1),(4,AV.fn zad []),(12,I x4),(13,I x11)],[(1000,⟨2,zac,List.set (List.set (List.map zaa a0) (0+a1.toNat) (zaa c0)) (0+a3.toNat) (zaa c1),false⟩)]⟩
noncomputable def zaU (a0:List GRatio) (a1:Int) (a2:Int) (a3:Int) (c0:GRatio) (c1:GRatio) (c2:GRatio) (c3:GRatio) (x4:Int) (x12:Int):Option (AV×Mem):=pt zaI 1007 ⟨[(0,AV.row 1000 2 0 ((List.map zaa a0).length)),(1,I a1),(4,AV.fn zad []),(12,I x4),(13,I x12),(66,B false)],[(1000,⟨2,zac,List.set (List.set (List.map zaa a0) (0+a1.toNat) (zaa c0)) (0+a3.toNat) (zaa c1),false⟩)]⟩
noncomputable def zcw (a0:List GRatio) (a1:Int) (x24:List (List AV)) (x25:Int) (x26:Int):Option (AV×Mem):=pt zaI 3 ⟨[(0,AV.row 1000 2 0 ((List.map zaa a0).length)),(1,I a1),(4,AV.fn zad []),(12,I x25),(13,I x26)],[(1000,⟨2,zac,x24,false⟩)]⟩
noncomputable def zcv (a0:List GRatio) (a1:Int) (x24:List (List AV)) (x26:Int) (x27:Int):Option (AV×Mem):=pt zaI 4 ⟨[(0,AV.row 1000 2 0 ((List.map zaa a0).length)),(1,I a1),(4,AV.fn zad []),(12,I x27),(13,I x26)],[(1000,⟨2,zac,x24,false⟩)]⟩
noncomputable def zbx (a0:List GRatio) (a1:Int) (x24:List (List AV)) (x26:Int) (x27:Int):Option (AV×Mem):=pt zaI 5 ⟨[(0,AV.row 1000 2 0 ((List.map zaa a0).length)),(1,I a1),(4,AV.fn zad []),(12,I x27),(13,I x26),(120,B false)],[(1000,⟨2,zac,x24,false⟩)]⟩
noncomputable def zce (a0:List GRatio) (a1:Int) (x24:List (List AV)) (x27:Int) (x34:Int):Option (AV×Mem):=pt zaI 5 ⟨[(0,AV.row 1000 2 0 ((List.map zaa a0).length)),(1,I a1),(4,AV.fn zad []),(12,I x27),(13,I x34)],[(1000,⟨2,zac,x24,false⟩)]⟩
noncomputable def zaT (a0:List GRatio) (a1:Int) (x24:List (List AV)) (x27:Int) (x35:Int):Option (AV×Mem):=pt zaI 1017 ⟨[(0,AV.row 1000 2 0 ((List.map zaa a0).length)),(1,I a1),(4,AV.fn zad []),(12,I x27),(13,I x35),(139,B false)],[(1000,⟨2,zac,x24,false⟩)]⟩
theorem ze5 (a0:List GRatio) (a1:Int) (a2:Int) (a3:Int) (c0:GRatio) (c1:GRatio) (c2:GRatio) (c3:GRatio) (x4:Int) {y:AV×Mem} (h:(
 brn (decide (x4≤w64 (a2 - 1))) (chk ((0:Int)≤x4)<|
 chk ((x4:Int) < ((↑(List.map zaa a0).length:Int)))<|
 elemD zab (List.set (List.set (List.map zaa a0) (0+a1.toNat) (zaa c0)) (0+a3.toNat) (zaa c1)) (0+x4.toNat) fun (c5:GRatio) =>
 chk ((0:Int)≤a1)<|
 chk ((a1:Int) < ((↑(List.map zaa a0).length:Int)))<|
 elemD zab (List.set (List.set (List.map zaa a0) (0+a1.toNat) (zaa c0)) (0+a3.toNat) (zaa c1)) (0+a1.toNat) fun (c6:GRatio) =>
 callD zaz (cw zad [AV.agg (zaa c5),AV.agg (zaa c6)] []) fun (r7:Int) =>
 brn (decide (r7 < 0)) (zcx a0 a1 a2 a3 c0 c1 c2 c3 (w64 (x4+1)))
 (zbe a0 a1 a2 a3 c0 c1 c2 c3 x4))
 (zbe a0 a1 a2 a3 c0 c1 c2 c3 x4))=some y):zcx a0 a1 a2 a3 c0 c1 c2 c3 x4=some y:=
 pt_of zT [17,7] (by kernel_rfl) h
theorem zi5 (a0:List GRatio) (a1:Int) (a2:Int) (a3:Int) (c0:GRatio) (c1:GRatio) (c2:GRatio) (c3:GRatio) (x4:Int) {y:AV×Mem} (h:(
 brn (decide (x4≤w64 (a2 - 1))) (chk ((0:Int)≤(w64 (a2 - 1)))<|
 chk ((w64 (a2 - 1):Int) < ((↑(List.map zaa a0).length:Int)))<|
 elemD zab (List.set (List.set (List.map zaa a0) (0+a1.toNat) (zaa c0)) (0+a3.toNat) (zaa c1)) (0+(w64 (a2 - 1)).toNat) fun (c8:GRatio) =>
 chk ((0:Int)≤a1)<|
 chk ((a1:Int) < ((↑(List.map zaa a0).length:Int)))<|
 elemD zab (List.set (List.set (List.map zaa a0) (0+a1.toNat) (zaa c0)) (0+a3.toNat) (zaa c1)) (0+a1.toNat) fun (c9:GRatio) =>
 callD zaz (cw zad [AV.agg (zaa c8),AV.agg (zaa c9)] []) fun (r10:Int) =>
 brn (!decide (r10 < 0)) (zcd a0 a1 a2 a3 c0 c1 c2 c3 x4 (w64 (w64 (a2 - 1) - 1)))
 (zaU a0 a1 a2 a3 c0 c1 c2 c3 x4 (w64 (a2 - 1))))
 (zaU a0 a1 a2 a3 c0 c1 c2 c3 x4 (w64 (a2 - 1))))=some y):zbe a0 a1 a2 a3 c0 c1 c2 c3 x4=some y:=
 pt_of zT [17,7] (by kernel_rfl) h
theorem zeQ (a0:List GRatio) (a1:Int) (a2:Int) (a3:Int) (c0:GRatio) (c1:GRatio) (c2:GRatio) (c3:GRatio) (x4:Int) (x11:Int) {y:AV×Mem} (h:(
 brn (decide (x4≤x11)) (chk ((0:Int)≤x11)<|
 chk ((x11:Int) < ((↑(List.map zaa a0).length:Int)))<|
 elemD zab (List.set (List.set (List.map zaa a0) (0+a1.toNat) (zaa c0)) (0+a3.toNat) (zaa c1)) (0+x11.toNat) fun (c13:GRatio) =>
 chk ((0:Int)≤a1)<|
 chk ((a1:Int) < ((↑(List.map zaa a0).length:Int)))<|
 elemD zab (List.set (List.set (List.map zaa a0) (0+a1.toNat) (zaa c0)) (0+a3.toNat) (zaa c1)) (0+a1.toNat) fun (c14:GRatio) =>
 callD zaz (cw zad [AV.agg (zaa c13),AV.agg (zaa c14)] []) fun (r15:Int) =>
 brn (!decide (r15 < 0)) (zcd a0 a1 a2 a3 c0 c1 c2 c3 x4 (w64 (x11 - 1)))
 (zaU a0 a1 a2 a3 c0 c1 c2 c3 x4 x11))
 (zaU a0 a1 a2 a3 c0 c1 c2 c3 x4 x11))=some y):zcd a0 a1 a2 a3 c0 c1 c2 c3 x4 x11=some y:=
 pt_of zT [17,7] (by kernel_rfl) h
theorem zev (a0:List GRatio) (a1:Int) (a2:Int) (a3:Int) (c0:GRatio) (c1:GRatio) (c2:GRatio) (c3:GRatio) (x4:Int) (x12:Int) {y:AV×Mem} (h:(
 brn (decide (x12 < x4)) (chk ((0:Int)≤a1)<|
 chk ((a1:Int) < ((↑(List.map zaa a0).length:Int)))<|
 elemD zab (List.set (List.set (List.map zaa a0) (0+a1.toNat) (zaa c0)) (0+a3.toNat) (zaa c1)) (0+a1.toNat) fun (c16:GRatio) =>
 chk ((0:Int)≤x12)<|
 chk ((x12:Int) < ((↑(List.map zaa a0).length:Int)))<|
 elemD zab (List.set (List.set (List.map zaa a0) (0+a1.toNat) (zaa c0)) (0+a3.toNat) (zaa c1)) (0+x12.toNat) fun (c17:GRatio) =>
 chk ((0:Int)≤x12)<|
 chk ((x12:Int) < ((↑(List.map zaa a0).length:Int)))<|
 elemD zab (List.set (List.set (List.map zaa a0) (0+a1.toNat) (zaa c0)) (0+a3.toNat) (zaa c1)) (0+x12.toNat) fun (c18:GRatio) =>
 chk ((0:Int)≤a1)<|
 chk ((a1:Int) < ((↑(List.map zaa a0).length:Int)))<|
 elemD zab (List.set (List.set (List.set (List.map zaa a0) (0+a1.toNat) (zaa c0)) (0+a3.toNat) (zaa c1)) (0+x12.toNat) (zaa c16)) (0+a1.toNat) fun (c19:GRatio) =>
 some (AV.tup [I x12,B true],[(1000,⟨2,zac,List.set (List.set (List.set (List.set (List.map zaa a0) (0+a1.toNat) (zaa c0)) (0+a3.toNat) (zaa c1)) (0+x12.toNat) (zaa c16)) (0+a1.toNat) (zaa c17),false⟩)]))
 (chk ((0:Int)≤x12)<|
 chk ((x12:Int) < ((↑(List.map zaa a0).length:Int)))<|
 elemD zab (List.set (List.set (List.map zaa a0) (0+a1.toNat) (zaa c0)) (0+a3.toNat) (zaa c1)) (0+x12.toNat) fun (c20:GRatio) =>
 chk ((0:Int)≤x4)<|
 chk ((x4:Int) < ((↑(List.map zaa a0).length:Int)))<|
 elemD zab (List.set (List.set (List.map zaa a0) (0+a1.toNat) (zaa c0)) (0+a3.toNat) (zaa c1)) (0+x4.toNat) fun (c21:GRatio) =>
 chk ((0:Int)≤x4)<|
 chk ((x4:Int) < ((↑(List.map zaa a0).length:Int)))<|
 elemD zab (List.set (List.set (List.map zaa a0) (0+a1.toNat) (zaa c0)) (0+a3.toNat) (zaa c1)) (0+x4.toNat) fun (c22:GRatio) =>
 chk ((0:Int)≤x12)<|
 chk ((x12:Int) < ((↑(List.map zaa a0).length:Int)))<|
 elemD zab (List.set (List.set (List.set (List.map zaa a0) (0+a1.toNat) (zaa c0)) (0+a3.toNat) (zaa c1)) (0+x4.toNat) (zaa c20)) (0+x12.toNat) fun (c23:GRatio) =>
 zcw a0 a1 (List.set (List.set (List.set (List.set (List.map zaa a0) (0+a1.toNat) (zaa c0)) (0+a3.toNat) (zaa c1)) (0+x4.toNat) (zaa c20)) (0+x12.toNat) (zaa c21)) (w64 (x4+1)) (w64 (x12 - 1))))=some y):zaU a0 a1 a2 a3 c0 c1 c2 c3 x4 x12=some y:=
 pt_of zT [17,7] (by kernel_rfl) h
theorem ze4 (a0:List GRatio) (a1:Int) (x24:List (List AV)) (x25:Int) (x26:Int) {y:AV×Mem} (h:(
 zcv a0 a1 x24 x26 x25)=some y):zcw a0 a1 x24 x25 x26=some y:=
 pt_of zT [17,7] (by kernel_rfl) h
theorem ze3 (a0:List GRatio) (a1:Int) (x24:List (List AV)) (x26:Int) (x27:Int) {y:AV×Mem} (h:(
 brn (decide (x27≤x26)) (chk ((0:Int)≤x27)<|
 chk ((x27:Int) < ((↑(List.map zaa a0).length:Int)))<|
 elemD zab x24 (0+x27.toNat) fun (c28:GRatio) =>
 chk ((0:Int)≤a1)<|
 chk ((a1:Int) < ((↑(List.map zaa a0).length:Int)))<|
 elemD zab x24 (0+a1.toNat) fun (c29:GRatio) =>
 callD zaz (cw zad [AV.agg (zaa c28),AV.agg (zaa c29)] []) fun (r30:Int) =>
 brn (decide (r30 < 0)) (zcv a0 a1 x24 x26 (w64 (x27+1)))
 (zbx a0 a1 x24 x26 x27))
 (zbx a0 a1 x24 x26 x27))=some y):zcv a0 a1 x24 x26 x27=some y:=
 pt_of zT [17,7] (by kernel_rfl) h
theorem zi3 (a0:List GRatio) (a1:Int) (x24:List (List AV)) (x26:Int) (x27:Int) {y:AV×Mem} (h:(
 brn (decide (x27≤x26)) (chk ((0:Int)≤x26)<|
 chk ((x26:Int) < ((↑(List.map zaa a0).length:Int)))<|
 elemD zab x24 (0+x26.toNat) fun (c31:GRatio) =>
 chk ((0:Int)≤a1)<|
 chk ((a1:Int) < ((↑(List.map zaa a0).length:Int)))<|
 elemD zab x24 (0+a1.toNat) fun (c32:GRatio) =>
 callD zaz (cw zad [AV.agg (zaa c31),AV.agg (zaa c32)] []) fun (r33:Int) =>
 brn (!decide (r33 < 0)) (zce a0 a1 x24 x27 (w64 (x26 - 1)))
 (zaT a0 a1 x24 x27 x26))
 (zaT a0 a1 x24 x27 x26))=some y):zbx a0 a1 x24 x26 x27=some y:=
 pt_of zT [17,7] (by kernel_rfl) h
theorem zeJ (a0:List GRatio) (a1:Int) (x24:List (List AV)) (x27:Int) (x34:Int) {y:AV×Mem} (h:(
 brn (decide (x27≤x34)) (chk ((0:Int)≤x34)<|
 chk ((x34:Int) < ((↑(List.map zaa a0).length:Int)))<|
 elemD zab x24 (0+x34.toNat) fun (c36:GRatio) =>
 chk ((0:Int)≤a1)<|
 chk ((a1:Int) < ((↑(List.map zaa a0).length:Int)))<|
 elemD zab x24 (0+a1.toNat) fun (c37:GRatio) =>
 callD zaz (cw zad [AV.agg (zaa c36),AV.agg (zaa c37)] []) fun (r38:Int) =>
 brn (!decide (r38 < 0)) (zce a0 a1 x24 x27 (w64 (x34 - 1)))
 (zaT a0 a1 x24 x27 x34))
 (zaT a0 a1 x24 x27 x34))=some y):zce a0 a1 x24 x27 x34=some y:=
 pt_of zT [17,7] (by kernel_rfl) h
theorem zeo (a0:List GRatio) (a1:Int) (x24:List (List AV)) (x27:Int) (x35:Int) {y:AV×Mem} (h:(
 brn (decide (x35 < x27)) (chk ((0:Int)≤a1)<|
 chk ((a1:Int) < ((↑(List.map zaa a0).length:Int)))<|
 elemD zab x24 (0+a1.toNat) fun (c39:GRatio) =>
 chk ((0:Int)≤x35)<|
 chk ((x35:Int) < ((↑(List.map zaa a0).length:Int)))<|
 elemD zab x24 (0+x35.toNat) fun (c40:GRatio) =>
 chk ((0:Int)≤x35)<|
 chk ((x35:Int) < ((↑(List.map zaa a0).length:Int)))<|
 elemD zab x24 (0+x35.toNat) fun (c41:GRatio) =>
 chk ((0:Int)≤a1)<|
 chk ((a1:Int) < ((↑(List.map zaa a0).length:Int)))<|
 elemD zab (List.set x24 (0+x35.toNat) (zaa c39)) (0+a1.toNat) fun (c42:GRatio) =>
 some (AV.tup [I x35,B false],[(1000,⟨2,zac,List.set (List.set x24 (0+x35.toNat) (zaa c39)) (0+a1.toNat) (zaa c40),false⟩)]))
 (chk ((0:Int)≤x35)<|
 chk ((x35:Int) < ((↑(List.map zaa a0).length:Int)))<|
 elemD zab x24 (0+x35.toNat) fun (c43:GRatio) =>
 chk ((0:Int)≤x27)<|
 chk ((x27:Int) < ((↑(List.map zaa a0).length:Int)))<|
 elemD zab x24 (0+x27.toNat) fun (c44:GRatio) =>
 chk ((0:Int)≤x27)<|
 chk ((x27:Int) < ((↑(List.map zaa a0).length:Int)))<|
 elemD zab x24 (0+x27.toNat) fun (c45:GRatio) =>
 chk ((0:Int)≤x35)<|
 chk ((x35:Int) < ((↑(List.map zaa a0).length:Int)))<|
 elemD zab (List.set x24 (0+x27.toNat) (zaa c43)) (0+x35.toNat) fun (c46:GRatio) =>
 zcw a0 a1 (List.set (List.set x24 (0+x27.toNat) (zaa c43)) (0+x35.toNat) (zaa c44)) (w64 (x27+1)) (w64 (x35 - 1))))=some y):zaT a0 a1 x24 x27 x35=some y:=
 pt_of zT [17,7] (by kernel_rfl) h
theorem zjD (a0:List GRatio) (a1:Int) (a2:Int) (a3:Int) {y:AV×Mem} (h:(
 chk ((0:Int)≤a3)<|
 chk ((a3:Int) < ((↑(List.map zaa a0).length:Int)))<|
 elemD zab (List.map zaa a0) (0+a3.toNat) fun (c0:GRatio) =>
 chk ((0:Int)≤a1)<|
 chk ((a1:Int) < ((↑(List.map zaa a0).length:Int)))<|
 elemD zab (List.map zaa a0) (0+a1.toNat) fun (c1:GRatio) =>
 chk ((0:Int)≤a1)<|
 chk ((a1:Int) < ((↑(List.map zaa a0).length:Int)))<|
 elemD zab (List.map zaa a0) (0+a1.toNat) fun (c2:GRatio) =>
 chk ((0:Int)≤a3)<|
 chk ((a3:Int) < ((↑(List.map zaa a0).length:Int)))<|
 elemD zab (List.set (List.map zaa a0) (0+a1.toNat) (zaa c0)) (0+a3.toNat) fun (c3:GRatio) =>
 zcx a0 a1 a2 a3 c0 c1 c2 c3 (w64 (a1+1)))=some y):cw zcK [AV.row 1000 2 0 (List.length (List.map zaa a0)),I a1,I a2,I a3,AV.fn zad []] [(1000,⟨2,zac,List.map zaa a0,false⟩)]=some y:=
 zai zaI zT [17,7] rfl (by kernel_rfl) (by kernel_rfl) (by kernel_rfl) (by kernel_rfl) (by kernel_rfl) h
abbrev zdQ:ByteArray:={ data:={ toList:=[0,1,2,2,3,3,3,3,4,4,4,4,4,4,4,4,5,5,5,5,5,5,5,5,5,5,5,5,5,5,5,5,6,6,6,6,6,6,6,6,6,6,6,6,6,6,6,6,6,6,6,6,6,6,6,6,6,6,6,6,6,6,6,6,7,7,7,7,7,7,7,7,7,7,7,7,7,7,7,7,7,7,7,7,7,7,7,7,7,7,7,7,7,7,7,7,7,7,7,7,7,7,7,7,7,7,7,7,7,7,7,7,7,7,7,7,7,7,7,7,7,7,7,7,7,7,7,7,8,8,8,8,8,8,8,8,8,8,8,8,8,8,8,8,8,8,8,8,8,8,8,8,8,8,8,8,8,8,8,8,8,8,8,8,8,8,8,8,8,8,8,8,8,8,8,8,8,8,8,8,8,8,8,8,8,8,8,8,8,8,8,8,8,8,8,8,8,8,8,8,8,8,8,8,8,8,8,8,8,8,8,8,8,8,8,8,8,8,8,8,8,8,8,8,8,8,8,8,8,8,8,8,8,8,8,8,8,8,8,8,8,8,8,8,8,8,8,8,8,8,8,8,8,8,8,8] } }
noncomputable def zmE (a0:Int):Option (AV×Mem):=pt zgb 1004 ⟨[(0,AV.v (.int .u64 (a0.fdiv (2 ^ Min.min (Int.toNat 32) 64)))),(2,I 32)],[]⟩
noncomputable def zlF (a0:Int):Option (AV×Mem):=pt zgb 1004 ⟨[(0,AV.v (.int .u64 a0)),(2,I 0),(4,B false)],[]⟩
noncomputable def zhj (x0:Int) (x1:Int):Option (AV×Mem):=pt zgb 1007 ⟨[(0,AV.v (.int .u64 x0)),(2,I x1)],[]⟩
noncomputable def zgq (x2:Int) (x3:Int):Option (AV×Mem):=pt zgb 1007 ⟨[(0,AV.v (.int .u64 x2)),(2,I x3),(8,B false)],[]⟩
noncomputable def zhm (x4:Int) (x5:Int):Option (AV×Mem):=pt zgb 1010 ⟨[(0,AV.v (.int .u64 x4)),(2,I x5)],[]⟩
noncomputable def zgo (x6:Int) (x7:Int):Option (AV×Mem):=pt zgb 1010 ⟨[(0,AV.v (.int .u64 x6)),(2,I x7),(14,B false)],[]⟩
theorem zrX (a0:Int) {y:AV×Mem} (h:(
 brn (decide (65536≤a0.fdiv (2 ^ Min.min (Int.toNat 32) 64))) (chk ((0:Int)≤16)<|
 zhj ((a0.fdiv (2 ^ Min.min (Int.toNat 32) 64)).fdiv (2 ^ Min.min (Int.toNat 16) 64)) (w64 (32+16)))
 (zgq (a0.fdiv (2 ^ Min.min (Int.toNat 32) 64)) 32))=some y):zmE a0=some y:=
 pt_of zT [10,7,4] (by kernel_rfl) h
theorem zqu (a0:Int) {y:AV×Mem} (h:(
 brn (decide (65536≤a0)) (chk ((0:Int)≤16)<|
 zhj (a0.fdiv (2 ^ Min.min (Int.toNat 16) 64)) (w64 (0+16)))
 (zgq a0 0))=some y):zlF a0=some y:=
 pt_of zT [10,7,4] (by kernel_rfl) h
theorem zrJ (x0:Int) (x1:Int) {y:AV×Mem} (h:(
 brn (decide (256≤x0)) (chk ((0:Int)≤8)<|
 zhm (x0.fdiv (2 ^ Min.min (Int.toNat 8) 64)) (w64 (x1+8)))
 (zgo x0 x1))=some y):zhj x0 x1=some y:=
 pt_of zT [10,7,4] (by kernel_rfl) h
theorem zqw (x2:Int) (x3:Int) {y:AV×Mem} (h:(
 brn (decide (256≤x2)) (chk ((0:Int)≤8)<|
 zhm (x2.fdiv (2 ^ Min.min (Int.toNat 8) 64)) (w64 (x3+8)))
 (zgo x2 x3))=some y):zgq x2 x3=some y:=
 pt_of zT [10,7,4] (by kernel_rfl) h
theorem zr1 (x4:Int) (x5:Int) {y:AV×Mem} (h:(
 chk ((0:Int)≤(IntKind.u8.wrap x4))<|
 chk ((IntKind.u8.wrap x4:Int) < (↑zdQ.size:Int))<|
 some (I (w64 (x5+w64 (strAt zdQ (IntKind.u8.wrap x4)))),[]))=some y):zhm x4 x5=some y:=
 pt_of zT [10,7,4] (by kernel_rfl) h
theorem zqy (x6:Int) (x7:Int) {y:AV×Mem} (h:(
 chk ((0:Int)≤(IntKind.u8.wrap x6))<|
 chk ((IntKind.u8.wrap x6:Int) < (↑zdQ.size:Int))<|
 some (I (w64 (x7+w64 (strAt zdQ (IntKind.u8.wrap x6)))),[]))=some y):zgo x6 x7=some y:=
 pt_of zT [10,7,4] (by kernel_rfl) h
theorem zxz (a0:Int) {y:AV×Mem} (h:(
 brn (decide (4294967296≤a0)) (chk ((0:Int)≤32)<|
 zmE a0)
 (zlF a0))=some y):cw zjy [AV.v (.int .u64 a0)] []=some y:=
 zai zgb zT [10,7,4] rfl (by kernel_rfl) (by kernel_rfl) (by kernel_rfl) (by kernel_rfl) (by kernel_rfl) h
theorem zpy (a0:Int) (a1:Int) {y:AV×Mem} (h:(
 callD zgQ (cw zgL [AV.v (.int .u64 a0)] []) fun (r0:Bool) =>
 callD zgQ (cw zgL [AV.v (.int .u64 a1)] []) fun (r1:Bool) =>
 brn r0 (brn r1 (some (I 0,[]))
 (some (I (-1),[])))
 (brn r1 (some (I 1,[]))
 (brn (decide (a0 < a1)) (some (I (-1),[]))
 (brn (decide (a1 < a0)) (some (I 1,[]))
 (some (I 0,[]))))))=some y):cw zfR [AV.v (.int .u64 a0),AV.v (.int .u64 a1)] []=some y:=
 zai zpp zT [] rfl (by kernel_rfl) (by kernel_rfl) (by kernel_rfl) (by kernel_rfl) (by kernel_rfl) h
noncomputable def zcG (a0:Gref01Wide) (a1:Gref01Wide) (x0:Gref01Wide) (x1:Gref01Wide) (x2:Int):Option (AV×Mem):=pt zht 1 ⟨[(2,AV.loc 2 2 0 0),(3,AV.loc 3 2 0 0),(4,AV.loc 4 2 0 0),(5,AV.loc 5 2 0 0),(6,AV.loc 6 2 0 0),(7,AV.loc 7 2 0 0),(8,I x2)],[(2,⟨2,zaM,[zah a0],true⟩),(3,⟨2,zaM,[zah a1],true⟩),(4,⟨2,zaM,[zah (⟨0,0⟩)],true⟩),(5,⟨2,zaM,[zah (⟨0,0⟩)],true⟩),(6,⟨2,zaM,[zah x0],true⟩),(7,⟨2,zaM,[zah x1],true⟩)]⟩
noncomputable def ziC (a0:Gref01Wide) (a1:Gref01Wide) (x0:Gref01Wide) (x1:Gref01Wide) (x2:Int):Option (AV×Mem):=pt zht 1010 ⟨[(2,AV.loc 2 2 0 0),(3,AV.loc 3 2 0 0),(4,AV.loc 4 2 0 0),(5,AV.loc 5 2 0 0),(6,AV.loc 6 2 0 0),(7,AV.loc 7 2 0 0),(8,I x2),(9,AV.v (.int .u64 (wu64 (↑((a0.Hi.fdiv (2 ^ Min.min (wu64 (w64 (x2 - 64))).toNat 64) % Int.ofNat (2 ^ 64)).toNat &&& (1 % Int.ofNat (2 ^ 64)).toNat):Int))))],[(2,⟨2,zaM,[zah a0],true⟩),(3,⟨2,zaM,[zah a1],true⟩),(4,⟨2,zaM,[zah (⟨0,0⟩)],true⟩),(5,⟨2,zaM,[zah (⟨0,0⟩)],true⟩),(6,⟨2,zaM,[zah x0],true⟩),(7,⟨2,zaM,[zah x1],true⟩)]⟩
noncomputable def zhx (a0:Gref01Wide) (a1:Gref01Wide) (x0:Gref01Wide) (x1:Gref01Wide) (x2:Int):Option (AV×Mem):=pt zht 1010 ⟨[(2,AV.loc 2 2 0 0),(3,AV.loc 3 2 0 0),(4,AV.loc 4 2 0 0),(5,AV.loc 5 2 0 0),(6,AV.loc 6 2 0 0),(7,AV.loc 7 2 0 0),(8,I x2),(9,AV.v (.int .u64 (wu64 (↑((a0.Lo.fdiv (2 ^ Min.min (wu64 (x2.tmod 64)).toNat 64) % Int.ofNat (2 ^ 64)).toNat &&& (1 % Int.ofNat (2 ^ 64)).toNat):Int)))),(45,B false)],[(2,⟨2,zaM,[zah a0],true⟩),(3,⟨2,zaM,[zah a1],true⟩),(4,⟨2,zaM,[zah (⟨0,0⟩)],true⟩),(5,⟨2,zaM,[zah (⟨0,0⟩)],true⟩),(6,⟨2,zaM,[zah x0],true⟩),(7,⟨2,zaM,[zah x1],true⟩)]⟩
noncomputable def zcM (a0:Gref01Wide) (a1:Gref01Wide) (x2:Int) (x5:Gref01Wide) (x6:Gref01Wide):Option (AV×Mem):=pt zht 1015 ⟨[(2,AV.loc 2 2 0 0),(3,AV.loc 3 2 0 0),(4,AV.loc 4 2 0 0),(5,AV.loc 5 2 0 0),(6,AV.loc 6 2 0 0),(7,AV.loc 7 2 0 0),(8,I x2),(72,B true)],[(2,⟨2,zaM,[zah a0],true⟩),(3,⟨2,zaM,[zah a1],true⟩),(4,⟨2,zaM,[zah (⟨0,0⟩)],true⟩),(5,⟨2,zaM,[zah (⟨0,0⟩)],true⟩),(6,⟨2,zaM,[zah x5],true⟩),(7,⟨2,zaM,[zah x6],true⟩)]⟩
theorem zna (a0:Gref01Wide) (a1:Gref01Wide) (x0:Gref01Wide) (x1:Gref01Wide) (x2:Int) {y:AV×Mem} (h:(
 brn (decide (0≤x2)) (chk ((64:Int)≠0)<|
 chk ((0:Int)≤(wu64 (x2.tmod 64)))<|
 brn (decide (64≤x2)) (chk ((0:Int)≤(wu64 (w64 (x2 - 64))))<|
 ziC a0 a1 x0 x1 x2)
 (zhx a0 a1 x0 x1 x2))
 (some (AV.tup [AV.agg (zah x0),AV.agg (zah x1)],[])))=some y):zcG a0 a1 x0 x1 x2=some y:=
 pt_of zT [15,10] (by kernel_rfl) h
theorem zqv (a0:Gref01Wide) (a1:Gref01Wide) (x0:Gref01Wide) (x1:Gref01Wide) (x2:Int) {y:AV×Mem} (h:(
 chk ((0:Int)≤63)<|
 callD zd3 (cw zeM [AV.agg (zah x1)] []) fun (r3:Gref01Wide) =>
 callD zd3 (cw zeM [AV.agg (zah x0)] []) fun (r4:Gref01Wide) =>
 brn (x1.Hi.fdiv (2 ^ Min.min (Int.toNat 63) 64) == 1) (zcM a0 a1 x2 r4 (⟨r3.Hi,wu64 (↑((r3.Lo % Int.ofNat (2 ^ 64)).toNat ||| (wu64 (↑((a0.Hi.fdiv (2 ^ Min.min (wu64 (w64 (x2 - 64))).toNat 64) % Int.ofNat (2 ^ 64)).toNat &&& (1 % Int.ofNat (2 ^ 64)).toNat):Int) % Int.ofNat (2 ^ 64)).toNat):Int)⟩))
 (callD zfB (cw zgB [AV.agg (zah (⟨r3.Hi,wu64 (↑((r3.Lo % Int.ofNat (2 ^ 64)).toNat ||| (wu64 (↑((a0.Hi.fdiv (2 ^ Min.min (wu64 (w64 (x2 - 64))).toNat 64) % Int.ofNat (2 ^ 64)).toNat &&& (1 % Int.ofNat (2 ^ 64)).toNat):Int) % Int.ofNat (2 ^ 64)).toNat):Int)⟩)),AV.agg (zah a1)] []) fun (r7:Int) =>
 brn (decide (0≤r7)) (zcM a0 a1 x2 r4 (⟨r3.Hi,wu64 (↑((r3.Lo % Int.ofNat (2 ^ 64)).toNat ||| (wu64 (↑((a0.Hi.fdiv (2 ^ Min.min (wu64 (w64 (x2 - 64))).toNat 64) % Int.ofNat (2 ^ 64)).toNat &&& (1 % Int.ofNat (2 ^ 64)).toNat):Int) % Int.ofNat (2 ^ 64)).toNat):Int)⟩))
 (zcG a0 a1 r4 (⟨r3.Hi,wu64 (↑((r3.Lo % Int.ofNat (2 ^ 64)).toNat ||| (wu64 (↑((a0.Hi.fdiv (2 ^ Min.min (wu64 (w64 (x2 - 64))).toNat 64) % Int.ofNat (2 ^ 64)).toNat &&& (1 % Int.ofNat (2 ^ 64)).toNat):Int) % Int.ofNat (2 ^ 64)).toNat):Int)⟩) (w64 (x2 - 1)))))=some y):ziC a0 a1 x0 x1 x2=some y:=
 pt_of zT [15,10] (by kernel_rfl) h
theorem zo2 (a0:Gref01Wide) (a1:Gref01Wide) (x0:Gref01Wide) (x1:Gref01Wide) (x2:Int) {y:AV×Mem} (h:(
 chk ((0:Int)≤63)<|
 callD zd3 (cw zeM [AV.agg (zah x1)] []) fun (r8:Gref01Wide) =>
 callD zd3 (cw zeM [AV.agg (zah x0)] []) fun (r9:Gref01Wide) =>
 brn (x1.Hi.fdiv (2 ^ Min.min (Int.toNat 63) 64) == 1) (zcM a0 a1 x2 r9 (⟨r8.Hi,wu64 (↑((r8.Lo % Int.ofNat (2 ^ 64)).toNat ||| (wu64 (↑((a0.Lo.fdiv (2 ^ Min.min (wu64 (x2.tmod 64)).toNat 64) % Int.ofNat (2 ^ 64)).toNat &&& (1 % Int.ofNat (2 ^ 64)).toNat):Int) % Int.ofNat (2 ^ 64)).toNat):Int)⟩))
 (callD zfB (cw zgB [AV.agg (zah (⟨r8.Hi,wu64 (↑((r8.Lo % Int.ofNat (2 ^ 64)).toNat ||| (wu64 (↑((a0.Lo.fdiv (2 ^ Min.min (wu64 (x2.tmod 64)).toNat 64) % Int.ofNat (2 ^ 64)).toNat &&& (1 % Int.ofNat (2 ^ 64)).toNat):Int) % Int.ofNat (2 ^ 64)).toNat):Int)⟩)),AV.agg (zah a1)] []) fun (r10:Int) =>
 brn (decide (0≤r10)) (zcM a0 a1 x2 r9 (⟨r8.Hi,wu64 (↑((r8.Lo % Int.ofNat (2 ^ 64)).toNat ||| (wu64 (↑((a0.Lo.fdiv (2 ^ Min.min (wu64 (x2.tmod 64)).toNat 64) % Int.ofNat (2 ^ 64)).toNat &&& (1 % Int.ofNat (2 ^ 64)).toNat):Int) % Int.ofNat (2 ^ 64)).toNat):Int)⟩))
 (zcG a0 a1 r9 (⟨r8.Hi,wu64 (↑((r8.Lo % Int.ofNat (2 ^ 64)).toNat ||| (wu64 (↑((a0.Lo.fdiv (2 ^ Min.min (wu64 (x2.tmod 64)).toNat 64) % Int.ofNat (2 ^ 64)).toNat &&& (1 % Int.ofNat (2 ^ 64)).toNat):Int) % Int.ofNat (2 ^ 64)).toNat):Int)⟩) (w64 (x2 - 1)))))=some y):zhx a0 a1 x0 x1 x2=some y:=
 pt_of zT [15,10] (by kernel_rfl) h
theorem zqr (a0:Gref01Wide) (a1:Gref01Wide) (x2:Int) (x5:Gref01Wide) (x6:Gref01Wide) {y:AV×Mem} (h:(
 callD zgD (cw zif [AV.agg (zah x6),AV.agg (zah a1)] []) fun (r11:Gref01Wide) =>
 zcG a0 a1 (⟨x5.Hi,wu64 (↑((x5.Lo % Int.ofNat (2 ^ 64)).toNat ||| (1 % Int.ofNat (2 ^ 64)).toNat):Int)⟩) r11 (w64 (x2 - 1)))=some y):zcM a0 a1 x2 x5 x6=some y:=
 pt_of zT [15,10] (by kernel_rfl) h
theorem zuv (a0:Gref01Wide) (a1:Gref01Wide) {y:AV×Mem} (h:(
 brn (a0.Hi == 0) (brn (a1.Hi == 0) (chk ((a1.Lo:Int)≠0)<|
 chk ((a1.Lo:Int)≠0)<|
 some (AV.tup [AV.agg (zah (⟨0,wu64 (a0.Lo.tdiv a1.Lo)⟩)),AV.agg (zah (⟨0,a0.Lo.tmod a1.Lo⟩))],[]))
 (zcG a0 a1 (⟨0,0⟩) (⟨0,0⟩) 127))
 (zcG a0 a1 (⟨0,0⟩) (⟨0,0⟩) 127))=some y):cw zhB [AV.agg (zah a0),AV.agg (zah a1)] []=some y:=
 zai zht zT [15,10] rfl (by kernel_rfl) (by kernel_rfl) (by kernel_rfl) (by kernel_rfl) (by kernel_rfl) h
theorem zrO (a0:GratioWide) (a1:GratioWide) {y:AV×Mem} (h:(
 brn (Int.ofNat ((a0.lo.toNat+a1.lo.toNat+Int.toNat 0) / 2 ^ 64) == 0) (some (AV.agg (zas (⟨Int.ofNat ((a0.hi.toNat+a1.hi.toNat+Int.toNat 0) % 2 ^ 64),Int.ofNat ((a0.lo.toNat+a1.lo.toNat+Int.toNat 0) % 2 ^ 64)⟩)),[]))
 (brn (Int.ofNat ((a0.lo.toNat+a1.lo.toNat+Int.toNat 0) / 2 ^ 64) == 1) (some (AV.agg (zas (⟨Int.ofNat ((a0.hi.toNat+a1.hi.toNat+Int.toNat 1) % 2 ^ 64),Int.ofNat ((a0.lo.toNat+a1.lo.toNat+Int.toNat 0) % 2 ^ 64)⟩)),[]))
 (none)))=some y):cw zjQ [AV.agg (zas a0),AV.agg (zas a1)] []=some y:=
 zai zrQ zT [] rfl (by kernel_rfl) (by kernel_rfl) (by kernel_rfl) (by kernel_rfl) (by kernel_rfl) h
theorem zq2 (a0:GratioWide) (a1:GratioWide) {y:AV×Mem} (h:(
 brn (Int.ofNat (if a0.lo.toNat < a1.lo.toNat+Int.toNat 0 then 1 else 0) == 0) (some (AV.agg (zas (⟨Int.ofNat ((a0.hi.toNat+2 ^ 64 - a1.hi.toNat - Int.toNat 0) % 2 ^ 64),Int.ofNat ((a0.lo.toNat+2 ^ 64 - a1.lo.toNat - Int.toNat 0) % 2 ^ 64)⟩)),[]))
 (brn (Int.ofNat (if a0.lo.toNat < a1.lo.toNat+Int.toNat 0 then 1 else 0) == 1) (some (AV.agg (zas (⟨Int.ofNat ((a0.hi.toNat+2 ^ 64 - a1.hi.toNat - Int.toNat 1) % 2 ^ 64),Int.ofNat ((a0.lo.toNat+2 ^ 64 - a1.lo.toNat - Int.toNat 0) % 2 ^ 64)⟩)),[]))
 (none)))=some y):cw zgH [AV.agg (zas a0),AV.agg (zas a1)] []=some y:=
 zai zqR zT [] rfl (by kernel_rfl) (by kernel_rfl) (by kernel_rfl) (by kernel_rfl) (by kernel_rfl) h
theorem zxk (a0:Int) (a1:Int) (a2:Int) {y:AV×Mem} (h:(
 chk ((a2:Int)≠0)<|
 callD zja (cw zjx [AV.v (.int .u64 (a0.tmod a2)),AV.v (.int .u64 a1),AV.v (.int .u64 a2)] []) fun (r0:Int×Int) =>
 some (AV.v (.int .u64 r0.snd),[]))=some y):cw zlq [AV.v (.int .u64 a0),AV.v (.int .u64 a1),AV.v (.int .u64 a2)] []=some y:=
 zai zwX zT [] rfl (by kernel_rfl) (by kernel_rfl) (by kernel_rfl) (by kernel_rfl) (by kernel_rfl) h
end Go.Proofs.YtbhkcgaanaelfaaGreat
