/- What the functions compute, between two cut points: printed by a program, checked by the kernel. -/
import Derived.Test.YtbhkcgaanaelfaaGreatAnn
namespace Go.Proofs.YtbhkcgaanaelfaaGreat
open Go.Ab
set_option maxRecDepth 100000
set_option linter.unusedVariables false
noncomputable def zcB (a0:List GRatio) (a1:Int) (a2:Int) (x0:List (List AV)) (x1:Int):Option (AV×Mem):=pt zdN 1 ⟨[(0,AV.row 1000 2 0 ((List.map zaa a0).length)),(3,AV.fn zad []),(8,I a1),(9,I 0),(10,I (w64 (a2 - a1))),(11,I x1)],[(1000,⟨2,zac,x0,false⟩)]⟩
noncomputable def zcA (a0:List GRatio) (a1:Int) (x3:List (List AV)) (x4:Int):Option (AV×Mem):=pt zdN 2 ⟨[(0,AV.row 1000 2 0 ((List.map zaa a0).length)),(3,AV.fn zad []),(8,I a1),(9,I 0),(12,I x4)],[(1000,⟨2,zac,x3,false⟩)]⟩
theorem zfk (a0:List GRatio) (a1:Int) (a2:Int) (x0:List (List AV)) (x1:Int) {y:AV×Mem} (h:(
 brn (decide (0≤x1)) (callD za7 (cw zbW [AV.row 1000 2 0 ((List.map zaa a0).length),I x1,I (w64 (a2 - a1)),I a1,AV.fn zad []] [(1000,⟨2,zac,x0,false⟩)]) fun (r2:(List GRatio)) =>
 zcB a0 a1 a2 (List.map zaa r2) (w64 (x1 - 1)))
 (zcA a0 a1 x0 (w64 (w64 (a2 - a1) - 1))))=some y):zcB a0 a1 a2 x0 x1=some y:=
 pt_of zT [] (by kernel_rfl) h
theorem zfh (a0:List GRatio) (a1:Int) (x3:List (List AV)) (x4:Int) {y:AV×Mem} (h:(
 brn (decide (0≤x4)) (chk ((0:Int)≤(w64 (a1+x4)))<|
 chk ((w64 (a1+x4):Int) < ((↑(List.map zaa a0).length:Int)))<|
 elemD zab x3 (0+(w64 (a1+x4)).toNat) fun (c5:GRatio) =>
 chk ((0:Int)≤a1)<|
 chk ((a1:Int) < ((↑(List.map zaa a0).length:Int)))<|
 elemD zab x3 (0+a1.toNat) fun (c6:GRatio) =>
 chk ((0:Int)≤a1)<|
 chk ((a1:Int) < ((↑(List.map zaa a0).length:Int)))<|
 elemD zab x3 (0+a1.toNat) fun (c7:GRatio) =>
 chk ((0:Int)≤(w64 (a1+x4)))<|
 chk ((w64 (a1+x4):Int) < ((↑(List.map zaa a0).length:Int)))<|
 elemD zab (List.set x3 (0+a1.toNat) (zaa c5)) (0+(w64 (a1+x4)).toNat) fun (c8:GRatio) =>
 callD za7 (cw zbW [AV.row 1000 2 0 ((List.map zaa a0).length),I 0,I x4,I a1,AV.fn zad []] [(1000,⟨2,zac,List.set (List.set x3 (0+a1.toNat) (zaa c5)) (0+(w64 (a1+x4)).toNat) (zaa c6),false⟩)]) fun (r9:(List GRatio)) =>
 zcA a0 a1 (List.map zaa r9) (w64 (x4 - 1)))
 (some (AV.tup [],[(1000,⟨2,zac,x3,false⟩)])))=some y):zcA a0 a1 x3 x4=some y:=
 pt_of zT [] (by kernel_rfl) h
theorem zjY (a0:List GRatio) (a1:Int) (a2:Int) {y:AV×Mem} (h:(
 chk ((2:Int)≠0)<|
 zcB a0 a1 a2 (List.map zaa a0) (w64 ((w64 (w64 (a2 - a1) - 1)).tdiv 2)))=some y):cw zdL [AV.row 1000 2 0 (List.length (List.map zaa a0)),I a1,I a2,AV.fn zad []] [(1000,⟨2,zac,List.map zaa a0,false⟩)]=some y:=
 zai zdN zT [] rfl (by kernel_rfl) (by kernel_rfl) (by kernel_rfl) (by kernel_rfl) (by kernel_rfl) h
noncomputable def zbj (a0:List GRatio) (a1:Int) (a2:Int) (r0:Int) (x1:Int) (x2:List (List AV)) (x3:Int):Option (AV×Mem):=pt zcc 1 ⟨[(0,AV.row 1000 2 0 ((List.map zaa a0).length)),(1,I a1),(8,I (w64 (a2 - a1))),(9,AV.loc 9 1 0 0),(10,AV.v (.int .u64 r0)),(11,I x3)],[(9,⟨1,zbI,[zll x1],true⟩),(1000,⟨2,zac,x2,false⟩)]⟩
noncomputable def zbF (a0:List GRatio) (a1:Int) (a2:Int) (r0:Int) (x2:List (List AV)) (x3:Int) (r4:Int×Int):Option (AV×Mem):=pt zcc 1010 ⟨[(0,AV.row 1000 2 0 ((List.map zaa a0).length)),(1,I a1),(8,I (w64 (a2 - a1))),(9,AV.loc 9 1 0 0),(10,AV.v (.int .u64 r0)),(11,I x3),(12,I (w64 (w64 (wu64 (↑((r4.fst % Int.ofNat (2 ^ 64)).toNat &&& (wu64 (r0 - 1) % Int.ofNat (2 ^ 64)).toNat):Int)) - w64 (a2 - a1))))],[(9,⟨1,zbI,[zll r4.snd],true⟩),(1000,⟨2,zac,x2,false⟩)]⟩
noncomputable def zdJ (a0:List GRatio) (a1:Int) (a2:Int) (r0:Int) (x2:List (List AV)) (x3:Int) (r4:Int×Int):Option (AV×Mem):=pt zcc 1010 ⟨[(0,AV.row 1000 2 0 ((List.map zaa a0).length)),(1,I a1),(8,I (w64 (a2 - a1))),(9,AV.loc 9 1 0 0),(10,AV.v (.int .u64 r0)),(11,I x3),(12,I (w64 (wu64 (↑((r4.fst % Int.ofNat (2 ^ 64)).toNat &&& (wu64 (r0 - 1) % Int.ofNat (2 ^ 64)).toNat):Int)))),(45,B false)],[(9,⟨1,zbI,[zll r4.snd],true⟩),(1000,⟨2,zac,x2,false⟩)]⟩
theorem zbS (a0:List GRatio) (a1:Int) (a2:Int) (r0:Int) (x1:Int) (x2:List (List AV)) (x3:Int) {y:AV×Mem} (h:(
 chk ((4:Int)≠0)<|
 brn (decide (x3≤w64 (w64 (a1+w64 (w64 ((w64 (a2 - a1)).tdiv 4)*2))+1))) (callD zgZ (cw zgW [AV.loc 1000 1 0 0] [(1000,⟨1,zbI,[zll x1],true⟩)]) fun (r4:Int×Int) =>
 brn (decide (w64 (a2 - a1)≤w64 (wu64 (↑((r4.fst % Int.ofNat (2 ^ 64)).toNat &&& (wu64 (r0 - 1) % Int.ofNat (2 ^ 64)).toNat):Int)))) (zbF a0 a1 a2 r0 x2 x3 r4)
 (zdJ a0 a1 a2 r0 x2 x3 r4))
 (some (AV.tup [],[(1000,⟨2,zac,x2,false⟩)])))=some y):zbj a0 a1 a2 r0 x1 x2 x3=some y:=
 pt_of zT [10] (by kernel_rfl) h
theorem zg0 (a0:List GRatio) (a1:Int) (a2:Int) (r0:Int) (x2:List (List AV)) (x3:Int) (r4:Int×Int) {y:AV×Mem} (h:(
 chk ((0:Int)≤(w64 (a1+w64 (w64 (wu64 (↑((r4.fst % Int.ofNat (2 ^ 64)).toNat &&& (wu64 (r0 - 1) % Int.ofNat (2 ^ 64)).toNat):Int)) - w64 (a2 - a1)))))<|
 chk ((w64 (a1+w64 (w64 (wu64 (↑((r4.fst % Int.ofNat (2 ^ 64)).toNat &&& (wu64 (r0 - 1) % Int.ofNat (2 ^ 64)).toNat):Int)) - w64 (a2 - a1))):Int) < ((↑(List.map zaa a0).length:Int)))<|
 elemD zab x2 (0+(w64 (a1+w64 (w64 (wu64 (↑((r4.fst % Int.ofNat (2 ^ 64)).toNat &&& (wu64 (r0 - 1) % Int.ofNat (2 ^ 64)).toNat):Int)) - w64 (a2 - a1)))).toNat) fun (c5:GRatio) =>
 chk ((0:Int)≤x3)<|
 chk ((x3:Int) < ((↑(List.map zaa a0).length:Int)))<|
 elemD zab x2 (0+x3.toNat) fun (c6:GRatio) =>
 chk ((0:Int)≤x3)<|
 chk ((x3:Int) < ((↑(List.map zaa a0).length:Int)))<|
 elemD zab x2 (0+x3.toNat) fun (c7:GRatio) =>
 chk ((0:Int)≤(w64 (a1+w64 (w64 (wu64 (↑((r4.fst % Int.ofNat (2 ^ 64)).toNat &&& (wu64 (r0 - 1) % Int.ofNat (2 ^ 64)).toNat):Int)) - w64 (a2 - a1)))))<|
 chk ((w64 (a1+w64 (w64 (wu64 (↑((r4.fst % Int.ofNat (2 ^ 64)).toNat &&& (wu64 (r0 - 1) % Int.ofNat (2 ^ 64)).toNat):Int)) - w64 (a2 - a1))):Int) < ((↑(List.map zaa a0).length:Int)))<|
 elemD zab (List.set x2 (0+x3.toNat) (zaa c5)) (0+(w64 (a1+w64 (w64 (wu64 (↑((r4.fst % Int.ofNat (2 ^ 64)).toNat &&& (wu64 (r0 - 1) % Int.ofNat (2 ^ 64)).toNat):Int)) - w64 (a2 - a1)))).toNat) fun (c8:GRatio) =>
 zbj a0 a1 a2 r0 r4.snd (List.set (List.set x2 (0+x3.toNat) (zaa c5)) (0+(w64 (a1+w64 (w64 (wu64 (↑((r4.fst % Int.ofNat (2 ^ 64)).toNat &&& (wu64 (r0 - 1) % Int.ofNat (2 ^ 64)).toNat):Int)) - w64 (a2 - a1)))).toNat) (zaa c6)) (w64 (x3+1)))=some y):zbF a0 a1 a2 r0 x2 x3 r4=some y:=
 pt_of zT [10] (by kernel_rfl) h
theorem zgu (a0:List GRatio) (a1:Int) (a2:Int) (r0:Int) (x2:List (List AV)) (x3:Int) (r4:Int×Int) {y:AV×Mem} (h:(
 chk ((0:Int)≤(w64 (a1+w64 (wu64 (↑((r4.fst % Int.ofNat (2 ^ 64)).toNat &&& (wu64 (r0 - 1) % Int.ofNat (2 ^ 64)).toNat):Int)))))<|
 chk ((w64 (a1+w64 (wu64 (↑((r4.fst % Int.ofNat (2 ^ 64)).toNat &&& (wu64 (r0 - 1) % Int.ofNat (2 ^ 64)).toNat):Int))):Int) < ((↑(List.map zaa a0).length:Int)))<|
 elemD zab x2 (0+(w64 (a1+w64 (wu64 (↑((r4.fst % Int.ofNat (2 ^ 64)).toNat &&& (wu64 (r0 - 1) % Int.ofNat (2 ^ 64)).toNat):Int)))).toNat) fun (c9:GRatio) =>
 chk ((0:Int)≤x3)<|
 chk ((x3:Int) < ((↑(List.map zaa a0).length:Int)))<|
 elemD zab x2 (0+x3.toNat) fun (c10:GRatio) =>
 chk ((0:Int)≤x3)<|
 chk ((x3:Int) < ((↑(List.map zaa a0).length:Int)))<|
 elemD zab x2 (0+x3.toNat) fun (c11:GRatio) =>
 chk ((0:Int)≤(w64 (a1+w64 (wu64 (↑((r4.fst % Int.ofNat (2 ^ 64)).toNat &&& (wu64 (r0 - 1) % Int.ofNat (2 ^ 64)).toNat):Int)))))<|
 chk ((w64 (a1+w64 (wu64 (↑((r4.fst % Int.ofNat (2 ^ 64)).toNat &&& (wu64 (r0 - 1) % Int.ofNat (2 ^ 64)).toNat):Int))):Int) < ((↑(List.map zaa a0).length:Int)))<|
 elemD zab (List.set x2 (0+x3.toNat) (zaa c9)) (0+(w64 (a1+w64 (wu64 (↑((r4.fst % Int.ofNat (2 ^ 64)).toNat &&& (wu64 (r0 - 1) % Int.ofNat (2 ^ 64)).toNat):Int)))).toNat) fun (c12:GRatio) =>
 zbj a0 a1 a2 r0 r4.snd (List.set (List.set x2 (0+x3.toNat) (zaa c9)) (0+(w64 (a1+w64 (wu64 (↑((r4.fst % Int.ofNat (2 ^ 64)).toNat &&& (wu64 (r0 - 1) % Int.ofNat (2 ^ 64)).toNat):Int)))).toNat) (zaa c10)) (w64 (x3+1)))=some y):zdJ a0 a1 a2 r0 x2 x3 r4=some y:=
 pt_of zT [10] (by kernel_rfl) h
theorem zeN (a0:List GRatio) (a1:Int) (a2:Int) {y:AV×Mem} (h:(
 brn (decide (8≤w64 (a2 - a1))) (callD zgw (cw zgt [I (w64 (a2 - a1))] []) fun (r0:Int) =>
 chk ((4:Int)≠0)<|
 zbj a0 a1 a2 r0 (wu64 (w64 (a2 - a1))) (List.map zaa a0) (w64 (w64 (a1+w64 (w64 ((w64 (a2 - a1)).tdiv 4)*2)) - 1)))
 (some (AV.tup [],[(1000,⟨2,zac,List.map zaa a0,false⟩)])))=some y):cw zc7 [AV.row 1000 2 0 (List.length (List.map zaa a0)),I a1,I a2,AV.fn zad []] [(1000,⟨2,zac,List.map zaa a0,false⟩)]=some y:=
 zai zcc zT [10] rfl (by kernel_rfl) (by kernel_rfl) (by kernel_rfl) (by kernel_rfl) (by kernel_rfl) h
noncomputable def zee (a0:List GRatio) (r0:Int×Int) (r1:Int×Int) (r2:Int×Int):Option (AV×Mem):=pt zdm 1011 ⟨[(0,AV.sl 2 (List.map zaa a0)),(3,AV.fn zad []),(11,AV.loc 11 1 0 0),(12,I r0.fst),(13,I r1.fst),(14,I r2.fst)],[(11,⟨1,zaF,[zaj r2.snd],true⟩)]⟩
noncomputable def zdY (a0:List GRatio) (a1:Int) (a2:Int):Option (AV×Mem):=pt zdm 1011 ⟨[(0,AV.sl 2 (List.map zaa a0)),(3,AV.fn zad []),(11,AV.loc 11 1 0 0),(12,I (w64 (a1+w64 (w64 ((w64 (a2 - a1)).tdiv 4)*1)))),(13,I (w64 (a1+w64 (w64 ((w64 (a2 - a1)).tdiv 4)*2)))),(14,I (w64 (a1+w64 (w64 ((w64 (a2 - a1)).tdiv 4)*3)))),(36,B false)],[(11,⟨1,zaF,[zaj 0],true⟩)]⟩
theorem zhw (a0:List GRatio) (r0:Int×Int) (r1:Int×Int) (r2:Int×Int) {y:AV×Mem} (h:(
 callD zch (cw zcn [AV.sl 2 (List.map zaa a0),I r0.fst,I r1.fst,I r2.fst,AV.loc 1004 1 0 0,AV.fn zad []] [(1004,⟨1,zaF,[zaj r2.snd],true⟩)]) fun (r3:Int×Int) =>
 brn (r3.snd == 0) (some (AV.tup [I r3.fst,I 1],[]))
 (brn (r3.snd == 12) (some (AV.tup [I r3.fst,I 2],[]))
 (some (AV.tup [I r3.fst,I 0],[]))))=some y):zee a0 r0 r1 r2=some y:=
 pt_of zT [11] (by kernel_rfl) h
theorem zg4 (a0:List GRatio) (a1:Int) (a2:Int) {y:AV×Mem} (h:(
 callD zch (cw zcn [AV.sl 2 (List.map zaa a0),I (w64 (a1+w64 (w64 ((w64 (a2 - a1)).tdiv 4)*1))),I (w64 (a1+w64 (w64 ((w64 (a2 - a1)).tdiv 4)*2))),I (w64 (a1+w64 (w64 ((w64 (a2 - a1)).tdiv 4)*3))),AV.loc 1004 1 0 0,AV.fn zad []] [(1004,⟨1,zaF,[zaj 0],true⟩)]) fun (r4:Int×Int) =>
 brn (r4.snd == 0) (some (AV.tup [I r4.fst,I 1],[]))
 (brn (r4.snd == 12) (some (AV.tup [I r4.fst,I 2],[]))
 (some (AV.tup [I r4.fst,I 0],[]))))=some y):zdY a0 a1 a2=some y:=
 pt_of zT [11] (by kernel_rfl) h
theorem zdk (a0:List GRatio) (a1:Int) (a2:Int) {y:AV×Mem} (h:(
 chk ((4:Int)≠0)<|
 chk ((4:Int)≠0)<|
 chk ((4:Int)≠0)<|
 brn (decide (8≤w64 (a2 - a1))) (brn (decide (50≤w64 (a2 - a1))) (callD zbl (cw zbn [AV.sl 2 (List.map zaa a0),I (w64 (a1+w64 (w64 ((w64 (a2 - a1)).tdiv 4)*1))),AV.loc 1002 1 0 0,AV.fn zad []] [(1002,⟨1,zaF,[zaj 0],true⟩)]) fun (r0:Int×Int) =>
 callD zbl (cw zbn [AV.sl 2 (List.map zaa a0),I (w64 (a1+w64 (w64 ((w64 (a2 - a1)).tdiv 4)*2))),AV.loc 1002 1 0 0,AV.fn zad []] [(1002,⟨1,zaF,[zaj r0.snd],true⟩)]) fun (r1:Int×Int) =>
 callD zbl (cw zbn [AV.sl 2 (List.map zaa a0),I (w64 (a1+w64 (w64 ((w64 (a2 - a1)).tdiv 4)*3))),AV.loc 1002 1 0 0,AV.fn zad []] [(1002,⟨1,zaF,[zaj r1.snd],true⟩)]) fun (r2:Int×Int) =>
 zee a0 r0 r1 r2)
 (zdY a0 a1 a2))
 (some (AV.tup [I (w64 (a1+w64 (w64 ((w64 (a2 - a1)).tdiv 4)*2))),I 1],[])))=some y):cw zcy [AV.sl 2 (List.map zaa a0),I a1,I a2,AV.fn zad []] []=some y:=
 zai zdm zT [11] rfl (by kernel_rfl) (by kernel_rfl) (by kernel_rfl) (by kernel_rfl) (by kernel_rfl) h
noncomputable def zb5 (a0:List GRatio) (x0:List (List AV)) (x1:Int) (x2:Int):Option (AV×Mem):=pt zeV 1 ⟨[(0,AV.row 1000 2 0 ((List.map zaa a0).length)),(8,I x1),(9,I x2)],[(1000,⟨2,zac,x0,false⟩)]⟩
theorem zeB (a0:List GRatio) (x0:List (List AV)) (x1:Int) (x2:Int) {y:AV×Mem} (h:(
 brn (decide (x1 < x2)) (chk ((0:Int)≤x2)<|
 chk ((x2:Int) < ((↑(List.map zaa a0).length:Int)))<|
 elemD zab x0 (0+x2.toNat) fun (c3:GRatio) =>
 chk ((0:Int)≤x1)<|
 chk ((x1:Int) < ((↑(List.map zaa a0).length:Int)))<|
 elemD zab x0 (0+x1.toNat) fun (c4:GRatio) =>
 chk ((0:Int)≤x1)<|
 chk ((x1:Int) < ((↑(List.map zaa a0).length:Int)))<|
 elemD zab x0 (0+x1.toNat) fun (c5:GRatio) =>
 chk ((0:Int)≤x2)<|
 chk ((x2:Int) < ((↑(List.map zaa a0).length:Int)))<|
 elemD zab (List.set x0 (0+x1.toNat) (zaa c3)) (0+x2.toNat) fun (c6:GRatio) =>
 zb5 a0 (List.set (List.set x0 (0+x1.toNat) (zaa c3)) (0+x2.toNat) (zaa c4)) (w64 (x1+1)) (w64 (x2 - 1)))
 (some (AV.tup [],[(1000,⟨2,zac,x0,false⟩)])))=some y):zb5 a0 x0 x1 x2=some y:=
 pt_of zT [] (by kernel_rfl) h
theorem ziL (a0:List GRatio) (a1:Int) (a2:Int) {y:AV×Mem} (h:(
 zb5 a0 (List.map zaa a0) a1 (w64 (a2 - 1)))=some y):cw zcr [AV.row 1000 2 0 (List.length (List.map zaa a0)),I a1,I a2,AV.fn zad []] [(1000,⟨2,zac,List.map zaa a0,false⟩)]=some y:=
 zai zeV zT [] rfl (by kernel_rfl) (by kernel_rfl) (by kernel_rfl) (by kernel_rfl) (by kernel_rfl) h
noncomputable def zat (a0:List GRatio) (a1:Int) (a2:Int) (x0:List (List AV)) (x1:Int) (x2:Int):Option (AV×Mem):=pt zaK 1 ⟨[(0,AV.row 1000 2 0 ((List.map zaa a0).length)),(1,I a1),(2,I a2),(3,AV.fn zad []),(9,I x1),(10,I x2)],[(1000,⟨2,zac,x0,false⟩)]⟩
noncomputable def zcj (a0:List GRatio) (a1:Int) (a2:Int) (x0:List (List AV)) (x1:Int) (x2:Int):Option (AV×Mem):=pt zaK 2 ⟨[(0,AV.row 1000 2 0 ((List.map zaa a0).length)),(1,I a1),(2,I a2),(3,AV.fn zad []),(9,I x1),(10,I x2),(16,B true)],[(1000,⟨2,zac,x0,false⟩)]⟩
noncomputable def zbh (a0:List GRatio) (a1:Int) (a2:Int) (x0:List (List AV)) (x2:Int) (x6:Int):Option (AV×Mem):=pt zaK 2 ⟨[(0,AV.row 1000 2 0 ((List.map zaa a0).length)),(1,I a1),(2,I a2),(3,AV.fn zad []),(9,I x6),(10,I x2)],[(1000,⟨2,zac,x0,false⟩)]⟩
noncomputable def zaH (a0:List GRatio) (a1:Int) (a2:Int) (x0:List (List AV)) (x2:Int) (x7:Int):Option (AV×Mem):=pt zaK 1007 ⟨[(0,AV.row 1000 2 0 ((List.map zaa a0).length)),(1,I a1),(2,I a2),(3,AV.fn zad []),(9,I x7),(10,I x2),(36,B false)],[(1000,⟨2,zac,x0,false⟩)]⟩
noncomputable def zbo (a0:List GRatio) (a1:Int) (a2:Int) (x2:Int) (x7:Int) (x15:List (List AV)) (x16:Int):Option (AV×Mem):=pt zaK 3 ⟨[(0,AV.row 1000 2 0 ((List.map zaa a0).length)),(1,I a1),(2,I a2),(3,AV.fn zad []),(9,I x7),(10,I x2),(11,I x16)],[(1000,⟨2,zac,x15,false⟩)]⟩
noncomputable def zaE (a0:List GRatio) (a1:Int) (a2:Int) (x2:Int) (x7:Int) (x17:List (List AV)) (x18:Int):Option (AV×Mem):=pt zaK 4 ⟨[(0,AV.row 1000 2 0 ((List.map zaa a0).length)),(1,I a1),(2,I a2),(3,AV.fn zad []),(9,I x7),(10,I x2),(12,I x18)],[(1000,⟨2,zac,x17,false⟩)]⟩
theorem zdA (a0:List GRatio) (a1:Int) (a2:Int) (x0:List (List AV)) (x1:Int) (x2:Int) {y:AV×Mem} (h:(
 brn (decide (x2 < 5)) (zcj a0 a1 a2 x0 x1 x2)
 (some (B false,[(1000,⟨2,zac,x0,false⟩)])))=some y):zat a0 a1 a2 x0 x1 x2=some y:=
 pt_of zT [7] (by kernel_rfl) h
theorem zgc (a0:List GRatio) (a1:Int) (a2:Int) (x0:List (List AV)) (x1:Int) (x2:Int) {y:AV×Mem} (h:(
 brn (decide (x1 < a2)) (chk ((0:Int)≤x1)<|
 chk ((x1:Int) < ((↑(List.map zaa a0).length:Int)))<|
 elemD zab x0 (0+x1.toNat) fun (c3:GRatio) =>
 chk ((0:Int)≤(w64 (x1 - 1)))<|
 chk ((w64 (x1 - 1):Int) < ((↑(List.map zaa a0).length:Int)))<|
 elemD zab x0 (0+(w64 (x1 - 1)).toNat) fun (c4:GRatio) =>
 callD zaz (cw zad [AV.agg (zaa c3),AV.agg (zaa c4)] []) fun (r5:Int) =>
 brn (!decide (r5 < 0)) (zbh a0 a1 a2 x0 x2 (w64 (x1+1)))
 (zaH a0 a1 a2 x0 x2 x1))
 (zaH a0 a1 a2 x0 x2 x1))=some y):zcj a0 a1 a2 x0 x1 x2=some y:=
 pt_of zT [7] (by kernel_rfl) h
theorem zdh (a0:List GRatio) (a1:Int) (a2:Int) (x0:List (List AV)) (x2:Int) (x6:Int) {y:AV×Mem} (h:(
 brn (decide (x6 < a2)) (chk ((0:Int)≤x6)<|
 chk ((x6:Int) < ((↑(List.map zaa a0).length:Int)))<|
 elemD zab x0 (0+x6.toNat) fun (c8:GRatio) =>
 chk ((0:Int)≤(w64 (x6 - 1)))<|
 chk ((w64 (x6 - 1):Int) < ((↑(List.map zaa a0).length:Int)))<|
 elemD zab x0 (0+(w64 (x6 - 1)).toNat) fun (c9:GRatio) =>
 callD zaz (cw zad [AV.agg (zaa c8),AV.agg (zaa c9)] []) fun (r10:Int) =>
 brn (!decide (r10 < 0)) (zbh a0 a1 a2 x0 x2 (w64 (x6+1)))
 (zaH a0 a1 a2 x0 x2 x6))
 (zaH a0 a1 a2 x0 x2 x6))=some y):zbh a0 a1 a2 x0 x2 x6=some y:=
 pt_of zT [7] (by kernel_rfl) h
theorem zfH (a0:List GRatio) (a1:Int) (a2:Int) (x0:List (List AV)) (x2:Int) (x7:Int) {y:AV×Mem} (h:(
 brn (x7 == a2) (some (B true,[(1000,⟨2,zac,x0,false⟩)]))
 (brn (decide (w64 (a2 - a1) < 50)) (some (B false,[(1000,⟨2,zac,x0,false⟩)]))
 (chk ((0:Int)≤(w64 (x7 - 1)))<|
 chk ((w64 (x7 - 1):Int) < ((↑(List.map zaa a0).length:Int)))<|
 elemD zab x0 (0+(w64 (x7 - 1)).toNat) fun (c11:GRatio) =>
 chk ((0:Int)≤x7)<|
 chk ((x7:Int) < ((↑(List.map zaa a0).length:Int)))<|
 elemD zab x0 (0+x7.toNat) fun (c12:GRatio) =>
 chk ((0:Int)≤x7)<|
 chk ((x7:Int) < ((↑(List.map zaa a0).length:Int)))<|
 elemD zab x0 (0+x7.toNat) fun (c13:GRatio) =>
 chk ((0:Int)≤(w64 (x7 - 1)))<|
 chk ((w64 (x7 - 1):Int) < ((↑(List.map zaa a0).length:Int)))<|
 elemD zab (List.set x0 (0+x7.toNat) (zaa c11)) (0+(w64 (x7 - 1)).toNat) fun (c14:GRatio) =>
 brn (decide (2≤w64 (x7 - a1))) (zbo a0 a1 a2 x2 x7 (List.set (List.set x0 (0+x7.toNat) (zaa c11)) (0+(w64 (x7 - 1)).toNat) (zaa c12)) (w64 (x7 - 1)))
 (brn (decide (2≤w64 (a2 - x7))) (zaE a0 a1 a2 x2 x7 (List.set (List.set x0 (0+x7.toNat) (zaa c11)) (0+(w64 (x7 - 1)).toNat) (zaa c12)) (w64 (x7+1)))
 (zat a0 a1 a2 (List.set (List.set x0 (0+x7.toNat) (zaa c11)) (0+(w64 (x7 - 1)).toNat) (zaa c12)) x7 (w64 (x2+1)))))))=some y):zaH a0 a1 a2 x0 x2 x7=some y:=
 pt_of zT [7] (by kernel_rfl) h
theorem zds (a0:List GRatio) (a1:Int) (a2:Int) (x2:Int) (x7:Int) (x15:List (List AV)) (x16:Int) {y:AV×Mem} (h:(
 brn (decide (1≤x16)) (chk ((0:Int)≤x16)<|
 chk ((x16:Int) < ((↑(List.map zaa a0).length:Int)))<|
 elemD zab x15 (0+x16.toNat) fun (c19:GRatio) =>
 chk ((0:Int)≤(w64 (x16 - 1)))<|
 chk ((w64 (x16 - 1):Int) < ((↑(List.map zaa a0).length:Int)))<|
 elemD zab x15 (0+(w64 (x16 - 1)).toNat) fun (c20:GRatio) =>
 callD zaz (cw zad [AV.agg (zaa c19),AV.agg (zaa c20)] []) fun (r21:Int) =>
 brn (!decide (r21 < 0)) (brn (decide (2≤w64 (a2 - x7))) (zaE a0 a1 a2 x2 x7 x15 (w64 (x7+1)))
 (zat a0 a1 a2 x15 x7 (w64 (x2+1))))
 (chk ((0:Int)≤(w64 (x16 - 1)))<|
 chk ((w64 (x16 - 1):Int) < ((↑(List.map zaa a0).length:Int)))<|
 elemD zab x15 (0+(w64 (x16 - 1)).toNat) fun (c22:GRatio) =>
 chk ((0:Int)≤x16)<|
 chk ((x16:Int) < ((↑(List.map zaa a0).length:Int)))<|
 elemD zab x15 (0+x16.toNat) fun (c23:GRatio) =>
 chk ((0:Int)≤x16)<|
 chk ((x16:Int) < ((↑(List.map zaa a0).length:Int)))<|
 elemD zab x15 (0+x16.toNat) fun (c24:GRatio) =>
 chk ((0:Int)≤(w64 (x16 - 1)))<|
 chk ((w64 (x16 - 1):Int) < ((↑(List.map zaa a0).length:Int)))<|
 elemD zab (List.set x15 (0+x16.toNat) (zaa c22)) (0+(w64 (x16 - 1)).toNat) fun (c25:GRatio) =>
 zbo a0 a1 a2 x2 x7 (List.set (List.set x15 (0+x16.toNat) (zaa c22)) (0+(w64 (x16 - 1)).toNat) (zaa c23)) (w64 (x16 - 1))))
 (brn (decide (2≤w64 (a2 - x7))) (zaE a0 a1 a2 x2 x7 x15 (w64 (x7+1)))
 (zat a0 a1 a2 x15 x7 (w64 (x2+1)))))=some y):zbo a0 a1 a2 x2 x7 x15 x16=some y:=
 pt_of zT [7] (by kernel_rfl) h
theorem zdx (a0:List GRatio) (a1:Int) (a2:Int) (x2:Int) (x7:Int) (x17:List (List AV)) (x18:Int) {y:AV×Mem} (h:(
 brn (decide (x18 < a2)) (chk ((0:Int)≤x18)<|
 chk ((x18:Int) < ((↑(List.map zaa a0).length:Int)))<|
 elemD zab x17 (0+x18.toNat) fun (c26:GRatio) =>
 chk ((0:Int)≤(w64 (x18 - 1)))<|
 chk ((w64 (x18 - 1):Int) < ((↑(List.map zaa a0).length:Int)))<|
 elemD zab x17 (0+(w64 (x18 - 1)).toNat) fun (c27:GRatio) =>
 callD zaz (cw zad [AV.agg (zaa c26),AV.agg (zaa c27)] []) fun (r28:Int) =>
 brn (!decide (r28 < 0)) (zat a0 a1 a2 x17 x7 (w64 (x2+1)))
 (chk ((0:Int)≤(w64 (x18 - 1)))<|
 chk ((w64 (x18 - 1):Int) < ((↑(List.map zaa a0).length:Int)))<|
 elemD zab x17 (0+(w64 (x18 - 1)).toNat) fun (c29:GRatio) =>
 chk ((0:Int)≤x18)<|
 chk ((x18:Int) < ((↑(List.map zaa a0).length:Int)))<|
 elemD zab x17 (0+x18.toNat) fun (c30:GRatio) =>
 chk ((0:Int)≤x18)<|
 chk ((x18:Int) < ((↑(List.map zaa a0).length:Int)))<|
 elemD zab x17 (0+x18.toNat) fun (c31:GRatio) =>
 chk ((0:Int)≤(w64 (x18 - 1)))<|
 chk ((w64 (x18 - 1):Int) < ((↑(List.map zaa a0).length:Int)))<|
 elemD zab (List.set x17 (0+x18.toNat) (zaa c29)) (0+(w64 (x18 - 1)).toNat) fun (c32:GRatio) =>
 zaE a0 a1 a2 x2 x7 (List.set (List.set x17 (0+x18.toNat) (zaa c29)) (0+(w64 (x18 - 1)).toNat) (zaa c30)) (w64 (x18+1))))
 (zat a0 a1 a2 x17 x7 (w64 (x2+1))))=some y):zaE a0 a1 a2 x2 x7 x17 x18=some y:=
 pt_of zT [7] (by kernel_rfl) h
theorem zgy (a0:List GRatio) (a1:Int) (a2:Int) {y:AV×Mem} (h:(
 zat a0 a1 a2 (List.map zaa a0) (w64 (a1+1)) 0)=some y):cw zbt [AV.row 1000 2 0 (List.length (List.map zaa a0)),I a1,I a2,AV.fn zad []] [(1000,⟨2,zac,List.map zaa a0,false⟩)]=some y:=
 zai zaK zT [7] rfl (by kernel_rfl) (by kernel_rfl) (by kernel_rfl) (by kernel_rfl) (by kernel_rfl) h
noncomputable def zbM (a0:List GRatio) (a1:Int) (x4:List (List AV)) (x5:Int) (x6:Int):Option (AV×Mem):=pt za4 1 ⟨[(0,AV.row 1000 2 0 ((List.map zaa a0).length)),(1,I a1),(4,AV.fn zad []),(11,I x5),(12,I x6)],[(1000,⟨2,zac,x4,false⟩)]⟩
noncomputable def zbN (a0:List GRatio) (a1:Int) (x4:List (List AV)) (x6:Int) (x7:Int):Option (AV×Mem):=pt za4 2 ⟨[(0,AV.row 1000 2 0 ((List.map zaa a0).length)),(1,I a1),(4,AV.fn zad []),(11,I x7),(12,I x6)],[(1000,⟨2,zac,x4,false⟩)]⟩
noncomputable def zbg (a0:List GRatio) (a1:Int) (x4:List (List AV)) (x6:Int) (x7:Int):Option (AV×Mem):=pt za4 3 ⟨[(0,AV.row 1000 2 0 ((List.map zaa a0).length)),(1,I a1),(4,AV.fn zad []),(11,I x7),(12,I x6),(47,B false)],[(1000,⟨2,zac,x4,false⟩)]⟩
noncomputable def zbE (a0:List GRatio) (a1:Int) (x4:List (List AV)) (x7:Int) (x14:Int):Option (AV×Mem):=pt za4 3 ⟨[(0,AV.row 1000 2 0 ((List.map zaa a0).length)),(1,I a1),(4,AV.fn zad []),(11,I x7),(12,I x14)],[(1000,⟨2,zac,x4,false⟩)]⟩
noncomputable def zaN (a0:List GRatio) (a1:Int) (x4:List (List AV)) (x7:Int) (x15:Int):Option (AV×Mem):=pt za4 1007 ⟨[(0,AV.row 1000 2 0 ((List.map zaa a0).length)),(1,I a1),(4,AV.fn zad []),(11,I x7),(12,I x15),(65,B false)],[(1000,⟨2,zac,x4,false⟩)]⟩
theorem zea (a0:List GRatio) (a1:Int) (x4:List (List AV)) (x5:Int) (x6:Int) {y:AV×Mem} (h:(
 zbN a0 a1 x4 x6 x5)=some y):zbM a0 a1 x4 x5 x6=some y:=
 pt_of zT [7] (by kernel_rfl) h
theorem zed (a0:List GRatio) (a1:Int) (x4:List (List AV)) (x6:Int) (x7:Int) {y:AV×Mem} (h:(
 brn (decide (x7≤x6)) (chk ((0:Int)≤a1)<|
 chk ((a1:Int) < ((↑(List.map zaa a0).length:Int)))<|
 elemD zab x4 (0+a1.toNat) fun (c8:GRatio) =>
 chk ((0:Int)≤x7)<|
 chk ((x7:Int) < ((↑(List.map zaa a0).length:Int)))<|
 elemD zab x4 (0+x7.toNat) fun (c9:GRatio) =>
 callD zaz (cw zad [AV.agg (zaa c8),AV.agg (zaa c9)] []) fun (r10:Int) =>
 brn (!decide (r10 < 0)) (zbN a0 a1 x4 x6 (w64 (x7+1)))
 (zbg a0 a1 x4 x6 x7))
 (zbg a0 a1 x4 x6 x7))=some y):zbN a0 a1 x4 x6 x7=some y:=
 pt_of zT [7] (by kernel_rfl) h
theorem zhz (a0:List GRatio) (a1:Int) (x4:List (List AV)) (x6:Int) (x7:Int) {y:AV×Mem} (h:(
 brn (decide (x7≤x6)) (chk ((0:Int)≤a1)<|
 chk ((a1:Int) < ((↑(List.map zaa a0).length:Int)))<|
 elemD zab x4 (0+a1.toNat) fun (c11:GRatio) =>
 chk ((0:Int)≤x6)<|
 chk ((x6:Int) < ((↑(List.map zaa a0).length:Int)))<|
 elemD zab x4 (0+x6.toNat) fun (c12:GRatio) =>
 callD zaz (cw zad [AV.agg (zaa c11),AV.agg (zaa c12)] []) fun (r13:Int) =>
 brn (decide (r13 < 0)) (zbE a0 a1 x4 x7 (w64 (x6 - 1)))
 (zaN a0 a1 x4 x7 x6))
 (zaN a0 a1 x4 x7 x6))=some y):zbg a0 a1 x4 x6 x7=some y:=
 pt_of zT [7] (by kernel_rfl) h
theorem zdX (a0:List GRatio) (a1:Int) (x4:List (List AV)) (x7:Int) (x14:Int) {y:AV×Mem} (h:(
 brn (decide (x7≤x14)) (chk ((0:Int)≤a1)<|
 chk ((a1:Int) < ((↑(List.map zaa a0).length:Int)))<|
 elemD zab x4 (0+a1.toNat) fun (c16:GRatio) =>
 chk ((0:Int)≤x14)<|
 chk ((x14:Int) < ((↑(List.map zaa a0).length:Int)))<|
 elemD zab x4 (0+x14.toNat) fun (c17:GRatio) =>
 callD zaz (cw zad [AV.agg (zaa c16),AV.agg (zaa c17)] []) fun (r18:Int) =>
 brn (decide (r18 < 0)) (zbE a0 a1 x4 x7 (w64 (x14 - 1)))
 (zaN a0 a1 x4 x7 x14))
 (zaN a0 a1 x4 x7 x14))=some y):zbE a0 a1 x4 x7 x14=some y:=
 pt_of zT [7] (by kernel_rfl) h
theorem zdP (a0:List GRatio) (a1:Int) (x4:List (List AV)) (x7:Int) (x15:Int) {y:AV×Mem} (h:(
 brn (decide (x15 < x7)) (some (I x7,[(1000,⟨2,zac,x4,false⟩)]))
 (chk ((0:Int)≤x15)<|
 chk ((x15:Int) < ((↑(List.map zaa a0).length:Int)))<|
 elemD zab x4 (0+x15.toNat) fun (c19:GRatio) =>
 chk ((0:Int)≤x7)<|
 chk ((x7:Int) < ((↑(List.map zaa a0).length:Int)))<|
 elemD zab x4 (0+x7.toNat) fun (c20:GRatio) =>
 chk ((0:Int)≤x7)<|
 chk ((x7:Int) < ((↑(List.map zaa a0).length:Int)))<|
 elemD zab x4 (0+x7.toNat) fun (c21:GRatio) =>
 chk ((0:Int)≤x15)<|
 chk ((x15:Int) < ((↑(List.map zaa a0).length:Int)))<|
 elemD zab (List.set x4 (0+x7.toNat) (zaa c19)) (0+x15.toNat) fun (c22:GRatio) =>
 zbM a0 a1 (List.set (List.set x4 (0+x7.toNat) (zaa c19)) (0+x15.toNat) (zaa c20)) (w64 (x7+1)) (w64 (x15 - 1))))=some y):zaN a0 a1 x4 x7 x15=some y:=
 pt_of zT [7] (by kernel_rfl) h
theorem zhQ (a0:List GRatio) (a1:Int) (a2:Int) (a3:Int) {y:AV×Mem} (h:(
 chk ((0:Int)≤a3)<|
 chk ((a3:Int) < ((↑(List.map zaa a0).length:Int)))<|
 elemD zab (List.map zaa a0) (0+a3.toNat) fun (c0:GRatio) =>
 chk ((0:Int)≤a1)<|
 chk ((a1:Int) < ((↑(List.map zaa a0).length:Int)))<|
 elemD zab (List.map zaa a0) (0+a1.toNat) fun (c1:GRatio) =>
 chk ((0:Int)≤a1)<|
 chk ((a1:Int) < ((↑(List.map zaa a0).length:Int)))<|
 elemD zab (List.map zaa a0) (0+a1.toNat) fun (c2:GRatio) =>
 chk ((0:Int)≤a3)<|
 chk ((a3:Int) < ((↑(List.map zaa a0).length:Int)))<|
 elemD zab (List.set (List.map zaa a0) (0+a1.toNat) (zaa c0)) (0+a3.toNat) fun (c3:GRatio) =>
 zbM a0 a1 (List.set (List.set (List.map zaa a0) (0+a1.toNat) (zaa c0)) (0+a3.toNat) (zaa c1)) (w64 (a1+1)) (w64 (a2 - 1)))=some y):cw zb4 [AV.row 1000 2 0 (List.length (List.map zaa a0)),I a1,I a2,I a3,AV.fn zad []] [(1000,⟨2,zac,List.map zaa a0,false⟩)]=some y:=
 zai za4 zT [7] rfl (by kernel_rfl) (by kernel_rfl) (by kernel_rfl) (by kernel_rfl) (by kernel_rfl) h
end Go.Proofs.YtbhkcgaanaelfaaGreat
