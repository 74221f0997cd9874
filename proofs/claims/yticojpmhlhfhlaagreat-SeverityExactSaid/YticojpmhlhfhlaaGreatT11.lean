/- What the functions compute, between two cut points: printed by a program, checked by the kernel. -/
import Derived.Test.YticojpmhlhfhlaaGreatAnn
namespace Go.Proofs.YticojpmhlhfhlaaGreat
open Go.Ab
set_option maxRecDepth 100000
set_option linter.unusedVariables false
noncomputable def zaP (a0:List Int) (a1:Int) (a2:Int) (s:List GRatio) (x0:List (List AV)) (x1:Int) (x2:Int):Option (AV×Mem):=pt zbd 1 ⟨[(0,AV.row 1000 1 0 ((List.map zaa a0).length)),(1,I a1),(2,I a2),(3,AV.fn zaf [AV.fa 2 (List.map zae s)]),(9,I x1),(10,I x2)],[(1000,⟨1,zaj,x0,false⟩)]⟩
noncomputable def zcO (a0:List Int) (a1:Int) (a2:Int) (s:List GRatio) (x0:List (List AV)) (x1:Int) (x2:Int):Option (AV×Mem):=pt zbd 2 ⟨[(0,AV.row 1000 1 0 ((List.map zaa a0).length)),(1,I a1),(2,I a2),(3,AV.fn zaf [AV.fa 2 (List.map zae s)]),(9,I x1),(10,I x2),(16,B true)],[(1000,⟨1,zaj,x0,false⟩)]⟩
noncomputable def zbV (a0:List Int) (a1:Int) (a2:Int) (s:List GRatio) (x0:List (List AV)) (x2:Int) (x6:Int):Option (AV×Mem):=pt zbd 2 ⟨[(0,AV.row 1000 1 0 ((List.map zaa a0).length)),(1,I a1),(2,I a2),(3,AV.fn zaf [AV.fa 2 (List.map zae s)]),(9,I x6),(10,I x2)],[(1000,⟨1,zaj,x0,false⟩)]⟩
noncomputable def za3 (a0:List Int) (a1:Int) (a2:Int) (s:List GRatio) (x0:List (List AV)) (x2:Int) (x7:Int):Option (AV×Mem):=pt zbd 1007 ⟨[(0,AV.row 1000 1 0 ((List.map zaa a0).length)),(1,I a1),(2,I a2),(3,AV.fn zaf [AV.fa 2 (List.map zae s)]),(9,I x7),(10,I x2),(36,B false)],[(1000,⟨1,zaj,x0,false⟩)]⟩
noncomputable def zb3 (a0:List Int) (a1:Int) (a2:Int) (s:List GRatio) (x2:Int) (x7:Int) (x15:List (List AV)) (x16:Int):Option (AV×Mem):=pt zbd 3 ⟨[(0,AV.row 1000 1 0 ((List.map zaa a0).length)),(1,I a1),(2,I a2),(3,AV.fn zaf [AV.fa 2 (List.map zae s)]),(9,I x7),(10,I x2),(11,I x16)],[(1000,⟨1,zaj,x15,false⟩)]⟩
noncomputable def za1 (a0:List Int) (a1:Int) (a2:Int) (s:List GRatio) (x2:Int) (x7:Int) (x17:List (List AV)) (x18:Int):Option (AV×Mem):=pt zbd 4 ⟨[(0,AV.row 1000 1 0 ((List.map zaa a0).length)),(1,I a1),(2,I a2),(3,AV.fn zaf [AV.fa 2 (List.map zae s)]),(9,I x7),(10,I x2),(12,I x18)],[(1000,⟨1,zaj,x17,false⟩)]⟩
theorem zeG (a0:List Int) (a1:Int) (a2:Int) (s:List GRatio) (x0:List (List AV)) (x1:Int) (x2:Int) {y:AV×Mem} (h:(
 brn (decide (x2 < 5)) (zcO a0 a1 a2 s x0 x1 x2)
 (some (B false,[(1000,⟨1,zaj,x0,false⟩)])))=some y):zaP a0 a1 a2 s x0 x1 x2=some y:=
 pt_of zT [7] (by kernel_rfl) h
theorem zjR (a0:List Int) (a1:Int) (a2:Int) (s:List GRatio) (x0:List (List AV)) (x1:Int) (x2:Int) {y:AV×Mem} (h:(
 brn (decide (x1 < a2)) (chk ((0:Int)≤x1)<|
 chk ((x1:Int) < ((↑(List.map zaa a0).length:Int)))<|
 elemD zag x0 (0+x1.toNat) fun (c3:Int) =>
 chk ((0:Int)≤(w64 (x1 - 1)))<|
 chk ((w64 (x1 - 1):Int) < ((↑(List.map zaa a0).length:Int)))<|
 elemD zag x0 (0+(w64 (x1 - 1)).toNat) fun (c4:Int) =>
 callD zaV (cw zaf [I c3,I c4,AV.fa 2 (List.map zae s)] []) fun (r5:Int) =>
 brn (!decide (r5 < 0)) (zbV a0 a1 a2 s x0 x2 (w64 (x1+1)))
 (za3 a0 a1 a2 s x0 x2 x1))
 (za3 a0 a1 a2 s x0 x2 x1))=some y):zcO a0 a1 a2 s x0 x1 x2=some y:=
 pt_of zT [7] (by kernel_rfl) h
theorem zeb (a0:List Int) (a1:Int) (a2:Int) (s:List GRatio) (x0:List (List AV)) (x2:Int) (x6:Int) {y:AV×Mem} (h:(
 brn (decide (x6 < a2)) (chk ((0:Int)≤x6)<|
 chk ((x6:Int) < ((↑(List.map zaa a0).length:Int)))<|
 elemD zag x0 (0+x6.toNat) fun (c8:Int) =>
 chk ((0:Int)≤(w64 (x6 - 1)))<|
 chk ((w64 (x6 - 1):Int) < ((↑(List.map zaa a0).length:Int)))<|
 elemD zag x0 (0+(w64 (x6 - 1)).toNat) fun (c9:Int) =>
 callD zaV (cw zaf [I c8,I c9,AV.fa 2 (List.map zae s)] []) fun (r10:Int) =>
 brn (!decide (r10 < 0)) (zbV a0 a1 a2 s x0 x2 (w64 (x6+1)))
 (za3 a0 a1 a2 s x0 x2 x6))
 (za3 a0 a1 a2 s x0 x2 x6))=some y):zbV a0 a1 a2 s x0 x2 x6=some y:=
 pt_of zT [7] (by kernel_rfl) h
theorem ziY (a0:List Int) (a1:Int) (a2:Int) (s:List GRatio) (x0:List (List AV)) (x2:Int) (x7:Int) {y:AV×Mem} (h:(
 brn (x7 == a2) (some (B true,[(1000,⟨1,zaj,x0,false⟩)]))
 (brn (decide (w64 (a2 - a1) < 50)) (some (B false,[(1000,⟨1,zaj,x0,false⟩)]))
 (chk ((0:Int)≤(w64 (x7 - 1)))<|
 chk ((w64 (x7 - 1):Int) < ((↑(List.map zaa a0).length:Int)))<|
 elemD zag x0 (0+(w64 (x7 - 1)).toNat) fun (c11:Int) =>
 chk ((0:Int)≤x7)<|
 chk ((x7:Int) < ((↑(List.map zaa a0).length:Int)))<|
 elemD zag x0 (0+x7.toNat) fun (c12:Int) =>
 chk ((0:Int)≤x7)<|
 chk ((x7:Int) < ((↑(List.map zaa a0).length:Int)))<|
 elemD zag x0 (0+x7.toNat) fun (c13:Int) =>
 chk ((0:Int)≤(w64 (x7 - 1)))<|
 chk ((w64 (x7 - 1):Int) < ((↑(List.map zaa a0).length:Int)))<|
 elemD zag (List.set x0 (0+x7.toNat) (zaa c11)) (0+(w64 (x7 - 1)).toNat) fun (c14:Int) =>
 brn (decide (2≤w64 (x7 - a1))) (zb3 a0 a1 a2 s x2 x7 (List.set (List.set x0 (0+x7.toNat) (zaa c11)) (0+(w64 (x7 - 1)).toNat) (zaa c12)) (w64 (x7 - 1)))
 (brn (decide (2≤w64 (a2 - x7))) (za1 a0 a1 a2 s x2 x7 (List.set (List.set x0 (0+x7.toNat) (zaa c11)) (0+(w64 (x7 - 1)).toNat) (zaa c12)) (w64 (x7+1)))
 (zaP a0 a1 a2 s (List.set (List.set x0 (0+x7.toNat) (zaa c11)) (0+(w64 (x7 - 1)).toNat) (zaa c12)) x7 (w64 (x2+1)))))))=some y):za3 a0 a1 a2 s x0 x2 x7=some y:=
 pt_of zT [7] (by kernel_rfl) h
theorem zeK (a0:List Int) (a1:Int) (a2:Int) (s:List GRatio) (x2:Int) (x7:Int) (x15:List (List AV)) (x16:Int) {y:AV×Mem} (h:(
 brn (decide (1≤x16)) (chk ((0:Int)≤x16)<|
 chk ((x16:Int) < ((↑(List.map zaa a0).length:Int)))<|
 elemD zag x15 (0+x16.toNat) fun (c19:Int) =>
 chk ((0:Int)≤(w64 (x16 - 1)))<|
 chk ((w64 (x16 - 1):Int) < ((↑(List.map zaa a0).length:Int)))<|
 elemD zag x15 (0+(w64 (x16 - 1)).toNat) fun (c20:Int) =>
 callD zaV (cw zaf [I c19,I c20,AV.fa 2 (List.map zae s)] []) fun (r21:Int) =>
 brn (!decide (r21 < 0)) (brn (decide (2≤w64 (a2 - x7))) (za1 a0 a1 a2 s x2 x7 x15 (w64 (x7+1)))
 (zaP a0 a1 a2 s x15 x7 (w64 (x2+1))))
 (chk ((0:Int)≤(w64 (x16 - 1)))<|
 chk ((w64 (x16 - 1):Int) < ((↑(List.map zaa a0).length:Int)))<|
 elemD zag x15 (0+(w64 (x16 - 1)).toNat) fun (c22:Int) =>
 chk ((0:Int)≤x16)<|
 chk ((x16:Int) < ((↑(List.map zaa a0).length:Int)))<|
 elemD zag x15 (0+x16.toNat) fun (c23:Int) =>
 chk ((0:Int)≤x16)<|
 chk ((x16:Int) < ((↑(List.map zaa a0).length:Int)))<|
 elemD zag x15 (0+x16.toNat) fun (c24:Int) =>
 chk ((0:Int)≤(w64 (x16 - 1)))<|
 chk ((w64 (x16 - 1):Int) < ((↑(List.map zaa a0).length:Int)))<|
 elemD zag (List.set x15 (0+x16.toNat) (zaa c22)) (0+(w64 (x16 - 1)).toNat) fun (c25:Int) =>
 zb3 a0 a1 a2 s x2 x7 (List.set (List.set x15 (0+x16.toNat) (zaa c22)) (0+(w64 (x16 - 1)).toNat) (zaa c23)) (w64 (x16 - 1))))
 (brn (decide (2≤w64 (a2 - x7))) (za1 a0 a1 a2 s x2 x7 x15 (w64 (x7+1)))
 (zaP a0 a1 a2 s x15 x7 (w64 (x2+1)))))=some y):zb3 a0 a1 a2 s x2 x7 x15 x16=some y:=
 pt_of zT [7] (by kernel_rfl) h
theorem zeF (a0:List Int) (a1:Int) (a2:Int) (s:List GRatio) (x2:Int) (x7:Int) (x17:List (List AV)) (x18:Int) {y:AV×Mem} (h:(
 brn (decide (x18 < a2)) (chk ((0:Int)≤x18)<|
 chk ((x18:Int) < ((↑(List.map zaa a0).length:Int)))<|
 elemD zag x17 (0+x18.toNat) fun (c26:Int) =>
 chk ((0:Int)≤(w64 (x18 - 1)))<|
 chk ((w64 (x18 - 1):Int) < ((↑(List.map zaa a0).length:Int)))<|
 elemD zag x17 (0+(w64 (x18 - 1)).toNat) fun (c27:Int) =>
 callD zaV (cw zaf [I c26,I c27,AV.fa 2 (List.map zae s)] []) fun (r28:Int) =>
 brn (!decide (r28 < 0)) (zaP a0 a1 a2 s x17 x7 (w64 (x2+1)))
 (chk ((0:Int)≤(w64 (x18 - 1)))<|
 chk ((w64 (x18 - 1):Int) < ((↑(List.map zaa a0).length:Int)))<|
 elemD zag x17 (0+(w64 (x18 - 1)).toNat) fun (c29:Int) =>
 chk ((0:Int)≤x18)<|
 chk ((x18:Int) < ((↑(List.map zaa a0).length:Int)))<|
 elemD zag x17 (0+x18.toNat) fun (c30:Int) =>
 chk ((0:Int)≤x18)<|
 chk ((x18:Int) < ((↑(List.map zaa a0).length:Int)))<|
 elemD zag x17 (0+x18.toNat) fun (c31:Int) =>
 chk ((0:Int)≤(w64 (x18 - 1)))<|
 chk ((w64 (x18 - 1):Int) < ((↑(List.map zaa a0).length:Int)))<|
 elemD zag (List.set x17 (0+x18.toNat) (zaa c29)) (0+(w64 (x18 - 1)).toNat) fun (c32:Int) =>
 za1 a0 a1 a2 s x2 x7 (List.set (List.set x17 (0+x18.toNat) (zaa c29)) (0+(w64 (x18 - 1)).toNat) (zaa c30)) (w64 (x18+1))))
 (zaP a0 a1 a2 s x17 x7 (w64 (x2+1))))=some y):za1 a0 a1 a2 s x2 x7 x17 x18=some y:=
 pt_of zT [7] (by kernel_rfl) h
theorem zkZ (a0:List Int) (a1:Int) (a2:Int) (s:List GRatio) {y:AV×Mem} (h:(
 zaP a0 a1 a2 s (List.map zaa a0) (w64 (a1+1)) 0)=some y):cw zca [AV.row 1000 1 0 (List.length (List.map zaa a0)),I a1,I a2,AV.fn zaf [AV.fa 2 (List.map zae s)]] [(1000,⟨1,zaj,List.map zaa a0,false⟩)]=some y:=
 zah zbd zT [7] rfl (by kernel_rfl) (by kernel_rfl) (by kernel_rfl) (by kernel_rfl) (by kernel_rfl) h
noncomputable def zcq (a0:List Int) (a1:Int) (s:List GRatio) (x4:List (List AV)) (x5:Int) (x6:Int):Option (AV×Mem):=pt zbK 1 ⟨[(0,AV.row 1000 1 0 ((List.map zaa a0).length)),(1,I a1),(4,AV.fn zaf [AV.fa 2 (List.map zae s)]),(11,I x5),(12,I x6)],[(1000,⟨1,zaj,x4,false⟩)]⟩
noncomputable def zcv (a0:List Int) (a1:Int) (s:List GRatio) (x4:List (List AV)) (x6:Int) (x7:Int):Option (AV×Mem):=pt zbK 2 ⟨[(0,AV.row 1000 1 0 ((List.map zaa a0).length)),(1,I a1),(4,AV.fn zaf [AV.fa 2 (List.map zae s)]),(11,I x7),(12,I x6)],[(1000,⟨1,zaj,x4,false⟩)]⟩
noncomputable def zbY (a0:List Int) (a1:Int) (s:List GRatio) (x4:List (List AV)) (x6:Int) (x7:Int):Option (AV×Mem):=pt zbK 3 ⟨[(0,AV.row 1000 1 0 ((List.map zaa a0).length)),(1,I a1),(4,AV.fn zaf [AV.fa 2 (List.map zae s)]),(11,I x7),(12,I x6),(47,B false)],[(1000,⟨1,zaj,x4,false⟩)]⟩
noncomputable def zck (a0:List Int) (a1:Int) (s:List GRatio) (x4:List (List AV)) (x7:Int) (x14:Int):Option (AV×Mem):=pt zbK 3 ⟨[(0,AV.row 1000 1 0 ((List.map zaa a0).length)),(1,I a1),(4,AV.fn zaf [AV.fa 2 (List.map zae s)]),(11,I x7),(12,I x14)],[(1000,⟨1,zaj,x4,false⟩)]⟩
noncomputable def zbh (a0:List Int) (a1:Int) (s:List GRatio) (x4:List (List AV)) (x7:Int) (x15:Int):Option (AV×Mem):=pt zbK 1007 ⟨[(0,AV.row 1000 1 0 ((List.map zaa a0).length)),(1,I a1),(4,AV.fn zaf [AV.fa 2 (List.map zae s)]),(11,I x7),(12,I x15),(65,B false)],[(1000,⟨1,zaj,x4,false⟩)]⟩
theorem zgd (a0:List Int) (a1:Int) (s:List GRatio) (x4:List (List AV)) (x5:Int) (x6:Int) {y:AV×Mem} (h:(
 zcv a0 a1 s x4 x6 x5)=some y):zcq a0 a1 s x4 x5 x6=some y:=
 pt_of zT [7] (by kernel_rfl) h
theorem zgb (a0:List Int) (a1:Int) (s:List GRatio) (x4:List (List AV)) (x6:Int) (x7:Int) {y:AV×Mem} (h:(
 brn (decide (x7≤x6)) (chk ((0:Int)≤a1)<|
 chk ((a1:Int) < ((↑(List.map zaa a0).length:Int)))<|
 elemD zag x4 (0+a1.toNat) fun (c8:Int) =>
 chk ((0:Int)≤x7)<|
 chk ((x7:Int) < ((↑(List.map zaa a0).length:Int)))<|
 elemD zag x4 (0+x7.toNat) fun (c9:Int) =>
 callD zaV (cw zaf [I c8,I c9,AV.fa 2 (List.map zae s)] []) fun (r10:Int) =>
 brn (!decide (r10 < 0)) (zcv a0 a1 s x4 x6 (w64 (x7+1)))
 (zbY a0 a1 s x4 x6 x7))
 (zbY a0 a1 s x4 x6 x7))=some y):zcv a0 a1 s x4 x6 x7=some y:=
 pt_of zT [7] (by kernel_rfl) h
theorem zm1 (a0:List Int) (a1:Int) (s:List GRatio) (x4:List (List AV)) (x6:Int) (x7:Int) {y:AV×Mem} (h:(
 brn (decide (x7≤x6)) (chk ((0:Int)≤a1)<|
 chk ((a1:Int) < ((↑(List.map zaa a0).length:Int)))<|
 elemD zag x4 (0+a1.toNat) fun (c11:Int) =>
 chk ((0:Int)≤x6)<|
 chk ((x6:Int) < ((↑(List.map zaa a0).length:Int)))<|
 elemD zag x4 (0+x6.toNat) fun (c12:Int) =>
 callD zaV (cw zaf [I c11,I c12,AV.fa 2 (List.map zae s)] []) fun (r13:Int) =>
 brn (decide (r13 < 0)) (zck a0 a1 s x4 x7 (w64 (x6 - 1)))
 (zbh a0 a1 s x4 x7 x6))
 (zbh a0 a1 s x4 x7 x6))=some y):zbY a0 a1 s x4 x6 x7=some y:=
 pt_of zT [7] (by kernel_rfl) h
theorem zfA (a0:List Int) (a1:Int) (s:List GRatio) (x4:List (List AV)) (x7:Int) (x14:Int) {y:AV×Mem} (h:(
 brn (decide (x7≤x14)) (chk ((0:Int)≤a1)<|
 chk ((a1:Int) < ((↑(List.map zaa a0).length:Int)))<|
 elemD zag x4 (0+a1.toNat) fun (c16:Int) =>
 chk ((0:Int)≤x14)<|
 chk ((x14:Int) < ((↑(List.map zaa a0).length:Int)))<|
 elemD zag x4 (0+x14.toNat) fun (c17:Int) =>
 callD zaV (cw zaf [I c16,I c17,AV.fa 2 (List.map zae s)] []) fun (r18:Int) =>
 brn (decide (r18 < 0)) (zck a0 a1 s x4 x7 (w64 (x14 - 1)))
 (zbh a0 a1 s x4 x7 x14))
 (zbh a0 a1 s x4 x7 x14))=some y):zck a0 a1 s x4 x7 x14=some y:=
 pt_of zT [7] (by kernel_rfl) h
theorem zfp (a0:List Int) (a1:Int) (s:List GRatio) (x4:List (List AV)) (x7:Int) (x15:Int) {y:AV×Mem} (h:(
 brn (decide (x15 < x7)) (some (I x7,[(1000,⟨1,zaj,x4,false⟩)]))
 (chk ((0:Int)≤x15)<|
 chk ((x15:Int) < ((↑(List.map zaa a0).length:Int)))<|
 elemD zag x4 (0+x15.toNat) fun (c19:Int) =>
 chk ((0:Int)≤x7)<|
 chk ((x7:Int) < ((↑(List.map zaa a0).length:Int)))<|
 elemD zag x4 (0+x7.toNat) fun (c20:Int) =>
 chk ((0:Int)≤x7)<|
 chk ((x7:Int) < ((↑(List.map zaa a0).length:Int)))<|
 elemD zag x4 (0+x7.toNat) fun (c21:Int) =>
 chk ((0:Int)≤x15)<|
 chk ((x15:Int) < ((↑(List.map zaa a0).length:Int)))<|
 elemD zag (List.set x4 (0+x7.toNat) (zaa c19)) (0+x15.toNat) fun (c22:Int) =>
 zcq a0 a1 s (List.set (List.set x4 (0+x7.toNat) (zaa c19)) (0+x15.toNat) (zaa c20)) (w64 (x7+1)) (w64 (x15 - 1))))=some y):zbh a0 a1 s x4 x7 x15=some y:=
 pt_of zT [7] (by kernel_rfl) h
theorem zn6 (a0:List Int) (a1:Int) (a2:Int) (a3:Int) (s:List GRatio) {y:AV×Mem} (h:(
 chk ((0:Int)≤a3)<|
 chk ((a3:Int) < ((↑(List.map zaa a0).length:Int)))<|
 elemD zag (List.map zaa a0) (0+a3.toNat) fun (c0:Int) =>
 chk ((0:Int)≤a1)<|
 chk ((a1:Int) < ((↑(List.map zaa a0).length:Int)))<|
 elemD zag (List.map zaa a0) (0+a1.toNat) fun (c1:Int) =>
 chk ((0:Int)≤a1)<|
 chk ((a1:Int) < ((↑(List.map zaa a0).length:Int)))<|
 elemD zag (List.map zaa a0) (0+a1.toNat) fun (c2:Int) =>
 chk ((0:Int)≤a3)<|
 chk ((a3:Int) < ((↑(List.map zaa a0).length:Int)))<|
 elemD zag (List.set (List.map zaa a0) (0+a1.toNat) (zaa c0)) (0+a3.toNat) fun (c3:Int) =>
 zcq a0 a1 s (List.set (List.set (List.map zaa a0) (0+a1.toNat) (zaa c0)) (0+a3.toNat) (zaa c1)) (w64 (a1+1)) (w64 (a2 - 1)))=some y):cw zcJ [AV.row 1000 1 0 (List.length (List.map zaa a0)),I a1,I a2,I a3,AV.fn zaf [AV.fa 2 (List.map zae s)]] [(1000,⟨1,zaj,List.map zaa a0,false⟩)]=some y:=
 zah zbK zT [7] rfl (by kernel_rfl) (by kernel_rfl) (by kernel_rfl) (by kernel_rfl) (by kernel_rfl) h
noncomputable def zdh (a0:List Int) (a1:Int) (a2:Int) (a3:Int) (s:List GRatio) (c0:Int) (c1:Int) (c2:Int) (c3:Int) (x4:Int):Option (AV×Mem):=pt zbe 1 ⟨[(0,AV.row 1000 1 0 ((List.map zaa a0).length)),(1,I a1),(4,AV.fn zaf [AV.fa 2 (List.map zae s)]),(12,I x4),(13,I (w64 (a2 - 1)))],[(1000,⟨1,zaj,List.set (List.set (List.map zaa a0) (0+a1.toNat) (zaa c0)) (0+a3.toNat) (zaa c1),false⟩)]⟩
noncomputable def zbW (a0:List Int) (a1:Int) (a2:Int) (a3:Int) (s:List GRatio) (c0:Int) (c1:Int) (c2:Int) (c3:Int) (x4:Int):Option (AV×Mem):=pt zbe 2 ⟨[(0,AV.row 1000 1 0 ((List.map zaa a0).length)),(1,I a1),(4,AV.fn zaf [AV.fa 2 (List.map zae s)]),(12,I x4),(13,I (w64 (a2 - 1))),(47,B false)],[(1000,⟨1,zaj,List.set (List.set (List.map zaa a0) (0+a1.toNat) (zaa c0)) (0+a3.toNat) (zaa c1),false⟩)]⟩
noncomputable def zcV (a0:List Int) (a1:Int) (a2:Int) (a3:Int) (s:List GRatio) (c0:Int) (c1:Int) (c2:Int) (c3:Int) (x4:Int) (x11:Int):Option (AV×Mem):=pt zbe 2 ⟨[(0,AV.row 1000 1 0 ((List.map zaa a0).length)),(1,I a1),(4,AV.fn zaf [AV.fa 2 (List.map zae s)]),(12,I x4),(13,I x11)],[(1000,⟨1,zaj,List.set (List.set (List.map zaa a0) (0+a1.toNat) (zaa c0)) (0+a3.toNat) (zaa c1),false⟩)]⟩
noncomputable def zbx (a0:List Int) (a1:Int) (a2:Int) (a3:Int) (s:List GRatio) (c0:Int) (c1:Int) (c2:Int) (c3:Int) (x4:Int) (x12:Int):Option (AV×Mem):=pt zbe 1007 ⟨[(0,AV.row 1000 1 0 ((List.map zaa a0).length)),(1,I a1),(4,AV.fn zaf [AV.fa 2 (List.map zae s)]),(12,I x4),(13,I x12),(66,B false)],[(1000,⟨1,zaj,List.set (List.set (List.map zaa a0) (0+a1.toNat) (zaa c0)) (0+a3.toNat) (zaa c1),false⟩)]⟩
noncomputable def zde (a0:List Int) (a1:Int) (s:List GRatio) (x24:List (List AV)) (x25:Int) (x26:Int):Option (AV×Mem):=pt zbe 3 ⟨[(0,AV.row 1000 1 0 ((List.map zaa a0).length)),(1,I a1),(4,AV.fn zaf [AV.fa 2 (List.map zae s)]),(12,I x25),(13,I x26)],[(1000,⟨1,zaj,x24,false⟩)]⟩
noncomputable def zdg (a0:List Int) (a1:Int) (s:List GRatio) (x24:List (List AV)) (x26:Int) (x27:Int):Option (AV×Mem):=pt zbe 4 ⟨[(0,AV.row 1000 1 0 ((List.map zaa a0).length)),(1,I a1),(4,AV.fn zaf [AV.fa 2 (List.map zae s)]),(12,I x27),(13,I x26)],[(1000,⟨1,zaj,x24,false⟩)]⟩
noncomputable def zcm (a0:List Int) (a1:Int) (s:List GRatio) (x24:List (List AV)) (x26:Int) (x27:Int):Option (AV×Mem):=pt zbe 5 ⟨[(0,AV.row 1000 1 0 ((List.map zaa a0).length)),(1,I a1),(4,AV.fn zaf [AV.fa 2 (List.map zae s)]),(12,I x27),(13,I x26),(120,B false)],[(1000,⟨1,zaj,x24,false⟩)]⟩
noncomputable def zcU (a0:List Int) (a1:Int) (s:List GRatio) (x24:List (List AV)) (x27:Int) (x34:Int):Option (AV×Mem):=pt zbe 5 ⟨[(0,AV.row 1000 1 0 ((List.map zaa a0).length)),(1,I a1),(4,AV.fn zaf [AV.fa 2 (List.map zae s)]),(12,I x27),(13,I x34)],[(1000,⟨1,zaj,x24,false⟩)]⟩
noncomputable def zbw (a0:List Int) (a1:Int) (s:List GRatio) (x24:List (List AV)) (x27:Int) (x35:Int):Option (AV×Mem):=pt zbe 1017 ⟨[(0,AV.row 1000 1 0 ((List.map zaa a0).length)),(1,I a1),(4,AV.fn zaf [AV.fa 2 (List.map zae s)]),(12,I x27),(13,I x35),(139,B false)],[(1000,⟨1,zaj,x24,false⟩)]⟩
theorem zh7 (a0:List Int) (a1:Int) (a2:Int) (a3:Int) (s:List GRatio) (c0:Int) (c1:Int) (c2:Int) (c3:Int) (x4:Int) {y:AV×Mem} (h:(
 brn (decide (x4≤w64 (a2 - 1))) (chk ((0:Int)≤x4)<|
 chk ((x4:Int) < ((↑(List.map zaa a0).length:Int)))<|
 elemD zag (List.set (List.set (List.map zaa a0) (0+a1.toNat) (zaa c0)) (0+a3.toNat) (zaa c1)) (0+x4.toNat) fun (c5:Int) =>
 chk ((0:Int)≤a1)<|
 chk ((a1:Int) < ((↑(List.map zaa a0).length:Int)))<|
 elemD zag (List.set (List.set (List.map zaa a0) (0+a1.toNat) (zaa c0)) (0+a3.toNat) (zaa c1)) (0+a1.toNat) fun (c6:Int) =>
 callD zaV (cw zaf [I c5,I c6,AV.fa 2 (List.map zae s)] []) fun (r7:Int) =>
 brn (decide (r7 < 0)) (zdh a0 a1 a2 a3 s c0 c1 c2 c3 (w64 (x4+1)))
 (zbW a0 a1 a2 a3 s c0 c1 c2 c3 x4))
 (zbW a0 a1 a2 a3 s c0 c1 c2 c3 x4))=some y):zdh a0 a1 a2 a3 s c0 c1 c2 c3 x4=some y:=
 pt_of zT [17,7] (by kernel_rfl) h
theorem zqe (a0:List Int) (a1:Int) (a2:Int) (a3:Int) (s:List GRatio) (c0:Int) (c1:Int) (c2:Int) (c3:Int) (x4:Int) {y:AV×Mem} (h:(
 brn (decide (x4≤w64 (a2 - 1))) (chk ((0:Int)≤(w64 (a2 - 1)))<|
 chk ((w64 (a2 - 1):Int) < ((↑(List.map zaa a0).length:Int)))<|
 elemD zag (List.set (List.set (List.map zaa a0) (0+a1.toNat) (zaa c0)) (0+a3.toNat) (zaa c1)) (0+(w64 (a2 - 1)).toNat) fun (c8:Int) =>
 chk ((0:Int)≤a1)<|
 chk ((a1:Int) < ((↑(List.map zaa a0).length:Int)))<|
 elemD zag (List.set (List.set (List.map zaa a0) (0+a1.toNat) (zaa c0)) (0+a3.toNat) (zaa c1)) (0+a1.toNat) fun (c9:Int) =>
 callD zaV (cw zaf [I c8,I c9,AV.fa 2 (List.map zae s)] []) fun (r10:Int) =>
 brn (!decide (r10 < 0)) (zcV a0 a1 a2 a3 s c0 c1 c2 c3 x4 (w64 (w64 (a2 - 1) - 1)))
 (zbx a0 a1 a2 a3 s c0 c1 c2 c3 x4 (w64 (a2 - 1))))
 (zbx a0 a1 a2 a3 s c0 c1 c2 c3 x4 (w64 (a2 - 1))))=some y):zbW a0 a1 a2 a3 s c0 c1 c2 c3 x4=some y:=
 pt_of zT [17,7] (by kernel_rfl) h
theorem zht (a0:List Int) (a1:Int) (a2:Int) (a3:Int) (s:List GRatio) (c0:Int) (c1:Int) (c2:Int) (c3:Int) (x4:Int) (x11:Int) {y:AV×Mem} (h:(
 brn (decide (x4≤x11)) (chk ((0:Int)≤x11)<|
 chk ((x11:Int) < ((↑(List.map zaa a0).length:Int)))<|
 elemD zag (List.set (List.set (List.map zaa a0) (0+a1.toNat) (zaa c0)) (0+a3.toNat) (zaa c1)) (0+x11.toNat) fun (c13:Int) =>
 chk ((0:Int)≤a1)<|
 chk ((a1:Int) < ((↑(List.map zaa a0).length:Int)))<|
 elemD zag (List.set (List.set (List.map zaa a0) (0+a1.toNat) (zaa c0)) (0+a3.toNat) (zaa c1)) (0+a1.toNat) fun (c14:Int) =>
 callD zaV (cw zaf [I c13,I c14,AV.fa 2 (List.map zae s)] []) fun (r15:Int) =>
 brn (!decide (r15 < 0)) (zcV a0 a1 a2 a3 s c0 c1 c2 c3 x4 (w64 (x11 - 1)))
 (zbx a0 a1 a2 a3 s c0 c1 c2 c3 x4 x11))
 (zbx a0 a1 a2 a3 s c0 c1 c2 c3 x4 x11))=some y):zcV a0 a1 a2 a3 s c0 c1 c2 c3 x4 x11=some y:=
 pt_of zT [17,7] (by kernel_rfl) h
theorem zgO (a0:List Int) (a1:Int) (a2:Int) (a3:Int) (s:List GRatio) (c0:Int) (c1:Int) (c2:Int) (c3:Int) (x4:Int) (x12:Int) {y:AV×Mem} (h:(
 brn (decide (x12 < x4)) (chk ((0:Int)≤a1)<|
 chk ((a1:Int) < ((↑(List.map zaa a0).length:Int)))<|
 elemD zag (List.set (List.set (List.map zaa a0) (0+a1.toNat) (zaa c0)) (0+a3.toNat) (zaa c1)) (0+a1.toNat) fun (c16:Int) =>
 chk ((0:Int)≤x12)<|
 chk ((x12:Int) < ((↑(List.map zaa a0).length:Int)))<|
 elemD zag (List.set (List.set (List.map zaa a0) (0+a1.toNat) (zaa c0)) (0+a3.toNat) (zaa c1)) (0+x12.toNat) fun (c17:Int) =>
 chk ((0:Int)≤x12)<|
 chk ((x12:Int) < ((↑(List.map zaa a0).length:Int)))<|
 elemD zag (List.set (List.set (List.map zaa a0) (0+a1.toNat) (zaa c0)) (0+a3.toNat) (zaa c1)) (0+x12.toNat) fun (c18:Int) =>
 chk ((0:Int)≤a1)<|
 chk ((a1:Int) < ((↑(List.map zaa a0).length:Int)))<|
 elemD zag (List.set (List.set (List.set (List.map zaa a0) (0+a1.toNat) (zaa c0)) (0+a3.toNat) (zaa c1)) (0+x12.toNat) (zaa c16)) (0+a1.toNat) fun (c19:Int) =>
 some (AV.tup [I x12,B true],[(1000,⟨1,zaj,List.set (List.set (List.set (List.set (List.map zaa a0) (0+a1.toNat) (zaa c0)) (0+a3.toNat) (zaa c1)) (0+x12.toNat) (zaa c16)) (0+a1.toNat) (zaa c17),false⟩)]))
 (chk ((0:Int)≤x12)<|
 chk ((x12:Int) < ((↑(List.map zaa a0).length:Int)))<|
 elemD zag (List.set (List.set (List.map zaa a0) (0+a1.toNat) (zaa c0)) (0+a3.toNat) (zaa c1)) (0+x12.toNat) fun (c20:Int) =>
 chk ((0:Int)≤x4)<|
 chk ((x4:Int) < ((↑(List.map zaa a0).length:Int)))<|
 elemD zag (List.set (List.set (List.map zaa a0) (0+a1.toNat) (zaa c0)) (0+a3.toNat) (zaa c1)) (0+x4.toNat) fun (c21:Int) =>
 chk ((0:Int)≤x4)<|
 chk ((x4:Int) < ((↑(List.map zaa a0).length:Int)))<|
 elemD zag (List.set (List.set (List.map zaa a0) (0+a1.toNat) (zaa c0)) (0+a3.toNat) (zaa c1)) (0+x4.toNat) fun (c22:Int) =>
 chk ((0:Int)≤x12)<|
 chk ((x12:Int) < ((↑(List.map zaa a0).length:Int)))<|
 elemD zag (List.set (List.set (List.set (List.map zaa a0) (0+a1.toNat) (zaa c0)) (0+a3.toNat) (zaa c1)) (0+x4.toNat) (zaa c20)) (0+x12.toNat) fun (c23:Int) =>
 zde a0 a1 s (List.set (List.set (List.set (List.set (List.map zaa a0) (0+a1.toNat) (zaa c0)) (0+a3.toNat) (zaa c1)) (0+x4.toNat) (zaa c20)) (0+x12.toNat) (zaa c21)) (w64 (x4+1)) (w64 (x12 - 1))))=some y):zbx a0 a1 a2 a3 s c0 c1 c2 c3 x4 x12=some y:=
 pt_of zT [17,7] (by kernel_rfl) h
theorem zh6 (a0:List Int) (a1:Int) (s:List GRatio) (x24:List (List AV)) (x25:Int) (x26:Int) {y:AV×Mem} (h:(
 zdg a0 a1 s x24 x26 x25)=some y):zde a0 a1 s x24 x25 x26=some y:=
 pt_of zT [17,7] (by kernel_rfl) h
theorem zh5 (a0:List Int) (a1:Int) (s:List GRatio) (x24:List (List AV)) (x26:Int) (x27:Int) {y:AV×Mem} (h:(
 brn (decide (x27≤x26)) (chk ((0:Int)≤x27)<|
 chk ((x27:Int) < ((↑(List.map zaa a0).length:Int)))<|
 elemD zag x24 (0+x27.toNat) fun (c28:Int) =>
 chk ((0:Int)≤a1)<|
 chk ((a1:Int) < ((↑(List.map zaa a0).length:Int)))<|
 elemD zag x24 (0+a1.toNat) fun (c29:Int) =>
 callD zaV (cw zaf [I c28,I c29,AV.fa 2 (List.map zae s)] []) fun (r30:Int) =>
 brn (decide (r30 < 0)) (zdg a0 a1 s x24 x26 (w64 (x27+1)))
 (zcm a0 a1 s x24 x26 x27))
 (zcm a0 a1 s x24 x26 x27))=some y):zdg a0 a1 s x24 x26 x27=some y:=
 pt_of zT [17,7] (by kernel_rfl) h
theorem zqg (a0:List Int) (a1:Int) (s:List GRatio) (x24:List (List AV)) (x26:Int) (x27:Int) {y:AV×Mem} (h:(
 brn (decide (x27≤x26)) (chk ((0:Int)≤x26)<|
 chk ((x26:Int) < ((↑(List.map zaa a0).length:Int)))<|
 elemD zag x24 (0+x26.toNat) fun (c31:Int) =>
 chk ((0:Int)≤a1)<|
 chk ((a1:Int) < ((↑(List.map zaa a0).length:Int)))<|
 elemD zag x24 (0+a1.toNat) fun (c32:Int) =>
 callD zaV (cw zaf [I c31,I c32,AV.fa 2 (List.map zae s)] []) fun (r33:Int) =>
 brn (!decide (r33 < 0)) (zcU a0 a1 s x24 x27 (w64 (x26 - 1)))
 (zbw a0 a1 s x24 x27 x26))
 (zbw a0 a1 s x24 x27 x26))=some y):zcm a0 a1 s x24 x26 x27=some y:=
 pt_of zT [17,7] (by kernel_rfl) h
theorem zho (a0:List Int) (a1:Int) (s:List GRatio) (x24:List (List AV)) (x27:Int) (x34:Int) {y:AV×Mem} (h:(
 brn (decide (x27≤x34)) (chk ((0:Int)≤x34)<|
 chk ((x34:Int) < ((↑(List.map zaa a0).length:Int)))<|
 elemD zag x24 (0+x34.toNat) fun (c36:Int) =>
 chk ((0:Int)≤a1)<|
 chk ((a1:Int) < ((↑(List.map zaa a0).length:Int)))<|
 elemD zag x24 (0+a1.toNat) fun (c37:Int) =>
 callD zaV (cw zaf [I c36,I c37,AV.fa 2 (List.map zae s)] []) fun (r38:Int) =>
 brn (!decide (r38 < 0)) (zcU a0 a1 s x24 x27 (w64 (x34 - 1)))
 (zbw a0 a1 s x24 x27 x34))
 (zbw a0 a1 s x24 x27 x34))=some y):zcU a0 a1 s x24 x27 x34=some y:=
 pt_of zT [17,7] (by kernel_rfl) h
theorem zgK (a0:List Int) (a1:Int) (s:List GRatio) (x24:List (List AV)) (x27:Int) (x35:Int) {y:AV×Mem} (h:(
 brn (decide (x35 < x27)) (chk ((0:Int)≤a1)<|
 chk ((a1:Int) < ((↑(List.map zaa a0).length:Int)))<|
 elemD zag x24 (0+a1.toNat) fun (c39:Int) =>
 chk ((0:Int)≤x35)<|
 chk ((x35:Int) < ((↑(List.map zaa a0).length:Int)))<|
 elemD zag x24 (0+x35.toNat) fun (c40:Int) =>
 chk ((0:Int)≤x35)<|
 chk ((x35:Int) < ((↑(List.map zaa a0).length:Int)))<|
 elemD zag x24 (0+x35.toNat) fun (c41:Int) =>
 chk ((0:Int)≤a1)<|
 chk ((a1:Int) < ((↑(List.map zaa a0).length:Int)))<|
 elemD zag (List.set x24 (0+x35.toNat) (zaa c39)) (0+a1.toNat) fun (c42:Int) =>
 some (AV.tup [I x35,B false],[(1000,⟨1,zaj,List.set (List.set x24 (0+x35.toNat) (zaa c39)) (0+a1.toNat) (zaa c40),false⟩)]))
 (chk ((0:Int)≤x35)<|
 chk ((x35:Int) < ((↑(List.map zaa a0).length:Int)))<|
 elemD zag x24 (0+x35.toNat) fun (c43:Int) =>
 chk ((0:Int)≤x27)<|
 chk ((x27:Int) < ((↑(List.map zaa a0).length:Int)))<|
 elemD zag x24 (0+x27.toNat) fun (c44:Int) =>
 chk ((0:Int)≤x27)<|
 chk ((x27:Int) < ((↑(List.map zaa a0).length:Int)))<|
 elemD zag x24 (0+x27.toNat) fun (c45:Int) =>
 chk ((0:Int)≤x35)<|
 chk ((x35:Int) < ((↑(List.map zaa a0).length:Int)))<|
 elemD zag (List.set x24 (0+x27.toNat) (zaa c43)) (0+x35.toNat) fun (c46:Int) =>
 zde a0 a1 s (List.set (List.set x24 (0+x27.toNat) (zaa c43)) (0+x35.toNat) (zaa c44)) (w64 (x27+1)) (w64 (x35 - 1))))=some y):zbw a0 a1 s x24 x27 x35=some y:=
 pt_of zT [17,7] (by kernel_rfl) h
theorem zrB (a0:List Int) (a1:Int) (a2:Int) (a3:Int) (s:List GRatio) {y:AV×Mem} (h:(
 chk ((0:Int)≤a3)<|
 chk ((a3:Int) < ((↑(List.map zaa a0).length:Int)))<|
 elemD zag (List.map zaa a0) (0+a3.toNat) fun (c0:Int) =>
 chk ((0:Int)≤a1)<|
 chk ((a1:Int) < ((↑(List.map zaa a0).length:Int)))<|
 elemD zag (List.map zaa a0) (0+a1.toNat) fun (c1:Int) =>
 chk ((0:Int)≤a1)<|
 chk ((a1:Int) < ((↑(List.map zaa a0).length:Int)))<|
 elemD zag (List.map zaa a0) (0+a1.toNat) fun (c2:Int) =>
 chk ((0:Int)≤a3)<|
 chk ((a3:Int) < ((↑(List.map zaa a0).length:Int)))<|
 elemD zag (List.set (List.map zaa a0) (0+a1.toNat) (zaa c0)) (0+a3.toNat) fun (c3:Int) =>
 zdh a0 a1 a2 a3 s c0 c1 c2 c3 (w64 (a1+1)))=some y):cw zdF [AV.row 1000 1 0 (List.length (List.map zaa a0)),I a1,I a2,I a3,AV.fn zaf [AV.fa 2 (List.map zae s)]] [(1000,⟨1,zaj,List.map zaa a0,false⟩)]=some y:=
 zah zbe zT [17,7] rfl (by kernel_rfl) (by kernel_rfl) (by kernel_rfl) (by kernel_rfl) (by kernel_rfl) h
end Go.Proofs.YticojpmhlhfhlaaGreat
