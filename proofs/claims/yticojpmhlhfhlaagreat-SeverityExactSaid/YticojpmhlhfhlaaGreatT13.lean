/- What the functions compute, between two cut points: printed by a program, checked by the kernel. -/
import Derived.Test.YticojpmhlhfhlaaGreatAnn
namespace Go.Proofs.YticojpmhlhfhlaaGreat
open Go.Ab
set_option maxRecDepth 100000
set_option linter.unusedVariables false
noncomputable def znB (a0:GMonitorRule) (a1:List Int) (a2:List Int) (x1:Int) (x2:Int):Option (AV×Mem):=pt zAn 1 ⟨[(1,AV.sl 1 (List.map zaa a1)),(2,AV.sl 1 (List.map zaa a2)),(3,AV.loc 3 4 0 0),(7,I x1),(8,I x2)],[(3,⟨4,zmR,[zba a0],true⟩)]⟩
theorem zxJ (a0:GMonitorRule) (a1:List Int) (a2:List Int) (x1:Int) (x2:Int) {y:AV×Mem} (h:(
 brn (decide (x2 < (↑(List.map zaa a1).length:Int))) (chk ((0:Int)≤x2)<|
 elemD zag (List.map zaa a1) x2.toNat fun (c3:Int) =>
 brn (decide (200 < c3)) (some (B false,[]))
 (chk ((0:Int)≤x2)<|
 elemD zag (List.map zaa a2) x2.toNat fun (c4:Int) =>
 brn (decide (200 < c4)) (some (B false,[]))
 (chk ((0:Int)≤x2)<|
 elemD zag (List.map zaa a1) x2.toNat fun (c5:Int) =>
 chk ((0:Int)≤x2)<|
 elemD zag (List.map zaa a2) x2.toNat fun (c6:Int) =>
 callD zmO (cw zqA [I (w64 ((if 0 > c5 then 0 else c5) - if 0 > c6 then 0 else c6))] []) fun (r7:Int) =>
 brn (decide (a0.Part < r7)) (some (B false,[]))
 (znB a0 a1 a2 (w64 (x1+w64 ((if 0 > c5 then 0 else c5) - if 0 > c6 then 0 else c6))) (w64 (x2+1))))))
 (callD zmO (cw zqA [I x1] []) fun (r8:Int) =>
 some (B (decide (r8≤a0.Total)),[])))=some y):znB a0 a1 a2 x1 x2=some y:=
 pt_of zT [] (by kernel_rfl) h
theorem zJu (a0:GMonitorRule) (a1:List Int) (a2:List Int) {y:AV×Mem} (h:(
 callD zic (cw zlr [AV.agg (zba a0)] []) fun (r0:Int) =>
 brn (r0 != 0) (some (B false,[]))
 (brn ((↑(List.map zaa a1).length:Int) != (↑(List.map zaa a2).length:Int)) (some (B false,[]))
 (brn (decide (24 < (↑(List.map zaa a1).length:Int))) (some (B false,[]))
 (znB a0 a1 a2 0 0))))=some y):cw zrv [AV.agg (zba a0),AV.sl 1 (List.map zaa a1),AV.sl 1 (List.map zaa a2)] []=some y:=
 zah zAn zT [] rfl (by kernel_rfl) (by kernel_rfl) (by kernel_rfl) (by kernel_rfl) (by kernel_rfl) h
theorem zHc (a0:GMonitorRule) (a1:GWatch) {y:AV×Mem} (h:(
 callD zic (cw zlr [AV.agg (zba a0)] []) fun (r0:Int) =>
 brn (r0 == 0) (brn (decide ((↑(List.map nBool a1.Last).length:Int)≤a0.Window)) (callD zif (cw zlz [AV.sl 1 (List.map nBool a1.Last)] []) fun (r1:Int) =>
 some (B (a1.Suspended == decide (a0.Fails≤r1)),[]))
 (some (B false,[])))
 (some (B false,[])))=some y):cw ztn [AV.agg (zba a0),AV.agg (za7 a1)] []=some y:=
 zah zG5 zT [] rfl (by kernel_rfl) (by kernel_rfl) (by kernel_rfl) (by kernel_rfl) (by kernel_rfl) h
noncomputable def zim (a0:List Bool) (x0:Int) (x1:Int):Option (AV×Mem):=pt zzr 1 ⟨[(0,AV.sl 1 (List.map nBool a0)),(3,I x0),(4,I x1)],[]⟩
theorem zv7 (a0:List Bool) (x0:Int) (x1:Int) {y:AV×Mem} (h:(
 brn (decide (x1 < (↑(List.map nBool a0).length:Int))) (chk ((0:Int)≤x1)<|
 elemD dBool (List.map nBool a0) x1.toNat fun (c2:Bool) =>
 brn (!c2) (zim a0 (w64 (x0+1)) (w64 (x1+1)))
 (zim a0 x0 (w64 (x1+1))))
 (some (I x0,[])))=some y):zim a0 x0 x1=some y:=
 pt_of zT [] (by kernel_rfl) h
theorem zHF (a0:List Bool) {y:AV×Mem} (h:(
 zim a0 0 0)=some y):cw zlz [AV.sl 1 (List.map nBool a0)] []=some y:=
 zah zzr zT [] rfl (by kernel_rfl) (by kernel_rfl) (by kernel_rfl) (by kernel_rfl) (by kernel_rfl) h
theorem zrC (a0:List Int) {y:AV×Mem} (h:(
 callD zei (cw zgH [AV.sl 1 (List.map zaa a0),AV.fn zbF []] []) fun (r0:Int) =>
 some (B (decide (0≤r0)),[]))=some y):cw zfs [AV.sl 1 (List.map zaa a0),AV.fn zbF []] []=some y:=
 zah zrA zT [] rfl (by kernel_rfl) (by kernel_rfl) (by kernel_rfl) (by kernel_rfl) (by kernel_rfl) h
theorem zwK (a0:Int) {y:AV×Mem} (h:(
 callD zhO (cw zk1 [I a0] []) fun (r0:Bool) =>
 some (B (!r0),[]))=some y):cw zbF [I a0] []=some y:=
 zah zwJ zT [] rfl (by kernel_rfl) (by kernel_rfl) (by kernel_rfl) (by kernel_rfl) (by kernel_rfl) h
noncomputable def zhR (a0:GPaper) (x0:Int):Option (AV×Mem):=pt zt2 1 ⟨[(1,AV.loc 1 3 0 0),(34,AV.sl 6 (List.map zav a0.Parts)),(35,I ((↑(List.map zav a0.Parts).length:Int))),(36,I x0)],[(1,⟨3,zbc,[zas a0],true⟩)]⟩
theorem zlX (a0:GPaper) (x0:Int) {y:AV×Mem} (h:(
 brn (decide (x0 < (↑(List.map zav a0.Parts).length:Int))) (chk ((0:Int)≤x0)<|
 elemD zce (List.map zav a0.Parts) x0.toNat fun (c1:GPart) =>
 callD zkt (cw zpf [AV.agg (zav c1)] []) fun (r2:Bool) =>
 brn (!r2) (some (B false,[]))
 (zhR a0 (w64 (x0+1))))
 (callD zmf (cw zqY [AV.sl 6 (List.map zav a0.Parts)] []) fun (r3:Int) =>
 some (B (decide (r3≤200)),[])))=some y):zhR a0 x0=some y:=
 pt_of zT [] (by kernel_rfl) h
theorem zBP (a0:GPaper) {y:AV×Mem} (h:(
 brn (decide (a0.Code < 0)) (some (B false,[]))
 (brn (decide (31 < a0.Code)) (some (B false,[]))
 (brn (decide (a0.Variant < 0)) (some (B false,[]))
 (brn (decide (4≤a0.Variant)) (some (B false,[]))
 (brn (decide ((↑(List.map zav a0.Parts).length:Int) < 1)) (some (B false,[]))
 (brn (decide (24 < (↑(List.map zav a0.Parts).length:Int))) (some (B false,[]))
 (zhR a0 0)))))))=some y):cw znT [AV.agg (zas a0)] []=some y:=
 zah zt2 zT [] rfl (by kernel_rfl) (by kernel_rfl) (by kernel_rfl) (by kernel_rfl) (by kernel_rfl) h
noncomputable def zeX (a0:GPart) (a1:List Int) (x0:Int):Option (AV×Mem):=pt ztb 1 ⟨[(1,AV.sl 1 (List.map zaa a1)),(2,AV.loc 2 6 0 0),(13,AV.sl 1 (List.map zaa a1)),(14,I ((↑(List.map zaa a1).length:Int))),(15,I x0)],[(2,⟨6,zwH,[zav a0],true⟩)]⟩
theorem zli (a0:GPart) (a1:List Int) (x0:Int) {y:AV×Mem} (h:(
 brn (decide (x0 < (↑(List.map zaa a1).length:Int))) (chk ((0:Int)≤x0)<|
 elemD zag (List.map zaa a1) x0.toNat fun (c1:Int) =>
 brn (decide (c1 < 0)) (some (B false,[]))
 (brn (decide (a0.Options≤c1)) (some (B false,[]))
 (brn (decide (0 < x0)) (chk ((0:Int)≤(w64 (x0 - 1)))<|
 elemD zag (List.map zaa a1) ((w64 (x0 - 1)).toNat) fun (c2:Int) =>
 brn (decide (c1≤c2)) (some (B false,[]))
 (zeX a0 a1 (w64 (x0+1))))
 (zeX a0 a1 (w64 (x0+1))))))
 (some (B true,[])))=some y):zeX a0 a1 x0=some y:=
 pt_of zT [] (by kernel_rfl) h
theorem zAF (a0:GPart) (a1:List Int) {y:AV×Mem} (h:(
 brn (a0.Kind == 1) (some (B ((↑(List.map zaa a1).length:Int) == 0),[]))
 (zeX a0 a1 0))=some y):cw zmX [AV.agg (zav a0),AV.sl 1 (List.map zaa a1)] []=some y:=
 zah ztb zT [] rfl (by kernel_rfl) (by kernel_rfl) (by kernel_rfl) (by kernel_rfl) (by kernel_rfl) h
theorem zFA (a0:Int) {y:AV×Mem} (h:(
 brn (a0 == 0) (some (B true,[]))
 (brn (a0 == 1) (some (B true,[]))
 (brn (a0 == 2) (some (B true,[]))
 (some (B false,[])))))=some y):cw zqC [I a0] []=some y:=
 zah zFw zT [] rfl (by kernel_rfl) (by kernel_rfl) (by kernel_rfl) (by kernel_rfl) (by kernel_rfl) h
theorem zC5 (a0:GPart) (a1:List Int) (a2:Int) {y:AV×Mem} (h:(
 brn ((↑(List.map zaa a1).length:Int) == 0) (some (B (a2 == a0.Key),[]))
 (callD zeM (cw zhh [AV.sl 1 (List.map zaa a1),I a2] []) fun (r0:Bool) =>
 some (B r0,[])))=some y):cw zpw [AV.agg (zav a0),AV.sl 1 (List.map zaa a1),I a2] []=some y:=
 zah zDZ zT [] rfl (by kernel_rfl) (by kernel_rfl) (by kernel_rfl) (by kernel_rfl) (by kernel_rfl) h
noncomputable def zg7 (a0:GSetup) (a1:Int) (x0:Int):Option (AV×Mem):=pt zs7 1 ⟨[(1,I a1),(4,AV.loc 4 7 0 0),(9,AV.sl 7 (List.map zaw a0.Scripts)),(10,I ((↑(List.map zaw a0.Scripts).length:Int))),(11,I x0)],[(4,⟨7,zbz,[[I 0,I 0,I 0,I 0,I 0,AV.v (.slice none 0 0),AV.v (.slice none 0 0)]],true⟩)]⟩
theorem zkr (a0:GSetup) (a1:Int) (x0:Int) {y:AV×Mem} (h:(
 brn (decide (x0 < (↑(List.map zaw a0.Scripts).length:Int))) (chk ((0:Int)≤x0)<|
 elemD zbb (List.map zaw a0.Scripts) x0.toNat fun (c1:GScript) =>
 brn (c1.Number == a1) (some (AV.tup [AV.agg (zaw c1),B true],[]))
 (zg7 a0 a1 (w64 (x0+1))))
 (some (AV.tup [AV.agg (zaw (⟨0,0,0,0,0,[],[]⟩)),B false],[])))=some y):zg7 a0 a1 x0=some y:=
 pt_of zT [] (by kernel_rfl) h
theorem zA2 (a0:GSetup) (a1:Int) {y:AV×Mem} (h:(
 zg7 a0 a1 0)=some y):cw zmG [AV.agg (zat a0),I a1] []=some y:=
 zah zs7 zT [] rfl (by kernel_rfl) (by kernel_rfl) (by kernel_rfl) (by kernel_rfl) (by kernel_rfl) h
noncomputable def zbH (a0:List GGiven) (x0:GGiven) (x1:Bool) (x2:Int):Option (AV×Mem):=pt zoG 1 ⟨[(2,AV.loc 2 8 0 0),(4,AV.loc 4 8 0 0),(5,B x1),(8,AV.sl 8 (List.map zao a0)),(9,I ((↑(List.map zao a0).length:Int))),(10,I x2)],[(2,⟨8,za0,[zao (⟨0,0,0,0,0,⟨0,0,0⟩⟩)],true⟩),(4,⟨8,za0,[zao x0],true⟩)]⟩
theorem zmW (a0:List GGiven) (x0:GGiven) (x1:Bool) (x2:Int) {y:AV×Mem} (h:(
 brn (decide (x2 < (↑(List.map zao a0).length:Int))) (chk ((0:Int)≤x2)<|
 elemD za6 (List.map zao a0) x2.toNat fun (c3:GGiven) =>
 brn (decide (c3.Level < 2)) (zbH a0 x0 x1 (w64 (x2+1)))
 (brn (!x1) (zbH a0 c3 true (w64 (x2+1)))
 (brn (decide (x0.Level < c3.Level)) (zbH a0 c3 true (w64 (x2+1)))
 (brn (c3.Level == x0.Level) (callD zl9 (cw zqr [AV.agg (zaT c3.Stamp),AV.agg (zaT x0.Stamp)] []) fun (r4:Int) =>
 brn (decide (0≤r4)) (zbH a0 c3 true (w64 (x2+1)))
 (zbH a0 x0 x1 (w64 (x2+1))))
 (zbH a0 x0 x1 (w64 (x2+1)))))))
 (some (AV.tup [AV.agg (zao x0),B x1],[])))=some y):zbH a0 x0 x1 x2=some y:=
 pt_of zT [] (by kernel_rfl) h
theorem zwA (a0:List GGiven) {y:AV×Mem} (h:(
 zbH a0 (⟨0,0,0,0,0,⟨0,0,0⟩⟩) false 0)=some y):cw zjl [AV.sl 8 (List.map zao a0)] []=some y:=
 zah zoG zT [] rfl (by kernel_rfl) (by kernel_rfl) (by kernel_rfl) (by kernel_rfl) (by kernel_rfl) h
theorem zzL (a0:GGiven) {y:AV×Mem} (h:(
 some (I (if 0 > a0.Value then 0 else a0.Value),[]))=some y):cw zcj [AV.agg (zao a0)] []=some y:=
 zah zzW zT [] rfl (by kernel_rfl) (by kernel_rfl) (by kernel_rfl) (by kernel_rfl) (by kernel_rfl) h
noncomputable def zhf (a0:List GGiven) (x0:Int) (x1:Int) (x2:Int):Option (AV×Mem):=pt zsT 1 ⟨[(0,AV.sl 8 (List.map zao a0)),(3,AV.v (.int .u64 x0)),(4,AV.v (.int .u64 x1)),(11,AV.sl 8 (List.map zao a0)),(12,I ((↑(List.map zao a0).length:Int))),(13,I x2)],[]⟩
theorem zqQ (a0:List GGiven) (x0:Int) (x1:Int) (x2:Int) {y:AV×Mem} (h:(
 brn (decide (x2 < (↑(List.map zao a0).length:Int))) (chk ((0:Int)≤x2)<|
 elemD za6 (List.map zao a0) x2.toNat fun (c3:GGiven) =>
 callD zb5 (cw zcj [AV.agg (zao c3)] []) fun (r4:Int) =>
 zhf a0 (wu64 (x0+Int.ofNat ((x1.toNat+(wu64 r4).toNat+Int.toNat 0) / 2 ^ 64))) (Int.ofNat ((x1.toNat+(wu64 r4).toNat+Int.toNat 0) % 2 ^ 64)) (w64 (x2+1)))
 (callD zhJ (cw zki [AV.v (.int .u64 x0),AV.v (.int .u64 x1),AV.v (.int .u64 (wu64 (↑(List.map zao a0).length:Int)))] []) fun (r5:Int×Int) =>
 brn (decide (wu64 (↑(List.map zao a0).length:Int)≤wu64 (2*r5.snd))) (some (I (w64 (wu64 (r5.fst+1))),[]))
 (some (I (w64 r5.fst),[]))))=some y):zhf a0 x0 x1 x2=some y:=
 pt_of zT [] (by kernel_rfl) h
theorem zBg (a0:List GGiven) {y:AV×Mem} (h:(
 zhf a0 0 0 0)=some y):cw zmA [AV.sl 8 (List.map zao a0)] []=some y:=
 zah zsT zT [] rfl (by kernel_rfl) (by kernel_rfl) (by kernel_rfl) (by kernel_rfl) (by kernel_rfl) h
noncomputable def zcp (a0:List Int) (a2:Int) (a3:Int) (s:List GRatio) (x0:List (List AV)) (x1:Int):Option (AV×Mem):=pt zdP 1 ⟨[(0,AV.row 1000 1 0 ((List.map zaa a0).length)),(2,I a2),(3,I a3),(4,AV.fn zaf [AV.fa 2 (List.map zae s)]),(10,I x1)],[(1000,⟨1,zaj,x0,false⟩)]⟩
noncomputable def zhr (a0:List Int) (a2:Int) (a3:Int) (s:List GRatio) (x0:List (List AV)) (x1:Int):Option (AV×Mem):=pt zdP 1005 ⟨[(0,AV.row 1000 1 0 ((List.map zaa a0).length)),(2,I a2),(3,I a3),(4,AV.fn zaf [AV.fa 2 (List.map zae s)]),(10,I x1),(11,I (w64 (w64 (w64 (2*x1)+1)+1)))],[(1000,⟨1,zaj,x0,false⟩)]⟩
noncomputable def zcD (a0:List Int) (a2:Int) (a3:Int) (s:List GRatio) (x0:List (List AV)) (x1:Int):Option (AV×Mem):=pt zdP 1005 ⟨[(0,AV.row 1000 1 0 ((List.map zaa a0).length)),(2,I a2),(3,I a3),(4,AV.fn zaf [AV.fa 2 (List.map zae s)]),(10,I x1),(11,I (w64 (w64 (2*x1)+1))),(40,B false)],[(1000,⟨1,zaj,x0,false⟩)]⟩
theorem ziT (a0:List Int) (a2:Int) (a3:Int) (s:List GRatio) (x0:List (List AV)) (x1:Int) {y:AV×Mem} (h:(
 brn (decide (a2≤w64 (w64 (2*x1)+1))) (some (AV.tup [],[(1000,⟨1,zaj,x0,false⟩)]))
 (brn (decide (w64 (w64 (w64 (2*x1)+1)+1) < a2)) (chk ((0:Int)≤(w64 (a3+w64 (w64 (2*x1)+1))))<|
 chk ((w64 (a3+w64 (w64 (2*x1)+1)):Int) < ((↑(List.map zaa a0).length:Int)))<|
 elemD zag x0 (0+(w64 (a3+w64 (w64 (2*x1)+1))).toNat) fun (c2:Int) =>
 chk ((0:Int)≤(w64 (w64 (a3+w64 (w64 (2*x1)+1))+1)))<|
 chk ((w64 (w64 (a3+w64 (w64 (2*x1)+1))+1):Int) < ((↑(List.map zaa a0).length:Int)))<|
 elemD zag x0 (0+(w64 (w64 (a3+w64 (w64 (2*x1)+1))+1)).toNat) fun (c3:Int) =>
 callD zaV (cw zaf [I c2,I c3,AV.fa 2 (List.map zae s)] []) fun (r4:Int) =>
 brn (decide (r4 < 0)) (zhr a0 a2 a3 s x0 x1)
 (zcD a0 a2 a3 s x0 x1))
 (zcD a0 a2 a3 s x0 x1)))=some y):zcp a0 a2 a3 s x0 x1=some y:=
 pt_of zT [5] (by kernel_rfl) h
theorem zoo (a0:List Int) (a2:Int) (a3:Int) (s:List GRatio) (x0:List (List AV)) (x1:Int) {y:AV×Mem} (h:(
 chk ((0:Int)≤(w64 (a3+x1)))<|
 chk ((w64 (a3+x1):Int) < ((↑(List.map zaa a0).length:Int)))<|
 elemD zag x0 (0+(w64 (a3+x1)).toNat) fun (c5:Int) =>
 chk ((0:Int)≤(w64 (a3+w64 (w64 (w64 (2*x1)+1)+1))))<|
 chk ((w64 (a3+w64 (w64 (w64 (2*x1)+1)+1)):Int) < ((↑(List.map zaa a0).length:Int)))<|
 elemD zag x0 (0+(w64 (a3+w64 (w64 (w64 (2*x1)+1)+1))).toNat) fun (c6:Int) =>
 callD zaV (cw zaf [I c5,I c6,AV.fa 2 (List.map zae s)] []) fun (r7:Int) =>
 brn (!decide (r7 < 0)) (some (AV.tup [],[(1000,⟨1,zaj,x0,false⟩)]))
 (chk ((0:Int)≤(w64 (a3+w64 (w64 (w64 (2*x1)+1)+1))))<|
 chk ((w64 (a3+w64 (w64 (w64 (2*x1)+1)+1)):Int) < ((↑(List.map zaa a0).length:Int)))<|
 elemD zag x0 (0+(w64 (a3+w64 (w64 (w64 (2*x1)+1)+1))).toNat) fun (c8:Int) =>
 chk ((0:Int)≤(w64 (a3+x1)))<|
 chk ((w64 (a3+x1):Int) < ((↑(List.map zaa a0).length:Int)))<|
 elemD zag x0 (0+(w64 (a3+x1)).toNat) fun (c9:Int) =>
 chk ((0:Int)≤(w64 (a3+x1)))<|
 chk ((w64 (a3+x1):Int) < ((↑(List.map zaa a0).length:Int)))<|
 elemD zag x0 (0+(w64 (a3+x1)).toNat) fun (c10:Int) =>
 chk ((0:Int)≤(w64 (a3+w64 (w64 (w64 (2*x1)+1)+1))))<|
 chk ((w64 (a3+w64 (w64 (w64 (2*x1)+1)+1)):Int) < ((↑(List.map zaa a0).length:Int)))<|
 elemD zag (List.set x0 (0+(w64 (a3+x1)).toNat) (zaa c8)) (0+(w64 (a3+w64 (w64 (w64 (2*x1)+1)+1))).toNat) fun (c11:Int) =>
 zcp a0 a2 a3 s (List.set (List.set x0 (0+(w64 (a3+x1)).toNat) (zaa c8)) (0+(w64 (a3+w64 (w64 (w64 (2*x1)+1)+1))).toNat) (zaa c9)) (w64 (w64 (w64 (2*x1)+1)+1))))=some y):zhr a0 a2 a3 s x0 x1=some y:=
 pt_of zT [5] (by kernel_rfl) h
theorem znn (a0:List Int) (a2:Int) (a3:Int) (s:List GRatio) (x0:List (List AV)) (x1:Int) {y:AV×Mem} (h:(
 chk ((0:Int)≤(w64 (a3+x1)))<|
 chk ((w64 (a3+x1):Int) < ((↑(List.map zaa a0).length:Int)))<|
 elemD zag x0 (0+(w64 (a3+x1)).toNat) fun (c12:Int) =>
 chk ((0:Int)≤(w64 (a3+w64 (w64 (2*x1)+1))))<|
 chk ((w64 (a3+w64 (w64 (2*x1)+1)):Int) < ((↑(List.map zaa a0).length:Int)))<|
 elemD zag x0 (0+(w64 (a3+w64 (w64 (2*x1)+1))).toNat) fun (c13:Int) =>
 callD zaV (cw zaf [I c12,I c13,AV.fa 2 (List.map zae s)] []) fun (r14:Int) =>
 brn (!decide (r14 < 0)) (some (AV.tup [],[(1000,⟨1,zaj,x0,false⟩)]))
 (chk ((0:Int)≤(w64 (a3+w64 (w64 (2*x1)+1))))<|
 chk ((w64 (a3+w64 (w64 (2*x1)+1)):Int) < ((↑(List.map zaa a0).length:Int)))<|
 elemD zag x0 (0+(w64 (a3+w64 (w64 (2*x1)+1))).toNat) fun (c15:Int) =>
 chk ((0:Int)≤(w64 (a3+x1)))<|
 chk ((w64 (a3+x1):Int) < ((↑(List.map zaa a0).length:Int)))<|
 elemD zag x0 (0+(w64 (a3+x1)).toNat) fun (c16:Int) =>
 chk ((0:Int)≤(w64 (a3+x1)))<|
 chk ((w64 (a3+x1):Int) < ((↑(List.map zaa a0).length:Int)))<|
 elemD zag x0 (0+(w64 (a3+x1)).toNat) fun (c17:Int) =>
 chk ((0:Int)≤(w64 (a3+w64 (w64 (2*x1)+1))))<|
 chk ((w64 (a3+w64 (w64 (2*x1)+1)):Int) < ((↑(List.map zaa a0).length:Int)))<|
 elemD zag (List.set x0 (0+(w64 (a3+x1)).toNat) (zaa c15)) (0+(w64 (a3+w64 (w64 (2*x1)+1))).toNat) fun (c18:Int) =>
 zcp a0 a2 a3 s (List.set (List.set x0 (0+(w64 (a3+x1)).toNat) (zaa c15)) (0+(w64 (a3+w64 (w64 (2*x1)+1))).toNat) (zaa c16)) (w64 (w64 (2*x1)+1))))=some y):zcD a0 a2 a3 s x0 x1=some y:=
 pt_of zT [5] (by kernel_rfl) h
theorem zse (a0:List Int) (a1:Int) (a2:Int) (a3:Int) (s:List GRatio) {y:AV×Mem} (h:(
 zcp a0 a2 a3 s (List.map zaa a0) a1)=some y):cw zcP [AV.row 1000 1 0 (List.length (List.map zaa a0)),I a1,I a2,I a3,AV.fn zaf [AV.fa 2 (List.map zae s)]] [(1000,⟨1,zaj,List.map zaa a0,false⟩)]=some y:=
 zah zdP zT [5] rfl (by kernel_rfl) (by kernel_rfl) (by kernel_rfl) (by kernel_rfl) (by kernel_rfl) h
theorem zvD (a0:Int) {y:AV×Mem} (h:(
 callD znD (cw zyD [AV.v (.int .u64 (wu64 a0))] []) fun (r0:Int) =>
 chk ((0:Int)≤r0)<|
 some (AV.v (.int .u64 (wu64 (1*2 ^ Min.min r0.toNat 64))),[]))=some y):cw zh8 [I a0] []=some y:=
 zah zvF zT [] rfl (by kernel_rfl) (by kernel_rfl) (by kernel_rfl) (by kernel_rfl) (by kernel_rfl) h
theorem zwz (a0:Int) {y:AV×Mem} (h:(
 chk ((0:Int)≤13)<|
 chk ((0:Int)≤7)<|
 chk ((0:Int)≤17)<|
 some (AV.v (.int .u64 (wu64 (↑((wu64 (↑((wu64 (↑((a0 % Int.ofNat (2 ^ 64)).toNat ^^^ (wu64 (a0*2 ^ Min.min (Int.toNat 13) 64) % Int.ofNat (2 ^ 64)).toNat):Int) % Int.ofNat (2 ^ 64)).toNat ^^^ ((wu64 (↑((a0 % Int.ofNat (2 ^ 64)).toNat ^^^ (wu64 (a0*2 ^ Min.min (Int.toNat 13) 64) % Int.ofNat (2 ^ 64)).toNat):Int)).fdiv (2 ^ Min.min (Int.toNat 7) 64) % Int.ofNat (2 ^ 64)).toNat):Int) % Int.ofNat (2 ^ 64)).toNat ^^^ (wu64 (wu64 (↑((wu64 (↑((a0 % Int.ofNat (2 ^ 64)).toNat ^^^ (wu64 (a0*2 ^ Min.min (Int.toNat 13) 64) % Int.ofNat (2 ^ 64)).toNat):Int) % Int.ofNat (2 ^ 64)).toNat ^^^ ((wu64 (↑((a0 % Int.ofNat (2 ^ 64)).toNat ^^^ (wu64 (a0*2 ^ Min.min (Int.toNat 13) 64) % Int.ofNat (2 ^ 64)).toNat):Int)).fdiv (2 ^ Min.min (Int.toNat 7) 64) % Int.ofNat (2 ^ 64)).toNat):Int)*2 ^ Min.min (Int.toNat 17) 64) % Int.ofNat (2 ^ 64)).toNat):Int))),[(1000,⟨1,zbX,[zqn (wu64 (↑((wu64 (↑((wu64 (↑((a0 % Int.ofNat (2 ^ 64)).toNat ^^^ (wu64 (a0*2 ^ Min.min (Int.toNat 13) 64) % Int.ofNat (2 ^ 64)).toNat):Int) % Int.ofNat (2 ^ 64)).toNat ^^^ ((wu64 (↑((a0 % Int.ofNat (2 ^ 64)).toNat ^^^ (wu64 (a0*2 ^ Min.min (Int.toNat 13) 64) % Int.ofNat (2 ^ 64)).toNat):Int)).fdiv (2 ^ Min.min (Int.toNat 7) 64) % Int.ofNat (2 ^ 64)).toNat):Int) % Int.ofNat (2 ^ 64)).toNat ^^^ (wu64 (wu64 (↑((wu64 (↑((a0 % Int.ofNat (2 ^ 64)).toNat ^^^ (wu64 (a0*2 ^ Min.min (Int.toNat 13) 64) % Int.ofNat (2 ^ 64)).toNat):Int) % Int.ofNat (2 ^ 64)).toNat ^^^ ((wu64 (↑((a0 % Int.ofNat (2 ^ 64)).toNat ^^^ (wu64 (a0*2 ^ Min.min (Int.toNat 13) 64) % Int.ofNat (2 ^ 64)).toNat):Int)).fdiv (2 ^ Min.min (Int.toNat 7) 64) % Int.ofNat (2 ^ 64)).toNat):Int)*2 ^ Min.min (Int.toNat 17) 64) % Int.ofNat (2 ^ 64)).toNat):Int))],true⟩)]))=some y):cw zjh [AV.loc 1000 1 0 0] [(1000,⟨1,zbX,[zqn a0],true⟩)]=some y:=
 zah zwX zT [] rfl (by kernel_rfl) (by kernel_rfl) (by kernel_rfl) (by kernel_rfl) (by kernel_rfl) h
theorem znS (a0:List Int) (a1:Int) (a2:Int) (s:List GRatio) {y:AV×Mem} (h:(
 callD zdd (cw zdb [AV.sl 1 (List.map zaa a0),I (w64 (a1 - 1)),I a1,I (w64 (a1+1)),AV.loc 1004 1 0 0,AV.fn zaf [AV.fa 2 (List.map zae s)]] [(1004,⟨1,zaj,[zaa a2],true⟩)]) fun (r0:Int×Int) =>
 some (I r0.fst,[(1002,⟨1,zaj,[zaa r0.snd],true⟩)]))=some y):cw zb9 [AV.sl 1 (List.map zaa a0),I a1,AV.loc 1002 1 0 0,AV.fn zaf [AV.fa 2 (List.map zae s)]] [(1002,⟨1,zaj,[zaa a2],true⟩)]=some y:=
 zah znR zT [] rfl (by kernel_rfl) (by kernel_rfl) (by kernel_rfl) (by kernel_rfl) (by kernel_rfl) h
theorem ztu (a0:List Int) (a1:Int) (a2:Int) (a3:Int) (a4:Int) (s:List GRatio) {y:AV×Mem} (h:(
 callD zc9 (cw zdc [AV.sl 1 (List.map zaa a0),I a1,I a2,AV.loc 1003 1 0 0,AV.fn zaf [AV.fa 2 (List.map zae s)]] [(1003,⟨1,zaj,[zaa a4],true⟩)]) fun (r0:(Int×Int)×Int) =>
 callD zc9 (cw zdc [AV.sl 1 (List.map zaa a0),I r0.fst.snd,I a3,AV.loc 1003 1 0 0,AV.fn zaf [AV.fa 2 (List.map zae s)]] [(1003,⟨1,zaj,[zaa r0.snd],true⟩)]) fun (r1:(Int×Int)×Int) =>
 callD zc9 (cw zdc [AV.sl 1 (List.map zaa a0),I r0.fst.fst,I r1.fst.fst,AV.loc 1003 1 0 0,AV.fn zaf [AV.fa 2 (List.map zae s)]] [(1003,⟨1,zaj,[zaa r1.snd],true⟩)]) fun (r2:(Int×Int)×Int) =>
 some (I r2.fst.snd,[(1004,⟨1,zaj,[zaa r2.snd],true⟩)]))=some y):cw zdb [AV.sl 1 (List.map zaa a0),I a1,I a2,I a3,AV.loc 1004 1 0 0,AV.fn zaf [AV.fa 2 (List.map zae s)]] [(1004,⟨1,zaj,[zaa a4],true⟩)]=some y:=
 zah ztN zT [] rfl (by kernel_rfl) (by kernel_rfl) (by kernel_rfl) (by kernel_rfl) (by kernel_rfl) h
theorem zIc (a0:Int) (a1:Int) {y:AV×Mem} (h:(
 chk ((0:Int)≤32)<|
 chk ((0:Int)≤32)<|
 chk ((0:Int)≤32)<|
 chk ((0:Int)≤32)<|
 chk ((0:Int)≤32)<|
 some (AV.tup [AV.v (.int .u64 (wu64 (wu64 (wu64 (a0.fdiv (2 ^ Min.min (Int.toNat 32) 64)*a1.fdiv (2 ^ Min.min (Int.toNat 32) 64))+(wu64 (wu64 (a0.fdiv (2 ^ Min.min (Int.toNat 32) 64)*wu64 (↑((a1 % Int.ofNat (2 ^ 64)).toNat &&& (4294967295 % Int.ofNat (2 ^ 64)).toNat):Int))+(wu64 (wu64 (↑((a0 % Int.ofNat (2 ^ 64)).toNat &&& (4294967295 % Int.ofNat (2 ^ 64)).toNat):Int)*wu64 (↑((a1 % Int.ofNat (2 ^ 64)).toNat &&& (4294967295 % Int.ofNat (2 ^ 64)).toNat):Int))).fdiv (2 ^ Min.min (Int.toNat 32) 64))).fdiv (2 ^ Min.min (Int.toNat 32) 64))+(wu64 (wu64 (↑((wu64 (wu64 (a0.fdiv (2 ^ Min.min (Int.toNat 32) 64)*wu64 (↑((a1 % Int.ofNat (2 ^ 64)).toNat &&& (4294967295 % Int.ofNat (2 ^ 64)).toNat):Int))+(wu64 (wu64 (↑((a0 % Int.ofNat (2 ^ 64)).toNat &&& (4294967295 % Int.ofNat (2 ^ 64)).toNat):Int)*wu64 (↑((a1 % Int.ofNat (2 ^ 64)).toNat &&& (4294967295 % Int.ofNat (2 ^ 64)).toNat):Int))).fdiv (2 ^ Min.min (Int.toNat 32) 64)) % Int.ofNat (2 ^ 64)).toNat &&& (4294967295 % Int.ofNat (2 ^ 64)).toNat):Int)+wu64 (wu64 (↑((a0 % Int.ofNat (2 ^ 64)).toNat &&& (4294967295 % Int.ofNat (2 ^ 64)).toNat):Int)*a1.fdiv (2 ^ Min.min (Int.toNat 32) 64)))).fdiv (2 ^ Min.min (Int.toNat 32) 64)))),AV.v (.int .u64 (wu64 (a0*a1)))],[]))=some y):cw zvm [AV.v (.int .u64 a0),AV.v (.int .u64 a1)] []=some y:=
 zah zJq zT [] rfl (by kernel_rfl) (by kernel_rfl) (by kernel_rfl) (by kernel_rfl) (by kernel_rfl) h
theorem zAM (a0:Int) {y:AV×Mem} (h:(
 some (B (a0 != a0),[]))=some y):cw ziS [AV.v (.int .u64 a0)] []=some y:=
 zah zBk zT [] rfl (by kernel_rfl) (by kernel_rfl) (by kernel_rfl) (by kernel_rfl) (by kernel_rfl) h
theorem zJj (a0:Int) (a1:Int) (a2:Int) {y:AV×Mem} (h:(
 chk ((a2:Int)≠0)<|
 callD zhJ (cw zki [AV.v (.int .u64 (a0.tmod a2)),AV.v (.int .u64 a1),AV.v (.int .u64 a2)] []) fun (r0:Int×Int) =>
 some (AV.v (.int .u64 r0.snd),[]))=some y):cw zvh [AV.v (.int .u64 a0),AV.v (.int .u64 a1),AV.v (.int .u64 a2)] []=some y:=
 zah zId zT [] rfl (by kernel_rfl) (by kernel_rfl) (by kernel_rfl) (by kernel_rfl) (by kernel_rfl) h
theorem zAl (a1:Int) (a2:Int) {y:AV×Mem} (h:(
 brn (a2 == 0) (none)
 (brn (decide (a2≤0)) (none)
 (chk ((a2:Int)≠0)<|
 chk ((a2:Int)≠0)<|
 some (AV.tup [AV.v (.int .u64 (wu64 (a1.tdiv a2))),AV.v (.int .u64 (a1.tmod a2))],[]))))=some y):cw zki [AV.v (.int .u64 0),AV.v (.int .u64 a1),AV.v (.int .u64 a2)] []=some y:=
 zah zIk zT [] rfl (by kernel_rfl) (by kernel_rfl) (by kernel_rfl) (by kernel_rfl) (by kernel_rfl) h
theorem zAT (a0:Int) {y:AV×Mem} (h:(
 brn (decide (a0 < 0)) (some (I (w64 (0 - a0)),[]))
 (some (I a0,[])))=some y):cw zqA [I a0] []=some y:=
 zah zIM zT [] rfl (by kernel_rfl) (by kernel_rfl) (by kernel_rfl) (by kernel_rfl) (by kernel_rfl) h
noncomputable def zdQ (a0:List Int) (x0:Int):Option (AV×Mem):=pt zlu 1 ⟨[(0,AV.sl 1 (List.map zaa a0)),(1,AV.fn zbF []),(7,I ((↑(List.map zaa a0).length:Int))),(8,I x0)],[]⟩
theorem zfH (a0:List Int) (x0:Int) {y:AV×Mem} (h:(
 brn (decide (x0 < (↑(List.map zaa a0).length:Int))) (chk ((0:Int)≤x0)<|
 elemD zag (List.map zaa a0) x0.toNat fun (c1:Int) =>
 callD zfW (cw zbF [I c1] []) fun (r2:Bool) =>
 brn r2 (some (I x0,[]))
 (zdQ a0 (w64 (x0+1))))
 (some (I (-1),[])))=some y):zdQ a0 x0=some y:=
 pt_of zT [] (by kernel_rfl) h
theorem zlm (a0:List Int) {y:AV×Mem} (h:(
 zdQ a0 0)=some y):cw zgH [AV.sl 1 (List.map zaa a0),AV.fn zbF []] []=some y:=
 zah zlu zT [] rfl (by kernel_rfl) (by kernel_rfl) (by kernel_rfl) (by kernel_rfl) (by kernel_rfl) h
theorem zEh (a0:GPart) {y:AV×Mem} (h:(
 brn (decide (a0.Max < 1)) (some (B false,[]))
 (brn (decide (40 < a0.Max)) (some (B false,[]))
 (brn (decide (a0.Topic < 0)) (some (B false,[]))
 (brn (decide (16≤a0.Topic)) (some (B false,[]))
 (brn (decide (a0.Objective < 0)) (some (B false,[]))
 (brn (decide (6≤a0.Objective)) (some (B false,[]))
 (brn (a0.Kind == 1) (brn (a0.Options == 0) (some (B (a0.Key == 0),[]))
 (some (B false,[])))
 (brn (a0.Kind == 2) (brn (decide (2≤a0.Options)) (brn (decide (a0.Options≤5)) (brn (decide (0≤a0.Key)) (some (B (decide (a0.Key < a0.Options)),[]))
 (some (B false,[])))
 (some (B false,[])))
 (some (B false,[])))
 (some (B false,[]))))))))))=some y):cw zpf [AV.agg (zav a0)] []=some y:=
 zah zDT zT [] rfl (by kernel_rfl) (by kernel_rfl) (by kernel_rfl) (by kernel_rfl) (by kernel_rfl) h
noncomputable def zjN (a0:List GPart) (x0:Int) (x1:Int):Option (AV×Mem):=pt zwd 1 ⟨[(3,I x0),(6,AV.sl 6 (List.map zav a0)),(7,I ((↑(List.map zav a0).length:Int))),(8,I x1)],[]⟩
theorem ztY (a0:List GPart) (x0:Int) (x1:Int) {y:AV×Mem} (h:(
 brn (decide (x1 < (↑(List.map zav a0).length:Int))) (chk ((0:Int)≤x1)<|
 elemD zce (List.map zav a0) x1.toNat fun (c2:GPart) =>
 zjN a0 (w64 (x0+c2.Max)) (w64 (x1+1)))
 (some (I x0,[])))=some y):zjN a0 x0 x1=some y:=
 pt_of zT [] (by kernel_rfl) h
theorem zE6 (a0:List GPart) {y:AV×Mem} (h:(
 zjN a0 0 0)=some y):cw zqY [AV.sl 6 (List.map zav a0)] []=some y:=
 zah zwd zT [] rfl (by kernel_rfl) (by kernel_rfl) (by kernel_rfl) (by kernel_rfl) (by kernel_rfl) h
theorem zuu (a0:List Int) (a1:Int) {y:AV×Mem} (h:(
 callD zfV (cw zoz [AV.sl 1 (List.map zaa a0),I a1] []) fun (r0:Int) =>
 some (B (decide (0≤r0)),[]))=some y):cw zhh [AV.sl 1 (List.map zaa a0),I a1] []=some y:=
 zah zui zT [] rfl (by kernel_rfl) (by kernel_rfl) (by kernel_rfl) (by kernel_rfl) (by kernel_rfl) h
theorem zEY (a0:GStamp) (a1:GStamp) {y:AV×Mem} (h:(
 callD zdp (cw zdZ [I a0.Time,I a1.Time] []) fun (r0:Int) =>
 callD zdp (cw zdZ [I a0.Source,I a1.Source] []) fun (r1:Int) =>
 callD zdp (cw zdZ [I a0.Seq,I a1.Seq] []) fun (r2:Int) =>
 callD zj2 (cw zmT [AV.sl 1 (List.map zaa ([r0,r1,r2]))] []) fun (r3:Int) =>
 some (I r3,[]))=some y):cw zqr [AV.agg (zaT a0),AV.agg (zaT a1)] []=some y:=
 zah zFo zT [] rfl (by kernel_rfl) (by kernel_rfl) (by kernel_rfl) (by kernel_rfl) (by kernel_rfl) h
theorem zlv (a0:List Int) (a1:Int) (a2:Int) (a3:Int) (s:List GRatio) {y:AV×Mem} (h:(
 chk ((0:Int)≤a2)<|
 elemD zag (List.map zaa a0) a2.toNat fun (c0:Int) =>
 chk ((0:Int)≤a1)<|
 elemD zag (List.map zaa a0) a1.toNat fun (c1:Int) =>
 callD zaV (cw zaf [I c0,I c1,AV.fa 2 (List.map zae s)] []) fun (r2:Int) =>
 brn (decide (r2 < 0)) (some (AV.tup [I a2,I a1],[(1003,⟨1,zaj,[zaa (w64 (a3+1))],true⟩)]))
 (some (AV.tup [I a1,I a2],[(1003,⟨1,zaj,[zaa a3],true⟩)])))=some y):cw zdc [AV.sl 1 (List.map zaa a0),I a1,I a2,AV.loc 1003 1 0 0,AV.fn zaf [AV.fa 2 (List.map zae s)]] [(1003,⟨1,zaj,[zaa a3],true⟩)]=some y:=
 zah ztj zT [] rfl (by kernel_rfl) (by kernel_rfl) (by kernel_rfl) (by kernel_rfl) (by kernel_rfl) h
noncomputable def ze7 (a0:List Int) (a1:Int) (x0:Int):Option (AV×Mem):=pt zoC 1 ⟨[(0,AV.sl 1 (List.map zaa a0)),(1,I a1),(7,I ((↑(List.map zaa a0).length:Int))),(8,I x0)],[]⟩
theorem zhL (a0:List Int) (a1:Int) (x0:Int) {y:AV×Mem} (h:(
 brn (decide (x0 < (↑(List.map zaa a0).length:Int))) (chk ((0:Int)≤x0)<|
 elemD zag (List.map zaa a0) x0.toNat fun (c1:Int) =>
 brn (a1 == c1) (some (I x0,[]))
 (ze7 a0 a1 (w64 (x0+1))))
 (some (I (-1),[])))=some y):ze7 a0 a1 x0=some y:=
 pt_of zT [] (by kernel_rfl) h
theorem zwW (a0:List Int) (a1:Int) {y:AV×Mem} (h:(
 ze7 a0 a1 0)=some y):cw zoz [AV.sl 1 (List.map zaa a0),I a1] []=some y:=
 zah zoC zT [] rfl (by kernel_rfl) (by kernel_rfl) (by kernel_rfl) (by kernel_rfl) (by kernel_rfl) h
end Go.Proofs.YticojpmhlhfhlaaGreat
