/- What the functions compute, between two cut points: printed by a program, checked by the kernel. -/
import Derived.Test.YticojpmhlhfhlaaGreatAnn
namespace Go.Proofs.YticojpmhlhfhlaaGreat
open Go.Ab
set_option maxRecDepth 100000
set_option linter.unusedVariables false
noncomputable def ziL (a1:GSetup) (a2:Int) (x0:List (List AV)) (x1:GmarkDice) (x2:Int):Option (AV×Mem):=pt zkH 1 ⟨[(0,AV.loc 1000 2 0 0),(2,I a2),(4,AV.loc 4 9 0 0),(7,AV.row 7 9 0 (List.length x0)),(8,I x2)],[(4,⟨9,zaE,[zat a1],true⟩),(7,⟨9,zar,x0,false⟩),(1000,⟨2,zad,[zal x1],true⟩)]⟩
noncomputable def zij (a1:GSetup) (a2:Int) (x2:Int) (r4:GPaper) (x5:List (List AV)) (x6:GmarkDice) (x7:Int):Option (AV×Mem):=pt zkH 2 ⟨[(0,AV.loc 1000 2 0 0),(2,I a2),(4,AV.loc 4 9 0 0),(7,AV.row 7 9 0 (List.length x5)),(8,I x2),(9,AV.loc 9 3 0 0),(10,I x7)],[(4,⟨9,zaE,[zat a1],true⟩),(7,⟨9,zar,x5,false⟩),(9,⟨3,zbc,[zas r4],true⟩),(1000,⟨2,zad,[zal x6],true⟩)]⟩
noncomputable def zeE (a1:GSetup) (a2:Int) (x2:Int) (r4:GPaper) (x7:Int) (x8:List (List AV)) (x9:GmarkDice) (x10:Int):Option (AV×Mem):=pt zkH 3 ⟨[(0,AV.loc 1000 2 0 0),(2,I a2),(4,AV.loc 4 9 0 0),(7,AV.row 7 9 0 (List.length x8)),(8,I x2),(9,AV.loc 9 3 0 0),(10,I x7),(11,I x10)],[(4,⟨9,zaE,[zat a1],true⟩),(7,⟨9,zar,x8,false⟩),(9,⟨3,zbc,[zas r4],true⟩),(1000,⟨2,zad,[zal x9],true⟩)]⟩
theorem zsX (a1:GSetup) (a2:Int) (x0:List (List AV)) (x1:GmarkDice) (x2:Int) {y:AV×Mem} (h:(
 brn (decide (x2 < (↑(List.map zaw a1.Scripts).length:Int))) (chk ((0:Int)≤x2)<|
 elemD zbb (List.map zaw a1.Scripts) x2.toNat fun (c3:GScript) =>
 callD zj9 (cw zm2 [AV.sl 3 (List.map zas a1.Papers),AV.agg (zaw c3)] []) fun (r4:GPaper) =>
 zij a1 a2 x2 r4 x0 x1 0)
 (chk (x0.length=x0.length)<|
 some (AV.new 9 zar x0,[(1000,⟨2,zad,[zal x1],true⟩)])))=some y):ziL a1 a2 x0 x1 x2=some y:=
 pt_of zT [] (by kernel_rfl) h
theorem zs9 (a1:GSetup) (a2:Int) (x2:Int) (r4:GPaper) (x5:List (List AV)) (x6:GmarkDice) (x7:Int) {y:AV×Mem} (h:(
 brn (decide (x7 < (↑(List.map zaO a1.Markers).length:Int))) (zeE a1 a2 x2 r4 x7 x5 x6 0)
 (ziL a1 a2 x5 x6 (w64 (x2+1))))=some y):zij a1 a2 x2 r4 x5 x6 x7=some y:=
 pt_of zT [] (by kernel_rfl) h
theorem ztd (a1:GSetup) (a2:Int) (x2:Int) (r4:GPaper) (x7:Int) (x8:List (List AV)) (x9:GmarkDice) (x10:Int) {y:AV×Mem} (h:(
 brn (decide (x10 < (↑(List.map zav r4.Parts).length:Int))) (chk ((0:Int)≤x10)<|
 elemD zce (List.map zav r4.Parts) x10.toNat fun (c11:GPart) =>
 brn (c11.Kind == 1) (callD zaA (cw zaB [AV.loc 1000 2 0 0,I 4] [(1000,⟨2,zad,[zal x9],true⟩)]) fun (r12:Int×GmarkDice) =>
 brn (decide (0 < r12.fst)) (chk ((0:Int)≤x7)<|
 elemD zb6 (List.map zaO a1.Markers) x7.toNat fun (c13:GMarker) =>
 chk ((0:Int)≤x2)<|
 elemD zbb (List.map zaw a1.Scripts) x2.toNat fun (c14:GScript) =>
 chk ((0:Int)≤x10)<|
 elemD zce (List.map zav r4.Parts) x10.toNat fun (c15:GPart) =>
 callD zaA (cw zaB [AV.loc 1000 2 0 0,I (w64 (c15.Max+1))] [(1000,⟨2,zad,[zal r12.snd],true⟩)]) fun (r16:Int×GmarkDice) =>
 chk ((0:Int)≤x2)<|
 elemD zbb (List.map zaw a1.Scripts) x2.toNat fun (c17:GScript) =>
 chk (x8.length=x8.length)<|
 chk ((x8.length+1)*(88+1)≤1099511627776)<|
 chk ((x8++[[I (w64 (a2+(↑x8.length:Int))),I c13.ID,I (w64 (1000+(↑x8.length:Int))),I 0,I c14.Number,I x10,I r16.fst,I 0,AV.sl 1 (List.map zaa c17.Pages)]]).length=(x8++[[I (w64 (a2+(↑x8.length:Int))),I c13.ID,I (w64 (1000+(↑x8.length:Int))),I 0,I c14.Number,I x10,I r16.fst,I 0,AV.sl 1 (List.map zaa c17.Pages)]]).length)<|
 zeE a1 a2 x2 r4 x7 (x8++([zab (⟨⟨w64 (a2+(↑x8.length:Int)),c13.ID,w64 (1000+(↑x8.length:Int))⟩,0,c14.Number,x10,r16.fst,0,c17.Pages⟩)])) r16.snd (w64 (x10+1)))
 (zeE a1 a2 x2 r4 x7 x8 r12.snd (w64 (x10+1))))
 (zeE a1 a2 x2 r4 x7 x8 x9 (w64 (x10+1))))
 (zij a1 a2 x2 r4 x8 x9 (w64 (x7+1))))=some y):zeE a1 a2 x2 r4 x7 x8 x9 x10=some y:=
 pt_of zT [] (by kernel_rfl) h
theorem zDJ (a0:GmarkDice) (a1:GSetup) (a2:Int) {y:AV×Mem} (h:(
 ziL a1 a2 [] a0 0)=some y):cw zph [AV.loc 1000 2 0 0,AV.agg (zat a1),I a2] [(1000,⟨2,zad,[zal a0],true⟩)]=some y:=
 zah zkH zT [] rfl (by kernel_rfl) (by kernel_rfl) (by kernel_rfl) (by kernel_rfl) (by kernel_rfl) h
noncomputable def ziM (a0:GMarkRule) (a1:GSetup) (a2:GMarking) (x2:List (List AV)) (x3:Int):Option (AV×Mem):=pt zpj 1 ⟨[(3,AV.loc 3 2 0 0),(4,AV.loc 4 9 0 0),(5,AV.loc 5 2 0 0),(8,AV.map 25),(27,AV.sl 7 (List.map zaw a1.Scripts)),(28,I ((↑(List.map zaw a1.Scripts).length:Int))),(29,I x3)],[(3,⟨2,zcT,[zaU a0],true⟩),(4,⟨9,zaE,[zat a1],true⟩),(5,⟨2,zdj,[zbk a2],true⟩),(25,⟨0,zow,x2,false⟩)]⟩
noncomputable def zc1 (a2:GMarking) (x2:List (List AV)) (x7:List (List AV)) (x8:Int):Option (AV×Mem):=pt zpj 2 ⟨[(8,AV.map 25),(13,AV.row 13 3 0 (List.length x7)),(51,AV.sl 8 (List.map zao a2.Given)),(52,I ((↑(List.map zao a2.Given).length:Int))),(53,I x8)],[(13,⟨3,zfo,x7,false⟩),(25,⟨0,zow,x2,false⟩)]⟩
theorem zs0 (a0:GMarkRule) (a1:GSetup) (a2:GMarking) (x2:List (List AV)) (x3:Int) {y:AV×Mem} (h:(
 brn (decide (x3 < (↑(List.map zaw a1.Scripts).length:Int))) (chk ((0:Int)≤x3)<|
 elemD zbb (List.map zaw a1.Scripts) x3.toNat fun (c4:GScript) =>
 callD zfY (cw zjj [AV.agg (zaU a0),AV.agg (zat a1),AV.agg (zbk a2),I c4.Number] []) fun (r5:(List GVerdict)×Int) =>
 brn (r5.snd != 0) (some (AV.tup [AV.sl 3 (List.map zan []),I r5.snd],[]))
 (msetD zP 3 112 (I c4.Number) (AV.sl 2 (List.map zaM r5.fst)) x2 fun (m6:List (List AV)) =>
 ziM a0 a1 a2 m6 (w64 (x3+1))))
 (zc1 a2 x2 [] 0))=some y):ziM a0 a1 a2 x2 x3=some y:=
 pt_of zT [] (by kernel_rfl) h
theorem zsK (a2:GMarking) (x2:List (List AV)) (x7:List (List AV)) (x8:Int) {y:AV×Mem} (h:(
 brn (decide (x8 < (↑(List.map zao a2.Given).length:Int))) (chk ((0:Int)≤x8)<|
 elemD za6 (List.map zao a2.Given) x8.toNat fun (c9:GGiven) =>
 mapD zP 3 false zlD (AV.sl 2 (List.map zaM [])) x2 (I c9.Script) fun (c10:List GVerdict) (b11:Bool) =>
 brn (decide (c9.Part < 0)) (zc1 a2 x2 x7 (w64 (x8+1)))
 (brn (decide ((↑(List.map zaM c10).length:Int)≤c9.Part)) (zc1 a2 x2 x7 (w64 (x8+1)))
 (chk ((0:Int)≤c9.Part)<|
 elemD zbf (List.map zaM c10) c9.Part.toNat fun (c12:GVerdict) =>
 brn (c12.State != 3) (zc1 a2 x2 x7 (w64 (x8+1)))
 (brn ((↑x7.length:Int) == 500) (some (AV.tup [AV.sl 3 (List.map zan []),I 3],[]))
 (chk ((0:Int)≤c9.Part)<|
 elemD zbf (List.map zaM c10) c9.Part.toNat fun (c13:GVerdict) =>
 chk (x7.length=x7.length)<|
 chk ((x7.length+1)*(24+1)≤1099511627776)<|
 chk ((x7++[[I c9.Marker,I (if 0 > c9.Value then 0 else c9.Value),I c13.Value]]).length=(x7++[[I c9.Marker,I (if 0 > c9.Value then 0 else c9.Value),I c13.Value]]).length)<|
 zc1 a2 x2 (x7++([zan (⟨c9.Marker,if 0 > c9.Value then 0 else c9.Value,c13.Value⟩)])) (w64 (x8+1)))))))
 (chk (0+x7.length≤x7.length)<|
 some (AV.tup [AV.sl 3 (List.take x7.length x7),I 0],[])))=some y):zc1 a2 x2 x7 x8=some y:=
 pt_of zT [] (by kernel_rfl) h
theorem zDe (a0:GMarkRule) (a1:GSetup) (a2:GMarking) {y:AV×Mem} (h:(
 callD ziO (cw zmn [AV.agg (zat a1)] []) fun (r0:Int) =>
 brn (r0 != 0) (some (AV.tup [AV.sl 3 (List.map zan []),I 1],[]))
 (callD zfz (cw zhX [AV.agg (zaU a0)] []) fun (r1:Int) =>
 brn (r1 != 0) (some (AV.tup [AV.sl 3 (List.map zan []),I 1],[]))
 (ziM a0 a1 a2 [] 0)))=some y):cw zpp [AV.agg (zaU a0),AV.agg (zat a1),AV.agg (zbk a2)] []=some y:=
 zah zpj zT [] rfl (by kernel_rfl) (by kernel_rfl) (by kernel_rfl) (by kernel_rfl) (by kernel_rfl) h
noncomputable def zdy (a0:GMarkRule) (a1:GSetup) (a2:GMarking) (x2:List (List AV)) (x3:Int):Option (AV×Mem):=pt zzx 1 ⟨[(3,AV.loc 3 2 0 0),(4,AV.loc 4 9 0 0),(5,AV.loc 5 2 0 0),(8,AV.row 8 3 0 (List.length x2)),(9,I x3)],[(3,⟨2,zcT,[zaU a0],true⟩),(4,⟨9,zaE,[zat a1],true⟩),(5,⟨2,zdj,[zbk a2],true⟩),(8,⟨3,zfo,x2,false⟩)]⟩
theorem zvW (a0:GMarkRule) (a1:GSetup) (a2:GMarking) (x2:List (List AV)) (x3:Int) {y:AV×Mem} (h:(
 brn (decide (x3 < (↑(List.map zao a2.Given).length:Int))) (chk ((0:Int)≤x3)<|
 elemD za6 (List.map zao a2.Given) x3.toNat fun (c4:GGiven) =>
 callD zkI (cw zpD [AV.agg (zaU a0),AV.agg (zat a1),AV.agg (zbk a2),I c4.Script] []) fun (r5:(List GVerdict)×Int) =>
 brn (r5.snd == 0) (brn (decide (0≤c4.Part)) (brn (decide (c4.Part < (↑(List.map zaM r5.fst).length:Int))) (chk ((0:Int)≤c4.Part)<|
 elemD zbf (List.map zaM r5.fst) c4.Part.toNat fun (c6:GVerdict) =>
 brn (c6.State == 3) (chk ((0:Int)≤c4.Part)<|
 elemD zbf (List.map zaM r5.fst) c4.Part.toNat fun (c7:GVerdict) =>
 chk (x2.length=x2.length)<|
 chk ((x2.length+1)*(24+1)≤1099511627776)<|
 chk ((x2++[[I c4.Marker,I (if 0 > c4.Value then 0 else c4.Value),I c7.Value]]).length=(x2++[[I c4.Marker,I (if 0 > c4.Value then 0 else c4.Value),I c7.Value]]).length)<|
 zdy a0 a1 a2 (x2++([zan (⟨c4.Marker,if 0 > c4.Value then 0 else c4.Value,c7.Value⟩)])) (w64 (x3+1)))
 (zdy a0 a1 a2 x2 (w64 (x3+1))))
 (zdy a0 a1 a2 x2 (w64 (x3+1))))
 (zdy a0 a1 a2 x2 (w64 (x3+1))))
 (zdy a0 a1 a2 x2 (w64 (x3+1))))
 (brn (decide (500 < (↑x2.length:Int))) (some (AV.tup [AV.sl 3 (List.map zan []),I 3],[]))
 (chk (0+x2.length≤x2.length)<|
 some (AV.tup [AV.sl 3 (List.take x2.length x2),I 0],[]))))=some y):zdy a0 a1 a2 x2 x3=some y:=
 pt_of zT [] (by kernel_rfl) h
theorem zGY (a0:GMarkRule) (a1:GSetup) (a2:GMarking) {y:AV×Mem} (h:(
 callD zia (cw zlx [AV.agg (zat a1)] []) fun (r0:Int) =>
 brn (r0 != 0) (some (AV.tup [AV.sl 3 (List.map zan []),I 1],[]))
 (callD zls (cw zoN [AV.agg (zaU a0)] []) fun (r1:Int) =>
 brn (r1 != 0) (some (AV.tup [AV.sl 3 (List.map zan []),I 1],[]))
 (zdy a0 a1 a2 [] 0)))=some y):cw ztI [AV.agg (zaU a0),AV.agg (zat a1),AV.agg (zbk a2)] []=some y:=
 zah zzx zT [] rfl (by kernel_rfl) (by kernel_rfl) (by kernel_rfl) (by kernel_rfl) (by kernel_rfl) h
noncomputable def zmd (x1:List (List AV)) (x2:GmarkDice) (x3:Int):Option (AV×Mem):=pt zzE 1 ⟨[(0,AV.loc 1000 2 0 0),(5,AV.row 5 3 0 (List.length x1)),(6,I x3)],[(5,⟨3,zfo,x1,false⟩),(1000,⟨2,zad,[zal x2],true⟩)]⟩
theorem zwa (x1:List (List AV)) (x2:GmarkDice) (x3:Int) {y:AV×Mem} (h:(
 brn (decide (0 < x3)) (callD zaA (cw zaB [AV.loc 1000 2 0 0,I 4] [(1000,⟨2,zad,[zal x2],true⟩)]) fun (r4:Int×GmarkDice) =>
 callD zaA (cw zaB [AV.loc 1000 2 0 0,I 7] [(1000,⟨2,zad,[zal r4.snd],true⟩)]) fun (r5:Int×GmarkDice) =>
 callD zaA (cw zaB [AV.loc 1000 2 0 0,I 7] [(1000,⟨2,zad,[zal r5.snd],true⟩)]) fun (r6:Int×GmarkDice) =>
 chk (x1.length=x1.length)<|
 chk ((x1.length+1)*(24+1)≤1099511627776)<|
 chk ((x1++[[I (w64 (1+r4.fst)),I r5.fst,I r6.fst]]).length=(x1++[[I (w64 (1+r4.fst)),I r5.fst,I r6.fst]]).length)<|
 zmd (x1++([zan (⟨w64 (1+r4.fst),r5.fst,r6.fst⟩)])) r6.snd (w64 (x3 - 1)))
 (chk (x1.length=x1.length)<|
 some (AV.new 3 zfo x1,[(1000,⟨2,zad,[zal x2],true⟩)])))=some y):zmd x1 x2 x3=some y:=
 pt_of zT [] (by kernel_rfl) h
theorem zHD (a0:GmarkDice) (a1:Int) {y:AV×Mem} (h:(
 callD zaA (cw zaB [AV.loc 1000 2 0 0,I (w64 (a1+1))] [(1000,⟨2,zad,[zal a0],true⟩)]) fun (r0:Int×GmarkDice) =>
 zmd [] r0.snd r0.fst)=some y):cw zlC [AV.loc 1000 2 0 0,I a1] [(1000,⟨2,zad,[zal a0],true⟩)]=some y:=
 zah zzE zT [] rfl (by kernel_rfl) (by kernel_rfl) (by kernel_rfl) (by kernel_rfl) (by kernel_rfl) h
noncomputable def zne (a0:List Int) (a1:List Int) (x0:Int):Option (AV×Mem):=pt zA5 1 ⟨[(0,AV.sl 1 (List.map zaa a0)),(1,AV.sl 1 (List.map zaa a1)),(12,I ((↑(List.map zaa a0).length:Int))),(13,I x0)],[]⟩
theorem zxu (a0:List Int) (a1:List Int) (x0:Int) {y:AV×Mem} (h:(
 brn (decide (x0 < (↑(List.map zaa a0).length:Int))) (chk ((0:Int)≤x0)<|
 elemD zag (List.map zaa a0) x0.toNat fun (c1:Int) =>
 chk ((0:Int)≤x0)<|
 elemD zag (List.map zaa a1) x0.toNat fun (c2:Int) =>
 brn (c1 != c2) (some (B false,[]))
 (zne a0 a1 (w64 (x0+1))))
 (some (B true,[])))=some y):zne a0 a1 x0=some y:=
 pt_of zT [] (by kernel_rfl) h
theorem zJm (a0:List Int) (a1:List Int) {y:AV×Mem} (h:(
 brn ((↑(List.map zaa a0).length:Int) != (↑(List.map zaa a1).length:Int)) (some (B false,[]))
 (zne a0 a1 0))=some y):cw zuI [AV.sl 1 (List.map zaa a0),AV.sl 1 (List.map zaa a1)] []=some y:=
 zah zA5 zT [] rfl (by kernel_rfl) (by kernel_rfl) (by kernel_rfl) (by kernel_rfl) (by kernel_rfl) h
noncomputable def zgR (a0:List GJudged) (x1:List (List AV)) (x2:List (List AV)) (x3:Int):Option (AV×Mem):=pt zvP 1 ⟨[(0,AV.sl 3 (List.map zan a0)),(3,AV.row 3 1 0 (List.length x1)),(4,AV.loc 4 2 0 0),(12,AV.sl 3 (List.map zan a0)),(13,I ((↑(List.map zan a0).length:Int))),(14,I x3)],[(3,⟨1,zaj,x1,false⟩),(4,⟨2,zCr,x2,false⟩)]⟩
theorem ztR (a0:List GJudged) (x1:List (List AV)) (x2:List (List AV)) (x3:Int) {y:AV×Mem} (h:(
 brn (decide (x3 < (↑(List.map zan a0).length:Int))) (chk ((0:Int)≤x3)<|
 elemD zbg (List.map zan a0) x3.toNat fun (c4:GJudged) =>
 chk ((0:Int)≤c4.Marker)<|
 chk ((c4.Marker:Int) < (↑100:Int))<|
 elemD zaR x2 (0+c4.Marker.toNat) fun (c5:GRatio) =>
 brn (c5.Den != 0) (zgR a0 x1 x2 (w64 (x3+1)))
 (callD zil (cw zmh [AV.sl 3 (List.map zan a0),I c4.Marker] []) fun (r6:GRatio×Bool) =>
 chk ((0:Int)≤c4.Marker)<|
 chk ((c4.Marker:Int) < (↑100:Int))<|
 elemD zaR x2 (0+c4.Marker.toNat) fun (c7:GRatio) =>
 chk (x1.length=x1.length)<|
 chk ((x1.length+1)*(8+1)≤1099511627776)<|
 chk ((x1++[[I c4.Marker]]).length=(x1++[[I c4.Marker]]).length)<|
 zgR a0 (x1++([zaa c4.Marker])) (List.set x2 (0+c4.Marker.toNat) (zae (⟨if w64 (0 - r6.fst.Num) > r6.fst.Num then w64 (0 - r6.fst.Num) else r6.fst.Num,r6.fst.Den⟩))) (w64 (x3+1))))
 (chk (0 < x2.length)<|
 callD zdv (cw zg3 [AV.row 1000 1 0 (List.length x1),AV.fn zaf [AV.fa 2 x2]] [(1000,⟨1,zaj,x1,false⟩)]) fun (r8:(List Int)) =>
 chk (0 < x2.length)<|
 chk (0 < x2.length)<|
 chk (x1.length=(List.map zaa r8).length)<|
 some (AV.new 1 zaj (List.map zaa r8),[])))=some y):zgR a0 x1 x2 x3=some y:=
 pt_of zT [] (by kernel_rfl) h
theorem zwg (a0:List GJudged) {y:AV×Mem} (h:(
 callD zew (cw zfJ [AV.sl 3 (List.map zan a0)] []) fun (r0:Bool) =>
 brn (!r0) (some (AV.new 1 zaj [],[]))
 (zgR a0 [] ([zae (⟨0,0⟩),zae (⟨0,0⟩),zae (⟨0,0⟩),zae (⟨0,0⟩),zae (⟨0,0⟩),zae (⟨0,0⟩),zae (⟨0,0⟩),zae (⟨0,0⟩),zae (⟨0,0⟩),zae (⟨0,0⟩),zae (⟨0,0⟩),zae (⟨0,0⟩),zae (⟨0,0⟩),zae (⟨0,0⟩),zae (⟨0,0⟩),zae (⟨0,0⟩),zae (⟨0,0⟩),zae (⟨0,0⟩),zae (⟨0,0⟩),zae (⟨0,0⟩),zae (⟨0,0⟩),zae (⟨0,0⟩),zae (⟨0,0⟩),zae (⟨0,0⟩),zae (⟨0,0⟩),zae (⟨0,0⟩),zae (⟨0,0⟩),zae (⟨0,0⟩),zae (⟨0,0⟩),zae (⟨0,0⟩),zae (⟨0,0⟩),zae (⟨0,0⟩),zae (⟨0,0⟩),zae (⟨0,0⟩),zae (⟨0,0⟩),zae (⟨0,0⟩),zae (⟨0,0⟩),zae (⟨0,0⟩),zae (⟨0,0⟩),zae (⟨0,0⟩),zae (⟨0,0⟩),zae (⟨0,0⟩),zae (⟨0,0⟩),zae (⟨0,0⟩),zae (⟨0,0⟩),zae (⟨0,0⟩),zae (⟨0,0⟩),zae (⟨0,0⟩),zae (⟨0,0⟩),zae (⟨0,0⟩),zae (⟨0,0⟩),zae (⟨0,0⟩),zae (⟨0,0⟩),zae (⟨0,0⟩),zae (⟨0,0⟩),zae (⟨0,0⟩),zae (⟨0,0⟩),zae (⟨0,0⟩),zae (⟨0,0⟩),zae (⟨0,0⟩),zae (⟨0,0⟩),zae (⟨0,0⟩),zae (⟨0,0⟩),zae (⟨0,0⟩),zae (⟨0,0⟩),zae (⟨0,0⟩),zae (⟨0,0⟩),zae (⟨0,0⟩),zae (⟨0,0⟩),zae (⟨0,0⟩),zae (⟨0,0⟩),zae (⟨0,0⟩),zae (⟨0,0⟩),zae (⟨0,0⟩),zae (⟨0,0⟩),zae (⟨0,0⟩),zae (⟨0,0⟩),zae (⟨0,0⟩),zae (⟨0,0⟩),zae (⟨0,0⟩),zae (⟨0,0⟩),zae (⟨0,0⟩),zae (⟨0,0⟩),zae (⟨0,0⟩),zae (⟨0,0⟩),zae (⟨0,0⟩),zae (⟨0,0⟩),zae (⟨0,0⟩),zae (⟨0,0⟩),zae (⟨0,0⟩),zae (⟨0,0⟩),zae (⟨0,0⟩),zae (⟨0,0⟩),zae (⟨0,0⟩),zae (⟨0,0⟩),zae (⟨0,0⟩),zae (⟨0,0⟩),zae (⟨0,0⟩),zae (⟨0,0⟩),zae (⟨0,0⟩)]) 0))=some y):cw zmi [AV.sl 3 (List.map zan a0)] []=some y:=
 zah zvP zT [] rfl (by kernel_rfl) (by kernel_rfl) (by kernel_rfl) (by kernel_rfl) (by kernel_rfl) h
noncomputable def zdT (a0:List GJudged) (x1:List (List AV)) (x2:Nat) (x3:Int):Option (AV×Mem):=pt znd 1 ⟨[(0,AV.sl 3 (List.map zan a0)),(3,AV.row 3 1 0 x2),(4,I x3)],[(3,⟨1,zaj,x1,false⟩)]⟩
noncomputable def zhy (a0:List GJudged) (x1:List (List AV)) (x2:Nat) (x3:Int) (r4:Int×Int×Int×Int) (x5:Int):Option (AV×Mem):=pt znd 2 ⟨[(0,AV.sl 3 (List.map zan a0)),(3,AV.row 3 1 0 x2),(4,I x3),(5,I r4.fst),(6,I r4.snd.fst),(9,I x5)],[(3,⟨1,zaj,x1,false⟩)]⟩
noncomputable def zjM (a0:List GJudged) (x1:List (List AV)) (x2:Nat) (x3:Int) (r4:Int×Int×Int×Int) (x5:Int):Option (AV×Mem):=pt znd 1014 ⟨[(0,AV.sl 3 (List.map zan a0)),(3,AV.row 3 1 0 x2),(4,I x3),(5,I r4.fst),(6,I r4.snd.fst),(9,I x5),(59,B true)],[(3,⟨1,zaj,x1,false⟩)]⟩
noncomputable def zlU (a0:List GJudged) (x1:List (List AV)) (x2:Nat) (x3:Int) (r4:Int×Int×Int×Int) (x5:Int):Option (AV×Mem):=pt znd 1014 ⟨[(0,AV.sl 3 (List.map zan a0)),(3,AV.row 3 1 0 x2),(4,I x3),(5,I r4.fst),(6,I r4.snd.fst),(9,I x5),(34,B false)],[(3,⟨1,zaj,x1,false⟩)]⟩
theorem zsk (a0:List GJudged) (x1:List (List AV)) (x2:Nat) (x3:Int) {y:AV×Mem} (h:(
 brn (decide (x3≤99)) (callD zf5 (cw zhQ [AV.sl 3 (List.map zan a0),I x3] []) fun (r4:Int×Int×Int×Int) =>
 brn (r4.fst == 0) (zdT a0 x1 x2 (w64 (x3+1)))
 (zhy a0 x1 x2 x3 r4 (↑x2:Int)))
 (chk (x2=x1.length)<|
 some (AV.new 1 zaj x1,[])))=some y):zdT a0 x1 x2 x3=some y:=
 pt_of zT [14] (by kernel_rfl) h
theorem zxy (a0:List GJudged) (x1:List (List AV)) (x2:Nat) (x3:Int) (r4:Int×Int×Int×Int) (x5:Int) {y:AV×Mem} (h:(
 brn (decide (0 < x5)) (chk ((0:Int)≤(w64 (x5 - 1)))<|
 chk ((w64 (x5 - 1):Int) < (↑x2:Int))<|
 elemD zag x1 (0+(w64 (x5 - 1)).toNat) fun (c6:Int) =>
 callD zf5 (cw zhQ [AV.sl 3 (List.map zan a0),I c6] []) fun (r7:Int×Int×Int×Int) =>
 brn (decide (w64 ((if w64 (0 - r4.snd.fst) > r4.snd.fst then w64 (0 - r4.snd.fst) else r4.snd.fst)*r7.fst)≤w64 ((if w64 (0 - r7.snd.fst) > r7.snd.fst then w64 (0 - r7.snd.fst) else r7.snd.fst)*r4.fst))) (zjM a0 x1 x2 x3 r4 x5)
 (zhy a0 x1 x2 x3 r4 (w64 (x5 - 1))))
 (zlU a0 x1 x2 x3 r4 x5))=some y):zhy a0 x1 x2 x3 r4 x5=some y:=
 pt_of zT [14] (by kernel_rfl) h
theorem zBK (a0:List GJudged) (x1:List (List AV)) (x2:Nat) (x3:Int) (r4:Int×Int×Int×Int) (x5:Int) {y:AV×Mem} (h:(
 chk (x2=x1.length)<|
 chk ((x1.length+1)*(8+1)≤1099511627776)<|
 chk ((x1++[[I x3]]).length=(x1++[[I x3]]).length)<|
 chk ((0:Int)≤(w64 (x5+1)))<|
 chk ((w64 (x5+1)).toNat≤(x1++[[I x3]]).length)<|
 chk ((x1++[[I x3]]).length≤(x1++[[I x3]]).length)<|
 chk ((0:Int)≤x5)<|
 chk (x5.toNat≤(x1++[[I x3]]).length)<|
 chk ((x1++[[I x3]]).length≤(x1++[[I x3]]).length)<|
 chk (0+x5.toNat+((x1++[[I x3]]).length - x5.toNat)≤(x1++[[I x3]]).length)<|
 chk (0+(w64 (x5+1)).toNat+((x1++[[I x3]]).length - (w64 (x5+1)).toNat)≤(x1++[[I x3]]).length)<|
 chk ((0:Int)≤x5)<|
 chk ((x5:Int) < ((↑(x1++[[I x3]]).length:Int)))<|
 elemD zag (((List.take (0+(w64 (x5+1)).toNat) (x1++([zaa x3])))++(List.take ((x1++[[I x3]]).length - (w64 (x5+1)).toNat) (List.take ((x1++[[I x3]]).length - x5.toNat) (List.drop (0+x5.toNat) (x1++([zaa x3]))))))++(List.drop (0+(w64 (x5+1)).toNat+Min.min (List.take ((x1++[[I x3]]).length - x5.toNat) (List.drop (0+x5.toNat) (x1++[[I x3]]))).length ((x1++[[I x3]]).length - (w64 (x5+1)).toNat)) (x1++([zaa x3])))) (0+x5.toNat) fun (c8:Int) =>
 zdT a0 (List.set (((List.take (0+(w64 (x5+1)).toNat) (x1++([zaa x3])))++(List.take ((x1++[[I x3]]).length - (w64 (x5+1)).toNat) (List.take ((x1++[[I x3]]).length - x5.toNat) (List.drop (0+x5.toNat) (x1++([zaa x3]))))))++(List.drop (0+(w64 (x5+1)).toNat+Min.min (List.take ((x1++[[I x3]]).length - x5.toNat) (List.drop (0+x5.toNat) (x1++[[I x3]]))).length ((x1++[[I x3]]).length - (w64 (x5+1)).toNat)) (x1++([zaa x3])))) (0+x5.toNat) (zaa x3)) ((x1++[[I x3]]).length) (w64 (x3+1)))=some y):zjM a0 x1 x2 x3 r4 x5=some y:=
 pt_of zT [14] (by kernel_rfl) h
theorem zAc (a0:List GJudged) (x1:List (List AV)) (x2:Nat) (x3:Int) (r4:Int×Int×Int×Int) (x5:Int) {y:AV×Mem} (h:(
 chk (x2=x1.length)<|
 chk ((x1.length+1)*(8+1)≤1099511627776)<|
 chk ((x1++[[I x3]]).length=(x1++[[I x3]]).length)<|
 chk ((0:Int)≤(w64 (x5+1)))<|
 chk ((w64 (x5+1)).toNat≤(x1++[[I x3]]).length)<|
 chk ((x1++[[I x3]]).length≤(x1++[[I x3]]).length)<|
 chk ((0:Int)≤x5)<|
 chk (x5.toNat≤(x1++[[I x3]]).length)<|
 chk ((x1++[[I x3]]).length≤(x1++[[I x3]]).length)<|
 chk (0+x5.toNat+((x1++[[I x3]]).length - x5.toNat)≤(x1++[[I x3]]).length)<|
 chk (0+(w64 (x5+1)).toNat+((x1++[[I x3]]).length - (w64 (x5+1)).toNat)≤(x1++[[I x3]]).length)<|
 chk ((0:Int)≤x5)<|
 chk ((x5:Int) < ((↑(x1++[[I x3]]).length:Int)))<|
 elemD zag (((List.take (0+(w64 (x5+1)).toNat) (x1++([zaa x3])))++(List.take ((x1++[[I x3]]).length - (w64 (x5+1)).toNat) (List.take ((x1++[[I x3]]).length - x5.toNat) (List.drop (0+x5.toNat) (x1++([zaa x3]))))))++(List.drop (0+(w64 (x5+1)).toNat+Min.min (List.take ((x1++[[I x3]]).length - x5.toNat) (List.drop (0+x5.toNat) (x1++[[I x3]]))).length ((x1++[[I x3]]).length - (w64 (x5+1)).toNat)) (x1++([zaa x3])))) (0+x5.toNat) fun (c9:Int) =>
 zdT a0 (List.set (((List.take (0+(w64 (x5+1)).toNat) (x1++([zaa x3])))++(List.take ((x1++[[I x3]]).length - (w64 (x5+1)).toNat) (List.take ((x1++[[I x3]]).length - x5.toNat) (List.drop (0+x5.toNat) (x1++([zaa x3]))))))++(List.drop (0+(w64 (x5+1)).toNat+Min.min (List.take ((x1++[[I x3]]).length - x5.toNat) (List.drop (0+x5.toNat) (x1++[[I x3]]))).length ((x1++[[I x3]]).length - (w64 (x5+1)).toNat)) (x1++([zaa x3])))) (0+x5.toNat) (zaa x3)) ((x1++[[I x3]]).length) (w64 (x3+1)))=some y):zlU a0 x1 x2 x3 r4 x5=some y:=
 pt_of zT [14] (by kernel_rfl) h
theorem zAQ (a0:List GJudged) {y:AV×Mem} (h:(
 callD zfm (cw zgD [AV.sl 3 (List.map zan a0)] []) fun (r0:Bool) =>
 brn (!r0) (some (AV.new 1 zaj [],[]))
 (zdT a0 [] 0 1))=some y):cw zrq [AV.sl 3 (List.map zan a0)] []=some y:=
 zah znd zT [14] rfl (by kernel_rfl) (by kernel_rfl) (by kernel_rfl) (by kernel_rfl) (by kernel_rfl) h
theorem zk9 (a0:GmarkDice) (a1:Int) {y:AV×Mem} (h:(
 brn (decide ((↑(List.map zaa a0.L).length:Int)≤a0.At)) (some (I 0,[(1000,⟨2,zad,[zal a0],true⟩)]))
 (brn (decide (a1 < 1)) (some (I 0,[(1000,⟨2,zad,[zal a0],true⟩)]))
 (chk ((0:Int)≤a0.At)<|
 elemD zag (List.map zaa a0.L) a0.At.toNat fun (c0:Int) =>
 chk ((a1:Int)≠0)<|
 brn (decide (Int.tmod c0 a1 < 0)) (some (I (w64 (Int.tmod c0 a1+a1)),[(1000,⟨2,zad,[zal (⟨a0.L,w64 (a0.At+1)⟩)],true⟩)]))
 (some (I (Int.tmod c0 a1),[(1000,⟨2,zad,[zal (⟨a0.L,w64 (a0.At+1)⟩)],true⟩)])))))=some y):cw zaB [AV.loc 1000 2 0 0,I a1] [(1000,⟨2,zad,[zal a0],true⟩)]=some y:=
 zah zDp zT [] rfl (by kernel_rfl) (by kernel_rfl) (by kernel_rfl) (by kernel_rfl) (by kernel_rfl) h
theorem zFJ (a0:List GJudged) (a1:Int) {y:AV×Mem} (h:(
 callD zgB (cw zdx [AV.sl 3 (List.map zan a0),I a1,AV.fn zd3 []] []) fun (r0:GRatio×Bool) =>
 some (AV.tup [AV.agg (zae r0.fst),B r0.snd],[]))=some y):cw zmh [AV.sl 3 (List.map zan a0),I a1] []=some y:=
 zah zE9 zT [] rfl (by kernel_rfl) (by kernel_rfl) (by kernel_rfl) (by kernel_rfl) (by kernel_rfl) h
theorem zIT (a0:List GJudged) (a1:Int) {y:AV×Mem} (h:(
 callD zfm (cw zgD [AV.sl 3 (List.map zan a0)] []) fun (r0:Bool) =>
 brn (!r0) (some (AV.tup [AV.agg (zae (⟨0,1⟩)),B false],[]))
 (callD zf5 (cw zhQ [AV.sl 3 (List.map zan a0),I a1] []) fun (r1:Int×Int×Int×Int) =>
 callD zii (cw zlp [AV.sl 3 (List.map zan a0),I r1.snd.fst,I r1.fst] []) fun (r2:GRatio×Bool) =>
 some (AV.tup [AV.agg (zae r2.fst),B r2.snd],[])))=some y):cw zvq [AV.sl 3 (List.map zan a0),I a1] []=some y:=
 zah zI7 zT [] rfl (by kernel_rfl) (by kernel_rfl) (by kernel_rfl) (by kernel_rfl) (by kernel_rfl) h
theorem zCd (a0:List GJudged) (a1:Int) {y:AV×Mem} (h:(
 callD zgB (cw zdx [AV.sl 3 (List.map zan a0),I a1,AV.fn zdt []] []) fun (r0:GRatio×Bool) =>
 some (AV.tup [AV.agg (zae r0.fst),B r0.snd],[]))=some y):cw zoc [AV.sl 3 (List.map zan a0),I a1] []=some y:=
 zah zCh zT [] rfl (by kernel_rfl) (by kernel_rfl) (by kernel_rfl) (by kernel_rfl) (by kernel_rfl) h
theorem zF6 (a0:List GJudged) (a1:Int) {y:AV×Mem} (h:(
 callD zfm (cw zgD [AV.sl 3 (List.map zan a0)] []) fun (r0:Bool) =>
 brn (!r0) (some (AV.tup [AV.agg (zae (⟨0,1⟩)),B false],[]))
 (callD zf5 (cw zhQ [AV.sl 3 (List.map zan a0),I a1] []) fun (r1:Int×Int×Int×Int) =>
 callD zii (cw zlp [AV.sl 3 (List.map zan a0),I r1.snd.snd.fst,I r1.fst] []) fun (r2:GRatio×Bool) =>
 some (AV.tup [AV.agg (zae r2.fst),B r2.snd],[])))=some y):cw zr2 [AV.sl 3 (List.map zan a0),I a1] []=some y:=
 zah zF9 zT [] rfl (by kernel_rfl) (by kernel_rfl) (by kernel_rfl) (by kernel_rfl) (by kernel_rfl) h
theorem zyh (a0:List GJudged) (a1:Int) {y:AV×Mem} (h:(
 callD zgB (cw zdx [AV.sl 3 (List.map zan a0),I a1,AV.fn zcy []] []) fun (r0:GRatio×Bool) =>
 some (AV.tup [AV.agg (zae r0.fst),B r0.snd],[]))=some y):cw zkM [AV.sl 3 (List.map zan a0),I a1] []=some y:=
 zah zyY zT [] rfl (by kernel_rfl) (by kernel_rfl) (by kernel_rfl) (by kernel_rfl) (by kernel_rfl) h
theorem zBV (a0:List GJudged) (a1:Int) {y:AV×Mem} (h:(
 callD zfm (cw zgD [AV.sl 3 (List.map zan a0)] []) fun (r0:Bool) =>
 brn (!r0) (some (AV.tup [AV.agg (zae (⟨0,1⟩)),B false],[]))
 (callD zf5 (cw zhQ [AV.sl 3 (List.map zan a0),I a1] []) fun (r1:Int×Int×Int×Int) =>
 callD zii (cw zlp [AV.sl 3 (List.map zan a0),I r1.snd.snd.snd,I r1.fst] []) fun (r2:GRatio×Bool) =>
 some (AV.tup [AV.agg (zae r2.fst),B r2.snd],[])))=some y):cw zn2 [AV.sl 3 (List.map zan a0),I a1] []=some y:=
 zah zB4 zT [] rfl (by kernel_rfl) (by kernel_rfl) (by kernel_rfl) (by kernel_rfl) (by kernel_rfl) h
theorem zDE (a0:GmarkDice) (a1:List Int) {y:AV×Mem} (h:(
 callD zaA (cw zaB [AV.loc 1000 2 0 0,I ((↑(List.map zaa a1).length:Int))] [(1000,⟨2,zad,[zal a0],true⟩)]) fun (r0:Int×GmarkDice) =>
 chk (0≤r0.fst)<|
 elemD zag (List.map zaa a1) (Int.toNat r0.fst) fun (c1:Int) =>
 some (I c1,[(1000,⟨2,zad,[zal r0.snd],true⟩)]))=some y):cw zeu [AV.loc 1000 2 0 0,AV.sl 1 (List.map zaa a1)] [(1000,⟨2,zad,[zal a0],true⟩)]=some y:=
 zah zD7 zT [] rfl (by kernel_rfl) (by kernel_rfl) (by kernel_rfl) (by kernel_rfl) (by kernel_rfl) h
end Go.Proofs.YticojpmhlhfhlaaGreat
