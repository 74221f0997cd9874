/- What the functions compute, between two cut points: printed by a program, checked by the kernel. -/
import Derived.Test.YticojpmhlhfhlaaGreatAnn
namespace Go.Proofs.YticojpmhlhfhlaaGreat
open Go.Ab
set_option maxRecDepth 100000
set_option linter.unusedVariables false
noncomputable def zez (a0:GMarkRule) (a1:GSetup) (a2:GMarking) (a3:Int) (r3:Int×Bool) (r6:(List Int)×Int) (r7:(List Int)×Bool) (x8:List (List AV)) (x9:Int):Option (AV×Mem):=pt zpr 1 ⟨[(3,I a3),(4,AV.loc 4 2 0 0),(5,AV.loc 5 9 0 0),(6,AV.loc 6 2 0 0),(12,I r3.fst),(14,AV.sl 1 (List.map zaa r6.fst)),(16,AV.sl 1 (List.map zaa r7.fst)),(17,B r7.snd),(18,AV.row 18 2 0 (List.length x8)),(19,I x9)],[(4,⟨2,zcT,[zaU a0],true⟩),(5,⟨9,zaE,[zat a1],true⟩),(6,⟨2,zdj,[zbk a2],true⟩),(18,⟨2,zco,x8,false⟩)]⟩
noncomputable def zgv (a0:GMarkRule) (a1:GSetup) (a2:GMarking) (a3:Int) (r3:Int×Bool) (r6:(List Int)×Int) (r7:(List Int)×Bool) (x8:List (List AV)) (x9:Int):Option (AV×Mem):=pt zpr 1015 ⟨[(3,I a3),(4,AV.loc 4 2 0 0),(5,AV.loc 5 9 0 0),(6,AV.loc 6 2 0 0),(12,I r3.fst),(14,AV.sl 1 (List.map zaa r6.fst)),(16,AV.sl 1 (List.map zaa r7.fst)),(17,B r7.snd),(18,AV.row 18 2 0 (List.length x8)),(19,I x9),(86,B true)],[(4,⟨2,zcT,[zaU a0],true⟩),(5,⟨9,zaE,[zat a1],true⟩),(6,⟨2,zdj,[zbk a2],true⟩),(18,⟨2,zco,x8,false⟩)]⟩
theorem zsI (a0:GMarkRule) (a1:GSetup) (a2:GMarking) (a3:Int) (r3:Int×Bool) (r6:(List Int)×Int) (r7:(List Int)×Bool) (x8:List (List AV)) (x9:Int) {y:AV×Mem} (h:(
 chk (0≤r3.fst)<|
 elemD zbj (List.map zas a1.Papers) (Int.toNat r3.fst) fun (c10:GPaper) =>
 brn (decide (x9 < (↑(List.map zav c10.Parts).length:Int))) (chk (0≤r3.fst)<|
 elemD zbj (List.map zas a1.Papers) (Int.toNat r3.fst) fun (c11:GPaper) =>
 callD zj8 (cw zm6 [AV.agg (zas c11),I x9] []) fun (r12:Bool) =>
 brn (!r12) (zgv a0 a1 a2 a3 r3 r6 r7 x8 x9)
 (chk (0≤r3.fst)<|
 elemD zcg (List.map zaW a1.Schemes) (Int.toNat r3.fst) fun (c13:GScheme) =>
 chk ((0:Int)≤x9)<|
 elemD zag (List.map zaa c13.Withdrawn) x9.toNat fun (c14:Int) =>
 brn (c14 != 0) (zgv a0 a1 a2 a3 r3 r6 r7 x8 x9)
 (brn r7.snd (chk ((0:Int)≤x9)<|
 elemD zag (List.map zaa r7.fst) x9.toNat fun (c15:Int) =>
 chk (x8.length=x8.length)<|
 chk ((x8.length+1)*(16+1)≤1099511627776)<|
 chk ((x8++[[I 3,I c15]]).length=(x8++[[I 3,I c15]]).length)<|
 zez a0 a1 a2 a3 r3 r6 r7 (x8++([zaM (⟨3,c15⟩)])) (w64 (x9+1)))
 (callD zku (cw zpI [AV.agg (zbk a2),I a3,I x9] []) fun (r16:(List GGiven)) =>
 chk (0+(List.map zao r16).length≤(List.map zao r16).length)<|
 callD znh (cw zr3 [AV.agg (zaU a0),AV.sl 8 (List.take ((List.map zao r16).length) (List.map zao r16))] []) fun (r17:GVerdict) =>
 chk (x8.length=x8.length)<|
 chk ((x8.length+1)*(16+1)≤1099511627776)<|
 chk ((x8++[[I r17.State,I r17.Value]]).length=(x8++[[I r17.State,I r17.Value]]).length)<|
 zez a0 a1 a2 a3 r3 r6 r7 (x8++([zaM r17])) (w64 (x9+1))))))
 (chk (0+x8.length≤x8.length)<|
 some (AV.tup [AV.sl 2 (List.take x8.length x8),I 0],[])))=some y):zez a0 a1 a2 a3 r3 r6 r7 x8 x9=some y:=
 pt_of zT [15] (by kernel_rfl) h
theorem zxB (a0:GMarkRule) (a1:GSetup) (a2:GMarking) (a3:Int) (r3:Int×Bool) (r6:(List Int)×Int) (r7:(List Int)×Bool) (x8:List (List AV)) (x9:Int) {y:AV×Mem} (h:(
 chk ((0:Int)≤x9)<|
 elemD zag (List.map zaa r6.fst) x9.toNat fun (c18:Int) =>
 chk (x8.length=x8.length)<|
 chk ((x8.length+1)*(16+1)≤1099511627776)<|
 chk ((x8++[[I 3,I (if 0 > c18 then 0 else c18)]]).length=(x8++[[I 3,I (if 0 > c18 then 0 else c18)]]).length)<|
 zez a0 a1 a2 a3 r3 r6 r7 (x8++([zaM (⟨3,if 0 > c18 then 0 else c18⟩)])) (w64 (x9+1)))=some y):zgv a0 a1 a2 a3 r3 r6 r7 x8 x9=some y:=
 pt_of zT [15] (by kernel_rfl) h
theorem zEi (a0:GMarkRule) (a1:GSetup) (a2:GMarking) (a3:Int) {y:AV×Mem} (h:(
 callD zia (cw zlx [AV.agg (zat a1)] []) fun (r0:Int) =>
 brn (r0 != 0) (some (AV.tup [AV.sl 2 (List.map zaM []),I 1],[]))
 (callD zls (cw zoN [AV.agg (zaU a0)] []) fun (r1:Int) =>
 brn (r1 != 0) (some (AV.tup [AV.sl 2 (List.map zaM []),I 1],[]))
 (callD zhv (cw zj1 [AV.sl 7 (List.map zaw a1.Scripts),I a3] []) fun (r2:GScript×Bool) =>
 brn (!r2.snd) (some (AV.tup [AV.sl 2 (List.map zaM []),I 4],[]))
 (callD zgo (cw ziP [AV.agg (zat a1),I a3] []) fun (r3:Int×Bool) =>
 chk (0≤r3.fst)<|
 elemD zbj (List.map zas a1.Papers) (Int.toNat r3.fst) fun (c4:GPaper) =>
 chk (0≤r3.fst)<|
 elemD zcg (List.map zaW a1.Schemes) (Int.toNat r3.fst) fun (c5:GScheme) =>
 callD zjS (cw zjW [AV.agg (zas c4),AV.agg (zaW c5),AV.sl 1 (List.map zaa r2.fst.Answers)] []) fun (r6:(List Int)×Int) =>
 callD zcX (cw zdJ [AV.sl 2 (List.map zbT a1.Seeds),I a3] []) fun (r7:(List Int)×Bool) =>
 zez a0 a1 a2 a3 r3 r6 r7 [] 0))))=some y):cw zpD [AV.agg (zaU a0),AV.agg (zat a1),AV.agg (zbk a2),I a3] []=some y:=
 zah zpr zT [15] rfl (by kernel_rfl) (by kernel_rfl) (by kernel_rfl) (by kernel_rfl) (by kernel_rfl) h
theorem zDP (a0:List GJudged) {y:AV×Mem} (h:(
 brn (decide (500 < (↑(List.map zan a0).length:Int))) (some (B false,[]))
 (callD zbZ (cw zcG [AV.sl 3 (List.map zan a0),AV.fn zcf []] []) fun (r0:Bool) =>
 some (B (!r0),[])))=some y):cw zfJ [AV.sl 3 (List.map zan a0)] []=some y:=
 zah zDR zT [] rfl (by kernel_rfl) (by kernel_rfl) (by kernel_rfl) (by kernel_rfl) (by kernel_rfl) h
theorem zum (a0:List Int) (s:List GRatio) {y:AV×Mem} (h:(
 callD znD (cw zyD [AV.v (.int .u64 (wu64 (↑(List.map zaa a0).length:Int)))] []) fun (r0:Int) =>
 callD za2 (cw zc2 [AV.row 1000 1 0 (List.length (List.map zaa a0)),I 0,I ((↑(List.map zaa a0).length:Int)),I r0,AV.fn zaf [AV.fa 2 (List.map zae s)]] [(1000,⟨1,zaj,List.map zaa a0,false⟩)]) fun (r1:(List Int)) =>
 some (AV.tup [],[(1000,⟨1,zaj,List.map zaa r1,false⟩)]))=some y):cw zg3 [AV.row 1000 1 0 (List.length (List.map zaa a0)),AV.fn zaf [AV.fa 2 (List.map zae s)]] [(1000,⟨1,zaj,List.map zaa a0,false⟩)]=some y:=
 zah zuy zT [] rfl (by kernel_rfl) (by kernel_rfl) (by kernel_rfl) (by kernel_rfl) (by kernel_rfl) h
theorem zCm (a0:Int) (a1:Int) (s:List GRatio) {y:AV×Mem} (h:(
 chk ((0:Int)≤a1)<|
 chk ((a1:Int) < (↑100:Int))<|
 elemD zaR (List.map zae s) a1.toNat fun (c0:GRatio) =>
 chk ((0:Int)≤a0)<|
 chk ((a0:Int) < (↑100:Int))<|
 elemD zaR (List.map zae s) a0.toNat fun (c1:GRatio) =>
 callD zrz (cw zq3 [AV.agg (zae c0),AV.agg (zae c1)] []) fun (r2:Int) =>
 callD zdp (cw zdZ [I a0,I a1] []) fun (r3:Int) =>
 callD zj2 (cw zmT [AV.sl 1 (List.map zaa ([r2,r3]))] []) fun (r4:Int) =>
 some (I r4,[]))=some y):cw zaf [I a0,I a1,AV.fa 2 (List.map zae s)] []=some y:=
 zah zCg zT [] rfl (by kernel_rfl) (by kernel_rfl) (by kernel_rfl) (by kernel_rfl) (by kernel_rfl) h
noncomputable def zns (a0:List Int) (x0:Int):Option (AV×Mem):=pt zA4 1 ⟨[(3,I 0),(6,AV.sl 1 (List.map zaa a0)),(7,I ((↑(List.map zaa a0).length:Int))),(8,I x0)],[]⟩
theorem zjU (a0:List Int) (x0:Int) {y:AV×Mem} (h:(
 brn (decide (x0 < (↑(List.map zaa a0).length:Int))) (chk ((0:Int)≤x0)<|
 elemD zag (List.map zaa a0) x0.toNat fun (c1:Int) =>
 brn (c1 != 0) (some (I c1,[]))
 (zns a0 (w64 (x0+1))))
 (some (I 0,[])))=some y):zns a0 x0=some y:=
 pt_of zT [] (by kernel_rfl) h
theorem zAr (a0:List Int) {y:AV×Mem} (h:(
 zns a0 0)=some y):cw zmT [AV.sl 1 (List.map zaa a0)] []=some y:=
 zah zA4 zT [] rfl (by kernel_rfl) (by kernel_rfl) (by kernel_rfl) (by kernel_rfl) (by kernel_rfl) h
theorem zEC (a0:GRatio) (a1:GRatio) {y:AV×Mem} (h:(
 callD zoQ (cw zo6 [AV.agg (zae a0)] []) fun (r0:Bool) =>
 brn (!r0) (some (I 0,[]))
 (callD zoQ (cw zo6 [AV.agg (zae a1)] []) fun (r1:Bool) =>
 brn (!r1) (some (I 0,[]))
 (callD zgl (cw zgn [I a0.Num,AV.v (.int .u64 (wu64 a1.Den))] []) fun (r2:GratioSigned) =>
 callD zgl (cw zgn [I a1.Num,AV.v (.int .u64 (wu64 a0.Den))] []) fun (r3:GratioSigned) =>
 brn r2.neg (brn r3.neg (callD zeR (cw zeT [AV.agg (za9 r3.abs),AV.agg (za9 r2.abs)] []) fun (r4:Int) =>
 some (I r4,[]))
 (brn r2.neg (some (I (-1),[]))
 (brn r3.neg (some (I 1,[]))
 (callD zeR (cw zeT [AV.agg (za9 r2.abs),AV.agg (za9 r3.abs)] []) fun (r5:Int) =>
 some (I r5,[])))))
 (brn r2.neg (some (I (-1),[]))
 (brn r3.neg (some (I 1,[]))
 (callD zeR (cw zeT [AV.agg (za9 r2.abs),AV.agg (za9 r3.abs)] []) fun (r6:Int) =>
 some (I r6,[])))))))=some y):cw zq3 [AV.agg (zae a0),AV.agg (zae a1)] []=some y:=
 zah zEt zT [] rfl (by kernel_rfl) (by kernel_rfl) (by kernel_rfl) (by kernel_rfl) (by kernel_rfl) h
theorem ztX (a0:Int) (a1:Int) {y:AV×Mem} (h:(
 callD zgw (cw zi6 [I a0] []) fun (r0:Bool) =>
 callD zgw (cw zi6 [I a1] []) fun (r1:Bool) =>
 brn r0 (brn r1 (some (I 0,[]))
 (some (I (-1),[])))
 (brn r1 (some (I 1,[]))
 (brn (decide (a0 < a1)) (some (I (-1),[]))
 (brn (decide (a1 < a0)) (some (I 1,[]))
 (some (I 0,[]))))))=some y):cw zdZ [I a0,I a1] []=some y:=
 zah zCw zT [] rfl (by kernel_rfl) (by kernel_rfl) (by kernel_rfl) (by kernel_rfl) (by kernel_rfl) h
noncomputable def zi2 (a0:List GJudged) (x0:Int):Option (AV×Mem):=pt zzy 1 ⟨[(0,AV.sl 3 (List.map zan a0)),(3,I x0)],[]⟩
theorem zrl (a0:List GJudged) (x0:Int) {y:AV×Mem} (h:(
 brn (decide (x0 < (↑(List.map zan a0).length:Int))) (chk ((0:Int)≤x0)<|
 elemD zbg (List.map zan a0) x0.toNat fun (c1:GJudged) =>
 brn (decide (c1.Marker < 1)) (some (B false,[]))
 (chk ((0:Int)≤x0)<|
 elemD zbg (List.map zan a0) x0.toNat fun (c2:GJudged) =>
 brn (decide (99 < c2.Marker)) (some (B false,[]))
 (chk ((0:Int)≤x0)<|
 elemD zbg (List.map zan a0) x0.toNat fun (c3:GJudged) =>
 brn (decide (c3.Value < 0)) (some (B false,[]))
 (chk ((0:Int)≤x0)<|
 elemD zbg (List.map zan a0) x0.toNat fun (c4:GJudged) =>
 brn (decide (40 < c4.Value)) (some (B false,[]))
 (chk ((0:Int)≤x0)<|
 elemD zbg (List.map zan a0) x0.toNat fun (c5:GJudged) =>
 brn (decide (c5.Final < 0)) (some (B false,[]))
 (chk ((0:Int)≤x0)<|
 elemD zbg (List.map zan a0) x0.toNat fun (c6:GJudged) =>
 brn (decide (40 < c6.Final)) (some (B false,[]))
 (zi2 a0 (w64 (x0+1)))))))))
 (some (B true,[])))=some y):zi2 a0 x0=some y:=
 pt_of zT [] (by kernel_rfl) h
theorem zHR (a0:List GJudged) {y:AV×Mem} (h:(
 brn (decide (500 < (↑(List.map zan a0).length:Int))) (some (B false,[]))
 (zi2 a0 0))=some y):cw zgD [AV.sl 3 (List.map zan a0)] []=some y:=
 zah zzy zT [] rfl (by kernel_rfl) (by kernel_rfl) (by kernel_rfl) (by kernel_rfl) (by kernel_rfl) h
noncomputable def zhw (a0:List GJudged) (a1:Int) (x0:Int) (x1:Int) (x2:Int) (x3:Int) (x4:Int):Option (AV×Mem):=pt zAD 1 ⟨[(0,AV.sl 3 (List.map zan a0)),(1,I a1),(4,I x0),(5,I x1),(6,I x2),(7,I x3),(8,I x4)],[]⟩
theorem zxX (a0:List GJudged) (a1:Int) (x0:Int) (x1:Int) (x2:Int) (x3:Int) (x4:Int) {y:AV×Mem} (h:(
 brn (decide (x4 < (↑(List.map zan a0).length:Int))) (chk ((0:Int)≤x4)<|
 elemD zbg (List.map zan a0) x4.toNat fun (c5:GJudged) =>
 brn (c5.Marker != a1) (zhw a0 a1 x0 x1 x2 x3 (w64 (x4+1)))
 (chk ((0:Int)≤x4)<|
 elemD zbg (List.map zan a0) x4.toNat fun (c6:GJudged) =>
 chk ((0:Int)≤x4)<|
 elemD zbg (List.map zan a0) x4.toNat fun (c7:GJudged) =>
 brn (w64 (c6.Value - c7.Final) == 0) (zhw a0 a1 (w64 (x0+1)) (w64 (x1+w64 (c6.Value - c7.Final))) (w64 (x2+if w64 (0 - w64 (c6.Value - c7.Final)) > w64 (c6.Value - c7.Final) then w64 (0 - w64 (c6.Value - c7.Final)) else w64 (c6.Value - c7.Final))) (w64 (x3+1)) (w64 (x4+1)))
 (zhw a0 a1 (w64 (x0+1)) (w64 (x1+w64 (c6.Value - c7.Final))) (w64 (x2+if w64 (0 - w64 (c6.Value - c7.Final)) > w64 (c6.Value - c7.Final) then w64 (0 - w64 (c6.Value - c7.Final)) else w64 (c6.Value - c7.Final))) x3 (w64 (x4+1)))))
 (some (AV.tup [I x0,I x1,I x2,I x3],[])))=some y):zhw a0 a1 x0 x1 x2 x3 x4=some y:=
 pt_of zT [] (by kernel_rfl) h
theorem zIU (a0:List GJudged) (a1:Int) {y:AV×Mem} (h:(
 zhw a0 a1 0 0 0 0 0)=some y):cw zhQ [AV.sl 3 (List.map zan a0),I a1] []=some y:=
 zah zAD zT [] rfl (by kernel_rfl) (by kernel_rfl) (by kernel_rfl) (by kernel_rfl) (by kernel_rfl) h
noncomputable def zed (a0:List GJudged) (a1:Int) (x2:Int) (x3:Int) (x4:Int):Option (AV×Mem):=pt zgz 1 ⟨[(1,I a1),(2,AV.fn zd3 []),(6,AV.loc 6 2 0 0),(8,I x2),(9,I x3),(18,AV.sl 3 (List.map zan a0)),(19,I ((↑(List.map zan a0).length:Int))),(20,I x4)],[(6,⟨2,ze8,[zae (⟨0,0⟩)],true⟩)]⟩
theorem zou (a0:List GJudged) (a1:Int) (x2:Int) (x3:Int) (x4:Int) {y:AV×Mem} (h:(
 brn (decide (x4 < (↑(List.map zan a0).length:Int))) (chk ((0:Int)≤x4)<|
 elemD zbg (List.map zan a0) x4.toNat fun (c5:GJudged) =>
 brn (c5.Marker == a1) (callD zjK (cw zd3 [I (w64 (c5.Value - c5.Final))] []) fun (r6:Int) =>
 zed a0 a1 (w64 (x2+r6)) (w64 (x3+1)) (w64 (x4+1)))
 (zed a0 a1 x2 x3 (w64 (x4+1))))
 (brn (x3 == 0) (callD za5 (cw za8 [] []) fun (r7:GRatio) =>
 some (AV.tup [AV.agg (zae r7),B false],[]))
 (callD zeQ (cw zhl [I x2,I x3] []) fun (r8:GRatio×Int) =>
 brn (r8.snd != 0) (callD za5 (cw za8 [] []) fun (r9:GRatio) =>
 some (AV.tup [AV.agg (zae r9),B false],[]))
 (some (AV.tup [AV.agg (zae r8.fst),B true],[])))))=some y):zed a0 a1 x2 x3 x4=some y:=
 pt_of zT [] (by kernel_rfl) h
theorem zyT (a0:List GJudged) (a1:Int) {y:AV×Mem} (h:(
 callD zew (cw zfJ [AV.sl 3 (List.map zan a0)] []) fun (r0:Bool) =>
 brn (!r0) (callD za5 (cw za8 [] []) fun (r1:GRatio) =>
 some (AV.tup [AV.agg (zae r1),B false],[]))
 (zed a0 a1 0 0 0))=some y):cw zdx [AV.sl 3 (List.map zan a0),I a1,AV.fn zd3 []] []=some y:=
 zah zgz zT [] rfl (by kernel_rfl) (by kernel_rfl) (by kernel_rfl) (by kernel_rfl) (by kernel_rfl) h
noncomputable def zdK (a0:List GJudged) (a1:Int) (x2:Int) (x3:Int) (x4:Int):Option (AV×Mem):=pt zgz 1 ⟨[(1,I a1),(2,AV.fn zdt []),(6,AV.loc 6 2 0 0),(8,I x2),(9,I x3),(18,AV.sl 3 (List.map zan a0)),(19,I ((↑(List.map zan a0).length:Int))),(20,I x4)],[(6,⟨2,ze8,[zae (⟨0,0⟩)],true⟩)]⟩
theorem zm9 (a0:List GJudged) (a1:Int) (x2:Int) (x3:Int) (x4:Int) {y:AV×Mem} (h:(
 brn (decide (x4 < (↑(List.map zan a0).length:Int))) (chk ((0:Int)≤x4)<|
 elemD zbg (List.map zan a0) x4.toNat fun (c5:GJudged) =>
 brn (c5.Marker == a1) (callD zhT (cw zdt [I (w64 (c5.Value - c5.Final))] []) fun (r6:Int) =>
 zdK a0 a1 (w64 (x2+r6)) (w64 (x3+1)) (w64 (x4+1)))
 (zdK a0 a1 x2 x3 (w64 (x4+1))))
 (brn (x3 == 0) (callD za5 (cw za8 [] []) fun (r7:GRatio) =>
 some (AV.tup [AV.agg (zae r7),B false],[]))
 (callD zeQ (cw zhl [I x2,I x3] []) fun (r8:GRatio×Int) =>
 brn (r8.snd != 0) (callD za5 (cw za8 [] []) fun (r9:GRatio) =>
 some (AV.tup [AV.agg (zae r9),B false],[]))
 (some (AV.tup [AV.agg (zae r8.fst),B true],[])))))=some y):zdK a0 a1 x2 x3 x4=some y:=
 pt_of zT [] (by kernel_rfl) h
theorem zwU (a0:List GJudged) (a1:Int) {y:AV×Mem} (h:(
 callD zew (cw zfJ [AV.sl 3 (List.map zan a0)] []) fun (r0:Bool) =>
 brn (!r0) (callD za5 (cw za8 [] []) fun (r1:GRatio) =>
 some (AV.tup [AV.agg (zae r1),B false],[]))
 (zdK a0 a1 0 0 0))=some y):cw zdx [AV.sl 3 (List.map zan a0),I a1,AV.fn zdt []] []=some y:=
 zah zgz zT [] rfl (by kernel_rfl) (by kernel_rfl) (by kernel_rfl) (by kernel_rfl) (by kernel_rfl) h
noncomputable def zc0 (a0:List GJudged) (a1:Int) (x2:Int) (x3:Int) (x4:Int):Option (AV×Mem):=pt zgz 1 ⟨[(1,I a1),(2,AV.fn zcy []),(6,AV.loc 6 2 0 0),(8,I x2),(9,I x3),(18,AV.sl 3 (List.map zan a0)),(19,I ((↑(List.map zan a0).length:Int))),(20,I x4)],[(6,⟨2,ze8,[zae (⟨0,0⟩)],true⟩)]⟩
theorem zkn (a0:List GJudged) (a1:Int) (x2:Int) (x3:Int) (x4:Int) {y:AV×Mem} (h:(
 brn (decide (x4 < (↑(List.map zan a0).length:Int))) (chk ((0:Int)≤x4)<|
 elemD zbg (List.map zan a0) x4.toNat fun (c5:GJudged) =>
 brn (c5.Marker == a1) (callD zf3 (cw zcy [I (w64 (c5.Value - c5.Final))] []) fun (r6:Int) =>
 zc0 a0 a1 (w64 (x2+r6)) (w64 (x3+1)) (w64 (x4+1)))
 (zc0 a0 a1 x2 x3 (w64 (x4+1))))
 (brn (x3 == 0) (callD za5 (cw za8 [] []) fun (r7:GRatio) =>
 some (AV.tup [AV.agg (zae r7),B false],[]))
 (callD zeQ (cw zhl [I x2,I x3] []) fun (r8:GRatio×Int) =>
 brn (r8.snd != 0) (callD za5 (cw za8 [] []) fun (r9:GRatio) =>
 some (AV.tup [AV.agg (zae r9),B false],[]))
 (some (AV.tup [AV.agg (zae r8.fst),B true],[])))))=some y):zc0 a0 a1 x2 x3 x4=some y:=
 pt_of zT [] (by kernel_rfl) h
theorem zuA (a0:List GJudged) (a1:Int) {y:AV×Mem} (h:(
 callD zew (cw zfJ [AV.sl 3 (List.map zan a0)] []) fun (r0:Bool) =>
 brn (!r0) (callD za5 (cw za8 [] []) fun (r1:GRatio) =>
 some (AV.tup [AV.agg (zae r1),B false],[]))
 (zc0 a0 a1 0 0 0))=some y):cw zdx [AV.sl 3 (List.map zan a0),I a1,AV.fn zcy []] []=some y:=
 zah zgz zT [] rfl (by kernel_rfl) (by kernel_rfl) (by kernel_rfl) (by kernel_rfl) (by kernel_rfl) h
theorem zBC (a0:Int) {y:AV×Mem} (h:(
 some (I a0,[]))=some y):cw zd3 [I a0] []=some y:=
 zah zCb zT [] rfl (by kernel_rfl) (by kernel_rfl) (by kernel_rfl) (by kernel_rfl) (by kernel_rfl) h
theorem zGU (a0:List GJudged) (a1:Int) (a2:Int) {y:AV×Mem} (h:(
 callD zfm (cw zgD [AV.sl 3 (List.map zan a0)] []) fun (r0:Bool) =>
 brn (!r0) (some (AV.tup [AV.agg (zae (⟨0,1⟩)),B false],[]))
 (brn (a2 == 0) (some (AV.tup [AV.agg (zae (⟨0,1⟩)),B false],[]))
 (callD zji (cw zoD [I a1,I a2] []) fun (r1:GRatio×Int) =>
 some (AV.tup [AV.agg (zae r1.fst),B true],[]))))=some y):cw zlp [AV.sl 3 (List.map zan a0),I a1,I a2] []=some y:=
 zah zG4 zT [] rfl (by kernel_rfl) (by kernel_rfl) (by kernel_rfl) (by kernel_rfl) (by kernel_rfl) h
theorem zz1 (a0:Int) {y:AV×Mem} (h:(
 some (I (if w64 (0 - a0) > a0 then w64 (0 - a0) else a0),[]))=some y):cw zdt [I a0] []=some y:=
 zah zz6 zT [] rfl (by kernel_rfl) (by kernel_rfl) (by kernel_rfl) (by kernel_rfl) (by kernel_rfl) h
theorem zwt (a0:Int) {y:AV×Mem} (h:(
 brn (a0 == 0) (some (I 1,[]))
 (some (I 0,[])))=some y):cw zcy [I a0] []=some y:=
 zah zwy zT [] rfl (by kernel_rfl) (by kernel_rfl) (by kernel_rfl) (by kernel_rfl) (by kernel_rfl) h
theorem zEZ {y:AV×Mem} (h:(
 some (AV.agg (zae (⟨0,1⟩)),[]))=some y):cw za8 [] []=some y:=
 zah zFf zT [] rfl (by kernel_rfl) (by kernel_rfl) (by kernel_rfl) (by kernel_rfl) (by kernel_rfl) h
theorem zBY (a0:Int) {y:AV×Mem} (h:(
 brn (decide (0≤a0)) (some (B (decide (a0≤40)),[]))
 (some (B false,[])))=some y):cw zfe [I a0] []=some y:=
 zah zBA zT [] rfl (by kernel_rfl) (by kernel_rfl) (by kernel_rfl) (by kernel_rfl) (by kernel_rfl) h
theorem zKb (a0:Int) (a1:Int) {y:AV×Mem} (h:(
 brn (a1 == 0) (some (AV.tup [AV.agg (zae (⟨0,0⟩)),I 2],[]))
 (callD zdr (cw zfl [I a0] []) fun (r0:Int) =>
 callD zdr (cw zfl [I a1] []) fun (r1:Int) =>
 callD zqG (cw zqP [AV.agg (zib (⟨!decide (a0 < 0) == decide (a1 < 0),⟨0,r0⟩⟩)),AV.v (.int .u64 r1)] []) fun (r2:GRatio×Int) =>
 some (AV.tup [AV.agg (zae r2.fst),I r2.snd],[])))=some y):cw zhl [I a0,I a1] []=some y:=
 zah zJ0 zT [] rfl (by kernel_rfl) (by kernel_rfl) (by kernel_rfl) (by kernel_rfl) (by kernel_rfl) h
theorem zJ2 (a0:Int) (a1:Int) {y:AV×Mem} (h:(
 brn (a1 == 0) (some (AV.tup [AV.agg (zae (⟨0,0⟩)),I 2],[]))
 (callD zro (cw zrx [I a0] []) fun (r0:Int) =>
 callD zro (cw zrx [I a1] []) fun (r1:Int) =>
 callD znE (cw znf [B (!decide (a0 < 0) == decide (a1 < 0)),AV.agg (zaY (⟨0,r0⟩)),AV.agg (zaY (⟨0,r1⟩))] []) fun (r2:GRatio×Int) =>
 some (AV.tup [AV.agg (zae r2.fst),I r2.snd],[])))=some y):cw zoD [I a0,I a1] []=some y:=
 zah zKn zT [] rfl (by kernel_rfl) (by kernel_rfl) (by kernel_rfl) (by kernel_rfl) (by kernel_rfl) h
noncomputable def zjc (a1:Int) (a2:Int) (r0:Int×GmarkDice) (r2:Int×GmarkDice) (r3:Int×GmarkDice):Option (AV×Mem):=pt zob 1004 ⟨[(0,AV.loc 1000 2 0 0),(6,AV.loc 6 3 0 0),(7,AV.loc 7 3 0 0)],[(6,⟨3,zbc,[[I 0,I 0,AV.v (.slice none 0 0)]],true⟩),(7,⟨3,zbc,[[I a1,I a2,AV.row 900 6 0 (List.length (([[I 1,I (w64 (3+r0.fst)),I 0,I 0,I 0,I 0]])++([[I 2,I (w64 (1+r2.fst)),I 0,I 0,I 4,I r3.fst]])))]],true⟩),(900,⟨6,zwH,([zav (⟨1,w64 (3+r0.fst),0,0,0,0⟩)])++([zav (⟨2,w64 (1+r2.fst),0,0,4,r3.fst⟩)]),false⟩),(1000,⟨2,zad,[zal r3.snd],true⟩)]⟩
noncomputable def zhI (a1:Int) (a2:Int) (r0:Int×GmarkDice) (r1:Int×GmarkDice):Option (AV×Mem):=pt zob 1004 ⟨[(0,AV.loc 1000 2 0 0),(6,AV.loc 6 3 0 0),(7,AV.loc 7 3 0 0),(18,B false)],[(6,⟨3,zbc,[[I 0,I 0,AV.v (.slice none 0 0)]],true⟩),(7,⟨3,zbc,[[I a1,I a2,AV.row 900 6 0 (List.length ([[I 1,I (w64 (3+r0.fst)),I 0,I 0,I 0,I 0]]))]],true⟩),(900,⟨6,zwH,[zav (⟨1,w64 (3+r0.fst),0,0,0,0⟩)],false⟩),(1000,⟨2,zad,[zal r1.snd],true⟩)]⟩
theorem zok (a1:Int) (a2:Int) (r0:Int×GmarkDice) (r2:Int×GmarkDice) (r3:Int×GmarkDice) {y:AV×Mem} (h:(
 callD zaA (cw zaB [AV.loc 1000 2 0 0,I 2] [(1000,⟨2,zad,[zal r3.snd],true⟩)]) fun (r4:Int×GmarkDice) =>
 brn (decide (0 < r4.fst)) (callD zaA (cw zaB [AV.loc 1000 2 0 0,I 4] [(1000,⟨2,zad,[zal r4.snd],true⟩)]) fun (r5:Int×GmarkDice) =>
 chk (2=2)<|
 chk ((2+1)*(48+1)≤1099511627776)<|
 chk (0+3≤3)<|
 some (AV.agg (zas (⟨a1,a2,[⟨1,w64 (3+r0.fst),0,0,0,0⟩,⟨2,w64 (1+r2.fst),0,0,4,r3.fst⟩,⟨1,w64 (2+r5.fst),0,0,0,0⟩]⟩)),[(1000,⟨2,zad,[zal r5.snd],true⟩)]))
 (chk (0+2≤2)<|
 some (AV.agg (zas (⟨a1,a2,[⟨1,w64 (3+r0.fst),0,0,0,0⟩,⟨2,w64 (1+r2.fst),0,0,4,r3.fst⟩]⟩)),[(1000,⟨2,zad,[zal r4.snd],true⟩)])))=some y):zjc a1 a2 r0 r2 r3=some y:=
 pt_of zT [4] (by kernel_rfl) h
theorem zmY (a1:Int) (a2:Int) (r0:Int×GmarkDice) (r1:Int×GmarkDice) {y:AV×Mem} (h:(
 callD zaA (cw zaB [AV.loc 1000 2 0 0,I 2] [(1000,⟨2,zad,[zal r1.snd],true⟩)]) fun (r6:Int×GmarkDice) =>
 brn (decide (0 < r6.fst)) (callD zaA (cw zaB [AV.loc 1000 2 0 0,I 4] [(1000,⟨2,zad,[zal r6.snd],true⟩)]) fun (r7:Int×GmarkDice) =>
 chk (1=1)<|
 chk ((1+1)*(48+1)≤1099511627776)<|
 chk (0+2≤2)<|
 some (AV.agg (zas (⟨a1,a2,[⟨1,w64 (3+r0.fst),0,0,0,0⟩,⟨1,w64 (2+r7.fst),0,0,0,0⟩]⟩)),[(1000,⟨2,zad,[zal r7.snd],true⟩)]))
 (chk (0+1≤1)<|
 some (AV.agg (zas (⟨a1,a2,[⟨1,w64 (3+r0.fst),0,0,0,0⟩]⟩)),[(1000,⟨2,zad,[zal r6.snd],true⟩)])))=some y):zhI a1 a2 r0 r1=some y:=
 pt_of zT [4] (by kernel_rfl) h
theorem zt9 (a0:GmarkDice) (a1:Int) (a2:Int) {y:AV×Mem} (h:(
 callD zaA (cw zaB [AV.loc 1000 2 0 0,I 4] [(1000,⟨2,zad,[zal a0],true⟩)]) fun (r0:Int×GmarkDice) =>
 callD zaA (cw zaB [AV.loc 1000 2 0 0,I 3] [(1000,⟨2,zad,[zal r0.snd],true⟩)]) fun (r1:Int×GmarkDice) =>
 brn (decide (0 < r1.fst)) (callD zaA (cw zaB [AV.loc 1000 2 0 0,I 2] [(1000,⟨2,zad,[zal r1.snd],true⟩)]) fun (r2:Int×GmarkDice) =>
 callD zaA (cw zaB [AV.loc 1000 2 0 0,I 4] [(1000,⟨2,zad,[zal r2.snd],true⟩)]) fun (r3:Int×GmarkDice) =>
 chk (1=1)<|
 chk ((1+1)*(48+1)≤1099511627776)<|
 zjc a1 a2 r0 r2 r3)
 (zhI a1 a2 r0 r1))=some y):cw zdm [AV.loc 1000 2 0 0,I a1,I a2] [(1000,⟨2,zad,[zal a0],true⟩)]=some y:=
 zah zob zT [4] rfl (by kernel_rfl) (by kernel_rfl) (by kernel_rfl) (by kernel_rfl) (by kernel_rfl) h
noncomputable def znH (a0:GmarkDice) (a1:GPaper) (r1:Int×GmarkDice) (r2:Int×GmarkDice) (c3:Int):Option (AV×Mem):=pt zmZ 1004 ⟨[(4,AV.loc 4 2 0 0),(5,AV.loc 5 2 0 0)],[(4,⟨2,zbL,[[AV.v (.slice none 0 0),AV.v (.slice none 0 0)]],true⟩),(5,⟨2,zbL,[[AV.row 9 1 0 (List.length (List.replicate ((↑(List.map zav a1.Parts).length:Int).toNat) ([AV.sl 1 []]))),AV.row 13 1 0 ((List.replicate (↑(List.map zav a1.Parts).length:Int).toNat (I 0 :: List.map AV.v [])).length)]],true⟩),(9,⟨1,ty_L_i64,List.replicate ((↑(List.map zav a1.Parts).length:Int).toNat) (zbB []),false⟩),(13,⟨1,zaj,List.set (List.replicate ((↑(List.map zav a1.Parts).length:Int).toNat) (zaa 0)) (0+Int.toNat r1.fst) (zaa (w64 (1+r2.fst))),false⟩),(1000,⟨2,zad,[zal r2.snd],true⟩)]⟩
noncomputable def zmc (a1:GPaper) (r0:Bool×GmarkDice):Option (AV×Mem):=pt zmZ 1004 ⟨[(0,AV.loc 1000 2 0 0),(3,AV.loc 3 3 0 0),(4,AV.loc 4 2 0 0),(5,AV.loc 5 2 0 0),(16,B false)],[(3,⟨3,zbc,[zas a1],true⟩),(4,⟨2,zbL,[[AV.v (.slice none 0 0),AV.v (.slice none 0 0)]],true⟩),(5,⟨2,zbL,[[AV.row 9 1 0 (List.length (List.replicate ((↑(List.map zav a1.Parts).length:Int).toNat) ([AV.sl 1 []]))),AV.row 13 1 0 (List.length (List.replicate ((↑(List.map zav a1.Parts).length:Int).toNat) ([I 0])))]],true⟩),(9,⟨1,ty_L_i64,List.replicate ((↑(List.map zav a1.Parts).length:Int).toNat) (zbB []),false⟩),(13,⟨1,zaj,List.replicate ((↑(List.map zav a1.Parts).length:Int).toNat) (zaa 0),false⟩),(1000,⟨2,zad,[zal r0.snd],true⟩)]⟩
theorem zvC (a0:GmarkDice) (a1:GPaper) (r1:Int×GmarkDice) (r2:Int×GmarkDice) (c3:Int) {y:AV×Mem} (h:(
 chk (0+(List.replicate (↑(List.map zav a1.Parts).length:Int).toNat (AV.sl 1 [] :: List.map AV.v [])).length≤(List.replicate (↑(List.map zav a1.Parts).length:Int).toNat (AV.sl 1 [] :: List.map AV.v [])).length)<|
 chk (0+(List.replicate (↑(List.map zav a1.Parts).length:Int).toNat (I 0 :: List.map AV.v [])).length≤((List.replicate (↑(List.map zav a1.Parts).length:Int).toNat (I 0 :: List.map AV.v [])).set (0+Int.toNat r1.fst) [I (w64 (1+r2.fst))]).length)<|
 some (AV.agg [AV.sl 1 (List.take ((List.replicate (↑(List.map zav a1.Parts).length:Int).toNat (AV.sl 1 [] :: List.map AV.v [])).length) (List.replicate ((↑(List.map zav a1.Parts).length:Int).toNat) ([AV.sl 1 []]))),AV.sl 1 (List.take ((List.replicate (↑(List.map zav a1.Parts).length:Int).toNat (I 0 :: List.map AV.v [])).length) (List.set (List.replicate ((↑(List.map zav a1.Parts).length:Int).toNat) ([I 0])) (0+Int.toNat r1.fst) ([I (w64 (1+r2.fst))])))],[(1000,⟨2,zad,[zal r2.snd],true⟩)]))=some y):znH a0 a1 r1 r2 c3=some y:=
 pt_of zT [4] (by kernel_rfl) h
theorem zux (a1:GPaper) (r0:Bool×GmarkDice) {y:AV×Mem} (h:(
 chk (0+(List.replicate (↑(List.map zav a1.Parts).length:Int).toNat (AV.sl 1 [] :: List.map AV.v [])).length≤(List.replicate (↑(List.map zav a1.Parts).length:Int).toNat (AV.sl 1 [] :: List.map AV.v [])).length)<|
 chk (0+(List.replicate (↑(List.map zav a1.Parts).length:Int).toNat (I 0 :: List.map AV.v [])).length≤(List.replicate (↑(List.map zav a1.Parts).length:Int).toNat (I 0 :: List.map AV.v [])).length)<|
 some (AV.agg [AV.sl 1 (List.take ((List.replicate (↑(List.map zav a1.Parts).length:Int).toNat (AV.sl 1 [] :: List.map AV.v [])).length) (List.replicate ((↑(List.map zav a1.Parts).length:Int).toNat) ([AV.sl 1 []]))),AV.sl 1 (List.take ((List.replicate (↑(List.map zav a1.Parts).length:Int).toNat (I 0 :: List.map AV.v [])).length) (List.replicate ((↑(List.map zav a1.Parts).length:Int).toNat) ([I 0])))],[(1000,⟨2,zad,[zal r0.snd],true⟩)]))=some y):zmc a1 r0=some y:=
 pt_of zT [4] (by kernel_rfl) h
theorem zsU (a0:GmarkDice) (a1:GPaper) {y:AV×Mem} (h:(
 chk (((↑(List.map zav a1.Parts).length:Int):Int)=((↑(List.map zav a1.Parts).length:Int)))<|
 chk ((0:Int)≤((↑(List.map zav a1.Parts).length:Int)))<|
 chk ((↑(List.map zav a1.Parts).length:Int).toNat*(24+1)≤1099511627776)<|
 chk (((↑(List.map zav a1.Parts).length:Int):Int)=((↑(List.map zav a1.Parts).length:Int)))<|
 chk ((0:Int)≤((↑(List.map zav a1.Parts).length:Int)))<|
 chk ((↑(List.map zav a1.Parts).length:Int).toNat*(8+1)≤1099511627776)<|
 callD zcz (cw zc8 [AV.loc 1000 2 0 0,I 6] [(1000,⟨2,zad,[zal a0],true⟩)]) fun (r0:Bool×GmarkDice) =>
 brn r0.fst (callD zaA (cw zaB [AV.loc 1000 2 0 0,I ((↑(List.map zav a1.Parts).length:Int))] [(1000,⟨2,zad,[zal r0.snd],true⟩)]) fun (r1:Int×GmarkDice) =>
 callD zaA (cw zaB [AV.loc 1000 2 0 0,I 2] [(1000,⟨2,zad,[zal r1.snd],true⟩)]) fun (r2:Int×GmarkDice) =>
 chk (0≤r1.fst)<|
 chk ((r1.fst:Int) < ((↑(List.replicate (↑(List.map zav a1.Parts).length:Int).toNat (I 0 :: List.map AV.v [])).length:Int)))<|
 elemD zag (List.replicate ((↑(List.map zav a1.Parts).length:Int).toNat) (zaa 0)) (0+Int.toNat r1.fst) fun (c3:Int) =>
 znH a0 a1 r1 r2 c3)
 (zmc a1 r0))=some y):cw zmQ [AV.loc 1000 2 0 0,AV.agg (zas a1)] [(1000,⟨2,zad,[zal a0],true⟩)]=some y:=
 zah zmZ zT [4] rfl (by kernel_rfl) (by kernel_rfl) (by kernel_rfl) (by kernel_rfl) (by kernel_rfl) h
noncomputable def ze4 (a0:GmarkDice) (a1:GPaper) (a2:Int) (r0:Int×GmarkDice) (r1:Int×GmarkDice) (x2:List (List AV)) (x3:GmarkDice) (x4:Int):Option (AV×Mem):=pt zsW 1 ⟨[(0,AV.loc 1000 2 0 0),(4,AV.loc 4 3 0 0),(6,AV.loc 6 7 0 0),(7,AV.loc 7 7 0 0),(8,I x4)],[(4,⟨3,zbc,[zas a1],true⟩),(6,⟨7,zbz,[[I 0,I 0,I 0,I 0,I 0,AV.v (.slice none 0 0),AV.v (.slice none 0 0)]],true⟩),(7,⟨7,zbz,[[I (w64 (w64 (a1.Code*10000)+a2)),I a1.Code,I a2,I (w64 (1+r0.fst)),I a1.Variant,AV.row 30 1 0 (List.length ([[I (w64 (w64 (100*a2)+a1.Code))],[I r1.fst]])),AV.row 900 1 0 (List.length x2)]],true⟩),(30,⟨1,zaj,[zaa (w64 (w64 (100*a2)+a1.Code)),zaa r1.fst],false⟩),(900,⟨1,zaj,x2,false⟩),(1000,⟨2,zad,[zal x3],true⟩)]⟩
theorem zlh (a0:GmarkDice) (a1:GPaper) (a2:Int) (r0:Int×GmarkDice) (r1:Int×GmarkDice) (x2:List (List AV)) (x3:GmarkDice) (x4:Int) {y:AV×Mem} (h:(
 brn (decide (x4 < (↑(List.map zav a1.Parts).length:Int))) (chk ((0:Int)≤x4)<|
 elemD zce (List.map zav a1.Parts) x4.toNat fun (c5:GPart) =>
 brn (c5.Kind == 2) (chk ((0:Int)≤x4)<|
 elemD zce (List.map zav a1.Parts) x4.toNat fun (c6:GPart) =>
 callD zdI (cw zeu [AV.loc 1000 2 0 0,AV.sl 1 (List.map zaa ([c6.Key,0,1,-1,-2]))] [(1000,⟨2,zad,[zal x3],true⟩)]) fun (r7:Int×GmarkDice) =>
 chk (x2.length=x2.length)<|
 chk ((x2.length+1)*(8+1)≤1099511627776)<|
 ze4 a0 a1 a2 r0 r1 (x2++([zaa r7.fst])) r7.snd (w64 (x4+1)))
 (chk (x2.length=x2.length)<|
 chk ((x2.length+1)*(8+1)≤1099511627776)<|
 ze4 a0 a1 a2 r0 r1 (x2++([zaa (-1)])) x3 (w64 (x4+1))))
 (chk (0+2≤2)<|
 chk (0+x2.length≤x2.length)<|
 some (AV.agg [I (w64 (w64 (a1.Code*10000)+a2)),I a1.Code,I a2,I (w64 (1+r0.fst)),I a1.Variant,AV.sl 1 (List.take 2 ([[I (w64 (w64 (100*a2)+a1.Code))],[I r1.fst]])),AV.sl 1 (List.take x2.length x2)],[(1000,⟨2,zad,[zal x3],true⟩)])))=some y):ze4 a0 a1 a2 r0 r1 x2 x3 x4=some y:=
 pt_of zT [] (by kernel_rfl) h
theorem zBe (a0:GmarkDice) (a1:GPaper) (a2:Int) {y:AV×Mem} (h:(
 callD zaA (cw zaB [AV.loc 1000 2 0 0,I 3] [(1000,⟨2,zad,[zal a0],true⟩)]) fun (r0:Int×GmarkDice) =>
 callD zaA (cw zaB [AV.loc 1000 2 0 0,I 3] [(1000,⟨2,zad,[zal r0.snd],true⟩)]) fun (r1:Int×GmarkDice) =>
 ze4 a0 a1 a2 r0 r1 [] r1.snd 0)=some y):cw zmP [AV.loc 1000 2 0 0,AV.agg (zas a1),I a2] [(1000,⟨2,zad,[zal a0],true⟩)]=some y:=
 zah zsW zT [] rfl (by kernel_rfl) (by kernel_rfl) (by kernel_rfl) (by kernel_rfl) (by kernel_rfl) h
end Go.Proofs.YticojpmhlhfhlaaGreat
