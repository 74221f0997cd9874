/- What the functions compute, between two cut points: printed by a program, checked by the kernel. -/
import Derived.Test.YtbhkcgaanaelfaaGreatAnn
namespace Go.Proofs.YtbhkcgaanaelfaaGreat
open Go.Ab
set_option maxRecDepth 100000
set_option linter.unusedVariables false
noncomputable def zcq (a0:List GRatio) (x0:Int):Option (AV×Mem):=pt zdv 1 ⟨[(0,AV.row 1000 2 0 (List.length (List.map zaa a0))),(3,I x0)],[(1000,⟨2,zac,List.map zaa a0,false⟩)]⟩
noncomputable def zbJ (a0:List GRatio) (x0:Int) (x3:List (List AV)) (x4:Int) (x5:Int):Option (AV×Mem):=pt zdv 2 ⟨[(0,AV.row 1000 2 0 ((List.map zaa a0).length)),(3,I x4),(4,AV.row 1000 2 (0+x0.toNat) ((List.map zaa a0).length - x0.toNat)),(5,I x5)],[(1000,⟨2,zac,x3,false⟩)]⟩
theorem zdj (a0:List GRatio) (x0:Int) {y:AV×Mem} (h:(
 brn (decide (x0 < (↑(List.map zaa a0).length:Int))) (chk ((0:Int)≤x0)<|
 chk ((x0:Int) < ((↑(List.map zaa a0).length:Int)))<|
 elemD zad (List.map zaa a0) (0+x0.toNat) fun (c1:GRatio) =>
 chk ((0:Int)≤(w64 (x0 - 1)))<|
 chk ((w64 (x0 - 1):Int) < ((↑(List.map zaa a0).length:Int)))<|
 elemD zad (List.map zaa a0) (0+(w64 (x0 - 1)).toNat) fun (c2:GRatio) =>
 brn (c1.Num == c2.Num && (c1.Den == c2.Den && true)) (chk ((0:Int)≤x0)<|
 chk (x0.toNat≤(List.map zaa a0).length)<|
 chk ((List.map zaa a0).length≤(List.map zaa a0).length)<|
 zbJ a0 x0 (List.map zaa a0) x0 1)
 (zcq a0 (w64 (x0+1))))
 (some (AV.row 1000 2 0 ((List.map zaa a0).length),[(1000,⟨2,zac,List.map zaa a0,false⟩)])))=some y):zcq a0 x0=some y:=
 pt_of zT [] (by kernel_rfl) h
theorem zdl (a0:List GRatio) (x0:Int) (x3:List (List AV)) (x4:Int) (x5:Int) {y:AV×Mem} (h:(
 brn (decide (x5 < (↑((List.map zaa a0).length - x0.toNat):Int))) (chk ((0:Int)≤x5)<|
 chk ((x5:Int) < ((↑((List.map zaa a0).length - x0.toNat):Int)))<|
 elemD zad x3 (0+x0.toNat+x5.toNat) fun (c6:GRatio) =>
 chk ((0:Int)≤(w64 (x5 - 1)))<|
 chk ((w64 (x5 - 1):Int) < ((↑((List.map zaa a0).length - x0.toNat):Int)))<|
 elemD zad x3 (0+x0.toNat+(w64 (x5 - 1)).toNat) fun (c7:GRatio) =>
 brn (!(c6.Num == c7.Num && (c6.Den == c7.Den && true))) (chk ((0:Int)≤x5)<|
 chk ((x5:Int) < ((↑((List.map zaa a0).length - x0.toNat):Int)))<|
 elemD zad x3 (0+x0.toNat+x5.toNat) fun (c8:GRatio) =>
 chk ((0:Int)≤x4)<|
 chk ((x4:Int) < ((↑(List.map zaa a0).length:Int)))<|
 elemD zad x3 (0+x4.toNat) fun (c9:GRatio) =>
 zbJ a0 x0 (List.set x3 (0+x4.toNat) (zaa c8)) (w64 (x4+1)) (w64 (x5+1)))
 (zbJ a0 x0 x3 x4 (w64 (x5+1))))
 (chk ((0:Int)≤x4)<|
 chk (x4.toNat≤(List.map zaa a0).length)<|
 chk ((List.map zaa a0).length≤(List.map zaa a0).length)<|
 chk (0+x4.toNat+((List.map zaa a0).length - x4.toNat)≤x3.length)<|
 chk ((0:Int)≤x4)<|
 chk (0≤x4.toNat)<|
 chk (x4.toNat≤(List.map zaa a0).length)<|
 some (AV.row 1000 2 (0+0) (x4.toNat - 0),[(1000,⟨2,zac,((List.take (0+x4.toNat) x3)++(List.replicate ((List.map zaa a0).length - x4.toNat) (zaa (⟨0,0⟩))))++(List.drop (0+x4.toNat+((List.map zaa a0).length - x4.toNat)) x3),false⟩)])))=some y):zbJ a0 x0 x3 x4 x5=some y:=
 pt_of zT [] (by kernel_rfl) h
theorem zfh (a0:List GRatio) {y:AV×Mem} (h:(
 brn (decide ((↑(List.map zaa a0).length:Int) < 2)) (some (AV.row 1000 2 0 ((List.map zaa a0).length),[(1000,⟨2,zac,List.map zaa a0,false⟩)]))
 (zcq a0 1))=some y):cw zbP [AV.row 1000 2 0 (List.length (List.map zaa a0))] [(1000,⟨2,zac,List.map zaa a0,false⟩)]=some y:=
 zaj zdv zT [] rfl (by kernel_rfl) (by kernel_rfl) (by kernel_rfl) (by kernel_rfl) (by kernel_rfl) h
noncomputable def zhD (a0:List GRatio) (a1:GRatio) (x0:Int):Option (AV×Mem):=pt zju 1 ⟨[(0,AV.row 950 2 0 (List.length (List.map zaa a0))),(3,AV.loc 3 2 0 0),(5,I x0)],[(3,⟨2,zac,[zaa a1],true⟩),(950,⟨2,zac,List.map zaa a0,false⟩)]⟩
noncomputable def zif (a0:List GRatio) (a1:GRatio) (x0:Int):Option (AV×Mem):=pt zju 1004 ⟨[(0,AV.row 950 2 0 (List.length (List.map zaa a0))),(3,AV.loc 3 2 0 0),(5,I x0),(18,B false)],[(3,⟨2,zac,[zaa a1],true⟩),(950,⟨2,zac,List.map zaa a0,false⟩)]⟩
noncomputable def zgi (a0:List GRatio) (a1:GRatio) (x0:Int):Option (AV×Mem):=pt zju 1006 ⟨[(0,AV.row 950 2 0 (List.length (List.map zaa a0))),(3,AV.loc 3 2 0 0),(5,I x0),(31,B false)],[(3,⟨2,zac,[zaa a1],true⟩),(950,⟨2,zac,List.map zaa a0,false⟩)]⟩
theorem zni (a0:List GRatio) (a1:GRatio) (x0:Int) {y:AV×Mem} (h:(
 brn (decide (0 < x0)) (chk ((0:Int)≤(w64 (x0 - 1)))<|
 chk ((w64 (x0 - 1):Int) < ((↑(List.map zaa a0).length:Int)))<|
 elemD zad (List.map zaa a0) (0+(w64 (x0 - 1)).toNat) fun (c1:GRatio) =>
 callD zd6 (cw zew [AV.agg (zaa a1),AV.agg (zaa c1)] []) fun (r2:Bool) =>
 brn r2 (zhD a0 a1 (w64 (x0 - 1)))
 (zif a0 a1 x0))
 (zif a0 a1 x0))=some y):zhD a0 a1 x0=some y:=
 pt_of zT [6,4] (by kernel_rfl) h
theorem zlk (a0:List GRatio) (a1:GRatio) (x0:Int) {y:AV×Mem} (h:(
 brn (decide (0 < x0)) (chk ((0:Int)≤(w64 (x0 - 1)))<|
 chk ((w64 (x0 - 1):Int) < ((↑(List.map zaa a0).length:Int)))<|
 elemD zad (List.map zaa a0) (0+(w64 (x0 - 1)).toNat) fun (c3:GRatio) =>
 brn (c3.Num == a1.Num && (c3.Den == a1.Den && true)) (chk ((List.map zaa a0).length=(List.map zaa a0).length)<|
 some (AV.new 2 zac (List.map zaa a0),[]))
 (zgi a0 a1 x0))
 (zgi a0 a1 x0))=some y):zif a0 a1 x0=some y:=
 pt_of zT [6,4] (by kernel_rfl) h
theorem zqe (a0:List GRatio) (a1:GRatio) (x0:Int) {y:AV×Mem} (h:(
 chk ((List.map zaa a0).length=(List.map zaa a0).length)<|
 chk (((List.map zaa a0).length+1)*(16+1)≤1099511627776)<|
 chk ((List.map zaa a0++[[I a1.Num,I a1.Den]]).length=(List.map zaa a0++[[I a1.Num,I a1.Den]]).length)<|
 chk ((0:Int)≤(w64 (x0+1)))<|
 chk ((w64 (x0+1)).toNat≤(List.map zaa a0++[[I a1.Num,I a1.Den]]).length)<|
 chk ((List.map zaa a0++[[I a1.Num,I a1.Den]]).length≤(List.map zaa a0++[[I a1.Num,I a1.Den]]).length)<|
 chk ((0:Int)≤x0)<|
 chk (x0.toNat≤(List.map zaa a0++[[I a1.Num,I a1.Den]]).length)<|
 chk ((List.map zaa a0++[[I a1.Num,I a1.Den]]).length≤(List.map zaa a0++[[I a1.Num,I a1.Den]]).length)<|
 chk (0+x0.toNat+((List.map zaa a0++[[I a1.Num,I a1.Den]]).length - x0.toNat)≤(List.map zaa a0++[[I a1.Num,I a1.Den]]).length)<|
 chk (0+(w64 (x0+1)).toNat+((List.map zaa a0++[[I a1.Num,I a1.Den]]).length - (w64 (x0+1)).toNat)≤(List.map zaa a0++[[I a1.Num,I a1.Den]]).length)<|
 chk ((0:Int)≤x0)<|
 chk ((x0:Int) < ((↑(List.map zaa a0++[[I a1.Num,I a1.Den]]).length:Int)))<|
 elemD zad (((List.take (0+(w64 (x0+1)).toNat) ((List.map zaa a0)++([zaa a1])))++(List.take ((List.map zaa a0++[[I a1.Num,I a1.Den]]).length - (w64 (x0+1)).toNat) (List.take ((List.map zaa a0++[[I a1.Num,I a1.Den]]).length - x0.toNat) (List.drop (0+x0.toNat) ((List.map zaa a0)++([zaa a1]))))))++(List.drop (0+(w64 (x0+1)).toNat+Min.min (List.take ((List.map zaa a0++[[I a1.Num,I a1.Den]]).length - x0.toNat) (List.drop (0+x0.toNat) (List.map zaa a0++[[I a1.Num,I a1.Den]]))).length ((List.map zaa a0++[[I a1.Num,I a1.Den]]).length - (w64 (x0+1)).toNat)) ((List.map zaa a0)++([zaa a1])))) (0+x0.toNat) fun (c4:GRatio) =>
 chk ((List.map zaa a0++[[I a1.Num,I a1.Den]]).length=((List.take (0+(w64 (x0+1)).toNat) (List.map zaa a0++[[I a1.Num,I a1.Den]])++List.take ((List.map zaa a0++[[I a1.Num,I a1.Den]]).length - (w64 (x0+1)).toNat) (List.take ((List.map zaa a0++[[I a1.Num,I a1.Den]]).length - x0.toNat) (List.drop (0+x0.toNat) (List.map zaa a0++[[I a1.Num,I a1.Den]])))++List.drop (0+(w64 (x0+1)).toNat+Min.min (List.take ((List.map zaa a0++[[I a1.Num,I a1.Den]]).length - x0.toNat) (List.drop (0+x0.toNat) (List.map zaa a0++[[I a1.Num,I a1.Den]]))).length ((List.map zaa a0++[[I a1.Num,I a1.Den]]).length - (w64 (x0+1)).toNat)) (List.map zaa a0++[[I a1.Num,I a1.Den]])).set (0+x0.toNat) [I a1.Num,I a1.Den]).length)<|
 some (AV.new 2 zac (List.set (((List.take (0+(w64 (x0+1)).toNat) ((List.map zaa a0)++([zaa a1])))++(List.take ((List.map zaa a0++[[I a1.Num,I a1.Den]]).length - (w64 (x0+1)).toNat) (List.take ((List.map zaa a0++[[I a1.Num,I a1.Den]]).length - x0.toNat) (List.drop (0+x0.toNat) ((List.map zaa a0)++([zaa a1]))))))++(List.drop (0+(w64 (x0+1)).toNat+Min.min (List.take ((List.map zaa a0++[[I a1.Num,I a1.Den]]).length - x0.toNat) (List.drop (0+x0.toNat) (List.map zaa a0++[[I a1.Num,I a1.Den]]))).length ((List.map zaa a0++[[I a1.Num,I a1.Den]]).length - (w64 (x0+1)).toNat)) ((List.map zaa a0)++([zaa a1])))) (0+x0.toNat) (zaa a1)),[]))=some y):zgi a0 a1 x0=some y:=
 pt_of zT [6,4] (by kernel_rfl) h
theorem zuv (a0:List GRatio) (a1:GRatio) {y:AV×Mem} (h:(
 zhD a0 a1 ((↑(List.map zaa a0).length:Int)))=some y):cw zg8 [AV.row 950 2 0 (List.length (List.map zaa a0)),AV.agg (zaa a1)] [(950,⟨2,zac,List.map zaa a0,false⟩)]=some y:=
 zaj zju zT [6,4] rfl (by kernel_rfl) (by kernel_rfl) (by kernel_rfl) (by kernel_rfl) (by kernel_rfl) h
noncomputable def zdY (a0:List GPoint) (a1:GRatio) (x0:Int):Option (AV×Mem):=pt zma 1 ⟨[(0,AV.sl 4 (List.map zae a0)),(3,AV.loc 3 2 0 0),(4,AV.loc 4 2 0 0),(6,I x0)],[(3,⟨2,zac,[zaa a1],true⟩),(4,⟨2,zac,[zaa (⟨0,0⟩)],true⟩)]⟩
noncomputable def zeh (a0:List GPoint) (a1:GRatio) (x0:Int):Option (AV×Mem):=pt zma 1004 ⟨[(0,AV.sl 4 (List.map zae a0)),(3,AV.loc 3 2 0 0),(4,AV.loc 4 2 0 0),(6,I x0),(29,B false)],[(3,⟨2,zac,[zaa a1],true⟩),(4,⟨2,zac,[zaa (⟨0,0⟩)],true⟩)]⟩
theorem ziy (a0:List GPoint) (a1:GRatio) (x0:Int) {y:AV×Mem} (h:(
 brn (decide (w64 (x0+2) < (↑(List.map zae a0).length:Int))) (chk ((0:Int)≤(w64 (x0+1)))<|
 elemD zaq (List.map zae a0) ((w64 (x0+1)).toNat) fun (c1:GPoint) =>
 callD zd6 (cw zew [AV.agg (zaa c1.X),AV.agg (zaa a1)] []) fun (r2:Bool) =>
 brn r2 (zdY a0 a1 (w64 (x0+1)))
 (zeh a0 a1 x0))
 (zeh a0 a1 x0))=some y):zdY a0 a1 x0=some y:=
 pt_of zT [4] (by kernel_rfl) h
theorem zlT (a0:List GPoint) (a1:GRatio) (x0:Int) {y:AV×Mem} (h:(
 callD zgu (cw zgs [AV.sl 4 (List.map zae a0),I x0] []) fun (r3:GRatio×Bool) =>
 chk ((0:Int)≤x0)<|
 elemD zaq (List.map zae a0) x0.toNat fun (c4:GPoint) =>
 callD zda (cw zdG [AV.agg (zaa a1),AV.agg (zaa c4.X)] []) fun (r5:GRatio×Int) =>
 brn (!r3.snd) (some (AV.tup [AV.agg (zaa (⟨0,0⟩)),B false],[]))
 (brn (r5.snd != 0) (some (AV.tup [AV.agg (zaa (⟨0,0⟩)),B false],[]))
 (callD zh0 (cw zh3 [AV.agg (zaa r5.fst),AV.agg (zaa r3.fst)] []) fun (r6:GRatio×Int) =>
 brn (r6.snd != 0) (some (AV.tup [AV.agg (zaa (⟨0,0⟩)),B false],[]))
 (chk ((0:Int)≤x0)<|
 elemD zaq (List.map zae a0) x0.toNat fun (c7:GPoint) =>
 callD zd4 (cw zeq [AV.agg (zaa c7.Y),AV.agg (zaa r6.fst)] []) fun (r8:GRatio×Int) =>
 some (AV.tup [AV.agg (zaa r8.fst),B (r8.snd == 0)],[])))))=some y):zeh a0 a1 x0=some y:=
 pt_of zT [4] (by kernel_rfl) h
theorem zpW (a0:List GPoint) (a1:GRatio) {y:AV×Mem} (h:(
 zdY a0 a1 0)=some y):cw zcA [AV.sl 4 (List.map zae a0),AV.agg (zaa a1)] []=some y:=
 zaj zma zT [4] rfl (by kernel_rfl) (by kernel_rfl) (by kernel_rfl) (by kernel_rfl) (by kernel_rfl) h
theorem zpX (a0:GRatio) {y:AV×Mem} (h:(
 brn (decide (a0.Den < 1)) (some (B false,[]))
 (brn (decide (1152921504606846976 < a0.Den)) (some (B false,[]))
 (brn (decide (a0.Num < -1152921504606846976)) (some (B false,[]))
 (brn (decide (1152921504606846976 < a0.Num)) (some (B false,[]))
 (callD zdg (cw zdO [I a0.Num] []) fun (r0:Int) =>
 callD zep (cw zfV [AV.v (.int .u64 r0),AV.v (.int .u64 (wu64 a0.Den))] []) fun (r1:Int) =>
 some (B (r1 == 1),[]))))))=some y):cw zbn [AV.agg (zaa a0)] []=some y:=
 zaj zvL zT [] rfl (by kernel_rfl) (by kernel_rfl) (by kernel_rfl) (by kernel_rfl) (by kernel_rfl) h
theorem zwu (a0:GRatio) {y:AV×Mem} (h:(
 brn (decide (a0.Den < 1)) (some (B false,[]))
 (brn (decide (1152921504606846976 < a0.Den)) (some (B false,[]))
 (brn (decide (a0.Num < -1152921504606846976)) (some (B false,[]))
 (brn (decide (1152921504606846976 < a0.Num)) (some (B false,[]))
 (callD za7 (cw zbd [I a0.Num] []) fun (r0:Int) =>
 callD za7 (cw zbd [I a0.Den] []) fun (r1:Int) =>
 callD zgz (cw ziD [AV.agg (zai (⟨0,r0⟩)),AV.agg (zai (⟨0,r1⟩))] []) fun (r2:Gref01Wide) =>
 some (B (r2.Hi == 0 && (r2.Lo == 1 && true)),[]))))))=some y):cw zbm [AV.agg (zaa a0)] []=some y:=
 zaj zv6 zT [] rfl (by kernel_rfl) (by kernel_rfl) (by kernel_rfl) (by kernel_rfl) (by kernel_rfl) h
theorem zrr (a0:Int) {y:AV×Mem} (h:(
 some (AV.agg (zaa (⟨a0,1⟩)),[]))=some y):cw zcG [I a0] []=some y:=
 zaj zqL zT [] rfl (by kernel_rfl) (by kernel_rfl) (by kernel_rfl) (by kernel_rfl) (by kernel_rfl) h
theorem zwd (a0:GRatio) {y:AV×Mem} (h:(
 callD ziv (cw zlf [AV.agg (zaa a0),AV.fn zeG []] []) fun (r0:Int) =>
 some (I r0,[]))=some y):cw zmh [AV.agg (zaa a0)] []=some y:=
 zaj zwb zT [] rfl (by kernel_rfl) (by kernel_rfl) (by kernel_rfl) (by kernel_rfl) (by kernel_rfl) h
theorem zv2 (a0:GRatio) {y:AV×Mem} (h:(
 callD zbo (cw zbm [AV.agg (zaa a0)] []) fun (r0:Bool) =>
 brn (!r0) (some (I 0,[]))
 (callD zka (cw zmn [I (w64 (w64 (2*a0.Num)+a0.Den)),I (w64 (2*a0.Den))] []) fun (r1:Int) =>
 some (I r1,[])))=some y):cw zmc [AV.agg (zaa a0)] []=some y:=
 zaj zwf zT [] rfl (by kernel_rfl) (by kernel_rfl) (by kernel_rfl) (by kernel_rfl) (by kernel_rfl) h
theorem zxX (a0:GRatio) (a1:GRatio) {y:AV×Mem} (h:(
 callD zbg (cw zbn [AV.agg (zaa a0)] []) fun (r0:Bool) =>
 brn (!r0) (some (AV.tup [AV.agg (zaa (⟨0,0⟩)),I 1],[]))
 (callD zbg (cw zbn [AV.agg (zaa a1)] []) fun (r1:Bool) =>
 brn (!r1) (some (AV.tup [AV.agg (zaa (⟨0,0⟩)),I 1],[]))
 (callD zep (cw zfV [AV.v (.int .u64 (wu64 a0.Den)),AV.v (.int .u64 (wu64 a1.Den))] []) fun (r2:Int) =>
 chk ((r2:Int)≠0)<|
 callD zdu (cw zdt [I a0.Num,AV.v (.int .u64 (wu64 ((wu64 a1.Den).tdiv r2)))] []) fun (r3:GratioSigned) =>
 chk ((r2:Int)≠0)<|
 callD zdu (cw zdt [I a1.Num,AV.v (.int .u64 (wu64 ((wu64 a0.Den).tdiv r2)))] []) fun (r4:GratioSigned) =>
 callD zgj (cw zij [AV.agg (zcU r3),AV.agg (zcU r4)] []) fun (r5:GratioSigned) =>
 callD zhz (cw zko [AV.agg (zax r5.abs),AV.v (.int .u64 r2)] []) fun (r6:Int) =>
 callD zep (cw zfV [AV.v (.int .u64 r6),AV.v (.int .u64 r2)] []) fun (r7:Int) =>
 callD zg0 (cw zjE [AV.agg (zax r5.abs),AV.v (.int .u64 r7)] []) fun (r8:GratioWide) =>
 chk ((r2:Int)≠0)<|
 chk ((r7:Int)≠0)<|
 callD zdW (cw zfo [AV.v (.int .u64 (wu64 ((wu64 a0.Den).tdiv r2))),AV.v (.int .u64 (wu64 ((wu64 a1.Den).tdiv r7)))] []) fun (r9:GratioWide) =>
 callD zhg (cw zjm [B r5.neg,AV.agg (zax r8),AV.agg (zax r9)] []) fun (r10:GRatio×Int) =>
 some (AV.tup [AV.agg (zaa r10.fst),I r10.snd],[]))))=some y):cw zcI [AV.agg (zaa a0),AV.agg (zaa a1)] []=some y:=
 zaj zyt zT [] rfl (by kernel_rfl) (by kernel_rfl) (by kernel_rfl) (by kernel_rfl) (by kernel_rfl) h
theorem zyY (a0:GRatio) (a1:GRatio) {y:AV×Mem} (h:(
 callD zbo (cw zbm [AV.agg (zaa a0)] []) fun (r0:Bool) =>
 brn (!r0) (some (AV.tup [AV.agg (zaa (⟨0,0⟩)),I 1],[]))
 (callD zbo (cw zbm [AV.agg (zaa a1)] []) fun (r1:Bool) =>
 brn (!r1) (some (AV.tup [AV.agg (zaa (⟨0,0⟩)),I 1],[]))
 (callD za7 (cw zbd [I a0.Num] []) fun (r2:Int) =>
 callD za7 (cw zbd [I a1.Den] []) fun (r3:Int) =>
 callD zcf (cw zcC [AV.v (.int .u64 r2),AV.v (.int .u64 r3)] []) fun (r4:Gref01Wide) =>
 callD za7 (cw zbd [I a1.Num] []) fun (r5:Int) =>
 callD za7 (cw zbd [I a0.Den] []) fun (r6:Int) =>
 callD zcf (cw zcC [AV.v (.int .u64 r5),AV.v (.int .u64 r6)] []) fun (r7:Gref01Wide) =>
 callD zhY (cw zj4 [B (decide (a0.Num < 0)),AV.agg (zai r4),B (decide (a1.Num < 0)),AV.agg (zai r7)] []) fun (r8:Bool×Gref01Wide) =>
 callD za7 (cw zbd [I a0.Den] []) fun (r9:Int) =>
 callD za7 (cw zbd [I a1.Den] []) fun (r10:Int) =>
 callD zcf (cw zcC [AV.v (.int .u64 r9),AV.v (.int .u64 r10)] []) fun (r11:Gref01Wide) =>
 callD zf3 (cw zhf [B r8.fst,AV.agg (zai r8.snd),AV.agg (zai r11)] []) fun (r12:GRatio×Int) =>
 some (AV.tup [AV.agg (zaa r12.fst),I r12.snd],[]))))=some y):cw zeq [AV.agg (zaa a0),AV.agg (zaa a1)] []=some y:=
 zaj zyU zT [] rfl (by kernel_rfl) (by kernel_rfl) (by kernel_rfl) (by kernel_rfl) (by kernel_rfl) h
theorem ztl (a0:GRatio) (a1:GRatio) {y:AV×Mem} (h:(
 callD zbo (cw zbm [AV.agg (zaa a0)] []) fun (r0:Bool) =>
 brn (!r0) (some (I 0,[]))
 (callD zbo (cw zbm [AV.agg (zaa a1)] []) fun (r1:Bool) =>
 brn (!r1) (some (I 0,[]))
 (callD za7 (cw zbd [I a0.Num] []) fun (r2:Int) =>
 callD za7 (cw zbd [I a1.Den] []) fun (r3:Int) =>
 callD zcf (cw zcC [AV.v (.int .u64 r2),AV.v (.int .u64 r3)] []) fun (r4:Gref01Wide) =>
 callD za7 (cw zbd [I a1.Num] []) fun (r5:Int) =>
 callD za7 (cw zbd [I a0.Den] []) fun (r6:Int) =>
 callD zcf (cw zcC [AV.v (.int .u64 r5),AV.v (.int .u64 r6)] []) fun (r7:Gref01Wide) =>
 callD zhY (cw zj4 [B (decide (a0.Num < 0)),AV.agg (zai r4),B (decide (0 < a1.Num)),AV.agg (zai r7)] []) fun (r8:Bool×Gref01Wide) =>
 brn (r8.snd.Hi == 0 && (r8.snd.Lo == 0 && true)) (some (I 0,[]))
 (brn r8.fst (some (I (-1),[]))
 (some (I 1,[]))))))=some y):cw zk8 [AV.agg (zaa a0),AV.agg (zaa a1)] []=some y:=
 zaj zth zT [] rfl (by kernel_rfl) (by kernel_rfl) (by kernel_rfl) (by kernel_rfl) (by kernel_rfl) h
theorem zyk (a0:GRatio) (a1:GRatio) {y:AV×Mem} (h:(
 callD zbg (cw zbn [AV.agg (zaa a0)] []) fun (r0:Bool) =>
 brn (!r0) (some (AV.tup [AV.agg (zaa (⟨0,0⟩)),I 1],[]))
 (callD zbg (cw zbn [AV.agg (zaa a1)] []) fun (r1:Bool) =>
 brn (!r1) (some (AV.tup [AV.agg (zaa (⟨0,0⟩)),I 1],[]))
 (brn (a1.Num == 0) (some (AV.tup [AV.agg (zaa (⟨0,0⟩)),I 2],[]))
 (brn (decide (a1.Num < 0)) (callD zh8 (cw zdH [AV.agg (zaa a0),AV.agg (zaa (⟨w64 (0 - a1.Den),w64 (0 - a1.Num)⟩))] []) fun (r2:GRatio×Int) =>
 some (AV.tup [AV.agg (zaa r2.fst),I r2.snd],[]))
 (callD zh8 (cw zdH [AV.agg (zaa a0),AV.agg (zaa (⟨a1.Den,a1.Num⟩))] []) fun (r3:GRatio×Int) =>
 some (AV.tup [AV.agg (zaa r3.fst),I r3.snd],[]))))))=some y):cw zer [AV.agg (zaa a0),AV.agg (zaa a1)] []=some y:=
 zaj zyd zT [] rfl (by kernel_rfl) (by kernel_rfl) (by kernel_rfl) (by kernel_rfl) (by kernel_rfl) h
theorem zyp (a0:GRatio) (a1:GRatio) {y:AV×Mem} (h:(
 callD zbo (cw zbm [AV.agg (zaa a0)] []) fun (r0:Bool) =>
 brn (!r0) (some (AV.tup [AV.agg (zaa (⟨0,0⟩)),I 1],[]))
 (callD zbo (cw zbm [AV.agg (zaa a1)] []) fun (r1:Bool) =>
 brn (!r1) (some (AV.tup [AV.agg (zaa (⟨0,0⟩)),I 1],[]))
 (brn (a1.Num == 0) (some (AV.tup [AV.agg (zaa (⟨0,0⟩)),I 2],[]))
 (callD za7 (cw zbd [I a0.Num] []) fun (r2:Int) =>
 callD za7 (cw zbd [I a1.Den] []) fun (r3:Int) =>
 callD zcf (cw zcC [AV.v (.int .u64 r2),AV.v (.int .u64 r3)] []) fun (r4:Gref01Wide) =>
 callD za7 (cw zbd [I a0.Den] []) fun (r5:Int) =>
 callD za7 (cw zbd [I a1.Num] []) fun (r6:Int) =>
 callD zcf (cw zcC [AV.v (.int .u64 r5),AV.v (.int .u64 r6)] []) fun (r7:Gref01Wide) =>
 callD zf3 (cw zhf [B (!decide (a0.Num < 0) == decide (a1.Num < 0)),AV.agg (zai r4),AV.agg (zai r7)] []) fun (r8:GRatio×Int) =>
 some (AV.tup [AV.agg (zaa r8.fst),I r8.snd],[])))))=some y):cw zjQ [AV.agg (zaa a0),AV.agg (zaa a1)] []=some y:=
 zaj zyB zT [] rfl (by kernel_rfl) (by kernel_rfl) (by kernel_rfl) (by kernel_rfl) (by kernel_rfl) h
end Go.Proofs.YtbhkcgaanaelfaaGreat
