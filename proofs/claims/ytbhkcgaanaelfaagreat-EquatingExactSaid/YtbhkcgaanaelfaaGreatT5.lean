/- What the functions compute, between two cut points: printed by a program, checked by the kernel. -/
import Derived.Test.YtbhkcgaanaelfaaGreatAnn
namespace Go.Proofs.YtbhkcgaanaelfaaGreat
open Go.Ab
set_option maxRecDepth 100000
set_option linter.unusedVariables false
noncomputable def zcv (a0:List GRatio) (x0:Int):Option (AV×Mem):=pt zdO 1 ⟨[(0,AV.row 1000 2 0 (List.length (List.map zaa a0))),(3,I x0)],[(1000,⟨2,zae,List.map zaa a0,false⟩)]⟩
noncomputable def zbG (a0:List GRatio) (x0:Int) (x3:List (List AV)) (x4:Int) (x5:Int):Option (AV×Mem):=pt zdO 2 ⟨[(0,AV.row 1000 2 0 ((List.map zaa a0).length)),(3,I x4),(4,AV.row 1000 2 (0+x0.toNat) ((List.map zaa a0).length - x0.toNat)),(5,I x5)],[(1000,⟨2,zae,x3,false⟩)]⟩
theorem zdE (a0:List GRatio) (x0:Int) {y:AV×Mem} (h:(
 brn (decide (x0 < (↑(List.map zaa a0).length:Int))) (chk ((0:Int)≤x0)<|
 chk ((x0:Int) < ((↑(List.map zaa a0).length:Int)))<|
 elemD zaf (List.map zaa a0) (0+x0.toNat) fun (c1:GRatio) =>
 chk ((0:Int)≤(w64 (x0 - 1)))<|
 chk ((w64 (x0 - 1):Int) < ((↑(List.map zaa a0).length:Int)))<|
 elemD zaf (List.map zaa a0) (0+(w64 (x0 - 1)).toNat) fun (c2:GRatio) =>
 brn (c1.Num == c2.Num && (c1.Den == c2.Den && true)) (chk ((0:Int)≤x0)<|
 chk (x0.toNat≤(List.map zaa a0).length)<|
 chk ((List.map zaa a0).length≤(List.map zaa a0).length)<|
 zbG a0 x0 (List.map zaa a0) x0 1)
 (zcv a0 (w64 (x0+1))))
 (some (AV.row 1000 2 0 ((List.map zaa a0).length),[(1000,⟨2,zae,List.map zaa a0,false⟩)])))=some y):zcv a0 x0=some y:=
 pt_of zT [] (by kernel_rfl) h
theorem zdB (a0:List GRatio) (x0:Int) (x3:List (List AV)) (x4:Int) (x5:Int) {y:AV×Mem} (h:(
 brn (decide (x5 < (↑((List.map zaa a0).length - x0.toNat):Int))) (chk ((0:Int)≤x5)<|
 chk ((x5:Int) < ((↑((List.map zaa a0).length - x0.toNat):Int)))<|
 elemD zaf x3 (0+x0.toNat+x5.toNat) fun (c6:GRatio) =>
 chk ((0:Int)≤(w64 (x5 - 1)))<|
 chk ((w64 (x5 - 1):Int) < ((↑((List.map zaa a0).length - x0.toNat):Int)))<|
 elemD zaf x3 (0+x0.toNat+(w64 (x5 - 1)).toNat) fun (c7:GRatio) =>
 brn (!(c6.Num == c7.Num && (c6.Den == c7.Den && true))) (chk ((0:Int)≤x5)<|
 chk ((x5:Int) < ((↑((List.map zaa a0).length - x0.toNat):Int)))<|
 elemD zaf x3 (0+x0.toNat+x5.toNat) fun (c8:GRatio) =>
 chk ((0:Int)≤x4)<|
 chk ((x4:Int) < ((↑(List.map zaa a0).length:Int)))<|
 elemD zaf x3 (0+x4.toNat) fun (c9:GRatio) =>
 zbG a0 x0 (List.set x3 (0+x4.toNat) (zaa c8)) (w64 (x4+1)) (w64 (x5+1)))
 (zbG a0 x0 x3 x4 (w64 (x5+1))))
 (chk ((0:Int)≤x4)<|
 chk (x4.toNat≤(List.map zaa a0).length)<|
 chk ((List.map zaa a0).length≤(List.map zaa a0).length)<|
 chk (0+x4.toNat+((List.map zaa a0).length - x4.toNat)≤x3.length)<|
 chk ((0:Int)≤x4)<|
 chk (0≤x4.toNat)<|
 chk (x4.toNat≤(List.map zaa a0).length)<|
 some (AV.row 1000 2 (0+0) (x4.toNat - 0),[(1000,⟨2,zae,((List.take (0+x4.toNat) x3)++(List.replicate ((List.map zaa a0).length - x4.toNat) (zaa (⟨0,0⟩))))++(List.drop (0+x4.toNat+((List.map zaa a0).length - x4.toNat)) x3),false⟩)])))=some y):zbG a0 x0 x3 x4 x5=some y:=
 pt_of zT [] (by kernel_rfl) h
theorem zgb (a0:List GRatio) {y:AV×Mem} (h:(
 brn (decide ((↑(List.map zaa a0).length:Int) < 2)) (some (AV.row 1000 2 0 ((List.map zaa a0).length),[(1000,⟨2,zae,List.map zaa a0,false⟩)]))
 (zcv a0 1))=some y):cw zbU [AV.row 1000 2 0 (List.length (List.map zaa a0))] [(1000,⟨2,zae,List.map zaa a0,false⟩)]=some y:=
 zaj zdO zT [] rfl (by kernel_rfl) (by kernel_rfl) (by kernel_rfl) (by kernel_rfl) (by kernel_rfl) h
noncomputable def zjC (a0:List GRatio) (a1:GRatio) (x0:Int):Option (AV×Mem):=pt zlN 1 ⟨[(0,AV.row 950 2 0 (List.length (List.map zaa a0))),(3,AV.loc 3 2 0 0),(5,I x0)],[(3,⟨2,zae,[zaa a1],true⟩),(950,⟨2,zae,List.map zaa a0,false⟩)]⟩
noncomputable def zkm (a0:List GRatio) (a1:GRatio) (x0:Int):Option (AV×Mem):=pt zlN 1004 ⟨[(0,AV.row 950 2 0 (List.length (List.map zaa a0))),(3,AV.loc 3 2 0 0),(5,I x0),(18,B false)],[(3,⟨2,zae,[zaa a1],true⟩),(950,⟨2,zae,List.map zaa a0,false⟩)]⟩
noncomputable def zhx (a0:List GRatio) (a1:GRatio) (x0:Int):Option (AV×Mem):=pt zlN 1006 ⟨[(0,AV.row 950 2 0 (List.length (List.map zaa a0))),(3,AV.loc 3 2 0 0),(5,I x0),(31,B false)],[(3,⟨2,zae,[zaa a1],true⟩),(950,⟨2,zae,List.map zaa a0,false⟩)]⟩
theorem zqD (a0:List GRatio) (a1:GRatio) (x0:Int) {y:AV×Mem} (h:(
 brn (decide (0 < x0)) (chk ((0:Int)≤(w64 (x0 - 1)))<|
 chk ((w64 (x0 - 1):Int) < ((↑(List.map zaa a0).length:Int)))<|
 elemD zaf (List.map zaa a0) (0+(w64 (x0 - 1)).toNat) fun (c1:GRatio) =>
 callD zeA (cw zfo [AV.agg (zaa a1),AV.agg (zaa c1)] []) fun (r2:Bool) =>
 brn r2 (zjC a0 a1 (w64 (x0 - 1)))
 (zkm a0 a1 x0))
 (zkm a0 a1 x0))=some y):zjC a0 a1 x0=some y:=
 pt_of zT [6,4] (by kernel_rfl) h
theorem zoz (a0:List GRatio) (a1:GRatio) (x0:Int) {y:AV×Mem} (h:(
 brn (decide (0 < x0)) (chk ((0:Int)≤(w64 (x0 - 1)))<|
 chk ((w64 (x0 - 1):Int) < ((↑(List.map zaa a0).length:Int)))<|
 elemD zaf (List.map zaa a0) (0+(w64 (x0 - 1)).toNat) fun (c3:GRatio) =>
 brn (c3.Num == a1.Num && (c3.Den == a1.Den && true)) (chk ((List.map zaa a0).length=(List.map zaa a0).length)<|
 some (AV.new 2 zae (List.map zaa a0),[]))
 (zhx a0 a1 x0))
 (zhx a0 a1 x0))=some y):zkm a0 a1 x0=some y:=
 pt_of zT [6,4] (by kernel_rfl) h
theorem zun (a0:List GRatio) (a1:GRatio) (x0:Int) {y:AV×Mem} (h:(
 chk ((List.map zaa a0).length=(List.map zaa a0).length)<|
 chk (((List.map zaa a0).length+1)*(16+1)≤1099511627776)<|
 chk ((List.map zaa a0++[[I a1.Num,I a1.Den]]).length=(List.map zaa a0++[[I a1.Num,I a1.Den]]).length)<|
 chk ((0:Int)≤(w64 (x0+1)))<|
 chk ((w64 (x0+1)).toNat≤(List.map zaa a0++[[I a1.Num,I a1.Den]]).length)<|
 chk ((List.map zaa a0++[[I a1.Num,I a1.Den]]).length≤(List.map zaa a0++[[I a1.Num,I a1.Den]]).length)<|
 chk ((0:Int)≤x0)<|
 chk (x0.toNat≤(List.map zaa a0++[[I a1.Num,I a1.Den]]).length)<|
 chk ((List.map zaa a0++[[I a1.Num,I a1.Den]]).length≤(List.map zaa a0++[[I a1.Num,I a1.Den]]).length)<|
 chk (0+x0.toNat+((List.map zaa a0++[[I a1.Num,I a1.Den]]).length - x0.toNat)≤(List.map zaa a0++[[I a1.Num,I a1.Den]]).length)<|
 chk (0+(w64 (x0+1)).toNat+((List.map zaa a0++[[I a1.Num,I a1.Den]]).length - (w64 (x0+1)).toNat)≤(List.map zaa a0++[[I a1.Num,I a1.Den]]).length)<|
 chk ((0:Int)≤x0)<|
 chk ((x0:Int) < ((↑(List.map zaa a0++[[I a1.Num,I a1.Den]]).length:Int)))<|
 elemD zaf (((List.take (0+(w64 (x0+1)).toNat) ((List.map zaa a0)++([zaa a1])))++(List.take ((List.map zaa a0++[[I a1.Num,I a1.Den]]).length - (w64 (x0+1)).toNat) (List.take ((List.map zaa a0++[[I a1.Num,I a1.Den]]).length - x0.toNat) (List.drop (0+x0.toNat) ((List.map zaa a0)++([zaa a1]))))))++(List.drop (0+(w64 (x0+1)).toNat+Min.min (List.take ((List.map zaa a0++[[I a1.Num,I a1.Den]]).length - x0.toNat) (List.drop (0+x0.toNat) (List.map zaa a0++[[I a1.Num,I a1.Den]]))).length ((List.map zaa a0++[[I a1.Num,I a1.Den]]).length - (w64 (x0+1)).toNat)) ((List.map zaa a0)++([zaa a1])))) (0+x0.toNat) fun (c4:GRatio) =>
 chk ((List.map zaa a0++[[I a1.Num,I a1.Den]]).length=((List.take (0+(w64 (x0+1)).toNat) (List.map zaa a0++[[I a1.Num,I a1.Den]])++List.take ((List.map zaa a0++[[I a1.Num,I a1.Den]]).length - (w64 (x0+1)).toNat) (List.take ((List.map zaa a0++[[I a1.Num,I a1.Den]]).length - x0.toNat) (List.drop (0+x0.toNat) (List.map zaa a0++[[I a1.Num,I a1.Den]])))++List.drop (0+(w64 (x0+1)).toNat+Min.min (List.take ((List.map zaa a0++[[I a1.Num,I a1.Den]]).length - x0.toNat) (List.drop (0+x0.toNat) (List.map zaa a0++[[I a1.Num,I a1.Den]]))).length ((List.map zaa a0++[[I a1.Num,I a1.Den]]).length - (w64 (x0+1)).toNat)) (List.map zaa a0++[[I a1.Num,I a1.Den]])).set (0+x0.toNat) [I a1.Num,I a1.Den]).length)<|
 some (AV.new 2 zae (List.set (((List.take (0+(w64 (x0+1)).toNat) ((List.map zaa a0)++([zaa a1])))++(List.take ((List.map zaa a0++[[I a1.Num,I a1.Den]]).length - (w64 (x0+1)).toNat) (List.take ((List.map zaa a0++[[I a1.Num,I a1.Den]]).length - x0.toNat) (List.drop (0+x0.toNat) ((List.map zaa a0)++([zaa a1]))))))++(List.drop (0+(w64 (x0+1)).toNat+Min.min (List.take ((List.map zaa a0++[[I a1.Num,I a1.Den]]).length - x0.toNat) (List.drop (0+x0.toNat) (List.map zaa a0++[[I a1.Num,I a1.Den]]))).length ((List.map zaa a0++[[I a1.Num,I a1.Den]]).length - (w64 (x0+1)).toNat)) ((List.map zaa a0)++([zaa a1])))) (0+x0.toNat) (zaa a1)),[]))=some y):zhx a0 a1 x0=some y:=
 pt_of zT [6,4] (by kernel_rfl) h
theorem zyD (a0:List GRatio) (a1:GRatio) {y:AV×Mem} (h:(
 zjC a0 a1 ((↑(List.map zaa a0).length:Int)))=some y):cw zi3 [AV.row 950 2 0 (List.length (List.map zaa a0)),AV.agg (zaa a1)] [(950,⟨2,zae,List.map zaa a0,false⟩)]=some y:=
 zaj zlN zT [6,4] rfl (by kernel_rfl) (by kernel_rfl) (by kernel_rfl) (by kernel_rfl) (by kernel_rfl) h
noncomputable def zep (a0:List GPoint) (a1:GRatio) (x0:Int):Option (AV×Mem):=pt zpR 1 ⟨[(0,AV.sl 4 (List.map zag a0)),(3,AV.loc 3 2 0 0),(4,AV.loc 4 2 0 0),(6,I x0)],[(3,⟨2,zae,[zaa a1],true⟩),(4,⟨2,zae,[zaa (⟨0,0⟩)],true⟩)]⟩
noncomputable def zeW (a0:List GPoint) (a1:GRatio) (x0:Int):Option (AV×Mem):=pt zpR 1004 ⟨[(0,AV.sl 4 (List.map zag a0)),(3,AV.loc 3 2 0 0),(4,AV.loc 4 2 0 0),(6,I x0),(29,B false)],[(3,⟨2,zae,[zaa a1],true⟩),(4,⟨2,zae,[zaa (⟨0,0⟩)],true⟩)]⟩
theorem zkS (a0:List GPoint) (a1:GRatio) (x0:Int) {y:AV×Mem} (h:(
 brn (decide (w64 (x0+2) < (↑(List.map zag a0).length:Int))) (chk ((0:Int)≤(w64 (x0+1)))<|
 elemD zau (List.map zag a0) ((w64 (x0+1)).toNat) fun (c1:GPoint) =>
 callD zeA (cw zfo [AV.agg (zaa c1.X),AV.agg (zaa a1)] []) fun (r2:Bool) =>
 brn r2 (zep a0 a1 (w64 (x0+1)))
 (zeW a0 a1 x0))
 (zeW a0 a1 x0))=some y):zep a0 a1 x0=some y:=
 pt_of zT [4] (by kernel_rfl) h
theorem zpq (a0:List GPoint) (a1:GRatio) (x0:Int) {y:AV×Mem} (h:(
 callD zhH (cw zhN [AV.sl 4 (List.map zag a0),I x0] []) fun (r3:GRatio×Bool) =>
 chk ((0:Int)≤x0)<|
 elemD zau (List.map zag a0) x0.toNat fun (c4:GPoint) =>
 callD zc5 (cw zdp [AV.agg (zaa a1),AV.agg (zaa c4.X)] []) fun (r5:GRatio×Int) =>
 brn (!r3.snd) (some (AV.tup [AV.agg (zaa (⟨0,0⟩)),B false],[]))
 (brn (r5.snd != 0) (some (AV.tup [AV.agg (zaa (⟨0,0⟩)),B false],[]))
 (callD zif (cw zib [AV.agg (zaa r5.fst),AV.agg (zaa r3.fst)] []) fun (r6:GRatio×Int) =>
 brn (r6.snd != 0) (some (AV.tup [AV.agg (zaa (⟨0,0⟩)),B false],[]))
 (chk ((0:Int)≤x0)<|
 elemD zau (List.map zag a0) x0.toNat fun (c7:GPoint) =>
 callD zd5 (cw zeB [AV.agg (zaa c7.Y),AV.agg (zaa r6.fst)] []) fun (r8:GRatio×Int) =>
 some (AV.tup [AV.agg (zaa r8.fst),B (r8.snd == 0)],[])))))=some y):zeW a0 a1 x0=some y:=
 pt_of zT [4] (by kernel_rfl) h
theorem ztS (a0:List GPoint) (a1:GRatio) {y:AV×Mem} (h:(
 zep a0 a1 0)=some y):cw zcF [AV.sl 4 (List.map zag a0),AV.agg (zaa a1)] []=some y:=
 zaj zpR zT [4] rfl (by kernel_rfl) (by kernel_rfl) (by kernel_rfl) (by kernel_rfl) (by kernel_rfl) h
theorem zt1 (a0:GRatio) {y:AV×Mem} (h:(
 brn (decide (a0.Den < 1)) (some (B false,[]))
 (brn (decide (1152921504606846976 < a0.Den)) (some (B false,[]))
 (brn (decide (a0.Num < -1152921504606846976)) (some (B false,[]))
 (brn (decide (1152921504606846976 < a0.Num)) (some (B false,[]))
 (callD zcA (cw zb3 [I a0.Num] []) fun (r0:Int) =>
 callD zey (cw ze4 [AV.v (.int .u64 r0),AV.v (.int .u64 (wu64 a0.Den))] []) fun (r1:Int) =>
 some (B (r1 == 1),[]))))))=some y):cw zbk [AV.agg (zaa a0)] []=some y:=
 zaj zzP zT [] rfl (by kernel_rfl) (by kernel_rfl) (by kernel_rfl) (by kernel_rfl) (by kernel_rfl) h
theorem zAe (a0:GRatio) {y:AV×Mem} (h:(
 brn (decide (a0.Den < 1)) (some (B false,[]))
 (brn (decide (1152921504606846976 < a0.Den)) (some (B false,[]))
 (brn (decide (a0.Num < -1152921504606846976)) (some (B false,[]))
 (brn (decide (1152921504606846976 < a0.Num)) (some (B false,[]))
 (callD za3 (cw za7 [I a0.Num] []) fun (r0:Int) =>
 callD za3 (cw za7 [I a0.Den] []) fun (r1:Int) =>
 callD zh0 (cw zkD [AV.agg (zal (⟨0,r0⟩)),AV.agg (zal (⟨0,r1⟩))] []) fun (r2:Gref01Wide) =>
 some (B (r2.Hi == 0 && (r2.Lo == 1 && true)),[]))))))=some y):cw zbm [AV.agg (zaa a0)] []=some y:=
 zaj zz7 zT [] rfl (by kernel_rfl) (by kernel_rfl) (by kernel_rfl) (by kernel_rfl) (by kernel_rfl) h
theorem zuW (a0:Int) {y:AV×Mem} (h:(
 some (AV.agg (zaa (⟨a0,1⟩)),[]))=some y):cw zcL [I a0] []=some y:=
 zaj zvd zT [] rfl (by kernel_rfl) (by kernel_rfl) (by kernel_rfl) (by kernel_rfl) (by kernel_rfl) h
theorem zzv (a0:GRatio) {y:AV×Mem} (h:(
 callD zkH (cw zox [AV.agg (zaa a0),AV.fn zfn []] []) fun (r0:Int) =>
 some (I r0,[]))=some y):cw zpO [AV.agg (zaa a0)] []=some y:=
 zaj zAs zT [] rfl (by kernel_rfl) (by kernel_rfl) (by kernel_rfl) (by kernel_rfl) (by kernel_rfl) h
theorem zzF (a0:GRatio) {y:AV×Mem} (h:(
 callD zbl (cw zbm [AV.agg (zaa a0)] []) fun (r0:Bool) =>
 brn (!r0) (some (I 0,[]))
 (callD zmR (cw zpJ [I (w64 (w64 (2*a0.Num)+a0.Den)),I (w64 (2*a0.Den))] []) fun (r1:Int) =>
 some (I r1,[])))=some y):cw zpw [AV.agg (zaa a0)] []=some y:=
 zaj zAj zT [] rfl (by kernel_rfl) (by kernel_rfl) (by kernel_rfl) (by kernel_rfl) (by kernel_rfl) h
theorem zCx (a0:GRatio) (a1:GRatio) {y:AV×Mem} (h:(
 callD zbc (cw zbk [AV.agg (zaa a0)] []) fun (r0:Bool) =>
 brn (!r0) (some (AV.tup [AV.agg (zaa (⟨0,0⟩)),I 1],[]))
 (callD zbc (cw zbk [AV.agg (zaa a1)] []) fun (r1:Bool) =>
 brn (!r1) (some (AV.tup [AV.agg (zaa (⟨0,0⟩)),I 1],[]))
 (callD zey (cw ze4 [AV.v (.int .u64 (wu64 a0.Den)),AV.v (.int .u64 (wu64 a1.Den))] []) fun (r2:Int) =>
 chk ((r2:Int)≠0)<|
 callD zdN (cw zdM [I a0.Num,AV.v (.int .u64 (wu64 ((wu64 a1.Den).tdiv r2)))] []) fun (r3:GratioSigned) =>
 chk ((r2:Int)≠0)<|
 callD zdN (cw zdM [I a1.Num,AV.v (.int .u64 (wu64 ((wu64 a0.Den).tdiv r2)))] []) fun (r4:GratioSigned) =>
 callD zhw (cw zkl [AV.agg (zbX r3),AV.agg (zbX r4)] []) fun (r5:GratioSigned) =>
 callD zhp (cw zjw [AV.agg (zax r5.abs),AV.v (.int .u64 r2)] []) fun (r6:Int) =>
 callD zey (cw ze4 [AV.v (.int .u64 r6),AV.v (.int .u64 r2)] []) fun (r7:Int) =>
 callD zgB (cw ziw [AV.agg (zax r5.abs),AV.v (.int .u64 r7)] []) fun (r8:GratioWide) =>
 chk ((r2:Int)≠0)<|
 chk ((r7:Int)≠0)<|
 callD zgn (cw zgl [AV.v (.int .u64 (wu64 ((wu64 a0.Den).tdiv r2))),AV.v (.int .u64 (wu64 ((wu64 a1.Den).tdiv r7)))] []) fun (r9:GratioWide) =>
 callD zg6 (cw ziU [B r5.neg,AV.agg (zax r8),AV.agg (zax r9)] []) fun (r10:GRatio×Int) =>
 some (AV.tup [AV.agg (zaa r10.fst),I r10.snd],[]))))=some y):cw zcO [AV.agg (zaa a0),AV.agg (zaa a1)] []=some y:=
 zaj zB7 zT [] rfl (by kernel_rfl) (by kernel_rfl) (by kernel_rfl) (by kernel_rfl) (by kernel_rfl) h
theorem zBY (a0:GRatio) (a1:GRatio) {y:AV×Mem} (h:(
 callD zbl (cw zbm [AV.agg (zaa a0)] []) fun (r0:Bool) =>
 brn (!r0) (some (AV.tup [AV.agg (zaa (⟨0,0⟩)),I 1],[]))
 (callD zbl (cw zbm [AV.agg (zaa a1)] []) fun (r1:Bool) =>
 brn (!r1) (some (AV.tup [AV.agg (zaa (⟨0,0⟩)),I 1],[]))
 (callD za3 (cw za7 [I a0.Num] []) fun (r2:Int) =>
 callD za3 (cw za7 [I a1.Den] []) fun (r3:Int) =>
 callD zcj (cw zcM [AV.v (.int .u64 r2),AV.v (.int .u64 r3)] []) fun (r4:Gref01Wide) =>
 callD za3 (cw za7 [I a1.Num] []) fun (r5:Int) =>
 callD za3 (cw za7 [I a0.Den] []) fun (r6:Int) =>
 callD zcj (cw zcM [AV.v (.int .u64 r5),AV.v (.int .u64 r6)] []) fun (r7:Gref01Wide) =>
 callD zjQ (cw zm3 [B (decide (a0.Num < 0)),AV.agg (zal r4),B (decide (a1.Num < 0)),AV.agg (zal r7)] []) fun (r8:Bool×Gref01Wide) =>
 callD za3 (cw za7 [I a0.Den] []) fun (r9:Int) =>
 callD za3 (cw za7 [I a1.Den] []) fun (r10:Int) =>
 callD zcj (cw zcM [AV.v (.int .u64 r9),AV.v (.int .u64 r10)] []) fun (r11:Gref01Wide) =>
 callD zfM (cw zg8 [B r8.fst,AV.agg (zal r8.snd),AV.agg (zal r11)] []) fun (r12:GRatio×Int) =>
 some (AV.tup [AV.agg (zaa r12.fst),I r12.snd],[]))))=some y):cw zeB [AV.agg (zaa a0),AV.agg (zaa a1)] []=some y:=
 zaj zCb zT [] rfl (by kernel_rfl) (by kernel_rfl) (by kernel_rfl) (by kernel_rfl) (by kernel_rfl) h
theorem zxP (a0:GRatio) (a1:GRatio) {y:AV×Mem} (h:(
 callD zbl (cw zbm [AV.agg (zaa a0)] []) fun (r0:Bool) =>
 brn (!r0) (some (I 0,[]))
 (callD zbl (cw zbm [AV.agg (zaa a1)] []) fun (r1:Bool) =>
 brn (!r1) (some (I 0,[]))
 (callD za3 (cw za7 [I a0.Num] []) fun (r2:Int) =>
 callD za3 (cw za7 [I a1.Den] []) fun (r3:Int) =>
 callD zcj (cw zcM [AV.v (.int .u64 r2),AV.v (.int .u64 r3)] []) fun (r4:Gref01Wide) =>
 callD za3 (cw za7 [I a1.Num] []) fun (r5:Int) =>
 callD za3 (cw za7 [I a0.Den] []) fun (r6:Int) =>
 callD zcj (cw zcM [AV.v (.int .u64 r5),AV.v (.int .u64 r6)] []) fun (r7:Gref01Wide) =>
 callD zjQ (cw zm3 [B (decide (a0.Num < 0)),AV.agg (zal r4),B (decide (0 < a1.Num)),AV.agg (zal r7)] []) fun (r8:Bool×Gref01Wide) =>
 brn (r8.snd.Hi == 0 && (r8.snd.Lo == 0 && true)) (some (I 0,[]))
 (brn r8.fst (some (I (-1),[]))
 (some (I 1,[]))))))=some y):cw zoc [AV.agg (zaa a0),AV.agg (zaa a1)] []=some y:=
 zaj zxn zT [] rfl (by kernel_rfl) (by kernel_rfl) (by kernel_rfl) (by kernel_rfl) (by kernel_rfl) h
theorem zsX (a0:GDistribution) (a1:GDistribution) {y:AV×Mem} (h:(
 callD zbn (cw zbC [AV.agg (zab a0)] []) fun (r0:Bool) =>
 brn (!r0) (some (AV.tup [AV.agg (zaa (⟨0,0⟩)),AV.agg (zaa (⟨0,0⟩)),I 1],[]))
 (callD zbn (cw zbC [AV.agg (zab a1)] []) fun (r1:Bool) =>
 brn (!r1) (some (AV.tup [AV.agg (zaa (⟨0,0⟩)),AV.agg (zaa (⟨0,0⟩)),I 1],[]))
 (callD zcK (cw zde [AV.agg (zab a0)] []) fun (r2:Int) =>
 brn (r2 == 0) (some (AV.tup [AV.agg (zaa (⟨0,0⟩)),AV.agg (zaa (⟨0,0⟩)),I 10],[]))
 (callD zcK (cw zde [AV.agg (zab a1)] []) fun (r3:Int) =>
 brn (r3 == 0) (some (AV.tup [AV.agg (zaa (⟨0,0⟩)),AV.agg (zaa (⟨0,0⟩)),I 10],[]))
 (callD zfH (cw zcU [AV.agg (zab a0)] []) fun (r4:GRatio×Int) =>
 brn (r4.snd != 0) (some (AV.tup [AV.agg (zaa (⟨0,0⟩)),AV.agg (zaa (⟨0,0⟩)),I r4.snd],[]))
 (callD zfH (cw zcU [AV.agg (zab a1)] []) fun (r5:GRatio×Int) =>
 brn (r5.snd != 0) (some (AV.tup [AV.agg (zaa (⟨0,0⟩)),AV.agg (zaa (⟨0,0⟩)),I r5.snd],[]))
 (some (AV.tup [AV.agg (zaa r4.fst),AV.agg (zaa r5.fst),I 0],[]))))))))=some y):cw zfj [AV.agg (zab a0),AV.agg (zab a1),AV.fn zcU []] []=some y:=
 zaj zrv zT [] rfl (by kernel_rfl) (by kernel_rfl) (by kernel_rfl) (by kernel_rfl) (by kernel_rfl) h
theorem zqc (a0:GDistribution) (a1:GDistribution) {y:AV×Mem} (h:(
 callD zbn (cw zbC [AV.agg (zab a0)] []) fun (r0:Bool) =>
 brn (!r0) (some (AV.tup [AV.agg (zaa (⟨0,0⟩)),AV.agg (zaa (⟨0,0⟩)),I 1],[]))
 (callD zbn (cw zbC [AV.agg (zab a1)] []) fun (r1:Bool) =>
 brn (!r1) (some (AV.tup [AV.agg (zaa (⟨0,0⟩)),AV.agg (zaa (⟨0,0⟩)),I 1],[]))
 (callD zcK (cw zde [AV.agg (zab a0)] []) fun (r2:Int) =>
 brn (r2 == 0) (some (AV.tup [AV.agg (zaa (⟨0,0⟩)),AV.agg (zaa (⟨0,0⟩)),I 10],[]))
 (callD zcK (cw zde [AV.agg (zab a1)] []) fun (r3:Int) =>
 brn (r3 == 0) (some (AV.tup [AV.agg (zaa (⟨0,0⟩)),AV.agg (zaa (⟨0,0⟩)),I 10],[]))
 (callD zdR (cw zcn [AV.agg (zab a0)] []) fun (r4:GRatio×Int) =>
 brn (r4.snd != 0) (some (AV.tup [AV.agg (zaa (⟨0,0⟩)),AV.agg (zaa (⟨0,0⟩)),I r4.snd],[]))
 (callD zdR (cw zcn [AV.agg (zab a1)] []) fun (r5:GRatio×Int) =>
 brn (r5.snd != 0) (some (AV.tup [AV.agg (zaa (⟨0,0⟩)),AV.agg (zaa (⟨0,0⟩)),I r5.snd],[]))
 (some (AV.tup [AV.agg (zaa r4.fst),AV.agg (zaa r5.fst),I 0],[]))))))))=some y):cw zfj [AV.agg (zab a0),AV.agg (zab a1),AV.fn zcn []] []=some y:=
 zaj zrv zT [] rfl (by kernel_rfl) (by kernel_rfl) (by kernel_rfl) (by kernel_rfl) (by kernel_rfl) h
theorem zut (a0:GDistribution) {y:AV×Mem} (h:(
 callD zfg (cw zgO [AV.agg (zab a0)] []) fun (r0:Int×Int) =>
 brn (r0.snd != 0) (some (AV.tup [AV.agg (zaa (⟨0,0⟩)),I r0.snd],[]))
 (callD zdl (cw zeL [AV.agg (zab a0)] []) fun (r1:Int) =>
 callD zir (cw zkh [I r1,I r0.fst] []) fun (r2:GRatio×Int) =>
 some (AV.tup [AV.agg (zaa r2.fst),I r2.snd],[])))=some y):cw zcU [AV.agg (zab a0)] []=some y:=
 zaj zt5 zT [] rfl (by kernel_rfl) (by kernel_rfl) (by kernel_rfl) (by kernel_rfl) (by kernel_rfl) h
theorem zh9 (a0:GRatio) (a1:GRatio) (a2:GRatio) {y:AV×Mem} (h:(
 callD zik (cw zdr [AV.agg (zaa a0),AV.agg (zaa a1)] []) fun (r0:GRatio×Int) =>
 brn (r0.snd != 0) (some (AV.tup [AV.agg (zak ⟨[]⟩),I r0.snd],[]))
 (callD zmv (cw zbQ [AV.agg (zaa a2),AV.agg (zaa r0.fst)] []) fun (r1:GRatio×Int) =>
 brn (r1.snd != 0) (some (AV.tup [AV.agg (zak ⟨[]⟩),I r1.snd],[]))
 (callD ziC (cw ziM [AV.agg (zaa a0),AV.agg (zaa r1.fst)] []) fun (r2:GCurve×Int) =>
 some (AV.tup [AV.agg (zak r2.fst),I r2.snd],[]))))=some y):cw zc7 [AV.agg (zaa a0),AV.agg (zaa a1),AV.agg (zaa a2)] []=some y:=
 zaj zuL zT [] rfl (by kernel_rfl) (by kernel_rfl) (by kernel_rfl) (by kernel_rfl) (by kernel_rfl) h
noncomputable def zkP (a0:GDistribution) (x0:Int) (x1:Int):Option (AV×Mem):=pt ztT 1 ⟨[(1,AV.loc 1 1 0 0),(3,I x0),(4,I x1)],[(1,⟨1,zan,[zab a0],true⟩)]⟩
theorem zrL (a0:GDistribution) (x0:Int) (x1:Int) {y:AV×Mem} (h:(
 brn (decide (x1 < (↑(List.map zai a0.Counts).length:Int))) (chk ((0:Int)≤x1)<|
 elemD zaw (List.map zai a0.Counts) x1.toNat fun (c2:Int) =>
 brn (decide (c2 < 0)) (some (B false,[]))
 (chk ((0:Int)≤x1)<|
 elemD zaw (List.map zai a0.Counts) x1.toNat fun (c3:Int) =>
 brn (decide (w64 (1048576 - x0) < c3)) (some (B false,[]))
 (chk ((0:Int)≤x1)<|
 elemD zaw (List.map zai a0.Counts) x1.toNat fun (c4:Int) =>
 zkP a0 (w64 (x0+c4)) (w64 (x1+1)))))
 (some (B true,[])))=some y):zkP a0 x0 x1=some y:=
 pt_of zT [] (by kernel_rfl) h
theorem zzy (a0:GDistribution) {y:AV×Mem} (h:(
 brn (decide ((↑(List.map zai a0.Counts).length:Int) < 1)) (some (B false,[]))
 (brn (decide (201 < (↑(List.map zai a0.Counts).length:Int))) (some (B false,[]))
 (zkP a0 0 0)))=some y):cw zdh [AV.agg (zab a0)] []=some y:=
 zaj ztT zT [] rfl (by kernel_rfl) (by kernel_rfl) (by kernel_rfl) (by kernel_rfl) (by kernel_rfl) h
theorem zvi (a0:GDistribution) {y:AV×Mem} (h:(
 callD zjS (cw zmS [AV.agg (zab a0)] []) fun (r0:Int) =>
 brn (r0 != 0) (some (AV.tup [AV.agg (zaa (⟨0,0⟩)),I r0],[]))
 (callD zmE (cw zo9 [AV.agg (zab a0)] []) fun (r1:Int) =>
 callD zd4 (cw zeG [AV.agg (zab a0)] []) fun (r2:Int) =>
 callD zfU (cw zg1 [I r1,I r2] []) fun (r3:GRatio×Int) =>
 some (AV.tup [AV.agg (zaa r3.fst),I r3.snd],[])))=some y):cw zez [AV.agg (zab a0)] []=some y:=
 zaj zBi zT [] rfl (by kernel_rfl) (by kernel_rfl) (by kernel_rfl) (by kernel_rfl) (by kernel_rfl) h
theorem zn8 (a0:GRatio) (a1:GRatio) (a2:GRatio) {y:AV×Mem} (h:(
 callD zif (cw zib [AV.agg (zaa a0),AV.agg (zaa a1)] []) fun (r0:GRatio×Int) =>
 brn (r0.snd != 0) (some (AV.tup [AV.agg (zak ⟨[]⟩),I r0.snd],[]))
 (callD zc5 (cw zdp [AV.agg (zaa a2),AV.agg (zaa r0.fst)] []) fun (r1:GRatio×Int) =>
 brn (r1.snd != 0) (some (AV.tup [AV.agg (zak ⟨[]⟩),I r1.snd],[]))
 (callD znO (cw zqJ [AV.agg (zaa a0),AV.agg (zaa r1.fst)] []) fun (r2:GCurve×Int) =>
 some (AV.tup [AV.agg (zak r2.fst),I r2.snd],[]))))=some y):cw zfq [AV.agg (zaa a0),AV.agg (zaa a1),AV.agg (zaa a2)] []=some y:=
 zaj zye zT [] rfl (by kernel_rfl) (by kernel_rfl) (by kernel_rfl) (by kernel_rfl) (by kernel_rfl) h
noncomputable def zeJ (a0:GDistribution) (r0:Int×Int) (r1:Int) (x2:Int) (x3:Int):Option (AV×Mem):=pt zlv 1 ⟨[(2,AV.loc 2 2 0 0),(4,I r0.fst),(6,I r1),(7,I x2),(23,AV.sl 1 (List.map zai a0.Counts)),(24,I ((↑(List.map zai a0.Counts).length:Int))),(25,I x3)],[(2,⟨2,zae,[zaa (⟨0,0⟩)],true⟩)]⟩
theorem zjN (a0:GDistribution) (r0:Int×Int) (r1:Int) (x2:Int) (x3:Int) {y:AV×Mem} (h:(
 brn (decide (x3 < (↑(List.map zai a0.Counts).length:Int))) (chk ((0:Int)≤x3)<|
 elemD zaw (List.map zai a0.Counts) x3.toNat fun (c4:Int) =>
 zeJ a0 r0 r1 (w64 (x2+w64 (c4*if w64 (0 - w64 (w64 (x3*r0.fst) - r1)) > w64 (w64 (x3*r0.fst) - r1) then w64 (0 - w64 (w64 (x3*r0.fst) - r1)) else w64 (w64 (x3*r0.fst) - r1)))) (w64 (x3+1)))
 (callD zir (cw zkh [I x2,I (w64 (r0.fst*r0.fst))] []) fun (r5:GRatio×Int) =>
 some (AV.tup [AV.agg (zaa r5.fst),I r5.snd],[])))=some y):zeJ a0 r0 r1 x2 x3=some y:=
 pt_of zT [] (by kernel_rfl) h
theorem zqF (a0:GDistribution) {y:AV×Mem} (h:(
 callD zfg (cw zgO [AV.agg (zab a0)] []) fun (r0:Int×Int) =>
 brn (r0.snd != 0) (some (AV.tup [AV.agg (zaa (⟨0,0⟩)),I r0.snd],[]))
 (callD zdl (cw zeL [AV.agg (zab a0)] []) fun (r1:Int) =>
 zeJ a0 r0 r1 0 0))=some y):cw zcn [AV.agg (zab a0)] []=some y:=
 zaj zlv zT [] rfl (by kernel_rfl) (by kernel_rfl) (by kernel_rfl) (by kernel_rfl) (by kernel_rfl) h
theorem zB4 (a0:GRatio) (a1:GRatio) {y:AV×Mem} (h:(
 callD zbc (cw zbk [AV.agg (zaa a0)] []) fun (r0:Bool) =>
 brn (!r0) (some (AV.tup [AV.agg (zaa (⟨0,0⟩)),I 1],[]))
 (callD zbc (cw zbk [AV.agg (zaa a1)] []) fun (r1:Bool) =>
 brn (!r1) (some (AV.tup [AV.agg (zaa (⟨0,0⟩)),I 1],[]))
 (brn (a1.Num == 0) (some (AV.tup [AV.agg (zaa (⟨0,0⟩)),I 2],[]))
 (brn (decide (a1.Num < 0)) (callD zik (cw zdr [AV.agg (zaa a0),AV.agg (zaa (⟨w64 (0 - a1.Den),w64 (0 - a1.Num)⟩))] []) fun (r2:GRatio×Int) =>
 some (AV.tup [AV.agg (zaa r2.fst),I r2.snd],[]))
 (callD zik (cw zdr [AV.agg (zaa a0),AV.agg (zaa (⟨a1.Den,a1.Num⟩))] []) fun (r3:GRatio×Int) =>
 some (AV.tup [AV.agg (zaa r3.fst),I r3.snd],[]))))))=some y):cw zdn [AV.agg (zaa a0),AV.agg (zaa a1)] []=some y:=
 zaj zCH zT [] rfl (by kernel_rfl) (by kernel_rfl) (by kernel_rfl) (by kernel_rfl) (by kernel_rfl) h
noncomputable def zht (a0:GDistribution) (r1:Int) (r2:Int) (x3:Int) (x4:Int):Option (AV×Mem):=pt zp8 1 ⟨[(1,AV.loc 1 1 0 0),(2,AV.loc 2 2 0 0),(5,I r1),(6,I r2),(7,I x3),(8,I x4)],[(1,⟨1,zan,[zab a0],true⟩),(2,⟨2,zae,[zaa (⟨0,0⟩)],true⟩)]⟩
theorem zoC (a0:GDistribution) (r1:Int) (r2:Int) (x3:Int) (x4:Int) {y:AV×Mem} (h:(
 brn (decide (x4 < (↑(List.map zai a0.Counts).length:Int))) (chk ((0:Int)≤x4)<|
 elemD zaw (List.map zai a0.Counts) x4.toNat fun (c5:Int) =>
 zht a0 r1 r2 (w64 (x3+w64 (c5*if w64 (0 - w64 (w64 (x4*r1) - r2)) > w64 (w64 (x4*r1) - r2) then w64 (0 - w64 (w64 (x4*r1) - r2)) else w64 (w64 (x4*r1) - r2)))) (w64 (x4+1)))
 (callD zfU (cw zg1 [I x3,I (w64 (r1*r1))] []) fun (r6:GRatio×Int) =>
 some (AV.tup [AV.agg (zaa r6.fst),I r6.snd],[])))=some y):zht a0 r1 r2 x3 x4=some y:=
 pt_of zT [] (by kernel_rfl) h
theorem zvV (a0:GDistribution) {y:AV×Mem} (h:(
 callD zjS (cw zmS [AV.agg (zab a0)] []) fun (r0:Int) =>
 brn (r0 != 0) (some (AV.tup [AV.agg (zaa (⟨0,0⟩)),I r0],[]))
 (callD zd4 (cw zeG [AV.agg (zab a0)] []) fun (r1:Int) =>
 callD zmE (cw zo9 [AV.agg (zab a0)] []) fun (r2:Int) =>
 zht a0 r1 r2 0 0))=some y):cw ziv [AV.agg (zab a0)] []=some y:=
 zaj zp8 zT [] rfl (by kernel_rfl) (by kernel_rfl) (by kernel_rfl) (by kernel_rfl) (by kernel_rfl) h
theorem zCP (a0:GRatio) (a1:GRatio) {y:AV×Mem} (h:(
 callD zbl (cw zbm [AV.agg (zaa a0)] []) fun (r0:Bool) =>
 brn (!r0) (some (AV.tup [AV.agg (zaa (⟨0,0⟩)),I 1],[]))
 (callD zbl (cw zbm [AV.agg (zaa a1)] []) fun (r1:Bool) =>
 brn (!r1) (some (AV.tup [AV.agg (zaa (⟨0,0⟩)),I 1],[]))
 (brn (a1.Num == 0) (some (AV.tup [AV.agg (zaa (⟨0,0⟩)),I 2],[]))
 (callD za3 (cw za7 [I a0.Num] []) fun (r2:Int) =>
 callD za3 (cw za7 [I a1.Den] []) fun (r3:Int) =>
 callD zcj (cw zcM [AV.v (.int .u64 r2),AV.v (.int .u64 r3)] []) fun (r4:Gref01Wide) =>
 callD za3 (cw za7 [I a0.Den] []) fun (r5:Int) =>
 callD za3 (cw za7 [I a1.Num] []) fun (r6:Int) =>
 callD zcj (cw zcM [AV.v (.int .u64 r5),AV.v (.int .u64 r6)] []) fun (r7:Gref01Wide) =>
 callD zfM (cw zg8 [B (!decide (a0.Num < 0) == decide (a1.Num < 0)),AV.agg (zal r4),AV.agg (zal r7)] []) fun (r8:GRatio×Int) =>
 some (AV.tup [AV.agg (zaa r8.fst),I r8.snd],[])))))=some y):cw ziq [AV.agg (zaa a0),AV.agg (zaa a1)] []=some y:=
 zaj zBV zT [] rfl (by kernel_rfl) (by kernel_rfl) (by kernel_rfl) (by kernel_rfl) (by kernel_rfl) h
noncomputable def zfY (a0:GDistribution) (x0:Int) (x1:Int):Option (AV×Mem):=pt znZ 1 ⟨[(3,I x0),(17,AV.sl 1 (List.map zai a0.Counts)),(18,I ((↑(List.map zai a0.Counts).length:Int))),(19,I x1)],[]⟩
theorem zmG (a0:GDistribution) (x0:Int) (x1:Int) {y:AV×Mem} (h:(
 brn (decide (x1 < (↑(List.map zai a0.Counts).length:Int))) (chk ((0:Int)≤x1)<|
 elemD zaw (List.map zai a0.Counts) x1.toNat fun (c2:Int) =>
 brn (decide (c2 < 0)) (some (B false,[]))
 (brn (decide (1048576 < c2)) (some (B false,[]))
 (zfY a0 (w64 (x0+c2)) (w64 (x1+1)))))
 (some (B (decide (x0≤1048576)),[])))=some y):zfY a0 x0 x1=some y:=
 pt_of zT [] (by kernel_rfl) h
theorem zty (a0:GDistribution) {y:AV×Mem} (h:(
 brn (decide ((↑(List.map zai a0.Counts).length:Int) < 1)) (some (B false,[]))
 (brn (decide (201 < (↑(List.map zai a0.Counts).length:Int))) (some (B false,[]))
 (zfY a0 0 0)))=some y):cw zbC [AV.agg (zab a0)] []=some y:=
 zaj znZ zT [] rfl (by kernel_rfl) (by kernel_rfl) (by kernel_rfl) (by kernel_rfl) (by kernel_rfl) h
theorem zqp (a0:List Int) (a1:Int) {y:AV×Mem} (h:(
 callD zfV (cw zmJ [AV.sl 1 (List.map zai a0),I a1] []) fun (r0:Int) =>
 some (B (decide (0≤r0)),[]))=some y):cw ze0 [AV.sl 1 (List.map zai a0),I a1] []=some y:=
 zaj zqm zT [] rfl (by kernel_rfl) (by kernel_rfl) (by kernel_rfl) (by kernel_rfl) (by kernel_rfl) h
end Go.Proofs.YtbhkcgaanaelfaaGreat
