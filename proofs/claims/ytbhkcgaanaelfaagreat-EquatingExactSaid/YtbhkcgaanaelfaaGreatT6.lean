/- What the functions compute, between two cut points: printed by a program, checked by the kernel. -/
import Derived.Test.YtbhkcgaanaelfaaGreatAnn
namespace Go.Proofs.YtbhkcgaanaelfaaGreat
open Go.Ab
set_option maxRecDepth 100000
set_option linter.unusedVariables false
noncomputable def ziI (a0:GDistribution) (x0:List (List AV)) (x1:Int):Option (AV×Mem):=pt zrJ 1 ⟨[(3,AV.row 3 1 0 (List.length x0)),(8,AV.sl 1 (List.map zai a0.Counts)),(9,I ((↑(List.map zai a0.Counts).length:Int))),(10,I x1)],[(3,⟨1,zaJ,x0,false⟩)]⟩
theorem zp5 (a0:GDistribution) (x0:List (List AV)) (x1:Int) {y:AV×Mem} (h:(
 brn (decide (x1 < (↑(List.map zai a0.Counts).length:Int))) (chk ((0:Int)≤x1)<|
 elemD zaw (List.map zai a0.Counts) x1.toNat fun (c2:Int) =>
 chk ((0:Int)≤x1)<|
 chk ((x1:Int) < (↑x0.length:Int))<|
 elemD zaw x0 (0+x1.toNat) fun (c3:Int) =>
 chk (x0.length=x0.length)<|
 chk ((x0.length+1)*(8+1)≤1099511627776)<|
 chk ((x0++[[I (w64 (c3+c2))]]).length=(x0++[[I (w64 (c3+c2))]]).length)<|
 ziI a0 (x0++([zai (w64 (c3+c2))])) (w64 (x1+1)))
 (chk (x0.length=x0.length)<|
 some (AV.new 1 zaJ x0,[])))=some y):ziI a0 x0 x1=some y:=
 pt_of zT [] (by kernel_rfl) h
theorem zxD (a0:GDistribution) {y:AV×Mem} (h:(
 chk (1=1)<|
 ziI a0 ([zai 0]) 0)=some y):cw zkB [AV.agg (zab a0)] []=some y:=
 zaj zrJ zT [] rfl (by kernel_rfl) (by kernel_rfl) (by kernel_rfl) (by kernel_rfl) (by kernel_rfl) h
theorem zwc (a0:List Int) (a1:Int) (a2:Int) (a3:Int) {y:AV×Mem} (h:(
 chk ((0:Int)≤(w64 ((↑(List.map zai a0).length:Int) - 1)))<|
 elemD zaw (List.map zai a0) ((w64 ((↑(List.map zai a0).length:Int) - 1)).toNat) fun (c0:Int) =>
 callD zir (cw zkh [I (w64 (w64 (2*a1) - 1)),I 2] []) fun (r1:GRatio×Int) =>
 brn (r1.snd != 0) (some (AV.tup [AV.agg (zaa (⟨0,0⟩)),I r1.snd],[]))
 (chk ((0:Int)≤a1)<|
 elemD zaw (List.map zai a0) a1.toNat fun (c2:Int) =>
 chk ((0:Int)≤(w64 (a1+1)))<|
 elemD zaw (List.map zai a0) ((w64 (a1+1)).toNat) fun (c3:Int) =>
 chk ((0:Int)≤a1)<|
 elemD zaw (List.map zai a0) a1.toNat fun (c4:Int) =>
 callD zir (cw zkh [I (w64 (w64 (a2*c0) - w64 (c2*a3))),I (w64 (a3*w64 (c3 - c4)))] []) fun (r5:GRatio×Int) =>
 brn (r5.snd != 0) (some (AV.tup [AV.agg (zaa (⟨0,0⟩)),I r5.snd],[]))
 (callD zii (cw zcO [AV.agg (zaa r1.fst),AV.agg (zaa r5.fst)] []) fun (r6:GRatio×Int) =>
 some (AV.tup [AV.agg (zaa r6.fst),I r6.snd],[]))))=some y):cw zft [AV.sl 1 (List.map zai a0),I a1,I a2,I a3] []=some y:=
 zaj zvP zT [] rfl (by kernel_rfl) (by kernel_rfl) (by kernel_rfl) (by kernel_rfl) (by kernel_rfl) h
noncomputable def zlK (a0:GDistribution) (x0:Int):Option (AV×Mem):=pt zuP 1 ⟨[(1,AV.loc 1 1 0 0),(3,I x0)],[(1,⟨1,zan,[zab a0],true⟩)]⟩
theorem zsP (a0:GDistribution) (x0:Int) {y:AV×Mem} (h:(
 brn (decide (x0 < (↑(List.map zai a0.Counts).length:Int))) (chk ((0:Int)≤x0)<|
 elemD zaw (List.map zai a0.Counts) x0.toNat fun (c1:Int) =>
 brn (c1 == 0) (some (B false,[]))
 (zlK a0 (w64 (x0+1))))
 (some (B true,[])))=some y):zlK a0 x0=some y:=
 pt_of zT [] (by kernel_rfl) h
theorem zA3 (a0:GDistribution) {y:AV×Mem} (h:(
 zlK a0 0)=some y):cw znR [AV.agg (zab a0)] []=some y:=
 zaj zuP zT [] rfl (by kernel_rfl) (by kernel_rfl) (by kernel_rfl) (by kernel_rfl) (by kernel_rfl) h
theorem zAc (a0:GDistribution) {y:AV×Mem} (h:(
 callD zd3 (cw zeI [AV.agg (zab a0),I ((↑(List.map zai a0.Counts).length:Int))] []) fun (r0:Int) =>
 some (I r0,[]))=some y):cw zeG [AV.agg (zab a0)] []=some y:=
 zaj zzA zT [] rfl (by kernel_rfl) (by kernel_rfl) (by kernel_rfl) (by kernel_rfl) (by kernel_rfl) h
noncomputable def zkI (a0:GDistribution) (a1:Int) (x0:Int) (x1:Int):Option (AV×Mem):=pt ztY 1 ⟨[(1,I a1),(2,AV.loc 2 1 0 0),(5,I x0),(6,I x1)],[(2,⟨1,zan,[zab a0],true⟩)]⟩
theorem zrG (a0:GDistribution) (a1:Int) (x0:Int) (x1:Int) {y:AV×Mem} (h:(
 brn (decide (x1 < (↑(List.map zai a0.Counts).length:Int))) (brn (decide (x1 < a1)) (callD zcZ (cw zdh [AV.agg (zab a0)] []) fun (r2:Bool) =>
 brn r2 (chk ((0:Int)≤x1)<|
 elemD zaw (List.map zai a0.Counts) x1.toNat fun (c3:Int) =>
 zkI a0 a1 (w64 (x0+c3)) (w64 (x1+1)))
 (some (I x0,[])))
 (some (I x0,[])))
 (some (I x0,[])))=some y):zkI a0 a1 x0 x1=some y:=
 pt_of zT [] (by kernel_rfl) h
theorem zz5 (a0:GDistribution) (a1:Int) {y:AV×Mem} (h:(
 zkI a0 a1 0 0)=some y):cw zeI [AV.agg (zab a0),I a1] []=some y:=
 zaj ztY zT [] rfl (by kernel_rfl) (by kernel_rfl) (by kernel_rfl) (by kernel_rfl) (by kernel_rfl) h
theorem zCE (a0:Int) (a1:Int) {y:AV×Mem} (h:(
 brn (a1 == 0) (some (AV.tup [AV.agg (zaa (⟨0,0⟩)),I 2],[]))
 (callD za3 (cw za7 [I a0] []) fun (r0:Int) =>
 callD za3 (cw za7 [I a1] []) fun (r1:Int) =>
 callD zfM (cw zg8 [B (!decide (a0 < 0) == decide (a1 < 0)),AV.agg (zal (⟨0,r0⟩)),AV.agg (zal (⟨0,r1⟩))] []) fun (r2:GRatio×Int) =>
 some (AV.tup [AV.agg (zaa r2.fst),I r2.snd],[])))=some y):cw zg1 [I a0,I a1] []=some y:=
 zaj zB0 zT [] rfl (by kernel_rfl) (by kernel_rfl) (by kernel_rfl) (by kernel_rfl) (by kernel_rfl) h
noncomputable def zjF (a0:List GPoint) (a1:GPoint):Option (AV×Mem):=pt zwl 1004 ⟨[(0,AV.row 950 4 0 (List.length (List.map zag a0))),(3,AV.loc 3 4 0 0),(18,B false)],[(3,⟨4,zaC,[zag a1],true⟩),(950,⟨4,zaC,List.map zag a0,false⟩)]⟩
theorem zwE (a0:List GPoint) (a1:GPoint) {y:AV×Mem} (h:(
 chk ((List.map zag a0).length=(List.map zag a0).length)<|
 chk (((List.map zag a0).length+1)*(32+1)≤1099511627776)<|
 chk ((List.map zag a0++[[I a1.X.Num,I a1.X.Den,I a1.Y.Num,I a1.Y.Den]]).length=(List.map zag a0++[[I a1.X.Num,I a1.X.Den,I a1.Y.Num,I a1.Y.Den]]).length)<|
 chk ((List.map zag a0++[[I a1.X.Num,I a1.X.Den,I a1.Y.Num,I a1.Y.Den]]).length=(List.map zag a0++[[I a1.X.Num,I a1.X.Den,I a1.Y.Num,I a1.Y.Den]]).length)<|
 some (AV.new 4 zaC ((List.map zag a0)++([zag a1])),[]))=some y):zjF a0 a1=some y:=
 pt_of zT [4] (by kernel_rfl) h
theorem zCJ (a0:List GPoint) (a1:GPoint) {y:AV×Mem} (h:(
 brn (decide (0 < (↑(List.map zag a0).length:Int))) (chk ((0:Int)≤(w64 ((↑(List.map zag a0).length:Int) - 1)))<|
 chk ((w64 ((↑(List.map zag a0).length:Int) - 1):Int) < ((↑(List.map zag a0).length:Int)))<|
 elemD zau (List.map zag a0) (0+(w64 ((↑(List.map zag a0).length:Int) - 1)).toNat) fun (c0:GPoint) =>
 brn (c0.X.Num == a1.X.Num && (c0.X.Den == a1.X.Den && true) && (c0.Y.Num == a1.Y.Num && (c0.Y.Den == a1.Y.Den && true) && true)) (chk ((List.map zag a0).length=(List.map zag a0).length)<|
 chk ((List.map zag a0).length=(List.map zag a0).length)<|
 some (AV.new 4 zaC (List.map zag a0),[]))
 (zjF a0 a1))
 (zjF a0 a1))=some y):cw zj7 [AV.row 950 4 0 (List.length (List.map zag a0)),AV.agg (zag a1)] [(950,⟨4,zaC,List.map zag a0,false⟩)]=some y:=
 zaj zwl zT [4] rfl (by kernel_rfl) (by kernel_rfl) (by kernel_rfl) (by kernel_rfl) (by kernel_rfl) h
noncomputable def zom (a0:GDistribution) (a1:Int) (a2:Int) (x0:Int):Option (AV×Mem):=pt ztG 1 ⟨[(1,I a1),(2,I a2),(3,AV.loc 3 1 0 0),(6,AV.loc 6 2 0 0),(7,I x0)],[(3,⟨1,zan,[zab a0],true⟩),(6,⟨2,zae,[zaa (⟨0,0⟩)],true⟩)]⟩
noncomputable def zkC (a0:GDistribution) (a1:Int) (a2:Int) (x0:Int):Option (AV×Mem):=pt ztG 1004 ⟨[(1,I a1),(2,I a2),(3,AV.loc 3 1 0 0),(6,AV.loc 6 2 0 0),(7,I x0),(32,B false)],[(3,⟨1,zan,[zab a0],true⟩),(6,⟨2,zae,[zaa (⟨0,0⟩)],true⟩)]⟩
theorem zuF (a0:GDistribution) (a1:Int) (a2:Int) (x0:Int) {y:AV×Mem} (h:(
 brn (decide (w64 (x0+1) < (↑(List.map zai a0.Counts).length:Int))) (callD zd3 (cw zeI [AV.agg (zab a0),I (w64 (x0+1))] []) fun (r1:Int) =>
 callD zd4 (cw zeG [AV.agg (zab a0)] []) fun (r2:Int) =>
 brn (decide (w64 (r1*a2)≤w64 (a1*r2))) (zom a0 a1 a2 (w64 (x0+1)))
 (zkC a0 a1 a2 x0))
 (zkC a0 a1 a2 x0))=some y):zom a0 a1 a2 x0=some y:=
 pt_of zT [4] (by kernel_rfl) h
theorem zyg (a0:GDistribution) (a1:Int) (a2:Int) (x0:Int) {y:AV×Mem} (h:(
 callD zfU (cw zg1 [I (w64 (w64 (2*x0) - 1)),I 2] []) fun (r3:GRatio×Int) =>
 callD zd4 (cw zeG [AV.agg (zab a0)] []) fun (r4:Int) =>
 callD zd3 (cw zeI [AV.agg (zab a0),I x0] []) fun (r5:Int) =>
 chk ((0:Int)≤x0)<|
 elemD zaw (List.map zai a0.Counts) x0.toNat fun (c6:Int) =>
 callD zfU (cw zg1 [I (w64 (w64 (a1*r4) - w64 (r5*a2))),I (w64 (c6*a2))] []) fun (r7:GRatio×Int) =>
 callD zd5 (cw zeB [AV.agg (zaa r3.fst),AV.agg (zaa r7.fst)] []) fun (r8:GRatio×Int) =>
 some (AV.agg (zaa r8.fst),[]))=some y):zkC a0 a1 a2 x0=some y:=
 pt_of zT [4] (by kernel_rfl) h
theorem e_ref34_at (a0:GDistribution) (a1:Int) (a2:Int) {y:AV×Mem} (h:(
 zom a0 a1 a2 0)=some y):cw zoo [AV.agg (zab a0),I a1,I a2] []=some y:=
 zaj ztG zT [4] rfl (by kernel_rfl) (by kernel_rfl) (by kernel_rfl) (by kernel_rfl) (by kernel_rfl) h
theorem e_ref33_Of (a0:List GPoint) {y:AV×Mem} (h:(
 callD ziS (cw zlR [AV.sl 4 (List.map zag a0)] []) fun (r0:GCurve×Int) =>
 some (AV.tup [AV.agg (zak r0.fst),I r0.snd],[]))=some y):cw zs6 [AV.sl 4 (List.map zag a0)] []=some y:=
 zaj R_ref33_Of zT [] rfl (by kernel_rfl) (by kernel_rfl) (by kernel_rfl) (by kernel_rfl) (by kernel_rfl) h
theorem zu4 (a0:Int) {y:AV×Mem} (h:(
 brn (decide (0≤a0)) (some (B (decide (a0≤200)),[]))
 (some (B false,[])))=some y):cw zh5 [I a0] []=some y:=
 zaj zvj zT [] rfl (by kernel_rfl) (by kernel_rfl) (by kernel_rfl) (by kernel_rfl) (by kernel_rfl) h
noncomputable def zdb (a0:List GPoint) (x3:List (List AV)) (x4:GconversionSteps) (x5:GRatio) (x6:Int):Option (AV×Mem):=pt zpe 1 ⟨[(0,AV.sl 4 (List.map zag a0)),(4,AV.row 4 4 0 (List.length x3)),(5,AV.loc 5 1 0 0),(6,AV.loc 6 2 0 0),(7,I x6)],[(4,⟨4,zaC,x3,false⟩),(5,⟨1,zas,[zaE x4],true⟩),(6,⟨2,zae,[zaa x5],true⟩)]⟩
theorem zfk (a0:List GPoint) (x3:List (List AV)) (x4:GconversionSteps) (x5:GRatio) (x6:Int) {y:AV×Mem} (h:(
 brn (decide (w64 (x6+1) < (↑(List.map zag a0).length:Int))) (chk ((0:Int)≤x6)<|
 elemD zau (List.map zag a0) x6.toNat fun (c7:GPoint) =>
 chk ((0:Int)≤(w64 (x6+1)))<|
 elemD zau (List.map zag a0) ((w64 (x6+1)).toNat) fun (c8:GPoint) =>
 callD zc4 (cw zcq [AV.loc 1000 1 0 0,AV.agg (zag c7),AV.agg (zag c8)] [(1000,⟨1,zas,[zaE x4],true⟩)]) fun (r9:GRatio×GconversionSteps) =>
 brn (!(r9.fst.Num == x5.Num && (r9.fst.Den == x5.Den && true))) (chk ((0:Int)≤x6)<|
 elemD zau (List.map zag a0) x6.toNat fun (c10:GPoint) =>
 chk (x3.length=x3.length)<|
 chk ((x3.length+1)*(32+1)≤1099511627776)<|
 chk ((x3++[[I c10.X.Num,I c10.X.Den,I c10.Y.Num,I c10.Y.Den]]).length=(x3++[[I c10.X.Num,I c10.X.Den,I c10.Y.Num,I c10.Y.Den]]).length)<|
 zdb a0 (x3++([zag c10])) r9.snd r9.fst (w64 (x6+1)))
 (zdb a0 x3 r9.snd r9.fst (w64 (x6+1))))
 (brn (x4.e != 0) (some (AV.tup [AV.sl 4 (List.map zag []),I x4.e],[]))
 (chk (0+x3.length≤x3.length)<|
 some (AV.tup [AV.sl 4 (List.take x3.length x3),I 0],[]))))=some y):zdb a0 x3 x4 x5 x6=some y:=
 pt_of zT [] (by kernel_rfl) h
theorem zpg (a0:List GPoint) {y:AV×Mem} (h:(
 chk ((0:Int)≤0)<|
 elemD zau (List.map zag a0) (Int.toNat 0) fun (c0:GPoint) =>
 chk ((0:Int)≤1)<|
 elemD zau (List.map zag a0) (Int.toNat 1) fun (c1:GPoint) =>
 callD zc4 (cw zcq [AV.loc 1000 1 0 0,AV.agg (zag c0),AV.agg (zag c1)] [(1000,⟨1,zas,[zaE ⟨0⟩],true⟩)]) fun (r2:GRatio×GconversionSteps) =>
 zdb a0 [] r2.snd r2.fst 1)=some y):cw zh1 [AV.sl 4 (List.map zag a0)] []=some y:=
 zaj zpe zT [] rfl (by kernel_rfl) (by kernel_rfl) (by kernel_rfl) (by kernel_rfl) (by kernel_rfl) h
theorem zgJ (a0:GconversionSteps) (a2:GRatio) (a3:GRatio) {y:AV×Mem} (h:(
 brn (a0.e != 0) (some (AV.agg (zaa (⟨0,0⟩)),[(1000,⟨1,zas,[zaE a0],true⟩)]))
 (callD zii (cw zcO [AV.agg (zaa a2),AV.agg (zaa a3)] []) fun (r0:GRatio×Int) =>
 some (AV.agg (zaa r0.fst),[(1000,⟨1,zas,[zaE ⟨r0.snd⟩],true⟩)])))=some y):cw zap [AV.loc 1000 1 0 0,AV.fn zcO [],AV.agg (zaa a2),AV.agg (zaa a3)] [(1000,⟨1,zas,[zaE a0],true⟩)]=some y:=
 zaj zgi zT [] rfl (by kernel_rfl) (by kernel_rfl) (by kernel_rfl) (by kernel_rfl) (by kernel_rfl) h
theorem zgV (a0:GconversionSteps) (a2:GRatio) (a3:GRatio) {y:AV×Mem} (h:(
 brn (a0.e != 0) (some (AV.agg (zaa (⟨0,0⟩)),[(1000,⟨1,zas,[zaE a0],true⟩)]))
 (callD zmv (cw zbQ [AV.agg (zaa a2),AV.agg (zaa a3)] []) fun (r0:GRatio×Int) =>
 some (AV.agg (zaa r0.fst),[(1000,⟨1,zas,[zaE ⟨r0.snd⟩],true⟩)])))=some y):cw zap [AV.loc 1000 1 0 0,AV.fn zbQ [],AV.agg (zaa a2),AV.agg (zaa a3)] [(1000,⟨1,zas,[zaE a0],true⟩)]=some y:=
 zaj zgi zT [] rfl (by kernel_rfl) (by kernel_rfl) (by kernel_rfl) (by kernel_rfl) (by kernel_rfl) h
theorem zgK (a0:GconversionSteps) (a2:GRatio) (a3:GRatio) {y:AV×Mem} (h:(
 brn (a0.e != 0) (some (AV.agg (zaa (⟨0,0⟩)),[(1000,⟨1,zas,[zaE a0],true⟩)]))
 (callD zik (cw zdr [AV.agg (zaa a2),AV.agg (zaa a3)] []) fun (r0:GRatio×Int) =>
 some (AV.agg (zaa r0.fst),[(1000,⟨1,zas,[zaE ⟨r0.snd⟩],true⟩)])))=some y):cw zap [AV.loc 1000 1 0 0,AV.fn zdr [],AV.agg (zaa a2),AV.agg (zaa a3)] [(1000,⟨1,zas,[zaE a0],true⟩)]=some y:=
 zaj zgi zT [] rfl (by kernel_rfl) (by kernel_rfl) (by kernel_rfl) (by kernel_rfl) (by kernel_rfl) h
theorem zgP (a0:GconversionSteps) (a2:GRatio) (a3:GRatio) {y:AV×Mem} (h:(
 brn (a0.e != 0) (some (AV.agg (zaa (⟨0,0⟩)),[(1000,⟨1,zas,[zaE a0],true⟩)]))
 (callD zic (cw zdn [AV.agg (zaa a2),AV.agg (zaa a3)] []) fun (r0:GRatio×Int) =>
 some (AV.agg (zaa r0.fst),[(1000,⟨1,zas,[zaE ⟨r0.snd⟩],true⟩)])))=some y):cw zap [AV.loc 1000 1 0 0,AV.fn zdn [],AV.agg (zaa a2),AV.agg (zaa a3)] [(1000,⟨1,zas,[zaE a0],true⟩)]=some y:=
 zaj zgi zT [] rfl (by kernel_rfl) (by kernel_rfl) (by kernel_rfl) (by kernel_rfl) (by kernel_rfl) h
theorem zCo (a0:GRatio) (a1:GRatio) {y:AV×Mem} (h:(
 callD zbc (cw zbk [AV.agg (zaa a0)] []) fun (r0:Bool) =>
 brn (!r0) (some (AV.tup [AV.agg (zaa (⟨0,0⟩)),I 1],[]))
 (callD zbc (cw zbk [AV.agg (zaa a1)] []) fun (r1:Bool) =>
 brn (!r1) (some (AV.tup [AV.agg (zaa (⟨0,0⟩)),I 1],[]))
 (callD zii (cw zcO [AV.agg (zaa a0),AV.agg (zaa (⟨w64 (0 - a1.Num),a1.Den⟩))] []) fun (r2:GRatio×Int) =>
 some (AV.tup [AV.agg (zaa r2.fst),I r2.snd],[]))))=some y):cw zbQ [AV.agg (zaa a0),AV.agg (zaa a1)] []=some y:=
 zaj zBW zT [] rfl (by kernel_rfl) (by kernel_rfl) (by kernel_rfl) (by kernel_rfl) (by kernel_rfl) h
theorem znT (a0:List GPoint) (a1:GRatio) {y:AV×Mem} (h:(
 callD zbs (cw zbq [AV.sl 4 (List.map zag a0),AV.agg (zaa a1)] []) fun (r0:GRatio×Int) =>
 brn (r0.snd != 0) (some (AV.tup [AV.agg (zag (⟨⟨0,0⟩,⟨0,0⟩⟩)),I r0.snd],[]))
 (some (AV.tup [AV.agg (zag (⟨⟨a1.Num,a1.Den⟩,⟨r0.fst.Num,r0.fst.Den⟩⟩)),I 0],[])))=some y):cw zb7 [AV.sl 4 (List.map zag a0),AV.agg (zaa a1)] []=some y:=
 zaj ztj zT [] rfl (by kernel_rfl) (by kernel_rfl) (by kernel_rfl) (by kernel_rfl) (by kernel_rfl) h
theorem ztZ (a0:List GPoint) (a1:Int) {y:AV×Mem} (h:(
 chk ((0:Int)≤(w64 (a1+1)))<|
 elemD zau (List.map zag a0) ((w64 (a1+1)).toNat) fun (c0:GPoint) =>
 chk ((0:Int)≤a1)<|
 elemD zau (List.map zag a0) a1.toNat fun (c1:GPoint) =>
 callD zc5 (cw zdp [AV.agg (zaa c0.Y),AV.agg (zaa c1.Y)] []) fun (r2:GRatio×Int) =>
 chk ((0:Int)≤(w64 (a1+1)))<|
 elemD zau (List.map zag a0) ((w64 (a1+1)).toNat) fun (c3:GPoint) =>
 chk ((0:Int)≤a1)<|
 elemD zau (List.map zag a0) a1.toNat fun (c4:GPoint) =>
 callD zc5 (cw zdp [AV.agg (zaa c3.X),AV.agg (zaa c4.X)] []) fun (r5:GRatio×Int) =>
 brn (r2.snd != 0) (some (AV.tup [AV.agg (zaa (⟨0,0⟩)),B false],[]))
 (brn (r5.snd != 0) (some (AV.tup [AV.agg (zaa (⟨0,0⟩)),B false],[]))
 (callD zg2 (cw ziq [AV.agg (zaa r2.fst),AV.agg (zaa r5.fst)] []) fun (r6:GRatio×Int) =>
 some (AV.tup [AV.agg (zaa r6.fst),B (r6.snd == 0)],[]))))=some y):cw zhN [AV.sl 4 (List.map zag a0),I a1] []=some y:=
 zaj zAt zT [] rfl (by kernel_rfl) (by kernel_rfl) (by kernel_rfl) (by kernel_rfl) (by kernel_rfl) h
theorem zuw (a0:GRatio) (a1:Int) {y:AV×Mem} (h:(
 callD zd5 (cw zeB [AV.agg (zaa a0),AV.agg (zaa (⟨a1,1⟩))] []) fun (r0:GRatio×Int) =>
 some (AV.tup [AV.agg (zaa r0.fst),B (r0.snd == 0)],[]))=some y):cw zlr [AV.agg (zaa a0),I a1] []=some y:=
 zaj zBm zT [] rfl (by kernel_rfl) (by kernel_rfl) (by kernel_rfl) (by kernel_rfl) (by kernel_rfl) h
theorem zAK (a0:GRatio) (a1:GRatio) {y:AV×Mem} (h:(
 callD zaH (cw zah [AV.agg (zaa a0),AV.agg (zaa a1)] []) fun (r0:Int) =>
 some (B (r0 == -1),[]))=some y):cw znN [AV.agg (zaa a0),AV.agg (zaa a1)] []=some y:=
 zaj zAE zT [] rfl (by kernel_rfl) (by kernel_rfl) (by kernel_rfl) (by kernel_rfl) (by kernel_rfl) h
noncomputable def zfm (ax:GRatio) (al:List GPoint) (x0:Int) (x1:Int):Option (AV×Mem):=pt zt4 1 ⟨[(1,AV.fn zdC [AV.fp [I ax.Num,I ax.Den],AV.fp [AV.sl 4 (List.map zag al)]]),(5,I x0),(6,I x1)],[]⟩
theorem zjz (ax:GRatio) (al:List GPoint) (x0:Int) (x1:Int) {y:AV×Mem} (h:(
 brn (decide (x0 < x1)) (chk ((0:Int)≤1)<|
 callD zhu (cw zdC [I (w64 ((wu64 (w64 (x0+x1))).fdiv (2 ^ Min.min (Int.toNat 1) 64))),AV.fp [I ax.Num,I ax.Den],AV.fp [AV.sl 4 (List.map zag al)]] []) fun (r2:Bool) =>
 brn (!r2) (zfm ax al (w64 (w64 ((wu64 (w64 (x0+x1))).fdiv (2 ^ Min.min (Int.toNat 1) 64))+1)) x1)
 (zfm ax al x0 (w64 ((wu64 (w64 (x0+x1))).fdiv (2 ^ Min.min (Int.toNat 1) 64)))))
 (some (I x0,[])))=some y):zfm ax al x0 x1=some y:=
 pt_of zT [] (by kernel_rfl) h
theorem zu5 (a0:Int) (ax:GRatio) (al:List GPoint) {y:AV×Mem} (h:(
 zfm ax al 0 a0)=some y):cw zpT [I a0,AV.fn zdC [AV.fp [I ax.Num,I ax.Den],AV.fp [AV.sl 4 (List.map zag al)]]] []=some y:=
 zaj zt4 zT [] rfl (by kernel_rfl) (by kernel_rfl) (by kernel_rfl) (by kernel_rfl) (by kernel_rfl) h
theorem zuk (a0:Int) (ax:GRatio) (al:List GPoint) {y:AV×Mem} (h:(
 chk ((0:Int)≤(w64 (a0+1)))<|
 elemD zau (List.map zag al) ((w64 (a0+1)).toNat) fun (c0:GPoint) =>
 callD zaH (cw zah [AV.agg (zaa ax),AV.agg (zaa c0.X)] []) fun (r1:Int) =>
 some (B (decide (r1≤0)),[]))=some y):cw zdC [I a0,AV.fp [I ax.Num,I ax.Den],AV.fp [AV.sl 4 (List.map zag al)]] []=some y:=
 zaj zuc zT [] rfl (by kernel_rfl) (by kernel_rfl) (by kernel_rfl) (by kernel_rfl) (by kernel_rfl) h
theorem zhi (a0:GconversionSteps) (a1:GPoint) (a2:GPoint) {y:AV×Mem} (h:(
 callD zaD (cw zap [AV.loc 1000 1 0 0,AV.fn zbQ [],AV.agg (zaa a2.Y),AV.agg (zaa a1.Y)] [(1000,⟨1,zas,[zaE a0],true⟩)]) fun (r0:GRatio×GconversionSteps) =>
 callD zaD (cw zap [AV.loc 1000 1 0 0,AV.fn zbQ [],AV.agg (zaa a2.X),AV.agg (zaa a1.X)] [(1000,⟨1,zas,[zaE r0.snd],true⟩)]) fun (r1:GRatio×GconversionSteps) =>
 callD zaD (cw zap [AV.loc 1000 1 0 0,AV.fn zdn [],AV.agg (zaa r0.fst),AV.agg (zaa r1.fst)] [(1000,⟨1,zas,[zaE r1.snd],true⟩)]) fun (r2:GRatio×GconversionSteps) =>
 some (AV.agg (zaa r2.fst),[(1000,⟨1,zas,[zaE r2.snd],true⟩)]))=some y):cw zcq [AV.loc 1000 1 0 0,AV.agg (zag a1),AV.agg (zag a2)] [(1000,⟨1,zas,[zaE a0],true⟩)]=some y:=
 zaj zqL zT [] rfl (by kernel_rfl) (by kernel_rfl) (by kernel_rfl) (by kernel_rfl) (by kernel_rfl) h
theorem zCU (a0:GRatio) (a1:GRatio) {y:AV×Mem} (h:(
 callD zbc (cw zbk [AV.agg (zaa a0)] []) fun (r0:Bool) =>
 brn (!r0) (some (AV.tup [AV.agg (zaa (⟨0,0⟩)),I 1],[]))
 (callD zbc (cw zbk [AV.agg (zaa a1)] []) fun (r1:Bool) =>
 brn (!r1) (some (AV.tup [AV.agg (zaa (⟨0,0⟩)),I 1],[]))
 (callD zcA (cw zb3 [I a0.Num] []) fun (r2:Int) =>
 callD zcA (cw zb3 [I a1.Num] []) fun (r3:Int) =>
 callD zey (cw ze4 [AV.v (.int .u64 r2),AV.v (.int .u64 (wu64 a1.Den))] []) fun (r4:Int) =>
 callD zey (cw ze4 [AV.v (.int .u64 r3),AV.v (.int .u64 (wu64 a0.Den))] []) fun (r5:Int) =>
 chk ((r4:Int)≠0)<|
 chk ((r5:Int)≠0)<|
 callD zgn (cw zgl [AV.v (.int .u64 (wu64 (r2.tdiv r4))),AV.v (.int .u64 (wu64 (r3.tdiv r5)))] []) fun (r6:GratioWide) =>
 chk ((r5:Int)≠0)<|
 chk ((r4:Int)≠0)<|
 callD zgn (cw zgl [AV.v (.int .u64 (wu64 ((wu64 a0.Den).tdiv r5))),AV.v (.int .u64 (wu64 ((wu64 a1.Den).tdiv r4)))] []) fun (r7:GratioWide) =>
 callD zg6 (cw ziU [B (!decide (a0.Num < 0) == decide (a1.Num < 0)),AV.agg (zax r6),AV.agg (zax r7)] []) fun (r8:GRatio×Int) =>
 some (AV.tup [AV.agg (zaa r8.fst),I r8.snd],[]))))=some y):cw zdr [AV.agg (zaa a0),AV.agg (zaa a1)] []=some y:=
 zaj zCw zT [] rfl (by kernel_rfl) (by kernel_rfl) (by kernel_rfl) (by kernel_rfl) (by kernel_rfl) h
end Go.Proofs.YtbhkcgaanaelfaaGreat
