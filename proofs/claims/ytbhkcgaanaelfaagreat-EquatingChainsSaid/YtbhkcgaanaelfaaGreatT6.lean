/- What the functions compute, between two cut points: printed by a program, checked by the kernel. -/
import Derived.Test.YtbhkcgaanaelfaaGreatAnn
namespace Go.Proofs.YtbhkcgaanaelfaaGreat
open Go.Ab
set_option maxRecDepth 100000
set_option linter.unusedVariables false
noncomputable def zhb (a0:GDistribution) (x0:List (List AV)) (x1:Int):Option (AV×Mem):=pt znQ 1 ⟨[(3,AV.row 3 1 0 (List.length x0)),(8,AV.sl 1 (List.map zaj a0.Counts)),(9,I ((↑(List.map zaj a0.Counts).length:Int))),(10,I x1)],[(3,⟨1,zaF,x0,false⟩)]⟩
theorem zmF (a0:GDistribution) (x0:List (List AV)) (x1:Int) {y:AV×Mem} (h:(
 brn (decide (x1 < (↑(List.map zaj a0.Counts).length:Int))) (chk ((0:Int)≤x1)<|
 elemD zay (List.map zaj a0.Counts) x1.toNat fun (c2:Int) =>
 chk ((0:Int)≤x1)<|
 chk ((x1:Int) < (↑x0.length:Int))<|
 elemD zay x0 (0+x1.toNat) fun (c3:Int) =>
 chk (x0.length=x0.length)<|
 chk ((x0.length+1)*(8+1)≤1099511627776)<|
 chk ((x0++[[I (w64 (c3+c2))]]).length=(x0++[[I (w64 (c3+c2))]]).length)<|
 zhb a0 (x0++([zaj (w64 (c3+c2))])) (w64 (x1+1)))
 (chk (x0.length=x0.length)<|
 some (AV.new 1 zaF x0,[])))=some y):zhb a0 x0 x1=some y:=
 pt_of zT [] (by kernel_rfl) h
theorem zt0 (a0:GDistribution) {y:AV×Mem} (h:(
 chk (1=1)<|
 zhb a0 ([zaj 0]) 0)=some y):cw ziR [AV.agg (zae a0)] []=some y:=
 zai znQ zT [] rfl (by kernel_rfl) (by kernel_rfl) (by kernel_rfl) (by kernel_rfl) (by kernel_rfl) h
theorem zr6 (a0:List Int) (a1:Int) (a2:Int) (a3:Int) {y:AV×Mem} (h:(
 chk ((0:Int)≤(w64 ((↑(List.map zaj a0).length:Int) - 1)))<|
 elemD zay (List.map zaj a0) ((w64 ((↑(List.map zaj a0).length:Int) - 1)).toNat) fun (c0:Int) =>
 callD zg1 (cw ziv [I (w64 (w64 (2*a1) - 1)),I 2] []) fun (r1:GRatio×Int) =>
 brn (r1.snd != 0) (some (AV.tup [AV.agg (zaa (⟨0,0⟩)),I r1.snd],[]))
 (chk ((0:Int)≤a1)<|
 elemD zay (List.map zaj a0) a1.toNat fun (c2:Int) =>
 chk ((0:Int)≤(w64 (a1+1)))<|
 elemD zay (List.map zaj a0) ((w64 (a1+1)).toNat) fun (c3:Int) =>
 chk ((0:Int)≤a1)<|
 elemD zay (List.map zaj a0) a1.toNat fun (c4:Int) =>
 callD zg1 (cw ziv [I (w64 (w64 (a2*c0) - w64 (c2*a3))),I (w64 (a3*w64 (c3 - c4)))] []) fun (r5:GRatio×Int) =>
 brn (r5.snd != 0) (some (AV.tup [AV.agg (zaa (⟨0,0⟩)),I r5.snd],[]))
 (callD zgY (cw zcH [AV.agg (zaa r1.fst),AV.agg (zaa r5.fst)] []) fun (r6:GRatio×Int) =>
 some (AV.tup [AV.agg (zaa r6.fst),I r6.snd],[]))))=some y):cw zeF [AV.sl 1 (List.map zaj a0),I a1,I a2,I a3] []=some y:=
 zai zrK zT [] rfl (by kernel_rfl) (by kernel_rfl) (by kernel_rfl) (by kernel_rfl) (by kernel_rfl) h
theorem zwa (a0:GDistribution) {y:AV×Mem} (h:(
 callD zkr (cw zmz [AV.agg (zae a0),I ((↑(List.map zaj a0.Counts).length:Int))] []) fun (r0:Int) =>
 some (I r0,[]))=some y):cw zh9 [AV.agg (zae a0)] []=some y:=
 zai zwo zT [] rfl (by kernel_rfl) (by kernel_rfl) (by kernel_rfl) (by kernel_rfl) (by kernel_rfl) h
noncomputable def ziZ (a0:GDistribution) (a1:Int) (x0:Int) (x1:Int):Option (AV×Mem):=pt zp1 1 ⟨[(1,I a1),(2,AV.loc 2 1 0 0),(5,I x0),(6,I x1)],[(2,⟨1,zaG,[zae a0],true⟩)]⟩
theorem znU (a0:GDistribution) (a1:Int) (x0:Int) (x1:Int) {y:AV×Mem} (h:(
 brn (decide (x1 < (↑(List.map zaj a0.Counts).length:Int))) (brn (decide (x1 < a1)) (callD zfD (cw zgE [AV.agg (zae a0)] []) fun (r2:Bool) =>
 brn r2 (chk ((0:Int)≤x1)<|
 elemD zay (List.map zaj a0.Counts) x1.toNat fun (c3:Int) =>
 ziZ a0 a1 (w64 (x0+c3)) (w64 (x1+1)))
 (some (I x0,[])))
 (some (I x0,[])))
 (some (I x0,[])))=some y):ziZ a0 a1 x0 x1=some y:=
 pt_of zT [] (by kernel_rfl) h
theorem zv1 (a0:GDistribution) (a1:Int) {y:AV×Mem} (h:(
 ziZ a0 a1 0 0)=some y):cw zmz [AV.agg (zae a0),I a1] []=some y:=
 zai zp1 zT [] rfl (by kernel_rfl) (by kernel_rfl) (by kernel_rfl) (by kernel_rfl) (by kernel_rfl) h
theorem zx7 (a0:Int) (a1:Int) {y:AV×Mem} (h:(
 brn (a1 == 0) (some (AV.tup [AV.agg (zaa (⟨0,0⟩)),I 2],[]))
 (callD zaW (cw za1 [I a0] []) fun (r0:Int) =>
 callD zaW (cw za1 [I a1] []) fun (r1:Int) =>
 callD zeZ (cw zf8 [B (!decide (a0 < 0) == decide (a1 < 0)),AV.agg (zah (⟨0,r0⟩)),AV.agg (zah (⟨0,r1⟩))] []) fun (r2:GRatio×Int) =>
 some (AV.tup [AV.agg (zaa r2.fst),I r2.snd],[])))=some y):cw zl8 [I a0,I a1] []=some y:=
 zai zyO zT [] rfl (by kernel_rfl) (by kernel_rfl) (by kernel_rfl) (by kernel_rfl) (by kernel_rfl) h
noncomputable def zcY (a0:List GPoint) (x3:List (List AV)) (x4:GconversionSteps) (x5:GRatio) (x6:Int):Option (AV×Mem):=pt zmb 1 ⟨[(0,AV.sl 4 (List.map zak a0)),(4,AV.row 4 4 0 (List.length x3)),(5,AV.loc 5 1 0 0),(6,AV.loc 6 2 0 0),(7,I x6)],[(4,⟨4,za0,x3,false⟩),(5,⟨1,zap,[zaw x4],true⟩),(6,⟨2,zac,[zaa x5],true⟩)]⟩
theorem zem (a0:List GPoint) (x3:List (List AV)) (x4:GconversionSteps) (x5:GRatio) (x6:Int) {y:AV×Mem} (h:(
 brn (decide (w64 (x6+1) < (↑(List.map zak a0).length:Int))) (chk ((0:Int)≤x6)<|
 elemD zaB (List.map zak a0) x6.toNat fun (c7:GPoint) =>
 chk ((0:Int)≤(w64 (x6+1)))<|
 elemD zaB (List.map zak a0) ((w64 (x6+1)).toNat) fun (c8:GPoint) =>
 callD zcQ (cw zcm [AV.loc 1000 1 0 0,AV.agg (zak c7),AV.agg (zak c8)] [(1000,⟨1,zap,[zaw x4],true⟩)]) fun (r9:GRatio×GconversionSteps) =>
 brn (!(r9.fst.Num == x5.Num && (r9.fst.Den == x5.Den && true))) (chk ((0:Int)≤x6)<|
 elemD zaB (List.map zak a0) x6.toNat fun (c10:GPoint) =>
 chk (x3.length=x3.length)<|
 chk ((x3.length+1)*(32+1)≤1099511627776)<|
 chk ((x3++[[I c10.X.Num,I c10.X.Den,I c10.Y.Num,I c10.Y.Den]]).length=(x3++[[I c10.X.Num,I c10.X.Den,I c10.Y.Num,I c10.Y.Den]]).length)<|
 zcY a0 (x3++([zak c10])) r9.snd r9.fst (w64 (x6+1)))
 (zcY a0 x3 r9.snd r9.fst (w64 (x6+1))))
 (brn (x4.e != 0) (some (AV.tup [AV.sl 4 (List.map zak []),I x4.e],[]))
 (chk (0+x3.length≤x3.length)<|
 some (AV.tup [AV.sl 4 (List.take x3.length x3),I 0],[]))))=some y):zcY a0 x3 x4 x5 x6=some y:=
 pt_of zT [] (by kernel_rfl) h
theorem zmc (a0:List GPoint) {y:AV×Mem} (h:(
 chk ((0:Int)≤0)<|
 elemD zaB (List.map zak a0) (Int.toNat 0) fun (c0:GPoint) =>
 chk ((0:Int)≤1)<|
 elemD zaB (List.map zak a0) (Int.toNat 1) fun (c1:GPoint) =>
 callD zcQ (cw zcm [AV.loc 1000 1 0 0,AV.agg (zak c0),AV.agg (zak c1)] [(1000,⟨1,zap,[zaw ⟨0⟩],true⟩)]) fun (r2:GRatio×GconversionSteps) =>
 zcY a0 [] r2.snd r2.fst 1)=some y):cw zgV [AV.sl 4 (List.map zak a0)] []=some y:=
 zai zmb zT [] rfl (by kernel_rfl) (by kernel_rfl) (by kernel_rfl) (by kernel_rfl) (by kernel_rfl) h
theorem zfQ (a0:GconversionSteps) (a2:GRatio) (a3:GRatio) {y:AV×Mem} (h:(
 brn (a0.e != 0) (some (AV.agg (zaa (⟨0,0⟩)),[(1000,⟨1,zap,[zaw a0],true⟩)]))
 (callD zgY (cw zcH [AV.agg (zaa a2),AV.agg (zaa a3)] []) fun (r0:GRatio×Int) =>
 some (AV.agg (zaa r0.fst),[(1000,⟨1,zap,[zaw ⟨r0.snd⟩],true⟩)])))=some y):cw zan [AV.loc 1000 1 0 0,AV.fn zcH [],AV.agg (zaa a2),AV.agg (zaa a3)] [(1000,⟨1,zap,[zaw a0],true⟩)]=some y:=
 zai zfw zT [] rfl (by kernel_rfl) (by kernel_rfl) (by kernel_rfl) (by kernel_rfl) (by kernel_rfl) h
theorem zfS (a0:GconversionSteps) (a2:GRatio) (a3:GRatio) {y:AV×Mem} (h:(
 brn (a0.e != 0) (some (AV.agg (zaa (⟨0,0⟩)),[(1000,⟨1,zap,[zaw a0],true⟩)]))
 (callD zkc (cw zbD [AV.agg (zaa a2),AV.agg (zaa a3)] []) fun (r0:GRatio×Int) =>
 some (AV.agg (zaa r0.fst),[(1000,⟨1,zap,[zaw ⟨r0.snd⟩],true⟩)])))=some y):cw zan [AV.loc 1000 1 0 0,AV.fn zbD [],AV.agg (zaa a2),AV.agg (zaa a3)] [(1000,⟨1,zap,[zaw a0],true⟩)]=some y:=
 zai zfw zT [] rfl (by kernel_rfl) (by kernel_rfl) (by kernel_rfl) (by kernel_rfl) (by kernel_rfl) h
theorem zfP (a0:GconversionSteps) (a2:GRatio) (a3:GRatio) {y:AV×Mem} (h:(
 brn (a0.e != 0) (some (AV.agg (zaa (⟨0,0⟩)),[(1000,⟨1,zap,[zaw a0],true⟩)]))
 (callD zg6 (cw zda [AV.agg (zaa a2),AV.agg (zaa a3)] []) fun (r0:GRatio×Int) =>
 some (AV.agg (zaa r0.fst),[(1000,⟨1,zap,[zaw ⟨r0.snd⟩],true⟩)])))=some y):cw zan [AV.loc 1000 1 0 0,AV.fn zda [],AV.agg (zaa a2),AV.agg (zaa a3)] [(1000,⟨1,zap,[zaw a0],true⟩)]=some y:=
 zai zfw zT [] rfl (by kernel_rfl) (by kernel_rfl) (by kernel_rfl) (by kernel_rfl) (by kernel_rfl) h
theorem zfX (a0:GconversionSteps) (a2:GRatio) (a3:GRatio) {y:AV×Mem} (h:(
 brn (a0.e != 0) (some (AV.agg (zaa (⟨0,0⟩)),[(1000,⟨1,zap,[zaw a0],true⟩)]))
 (callD zf1 (cw zcV [AV.agg (zaa a2),AV.agg (zaa a3)] []) fun (r0:GRatio×Int) =>
 some (AV.agg (zaa r0.fst),[(1000,⟨1,zap,[zaw ⟨r0.snd⟩],true⟩)])))=some y):cw zan [AV.loc 1000 1 0 0,AV.fn zcV [],AV.agg (zaa a2),AV.agg (zaa a3)] [(1000,⟨1,zap,[zaw a0],true⟩)]=some y:=
 zai zfw zT [] rfl (by kernel_rfl) (by kernel_rfl) (by kernel_rfl) (by kernel_rfl) (by kernel_rfl) h
theorem zyH (a0:GRatio) (a1:GRatio) {y:AV×Mem} (h:(
 callD zbc (cw zbi [AV.agg (zaa a0)] []) fun (r0:Bool) =>
 brn (!r0) (some (AV.tup [AV.agg (zaa (⟨0,0⟩)),I 1],[]))
 (callD zbc (cw zbi [AV.agg (zaa a1)] []) fun (r1:Bool) =>
 brn (!r1) (some (AV.tup [AV.agg (zaa (⟨0,0⟩)),I 1],[]))
 (callD zgY (cw zcH [AV.agg (zaa a0),AV.agg (zaa (⟨w64 (0 - a1.Num),a1.Den⟩))] []) fun (r2:GRatio×Int) =>
 some (AV.tup [AV.agg (zaa r2.fst),I r2.snd],[]))))=some y):cw zbD [AV.agg (zaa a0),AV.agg (zaa a1)] []=some y:=
 zai zyX zT [] rfl (by kernel_rfl) (by kernel_rfl) (by kernel_rfl) (by kernel_rfl) (by kernel_rfl) h
theorem zlo (a0:List GPoint) (a1:GRatio) {y:AV×Mem} (h:(
 callD zbp (cw zbq [AV.sl 4 (List.map zak a0),AV.agg (zaa a1)] []) fun (r0:GRatio×Int) =>
 brn (r0.snd != 0) (some (AV.tup [AV.agg (zak (⟨⟨0,0⟩,⟨0,0⟩⟩)),I r0.snd],[]))
 (some (AV.tup [AV.agg (zak (⟨⟨a1.Num,a1.Den⟩,⟨r0.fst.Num,r0.fst.Den⟩⟩)),I 0],[])))=some y):cw zb6 [AV.sl 4 (List.map zak a0),AV.agg (zaa a1)] []=some y:=
 zai zpA zT [] rfl (by kernel_rfl) (by kernel_rfl) (by kernel_rfl) (by kernel_rfl) (by kernel_rfl) h
theorem zxn (a0:GRatio) (a1:GRatio) {y:AV×Mem} (h:(
 callD zaz (cw zad [AV.agg (zaa a0),AV.agg (zaa a1)] []) fun (r0:Int) =>
 some (B (r0 == -1),[]))=some y):cw zlg [AV.agg (zaa a0),AV.agg (zaa a1)] []=some y:=
 zai zwP zT [] rfl (by kernel_rfl) (by kernel_rfl) (by kernel_rfl) (by kernel_rfl) (by kernel_rfl) h
noncomputable def zeu (ax:GRatio) (al:List GPoint) (x0:Int) (x1:Int):Option (AV×Mem):=pt zp4 1 ⟨[(1,AV.fn zdf [AV.fp [I ax.Num,I ax.Den],AV.fp [AV.sl 4 (List.map zak al)]]),(5,I x0),(6,I x1)],[]⟩
theorem zh3 (ax:GRatio) (al:List GPoint) (x0:Int) (x1:Int) {y:AV×Mem} (h:(
 brn (decide (x0 < x1)) (chk ((0:Int)≤1)<|
 callD zgs (cw zdf [I (w64 ((wu64 (w64 (x0+x1))).fdiv (2 ^ Min.min (Int.toNat 1) 64))),AV.fp [I ax.Num,I ax.Den],AV.fp [AV.sl 4 (List.map zak al)]] []) fun (r2:Bool) =>
 brn (!r2) (zeu ax al (w64 (w64 ((wu64 (w64 (x0+x1))).fdiv (2 ^ Min.min (Int.toNat 1) 64))+1)) x1)
 (zeu ax al x0 (w64 ((wu64 (w64 (x0+x1))).fdiv (2 ^ Min.min (Int.toNat 1) 64)))))
 (some (I x0,[])))=some y):zeu ax al x0 x1=some y:=
 pt_of zT [] (by kernel_rfl) h
theorem zqF (a0:Int) (ax:GRatio) (al:List GPoint) {y:AV×Mem} (h:(
 zeu ax al 0 a0)=some y):cw zmo [I a0,AV.fn zdf [AV.fp [I ax.Num,I ax.Den],AV.fp [AV.sl 4 (List.map zak al)]]] []=some y:=
 zai zp4 zT [] rfl (by kernel_rfl) (by kernel_rfl) (by kernel_rfl) (by kernel_rfl) (by kernel_rfl) h
theorem zqs (a0:Int) (ax:GRatio) (al:List GPoint) {y:AV×Mem} (h:(
 chk ((0:Int)≤(w64 (a0+1)))<|
 elemD zaB (List.map zak al) ((w64 (a0+1)).toNat) fun (c0:GPoint) =>
 callD zaz (cw zad [AV.agg (zaa ax),AV.agg (zaa c0.X)] []) fun (r1:Int) =>
 some (B (decide (r1≤0)),[]))=some y):cw zdf [I a0,AV.fp [I ax.Num,I ax.Den],AV.fp [AV.sl 4 (List.map zak al)]] []=some y:=
 zai zqk zT [] rfl (by kernel_rfl) (by kernel_rfl) (by kernel_rfl) (by kernel_rfl) (by kernel_rfl) h
theorem zgg (a0:GconversionSteps) (a1:GPoint) (a2:GPoint) {y:AV×Mem} (h:(
 callD zav (cw zan [AV.loc 1000 1 0 0,AV.fn zbD [],AV.agg (zaa a2.Y),AV.agg (zaa a1.Y)] [(1000,⟨1,zap,[zaw a0],true⟩)]) fun (r0:GRatio×GconversionSteps) =>
 callD zav (cw zan [AV.loc 1000 1 0 0,AV.fn zbD [],AV.agg (zaa a2.X),AV.agg (zaa a1.X)] [(1000,⟨1,zap,[zaw r0.snd],true⟩)]) fun (r1:GRatio×GconversionSteps) =>
 callD zav (cw zan [AV.loc 1000 1 0 0,AV.fn zcV [],AV.agg (zaa r0.fst),AV.agg (zaa r1.fst)] [(1000,⟨1,zap,[zaw r1.snd],true⟩)]) fun (r2:GRatio×GconversionSteps) =>
 some (AV.agg (zaa r2.fst),[(1000,⟨1,zap,[zaw r2.snd],true⟩)]))=some y):cw zcm [AV.loc 1000 1 0 0,AV.agg (zak a1),AV.agg (zak a2)] [(1000,⟨1,zap,[zaw a0],true⟩)]=some y:=
 zai znu zT [] rfl (by kernel_rfl) (by kernel_rfl) (by kernel_rfl) (by kernel_rfl) (by kernel_rfl) h
theorem zyY (a0:GRatio) (a1:GRatio) {y:AV×Mem} (h:(
 callD zbc (cw zbi [AV.agg (zaa a0)] []) fun (r0:Bool) =>
 brn (!r0) (some (AV.tup [AV.agg (zaa (⟨0,0⟩)),I 1],[]))
 (callD zbc (cw zbi [AV.agg (zaa a1)] []) fun (r1:Bool) =>
 brn (!r1) (some (AV.tup [AV.agg (zaa (⟨0,0⟩)),I 1],[]))
 (callD zcu (cw zbU [I a0.Num] []) fun (r2:Int) =>
 callD zcu (cw zbU [I a1.Num] []) fun (r3:Int) =>
 callD zdV (cw zek [AV.v (.int .u64 r2),AV.v (.int .u64 (wu64 a1.Den))] []) fun (r4:Int) =>
 callD zdV (cw zek [AV.v (.int .u64 r3),AV.v (.int .u64 (wu64 a0.Den))] []) fun (r5:Int) =>
 chk ((r4:Int)≠0)<|
 chk ((r5:Int)≠0)<|
 callD zfs (cw zfz [AV.v (.int .u64 (wu64 (r2.tdiv r4))),AV.v (.int .u64 (wu64 (r3.tdiv r5)))] []) fun (r6:GratioWide) =>
 chk ((r5:Int)≠0)<|
 chk ((r4:Int)≠0)<|
 callD zfs (cw zfz [AV.v (.int .u64 (wu64 ((wu64 a0.Den).tdiv r5))),AV.v (.int .u64 (wu64 ((wu64 a1.Den).tdiv r4)))] []) fun (r7:GratioWide) =>
 callD zf5 (cw zhs [B (!decide (a0.Num < 0) == decide (a1.Num < 0)),AV.agg (zas r6),AV.agg (zas r7)] []) fun (r8:GRatio×Int) =>
 some (AV.tup [AV.agg (zaa r8.fst),I r8.snd],[]))))=some y):cw zda [AV.agg (zaa a0),AV.agg (zaa a1)] []=some y:=
 zai zy6 zT [] rfl (by kernel_rfl) (by kernel_rfl) (by kernel_rfl) (by kernel_rfl) (by kernel_rfl) h
end Go.Proofs.YtbhkcgaanaelfaaGreat
