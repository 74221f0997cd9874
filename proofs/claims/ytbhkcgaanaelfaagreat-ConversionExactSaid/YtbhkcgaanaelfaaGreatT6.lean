/- What the functions compute, between two cut points: printed by a program, checked by the kernel. -/
import Derived.Test.YtbhkcgaanaelfaaGreatAnn
namespace Go.Proofs.YtbhkcgaanaelfaaGreat
open Go.Ab
set_option maxRecDepth 100000
set_option linter.unusedVariables false
noncomputable def zc4 (a0:List GPoint) (x3:List (List AV)) (x4:GconversionSteps) (x5:GRatio) (x6:Int):Option (AV×Mem):=pt zlQ 1 ⟨[(0,AV.sl 4 (List.map zae a0)),(4,AV.row 4 4 0 (List.length x3)),(5,AV.loc 5 1 0 0),(6,AV.loc 6 2 0 0),(7,I x6)],[(4,⟨4,za0,x3,false⟩),(5,⟨1,zap,[zaw x4],true⟩),(6,⟨2,zac,[zaa x5],true⟩)]⟩
theorem zes (a0:List GPoint) (x3:List (List AV)) (x4:GconversionSteps) (x5:GRatio) (x6:Int) {y:AV×Mem} (h:(
 brn (decide (w64 (x6+1) < (↑(List.map zae a0).length:Int))) (chk ((0:Int)≤x6)<|
 elemD zaq (List.map zae a0) x6.toNat fun (c7:GPoint) =>
 chk ((0:Int)≤(w64 (x6+1)))<|
 elemD zaq (List.map zae a0) ((w64 (x6+1)).toNat) fun (c8:GPoint) =>
 callD zcV (cw zci [AV.loc 1000 1 0 0,AV.agg (zae c7),AV.agg (zae c8)] [(1000,⟨1,zap,[zaw x4],true⟩)]) fun (r9:GRatio×GconversionSteps) =>
 brn (!(r9.fst.Num == x5.Num && (r9.fst.Den == x5.Den && true))) (chk ((0:Int)≤x6)<|
 elemD zaq (List.map zae a0) x6.toNat fun (c10:GPoint) =>
 chk (x3.length=x3.length)<|
 chk ((x3.length+1)*(32+1)≤1099511627776)<|
 chk ((x3++[[I c10.X.Num,I c10.X.Den,I c10.Y.Num,I c10.Y.Den]]).length=(x3++[[I c10.X.Num,I c10.X.Den,I c10.Y.Num,I c10.Y.Den]]).length)<|
 zc4 a0 (x3++([zae c10])) r9.snd r9.fst (w64 (x6+1)))
 (zc4 a0 x3 r9.snd r9.fst (w64 (x6+1))))
 (brn (x4.e != 0) (some (AV.tup [AV.sl 4 (List.map zae []),I x4.e],[]))
 (chk (0+x3.length≤x3.length)<|
 some (AV.tup [AV.sl 4 (List.take x3.length x3),I 0],[]))))=some y):zc4 a0 x3 x4 x5 x6=some y:=
 pt_of zT [] (by kernel_rfl) h
theorem zlR (a0:List GPoint) {y:AV×Mem} (h:(
 chk ((0:Int)≤0)<|
 elemD zaq (List.map zae a0) (Int.toNat 0) fun (c0:GPoint) =>
 chk ((0:Int)≤1)<|
 elemD zaq (List.map zae a0) (Int.toNat 1) fun (c1:GPoint) =>
 callD zcV (cw zci [AV.loc 1000 1 0 0,AV.agg (zae c0),AV.agg (zae c1)] [(1000,⟨1,zap,[zaw ⟨0⟩],true⟩)]) fun (r2:GRatio×GconversionSteps) =>
 zc4 a0 [] r2.snd r2.fst 1)=some y):cw zgy [AV.sl 4 (List.map zae a0)] []=some y:=
 zaj zlQ zT [] rfl (by kernel_rfl) (by kernel_rfl) (by kernel_rfl) (by kernel_rfl) (by kernel_rfl) h
theorem zfO (a0:GconversionSteps) (a2:GRatio) (a3:GRatio) {y:AV×Mem} (h:(
 brn (a0.e != 0) (some (AV.agg (zaa (⟨0,0⟩)),[(1000,⟨1,zap,[zaw a0],true⟩)]))
 (callD zh1 (cw zcI [AV.agg (zaa a2),AV.agg (zaa a3)] []) fun (r0:GRatio×Int) =>
 some (AV.agg (zaa r0.fst),[(1000,⟨1,zap,[zaw ⟨r0.snd⟩],true⟩)])))=some y):cw zan [AV.loc 1000 1 0 0,AV.fn zcI [],AV.agg (zaa a2),AV.agg (zaa a3)] [(1000,⟨1,zap,[zaw a0],true⟩)]=some y:=
 zaj zfp zT [] rfl (by kernel_rfl) (by kernel_rfl) (by kernel_rfl) (by kernel_rfl) (by kernel_rfl) h
theorem zfI (a0:GconversionSteps) (a2:GRatio) (a3:GRatio) {y:AV×Mem} (h:(
 brn (a0.e != 0) (some (AV.agg (zaa (⟨0,0⟩)),[(1000,⟨1,zap,[zaw a0],true⟩)]))
 (callD zlI (cw zbW [AV.agg (zaa a2),AV.agg (zaa a3)] []) fun (r0:GRatio×Int) =>
 some (AV.agg (zaa r0.fst),[(1000,⟨1,zap,[zaw ⟨r0.snd⟩],true⟩)])))=some y):cw zan [AV.loc 1000 1 0 0,AV.fn zbW [],AV.agg (zaa a2),AV.agg (zaa a3)] [(1000,⟨1,zap,[zaw a0],true⟩)]=some y:=
 zaj zfp zT [] rfl (by kernel_rfl) (by kernel_rfl) (by kernel_rfl) (by kernel_rfl) (by kernel_rfl) h
theorem zfT (a0:GconversionSteps) (a2:GRatio) (a3:GRatio) {y:AV×Mem} (h:(
 brn (a0.e != 0) (some (AV.agg (zaa (⟨0,0⟩)),[(1000,⟨1,zap,[zaw a0],true⟩)]))
 (callD zh8 (cw zdH [AV.agg (zaa a2),AV.agg (zaa a3)] []) fun (r0:GRatio×Int) =>
 some (AV.agg (zaa r0.fst),[(1000,⟨1,zap,[zaw ⟨r0.snd⟩],true⟩)])))=some y):cw zan [AV.loc 1000 1 0 0,AV.fn zdH [],AV.agg (zaa a2),AV.agg (zaa a3)] [(1000,⟨1,zap,[zaw a0],true⟩)]=some y:=
 zaj zfp zT [] rfl (by kernel_rfl) (by kernel_rfl) (by kernel_rfl) (by kernel_rfl) (by kernel_rfl) h
theorem zfN (a0:GconversionSteps) (a2:GRatio) (a3:GRatio) {y:AV×Mem} (h:(
 brn (a0.e != 0) (some (AV.agg (zaa (⟨0,0⟩)),[(1000,⟨1,zap,[zaw a0],true⟩)]))
 (callD zlH (cw zer [AV.agg (zaa a2),AV.agg (zaa a3)] []) fun (r0:GRatio×Int) =>
 some (AV.agg (zaa r0.fst),[(1000,⟨1,zap,[zaw ⟨r0.snd⟩],true⟩)])))=some y):cw zan [AV.loc 1000 1 0 0,AV.fn zer [],AV.agg (zaa a2),AV.agg (zaa a3)] [(1000,⟨1,zap,[zaw a0],true⟩)]=some y:=
 zaj zfp zT [] rfl (by kernel_rfl) (by kernel_rfl) (by kernel_rfl) (by kernel_rfl) (by kernel_rfl) h
theorem zyw (a0:GRatio) (a1:GRatio) {y:AV×Mem} (h:(
 callD zbg (cw zbn [AV.agg (zaa a0)] []) fun (r0:Bool) =>
 brn (!r0) (some (AV.tup [AV.agg (zaa (⟨0,0⟩)),I 1],[]))
 (callD zbg (cw zbn [AV.agg (zaa a1)] []) fun (r1:Bool) =>
 brn (!r1) (some (AV.tup [AV.agg (zaa (⟨0,0⟩)),I 1],[]))
 (callD zh1 (cw zcI [AV.agg (zaa a0),AV.agg (zaa (⟨w64 (0 - a1.Num),a1.Den⟩))] []) fun (r2:GRatio×Int) =>
 some (AV.tup [AV.agg (zaa r2.fst),I r2.snd],[]))))=some y):cw zbW [AV.agg (zaa a0),AV.agg (zaa a1)] []=some y:=
 zaj zyj zT [] rfl (by kernel_rfl) (by kernel_rfl) (by kernel_rfl) (by kernel_rfl) (by kernel_rfl) h
theorem zk2 (a0:List GPoint) (a1:GRatio) {y:AV×Mem} (h:(
 callD zbs (cw zbu [AV.sl 4 (List.map zae a0),AV.agg (zaa a1)] []) fun (r0:GRatio×Int) =>
 brn (r0.snd != 0) (some (AV.tup [AV.agg (zae (⟨⟨0,0⟩,⟨0,0⟩⟩)),I r0.snd],[]))
 (some (AV.tup [AV.agg (zae (⟨⟨a1.Num,a1.Den⟩,⟨r0.fst.Num,r0.fst.Den⟩⟩)),I 0],[])))=some y):cw zb2 [AV.sl 4 (List.map zae a0),AV.agg (zaa a1)] []=some y:=
 zaj zo9 zT [] rfl (by kernel_rfl) (by kernel_rfl) (by kernel_rfl) (by kernel_rfl) (by kernel_rfl) h
theorem zp0 (a0:List GPoint) (a1:Int) {y:AV×Mem} (h:(
 chk ((0:Int)≤(w64 (a1+1)))<|
 elemD zaq (List.map zae a0) ((w64 (a1+1)).toNat) fun (c0:GPoint) =>
 chk ((0:Int)≤a1)<|
 elemD zaq (List.map zae a0) a1.toNat fun (c1:GPoint) =>
 callD zda (cw zdG [AV.agg (zaa c0.Y),AV.agg (zaa c1.Y)] []) fun (r2:GRatio×Int) =>
 chk ((0:Int)≤(w64 (a1+1)))<|
 elemD zaq (List.map zae a0) ((w64 (a1+1)).toNat) fun (c3:GPoint) =>
 chk ((0:Int)≤a1)<|
 elemD zaq (List.map zae a0) a1.toNat fun (c4:GPoint) =>
 callD zda (cw zdG [AV.agg (zaa c3.X),AV.agg (zaa c4.X)] []) fun (r5:GRatio×Int) =>
 brn (r2.snd != 0) (some (AV.tup [AV.agg (zaa (⟨0,0⟩)),B false],[]))
 (brn (r5.snd != 0) (some (AV.tup [AV.agg (zaa (⟨0,0⟩)),B false],[]))
 (callD zib (cw zjQ [AV.agg (zaa r2.fst),AV.agg (zaa r5.fst)] []) fun (r6:GRatio×Int) =>
 some (AV.tup [AV.agg (zaa r6.fst),B (r6.snd == 0)],[]))))=some y):cw zgs [AV.sl 4 (List.map zae a0),I a1] []=some y:=
 zaj zvt zT [] rfl (by kernel_rfl) (by kernel_rfl) (by kernel_rfl) (by kernel_rfl) (by kernel_rfl) h
theorem zrb (a0:GRatio) (a1:Int) {y:AV×Mem} (h:(
 callD zd4 (cw zeq [AV.agg (zaa a0),AV.agg (zaa (⟨a1,1⟩))] []) fun (r0:GRatio×Int) =>
 some (AV.tup [AV.agg (zaa r0.fst),B (r0.snd == 0)],[]))=some y):cw ziV [AV.agg (zaa a0),I a1] []=some y:=
 zaj zw1 zT [] rfl (by kernel_rfl) (by kernel_rfl) (by kernel_rfl) (by kernel_rfl) (by kernel_rfl) h
theorem zxO (a0:GRatio) (a1:GRatio) {y:AV×Mem} (h:(
 callD zaB (cw zag [AV.agg (zaa a0),AV.agg (zaa a1)] []) fun (r0:Int) =>
 some (B (r0 == -1),[]))=some y):cw zk3 [AV.agg (zaa a0),AV.agg (zaa a1)] []=some y:=
 zaj zwI zT [] rfl (by kernel_rfl) (by kernel_rfl) (by kernel_rfl) (by kernel_rfl) (by kernel_rfl) h
noncomputable def zeA (ax:GRatio) (al:List GPoint) (x0:Int) (x1:Int):Option (AV×Mem):=pt zp8 1 ⟨[(1,AV.fn zdi [AV.fp [I ax.Num,I ax.Den],AV.fp [AV.sl 4 (List.map zae al)]]),(5,I x0),(6,I x1)],[]⟩
theorem zhF (ax:GRatio) (al:List GPoint) (x0:Int) (x1:Int) {y:AV×Mem} (h:(
 brn (decide (x0 < x1)) (chk ((0:Int)≤1)<|
 callD zgk (cw zdi [I (w64 ((wu64 (w64 (x0+x1))).fdiv (2 ^ Min.min (Int.toNat 1) 64))),AV.fp [I ax.Num,I ax.Den],AV.fp [AV.sl 4 (List.map zae al)]] []) fun (r2:Bool) =>
 brn (!r2) (zeA ax al (w64 (w64 ((wu64 (w64 (x0+x1))).fdiv (2 ^ Min.min (Int.toNat 1) 64))+1)) x1)
 (zeA ax al x0 (w64 ((wu64 (w64 (x0+x1))).fdiv (2 ^ Min.min (Int.toNat 1) 64)))))
 (some (I x0,[])))=some y):zeA ax al x0 x1=some y:=
 pt_of zT [] (by kernel_rfl) h
theorem zq7 (a0:Int) (ax:GRatio) (al:List GPoint) {y:AV×Mem} (h:(
 zeA ax al 0 a0)=some y):cw zmi [I a0,AV.fn zdi [AV.fp [I ax.Num,I ax.Den],AV.fp [AV.sl 4 (List.map zae al)]]] []=some y:=
 zaj zp8 zT [] rfl (by kernel_rfl) (by kernel_rfl) (by kernel_rfl) (by kernel_rfl) (by kernel_rfl) h
theorem zqf (a0:Int) (ax:GRatio) (al:List GPoint) {y:AV×Mem} (h:(
 chk ((0:Int)≤(w64 (a0+1)))<|
 elemD zaq (List.map zae al) ((w64 (a0+1)).toNat) fun (c0:GPoint) =>
 callD zaB (cw zag [AV.agg (zaa ax),AV.agg (zaa c0.X)] []) fun (r1:Int) =>
 some (B (decide (r1≤0)),[]))=some y):cw zdi [I a0,AV.fp [I ax.Num,I ax.Den],AV.fp [AV.sl 4 (List.map zae al)]] []=some y:=
 zaj zqs zT [] rfl (by kernel_rfl) (by kernel_rfl) (by kernel_rfl) (by kernel_rfl) (by kernel_rfl) h
theorem zgd (a0:GconversionSteps) (a1:GPoint) (a2:GPoint) {y:AV×Mem} (h:(
 callD zav (cw zan [AV.loc 1000 1 0 0,AV.fn zbW [],AV.agg (zaa a2.Y),AV.agg (zaa a1.Y)] [(1000,⟨1,zap,[zaw a0],true⟩)]) fun (r0:GRatio×GconversionSteps) =>
 callD zav (cw zan [AV.loc 1000 1 0 0,AV.fn zbW [],AV.agg (zaa a2.X),AV.agg (zaa a1.X)] [(1000,⟨1,zap,[zaw r0.snd],true⟩)]) fun (r1:GRatio×GconversionSteps) =>
 callD zav (cw zan [AV.loc 1000 1 0 0,AV.fn zer [],AV.agg (zaa r0.fst),AV.agg (zaa r1.fst)] [(1000,⟨1,zap,[zaw r1.snd],true⟩)]) fun (r2:GRatio×GconversionSteps) =>
 some (AV.agg (zaa r2.fst),[(1000,⟨1,zap,[zaw r2.snd],true⟩)]))=some y):cw zci [AV.loc 1000 1 0 0,AV.agg (zae a1),AV.agg (zae a2)] [(1000,⟨1,zap,[zaw a0],true⟩)]=some y:=
 zaj zmZ zT [] rfl (by kernel_rfl) (by kernel_rfl) (by kernel_rfl) (by kernel_rfl) (by kernel_rfl) h
theorem zyH (a0:GRatio) (a1:GRatio) {y:AV×Mem} (h:(
 callD zbg (cw zbn [AV.agg (zaa a0)] []) fun (r0:Bool) =>
 brn (!r0) (some (AV.tup [AV.agg (zaa (⟨0,0⟩)),I 1],[]))
 (callD zbg (cw zbn [AV.agg (zaa a1)] []) fun (r1:Bool) =>
 brn (!r1) (some (AV.tup [AV.agg (zaa (⟨0,0⟩)),I 1],[]))
 (callD zdg (cw zdO [I a0.Num] []) fun (r2:Int) =>
 callD zdg (cw zdO [I a1.Num] []) fun (r3:Int) =>
 callD zep (cw zfV [AV.v (.int .u64 r2),AV.v (.int .u64 (wu64 a1.Den))] []) fun (r4:Int) =>
 callD zep (cw zfV [AV.v (.int .u64 r3),AV.v (.int .u64 (wu64 a0.Den))] []) fun (r5:Int) =>
 chk ((r4:Int)≠0)<|
 chk ((r5:Int)≠0)<|
 callD zdW (cw zfo [AV.v (.int .u64 (wu64 (r2.tdiv r4))),AV.v (.int .u64 (wu64 (r3.tdiv r5)))] []) fun (r6:GratioWide) =>
 chk ((r5:Int)≠0)<|
 chk ((r4:Int)≠0)<|
 callD zdW (cw zfo [AV.v (.int .u64 (wu64 ((wu64 a0.Den).tdiv r5))),AV.v (.int .u64 (wu64 ((wu64 a1.Den).tdiv r4)))] []) fun (r7:GratioWide) =>
 callD zhg (cw zjm [B (!decide (a0.Num < 0) == decide (a1.Num < 0)),AV.agg (zax r6),AV.agg (zax r7)] []) fun (r8:GRatio×Int) =>
 some (AV.tup [AV.agg (zaa r8.fst),I r8.snd],[]))))=some y):cw zdH [AV.agg (zaa a0),AV.agg (zaa a1)] []=some y:=
 zaj zys zT [] rfl (by kernel_rfl) (by kernel_rfl) (by kernel_rfl) (by kernel_rfl) (by kernel_rfl) h
end Go.Proofs.YtbhkcgaanaelfaaGreat
