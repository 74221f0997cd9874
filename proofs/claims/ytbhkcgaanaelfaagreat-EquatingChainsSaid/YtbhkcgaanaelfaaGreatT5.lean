/- What the functions compute, between two cut points: printed by a program, checked by the kernel. -/
import Derived.Test.YtbhkcgaanaelfaaGreatAnn
namespace Go.Proofs.YtbhkcgaanaelfaaGreat
open Go.Ab
set_option maxRecDepth 100000
set_option linter.unusedVariables false
noncomputable def zcs (a0:List GRatio) (x0:Int):Option (AV×Mem):=pt zdq 1 ⟨[(0,AV.row 1000 2 0 (List.length (List.map zaa a0))),(3,I x0)],[(1000,⟨2,zac,List.map zaa a0,false⟩)]⟩
noncomputable def zbv (a0:List GRatio) (x0:Int) (x3:List (List AV)) (x4:Int) (x5:Int):Option (AV×Mem):=pt zdq 2 ⟨[(0,AV.row 1000 2 0 ((List.map zaa a0).length)),(3,I x4),(4,AV.row 1000 2 (0+x0.toNat) ((List.map zaa a0).length - x0.toNat)),(5,I x5)],[(1000,⟨2,zac,x3,false⟩)]⟩
theorem zdg (a0:List GRatio) (x0:Int) {y:AV×Mem} (h:(
 brn (decide (x0 < (↑(List.map zaa a0).length:Int))) (chk ((0:Int)≤x0)<|
 chk ((x0:Int) < ((↑(List.map zaa a0).length:Int)))<|
 elemD zab (List.map zaa a0) (0+x0.toNat) fun (c1:GRatio) =>
 chk ((0:Int)≤(w64 (x0 - 1)))<|
 chk ((w64 (x0 - 1):Int) < ((↑(List.map zaa a0).length:Int)))<|
 elemD zab (List.map zaa a0) (0+(w64 (x0 - 1)).toNat) fun (c2:GRatio) =>
 brn (c1.Num == c2.Num && (c1.Den == c2.Den && true)) (chk ((0:Int)≤x0)<|
 chk (x0.toNat≤(List.map zaa a0).length)<|
 chk ((List.map zaa a0).length≤(List.map zaa a0).length)<|
 zbv a0 x0 (List.map zaa a0) x0 1)
 (zcs a0 (w64 (x0+1))))
 (some (AV.row 1000 2 0 ((List.map zaa a0).length),[(1000,⟨2,zac,List.map zaa a0,false⟩)])))=some y):zcs a0 x0=some y:=
 pt_of zT [] (by kernel_rfl) h
theorem zde (a0:List GRatio) (x0:Int) (x3:List (List AV)) (x4:Int) (x5:Int) {y:AV×Mem} (h:(
 brn (decide (x5 < (↑((List.map zaa a0).length - x0.toNat):Int))) (chk ((0:Int)≤x5)<|
 chk ((x5:Int) < ((↑((List.map zaa a0).length - x0.toNat):Int)))<|
 elemD zab x3 (0+x0.toNat+x5.toNat) fun (c6:GRatio) =>
 chk ((0:Int)≤(w64 (x5 - 1)))<|
 chk ((w64 (x5 - 1):Int) < ((↑((List.map zaa a0).length - x0.toNat):Int)))<|
 elemD zab x3 (0+x0.toNat+(w64 (x5 - 1)).toNat) fun (c7:GRatio) =>
 brn (!(c6.Num == c7.Num && (c6.Den == c7.Den && true))) (chk ((0:Int)≤x5)<|
 chk ((x5:Int) < ((↑((List.map zaa a0).length - x0.toNat):Int)))<|
 elemD zab x3 (0+x0.toNat+x5.toNat) fun (c8:GRatio) =>
 chk ((0:Int)≤x4)<|
 chk ((x4:Int) < ((↑(List.map zaa a0).length:Int)))<|
 elemD zab x3 (0+x4.toNat) fun (c9:GRatio) =>
 zbv a0 x0 (List.set x3 (0+x4.toNat) (zaa c8)) (w64 (x4+1)) (w64 (x5+1)))
 (zbv a0 x0 x3 x4 (w64 (x5+1))))
 (chk ((0:Int)≤x4)<|
 chk (x4.toNat≤(List.map zaa a0).length)<|
 chk ((List.map zaa a0).length≤(List.map zaa a0).length)<|
 chk (0+x4.toNat+((List.map zaa a0).length - x4.toNat)≤x3.length)<|
 chk ((0:Int)≤x4)<|
 chk (0≤x4.toNat)<|
 chk (x4.toNat≤(List.map zaa a0).length)<|
 some (AV.row 1000 2 (0+0) (x4.toNat - 0),[(1000,⟨2,zac,((List.take (0+x4.toNat) x3)++(List.replicate ((List.map zaa a0).length - x4.toNat) (zaa (⟨0,0⟩))))++(List.drop (0+x4.toNat+((List.map zaa a0).length - x4.toNat)) x3),false⟩)])))=some y):zbv a0 x0 x3 x4 x5=some y:=
 pt_of zT [] (by kernel_rfl) h
theorem zfp (a0:List GRatio) {y:AV×Mem} (h:(
 brn (decide ((↑(List.map zaa a0).length:Int) < 2)) (some (AV.row 1000 2 0 ((List.map zaa a0).length),[(1000,⟨2,zac,List.map zaa a0,false⟩)]))
 (zcs a0 1))=some y):cw zbG [AV.row 1000 2 0 (List.length (List.map zaa a0))] [(1000,⟨2,zac,List.map zaa a0,false⟩)]=some y:=
 zai zdq zT [] rfl (by kernel_rfl) (by kernel_rfl) (by kernel_rfl) (by kernel_rfl) (by kernel_rfl) h
theorem zqf (a0:GRatio) {y:AV×Mem} (h:(
 brn (decide (a0.Den < 1)) (some (B false,[]))
 (brn (decide (1152921504606846976 < a0.Den)) (some (B false,[]))
 (brn (decide (a0.Num < -1152921504606846976)) (some (B false,[]))
 (brn (decide (1152921504606846976 < a0.Num)) (some (B false,[]))
 (callD zcu (cw zbU [I a0.Num] []) fun (r0:Int) =>
 callD zdV (cw zek [AV.v (.int .u64 r0),AV.v (.int .u64 (wu64 a0.Den))] []) fun (r1:Int) =>
 some (B (r1 == 1),[]))))))=some y):cw zbi [AV.agg (zaa a0)] []=some y:=
 zai zvH zT [] rfl (by kernel_rfl) (by kernel_rfl) (by kernel_rfl) (by kernel_rfl) (by kernel_rfl) h
theorem zwv (a0:GRatio) {y:AV×Mem} (h:(
 brn (decide (a0.Den < 1)) (some (B false,[]))
 (brn (decide (1152921504606846976 < a0.Den)) (some (B false,[]))
 (brn (decide (a0.Num < -1152921504606846976)) (some (B false,[]))
 (brn (decide (1152921504606846976 < a0.Num)) (some (B false,[]))
 (callD zaW (cw za1 [I a0.Num] []) fun (r0:Int) =>
 callD zaW (cw za1 [I a0.Den] []) fun (r1:Int) =>
 callD zgN (cw zi1 [AV.agg (zah (⟨0,r0⟩)),AV.agg (zah (⟨0,r1⟩))] []) fun (r2:Gref01Wide) =>
 some (B (r2.Hi == 0 && (r2.Lo == 1 && true)),[]))))))=some y):cw zbO [AV.agg (zaa a0)] []=some y:=
 zai zvI zT [] rfl (by kernel_rfl) (by kernel_rfl) (by kernel_rfl) (by kernel_rfl) (by kernel_rfl) h
theorem zrm (a0:Int) {y:AV×Mem} (h:(
 some (AV.agg (zaa (⟨a0,1⟩)),[]))=some y):cw zcW [I a0] []=some y:=
 zai zq8 zT [] rfl (by kernel_rfl) (by kernel_rfl) (by kernel_rfl) (by kernel_rfl) (by kernel_rfl) h
theorem zyV (a0:GRatio) (a1:GRatio) {y:AV×Mem} (h:(
 callD zbc (cw zbi [AV.agg (zaa a0)] []) fun (r0:Bool) =>
 brn (!r0) (some (AV.tup [AV.agg (zaa (⟨0,0⟩)),I 1],[]))
 (callD zbc (cw zbi [AV.agg (zaa a1)] []) fun (r1:Bool) =>
 brn (!r1) (some (AV.tup [AV.agg (zaa (⟨0,0⟩)),I 1],[]))
 (callD zdV (cw zek [AV.v (.int .u64 (wu64 a0.Den)),AV.v (.int .u64 (wu64 a1.Den))] []) fun (r2:Int) =>
 chk ((r2:Int)≠0)<|
 callD zdn (cw zdp [I a0.Num,AV.v (.int .u64 (wu64 ((wu64 a1.Den).tdiv r2)))] []) fun (r3:GratioSigned) =>
 chk ((r2:Int)≠0)<|
 callD zdn (cw zdp [I a1.Num,AV.v (.int .u64 (wu64 ((wu64 a0.Den).tdiv r2)))] []) fun (r4:GratioSigned) =>
 callD zgr (cw ziK [AV.agg (zbP r3),AV.agg (zbP r4)] []) fun (r5:GratioSigned) =>
 callD zgi (cw zhR [AV.agg (zas r5.abs),AV.v (.int .u64 r2)] []) fun (r6:Int) =>
 callD zdV (cw zek [AV.v (.int .u64 r6),AV.v (.int .u64 r2)] []) fun (r7:Int) =>
 callD zfE (cw zhe [AV.agg (zas r5.abs),AV.v (.int .u64 r7)] []) fun (r8:GratioWide) =>
 chk ((r2:Int)≠0)<|
 chk ((r7:Int)≠0)<|
 callD zfs (cw zfz [AV.v (.int .u64 (wu64 ((wu64 a0.Den).tdiv r2))),AV.v (.int .u64 (wu64 ((wu64 a1.Den).tdiv r7)))] []) fun (r9:GratioWide) =>
 callD zf5 (cw zhs [B r5.neg,AV.agg (zas r8),AV.agg (zas r9)] []) fun (r10:GRatio×Int) =>
 some (AV.tup [AV.agg (zaa r10.fst),I r10.snd],[]))))=some y):cw zcH [AV.agg (zaa a0),AV.agg (zaa a1)] []=some y:=
 zai zyA zT [] rfl (by kernel_rfl) (by kernel_rfl) (by kernel_rfl) (by kernel_rfl) (by kernel_rfl) h
theorem zya (a0:GRatio) (a1:GRatio) {y:AV×Mem} (h:(
 callD zbQ (cw zbO [AV.agg (zaa a0)] []) fun (r0:Bool) =>
 brn (!r0) (some (AV.tup [AV.agg (zaa (⟨0,0⟩)),I 1],[]))
 (callD zbQ (cw zbO [AV.agg (zaa a1)] []) fun (r1:Bool) =>
 brn (!r1) (some (AV.tup [AV.agg (zaa (⟨0,0⟩)),I 1],[]))
 (callD zaW (cw za1 [I a0.Num] []) fun (r2:Int) =>
 callD zaW (cw za1 [I a1.Den] []) fun (r3:Int) =>
 callD zcg (cw zcF [AV.v (.int .u64 r2),AV.v (.int .u64 r3)] []) fun (r4:Gref01Wide) =>
 callD zaW (cw za1 [I a1.Num] []) fun (r5:Int) =>
 callD zaW (cw za1 [I a0.Den] []) fun (r6:Int) =>
 callD zcg (cw zcF [AV.v (.int .u64 r5),AV.v (.int .u64 r6)] []) fun (r7:Gref01Wide) =>
 callD zii (cw zkw [B (decide (a0.Num < 0)),AV.agg (zah r4),B (decide (a1.Num < 0)),AV.agg (zah r7)] []) fun (r8:Bool×Gref01Wide) =>
 callD zaW (cw za1 [I a0.Den] []) fun (r9:Int) =>
 callD zaW (cw za1 [I a1.Den] []) fun (r10:Int) =>
 callD zcg (cw zcF [AV.v (.int .u64 r9),AV.v (.int .u64 r10)] []) fun (r11:Gref01Wide) =>
 callD zeZ (cw zf8 [B r8.fst,AV.agg (zah r8.snd),AV.agg (zah r11)] []) fun (r12:GRatio×Int) =>
 some (AV.tup [AV.agg (zaa r12.fst),I r12.snd],[]))))=some y):cw zl3 [AV.agg (zaa a0),AV.agg (zaa a1)] []=some y:=
 zai zx5 zT [] rfl (by kernel_rfl) (by kernel_rfl) (by kernel_rfl) (by kernel_rfl) (by kernel_rfl) h
theorem ztI (a0:GRatio) (a1:GRatio) {y:AV×Mem} (h:(
 callD zbQ (cw zbO [AV.agg (zaa a0)] []) fun (r0:Bool) =>
 brn (!r0) (some (I 0,[]))
 (callD zbQ (cw zbO [AV.agg (zaa a1)] []) fun (r1:Bool) =>
 brn (!r1) (some (I 0,[]))
 (callD zaW (cw za1 [I a0.Num] []) fun (r2:Int) =>
 callD zaW (cw za1 [I a1.Den] []) fun (r3:Int) =>
 callD zcg (cw zcF [AV.v (.int .u64 r2),AV.v (.int .u64 r3)] []) fun (r4:Gref01Wide) =>
 callD zaW (cw za1 [I a1.Num] []) fun (r5:Int) =>
 callD zaW (cw za1 [I a0.Den] []) fun (r6:Int) =>
 callD zcg (cw zcF [AV.v (.int .u64 r5),AV.v (.int .u64 r6)] []) fun (r7:Gref01Wide) =>
 callD zii (cw zkw [B (decide (a0.Num < 0)),AV.agg (zah r4),B (decide (0 < a1.Num)),AV.agg (zah r7)] []) fun (r8:Bool×Gref01Wide) =>
 brn (r8.snd.Hi == 0 && (r8.snd.Lo == 0 && true)) (some (I 0,[]))
 (brn r8.fst (some (I (-1),[]))
 (some (I 1,[]))))))=some y):cw zln [AV.agg (zaa a0),AV.agg (zaa a1)] []=some y:=
 zai ztG zT [] rfl (by kernel_rfl) (by kernel_rfl) (by kernel_rfl) (by kernel_rfl) (by kernel_rfl) h
theorem zpk (a0:GDistribution) (a1:GDistribution) {y:AV×Mem} (h:(
 callD zbm (cw zbC [AV.agg (zae a0)] []) fun (r0:Bool) =>
 brn (!r0) (some (AV.tup [AV.agg (zaa (⟨0,0⟩)),AV.agg (zaa (⟨0,0⟩)),I 1],[]))
 (callD zbm (cw zbC [AV.agg (zae a1)] []) fun (r1:Bool) =>
 brn (!r1) (some (AV.tup [AV.agg (zaa (⟨0,0⟩)),AV.agg (zaa (⟨0,0⟩)),I 1],[]))
 (callD zcE (cw zc1 [AV.agg (zae a0)] []) fun (r2:Int) =>
 brn (r2 == 0) (some (AV.tup [AV.agg (zaa (⟨0,0⟩)),AV.agg (zaa (⟨0,0⟩)),I 10],[]))
 (callD zcE (cw zc1 [AV.agg (zae a1)] []) fun (r3:Int) =>
 brn (r3 == 0) (some (AV.tup [AV.agg (zaa (⟨0,0⟩)),AV.agg (zaa (⟨0,0⟩)),I 10],[]))
 (callD zeS (cw zcL [AV.agg (zae a0)] []) fun (r4:GRatio×Int) =>
 brn (r4.snd != 0) (some (AV.tup [AV.agg (zaa (⟨0,0⟩)),AV.agg (zaa (⟨0,0⟩)),I r4.snd],[]))
 (callD zeS (cw zcL [AV.agg (zae a1)] []) fun (r5:GRatio×Int) =>
 brn (r5.snd != 0) (some (AV.tup [AV.agg (zaa (⟨0,0⟩)),AV.agg (zaa (⟨0,0⟩)),I r5.snd],[]))
 (some (AV.tup [AV.agg (zaa r4.fst),AV.agg (zaa r5.fst),I 0],[]))))))))=some y):cw zet [AV.agg (zae a0),AV.agg (zae a1),AV.fn zcL []] []=some y:=
 zai zn7 zT [] rfl (by kernel_rfl) (by kernel_rfl) (by kernel_rfl) (by kernel_rfl) (by kernel_rfl) h
theorem zmW (a0:GDistribution) (a1:GDistribution) {y:AV×Mem} (h:(
 callD zbm (cw zbC [AV.agg (zae a0)] []) fun (r0:Bool) =>
 brn (!r0) (some (AV.tup [AV.agg (zaa (⟨0,0⟩)),AV.agg (zaa (⟨0,0⟩)),I 1],[]))
 (callD zbm (cw zbC [AV.agg (zae a1)] []) fun (r1:Bool) =>
 brn (!r1) (some (AV.tup [AV.agg (zaa (⟨0,0⟩)),AV.agg (zaa (⟨0,0⟩)),I 1],[]))
 (callD zcE (cw zc1 [AV.agg (zae a0)] []) fun (r2:Int) =>
 brn (r2 == 0) (some (AV.tup [AV.agg (zaa (⟨0,0⟩)),AV.agg (zaa (⟨0,0⟩)),I 10],[]))
 (callD zcE (cw zc1 [AV.agg (zae a1)] []) fun (r3:Int) =>
 brn (r3 == 0) (some (AV.tup [AV.agg (zaa (⟨0,0⟩)),AV.agg (zaa (⟨0,0⟩)),I 10],[]))
 (callD zdy (cw zck [AV.agg (zae a0)] []) fun (r4:GRatio×Int) =>
 brn (r4.snd != 0) (some (AV.tup [AV.agg (zaa (⟨0,0⟩)),AV.agg (zaa (⟨0,0⟩)),I r4.snd],[]))
 (callD zdy (cw zck [AV.agg (zae a1)] []) fun (r5:GRatio×Int) =>
 brn (r5.snd != 0) (some (AV.tup [AV.agg (zaa (⟨0,0⟩)),AV.agg (zaa (⟨0,0⟩)),I r5.snd],[]))
 (some (AV.tup [AV.agg (zaa r4.fst),AV.agg (zaa r5.fst),I 0],[]))))))))=some y):cw zet [AV.agg (zae a0),AV.agg (zae a1),AV.fn zck []] []=some y:=
 zai zn7 zT [] rfl (by kernel_rfl) (by kernel_rfl) (by kernel_rfl) (by kernel_rfl) (by kernel_rfl) h
theorem zqt (a0:GDistribution) {y:AV×Mem} (h:(
 callD zep (cw zf0 [AV.agg (zae a0)] []) fun (r0:Int×Int) =>
 brn (r0.snd != 0) (some (AV.tup [AV.agg (zaa (⟨0,0⟩)),I r0.snd],[]))
 (callD zc4 (cw zdZ [AV.agg (zae a0)] []) fun (r1:Int) =>
 callD zg1 (cw ziv [I r1,I r0.fst] []) fun (r2:GRatio×Int) =>
 some (AV.tup [AV.agg (zaa r2.fst),I r2.snd],[])))=some y):cw zcL [AV.agg (zae a0)] []=some y:=
 zai zqg zT [] rfl (by kernel_rfl) (by kernel_rfl) (by kernel_rfl) (by kernel_rfl) (by kernel_rfl) h
theorem zfo (a0:GRatio) (a1:GRatio) (a2:GRatio) {y:AV×Mem} (h:(
 callD zg6 (cw zda [AV.agg (zaa a0),AV.agg (zaa a1)] []) fun (r0:GRatio×Int) =>
 brn (r0.snd != 0) (some (AV.tup [AV.agg (zao ⟨[]⟩),I r0.snd],[]))
 (callD zkc (cw zbD [AV.agg (zaa a2),AV.agg (zaa r0.fst)] []) fun (r1:GRatio×Int) =>
 brn (r1.snd != 0) (some (AV.tup [AV.agg (zao ⟨[]⟩),I r1.snd],[]))
 (callD zha (cw zfJ [AV.agg (zaa a0),AV.agg (zaa r1.fst)] []) fun (r2:GCurve×Int) =>
 some (AV.tup [AV.agg (zao r2.fst),I r2.snd],[]))))=some y):cw zb8 [AV.agg (zaa a0),AV.agg (zaa a1),AV.agg (zaa a2)] []=some y:=
 zai zqG zT [] rfl (by kernel_rfl) (by kernel_rfl) (by kernel_rfl) (by kernel_rfl) (by kernel_rfl) h
noncomputable def ziS (a0:GDistribution) (x0:Int) (x1:Int):Option (AV×Mem):=pt zp5 1 ⟨[(1,AV.loc 1 1 0 0),(3,I x0),(4,I x1)],[(1,⟨1,zaG,[zae a0],true⟩)]⟩
theorem zn9 (a0:GDistribution) (x0:Int) (x1:Int) {y:AV×Mem} (h:(
 brn (decide (x1 < (↑(List.map zaj a0.Counts).length:Int))) (chk ((0:Int)≤x1)<|
 elemD zay (List.map zaj a0.Counts) x1.toNat fun (c2:Int) =>
 brn (decide (c2 < 0)) (some (B false,[]))
 (chk ((0:Int)≤x1)<|
 elemD zay (List.map zaj a0.Counts) x1.toNat fun (c3:Int) =>
 brn (decide (w64 (1048576 - x0) < c3)) (some (B false,[]))
 (chk ((0:Int)≤x1)<|
 elemD zay (List.map zaj a0.Counts) x1.toNat fun (c4:Int) =>
 ziS a0 (w64 (x0+c4)) (w64 (x1+1)))))
 (some (B true,[])))=some y):ziS a0 x0 x1=some y:=
 pt_of zT [] (by kernel_rfl) h
theorem zvw (a0:GDistribution) {y:AV×Mem} (h:(
 brn (decide ((↑(List.map zaj a0.Counts).length:Int) < 1)) (some (B false,[]))
 (brn (decide (201 < (↑(List.map zaj a0.Counts).length:Int))) (some (B false,[]))
 (ziS a0 0 0)))=some y):cw zgE [AV.agg (zae a0)] []=some y:=
 zai zp5 zT [] rfl (by kernel_rfl) (by kernel_rfl) (by kernel_rfl) (by kernel_rfl) (by kernel_rfl) h
theorem zrh (a0:GDistribution) {y:AV×Mem} (h:(
 callD zie (cw zky [AV.agg (zae a0)] []) fun (r0:Int) =>
 brn (r0 != 0) (some (AV.tup [AV.agg (zaa (⟨0,0⟩)),I r0],[]))
 (callD zj9 (cw zlY [AV.agg (zae a0)] []) fun (r1:Int) =>
 callD zgA (cw zh9 [AV.agg (zae a0)] []) fun (r2:Int) =>
 callD zj4 (cw zl8 [I r1,I r2] []) fun (r3:GRatio×Int) =>
 some (AV.tup [AV.agg (zaa r3.fst),I r3.snd],[])))=some y):cw zfl [AV.agg (zae a0)] []=some y:=
 zai zwR zT [] rfl (by kernel_rfl) (by kernel_rfl) (by kernel_rfl) (by kernel_rfl) (by kernel_rfl) h
theorem zla (a0:GRatio) (a1:GRatio) (a2:GRatio) {y:AV×Mem} (h:(
 callD zl6 (cw zl5 [AV.agg (zaa a0),AV.agg (zaa a1)] []) fun (r0:GRatio×Int) =>
 brn (r0.snd != 0) (some (AV.tup [AV.agg (zao ⟨[]⟩),I r0.snd],[]))
 (callD zlV (cw zoh [AV.agg (zaa a2),AV.agg (zaa r0.fst)] []) fun (r1:GRatio×Int) =>
 brn (r1.snd != 0) (some (AV.tup [AV.agg (zao ⟨[]⟩),I r1.snd],[]))
 (callD zlc (cw zns [AV.agg (zaa a0),AV.agg (zaa r1.fst)] []) fun (r2:GCurve×Int) =>
 some (AV.tup [AV.agg (zao r2.fst),I r2.snd],[]))))=some y):cw zgI [AV.agg (zaa a0),AV.agg (zaa a1),AV.agg (zaa a2)] []=some y:=
 zai zui zT [] rfl (by kernel_rfl) (by kernel_rfl) (by kernel_rfl) (by kernel_rfl) (by kernel_rfl) h
noncomputable def zd1 (a0:GDistribution) (r0:Int×Int) (r1:Int) (x2:Int) (x3:Int):Option (AV×Mem):=pt zjv 1 ⟨[(2,AV.loc 2 2 0 0),(4,I r0.fst),(6,I r1),(7,I x2),(23,AV.sl 1 (List.map zaj a0.Counts)),(24,I ((↑(List.map zaj a0.Counts).length:Int))),(25,I x3)],[(2,⟨2,zac,[zaa (⟨0,0⟩)],true⟩)]⟩
theorem zh7 (a0:GDistribution) (r0:Int×Int) (r1:Int) (x2:Int) (x3:Int) {y:AV×Mem} (h:(
 brn (decide (x3 < (↑(List.map zaj a0.Counts).length:Int))) (chk ((0:Int)≤x3)<|
 elemD zay (List.map zaj a0.Counts) x3.toNat fun (c4:Int) =>
 zd1 a0 r0 r1 (w64 (x2+w64 (c4*if w64 (0 - w64 (w64 (x3*r0.fst) - r1)) > w64 (w64 (x3*r0.fst) - r1) then w64 (0 - w64 (w64 (x3*r0.fst) - r1)) else w64 (w64 (x3*r0.fst) - r1)))) (w64 (x3+1)))
 (callD zg1 (cw ziv [I x2,I (w64 (r0.fst*r0.fst))] []) fun (r5:GRatio×Int) =>
 some (AV.tup [AV.agg (zaa r5.fst),I r5.snd],[])))=some y):zd1 a0 r0 r1 x2 x3=some y:=
 pt_of zT [] (by kernel_rfl) h
theorem znq (a0:GDistribution) {y:AV×Mem} (h:(
 callD zep (cw zf0 [AV.agg (zae a0)] []) fun (r0:Int×Int) =>
 brn (r0.snd != 0) (some (AV.tup [AV.agg (zaa (⟨0,0⟩)),I r0.snd],[]))
 (callD zc4 (cw zdZ [AV.agg (zae a0)] []) fun (r1:Int) =>
 zd1 a0 r0 r1 0 0))=some y):cw zck [AV.agg (zae a0)] []=some y:=
 zai zjv zT [] rfl (by kernel_rfl) (by kernel_rfl) (by kernel_rfl) (by kernel_rfl) (by kernel_rfl) h
theorem zx9 (a0:GRatio) (a1:GRatio) {y:AV×Mem} (h:(
 callD zbc (cw zbi [AV.agg (zaa a0)] []) fun (r0:Bool) =>
 brn (!r0) (some (AV.tup [AV.agg (zaa (⟨0,0⟩)),I 1],[]))
 (callD zbc (cw zbi [AV.agg (zaa a1)] []) fun (r1:Bool) =>
 brn (!r1) (some (AV.tup [AV.agg (zaa (⟨0,0⟩)),I 1],[]))
 (brn (a1.Num == 0) (some (AV.tup [AV.agg (zaa (⟨0,0⟩)),I 2],[]))
 (brn (decide (a1.Num < 0)) (callD zg6 (cw zda [AV.agg (zaa a0),AV.agg (zaa (⟨w64 (0 - a1.Den),w64 (0 - a1.Num)⟩))] []) fun (r2:GRatio×Int) =>
 some (AV.tup [AV.agg (zaa r2.fst),I r2.snd],[]))
 (callD zg6 (cw zda [AV.agg (zaa a0),AV.agg (zaa (⟨a1.Den,a1.Num⟩))] []) fun (r3:GRatio×Int) =>
 some (AV.tup [AV.agg (zaa r3.fst),I r3.snd],[]))))))=some y):cw zcV [AV.agg (zaa a0),AV.agg (zaa a1)] []=some y:=
 zai zyW zT [] rfl (by kernel_rfl) (by kernel_rfl) (by kernel_rfl) (by kernel_rfl) (by kernel_rfl) h
noncomputable def zgn (a0:GDistribution) (r1:Int) (r2:Int) (x3:Int) (x4:Int):Option (AV×Mem):=pt zmH 1 ⟨[(1,AV.loc 1 1 0 0),(2,AV.loc 2 2 0 0),(5,I r1),(6,I r2),(7,I x3),(8,I x4)],[(1,⟨1,zaG,[zae a0],true⟩),(2,⟨2,zac,[zaa (⟨0,0⟩)],true⟩)]⟩
theorem zlB (a0:GDistribution) (r1:Int) (r2:Int) (x3:Int) (x4:Int) {y:AV×Mem} (h:(
 brn (decide (x4 < (↑(List.map zaj a0.Counts).length:Int))) (chk ((0:Int)≤x4)<|
 elemD zay (List.map zaj a0.Counts) x4.toNat fun (c5:Int) =>
 zgn a0 r1 r2 (w64 (x3+w64 (c5*if w64 (0 - w64 (w64 (x4*r1) - r2)) > w64 (w64 (x4*r1) - r2) then w64 (0 - w64 (w64 (x4*r1) - r2)) else w64 (w64 (x4*r1) - r2)))) (w64 (x4+1)))
 (callD zj4 (cw zl8 [I x3,I (w64 (r1*r1))] []) fun (r6:GRatio×Int) =>
 some (AV.tup [AV.agg (zaa r6.fst),I r6.snd],[])))=some y):zgn a0 r1 r2 x3 x4=some y:=
 pt_of zT [] (by kernel_rfl) h
theorem zry (a0:GDistribution) {y:AV×Mem} (h:(
 callD zie (cw zky [AV.agg (zae a0)] []) fun (r0:Int) =>
 brn (r0 != 0) (some (AV.tup [AV.agg (zaa (⟨0,0⟩)),I r0],[]))
 (callD zgA (cw zh9 [AV.agg (zae a0)] []) fun (r1:Int) =>
 callD zj9 (cw zlY [AV.agg (zae a0)] []) fun (r2:Int) =>
 zgn a0 r1 r2 0 0))=some y):cw zhi [AV.agg (zae a0)] []=some y:=
 zai zmH zT [] rfl (by kernel_rfl) (by kernel_rfl) (by kernel_rfl) (by kernel_rfl) (by kernel_rfl) h
theorem zyU (a0:GRatio) (a1:GRatio) {y:AV×Mem} (h:(
 callD zbQ (cw zbO [AV.agg (zaa a0)] []) fun (r0:Bool) =>
 brn (!r0) (some (AV.tup [AV.agg (zaa (⟨0,0⟩)),I 1],[]))
 (callD zbQ (cw zbO [AV.agg (zaa a1)] []) fun (r1:Bool) =>
 brn (!r1) (some (AV.tup [AV.agg (zaa (⟨0,0⟩)),I 1],[]))
 (brn (a1.Num == 0) (some (AV.tup [AV.agg (zaa (⟨0,0⟩)),I 2],[]))
 (callD zaW (cw za1 [I a0.Num] []) fun (r2:Int) =>
 callD zaW (cw za1 [I a1.Den] []) fun (r3:Int) =>
 callD zcg (cw zcF [AV.v (.int .u64 r2),AV.v (.int .u64 r3)] []) fun (r4:Gref01Wide) =>
 callD zaW (cw za1 [I a0.Den] []) fun (r5:Int) =>
 callD zaW (cw za1 [I a1.Num] []) fun (r6:Int) =>
 callD zcg (cw zcF [AV.v (.int .u64 r5),AV.v (.int .u64 r6)] []) fun (r7:Gref01Wide) =>
 callD zeZ (cw zf8 [B (!decide (a0.Num < 0) == decide (a1.Num < 0)),AV.agg (zah r4),AV.agg (zah r7)] []) fun (r8:GRatio×Int) =>
 some (AV.tup [AV.agg (zaa r8.fst),I r8.snd],[])))))=some y):cw zl7 [AV.agg (zaa a0),AV.agg (zaa a1)] []=some y:=
 zai zyR zT [] rfl (by kernel_rfl) (by kernel_rfl) (by kernel_rfl) (by kernel_rfl) (by kernel_rfl) h
noncomputable def ze6 (a0:GDistribution) (x0:Int) (x1:Int):Option (AV×Mem):=pt zlu 1 ⟨[(3,I x0),(17,AV.sl 1 (List.map zaj a0.Counts)),(18,I ((↑(List.map zaj a0.Counts).length:Int))),(19,I x1)],[]⟩
theorem zko (a0:GDistribution) (x0:Int) (x1:Int) {y:AV×Mem} (h:(
 brn (decide (x1 < (↑(List.map zaj a0.Counts).length:Int))) (chk ((0:Int)≤x1)<|
 elemD zay (List.map zaj a0.Counts) x1.toNat fun (c2:Int) =>
 brn (decide (c2 < 0)) (some (B false,[]))
 (brn (decide (1048576 < c2)) (some (B false,[]))
 (ze6 a0 (w64 (x0+c2)) (w64 (x1+1)))))
 (some (B (decide (x0≤1048576)),[])))=some y):ze6 a0 x0 x1=some y:=
 pt_of zT [] (by kernel_rfl) h
theorem zpq (a0:GDistribution) {y:AV×Mem} (h:(
 brn (decide ((↑(List.map zaj a0.Counts).length:Int) < 1)) (some (B false,[]))
 (brn (decide (201 < (↑(List.map zaj a0.Counts).length:Int))) (some (B false,[]))
 (ze6 a0 0 0)))=some y):cw zbC [AV.agg (zae a0)] []=some y:=
 zai zlu zT [] rfl (by kernel_rfl) (by kernel_rfl) (by kernel_rfl) (by kernel_rfl) (by kernel_rfl) h
theorem zmQ (a0:List Int) (a1:Int) {y:AV×Mem} (h:(
 callD zfc (cw zkf [AV.sl 1 (List.map zaj a0),I a1] []) fun (r0:Int) =>
 some (B (decide (0≤r0)),[]))=some y):cw zeg [AV.sl 1 (List.map zaj a0),I a1] []=some y:=
 zai zm0 zT [] rfl (by kernel_rfl) (by kernel_rfl) (by kernel_rfl) (by kernel_rfl) (by kernel_rfl) h
end Go.Proofs.YtbhkcgaanaelfaaGreat
