/- What the functions compute, between two cut points: printed by a program, checked by the kernel. -/
import Derived.Test.YtbhkcgaanaelfaaGreatAnn
namespace Go.Proofs.YtbhkcgaanaelfaaGreat
open Go.Ab
set_option maxRecDepth 100000
set_option linter.unusedVariables false
theorem zlM (a0:Int) (a1:GDistribution) (a2:GDistribution) {y:AV×Mem} (h:(
 brn (a0 == 0) (callD zlg (cw zoa [AV.agg (zab a1),AV.agg (zab a2)] []) fun (r0:GCurve×Int) =>
 some (AV.tup [AV.agg (zak r0.fst),I r0.snd],[]))
 (brn (a0 == 1) (callD ziQ (cw zi2 [AV.agg (zab a1),AV.agg (zab a2)] []) fun (r1:GCurve×Int) =>
 some (AV.tup [AV.agg (zak r1.fst),I r1.snd],[]))
 (brn (a0 == 2) (callD zf6 (cw zf4 [AV.agg (zab a1),AV.agg (zab a2)] []) fun (r2:GCurve×Int) =>
 some (AV.tup [AV.agg (zak r2.fst),I r2.snd],[]))
 (some (AV.tup [AV.agg (zak ⟨[]⟩),I 2],[])))))=some y):cw ziN [I a0,AV.agg (zab a1),AV.agg (zab a2)] []=some y:=
 zaj zyE zT [] rfl (by kernel_rfl) (by kernel_rfl) (by kernel_rfl) (by kernel_rfl) (by kernel_rfl) h
theorem zpM (a0:GDistribution) (a1:GDistribution) (a2:GDistribution) (a3:GDistribution) (a4:Int) {y:AV×Mem} (h:(
 callD zg9 (cw ziN [I a4,AV.agg (zab a0),AV.agg (zab a1)] []) fun (r0:GCurve×Int) =>
 brn (r0.snd != 0) (some (AV.tup [AV.agg (zak ⟨[]⟩),I r0.snd],[]))
 (callD zg9 (cw ziN [I a4,AV.agg (zab a2),AV.agg (zab a3)] []) fun (r1:GCurve×Int) =>
 brn (r1.snd != 0) (some (AV.tup [AV.agg (zak ⟨[]⟩),I r1.snd],[]))
 (callD zkL (cw znW [AV.agg (zak r0.fst),AV.agg (zak r1.fst)] []) fun (r2:GCurve×Int) =>
 some (AV.tup [AV.agg (zak r2.fst),I r2.snd],[]))))=some y):cw zpz [AV.agg (zab a0),AV.agg (zab a1),AV.agg (zab a2),AV.agg (zab a3),I a4] []=some y:=
 zaj zz3 zT [] rfl (by kernel_rfl) (by kernel_rfl) (by kernel_rfl) (by kernel_rfl) (by kernel_rfl) h
theorem zgg (a0:GDistribution) (a1:GDistribution) {y:AV×Mem} (h:(
 callD zgo (cw zfj [AV.agg (zab a0),AV.agg (zab a1),AV.fn zcU []] []) fun (r0:GRatio×GRatio×Int) =>
 brn (r0.snd.snd != 0) (some (AV.tup [AV.agg (zak ⟨[]⟩),I r0.snd.snd],[]))
 (callD zc9 (cw zc7 [AV.agg (zaa (⟨1,1⟩)),AV.agg (zaa r0.fst),AV.agg (zaa r0.snd.fst)] []) fun (r1:GCurve×Int) =>
 some (AV.tup [AV.agg (zak r1.fst),I r1.snd],[])))=some y):cw ze6 [AV.agg (zab a0),AV.agg (zab a1)] []=some y:=
 zaj zxz zT [] rfl (by kernel_rfl) (by kernel_rfl) (by kernel_rfl) (by kernel_rfl) (by kernel_rfl) h
theorem zlu (a0:GDistribution) (a1:GDistribution) {y:AV×Mem} (h:(
 callD zcZ (cw zdh [AV.agg (zab a0)] []) fun (r0:Bool) =>
 brn (!r0) (some (AV.tup [AV.agg (zak ⟨[]⟩),I 1],[]))
 (callD zcZ (cw zdh [AV.agg (zab a1)] []) fun (r1:Bool) =>
 brn (!r1) (some (AV.tup [AV.agg (zak ⟨[]⟩),I 1],[]))
 (callD zhe (cw zez [AV.agg (zab a0)] []) fun (r2:GRatio×Int) =>
 callD zhe (cw zez [AV.agg (zab a1)] []) fun (r3:GRatio×Int) =>
 brn (r2.snd != 0) (some (AV.tup [AV.agg (zak ⟨[]⟩),I 10],[]))
 (brn (r3.snd != 0) (some (AV.tup [AV.agg (zak ⟨[]⟩),I 10],[]))
 (callD zeq (cw zfq [AV.agg (zaa (⟨1,1⟩)),AV.agg (zaa r2.fst),AV.agg (zaa r3.fst)] []) fun (r4:GCurve×Int) =>
 some (AV.tup [AV.agg (zak r4.fst),I r4.snd],[]))))))=some y):cw zoa [AV.agg (zab a0),AV.agg (zab a1)] []=some y:=
 zaj zA5 zT [] rfl (by kernel_rfl) (by kernel_rfl) (by kernel_rfl) (by kernel_rfl) (by kernel_rfl) h
theorem zdt (a0:GDistribution) (a1:GDistribution) {y:AV×Mem} (h:(
 callD zgo (cw zfj [AV.agg (zab a0),AV.agg (zab a1),AV.fn zcn []] []) fun (r0:GRatio×GRatio×Int) =>
 brn (r0.snd.snd != 0) (some (AV.tup [AV.agg (zak ⟨[]⟩),I r0.snd.snd],[]))
 (brn (r0.fst.Num == 0) (some (AV.tup [AV.agg (zak ⟨[]⟩),I 10],[]))
 (brn (r0.snd.fst.Num == 0) (some (AV.tup [AV.agg (zak ⟨[]⟩),I 10],[]))
 (callD zgo (cw zfj [AV.agg (zab a0),AV.agg (zab a1),AV.fn zcU []] []) fun (r1:GRatio×GRatio×Int) =>
 brn (r1.snd.snd != 0) (some (AV.tup [AV.agg (zak ⟨[]⟩),I r1.snd.snd],[]))
 (callD zic (cw zdn [AV.agg (zaa r0.snd.fst),AV.agg (zaa r0.fst)] []) fun (r2:GRatio×Int) =>
 brn (r2.snd != 0) (some (AV.tup [AV.agg (zak ⟨[]⟩),I r2.snd],[]))
 (callD zc9 (cw zc7 [AV.agg (zaa r2.fst),AV.agg (zaa r1.fst),AV.agg (zaa r1.snd.fst)] []) fun (r3:GCurve×Int) =>
 some (AV.tup [AV.agg (zak r3.fst),I r3.snd],[])))))))=some y):cw ziA [AV.agg (zab a0),AV.agg (zab a1)] []=some y:=
 zaj zvW zT [] rfl (by kernel_rfl) (by kernel_rfl) (by kernel_rfl) (by kernel_rfl) (by kernel_rfl) h
theorem zi1 (a0:GDistribution) (a1:GDistribution) {y:AV×Mem} (h:(
 callD zcZ (cw zdh [AV.agg (zab a0)] []) fun (r0:Bool) =>
 brn (!r0) (some (AV.tup [AV.agg (zak ⟨[]⟩),I 1],[]))
 (callD zcZ (cw zdh [AV.agg (zab a1)] []) fun (r1:Bool) =>
 brn (!r1) (some (AV.tup [AV.agg (zak ⟨[]⟩),I 1],[]))
 (callD zhe (cw zez [AV.agg (zab a0)] []) fun (r2:GRatio×Int) =>
 callD zhe (cw zez [AV.agg (zab a1)] []) fun (r3:GRatio×Int) =>
 brn (r2.snd != 0) (some (AV.tup [AV.agg (zak ⟨[]⟩),I 10],[]))
 (brn (r3.snd != 0) (some (AV.tup [AV.agg (zak ⟨[]⟩),I 10],[]))
 (callD zgx (cw ziv [AV.agg (zab a0)] []) fun (r4:GRatio×Int) =>
 callD zgx (cw ziv [AV.agg (zab a1)] []) fun (r5:GRatio×Int) =>
 brn (r4.snd != 0) (some (AV.tup [AV.agg (zak ⟨[]⟩),I 6],[]))
 (brn (r5.snd != 0) (some (AV.tup [AV.agg (zak ⟨[]⟩),I 6],[]))
 (brn (r4.fst.Num == 0) (some (AV.tup [AV.agg (zak ⟨[]⟩),I 10],[]))
 (brn (r5.fst.Num == 0) (some (AV.tup [AV.agg (zak ⟨[]⟩),I 10],[]))
 (callD zg2 (cw ziq [AV.agg (zaa r5.fst),AV.agg (zaa r4.fst)] []) fun (r6:GRatio×Int) =>
 brn (r6.snd != 0) (some (AV.tup [AV.agg (zak ⟨[]⟩),I r6.snd],[]))
 (callD zeq (cw zfq [AV.agg (zaa r6.fst),AV.agg (zaa r2.fst),AV.agg (zaa r3.fst)] []) fun (r7:GCurve×Int) =>
 some (AV.tup [AV.agg (zak r7.fst),I r7.snd],[])))))))))))=some y):cw zi2 [AV.agg (zab a0),AV.agg (zab a1)] []=some y:=
 zaj zyM zT [] rfl (by kernel_rfl) (by kernel_rfl) (by kernel_rfl) (by kernel_rfl) (by kernel_rfl) h
noncomputable def zee (a0:GDistribution) (a1:GDistribution) (r4:(List Int)) (r5:(List Int)) (c6:Int) (c7:Int) (x8:List (List AV)) (x9:Int) (x10:Int):Option (AV×Mem):=pt zcy 1 ⟨[(2,AV.loc 2 1 0 0),(3,AV.loc 3 1 0 0),(4,AV.loc 4 1 0 0),(6,AV.row 40 1 0 (List.length (List.map zai r4))),(7,AV.row 42 1 0 (List.length (List.map zai r5))),(8,I c6),(9,I c7),(11,AV.row 11 4 0 (List.length x8)),(12,I x9),(13,I x10)],[(2,⟨1,zan,[zab a0],true⟩),(3,⟨1,zan,[zab a1],true⟩),(4,⟨1,zay,[[AV.v (.slice none 0 0)]],true⟩),(11,⟨4,zaC,x8,false⟩),(40,⟨1,zaJ,List.map zai r4,false⟩),(42,⟨1,zaJ,List.map zai r5,false⟩)]⟩
noncomputable def zeF (a0:GDistribution) (a1:GDistribution) (r4:(List Int)) (r5:(List Int)) (c6:Int) (c7:Int) (x10:Int) (x15:List (List AV)) (x16:Int) (x17:Int) (x18:Int) (x19:Int):Option (AV×Mem):=pt zcy 1015 ⟨[(2,AV.loc 2 1 0 0),(3,AV.loc 3 1 0 0),(4,AV.loc 4 1 0 0),(6,AV.row 40 1 0 (List.length (List.map zai r4))),(7,AV.row 42 1 0 (List.length (List.map zai r5))),(8,I c6),(9,I c7),(11,AV.row 11 4 0 (List.length x15)),(12,I x16),(13,I x10),(14,I x17),(15,I x18),(16,I x19),(17,I c7)],[(2,⟨1,zan,[zab a0],true⟩),(3,⟨1,zan,[zab a1],true⟩),(4,⟨1,zay,[[AV.v (.slice none 0 0)]],true⟩),(11,⟨4,zaC,x15,false⟩),(40,⟨1,zaJ,List.map zai r4,false⟩),(42,⟨1,zaJ,List.map zai r5,false⟩)]⟩
noncomputable def zeb (a0:GDistribution) (a1:GDistribution) (r4:(List Int)) (r5:(List Int)) (c6:Int) (c7:Int) (x10:Int) (x20:List (List AV)) (x21:Int) (x22:Int) (x23:Int) (x24:Int):Option (AV×Mem):=pt zcy 1015 ⟨[(2,AV.loc 2 1 0 0),(3,AV.loc 3 1 0 0),(4,AV.loc 4 1 0 0),(6,AV.row 40 1 0 (List.length (List.map zai r4))),(7,AV.row 42 1 0 (List.length (List.map zai r5))),(8,I c6),(9,I c7),(11,AV.row 11 4 0 (List.length x20)),(12,I x21),(13,I x10),(14,I x22),(15,I x23),(16,I x24),(17,I c6),(94,B false)],[(2,⟨1,zan,[zab a0],true⟩),(3,⟨1,zan,[zab a1],true⟩),(4,⟨1,zay,[[AV.v (.slice none 0 0)]],true⟩),(11,⟨4,zaC,x20,false⟩),(40,⟨1,zaJ,List.map zai r4,false⟩),(42,⟨1,zaJ,List.map zai r5,false⟩)]⟩
noncomputable def zcI (a0:GDistribution) (a1:GDistribution) (r4:(List Int)) (r5:(List Int)) (c6:Int) (c7:Int) (x10:Int) (x25:List (List AV)) (x26:Int):Option (AV×Mem):=pt zcy 1026 ⟨[(2,AV.loc 2 1 0 0),(3,AV.loc 3 1 0 0),(4,AV.loc 4 1 0 0),(6,AV.row 40 1 0 (List.length (List.map zai r4))),(7,AV.row 42 1 0 (List.length (List.map zai r5))),(8,I c6),(9,I c7),(11,AV.row 11 4 0 (List.length x25)),(12,I x26),(13,I x10),(71,B false)],[(2,⟨1,zan,[zab a0],true⟩),(3,⟨1,zan,[zab a1],true⟩),(4,⟨1,zay,[[AV.v (.slice none 0 0)]],true⟩),(11,⟨4,zaC,x25,false⟩),(40,⟨1,zaJ,List.map zai r4,false⟩),(42,⟨1,zaJ,List.map zai r5,false⟩)]⟩
noncomputable def zdk (a0:GDistribution) (a1:GDistribution) (r4:(List Int)) (r5:(List Int)) (c6:Int) (c7:Int) (x10:Int) (x29:List (List AV)) (x30:Int) (x31:Int) (x32:Int):Option (AV×Mem):=pt zcy 1024 ⟨[(2,AV.loc 2 1 0 0),(3,AV.loc 3 1 0 0),(4,AV.loc 4 1 0 0),(6,AV.row 40 1 0 (List.length (List.map zai r4))),(7,AV.row 42 1 0 (List.length (List.map zai r5))),(8,I c6),(9,I c7),(11,AV.row 11 4 0 (List.length x29)),(12,I x30),(13,I x10),(14,I x31),(15,I x32)],[(2,⟨1,zan,[zab a0],true⟩),(3,⟨1,zan,[zab a1],true⟩),(4,⟨1,zay,[[AV.v (.slice none 0 0)]],true⟩),(11,⟨4,zaC,x29,false⟩),(40,⟨1,zaJ,List.map zai r4,false⟩),(42,⟨1,zaJ,List.map zai r5,false⟩)]⟩
noncomputable def zc3 (a0:GDistribution) (a1:GDistribution) (r4:(List Int)) (r5:(List Int)) (c6:Int) (c7:Int) (x10:Int) (x33:List (List AV)) (x34:Int) (x35:Int) (x36:Int):Option (AV×Mem):=pt zcy 1024 ⟨[(2,AV.loc 2 1 0 0),(3,AV.loc 3 1 0 0),(4,AV.loc 4 1 0 0),(6,AV.row 40 1 0 (List.length (List.map zai r4))),(7,AV.row 42 1 0 (List.length (List.map zai r5))),(8,I c6),(9,I c7),(11,AV.row 11 4 0 (List.length x33)),(12,I x34),(13,I x10),(14,I x35),(15,I x36),(133,B false)],[(2,⟨1,zan,[zab a0],true⟩),(3,⟨1,zan,[zab a1],true⟩),(4,⟨1,zay,[[AV.v (.slice none 0 0)]],true⟩),(11,⟨4,zaC,x33,false⟩),(40,⟨1,zaJ,List.map zai r4,false⟩),(42,⟨1,zaJ,List.map zai r5,false⟩)]⟩
noncomputable def ze1 (a0:GDistribution) (a1:GDistribution) (r4:(List Int)) (r5:(List Int)) (c6:Int) (c7:Int) (x10:Int) (x40:List (List AV)) (x41:Int):Option (AV×Mem):=pt zcy 1 ⟨[(2,AV.loc 2 1 0 0),(3,AV.loc 3 1 0 0),(4,AV.loc 4 1 0 0),(6,AV.row 40 1 0 (List.length (List.map zai r4))),(7,AV.row 42 1 0 (List.length (List.map zai r5))),(8,I c6),(9,I c7),(11,AV.row 11 4 0 (List.length x40)),(12,I x41),(13,I x10),(138,B false)],[(2,⟨1,zan,[zab a0],true⟩),(3,⟨1,zan,[zab a1],true⟩),(4,⟨1,zay,[[AV.v (.slice none 0 0)]],true⟩),(11,⟨4,zaC,x40,false⟩),(40,⟨1,zaJ,List.map zai r4,false⟩),(42,⟨1,zaJ,List.map zai r5,false⟩)]⟩
theorem zhA (a0:GDistribution) (a1:GDistribution) (r4:(List Int)) (r5:(List Int)) (c6:Int) (c7:Int) (x8:List (List AV)) (x9:Int) (x10:Int) {y:AV×Mem} (h:(
 brn (decide (x9 < (↑(List.map zai a0.Counts).length:Int))) (brn (decide (x10 < (↑(List.map zai a1.Counts).length:Int))) (chk ((0:Int)≤(w64 (x9+1)))<|
 chk ((w64 (x9+1):Int) < ((↑(List.map zai r4).length:Int)))<|
 elemD zaw (List.map zai r4) (0+(w64 (x9+1)).toNat) fun (c11:Int) =>
 chk ((0:Int)≤(w64 (x10+1)))<|
 chk ((w64 (x10+1):Int) < ((↑(List.map zai r5).length:Int)))<|
 elemD zaw (List.map zai r5) (0+(w64 (x10+1)).toNat) fun (c12:Int) =>
 chk ((0:Int)≤(w64 (x9+1)))<|
 chk ((w64 (x9+1):Int) < ((↑(List.map zai r4).length:Int)))<|
 elemD zaw (List.map zai r4) (0+(w64 (x9+1)).toNat) fun (c13:Int) =>
 brn (decide (w64 (c12*c6) < w64 (c11*c7))) (chk ((0:Int)≤(w64 (x10+1)))<|
 chk ((w64 (x10+1):Int) < ((↑(List.map zai r5).length:Int)))<|
 elemD zaw (List.map zai r5) (0+(w64 (x10+1)).toNat) fun (c14:Int) =>
 zeF a0 a1 r4 r5 c6 c7 x10 x8 x9 (w64 (c11*c7)) (w64 (c12*c6)) c14)
 (zeb a0 a1 r4 r5 c6 c7 x10 x8 x9 (w64 (c11*c7)) (w64 (c12*c6)) c13))
 (zcI a0 a1 r4 r5 c6 c7 x10 x8 x9))
 (zcI a0 a1 r4 r5 c6 c7 x10 x8 x9))=some y):zee a0 a1 r4 r5 c6 c7 x8 x9 x10=some y:=
 pt_of zT [26,24,15] (by kernel_rfl) h
theorem zpN (a0:GDistribution) (a1:GDistribution) (r4:(List Int)) (r5:(List Int)) (c6:Int) (c7:Int) (x10:Int) (x15:List (List AV)) (x16:Int) (x17:Int) (x18:Int) (x19:Int) {y:AV×Mem} (h:(
 chk (0+(List.map zai r4).length≤(List.map zai r4).length)<|
 callD zen (cw zft [AV.sl 1 (List.take ((List.map zai r4).length) (List.map zai r4)),I x16,I x19,I c7] []) fun (r27:GRatio×Int) =>
 brn (r27.snd != 0) (some (AV.tup [AV.agg (zak ⟨[]⟩),I r27.snd],[]))
 (chk (0+(List.map zai r5).length≤(List.map zai r5).length)<|
 callD zen (cw zft [AV.sl 1 (List.take ((List.map zai r5).length) (List.map zai r5)),I x10,I x19,I c7] []) fun (r28:GRatio×Int) =>
 brn (r28.snd != 0) (some (AV.tup [AV.agg (zak ⟨[]⟩),I r28.snd],[]))
 (chk (x15.length=x15.length)<|
 chk ((x15.length+1)*(32+1)≤1099511627776)<|
 chk ((x15++[[I r27.fst.Num,I r27.fst.Den,I r28.fst.Num,I r28.fst.Den]]).length=(x15++[[I r27.fst.Num,I r27.fst.Den,I r28.fst.Num,I r28.fst.Den]]).length)<|
 brn (decide (x17≤x18)) (zdk a0 a1 r4 r5 c6 c7 x10 (x15++([zag (⟨⟨r27.fst.Num,r27.fst.Den⟩,⟨r28.fst.Num,r28.fst.Den⟩⟩)])) (w64 (x16+1)) x17 x18)
 (zc3 a0 a1 r4 r5 c6 c7 x10 (x15++([zag (⟨⟨r27.fst.Num,r27.fst.Den⟩,⟨r28.fst.Num,r28.fst.Den⟩⟩)])) x16 x17 x18))))=some y):zeF a0 a1 r4 r5 c6 c7 x10 x15 x16 x17 x18 x19=some y:=
 pt_of zT [26,24,15] (by kernel_rfl) h
theorem zoY (a0:GDistribution) (a1:GDistribution) (r4:(List Int)) (r5:(List Int)) (c6:Int) (c7:Int) (x10:Int) (x20:List (List AV)) (x21:Int) (x22:Int) (x23:Int) (x24:Int) {y:AV×Mem} (h:(
 chk (0+(List.map zai r4).length≤(List.map zai r4).length)<|
 callD zen (cw zft [AV.sl 1 (List.take ((List.map zai r4).length) (List.map zai r4)),I x21,I x24,I c6] []) fun (r37:GRatio×Int) =>
 brn (r37.snd != 0) (some (AV.tup [AV.agg (zak ⟨[]⟩),I r37.snd],[]))
 (chk (0+(List.map zai r5).length≤(List.map zai r5).length)<|
 callD zen (cw zft [AV.sl 1 (List.take ((List.map zai r5).length) (List.map zai r5)),I x10,I x24,I c6] []) fun (r38:GRatio×Int) =>
 brn (r38.snd != 0) (some (AV.tup [AV.agg (zak ⟨[]⟩),I r38.snd],[]))
 (chk (x20.length=x20.length)<|
 chk ((x20.length+1)*(32+1)≤1099511627776)<|
 chk ((x20++[[I r37.fst.Num,I r37.fst.Den,I r38.fst.Num,I r38.fst.Den]]).length=(x20++[[I r37.fst.Num,I r37.fst.Den,I r38.fst.Num,I r38.fst.Den]]).length)<|
 brn (decide (x22≤x23)) (zdk a0 a1 r4 r5 c6 c7 x10 (x20++([zag (⟨⟨r37.fst.Num,r37.fst.Den⟩,⟨r38.fst.Num,r38.fst.Den⟩⟩)])) (w64 (x21+1)) x22 x23)
 (zc3 a0 a1 r4 r5 c6 c7 x10 (x20++([zag (⟨⟨r37.fst.Num,r37.fst.Den⟩,⟨r38.fst.Num,r38.fst.Den⟩⟩)])) x21 x22 x23))))=some y):zeb a0 a1 r4 r5 c6 c7 x10 x20 x21 x22 x23 x24=some y:=
 pt_of zT [26,24,15] (by kernel_rfl) h
theorem zpx (a0:GDistribution) (a1:GDistribution) (r4:(List Int)) (r5:(List Int)) (c6:Int) (c7:Int) (x10:Int) (x25:List (List AV)) (x26:Int) {y:AV×Mem} (h:(
 chk (0+x25.length≤x25.length)<|
 callD zfG (cw zhs [AV.agg [AV.sl 4 (List.take x25.length x25)]] []) fun (r39:GCurve×Int) =>
 chk (0+x25.length≤x25.length)<|
 chk (0+x25.length≤x25.length)<|
 chk (0+x25.length≤x25.length)<|
 some (AV.tup [AV.agg (zak r39.fst),I r39.snd],[]))=some y):zcI a0 a1 r4 r5 c6 c7 x10 x25 x26=some y:=
 pt_of zT [26,24,15] (by kernel_rfl) h
theorem zpW (a0:GDistribution) (a1:GDistribution) (r4:(List Int)) (r5:(List Int)) (c6:Int) (c7:Int) (x10:Int) (x29:List (List AV)) (x30:Int) (x31:Int) (x32:Int) {y:AV×Mem} (h:(
 brn (decide (x32≤x31)) (zee a0 a1 r4 r5 c6 c7 x29 x30 (w64 (x10+1)))
 (ze1 a0 a1 r4 r5 c6 c7 x10 x29 x30))=some y):zdk a0 a1 r4 r5 c6 c7 x10 x29 x30 x31 x32=some y:=
 pt_of zT [26,24,15] (by kernel_rfl) h
theorem zoW (a0:GDistribution) (a1:GDistribution) (r4:(List Int)) (r5:(List Int)) (c6:Int) (c7:Int) (x10:Int) (x33:List (List AV)) (x34:Int) (x35:Int) (x36:Int) {y:AV×Mem} (h:(
 brn (decide (x36≤x35)) (zee a0 a1 r4 r5 c6 c7 x33 x34 (w64 (x10+1)))
 (ze1 a0 a1 r4 r5 c6 c7 x10 x33 x34))=some y):zc3 a0 a1 r4 r5 c6 c7 x10 x33 x34 x35 x36=some y:=
 pt_of zT [26,24,15] (by kernel_rfl) h
theorem zgR (a0:GDistribution) (a1:GDistribution) (r4:(List Int)) (r5:(List Int)) (c6:Int) (c7:Int) (x10:Int) (x40:List (List AV)) (x41:Int) {y:AV×Mem} (h:(
 brn (decide (x41 < (↑(List.map zai a0.Counts).length:Int))) (brn (decide (x10 < (↑(List.map zai a1.Counts).length:Int))) (chk ((0:Int)≤(w64 (x41+1)))<|
 chk ((w64 (x41+1):Int) < ((↑(List.map zai r4).length:Int)))<|
 elemD zaw (List.map zai r4) (0+(w64 (x41+1)).toNat) fun (c42:Int) =>
 chk ((0:Int)≤(w64 (x10+1)))<|
 chk ((w64 (x10+1):Int) < ((↑(List.map zai r5).length:Int)))<|
 elemD zaw (List.map zai r5) (0+(w64 (x10+1)).toNat) fun (c43:Int) =>
 chk ((0:Int)≤(w64 (x41+1)))<|
 chk ((w64 (x41+1):Int) < ((↑(List.map zai r4).length:Int)))<|
 elemD zaw (List.map zai r4) (0+(w64 (x41+1)).toNat) fun (c44:Int) =>
 brn (decide (w64 (c43*c6) < w64 (c42*c7))) (chk ((0:Int)≤(w64 (x10+1)))<|
 chk ((w64 (x10+1):Int) < ((↑(List.map zai r5).length:Int)))<|
 elemD zaw (List.map zai r5) (0+(w64 (x10+1)).toNat) fun (c45:Int) =>
 zeF a0 a1 r4 r5 c6 c7 x10 x40 x41 (w64 (c42*c7)) (w64 (c43*c6)) c45)
 (zeb a0 a1 r4 r5 c6 c7 x10 x40 x41 (w64 (c42*c7)) (w64 (c43*c6)) c44))
 (zcI a0 a1 r4 r5 c6 c7 x10 x40 x41))
 (zcI a0 a1 r4 r5 c6 c7 x10 x40 x41))=some y):ze1 a0 a1 r4 r5 c6 c7 x10 x40 x41=some y:=
 pt_of zT [26,24,15] (by kernel_rfl) h
theorem zeS (a0:GDistribution) (a1:GDistribution) {y:AV×Mem} (h:(
 callD zbn (cw zbC [AV.agg (zab a0)] []) fun (r0:Bool) =>
 brn (!r0) (some (AV.tup [AV.agg (zak ⟨[]⟩),I 1],[]))
 (callD zbn (cw zbC [AV.agg (zab a1)] []) fun (r1:Bool) =>
 brn (!r1) (some (AV.tup [AV.agg (zak ⟨[]⟩),I 1],[]))
 (callD zdH (cw ze0 [AV.sl 1 (List.map zai a0.Counts),I 0] []) fun (r2:Bool) =>
 brn r2 (some (AV.tup [AV.agg (zak ⟨[]⟩),I 10],[]))
 (callD zdH (cw ze0 [AV.sl 1 (List.map zai a1.Counts),I 0] []) fun (r3:Bool) =>
 brn r3 (some (AV.tup [AV.agg (zak ⟨[]⟩),I 10],[]))
 (callD zhP (cw zkB [AV.agg (zab a0)] []) fun (r4:(List Int)) =>
 callD zhP (cw zkB [AV.agg (zab a1)] []) fun (r5:(List Int)) =>
 chk ((0:Int)≤(w64 ((↑(List.map zai r4).length:Int) - 1)))<|
 chk ((w64 ((↑(List.map zai r4).length:Int) - 1):Int) < ((↑(List.map zai r4).length:Int)))<|
 elemD zaw (List.map zai r4) (0+(w64 ((↑(List.map zai r4).length:Int) - 1)).toNat) fun (c6:Int) =>
 chk ((0:Int)≤(w64 ((↑(List.map zai r5).length:Int) - 1)))<|
 chk ((w64 ((↑(List.map zai r5).length:Int) - 1):Int) < ((↑(List.map zai r5).length:Int)))<|
 elemD zaw (List.map zai r5) (0+(w64 ((↑(List.map zai r5).length:Int) - 1)).toNat) fun (c7:Int) =>
 chk (1=1)<|
 zee a0 a1 r4 r5 c6 c7 ([zag (⟨⟨-1,2⟩,⟨-1,2⟩⟩)]) 0 0)))))=some y):cw zc1 [AV.agg (zab a0),AV.agg (zab a1)] []=some y:=
 zaj zcy zT [26,24,15] rfl (by kernel_rfl) (by kernel_rfl) (by kernel_rfl) (by kernel_rfl) (by kernel_rfl) h
noncomputable def zbN (a0:GDistribution) (a1:GDistribution) (r4:Int) (r5:Int) (x6:List (List AV)) (x7:Int) (x8:Int):Option (AV×Mem):=pt zgd 1 ⟨[(2,AV.loc 2 1 0 0),(3,AV.loc 3 1 0 0),(4,AV.loc 4 1 0 0),(6,AV.row 6 4 0 (List.length x6)),(7,I x7),(8,I x8),(9,I r4),(10,I r5)],[(2,⟨1,zan,[zab a0],true⟩),(3,⟨1,zan,[zab a1],true⟩),(4,⟨1,zay,[[AV.v (.slice none 0 0)]],true⟩),(6,⟨4,zaC,x6,false⟩)]⟩
noncomputable def zfE (a0:GDistribution) (a1:GDistribution) (r4:Int) (r5:Int) (x6:List (List AV)) (x7:Int) (x8:Int):Option (AV×Mem):=pt zgd 1009 ⟨[(2,AV.loc 2 1 0 0),(3,AV.loc 3 1 0 0),(4,AV.loc 4 1 0 0),(6,AV.row 6 4 0 (List.length x6)),(7,I x7),(8,I x8),(9,I r4),(10,I r5),(50,B true)],[(2,⟨1,zan,[zab a0],true⟩),(3,⟨1,zan,[zab a1],true⟩),(4,⟨1,zay,[[AV.v (.slice none 0 0)]],true⟩),(6,⟨4,zaC,x6,false⟩)]⟩
noncomputable def zeg (a0:GDistribution) (a1:GDistribution) (r4:Int) (r5:Int) (x6:List (List AV)) (x7:Int) (x8:Int):Option (AV×Mem):=pt zgd 1011 ⟨[(2,AV.loc 2 1 0 0),(3,AV.loc 3 1 0 0),(4,AV.loc 4 1 0 0),(6,AV.row 6 4 0 (List.length x6)),(7,I x7),(8,I x8),(9,I r4),(10,I r5),(77,B true)],[(2,⟨1,zan,[zab a0],true⟩),(3,⟨1,zan,[zab a1],true⟩),(4,⟨1,zay,[[AV.v (.slice none 0 0)]],true⟩),(6,⟨4,zaC,x6,false⟩)]⟩
noncomputable def zef (a0:GDistribution) (a1:GDistribution) (r4:Int) (r5:Int) (x6:List (List AV)) (x7:Int) (x8:Int):Option (AV×Mem):=pt zgd 1014 ⟨[(2,AV.loc 2 1 0 0),(3,AV.loc 3 1 0 0),(4,AV.loc 4 1 0 0),(6,AV.row 6 4 0 (List.length x6)),(7,I x7),(8,I x8),(9,I r4),(10,I r5),(77,B false)],[(2,⟨1,zan,[zab a0],true⟩),(3,⟨1,zan,[zab a1],true⟩),(4,⟨1,zay,[[AV.v (.slice none 0 0)]],true⟩),(6,⟨4,zaC,x6,false⟩)]⟩
theorem zof (a0:GDistribution) (a1:GDistribution) (r4:Int) (r5:Int) (x6:List (List AV)) (x7:Int) (x8:Int) {y:AV×Mem} (h:(
 brn (decide (x7≤(↑(List.map zai a0.Counts).length:Int))) (zfE a0 a1 r4 r5 x6 x7 x8)
 (brn (decide (x8≤(↑(List.map zai a1.Counts).length:Int))) (zfE a0 a1 r4 r5 x6 x7 x8)
 (chk (0+x6.length≤x6.length)<|
 callD zqk (cw zs6 [AV.sl 4 (List.take x6.length x6)] []) fun (r9:GCurve×Int) =>
 chk (0+x6.length≤x6.length)<|
 chk (0+x6.length≤x6.length)<|
 some (AV.tup [AV.agg (zak r9.fst),I r9.snd],[]))))=some y):zbN a0 a1 r4 r5 x6 x7 x8=some y:=
 pt_of zT [14,11,9] (by kernel_rfl) h
theorem zrp (a0:GDistribution) (a1:GDistribution) (r4:Int) (r5:Int) (x6:List (List AV)) (x7:Int) (x8:Int) {y:AV×Mem} (h:(
 callD zd3 (cw zeI [AV.agg (zab a0),I x7] []) fun (r10:Int) =>
 callD zd3 (cw zeI [AV.agg (zab a1),I x8] []) fun (r11:Int) =>
 brn (decide ((↑(List.map zai a1.Counts).length:Int) < x8)) (zeg a0 a1 r4 r5 x6 x7 x8)
 (brn (decide (x7≤(↑(List.map zai a0.Counts).length:Int))) (brn (decide (w64 (r10*r5)≤w64 (r11*r4))) (zeg a0 a1 r4 r5 x6 x7 x8)
 (zef a0 a1 r4 r5 x6 x7 x8))
 (zef a0 a1 r4 r5 x6 x7 x8)))=some y):zfE a0 a1 r4 r5 x6 x7 x8=some y:=
 pt_of zT [14,11,9] (by kernel_rfl) h
theorem zrl (a0:GDistribution) (a1:GDistribution) (r4:Int) (r5:Int) (x6:List (List AV)) (x7:Int) (x8:Int) {y:AV×Mem} (h:(
 callD zfU (cw zg1 [I (w64 (w64 (2*x7) - 1)),I 2] []) fun (r12:GRatio×Int) =>
 callD zd3 (cw zeI [AV.agg (zab a0),I x7] []) fun (r13:Int) =>
 callD zn4 (cw zoo [AV.agg (zab a1),I r13,I r4] []) fun (r14:GRatio) =>
 chk (x6.length=x6.length)<|
 callD zmz (cw zj7 [AV.row 950 4 0 (List.length x6),AV.agg (zag (⟨⟨r12.fst.Num,r12.fst.Den⟩,⟨r14.Num,r14.Den⟩⟩))] [(950,⟨4,zaC,x6,false⟩)]) fun (r15:(List GPoint)) =>
 chk ((List.map zag r15).length=(List.map zag r15).length)<|
 zbN a0 a1 r4 r5 (List.map zag r15) (w64 (x7+1)) x8)=some y):zeg a0 a1 r4 r5 x6 x7 x8=some y:=
 pt_of zT [14,11,9] (by kernel_rfl) h
theorem zro (a0:GDistribution) (a1:GDistribution) (r4:Int) (r5:Int) (x6:List (List AV)) (x7:Int) (x8:Int) {y:AV×Mem} (h:(
 callD zfU (cw zg1 [I (w64 (w64 (2*x8) - 1)),I 2] []) fun (r16:GRatio×Int) =>
 callD zd3 (cw zeI [AV.agg (zab a1),I x8] []) fun (r17:Int) =>
 callD zn4 (cw zoo [AV.agg (zab a0),I r17,I r5] []) fun (r18:GRatio) =>
 chk (x6.length=x6.length)<|
 callD zmz (cw zj7 [AV.row 950 4 0 (List.length x6),AV.agg (zag (⟨⟨r18.Num,r18.Den⟩,⟨r16.fst.Num,r16.fst.Den⟩⟩))] [(950,⟨4,zaC,x6,false⟩)]) fun (r19:(List GPoint)) =>
 chk ((List.map zag r19).length=(List.map zag r19).length)<|
 zbN a0 a1 r4 r5 (List.map zag r19) x7 (w64 (x8+1)))=some y):zef a0 a1 r4 r5 x6 x7 x8=some y:=
 pt_of zT [14,11,9] (by kernel_rfl) h
theorem zf5 (a0:GDistribution) (a1:GDistribution) {y:AV×Mem} (h:(
 callD zcZ (cw zdh [AV.agg (zab a0)] []) fun (r0:Bool) =>
 brn (!r0) (some (AV.tup [AV.agg (zak ⟨[]⟩),I 1],[]))
 (callD zcZ (cw zdh [AV.agg (zab a1)] []) fun (r1:Bool) =>
 brn (!r1) (some (AV.tup [AV.agg (zak ⟨[]⟩),I 1],[]))
 (callD zls (cw znR [AV.agg (zab a0)] []) fun (r2:Bool) =>
 brn (!r2) (some (AV.tup [AV.agg (zak ⟨[]⟩),I 10],[]))
 (callD zls (cw znR [AV.agg (zab a1)] []) fun (r3:Bool) =>
 brn (!r3) (some (AV.tup [AV.agg (zak ⟨[]⟩),I 10],[]))
 (callD zd4 (cw zeG [AV.agg (zab a0)] []) fun (r4:Int) =>
 callD zd4 (cw zeG [AV.agg (zab a1)] []) fun (r5:Int) =>
 zbN a0 a1 r4 r5 [] 0 0)))))=some y):cw zf4 [AV.agg (zab a0),AV.agg (zab a1)] []=some y:=
 zaj zgd zT [14,11,9] rfl (by kernel_rfl) (by kernel_rfl) (by kernel_rfl) (by kernel_rfl) (by kernel_rfl) h
noncomputable def zh2 (a0:GCurve) (a1:Int) (a2:Int) (x2:List (List AV)) (x3:Int):Option (AV×Mem):=pt zq1 1 ⟨[(2,I a2),(3,AV.loc 3 1 0 0),(8,AV.row 22 1 0 ((List.replicate (w64 (a1+1)).toNat (I 0 :: List.map AV.v [])).length)),(24,I ((↑(List.replicate (w64 (a1+1)).toNat (I 0 :: List.map AV.v [])).length:Int))),(25,I x3)],[(3,⟨1,zay,[zak a0],true⟩),(22,⟨1,zaJ,x2,false⟩)]⟩
theorem zlh (a0:GCurve) (a1:Int) (a2:Int) (x2:List (List AV)) (x3:Int) {y:AV×Mem} (h:(
 brn (decide (x3 < (↑(List.replicate (w64 (a1+1)).toNat (I 0 :: List.map AV.v [])).length:Int))) (callD zgQ (cw zjM [AV.agg (zak a0),I x3,I a2] []) fun (r4:Int×Int) =>
 brn (r4.snd != 0) (some (AV.tup [AV.sl 1 (List.map zai []),I r4.snd],[]))
 (chk ((0:Int)≤x3)<|
 chk ((x3:Int) < ((↑(List.replicate (w64 (a1+1)).toNat (I 0 :: List.map AV.v [])).length:Int)))<|
 elemD zaw x2 (0+x3.toNat) fun (c5:Int) =>
 zh2 a0 a1 a2 (List.set x2 (0+x3.toNat) (zai r4.fst)) (w64 (x3+1))))
 (chk (0+(List.replicate (w64 (a1+1)).toNat (I 0 :: List.map AV.v [])).length≤x2.length)<|
 some (AV.tup [AV.sl 1 (List.take ((List.replicate (w64 (a1+1)).toNat (I 0 :: List.map AV.v [])).length) x2),I 0],[])))=some y):zh2 a0 a1 a2 x2 x3=some y:=
 pt_of zT [] (by kernel_rfl) h
theorem znm (a0:GCurve) (a1:Int) (a2:Int) {y:AV×Mem} (h:(
 callD zge (cw zh5 [I a1] []) fun (r0:Bool) =>
 brn (!r0) (some (AV.tup [AV.sl 1 (List.map zai []),I 2],[]))
 (callD zge (cw zh5 [I a2] []) fun (r1:Bool) =>
 brn (!r1) (some (AV.tup [AV.sl 1 (List.map zai []),I 2],[]))
 (chk ((w64 (a1+1):Int)=(w64 (a1+1)))<|
 chk ((0:Int)≤(w64 (a1+1)))<|
 chk ((w64 (a1+1)).toNat*(8+1)≤1099511627776)<|
 zh2 a0 a1 a2 (List.replicate ((w64 (a1+1)).toNat) (zai 0)) 0)))=some y):cw zjA [AV.agg (zak a0),I a1,I a2] []=some y:=
 zaj zq1 zT [] rfl (by kernel_rfl) (by kernel_rfl) (by kernel_rfl) (by kernel_rfl) (by kernel_rfl) h
noncomputable def zky (a0:GCurve) (a1:Int) (a2:Int) (x0:List (List AV)) (x1:Int):Option (AV×Mem):=pt ztP 1 ⟨[(1,I a1),(2,I a2),(3,AV.loc 3 1 0 0),(8,AV.row 8 1 0 (List.length x0)),(9,I x1)],[(3,⟨1,zay,[zak a0],true⟩),(8,⟨1,zaJ,x0,false⟩)]⟩
theorem zou (a0:GCurve) (a1:Int) (a2:Int) (x0:List (List AV)) (x1:Int) {y:AV×Mem} (h:(
 brn (decide (x1≤a1)) (callD zkT (cw znG [AV.agg (zak a0),I x1,I a2] []) fun (r2:Int×Int) =>
 brn (r2.snd != 0) (some (AV.tup [AV.sl 1 (List.map zai []),I r2.snd],[]))
 (chk (x0.length=x0.length)<|
 chk ((x0.length+1)*(8+1)≤1099511627776)<|
 chk ((x0++[[I r2.fst]]).length=(x0++[[I r2.fst]]).length)<|
 zky a0 a1 a2 (x0++([zai r2.fst])) (w64 (x1+1))))
 (chk (0+x0.length≤x0.length)<|
 some (AV.tup [AV.sl 1 (List.take x0.length x0),I 0],[])))=some y):zky a0 a1 a2 x0 x1=some y:=
 pt_of zT [] (by kernel_rfl) h
theorem zpQ (a0:GCurve) (a1:Int) (a2:Int) {y:AV×Mem} (h:(
 brn (decide (a1 < 0)) (some (AV.tup [AV.sl 1 (List.map zai []),I 2],[]))
 (brn (decide (200 < a1)) (some (AV.tup [AV.sl 1 (List.map zai []),I 2],[]))
 (brn (decide (a2 < 0)) (some (AV.tup [AV.sl 1 (List.map zai []),I 2],[]))
 (brn (decide (200 < a2)) (some (AV.tup [AV.sl 1 (List.map zai []),I 2],[]))
 (zky a0 a1 a2 [] 0)))))=some y):cw zmL [AV.agg (zak a0),I a1,I a2] []=some y:=
 zaj ztP zT [] rfl (by kernel_rfl) (by kernel_rfl) (by kernel_rfl) (by kernel_rfl) (by kernel_rfl) h
noncomputable def zgX (a0:GDistribution) (a2:Int) (r1:(List Int)×Int) (x2:List (List AV)) (x3:Int):Option (AV×Mem):=pt zpp 1 ⟨[(6,AV.loc 6 1 0 0),(8,AV.sl 1 (List.map zai r1.fst)),(10,AV.row 33 1 0 ((List.replicate (w64 (a2+1)).toNat (I 0 :: List.map AV.v [])).length)),(35,AV.sl 1 (List.map zai a0.Counts)),(36,I ((↑(List.map zai a0.Counts).length:Int))),(37,I x3)],[(6,⟨1,zan,[[AV.v (.slice none 0 0)]],true⟩),(33,⟨1,zaJ,x2,false⟩)]⟩
theorem zn7 (a0:GDistribution) (a2:Int) (r1:(List Int)×Int) (x2:List (List AV)) (x3:Int) {y:AV×Mem} (h:(
 brn (decide (x3 < (↑(List.map zai a0.Counts).length:Int))) (chk ((0:Int)≤x3)<|
 elemD zaw (List.map zai a0.Counts) x3.toNat fun (c4:Int) =>
 chk ((0:Int)≤x3)<|
 elemD zaw (List.map zai r1.fst) x3.toNat fun (c5:Int) =>
 chk (0≤c5)<|
 chk ((c5:Int) < ((↑(List.replicate (w64 (a2+1)).toNat (I 0 :: List.map AV.v [])).length:Int)))<|
 elemD zaw x2 (0+Int.toNat c5) fun (c6:Int) =>
 chk (0≤c5)<|
 chk ((c5:Int) < ((↑(List.replicate (w64 (a2+1)).toNat (I 0 :: List.map AV.v [])).length:Int)))<|
 elemD zaw x2 (0+Int.toNat c5) fun (c7:Int) =>
 zgX a0 a2 r1 (List.set x2 (0+Int.toNat c5) (zai (w64 (c6+c4)))) (w64 (x3+1)))
 (chk (0+(List.replicate (w64 (a2+1)).toNat (I 0 :: List.map AV.v [])).length≤x2.length)<|
 some (AV.tup [AV.agg [AV.sl 1 (List.take ((List.replicate (w64 (a2+1)).toNat (I 0 :: List.map AV.v [])).length) x2)],I 0],[])))=some y):zgX a0 a2 r1 x2 x3=some y:=
 pt_of zT [] (by kernel_rfl) h
theorem zle (a0:GDistribution) (a1:GCurve) (a2:Int) {y:AV×Mem} (h:(
 callD zbn (cw zbC [AV.agg (zab a0)] []) fun (r0:Bool) =>
 brn (!r0) (some (AV.tup [AV.agg (zab ⟨[]⟩),I 1],[]))
 (callD zhr (cw zjA [AV.agg (zak a1),I (w64 ((↑(List.map zai a0.Counts).length:Int) - 1)),I a2] []) fun (r1:(List Int)×Int) =>
 brn (r1.snd != 0) (some (AV.tup [AV.agg (zab ⟨[]⟩),I r1.snd],[]))
 (chk ((w64 (a2+1):Int)=(w64 (a2+1)))<|
 chk ((0:Int)≤(w64 (a2+1)))<|
 chk ((w64 (a2+1)).toNat*(8+1)≤1099511627776)<|
 zgX a0 a2 r1 (List.replicate ((w64 (a2+1)).toNat) (zai 0)) 0)))=some y):cw zlt [AV.agg (zab a0),AV.agg (zak a1),I a2] []=some y:=
 zaj zpp zT [] rfl (by kernel_rfl) (by kernel_rfl) (by kernel_rfl) (by kernel_rfl) (by kernel_rfl) h
end Go.Proofs.YtbhkcgaanaelfaaGreat
