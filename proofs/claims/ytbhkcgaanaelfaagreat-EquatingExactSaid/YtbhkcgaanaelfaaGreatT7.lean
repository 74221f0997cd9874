/- What the functions compute, between two cut points: printed by a program, checked by the kernel. -/
import Derived.Test.YtbhkcgaanaelfaaGreatAnn
namespace Go.Proofs.YtbhkcgaanaelfaaGreat
open Go.Ab
set_option maxRecDepth 100000
set_option linter.unusedVariables false
noncomputable def zbb (a0:List GRatio) (x0:List (List AV)) (x1:Int) (x2:Int) (x3:Int) (x4:Bool) (x5:Bool):Option (AV×Mem):=pt zaX 1 ⟨[(0,AV.row 1000 2 0 ((List.map zaa a0).length)),(1,I x1),(2,I x2),(3,I x3),(4,AV.fn zah []),(10,B x4),(11,B x5)],[(1000,⟨2,zae,x0,false⟩)]⟩
noncomputable def zdA (a0:List GRatio) (x1:Int) (x2:Int) (x3:Int) (x4:Bool) (x5:Bool) (r8:(List GRatio)):Option (AV×Mem):=pt zaX 1010 ⟨[(0,AV.row 1000 2 0 ((List.map zaa a0).length)),(1,I x1),(2,I x2),(3,I (w64 (x3 - 1))),(4,AV.fn zah []),(10,B x4),(11,B x5),(12,I (w64 (x2 - x1)))],[(1000,⟨2,zae,List.map zaa r8,false⟩)]⟩
noncomputable def zdd (a0:List GRatio) (x0:List (List AV)) (x1:Int) (x2:Int) (x3:Int) (x4:Bool) (x5:Bool):Option (AV×Mem):=pt zaX 1010 ⟨[(0,AV.row 1000 2 0 ((List.map zaa a0).length)),(1,I x1),(2,I x2),(3,I x3),(4,AV.fn zah []),(10,B x4),(11,B x5),(12,I (w64 (x2 - x1))),(39,B false)],[(1000,⟨2,zae,x0,false⟩)]⟩
noncomputable def zbg (a0:List GRatio) (x1:Int) (x2:Int) (x4:Bool) (x5:Bool) (x11:List (List AV)) (x12:Int) (x13:Int):Option (AV×Mem):=pt zaX 1015 ⟨[(0,AV.row 1000 2 0 ((List.map zaa a0).length)),(1,I x1),(2,I x2),(3,I x12),(4,AV.fn zah []),(10,B x4),(11,B x5),(12,I (w64 (x2 - x1))),(13,I x13),(14,I 1)],[(1000,⟨2,zae,x11,false⟩)]⟩
noncomputable def zcc (a0:List GRatio) (x1:Int) (x2:Int) (x4:Bool) (x5:Bool) (x14:List (List AV)) (x15:Int) (x16:Int) (x17:Int):Option (AV×Mem):=pt zaX 1015 ⟨[(0,AV.row 1000 2 0 ((List.map zaa a0).length)),(1,I x1),(2,I x2),(3,I x15),(4,AV.fn zah []),(10,B x4),(11,B x5),(12,I (w64 (x2 - x1))),(13,I x16),(14,I x17),(56,B false)],[(1000,⟨2,zae,x14,false⟩)]⟩
noncomputable def zcw (a0:List GRatio) (x1:Int) (x2:Int) (x4:Bool) (x5:Bool) (x21:List (List AV)) (x22:Int) (x23:Int):Option (AV×Mem):=pt zaX 1017 ⟨[(0,AV.row 1000 2 0 ((List.map zaa a0).length)),(1,I x1),(2,I x2),(3,I x22),(4,AV.fn zah []),(10,B x4),(11,B x5),(12,I (w64 (x2 - x1))),(13,I x23),(80,B false)],[(1000,⟨2,zae,x21,false⟩)]⟩
noncomputable def zaV (a0:List GRatio) (x1:Int) (x2:Int) (x4:Bool) (x5:Bool) (x24:List (List AV)) (x25:Int) (x26:Int):Option (AV×Mem):=pt zaX 1017 ⟨[(0,AV.row 1000 2 0 ((List.map zaa a0).length)),(1,I x1),(2,I x2),(3,I x25),(4,AV.fn zah []),(10,B x4),(11,B x5),(12,I (w64 (x2 - x1))),(13,I x26),(75,B false)],[(1000,⟨2,zae,x24,false⟩)]⟩
noncomputable def zbh (a0:List GRatio) (x1:Int) (x2:Int) (x4:Bool) (x5:Bool) (x32:List (List AV)) (x33:Int) (x34:Int):Option (AV×Mem):=pt zaX 1020 ⟨[(0,AV.row 1000 2 0 ((List.map zaa a0).length)),(1,I x1),(2,I x2),(3,I x33),(4,AV.fn zah []),(10,B x4),(11,B x5),(12,I (w64 (x2 - x1))),(13,I x34),(97,B false)],[(1000,⟨2,zae,x32,false⟩)]⟩
theorem zcR (a0:List GRatio) (x0:List (List AV)) (x1:Int) (x2:Int) (x3:Int) (x4:Bool) (x5:Bool) {y:AV×Mem} (h:(
 brn (decide (w64 (x2 - x1)≤12)) (callD zck (cw zdm [AV.row 1000 2 0 ((List.map zaa a0).length),I x1,I x2,AV.fn zah []] [(1000,⟨2,zae,x0,false⟩)]) fun (r6:(List GRatio)) =>
 some (AV.tup [],[(1000,⟨2,zae,List.map zaa r6,false⟩)]))
 (brn (x3 == 0) (callD zb5 (cw zel [AV.row 1000 2 0 ((List.map zaa a0).length),I x1,I x2,AV.fn zah []] [(1000,⟨2,zae,x0,false⟩)]) fun (r7:(List GRatio)) =>
 some (AV.tup [],[(1000,⟨2,zae,List.map zaa r7,false⟩)]))
 (brn (!x4) (callD zbe (cw zdj [AV.row 1000 2 0 ((List.map zaa a0).length),I x1,I x2,AV.fn zah []] [(1000,⟨2,zae,x0,false⟩)]) fun (r8:(List GRatio)) =>
 zdA a0 x1 x2 x3 x4 x5 r8)
 (zdd a0 x0 x1 x2 x3 x4 x5))))=some y):zbb a0 x0 x1 x2 x3 x4 x5=some y:=
 pt_of zT [20,17,15,10] (by kernel_rfl) h
theorem zkv (a0:List GRatio) (x1:Int) (x2:Int) (x3:Int) (x4:Bool) (x5:Bool) (r8:(List GRatio)) {y:AV×Mem} (h:(
 chk (0+(List.map zaa a0).length≤(List.map zaa r8).length)<|
 callD zbK (cw zcC [AV.sl 2 (List.take ((List.map zaa a0).length) (List.map zaa r8)),I x1,I x2,AV.fn zah []] []) fun (r9:Int×Int) =>
 brn (r9.snd == 2) (callD zbF (cw zcx [AV.row 1000 2 0 ((List.map zaa a0).length),I x1,I x2,AV.fn zah []] [(1000,⟨2,zae,List.map zaa r8,false⟩)]) fun (r10:(List GRatio)) =>
 zbg a0 x1 x2 x4 x5 (List.map zaa r10) (w64 (x3 - 1)) (w64 (w64 (x2 - 1) - w64 (r9.fst - x1))))
 (zcc a0 x1 x2 x4 x5 (List.map zaa r8) (w64 (x3 - 1)) r9.fst r9.snd))=some y):zdA a0 x1 x2 x3 x4 x5 r8=some y:=
 pt_of zT [20,17,15,10] (by kernel_rfl) h
theorem zjB (a0:List GRatio) (x0:List (List AV)) (x1:Int) (x2:Int) (x3:Int) (x4:Bool) (x5:Bool) {y:AV×Mem} (h:(
 chk (0+(List.map zaa a0).length≤x0.length)<|
 callD zbK (cw zcC [AV.sl 2 (List.take ((List.map zaa a0).length) x0),I x1,I x2,AV.fn zah []] []) fun (r18:Int×Int) =>
 brn (r18.snd == 2) (callD zbF (cw zcx [AV.row 1000 2 0 ((List.map zaa a0).length),I x1,I x2,AV.fn zah []] [(1000,⟨2,zae,x0,false⟩)]) fun (r19:(List GRatio)) =>
 zbg a0 x1 x2 x4 x5 (List.map zaa r19) x3 (w64 (w64 (x2 - 1) - w64 (r18.fst - x1))))
 (zcc a0 x1 x2 x4 x5 x0 x3 r18.fst r18.snd))=some y):zdd a0 x0 x1 x2 x3 x4 x5=some y:=
 pt_of zT [20,17,15,10] (by kernel_rfl) h
theorem zks (a0:List GRatio) (x1:Int) (x2:Int) (x4:Bool) (x5:Bool) (x11:List (List AV)) (x12:Int) (x13:Int) {y:AV×Mem} (h:(
 brn x4 (brn x5 (brn (1 == 1) (callD zaZ (cw zbD [AV.row 1000 2 0 ((List.map zaa a0).length),I x1,I x2,AV.fn zah []] [(1000,⟨2,zae,x11,false⟩)]) fun (r20:Bool×(List GRatio)) =>
 brn r20.fst (some (AV.tup [],[(1000,⟨2,zae,List.map zaa r20.snd,false⟩)]))
 (zcw a0 x1 x2 x4 x5 (List.map zaa r20.snd) x12 x13))
 (zaV a0 x1 x2 x4 x5 x11 x12 x13))
 (zaV a0 x1 x2 x4 x5 x11 x12 x13))
 (zaV a0 x1 x2 x4 x5 x11 x12 x13))=some y):zbg a0 x1 x2 x4 x5 x11 x12 x13=some y:=
 pt_of zT [20,17,15,10] (by kernel_rfl) h
theorem zjn (a0:List GRatio) (x1:Int) (x2:Int) (x4:Bool) (x5:Bool) (x14:List (List AV)) (x15:Int) (x16:Int) (x17:Int) {y:AV×Mem} (h:(
 brn x4 (brn x5 (brn (x17 == 1) (callD zaZ (cw zbD [AV.row 1000 2 0 ((List.map zaa a0).length),I x1,I x2,AV.fn zah []] [(1000,⟨2,zae,x14,false⟩)]) fun (r27:Bool×(List GRatio)) =>
 brn r27.fst (some (AV.tup [],[(1000,⟨2,zae,List.map zaa r27.snd,false⟩)]))
 (zcw a0 x1 x2 x4 x5 (List.map zaa r27.snd) x15 x16))
 (zaV a0 x1 x2 x4 x5 x14 x15 x16))
 (zaV a0 x1 x2 x4 x5 x14 x15 x16))
 (zaV a0 x1 x2 x4 x5 x14 x15 x16))=some y):zcc a0 x1 x2 x4 x5 x14 x15 x16 x17=some y:=
 pt_of zT [20,17,15,10] (by kernel_rfl) h
theorem zdz (a0:List GRatio) (x1:Int) (x2:Int) (x4:Bool) (x5:Bool) (x21:List (List AV)) (x22:Int) (x23:Int) {y:AV×Mem} (h:(
 brn (decide (0 < x1)) (chk ((0:Int)≤(w64 (x1 - 1)))<|
 chk ((w64 (x1 - 1):Int) < ((↑(List.map zaa a0).length:Int)))<|
 elemD zaf x21 (0+(w64 (x1 - 1)).toNat) fun (c28:GRatio) =>
 chk ((0:Int)≤x23)<|
 chk ((x23:Int) < ((↑(List.map zaa a0).length:Int)))<|
 elemD zaf x21 (0+x23.toNat) fun (c29:GRatio) =>
 callD zaH (cw zah [AV.agg (zaa c28),AV.agg (zaa c29)] []) fun (r30:Int) =>
 brn (!decide (r30 < 0)) (callD zca (cw zcb [AV.row 1000 2 0 ((List.map zaa a0).length),I x1,I x2,I x23,AV.fn zah []] [(1000,⟨2,zae,x21,false⟩)]) fun (r31:Int×(List GRatio)) =>
 zbb a0 (List.map zaa r31.snd) r31.fst x2 x22 x4 x5)
 (zbh a0 x1 x2 x4 x5 x21 x22 x23))
 (zbh a0 x1 x2 x4 x5 x21 x22 x23))=some y):zcw a0 x1 x2 x4 x5 x21 x22 x23=some y:=
 pt_of zT [20,17,15,10] (by kernel_rfl) h
theorem zdf (a0:List GRatio) (x1:Int) (x2:Int) (x4:Bool) (x5:Bool) (x24:List (List AV)) (x25:Int) (x26:Int) {y:AV×Mem} (h:(
 brn (decide (0 < x1)) (chk ((0:Int)≤(w64 (x1 - 1)))<|
 chk ((w64 (x1 - 1):Int) < ((↑(List.map zaa a0).length:Int)))<|
 elemD zaf x24 (0+(w64 (x1 - 1)).toNat) fun (c35:GRatio) =>
 chk ((0:Int)≤x26)<|
 chk ((x26:Int) < ((↑(List.map zaa a0).length:Int)))<|
 elemD zaf x24 (0+x26.toNat) fun (c36:GRatio) =>
 callD zaH (cw zah [AV.agg (zaa c35),AV.agg (zaa c36)] []) fun (r37:Int) =>
 brn (!decide (r37 < 0)) (callD zca (cw zcb [AV.row 1000 2 0 ((List.map zaa a0).length),I x1,I x2,I x26,AV.fn zah []] [(1000,⟨2,zae,x24,false⟩)]) fun (r38:Int×(List GRatio)) =>
 zbb a0 (List.map zaa r38.snd) r38.fst x2 x25 x4 x5)
 (zbh a0 x1 x2 x4 x5 x24 x25 x26))
 (zbh a0 x1 x2 x4 x5 x24 x25 x26))=some y):zaV a0 x1 x2 x4 x5 x24 x25 x26=some y:=
 pt_of zT [20,17,15,10] (by kernel_rfl) h
theorem zfF (a0:List GRatio) (x1:Int) (x2:Int) (x4:Bool) (x5:Bool) (x32:List (List AV)) (x33:Int) (x34:Int) {y:AV×Mem} (h:(
 callD zea (cw zcQ [AV.row 1000 2 0 ((List.map zaa a0).length),I x1,I x2,I x34,AV.fn zah []] [(1000,⟨2,zae,x32,false⟩)]) fun (r39:(Int×Bool)×(List GRatio)) =>
 chk ((8:Int)≠0)<|
 brn (decide (w64 (r39.fst.fst - x1) < w64 (x2 - r39.fst.fst))) (callD zaI (cw zcg [AV.row 1000 2 0 ((List.map zaa a0).length),I x1,I r39.fst.fst,I x33,AV.fn zah []] [(1000,⟨2,zae,List.map zaa r39.snd,false⟩)]) fun (r40:(List GRatio)) =>
 zbb a0 (List.map zaa r40) (w64 (r39.fst.fst+1)) x2 x33 (decide (w64 ((w64 (x2 - x1)).tdiv 8)≤w64 (r39.fst.fst - x1))) r39.fst.snd)
 (callD zaI (cw zcg [AV.row 1000 2 0 ((List.map zaa a0).length),I (w64 (r39.fst.fst+1)),I x2,I x33,AV.fn zah []] [(1000,⟨2,zae,List.map zaa r39.snd,false⟩)]) fun (r41:(List GRatio)) =>
 zbb a0 (List.map zaa r41) x1 r39.fst.fst x33 (decide (w64 ((w64 (x2 - x1)).tdiv 8)≤w64 (x2 - r39.fst.fst))) r39.fst.snd))=some y):zbh a0 x1 x2 x4 x5 x32 x33 x34=some y:=
 pt_of zT [20,17,15,10] (by kernel_rfl) h
theorem zmK (a0:List GRatio) (a1:Int) (a2:Int) (a3:Int) {y:AV×Mem} (h:(
 zbb a0 (List.map zaa a0) a1 a2 a3 true true)=some y):cw zcg [AV.row 1000 2 0 (List.length (List.map zaa a0)),I a1,I a2,I a3,AV.fn zah []] [(1000,⟨2,zae,List.map zaa a0,false⟩)]=some y:=
 zaj zaX zT [20,17,15,10] rfl (by kernel_rfl) (by kernel_rfl) (by kernel_rfl) (by kernel_rfl) (by kernel_rfl) h
theorem e_bits_Len (a0:Int) {y:AV×Mem} (h:(
 callD zlq (cw zly [AV.v (.int .u64 a0)] []) fun (r0:Int) =>
 some (I r0,[]))=some y):cw zqb [AV.v (.int .u64 a0)] []=some y:=
 zaj R_bits_Len zT [] rfl (by kernel_rfl) (by kernel_rfl) (by kernel_rfl) (by kernel_rfl) (by kernel_rfl) h
theorem zsq (a0:Int) (a1:Int) {y:AV×Mem} (h:(
 callD zcA (cw zb3 [I a0] []) fun (r0:Int) =>
 callD zgn (cw zgl [AV.v (.int .u64 r0),AV.v (.int .u64 a1)] []) fun (r1:GratioWide) =>
 some (AV.agg (zbX (⟨decide (a0 < 0),⟨r1.hi,r1.lo⟩⟩)),[]))=some y):cw zdM [I a0,AV.v (.int .u64 a1)] []=some y:=
 zaj zsl zT [] rfl (by kernel_rfl) (by kernel_rfl) (by kernel_rfl) (by kernel_rfl) (by kernel_rfl) h
theorem ztK (a0:GratioWide) (a1:GratioWide) {y:AV×Mem} (h:(
 callD zgF (cw zgN [AV.v (.int .u64 a0.hi),AV.v (.int .u64 a1.hi)] []) fun (r0:Int) =>
 brn (r0 != 0) (some (I r0,[]))
 (callD zgF (cw zgN [AV.v (.int .u64 a0.lo),AV.v (.int .u64 a1.lo)] []) fun (r1:Int) =>
 some (I r1,[])))=some y):cw zd7 [AV.agg (zax a0),AV.agg (zax a1)] []=some y:=
 zaj zsU zT [] rfl (by kernel_rfl) (by kernel_rfl) (by kernel_rfl) (by kernel_rfl) (by kernel_rfl) h
theorem zCC (a0:GRatio) (a1:GRatio) {y:AV×Mem} (h:(
 callD zbl (cw zbm [AV.agg (zaa a0)] []) fun (r0:Bool) =>
 brn (!r0) (some (AV.tup [AV.agg (zaa (⟨0,0⟩)),I 1],[]))
 (callD zbl (cw zbm [AV.agg (zaa a1)] []) fun (r1:Bool) =>
 brn (!r1) (some (AV.tup [AV.agg (zaa (⟨0,0⟩)),I 1],[]))
 (callD zd5 (cw zeB [AV.agg (zaa a0),AV.agg (zaa (⟨w64 (0 - a1.Num),a1.Den⟩))] []) fun (r2:GRatio×Int) =>
 some (AV.tup [AV.agg (zaa r2.fst),I r2.snd],[]))))=some y):cw zdp [AV.agg (zaa a0),AV.agg (zaa a1)] []=some y:=
 zaj zCy zT [] rfl (by kernel_rfl) (by kernel_rfl) (by kernel_rfl) (by kernel_rfl) (by kernel_rfl) h
theorem zBS (a0:GRatio) (a1:GRatio) {y:AV×Mem} (h:(
 callD zbl (cw zbm [AV.agg (zaa a0)] []) fun (r0:Bool) =>
 brn (!r0) (some (AV.tup [AV.agg (zaa (⟨0,0⟩)),I 1],[]))
 (callD zbl (cw zbm [AV.agg (zaa a1)] []) fun (r1:Bool) =>
 brn (!r1) (some (AV.tup [AV.agg (zaa (⟨0,0⟩)),I 1],[]))
 (callD za3 (cw za7 [I a0.Num] []) fun (r2:Int) =>
 callD za3 (cw za7 [I a1.Num] []) fun (r3:Int) =>
 callD zcj (cw zcM [AV.v (.int .u64 r2),AV.v (.int .u64 r3)] []) fun (r4:Gref01Wide) =>
 callD za3 (cw za7 [I a0.Den] []) fun (r5:Int) =>
 callD za3 (cw za7 [I a1.Den] []) fun (r6:Int) =>
 callD zcj (cw zcM [AV.v (.int .u64 r5),AV.v (.int .u64 r6)] []) fun (r7:Gref01Wide) =>
 callD zfM (cw zg8 [B (!decide (a0.Num < 0) == decide (a1.Num < 0)),AV.agg (zal r4),AV.agg (zal r7)] []) fun (r8:GRatio×Int) =>
 some (AV.tup [AV.agg (zaa r8.fst),I r8.snd],[]))))=some y):cw zib [AV.agg (zaa a0),AV.agg (zaa a1)] []=some y:=
 zaj zCL zT [] rfl (by kernel_rfl) (by kernel_rfl) (by kernel_rfl) (by kernel_rfl) (by kernel_rfl) h
noncomputable def zmT (x0:Int) (x1:Int):Option (AV×Mem):=pt zwg 1 ⟨[(0,AV.v (.int .u64 x0)),(1,AV.v (.int .u64 x1))],[]⟩
theorem zzH (x0:Int) (x1:Int) {y:AV×Mem} (h:(
 brn (x1 != 0) (chk ((x1:Int)≠0)<|
 zmT x1 (x0.tmod x1))
 (some (AV.v (.int .u64 x0),[])))=some y):zmT x0 x1=some y:=
 pt_of zT [] (by kernel_rfl) h
theorem zCc (a0:Int) (a1:Int) {y:AV×Mem} (h:(
 zmT a0 a1)=some y):cw ze4 [AV.v (.int .u64 a0),AV.v (.int .u64 a1)] []=some y:=
 zaj zwg zT [] rfl (by kernel_rfl) (by kernel_rfl) (by kernel_rfl) (by kernel_rfl) (by kernel_rfl) h
theorem zv1 (a0:Int) {y:AV×Mem} (h:(
 brn (decide (a0 < 0)) (some (AV.v (.int .u64 (wu64 (0 - wu64 a0))),[]))
 (some (AV.v (.int .u64 (wu64 a0)),[])))=some y):cw zb3 [I a0] []=some y:=
 zaj zvO zT [] rfl (by kernel_rfl) (by kernel_rfl) (by kernel_rfl) (by kernel_rfl) (by kernel_rfl) h
noncomputable def ziJ (x0:Gref01Wide) (x1:Gref01Wide):Option (AV×Mem):=pt zrt 1 ⟨[(2,AV.loc 2 2 0 0),(3,AV.loc 3 2 0 0),(4,AV.loc 4 2 0 0)],[(2,⟨2,zaU,[zal x0],true⟩),(3,⟨2,zaU,[zal x1],true⟩),(4,⟨2,zaU,[zal (⟨0,0⟩)],true⟩)]⟩
theorem zp6 (x0:Gref01Wide) (x1:Gref01Wide) {y:AV×Mem} (h:(
 brn (!(x1.Hi == 0 && (x1.Lo == 0 && true))) (callD zg3 (cw ziY [AV.agg (zal x0),AV.agg (zal x1)] []) fun (r2:Gref01Wide×Gref01Wide) =>
 ziJ x1 r2.snd)
 (some (AV.agg (zal x0),[])))=some y):ziJ x0 x1=some y:=
 pt_of zT [] (by kernel_rfl) h
theorem zxi (a0:Gref01Wide) (a1:Gref01Wide) {y:AV×Mem} (h:(
 ziJ a0 a1)=some y):cw zkD [AV.agg (zal a0),AV.agg (zal a1)] []=some y:=
 zaj zrt zT [] rfl (by kernel_rfl) (by kernel_rfl) (by kernel_rfl) (by kernel_rfl) (by kernel_rfl) h
theorem zAF (a0:Int) {y:AV×Mem} (h:(
 brn (decide (a0 < 0)) (some (AV.v (.int .u64 (wu64 (wu64 (w64 (0 - w64 (a0+1)))+1))),[]))
 (some (AV.v (.int .u64 (wu64 a0)),[])))=some y):cw za7 [I a0] []=some y:=
 zaj zAC zT [] rfl (by kernel_rfl) (by kernel_rfl) (by kernel_rfl) (by kernel_rfl) (by kernel_rfl) h
theorem zrh (a0:GRatio) {y:AV×Mem} (h:(
 callD zbc (cw zbk [AV.agg (zaa a0)] []) fun (r0:Bool) =>
 brn (!r0) (some (I 0,[]))
 (chk ((a0.Den:Int)≠0)<|
 chk ((a0.Den:Int)≠0)<|
 brn (decide (a0.Num.tmod a0.Den < 0)) (callD zhR (cw zfn [I (w64 (w64 (a0.Num.tdiv a0.Den) - 1)),I (w64 (a0.Num.tmod a0.Den+a0.Den)),I a0.Den] []) fun (r1:Int) =>
 some (I r1,[]))
 (callD zhR (cw zfn [I (w64 (a0.Num.tdiv a0.Den)),I (a0.Num.tmod a0.Den),I a0.Den] []) fun (r2:Int) =>
 some (I r2,[]))))=some y):cw zox [AV.agg (zaa a0),AV.fn zfn []] []=some y:=
 zaj zxU zT [] rfl (by kernel_rfl) (by kernel_rfl) (by kernel_rfl) (by kernel_rfl) (by kernel_rfl) h
theorem zxd (a0:Int) (a1:Int) (a2:Int) {y:AV×Mem} (h:(
 brn (decide (w64 (a2 - a1)≤a1)) (some (I (w64 (a0+1)),[]))
 (some (I a0,[])))=some y):cw zfn [I a0,I a1,I a2] []=some y:=
 zaj zxO zT [] rfl (by kernel_rfl) (by kernel_rfl) (by kernel_rfl) (by kernel_rfl) (by kernel_rfl) h
theorem zzt (a0:Int) (a1:Int) {y:AV×Mem} (h:(
 chk ((a1:Int)≠0)<|
 chk ((a1:Int)≠0)<|
 brn (decide (a0.tmod a1 < 0)) (some (I (w64 (w64 (a0.tdiv a1) - 1)),[]))
 (some (I (w64 (a0.tdiv a1)),[])))=some y):cw zpJ [I a0,I a1] []=some y:=
 zaj zzU zT [] rfl (by kernel_rfl) (by kernel_rfl) (by kernel_rfl) (by kernel_rfl) (by kernel_rfl) h
theorem zkk (a0:GratioSigned) (a1:GratioSigned) {y:AV×Mem} (h:(
 brn (a0.neg == a1.neg) (callD ziH (cw zmk [AV.agg (zax a0.abs),AV.agg (zax a1.abs)] []) fun (r0:GratioWide) =>
 some (AV.agg (zbX (⟨a0.neg,⟨r0.hi,r0.lo⟩⟩)),[]))
 (callD zd6 (cw zd7 [AV.agg (zax a0.abs),AV.agg (zax a1.abs)] []) fun (r1:Int) =>
 brn (decide (0≤r1)) (callD zga (cw zhX [AV.agg (zax a0.abs),AV.agg (zax a1.abs)] []) fun (r2:GratioWide) =>
 some (AV.agg (zbX (⟨a0.neg,⟨r2.hi,r2.lo⟩⟩)),[]))
 (callD zga (cw zhX [AV.agg (zax a1.abs),AV.agg (zax a0.abs)] []) fun (r3:GratioWide) =>
 some (AV.agg (zbX (⟨a1.neg,⟨r3.hi,r3.lo⟩⟩)),[]))))=some y):cw zkl [AV.agg (zbX a0),AV.agg (zbX a1)] []=some y:=
 zaj zui zT [] rfl (by kernel_rfl) (by kernel_rfl) (by kernel_rfl) (by kernel_rfl) (by kernel_rfl) h
theorem zwN (a0:GratioWide) (a1:Int) {y:AV×Mem} (h:(
 callD zob (cw znH [AV.v (.int .u64 a0.hi),AV.v (.int .u64 a0.lo),AV.v (.int .u64 a1)] []) fun (r0:Int) =>
 some (AV.v (.int .u64 r0),[]))=some y):cw zjw [AV.agg (zax a0),AV.v (.int .u64 a1)] []=some y:=
 zaj zw5 zT [] rfl (by kernel_rfl) (by kernel_rfl) (by kernel_rfl) (by kernel_rfl) (by kernel_rfl) h
theorem zys (a0:Bool) (a1:GratioWide) (a2:GratioWide) {y:AV×Mem} (h:(
 brn (a1.hi != 0) (some (AV.tup [AV.agg (zaa (⟨0,0⟩)),I 6],[]))
 (brn (a2.hi != 0) (some (AV.tup [AV.agg (zaa (⟨0,0⟩)),I 6],[]))
 (brn (decide (1152921504606846976 < a1.lo)) (some (AV.tup [AV.agg (zaa (⟨0,0⟩)),I 6],[]))
 (brn (decide (1152921504606846976 < a2.lo)) (some (AV.tup [AV.agg (zaa (⟨0,0⟩)),I 6],[]))
 (brn a0 (some (AV.tup [AV.agg (zaa (⟨w64 (0 - w64 a1.lo),w64 a2.lo⟩)),I 0],[]))
 (some (AV.tup [AV.agg (zaa (⟨w64 a1.lo,w64 a2.lo⟩)),I 0],[])))))))=some y):cw ziU [B a0,AV.agg (zax a1),AV.agg (zax a2)] []=some y:=
 zaj zyq zT [] rfl (by kernel_rfl) (by kernel_rfl) (by kernel_rfl) (by kernel_rfl) (by kernel_rfl) h
theorem zvJ (a0:GratioWide) (a1:Int) {y:AV×Mem} (h:(
 chk ((a1:Int)≠0)<|
 chk ((a1:Int)≠0)<|
 callD zlF (cw zk6 [AV.v (.int .u64 (a0.hi.tmod a1)),AV.v (.int .u64 a0.lo),AV.v (.int .u64 a1)] []) fun (r0:Int×Int) =>
 some (AV.agg (zax (⟨wu64 (a0.hi.tdiv a1),r0.fst⟩)),[]))=some y):cw ziw [AV.agg (zax a0),AV.v (.int .u64 a1)] []=some y:=
 zaj zv4 zT [] rfl (by kernel_rfl) (by kernel_rfl) (by kernel_rfl) (by kernel_rfl) (by kernel_rfl) h
theorem zya (a0:Int) (a1:Int) {y:AV×Mem} (h:(
 callD zi7 (cw zlo [AV.v (.int .u64 a0),AV.v (.int .u64 a1)] []) fun (r0:Int×Int) =>
 some (AV.agg (zax (⟨r0.fst,r0.snd⟩)),[]))=some y):cw zgl [AV.v (.int .u64 a0),AV.v (.int .u64 a1)] []=some y:=
 zaj zx7 zT [] rfl (by kernel_rfl) (by kernel_rfl) (by kernel_rfl) (by kernel_rfl) (by kernel_rfl) h
theorem zAq (a0:Bool) (a1:Gref01Wide) (a2:Bool) (a3:Gref01Wide) {y:AV×Mem} (h:(
 brn (a0 == a2) (callD zn5 (cw zqy [AV.agg (zal a1),AV.agg (zal a3)] []) fun (r0:Gref01Wide) =>
 some (AV.tup [B a0,AV.agg (zal r0)],[]))
 (callD zgq (cw zhI [AV.agg (zal a1),AV.agg (zal a3)] []) fun (r1:Int) =>
 brn (decide (0≤r1)) (callD zhM (cw zjZ [AV.agg (zal a1),AV.agg (zal a3)] []) fun (r2:Gref01Wide) =>
 some (AV.tup [B a0,AV.agg (zal r2)],[]))
 (callD zhM (cw zjZ [AV.agg (zal a3),AV.agg (zal a1)] []) fun (r3:Gref01Wide) =>
 some (AV.tup [B a2,AV.agg (zal r3)],[]))))=some y):cw zm3 [B a0,AV.agg (zal a1),B a2,AV.agg (zal a3)] []=some y:=
 zaj zzN zT [] rfl (by kernel_rfl) (by kernel_rfl) (by kernel_rfl) (by kernel_rfl) (by kernel_rfl) h
theorem zyh (a0:Int) (a1:Int) {y:AV×Mem} (h:(
 callD zi7 (cw zlo [AV.v (.int .u64 a0),AV.v (.int .u64 a1)] []) fun (r0:Int×Int) =>
 some (AV.agg (zal (⟨r0.fst,r0.snd⟩)),[]))=some y):cw zcM [AV.v (.int .u64 a0),AV.v (.int .u64 a1)] []=some y:=
 zaj zxA zT [] rfl (by kernel_rfl) (by kernel_rfl) (by kernel_rfl) (by kernel_rfl) (by kernel_rfl) h
theorem zyt (a0:Bool) (a1:Gref01Wide) (a2:Gref01Wide) {y:AV×Mem} (h:(
 callD zh0 (cw zkD [AV.agg (zal a1),AV.agg (zal a2)] []) fun (r0:Gref01Wide) =>
 callD zg3 (cw ziY [AV.agg (zal a1),AV.agg (zal r0)] []) fun (r1:Gref01Wide×Gref01Wide) =>
 callD zg3 (cw ziY [AV.agg (zal a2),AV.agg (zal r0)] []) fun (r2:Gref01Wide×Gref01Wide) =>
 brn (decide (0 < r1.fst.Hi)) (some (AV.tup [AV.agg (zaa (⟨0,0⟩)),I 6],[]))
 (brn (decide (0 < r2.fst.Hi)) (some (AV.tup [AV.agg (zaa (⟨0,0⟩)),I 6],[]))
 (brn (decide (1152921504606846976 < r1.fst.Lo)) (some (AV.tup [AV.agg (zaa (⟨0,0⟩)),I 6],[]))
 (brn (decide (1152921504606846976 < r2.fst.Lo)) (some (AV.tup [AV.agg (zaa (⟨0,0⟩)),I 6],[]))
 (brn a0 (some (AV.tup [AV.agg (zaa (⟨w64 (0 - w64 r1.fst.Lo),w64 r2.fst.Lo⟩)),I 0],[]))
 (some (AV.tup [AV.agg (zaa (⟨w64 r1.fst.Lo,w64 r2.fst.Lo⟩)),I 0],[])))))))=some y):cw zg8 [B a0,AV.agg (zal a1),AV.agg (zal a2)] []=some y:=
 zaj zyA zT [] rfl (by kernel_rfl) (by kernel_rfl) (by kernel_rfl) (by kernel_rfl) (by kernel_rfl) h
theorem zto (a0:GDistribution) {y:AV×Mem} (h:(
 callD zgI (cw zjg [AV.agg (zab a0),I ((↑(List.map zai a0.Counts).length:Int))] []) fun (r0:Int) =>
 some (I r0,[]))=some y):cw zde [AV.agg (zab a0)] []=some y:=
 zaj ztE zT [] rfl (by kernel_rfl) (by kernel_rfl) (by kernel_rfl) (by kernel_rfl) (by kernel_rfl) h
theorem ztv (a0:GDistribution) {y:AV×Mem} (h:(
 callD zbn (cw zbC [AV.agg (zab a0)] []) fun (r0:Bool) =>
 brn (!r0) (some (AV.tup [I 0,I 1],[]))
 (callD zcK (cw zde [AV.agg (zab a0)] []) fun (r1:Int) =>
 brn (r1 == 0) (some (AV.tup [I 0,I 10],[]))
 (some (AV.tup [I r1,I 0],[]))))=some y):cw zgO [AV.agg (zab a0)] []=some y:=
 zaj zs5 zT [] rfl (by kernel_rfl) (by kernel_rfl) (by kernel_rfl) (by kernel_rfl) (by kernel_rfl) h
theorem zCa (a0:Int) (a1:Int) {y:AV×Mem} (h:(
 brn (a1 == 0) (some (AV.tup [AV.agg (zaa (⟨0,0⟩)),I 2],[]))
 (callD zcA (cw zb3 [I a0] []) fun (r0:Int) =>
 callD zcA (cw zb3 [I a1] []) fun (r1:Int) =>
 callD zkF (cw zn6 [AV.agg (zbX (⟨!decide (a0 < 0) == decide (a1 < 0),⟨0,r0⟩⟩)),AV.v (.int .u64 r1)] []) fun (r2:GRatio×Int) =>
 some (AV.tup [AV.agg (zaa r2.fst),I r2.snd],[])))=some y):cw zkh [I a0,I a1] []=some y:=
 zaj zCs zT [] rfl (by kernel_rfl) (by kernel_rfl) (by kernel_rfl) (by kernel_rfl) (by kernel_rfl) h
noncomputable def zed (a0:GDistribution) (x0:Int) (x1:Int):Option (AV×Mem):=pt zjX 1 ⟨[(3,I x0),(7,AV.sl 1 (List.map zai a0.Counts)),(8,I ((↑(List.map zai a0.Counts).length:Int))),(9,I x1)],[]⟩
theorem ziV (a0:GDistribution) (x0:Int) (x1:Int) {y:AV×Mem} (h:(
 brn (decide (x1 < (↑(List.map zai a0.Counts).length:Int))) (chk ((0:Int)≤x1)<|
 elemD zaw (List.map zai a0.Counts) x1.toNat fun (c2:Int) =>
 zed a0 (w64 (x0+w64 (x1*c2))) (w64 (x1+1)))
 (some (I x0,[])))=some y):zed a0 x0 x1=some y:=
 pt_of zT [] (by kernel_rfl) h
theorem zpv (a0:GDistribution) {y:AV×Mem} (h:(
 zed a0 0 0)=some y):cw zeL [AV.agg (zab a0)] []=some y:=
 zaj zjX zT [] rfl (by kernel_rfl) (by kernel_rfl) (by kernel_rfl) (by kernel_rfl) (by kernel_rfl) h
theorem zzM (a0:GDistribution) {y:AV×Mem} (h:(
 callD zcZ (cw zdh [AV.agg (zab a0)] []) fun (r0:Bool) =>
 brn (!r0) (some (I 1,[]))
 (callD zd4 (cw zeG [AV.agg (zab a0)] []) fun (r1:Int) =>
 brn (r1 == 0) (some (I 10,[]))
 (some (I 0,[]))))=some y):cw zmS [AV.agg (zab a0)] []=some y:=
 zaj zz8 zT [] rfl (by kernel_rfl) (by kernel_rfl) (by kernel_rfl) (by kernel_rfl) (by kernel_rfl) h
noncomputable def zmO (a0:GDistribution) (x0:Int) (x1:Int):Option (AV×Mem):=pt zwm 1 ⟨[(1,AV.loc 1 1 0 0),(3,I x0),(4,I x1)],[(1,⟨1,zan,[zab a0],true⟩)]⟩
theorem ztV (a0:GDistribution) (x0:Int) (x1:Int) {y:AV×Mem} (h:(
 brn (decide (x1 < (↑(List.map zai a0.Counts).length:Int))) (chk ((0:Int)≤x1)<|
 elemD zaw (List.map zai a0.Counts) x1.toNat fun (c2:Int) =>
 zmO a0 (w64 (x0+w64 (x1*c2))) (w64 (x1+1)))
 (some (I x0,[])))=some y):zmO a0 x0 x1=some y:=
 pt_of zT [] (by kernel_rfl) h
theorem zB8 (a0:GDistribution) {y:AV×Mem} (h:(
 zmO a0 0 0)=some y):cw zo9 [AV.agg (zab a0)] []=some y:=
 zaj zwm zT [] rfl (by kernel_rfl) (by kernel_rfl) (by kernel_rfl) (by kernel_rfl) (by kernel_rfl) h
noncomputable def zfa (a0:List Int) (a1:Int) (x0:Int):Option (AV×Mem):=pt zmH 1 ⟨[(0,AV.sl 1 (List.map zai a0)),(1,I a1),(7,I ((↑(List.map zai a0).length:Int))),(8,I x0)],[]⟩
theorem zhb (a0:List Int) (a1:Int) (x0:Int) {y:AV×Mem} (h:(
 brn (decide (x0 < (↑(List.map zai a0).length:Int))) (chk ((0:Int)≤x0)<|
 elemD zaw (List.map zai a0) x0.toNat fun (c1:Int) =>
 brn (a1 == c1) (some (I x0,[]))
 (zfa a0 a1 (w64 (x0+1))))
 (some (I (-1),[])))=some y):zfa a0 a1 x0=some y:=
 pt_of zT [] (by kernel_rfl) h
theorem zrS (a0:List Int) (a1:Int) {y:AV×Mem} (h:(
 zfa a0 a1 0)=some y):cw zmJ [AV.sl 1 (List.map zai a0),I a1] []=some y:=
 zaj zmH zT [] rfl (by kernel_rfl) (by kernel_rfl) (by kernel_rfl) (by kernel_rfl) (by kernel_rfl) h
noncomputable def za9 (a0:List GRatio) (a1:Int) (a2:Int) (x0:List (List AV)) (x1:Int):Option (AV×Mem):=pt zdg 1 ⟨[(0,AV.row 1000 2 0 ((List.map zaa a0).length)),(1,I a1),(2,I a2),(3,AV.fn zah []),(8,I x1)],[(1000,⟨2,zae,x0,false⟩)]⟩
noncomputable def zb0 (a0:List GRatio) (a1:Int) (a2:Int) (x1:Int) (x2:List (List AV)) (x3:Int):Option (AV×Mem):=pt zdg 2 ⟨[(0,AV.row 1000 2 0 ((List.map zaa a0).length)),(1,I a1),(2,I a2),(3,AV.fn zah []),(8,I x1),(9,I x3)],[(1000,⟨2,zae,x2,false⟩)]⟩
theorem ze3 (a0:List GRatio) (a1:Int) (a2:Int) (x0:List (List AV)) (x1:Int) {y:AV×Mem} (h:(
 brn (decide (x1 < a2)) (zb0 a0 a1 a2 x1 x0 x1)
 (some (AV.tup [],[(1000,⟨2,zae,x0,false⟩)])))=some y):za9 a0 a1 a2 x0 x1=some y:=
 pt_of zT [] (by kernel_rfl) h
theorem ze2 (a0:List GRatio) (a1:Int) (a2:Int) (x1:Int) (x2:List (List AV)) (x3:Int) {y:AV×Mem} (h:(
 brn (decide (a1 < x3)) (chk ((0:Int)≤x3)<|
 chk ((x3:Int) < ((↑(List.map zaa a0).length:Int)))<|
 elemD zaf x2 (0+x3.toNat) fun (c4:GRatio) =>
 chk ((0:Int)≤(w64 (x3 - 1)))<|
 chk ((w64 (x3 - 1):Int) < ((↑(List.map zaa a0).length:Int)))<|
 elemD zaf x2 (0+(w64 (x3 - 1)).toNat) fun (c5:GRatio) =>
 callD zaH (cw zah [AV.agg (zaa c4),AV.agg (zaa c5)] []) fun (r6:Int) =>
 brn (decide (r6 < 0)) (chk ((0:Int)≤(w64 (x3 - 1)))<|
 chk ((w64 (x3 - 1):Int) < ((↑(List.map zaa a0).length:Int)))<|
 elemD zaf x2 (0+(w64 (x3 - 1)).toNat) fun (c7:GRatio) =>
 chk ((0:Int)≤x3)<|
 chk ((x3:Int) < ((↑(List.map zaa a0).length:Int)))<|
 elemD zaf x2 (0+x3.toNat) fun (c8:GRatio) =>
 chk ((0:Int)≤x3)<|
 chk ((x3:Int) < ((↑(List.map zaa a0).length:Int)))<|
 elemD zaf x2 (0+x3.toNat) fun (c9:GRatio) =>
 chk ((0:Int)≤(w64 (x3 - 1)))<|
 chk ((w64 (x3 - 1):Int) < ((↑(List.map zaa a0).length:Int)))<|
 elemD zaf (List.set x2 (0+x3.toNat) (zaa c7)) (0+(w64 (x3 - 1)).toNat) fun (c10:GRatio) =>
 zb0 a0 a1 a2 x1 (List.set (List.set x2 (0+x3.toNat) (zaa c7)) (0+(w64 (x3 - 1)).toNat) (zaa c8)) (w64 (x3 - 1)))
 (za9 a0 a1 a2 x2 (w64 (x1+1))))
 (za9 a0 a1 a2 x2 (w64 (x1+1))))=some y):zb0 a0 a1 a2 x1 x2 x3=some y:=
 pt_of zT [] (by kernel_rfl) h
theorem zj5 (a0:List GRatio) (a1:Int) (a2:Int) {y:AV×Mem} (h:(
 za9 a0 a1 a2 (List.map zaa a0) (w64 (a1+1)))=some y):cw zdm [AV.row 1000 2 0 (List.length (List.map zaa a0)),I a1,I a2,AV.fn zah []] [(1000,⟨2,zae,List.map zaa a0,false⟩)]=some y:=
 zaj zdg zT [] rfl (by kernel_rfl) (by kernel_rfl) (by kernel_rfl) (by kernel_rfl) (by kernel_rfl) h
end Go.Proofs.YtbhkcgaanaelfaaGreat
