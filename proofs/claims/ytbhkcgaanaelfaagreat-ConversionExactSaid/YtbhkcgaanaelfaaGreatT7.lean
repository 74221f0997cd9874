/- What the functions compute, between two cut points: printed by a program, checked by the kernel. -/
import Derived.Test.YtbhkcgaanaelfaaGreatAnn
namespace Go.Proofs.YtbhkcgaanaelfaaGreat
open Go.Ab
set_option maxRecDepth 100000
set_option linter.unusedVariables false
noncomputable def zbb (a0:List GRatio) (x0:List (List AV)) (x1:Int) (x2:Int) (x3:Int) (x4:Bool) (x5:Bool):Option (AV×Mem):=pt zaT 1 ⟨[(0,AV.row 1000 2 0 ((List.map zaa a0).length)),(1,I x1),(2,I x2),(3,I x3),(4,AV.fn zag []),(10,B x4),(11,B x5)],[(1000,⟨2,zac,x0,false⟩)]⟩
noncomputable def zdm (a0:List GRatio) (x1:Int) (x2:Int) (x3:Int) (x4:Bool) (x5:Bool) (r8:(List GRatio)):Option (AV×Mem):=pt zaT 1010 ⟨[(0,AV.row 1000 2 0 ((List.map zaa a0).length)),(1,I x1),(2,I x2),(3,I (w64 (x3 - 1))),(4,AV.fn zag []),(10,B x4),(11,B x5),(12,I (w64 (x2 - x1)))],[(1000,⟨2,zac,List.map zaa r8,false⟩)]⟩
noncomputable def zc1 (a0:List GRatio) (x0:List (List AV)) (x1:Int) (x2:Int) (x3:Int) (x4:Bool) (x5:Bool):Option (AV×Mem):=pt zaT 1010 ⟨[(0,AV.row 1000 2 0 ((List.map zaa a0).length)),(1,I x1),(2,I x2),(3,I x3),(4,AV.fn zag []),(10,B x4),(11,B x5),(12,I (w64 (x2 - x1))),(39,B false)],[(1000,⟨2,zac,x0,false⟩)]⟩
noncomputable def zbi (a0:List GRatio) (x1:Int) (x2:Int) (x4:Bool) (x5:Bool) (x11:List (List AV)) (x12:Int) (x13:Int):Option (AV×Mem):=pt zaT 1015 ⟨[(0,AV.row 1000 2 0 ((List.map zaa a0).length)),(1,I x1),(2,I x2),(3,I x12),(4,AV.fn zag []),(10,B x4),(11,B x5),(12,I (w64 (x2 - x1))),(13,I x13),(14,I 1)],[(1000,⟨2,zac,x11,false⟩)]⟩
noncomputable def zb5 (a0:List GRatio) (x1:Int) (x2:Int) (x4:Bool) (x5:Bool) (x14:List (List AV)) (x15:Int) (x16:Int) (x17:Int):Option (AV×Mem):=pt zaT 1015 ⟨[(0,AV.row 1000 2 0 ((List.map zaa a0).length)),(1,I x1),(2,I x2),(3,I x15),(4,AV.fn zag []),(10,B x4),(11,B x5),(12,I (w64 (x2 - x1))),(13,I x16),(14,I x17),(56,B false)],[(1000,⟨2,zac,x14,false⟩)]⟩
noncomputable def zcp (a0:List GRatio) (x1:Int) (x2:Int) (x4:Bool) (x5:Bool) (x21:List (List AV)) (x22:Int) (x23:Int):Option (AV×Mem):=pt zaT 1017 ⟨[(0,AV.row 1000 2 0 ((List.map zaa a0).length)),(1,I x1),(2,I x2),(3,I x22),(4,AV.fn zag []),(10,B x4),(11,B x5),(12,I (w64 (x2 - x1))),(13,I x23),(80,B false)],[(1000,⟨2,zac,x21,false⟩)]⟩
noncomputable def zaO (a0:List GRatio) (x1:Int) (x2:Int) (x4:Bool) (x5:Bool) (x24:List (List AV)) (x25:Int) (x26:Int):Option (AV×Mem):=pt zaT 1017 ⟨[(0,AV.row 1000 2 0 ((List.map zaa a0).length)),(1,I x1),(2,I x2),(3,I x25),(4,AV.fn zag []),(10,B x4),(11,B x5),(12,I (w64 (x2 - x1))),(13,I x26),(75,B false)],[(1000,⟨2,zac,x24,false⟩)]⟩
noncomputable def zbj (a0:List GRatio) (x1:Int) (x2:Int) (x4:Bool) (x5:Bool) (x32:List (List AV)) (x33:Int) (x34:Int):Option (AV×Mem):=pt zaT 1020 ⟨[(0,AV.row 1000 2 0 ((List.map zaa a0).length)),(1,I x1),(2,I x2),(3,I x33),(4,AV.fn zag []),(10,B x4),(11,B x5),(12,I (w64 (x2 - x1))),(13,I x34),(97,B false)],[(1000,⟨2,zac,x32,false⟩)]⟩
theorem zcL (a0:List GRatio) (x0:List (List AV)) (x1:Int) (x2:Int) (x3:Int) (x4:Bool) (x5:Bool) {y:AV×Mem} (h:(
 brn (decide (w64 (x2 - x1)≤12)) (callD zbf (cw zc6 [AV.row 1000 2 0 ((List.map zaa a0).length),I x1,I x2,AV.fn zag []] [(1000,⟨2,zac,x0,false⟩)]) fun (r6:(List GRatio)) =>
 some (AV.tup [],[(1000,⟨2,zac,List.map zaa r6,false⟩)]))
 (brn (x3 == 0) (callD zbh (cw zdQ [AV.row 1000 2 0 ((List.map zaa a0).length),I x1,I x2,AV.fn zag []] [(1000,⟨2,zac,x0,false⟩)]) fun (r7:(List GRatio)) =>
 some (AV.tup [],[(1000,⟨2,zac,List.map zaa r7,false⟩)]))
 (brn (!x4) (callD zaQ (cw zc5 [AV.row 1000 2 0 ((List.map zaa a0).length),I x1,I x2,AV.fn zag []] [(1000,⟨2,zac,x0,false⟩)]) fun (r8:(List GRatio)) =>
 zdm a0 x1 x2 x3 x4 x5 r8)
 (zc1 a0 x0 x1 x2 x3 x4 x5))))=some y):zbb a0 x0 x1 x2 x3 x4 x5=some y:=
 pt_of zT [20,17,15,10] (by kernel_rfl) h
theorem zii (a0:List GRatio) (x1:Int) (x2:Int) (x3:Int) (x4:Bool) (x5:Bool) (r8:(List GRatio)) {y:AV×Mem} (h:(
 chk (0+(List.map zaa a0).length≤(List.map zaa r8).length)<|
 callD za6 (cw zcw [AV.sl 2 (List.take ((List.map zaa a0).length) (List.map zaa r8)),I x1,I x2,AV.fn zag []] []) fun (r9:Int×Int) =>
 brn (r9.snd == 2) (callD za3 (cw zco [AV.row 1000 2 0 ((List.map zaa a0).length),I x1,I x2,AV.fn zag []] [(1000,⟨2,zac,List.map zaa r8,false⟩)]) fun (r10:(List GRatio)) =>
 zbi a0 x1 x2 x4 x5 (List.map zaa r10) (w64 (x3 - 1)) (w64 (w64 (x2 - 1) - w64 (r9.fst - x1))))
 (zb5 a0 x1 x2 x4 x5 (List.map zaa r8) (w64 (x3 - 1)) r9.fst r9.snd))=some y):zdm a0 x1 x2 x3 x4 x5 r8=some y:=
 pt_of zT [20,17,15,10] (by kernel_rfl) h
theorem zhO (a0:List GRatio) (x0:List (List AV)) (x1:Int) (x2:Int) (x3:Int) (x4:Bool) (x5:Bool) {y:AV×Mem} (h:(
 chk (0+(List.map zaa a0).length≤x0.length)<|
 callD za6 (cw zcw [AV.sl 2 (List.take ((List.map zaa a0).length) x0),I x1,I x2,AV.fn zag []] []) fun (r18:Int×Int) =>
 brn (r18.snd == 2) (callD za3 (cw zco [AV.row 1000 2 0 ((List.map zaa a0).length),I x1,I x2,AV.fn zag []] [(1000,⟨2,zac,x0,false⟩)]) fun (r19:(List GRatio)) =>
 zbi a0 x1 x2 x4 x5 (List.map zaa r19) x3 (w64 (w64 (x2 - 1) - w64 (r18.fst - x1))))
 (zb5 a0 x1 x2 x4 x5 x0 x3 r18.fst r18.snd))=some y):zc1 a0 x0 x1 x2 x3 x4 x5=some y:=
 pt_of zT [20,17,15,10] (by kernel_rfl) h
theorem zin (a0:List GRatio) (x1:Int) (x2:Int) (x4:Bool) (x5:Bool) (x11:List (List AV)) (x12:Int) (x13:Int) {y:AV×Mem} (h:(
 brn x4 (brn x5 (brn (1 == 1) (callD zaF (cw zbI [AV.row 1000 2 0 ((List.map zaa a0).length),I x1,I x2,AV.fn zag []] [(1000,⟨2,zac,x11,false⟩)]) fun (r20:Bool×(List GRatio)) =>
 brn r20.fst (some (AV.tup [],[(1000,⟨2,zac,List.map zaa r20.snd,false⟩)]))
 (zcp a0 x1 x2 x4 x5 (List.map zaa r20.snd) x12 x13))
 (zaO a0 x1 x2 x4 x5 x11 x12 x13))
 (zaO a0 x1 x2 x4 x5 x11 x12 x13))
 (zaO a0 x1 x2 x4 x5 x11 x12 x13))=some y):zbi a0 x1 x2 x4 x5 x11 x12 x13=some y:=
 pt_of zT [20,17,15,10] (by kernel_rfl) h
theorem zhI (a0:List GRatio) (x1:Int) (x2:Int) (x4:Bool) (x5:Bool) (x14:List (List AV)) (x15:Int) (x16:Int) (x17:Int) {y:AV×Mem} (h:(
 brn x4 (brn x5 (brn (x17 == 1) (callD zaF (cw zbI [AV.row 1000 2 0 ((List.map zaa a0).length),I x1,I x2,AV.fn zag []] [(1000,⟨2,zac,x14,false⟩)]) fun (r27:Bool×(List GRatio)) =>
 brn r27.fst (some (AV.tup [],[(1000,⟨2,zac,List.map zaa r27.snd,false⟩)]))
 (zcp a0 x1 x2 x4 x5 (List.map zaa r27.snd) x15 x16))
 (zaO a0 x1 x2 x4 x5 x14 x15 x16))
 (zaO a0 x1 x2 x4 x5 x14 x15 x16))
 (zaO a0 x1 x2 x4 x5 x14 x15 x16))=some y):zb5 a0 x1 x2 x4 x5 x14 x15 x16 x17=some y:=
 pt_of zT [20,17,15,10] (by kernel_rfl) h
theorem zdk (a0:List GRatio) (x1:Int) (x2:Int) (x4:Bool) (x5:Bool) (x21:List (List AV)) (x22:Int) (x23:Int) {y:AV×Mem} (h:(
 brn (decide (0 < x1)) (chk ((0:Int)≤(w64 (x1 - 1)))<|
 chk ((w64 (x1 - 1):Int) < ((↑(List.map zaa a0).length:Int)))<|
 elemD zad x21 (0+(w64 (x1 - 1)).toNat) fun (c28:GRatio) =>
 chk ((0:Int)≤x23)<|
 chk ((x23:Int) < ((↑(List.map zaa a0).length:Int)))<|
 elemD zad x21 (0+x23.toNat) fun (c29:GRatio) =>
 callD zaB (cw zag [AV.agg (zaa c28),AV.agg (zaa c29)] []) fun (r30:Int) =>
 brn (!decide (r30 < 0)) (callD zbc (cw zb7 [AV.row 1000 2 0 ((List.map zaa a0).length),I x1,I x2,I x23,AV.fn zag []] [(1000,⟨2,zac,x21,false⟩)]) fun (r31:Int×(List GRatio)) =>
 zbb a0 (List.map zaa r31.snd) r31.fst x2 x22 x4 x5)
 (zbj a0 x1 x2 x4 x5 x21 x22 x23))
 (zbj a0 x1 x2 x4 x5 x21 x22 x23))=some y):zcp a0 x1 x2 x4 x5 x21 x22 x23=some y:=
 pt_of zT [20,17,15,10] (by kernel_rfl) h
theorem zc3 (a0:List GRatio) (x1:Int) (x2:Int) (x4:Bool) (x5:Bool) (x24:List (List AV)) (x25:Int) (x26:Int) {y:AV×Mem} (h:(
 brn (decide (0 < x1)) (chk ((0:Int)≤(w64 (x1 - 1)))<|
 chk ((w64 (x1 - 1):Int) < ((↑(List.map zaa a0).length:Int)))<|
 elemD zad x24 (0+(w64 (x1 - 1)).toNat) fun (c35:GRatio) =>
 chk ((0:Int)≤x26)<|
 chk ((x26:Int) < ((↑(List.map zaa a0).length:Int)))<|
 elemD zad x24 (0+x26.toNat) fun (c36:GRatio) =>
 callD zaB (cw zag [AV.agg (zaa c35),AV.agg (zaa c36)] []) fun (r37:Int) =>
 brn (!decide (r37 < 0)) (callD zbc (cw zb7 [AV.row 1000 2 0 ((List.map zaa a0).length),I x1,I x2,I x26,AV.fn zag []] [(1000,⟨2,zac,x24,false⟩)]) fun (r38:Int×(List GRatio)) =>
 zbb a0 (List.map zaa r38.snd) r38.fst x2 x25 x4 x5)
 (zbj a0 x1 x2 x4 x5 x24 x25 x26))
 (zbj a0 x1 x2 x4 x5 x24 x25 x26))=some y):zaO a0 x1 x2 x4 x5 x24 x25 x26=some y:=
 pt_of zT [20,17,15,10] (by kernel_rfl) h
theorem zeY (a0:List GRatio) (x1:Int) (x2:Int) (x4:Bool) (x5:Bool) (x32:List (List AV)) (x33:Int) (x34:Int) {y:AV×Mem} (h:(
 callD zbV (cw zcM [AV.row 1000 2 0 ((List.map zaa a0).length),I x1,I x2,I x34,AV.fn zag []] [(1000,⟨2,zac,x32,false⟩)]) fun (r39:(Int×Bool)×(List GRatio)) =>
 chk ((8:Int)≠0)<|
 brn (decide (w64 (r39.fst.fst - x1) < w64 (x2 - r39.fst.fst))) (callD zaz (cw zcb [AV.row 1000 2 0 ((List.map zaa a0).length),I x1,I r39.fst.fst,I x33,AV.fn zag []] [(1000,⟨2,zac,List.map zaa r39.snd,false⟩)]) fun (r40:(List GRatio)) =>
 zbb a0 (List.map zaa r40) (w64 (r39.fst.fst+1)) x2 x33 (decide (w64 ((w64 (x2 - x1)).tdiv 8)≤w64 (r39.fst.fst - x1))) r39.fst.snd)
 (callD zaz (cw zcb [AV.row 1000 2 0 ((List.map zaa a0).length),I (w64 (r39.fst.fst+1)),I x2,I x33,AV.fn zag []] [(1000,⟨2,zac,List.map zaa r39.snd,false⟩)]) fun (r41:(List GRatio)) =>
 zbb a0 (List.map zaa r41) x1 r39.fst.fst x33 (decide (w64 ((w64 (x2 - x1)).tdiv 8)≤w64 (x2 - r39.fst.fst))) r39.fst.snd))=some y):zbj a0 x1 x2 x4 x5 x32 x33 x34=some y:=
 pt_of zT [20,17,15,10] (by kernel_rfl) h
theorem zjV (a0:List GRatio) (a1:Int) (a2:Int) (a3:Int) {y:AV×Mem} (h:(
 zbb a0 (List.map zaa a0) a1 a2 a3 true true)=some y):cw zcb [AV.row 1000 2 0 (List.length (List.map zaa a0)),I a1,I a2,I a3,AV.fn zag []] [(1000,⟨2,zac,List.map zaa a0,false⟩)]=some y:=
 zaj zaT zT [20,17,15,10] rfl (by kernel_rfl) (by kernel_rfl) (by kernel_rfl) (by kernel_rfl) (by kernel_rfl) h
theorem e_bits_Len (a0:Int) {y:AV×Mem} (h:(
 callD zjl (cw ziR [AV.v (.int .u64 a0)] []) fun (r0:Int) =>
 some (I r0,[]))=some y):cw zmD [AV.v (.int .u64 a0)] []=some y:=
 zaj R_bits_Len zT [] rfl (by kernel_rfl) (by kernel_rfl) (by kernel_rfl) (by kernel_rfl) (by kernel_rfl) h
theorem zoA (a0:Int) (a1:Int) {y:AV×Mem} (h:(
 callD zdg (cw zdO [I a0] []) fun (r0:Int) =>
 callD zdW (cw zfo [AV.v (.int .u64 r0),AV.v (.int .u64 a1)] []) fun (r1:GratioWide) =>
 some (AV.agg (zcU (⟨decide (a0 < 0),⟨r1.hi,r1.lo⟩⟩)),[]))=some y):cw zdt [I a0,AV.v (.int .u64 a1)] []=some y:=
 zaj zoG zT [] rfl (by kernel_rfl) (by kernel_rfl) (by kernel_rfl) (by kernel_rfl) (by kernel_rfl) h
theorem zo8 (a0:GratioWide) (a1:GratioWide) {y:AV×Mem} (h:(
 callD zfQ (cw zfS [AV.v (.int .u64 a0.hi),AV.v (.int .u64 a1.hi)] []) fun (r0:Int) =>
 brn (r0 != 0) (some (I r0,[]))
 (callD zfQ (cw zfS [AV.v (.int .u64 a0.lo),AV.v (.int .u64 a1.lo)] []) fun (r1:Int) =>
 some (I r1,[])))=some y):cw zdJ [AV.agg (zax a0),AV.agg (zax a1)] []=some y:=
 zaj zpq zT [] rfl (by kernel_rfl) (by kernel_rfl) (by kernel_rfl) (by kernel_rfl) (by kernel_rfl) h
theorem zyV (a0:GRatio) (a1:GRatio) {y:AV×Mem} (h:(
 callD zbo (cw zbm [AV.agg (zaa a0)] []) fun (r0:Bool) =>
 brn (!r0) (some (AV.tup [AV.agg (zaa (⟨0,0⟩)),I 1],[]))
 (callD zbo (cw zbm [AV.agg (zaa a1)] []) fun (r1:Bool) =>
 brn (!r1) (some (AV.tup [AV.agg (zaa (⟨0,0⟩)),I 1],[]))
 (callD zd4 (cw zeq [AV.agg (zaa a0),AV.agg (zaa (⟨w64 (0 - a1.Num),a1.Den⟩))] []) fun (r2:GRatio×Int) =>
 some (AV.tup [AV.agg (zaa r2.fst),I r2.snd],[]))))=some y):cw zdG [AV.agg (zaa a0),AV.agg (zaa a1)] []=some y:=
 zaj zxU zT [] rfl (by kernel_rfl) (by kernel_rfl) (by kernel_rfl) (by kernel_rfl) (by kernel_rfl) h
theorem zyb (a0:GRatio) (a1:GRatio) {y:AV×Mem} (h:(
 callD zbo (cw zbm [AV.agg (zaa a0)] []) fun (r0:Bool) =>
 brn (!r0) (some (AV.tup [AV.agg (zaa (⟨0,0⟩)),I 1],[]))
 (callD zbo (cw zbm [AV.agg (zaa a1)] []) fun (r1:Bool) =>
 brn (!r1) (some (AV.tup [AV.agg (zaa (⟨0,0⟩)),I 1],[]))
 (callD za7 (cw zbd [I a0.Num] []) fun (r2:Int) =>
 callD za7 (cw zbd [I a1.Num] []) fun (r3:Int) =>
 callD zcf (cw zcC [AV.v (.int .u64 r2),AV.v (.int .u64 r3)] []) fun (r4:Gref01Wide) =>
 callD za7 (cw zbd [I a0.Den] []) fun (r5:Int) =>
 callD za7 (cw zbd [I a1.Den] []) fun (r6:Int) =>
 callD zcf (cw zcC [AV.v (.int .u64 r5),AV.v (.int .u64 r6)] []) fun (r7:Gref01Wide) =>
 callD zf3 (cw zhf [B (!decide (a0.Num < 0) == decide (a1.Num < 0)),AV.agg (zai r4),AV.agg (zai r7)] []) fun (r8:GRatio×Int) =>
 some (AV.tup [AV.agg (zaa r8.fst),I r8.snd],[]))))=some y):cw zh3 [AV.agg (zaa a0),AV.agg (zaa a1)] []=some y:=
 zaj zyG zT [] rfl (by kernel_rfl) (by kernel_rfl) (by kernel_rfl) (by kernel_rfl) (by kernel_rfl) h
noncomputable def zkh (x0:Int) (x1:Int):Option (AV×Mem):=pt zsn 1 ⟨[(0,AV.v (.int .u64 x0)),(1,AV.v (.int .u64 x1))],[]⟩
theorem zwv (x0:Int) (x1:Int) {y:AV×Mem} (h:(
 brn (x1 != 0) (chk ((x1:Int)≠0)<|
 zkh x1 (x0.tmod x1))
 (some (AV.v (.int .u64 x0),[])))=some y):zkh x0 x1=some y:=
 pt_of zT [] (by kernel_rfl) h
theorem zyN (a0:Int) (a1:Int) {y:AV×Mem} (h:(
 zkh a0 a1)=some y):cw zfV [AV.v (.int .u64 a0),AV.v (.int .u64 a1)] []=some y:=
 zaj zsn zT [] rfl (by kernel_rfl) (by kernel_rfl) (by kernel_rfl) (by kernel_rfl) (by kernel_rfl) h
theorem zsc (a0:Int) {y:AV×Mem} (h:(
 brn (decide (a0 < 0)) (some (AV.v (.int .u64 (wu64 (0 - wu64 a0))),[]))
 (some (AV.v (.int .u64 (wu64 a0)),[])))=some y):cw zdO [I a0] []=some y:=
 zaj zr4 zT [] rfl (by kernel_rfl) (by kernel_rfl) (by kernel_rfl) (by kernel_rfl) (by kernel_rfl) h
noncomputable def zgW (x0:Gref01Wide) (x1:Gref01Wide):Option (AV×Mem):=pt znS 1 ⟨[(2,AV.loc 2 2 0 0),(3,AV.loc 3 2 0 0),(4,AV.loc 4 2 0 0)],[(2,⟨2,zaN,[zai x0],true⟩),(3,⟨2,zaN,[zai x1],true⟩),(4,⟨2,zaN,[zai (⟨0,0⟩)],true⟩)]⟩
theorem zmp (x0:Gref01Wide) (x1:Gref01Wide) {y:AV×Mem} (h:(
 brn (!(x1.Hi == 0 && (x1.Lo == 0 && true))) (callD zf0 (cw zg5 [AV.agg (zai x0),AV.agg (zai x1)] []) fun (r2:Gref01Wide×Gref01Wide) =>
 zgW x1 r2.snd)
 (some (AV.agg (zai x0),[])))=some y):zgW x0 x1=some y:=
 pt_of zT [] (by kernel_rfl) h
theorem ztC (a0:Gref01Wide) (a1:Gref01Wide) {y:AV×Mem} (h:(
 zgW a0 a1)=some y):cw ziD [AV.agg (zai a0),AV.agg (zai a1)] []=some y:=
 zaj znS zT [] rfl (by kernel_rfl) (by kernel_rfl) (by kernel_rfl) (by kernel_rfl) (by kernel_rfl) h
theorem zw2 (a0:Int) {y:AV×Mem} (h:(
 brn (decide (a0 < 0)) (some (AV.v (.int .u64 (wu64 (wu64 (w64 (0 - w64 (a0+1)))+1))),[]))
 (some (AV.v (.int .u64 (wu64 a0)),[])))=some y):cw zbd [I a0] []=some y:=
 zaj zxJ zT [] rfl (by kernel_rfl) (by kernel_rfl) (by kernel_rfl) (by kernel_rfl) (by kernel_rfl) h
theorem znA (a0:GRatio) {y:AV×Mem} (h:(
 callD zbg (cw zbn [AV.agg (zaa a0)] []) fun (r0:Bool) =>
 brn (!r0) (some (I 0,[]))
 (chk ((a0.Den:Int)≠0)<|
 chk ((a0.Den:Int)≠0)<|
 brn (decide (a0.Num.tmod a0.Den < 0)) (callD zgx (cw zeG [I (w64 (w64 (a0.Num.tdiv a0.Den) - 1)),I (w64 (a0.Num.tmod a0.Den+a0.Den)),I a0.Den] []) fun (r1:Int) =>
 some (I r1,[]))
 (callD zgx (cw zeG [I (w64 (a0.Num.tdiv a0.Den)),I (a0.Num.tmod a0.Den),I a0.Den] []) fun (r2:Int) =>
 some (I r2,[]))))=some y):cw zlf [AV.agg (zaa a0),AV.fn zeG []] []=some y:=
 zaj zt2 zT [] rfl (by kernel_rfl) (by kernel_rfl) (by kernel_rfl) (by kernel_rfl) (by kernel_rfl) h
theorem ztk (a0:Int) (a1:Int) (a2:Int) {y:AV×Mem} (h:(
 brn (decide (w64 (a2 - a1)≤a1)) (some (I (w64 (a0+1)),[]))
 (some (I a0,[])))=some y):cw zeG [I a0,I a1,I a2] []=some y:=
 zaj ztn zT [] rfl (by kernel_rfl) (by kernel_rfl) (by kernel_rfl) (by kernel_rfl) (by kernel_rfl) h
theorem zvu (a0:Int) (a1:Int) {y:AV×Mem} (h:(
 chk ((a1:Int)≠0)<|
 chk ((a1:Int)≠0)<|
 brn (decide (a0.tmod a1 < 0)) (some (I (w64 (w64 (a0.tdiv a1) - 1)),[]))
 (some (I (w64 (a0.tdiv a1)),[])))=some y):cw zmn [I a0,I a1] []=some y:=
 zaj zvH zT [] rfl (by kernel_rfl) (by kernel_rfl) (by kernel_rfl) (by kernel_rfl) (by kernel_rfl) h
theorem zio (a0:GratioSigned) (a1:GratioSigned) {y:AV×Mem} (h:(
 brn (a0.neg == a1.neg) (callD zgQ (cw zjH [AV.agg (zax a0.abs),AV.agg (zax a1.abs)] []) fun (r0:GratioWide) =>
 some (AV.agg (zcU (⟨a0.neg,⟨r0.hi,r0.lo⟩⟩)),[]))
 (callD zcF (cw zdJ [AV.agg (zax a0.abs),AV.agg (zax a1.abs)] []) fun (r1:Int) =>
 brn (decide (0≤r1)) (callD zfj (cw zgE [AV.agg (zax a0.abs),AV.agg (zax a1.abs)] []) fun (r2:GratioWide) =>
 some (AV.agg (zcU (⟨a0.neg,⟨r2.hi,r2.lo⟩⟩)),[]))
 (callD zfj (cw zgE [AV.agg (zax a1.abs),AV.agg (zax a0.abs)] []) fun (r3:GratioWide) =>
 some (AV.agg (zcU (⟨a1.neg,⟨r3.hi,r3.lo⟩⟩)),[]))))=some y):cw zij [AV.agg (zcU a0),AV.agg (zcU a1)] []=some y:=
 zaj zqq zT [] rfl (by kernel_rfl) (by kernel_rfl) (by kernel_rfl) (by kernel_rfl) (by kernel_rfl) h
theorem zsX (a0:GratioWide) (a1:Int) {y:AV×Mem} (h:(
 callD zkU (cw zkN [AV.v (.int .u64 a0.hi),AV.v (.int .u64 a0.lo),AV.v (.int .u64 a1)] []) fun (r0:Int) =>
 some (AV.v (.int .u64 r0),[]))=some y):cw zko [AV.agg (zax a0),AV.v (.int .u64 a1)] []=some y:=
 zaj zsV zT [] rfl (by kernel_rfl) (by kernel_rfl) (by kernel_rfl) (by kernel_rfl) (by kernel_rfl) h
theorem zuw (a0:Bool) (a1:GratioWide) (a2:GratioWide) {y:AV×Mem} (h:(
 brn (a1.hi != 0) (some (AV.tup [AV.agg (zaa (⟨0,0⟩)),I 6],[]))
 (brn (a2.hi != 0) (some (AV.tup [AV.agg (zaa (⟨0,0⟩)),I 6],[]))
 (brn (decide (1152921504606846976 < a1.lo)) (some (AV.tup [AV.agg (zaa (⟨0,0⟩)),I 6],[]))
 (brn (decide (1152921504606846976 < a2.lo)) (some (AV.tup [AV.agg (zaa (⟨0,0⟩)),I 6],[]))
 (brn a0 (some (AV.tup [AV.agg (zaa (⟨w64 (0 - w64 a1.lo),w64 a2.lo⟩)),I 0],[]))
 (some (AV.tup [AV.agg (zaa (⟨w64 a1.lo,w64 a2.lo⟩)),I 0],[])))))))=some y):cw zjm [B a0,AV.agg (zax a1),AV.agg (zax a2)] []=some y:=
 zaj zup zT [] rfl (by kernel_rfl) (by kernel_rfl) (by kernel_rfl) (by kernel_rfl) (by kernel_rfl) h
theorem zrG (a0:GratioWide) (a1:Int) {y:AV×Mem} (h:(
 chk ((a1:Int)≠0)<|
 chk ((a1:Int)≠0)<|
 callD zjf (cw zi0 [AV.v (.int .u64 (a0.hi.tmod a1)),AV.v (.int .u64 a0.lo),AV.v (.int .u64 a1)] []) fun (r0:Int×Int) =>
 some (AV.agg (zax (⟨wu64 (a0.hi.tdiv a1),r0.fst⟩)),[]))=some y):cw zjE [AV.agg (zax a0),AV.v (.int .u64 a1)] []=some y:=
 zaj zrO zT [] rfl (by kernel_rfl) (by kernel_rfl) (by kernel_rfl) (by kernel_rfl) (by kernel_rfl) h
theorem ztX (a0:Int) (a1:Int) {y:AV×Mem} (h:(
 callD zhk (cw ziS [AV.v (.int .u64 a0),AV.v (.int .u64 a1)] []) fun (r0:Int×Int) =>
 some (AV.agg (zax (⟨r0.fst,r0.snd⟩)),[]))=some y):cw zfo [AV.v (.int .u64 a0),AV.v (.int .u64 a1)] []=some y:=
 zaj ztG zT [] rfl (by kernel_rfl) (by kernel_rfl) (by kernel_rfl) (by kernel_rfl) (by kernel_rfl) h
theorem zvA (a0:Bool) (a1:Gref01Wide) (a2:Bool) (a3:Gref01Wide) {y:AV×Mem} (h:(
 brn (a0 == a2) (callD zkP (cw zm8 [AV.agg (zai a1),AV.agg (zai a3)] []) fun (r0:Gref01Wide) =>
 some (AV.tup [B a0,AV.agg (zai r0)],[]))
 (callD zfv (cw zgv [AV.agg (zai a1),AV.agg (zai a3)] []) fun (r1:Int) =>
 brn (decide (0≤r1)) (callD zgr (cw zhU [AV.agg (zai a1),AV.agg (zai a3)] []) fun (r2:Gref01Wide) =>
 some (AV.tup [B a0,AV.agg (zai r2)],[]))
 (callD zgr (cw zhU [AV.agg (zai a3),AV.agg (zai a1)] []) fun (r3:Gref01Wide) =>
 some (AV.tup [B a2,AV.agg (zai r3)],[]))))=some y):cw zj4 [B a0,AV.agg (zai a1),B a2,AV.agg (zai a3)] []=some y:=
 zaj zvR zT [] rfl (by kernel_rfl) (by kernel_rfl) (by kernel_rfl) (by kernel_rfl) (by kernel_rfl) h
theorem zte (a0:Int) (a1:Int) {y:AV×Mem} (h:(
 callD zhk (cw ziS [AV.v (.int .u64 a0),AV.v (.int .u64 a1)] []) fun (r0:Int×Int) =>
 some (AV.agg (zai (⟨r0.fst,r0.snd⟩)),[]))=some y):cw zcC [AV.v (.int .u64 a0),AV.v (.int .u64 a1)] []=some y:=
 zaj ztK zT [] rfl (by kernel_rfl) (by kernel_rfl) (by kernel_rfl) (by kernel_rfl) (by kernel_rfl) h
theorem zuN (a0:Bool) (a1:Gref01Wide) (a2:Gref01Wide) {y:AV×Mem} (h:(
 callD zgz (cw ziD [AV.agg (zai a1),AV.agg (zai a2)] []) fun (r0:Gref01Wide) =>
 callD zf0 (cw zg5 [AV.agg (zai a1),AV.agg (zai r0)] []) fun (r1:Gref01Wide×Gref01Wide) =>
 callD zf0 (cw zg5 [AV.agg (zai a2),AV.agg (zai r0)] []) fun (r2:Gref01Wide×Gref01Wide) =>
 brn (decide (0 < r1.fst.Hi)) (some (AV.tup [AV.agg (zaa (⟨0,0⟩)),I 6],[]))
 (brn (decide (0 < r2.fst.Hi)) (some (AV.tup [AV.agg (zaa (⟨0,0⟩)),I 6],[]))
 (brn (decide (1152921504606846976 < r1.fst.Lo)) (some (AV.tup [AV.agg (zaa (⟨0,0⟩)),I 6],[]))
 (brn (decide (1152921504606846976 < r2.fst.Lo)) (some (AV.tup [AV.agg (zaa (⟨0,0⟩)),I 6],[]))
 (brn a0 (some (AV.tup [AV.agg (zaa (⟨w64 (0 - w64 r1.fst.Lo),w64 r2.fst.Lo⟩)),I 0],[]))
 (some (AV.tup [AV.agg (zaa (⟨w64 r1.fst.Lo,w64 r2.fst.Lo⟩)),I 0],[])))))))=some y):cw zhf [B a0,AV.agg (zai a1),AV.agg (zai a2)] []=some y:=
 zaj zuK zT [] rfl (by kernel_rfl) (by kernel_rfl) (by kernel_rfl) (by kernel_rfl) (by kernel_rfl) h
noncomputable def za9 (a0:List GRatio) (a1:Int) (a2:Int) (x0:List (List AV)) (x1:Int):Option (AV×Mem):=pt zc7 1 ⟨[(0,AV.row 1000 2 0 ((List.map zaa a0).length)),(1,I a1),(2,I a2),(3,AV.fn zag []),(8,I x1)],[(1000,⟨2,zac,x0,false⟩)]⟩
noncomputable def zbX (a0:List GRatio) (a1:Int) (a2:Int) (x1:Int) (x2:List (List AV)) (x3:Int):Option (AV×Mem):=pt zc7 2 ⟨[(0,AV.row 1000 2 0 ((List.map zaa a0).length)),(1,I a1),(2,I a2),(3,AV.fn zag []),(8,I x1),(9,I x3)],[(1000,⟨2,zac,x2,false⟩)]⟩
theorem zen (a0:List GRatio) (a1:Int) (a2:Int) (x0:List (List AV)) (x1:Int) {y:AV×Mem} (h:(
 brn (decide (x1 < a2)) (zbX a0 a1 a2 x1 x0 x1)
 (some (AV.tup [],[(1000,⟨2,zac,x0,false⟩)])))=some y):za9 a0 a1 a2 x0 x1=some y:=
 pt_of zT [] (by kernel_rfl) h
theorem zeo (a0:List GRatio) (a1:Int) (a2:Int) (x1:Int) (x2:List (List AV)) (x3:Int) {y:AV×Mem} (h:(
 brn (decide (a1 < x3)) (chk ((0:Int)≤x3)<|
 chk ((x3:Int) < ((↑(List.map zaa a0).length:Int)))<|
 elemD zad x2 (0+x3.toNat) fun (c4:GRatio) =>
 chk ((0:Int)≤(w64 (x3 - 1)))<|
 chk ((w64 (x3 - 1):Int) < ((↑(List.map zaa a0).length:Int)))<|
 elemD zad x2 (0+(w64 (x3 - 1)).toNat) fun (c5:GRatio) =>
 callD zaB (cw zag [AV.agg (zaa c4),AV.agg (zaa c5)] []) fun (r6:Int) =>
 brn (decide (r6 < 0)) (chk ((0:Int)≤(w64 (x3 - 1)))<|
 chk ((w64 (x3 - 1):Int) < ((↑(List.map zaa a0).length:Int)))<|
 elemD zad x2 (0+(w64 (x3 - 1)).toNat) fun (c7:GRatio) =>
 chk ((0:Int)≤x3)<|
 chk ((x3:Int) < ((↑(List.map zaa a0).length:Int)))<|
 elemD zad x2 (0+x3.toNat) fun (c8:GRatio) =>
 chk ((0:Int)≤x3)<|
 chk ((x3:Int) < ((↑(List.map zaa a0).length:Int)))<|
 elemD zad x2 (0+x3.toNat) fun (c9:GRatio) =>
 chk ((0:Int)≤(w64 (x3 - 1)))<|
 chk ((w64 (x3 - 1):Int) < ((↑(List.map zaa a0).length:Int)))<|
 elemD zad (List.set x2 (0+x3.toNat) (zaa c7)) (0+(w64 (x3 - 1)).toNat) fun (c10:GRatio) =>
 zbX a0 a1 a2 x1 (List.set (List.set x2 (0+x3.toNat) (zaa c7)) (0+(w64 (x3 - 1)).toNat) (zaa c8)) (w64 (x3 - 1)))
 (za9 a0 a1 a2 x2 (w64 (x1+1))))
 (za9 a0 a1 a2 x2 (w64 (x1+1))))=some y):zbX a0 a1 a2 x1 x2 x3=some y:=
 pt_of zT [] (by kernel_rfl) h
theorem zhR (a0:List GRatio) (a1:Int) (a2:Int) {y:AV×Mem} (h:(
 za9 a0 a1 a2 (List.map zaa a0) (w64 (a1+1)))=some y):cw zc6 [AV.row 1000 2 0 (List.length (List.map zaa a0)),I a1,I a2,AV.fn zag []] [(1000,⟨2,zac,List.map zaa a0,false⟩)]=some y:=
 zaj zc7 zT [] rfl (by kernel_rfl) (by kernel_rfl) (by kernel_rfl) (by kernel_rfl) (by kernel_rfl) h
end Go.Proofs.YtbhkcgaanaelfaaGreat
