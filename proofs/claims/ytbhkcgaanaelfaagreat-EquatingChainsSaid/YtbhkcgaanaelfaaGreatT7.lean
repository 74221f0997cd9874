/- What the functions compute, between two cut points: printed by a program, checked by the kernel. -/
import Derived.Test.YtbhkcgaanaelfaaGreatAnn
namespace Go.Proofs.YtbhkcgaanaelfaaGreat
open Go.Ab
set_option maxRecDepth 100000
set_option linter.unusedVariables false
noncomputable def za3 (a0:List GRatio) (x0:List (List AV)) (x1:Int) (x2:Int) (x3:Int) (x4:Bool) (x5:Bool):Option (AV×Mem):=pt zaQ 1 ⟨[(0,AV.row 1000 2 0 ((List.map zaa a0).length)),(1,I x1),(2,I x2),(3,I x3),(4,AV.fn zad []),(10,B x4),(11,B x5)],[(1000,⟨2,zac,x0,false⟩)]⟩
noncomputable def zdd (a0:List GRatio) (x1:Int) (x2:Int) (x3:Int) (x4:Bool) (x5:Bool) (r8:(List GRatio)):Option (AV×Mem):=pt zaQ 1010 ⟨[(0,AV.row 1000 2 0 ((List.map zaa a0).length)),(1,I x1),(2,I x2),(3,I (w64 (x3 - 1))),(4,AV.fn zad []),(10,B x4),(11,B x5),(12,I (w64 (x2 - x1)))],[(1000,⟨2,zac,List.map zaa r8,false⟩)]⟩
noncomputable def zc0 (a0:List GRatio) (x0:List (List AV)) (x1:Int) (x2:Int) (x3:Int) (x4:Bool) (x5:Bool):Option (AV×Mem):=pt zaQ 1010 ⟨[(0,AV.row 1000 2 0 ((List.map zaa a0).length)),(1,I x1),(2,I x2),(3,I x3),(4,AV.fn zad []),(10,B x4),(11,B x5),(12,I (w64 (x2 - x1))),(39,B false)],[(1000,⟨2,zac,x0,false⟩)]⟩
noncomputable def za9 (a0:List GRatio) (x1:Int) (x2:Int) (x4:Bool) (x5:Bool) (x11:List (List AV)) (x12:Int) (x13:Int):Option (AV×Mem):=pt zaQ 1015 ⟨[(0,AV.row 1000 2 0 ((List.map zaa a0).length)),(1,I x1),(2,I x2),(3,I x12),(4,AV.fn zad []),(10,B x4),(11,B x5),(12,I (w64 (x2 - x1))),(13,I x13),(14,I 1)],[(1000,⟨2,zac,x11,false⟩)]⟩
noncomputable def zb7 (a0:List GRatio) (x1:Int) (x2:Int) (x4:Bool) (x5:Bool) (x14:List (List AV)) (x15:Int) (x16:Int) (x17:Int):Option (AV×Mem):=pt zaQ 1015 ⟨[(0,AV.row 1000 2 0 ((List.map zaa a0).length)),(1,I x1),(2,I x2),(3,I x15),(4,AV.fn zad []),(10,B x4),(11,B x5),(12,I (w64 (x2 - x1))),(13,I x16),(14,I x17),(56,B false)],[(1000,⟨2,zac,x14,false⟩)]⟩
noncomputable def zcq (a0:List GRatio) (x1:Int) (x2:Int) (x4:Bool) (x5:Bool) (x21:List (List AV)) (x22:Int) (x23:Int):Option (AV×Mem):=pt zaQ 1017 ⟨[(0,AV.row 1000 2 0 ((List.map zaa a0).length)),(1,I x1),(2,I x2),(3,I x22),(4,AV.fn zad []),(10,B x4),(11,B x5),(12,I (w64 (x2 - x1))),(13,I x23),(80,B false)],[(1000,⟨2,zac,x21,false⟩)]⟩
noncomputable def zaO (a0:List GRatio) (x1:Int) (x2:Int) (x4:Bool) (x5:Bool) (x24:List (List AV)) (x25:Int) (x26:Int):Option (AV×Mem):=pt zaQ 1017 ⟨[(0,AV.row 1000 2 0 ((List.map zaa a0).length)),(1,I x1),(2,I x2),(3,I x25),(4,AV.fn zad []),(10,B x4),(11,B x5),(12,I (w64 (x2 - x1))),(13,I x26),(75,B false)],[(1000,⟨2,zac,x24,false⟩)]⟩
noncomputable def za8 (a0:List GRatio) (x1:Int) (x2:Int) (x4:Bool) (x5:Bool) (x32:List (List AV)) (x33:Int) (x34:Int):Option (AV×Mem):=pt zaQ 1020 ⟨[(0,AV.row 1000 2 0 ((List.map zaa a0).length)),(1,I x1),(2,I x2),(3,I x33),(4,AV.fn zad []),(10,B x4),(11,B x5),(12,I (w64 (x2 - x1))),(13,I x34),(97,B false)],[(1000,⟨2,zac,x32,false⟩)]⟩
theorem zcJ (a0:List GRatio) (x0:List (List AV)) (x1:Int) (x2:Int) (x3:Int) (x4:Bool) (x5:Bool) {y:AV×Mem} (h:(
 brn (decide (w64 (x2 - x1)≤12)) (callD zcf (cw zc3 [AV.row 1000 2 0 ((List.map zaa a0).length),I x1,I x2,AV.fn zad []] [(1000,⟨2,zac,x0,false⟩)]) fun (r6:(List GRatio)) =>
 some (AV.tup [],[(1000,⟨2,zac,List.map zaa r6,false⟩)]))
 (brn (x3 == 0) (callD zbX (cw zdL [AV.row 1000 2 0 ((List.map zaa a0).length),I x1,I x2,AV.fn zad []] [(1000,⟨2,zac,x0,false⟩)]) fun (r7:(List GRatio)) =>
 some (AV.tup [],[(1000,⟨2,zac,List.map zaa r7,false⟩)]))
 (brn (!x4) (callD za5 (cw zc7 [AV.row 1000 2 0 ((List.map zaa a0).length),I x1,I x2,AV.fn zad []] [(1000,⟨2,zac,x0,false⟩)]) fun (r8:(List GRatio)) =>
 zdd a0 x1 x2 x3 x4 x5 r8)
 (zc0 a0 x0 x1 x2 x3 x4 x5))))=some y):za3 a0 x0 x1 x2 x3 x4 x5=some y:=
 pt_of zT [20,17,15,10] (by kernel_rfl) h
theorem ziG (a0:List GRatio) (x1:Int) (x2:Int) (x3:Int) (x4:Bool) (x5:Bool) (r8:(List GRatio)) {y:AV×Mem} (h:(
 chk (0+(List.map zaa a0).length≤(List.map zaa r8).length)<|
 callD zby (cw zcy [AV.sl 2 (List.take ((List.map zaa a0).length) (List.map zaa r8)),I x1,I x2,AV.fn zad []] []) fun (r9:Int×Int) =>
 brn (r9.snd == 2) (callD zbw (cw zcr [AV.row 1000 2 0 ((List.map zaa a0).length),I x1,I x2,AV.fn zad []] [(1000,⟨2,zac,List.map zaa r8,false⟩)]) fun (r10:(List GRatio)) =>
 za9 a0 x1 x2 x4 x5 (List.map zaa r10) (w64 (x3 - 1)) (w64 (w64 (x2 - 1) - w64 (r9.fst - x1))))
 (zb7 a0 x1 x2 x4 x5 (List.map zaa r8) (w64 (x3 - 1)) r9.fst r9.snd))=some y):zdd a0 x1 x2 x3 x4 x5 r8=some y:=
 pt_of zT [20,17,15,10] (by kernel_rfl) h
theorem zhU (a0:List GRatio) (x0:List (List AV)) (x1:Int) (x2:Int) (x3:Int) (x4:Bool) (x5:Bool) {y:AV×Mem} (h:(
 chk (0+(List.map zaa a0).length≤x0.length)<|
 callD zby (cw zcy [AV.sl 2 (List.take ((List.map zaa a0).length) x0),I x1,I x2,AV.fn zad []] []) fun (r18:Int×Int) =>
 brn (r18.snd == 2) (callD zbw (cw zcr [AV.row 1000 2 0 ((List.map zaa a0).length),I x1,I x2,AV.fn zad []] [(1000,⟨2,zac,x0,false⟩)]) fun (r19:(List GRatio)) =>
 za9 a0 x1 x2 x4 x5 (List.map zaa r19) x3 (w64 (w64 (x2 - 1) - w64 (r18.fst - x1))))
 (zb7 a0 x1 x2 x4 x5 x0 x3 r18.fst r18.snd))=some y):zc0 a0 x0 x1 x2 x3 x4 x5=some y:=
 pt_of zT [20,17,15,10] (by kernel_rfl) h
theorem ziM (a0:List GRatio) (x1:Int) (x2:Int) (x4:Bool) (x5:Bool) (x11:List (List AV)) (x12:Int) (x13:Int) {y:AV×Mem} (h:(
 brn x4 (brn x5 (brn (1 == 1) (callD zaS (cw zbt [AV.row 1000 2 0 ((List.map zaa a0).length),I x1,I x2,AV.fn zad []] [(1000,⟨2,zac,x11,false⟩)]) fun (r20:Bool×(List GRatio)) =>
 brn r20.fst (some (AV.tup [],[(1000,⟨2,zac,List.map zaa r20.snd,false⟩)]))
 (zcq a0 x1 x2 x4 x5 (List.map zaa r20.snd) x12 x13))
 (zaO a0 x1 x2 x4 x5 x11 x12 x13))
 (zaO a0 x1 x2 x4 x5 x11 x12 x13))
 (zaO a0 x1 x2 x4 x5 x11 x12 x13))=some y):za9 a0 x1 x2 x4 x5 x11 x12 x13=some y:=
 pt_of zT [20,17,15,10] (by kernel_rfl) h
theorem zhO (a0:List GRatio) (x1:Int) (x2:Int) (x4:Bool) (x5:Bool) (x14:List (List AV)) (x15:Int) (x16:Int) (x17:Int) {y:AV×Mem} (h:(
 brn x4 (brn x5 (brn (x17 == 1) (callD zaS (cw zbt [AV.row 1000 2 0 ((List.map zaa a0).length),I x1,I x2,AV.fn zad []] [(1000,⟨2,zac,x14,false⟩)]) fun (r27:Bool×(List GRatio)) =>
 brn r27.fst (some (AV.tup [],[(1000,⟨2,zac,List.map zaa r27.snd,false⟩)]))
 (zcq a0 x1 x2 x4 x5 (List.map zaa r27.snd) x15 x16))
 (zaO a0 x1 x2 x4 x5 x14 x15 x16))
 (zaO a0 x1 x2 x4 x5 x14 x15 x16))
 (zaO a0 x1 x2 x4 x5 x14 x15 x16))=some y):zb7 a0 x1 x2 x4 x5 x14 x15 x16 x17=some y:=
 pt_of zT [20,17,15,10] (by kernel_rfl) h
theorem zdc (a0:List GRatio) (x1:Int) (x2:Int) (x4:Bool) (x5:Bool) (x21:List (List AV)) (x22:Int) (x23:Int) {y:AV×Mem} (h:(
 brn (decide (0 < x1)) (chk ((0:Int)≤(w64 (x1 - 1)))<|
 chk ((w64 (x1 - 1):Int) < ((↑(List.map zaa a0).length:Int)))<|
 elemD zab x21 (0+(w64 (x1 - 1)).toNat) fun (c28:GRatio) =>
 chk ((0:Int)≤x23)<|
 chk ((x23:Int) < ((↑(List.map zaa a0).length:Int)))<|
 elemD zab x21 (0+x23.toNat) fun (c29:GRatio) =>
 callD zaz (cw zad [AV.agg (zaa c28),AV.agg (zaa c29)] []) fun (r30:Int) =>
 brn (!decide (r30 < 0)) (callD zb1 (cw zb4 [AV.row 1000 2 0 ((List.map zaa a0).length),I x1,I x2,I x23,AV.fn zad []] [(1000,⟨2,zac,x21,false⟩)]) fun (r31:Int×(List GRatio)) =>
 za3 a0 (List.map zaa r31.snd) r31.fst x2 x22 x4 x5)
 (za8 a0 x1 x2 x4 x5 x21 x22 x23))
 (za8 a0 x1 x2 x4 x5 x21 x22 x23))=some y):zcq a0 x1 x2 x4 x5 x21 x22 x23=some y:=
 pt_of zT [20,17,15,10] (by kernel_rfl) h
theorem zcZ (a0:List GRatio) (x1:Int) (x2:Int) (x4:Bool) (x5:Bool) (x24:List (List AV)) (x25:Int) (x26:Int) {y:AV×Mem} (h:(
 brn (decide (0 < x1)) (chk ((0:Int)≤(w64 (x1 - 1)))<|
 chk ((w64 (x1 - 1):Int) < ((↑(List.map zaa a0).length:Int)))<|
 elemD zab x24 (0+(w64 (x1 - 1)).toNat) fun (c35:GRatio) =>
 chk ((0:Int)≤x26)<|
 chk ((x26:Int) < ((↑(List.map zaa a0).length:Int)))<|
 elemD zab x24 (0+x26.toNat) fun (c36:GRatio) =>
 callD zaz (cw zad [AV.agg (zaa c35),AV.agg (zaa c36)] []) fun (r37:Int) =>
 brn (!decide (r37 < 0)) (callD zb1 (cw zb4 [AV.row 1000 2 0 ((List.map zaa a0).length),I x1,I x2,I x26,AV.fn zad []] [(1000,⟨2,zac,x24,false⟩)]) fun (r38:Int×(List GRatio)) =>
 za3 a0 (List.map zaa r38.snd) r38.fst x2 x25 x4 x5)
 (za8 a0 x1 x2 x4 x5 x24 x25 x26))
 (za8 a0 x1 x2 x4 x5 x24 x25 x26))=some y):zaO a0 x1 x2 x4 x5 x24 x25 x26=some y:=
 pt_of zT [20,17,15,10] (by kernel_rfl) h
theorem zeW (a0:List GRatio) (x1:Int) (x2:Int) (x4:Bool) (x5:Bool) (x32:List (List AV)) (x33:Int) (x34:Int) {y:AV×Mem} (h:(
 callD zdD (cw zcK [AV.row 1000 2 0 ((List.map zaa a0).length),I x1,I x2,I x34,AV.fn zad []] [(1000,⟨2,zac,x32,false⟩)]) fun (r39:(Int×Bool)×(List GRatio)) =>
 chk ((8:Int)≠0)<|
 brn (decide (w64 (r39.fst.fst - x1) < w64 (x2 - r39.fst.fst))) (callD zaA (cw zca [AV.row 1000 2 0 ((List.map zaa a0).length),I x1,I r39.fst.fst,I x33,AV.fn zad []] [(1000,⟨2,zac,List.map zaa r39.snd,false⟩)]) fun (r40:(List GRatio)) =>
 za3 a0 (List.map zaa r40) (w64 (r39.fst.fst+1)) x2 x33 (decide (w64 ((w64 (x2 - x1)).tdiv 8)≤w64 (r39.fst.fst - x1))) r39.fst.snd)
 (callD zaA (cw zca [AV.row 1000 2 0 ((List.map zaa a0).length),I (w64 (r39.fst.fst+1)),I x2,I x33,AV.fn zad []] [(1000,⟨2,zac,List.map zaa r39.snd,false⟩)]) fun (r41:(List GRatio)) =>
 za3 a0 (List.map zaa r41) x1 r39.fst.fst x33 (decide (w64 ((w64 (x2 - x1)).tdiv 8)≤w64 (x2 - r39.fst.fst))) r39.fst.snd))=some y):za8 a0 x1 x2 x4 x5 x32 x33 x34=some y:=
 pt_of zT [20,17,15,10] (by kernel_rfl) h
theorem zkg (a0:List GRatio) (a1:Int) (a2:Int) (a3:Int) {y:AV×Mem} (h:(
 za3 a0 (List.map zaa a0) a1 a2 a3 true true)=some y):cw zca [AV.row 1000 2 0 (List.length (List.map zaa a0)),I a1,I a2,I a3,AV.fn zad []] [(1000,⟨2,zac,List.map zaa a0,false⟩)]=some y:=
 zai zaQ zT [20,17,15,10] rfl (by kernel_rfl) (by kernel_rfl) (by kernel_rfl) (by kernel_rfl) (by kernel_rfl) h
theorem e_bits_Len (a0:Int) {y:AV×Mem} (h:(
 callD zjk (cw zjy [AV.v (.int .u64 a0)] []) fun (r0:Int) =>
 some (I r0,[]))=some y):cw zmS [AV.v (.int .u64 a0)] []=some y:=
 zai R_bits_Len zT [] rfl (by kernel_rfl) (by kernel_rfl) (by kernel_rfl) (by kernel_rfl) (by kernel_rfl) h
theorem zoN (a0:Int) (a1:Int) {y:AV×Mem} (h:(
 callD zcu (cw zbU [I a0] []) fun (r0:Int) =>
 callD zfs (cw zfz [AV.v (.int .u64 r0),AV.v (.int .u64 a1)] []) fun (r1:GratioWide) =>
 some (AV.agg (zbP (⟨decide (a0 < 0),⟨r1.hi,r1.lo⟩⟩)),[]))=some y):cw zdp [I a0,AV.v (.int .u64 a1)] []=some y:=
 zai zoX zT [] rfl (by kernel_rfl) (by kernel_rfl) (by kernel_rfl) (by kernel_rfl) (by kernel_rfl) h
theorem zo9 (a0:GratioWide) (a1:GratioWide) {y:AV×Mem} (h:(
 callD zfU (cw zfR [AV.v (.int .u64 a0.hi),AV.v (.int .u64 a1.hi)] []) fun (r0:Int) =>
 brn (r0 != 0) (some (I r0,[]))
 (callD zfU (cw zfR [AV.v (.int .u64 a0.lo),AV.v (.int .u64 a1.lo)] []) fun (r1:Int) =>
 some (I r1,[])))=some y):cw zdF [AV.agg (zas a0),AV.agg (zas a1)] []=some y:=
 zai zpx zT [] rfl (by kernel_rfl) (by kernel_rfl) (by kernel_rfl) (by kernel_rfl) (by kernel_rfl) h
theorem zys (a0:GRatio) (a1:GRatio) {y:AV×Mem} (h:(
 callD zbQ (cw zbO [AV.agg (zaa a0)] []) fun (r0:Bool) =>
 brn (!r0) (some (AV.tup [AV.agg (zaa (⟨0,0⟩)),I 1],[]))
 (callD zbQ (cw zbO [AV.agg (zaa a1)] []) fun (r1:Bool) =>
 brn (!r1) (some (AV.tup [AV.agg (zaa (⟨0,0⟩)),I 1],[]))
 (callD zkl (cw zl3 [AV.agg (zaa a0),AV.agg (zaa (⟨w64 (0 - a1.Num),a1.Den⟩))] []) fun (r2:GRatio×Int) =>
 some (AV.tup [AV.agg (zaa r2.fst),I r2.snd],[]))))=some y):cw zoh [AV.agg (zaa a0),AV.agg (zaa a1)] []=some y:=
 zai zy8 zT [] rfl (by kernel_rfl) (by kernel_rfl) (by kernel_rfl) (by kernel_rfl) (by kernel_rfl) h
theorem zyQ (a0:GRatio) (a1:GRatio) {y:AV×Mem} (h:(
 callD zbQ (cw zbO [AV.agg (zaa a0)] []) fun (r0:Bool) =>
 brn (!r0) (some (AV.tup [AV.agg (zaa (⟨0,0⟩)),I 1],[]))
 (callD zbQ (cw zbO [AV.agg (zaa a1)] []) fun (r1:Bool) =>
 brn (!r1) (some (AV.tup [AV.agg (zaa (⟨0,0⟩)),I 1],[]))
 (callD zaW (cw za1 [I a0.Num] []) fun (r2:Int) =>
 callD zaW (cw za1 [I a1.Num] []) fun (r3:Int) =>
 callD zcg (cw zcF [AV.v (.int .u64 r2),AV.v (.int .u64 r3)] []) fun (r4:Gref01Wide) =>
 callD zaW (cw za1 [I a0.Den] []) fun (r5:Int) =>
 callD zaW (cw za1 [I a1.Den] []) fun (r6:Int) =>
 callD zcg (cw zcF [AV.v (.int .u64 r5),AV.v (.int .u64 r6)] []) fun (r7:Gref01Wide) =>
 callD zeZ (cw zf8 [B (!decide (a0.Num < 0) == decide (a1.Num < 0)),AV.agg (zah r4),AV.agg (zah r7)] []) fun (r8:GRatio×Int) =>
 some (AV.tup [AV.agg (zaa r8.fst),I r8.snd],[]))))=some y):cw zl5 [AV.agg (zaa a0),AV.agg (zaa a1)] []=some y:=
 zai zyn zT [] rfl (by kernel_rfl) (by kernel_rfl) (by kernel_rfl) (by kernel_rfl) (by kernel_rfl) h
noncomputable def zkx (x0:Int) (x1:Int):Option (AV×Mem):=pt zsk 1 ⟨[(0,AV.v (.int .u64 x0)),(1,AV.v (.int .u64 x1))],[]⟩
theorem zvE (x0:Int) (x1:Int) {y:AV×Mem} (h:(
 brn (x1 != 0) (chk ((x1:Int)≠0)<|
 zkx x1 (x0.tmod x1))
 (some (AV.v (.int .u64 x0),[])))=some y):zkx x0 x1=some y:=
 pt_of zT [] (by kernel_rfl) h
theorem zyx (a0:Int) (a1:Int) {y:AV×Mem} (h:(
 zkx a0 a1)=some y):cw zek [AV.v (.int .u64 a0),AV.v (.int .u64 a1)] []=some y:=
 zai zsk zT [] rfl (by kernel_rfl) (by kernel_rfl) (by kernel_rfl) (by kernel_rfl) (by kernel_rfl) h
theorem zr8 (a0:Int) {y:AV×Mem} (h:(
 brn (decide (a0 < 0)) (some (AV.v (.int .u64 (wu64 (0 - wu64 a0))),[]))
 (some (AV.v (.int .u64 (wu64 a0)),[])))=some y):cw zbU [I a0] []=some y:=
 zai zrA zT [] rfl (by kernel_rfl) (by kernel_rfl) (by kernel_rfl) (by kernel_rfl) (by kernel_rfl) h
noncomputable def zhd (x0:Gref01Wide) (x1:Gref01Wide):Option (AV×Mem):=pt zn6 1 ⟨[(2,AV.loc 2 2 0 0),(3,AV.loc 3 2 0 0),(4,AV.loc 4 2 0 0)],[(2,⟨2,zaM,[zah x0],true⟩),(3,⟨2,zaM,[zah x1],true⟩),(4,⟨2,zaM,[zah (⟨0,0⟩)],true⟩)]⟩
theorem zmK (x0:Gref01Wide) (x1:Gref01Wide) {y:AV×Mem} (h:(
 brn (!(x1.Hi == 0 && (x1.Lo == 0 && true))) (callD zf6 (cw zhB [AV.agg (zah x0),AV.agg (zah x1)] []) fun (r2:Gref01Wide×Gref01Wide) =>
 zhd x1 r2.snd)
 (some (AV.agg (zah x0),[])))=some y):zhd x0 x1=some y:=
 pt_of zT [] (by kernel_rfl) h
theorem ztg (a0:Gref01Wide) (a1:Gref01Wide) {y:AV×Mem} (h:(
 zhd a0 a1)=some y):cw zi1 [AV.agg (zah a0),AV.agg (zah a1)] []=some y:=
 zai zn6 zT [] rfl (by kernel_rfl) (by kernel_rfl) (by kernel_rfl) (by kernel_rfl) (by kernel_rfl) h
theorem zxN (a0:Int) {y:AV×Mem} (h:(
 brn (decide (a0 < 0)) (some (AV.v (.int .u64 (wu64 (wu64 (w64 (0 - w64 (a0+1)))+1))),[]))
 (some (AV.v (.int .u64 (wu64 a0)),[])))=some y):cw za1 [I a0] []=some y:=
 zai zxt zT [] rfl (by kernel_rfl) (by kernel_rfl) (by kernel_rfl) (by kernel_rfl) (by kernel_rfl) h
theorem ziF (a0:GratioSigned) (a1:GratioSigned) {y:AV×Mem} (h:(
 brn (a0.neg == a1.neg) (callD zhl (cw zjQ [AV.agg (zas a0.abs),AV.agg (zas a1.abs)] []) fun (r0:GratioWide) =>
 some (AV.agg (zbP (⟨a0.neg,⟨r0.hi,r0.lo⟩⟩)),[]))
 (callD zdH (cw zdF [AV.agg (zas a0.abs),AV.agg (zas a1.abs)] []) fun (r1:Int) =>
 brn (decide (0≤r1)) (callD zfm (cw zgH [AV.agg (zas a0.abs),AV.agg (zas a1.abs)] []) fun (r2:GratioWide) =>
 some (AV.agg (zbP (⟨a0.neg,⟨r2.hi,r2.lo⟩⟩)),[]))
 (callD zfm (cw zgH [AV.agg (zas a1.abs),AV.agg (zas a0.abs)] []) fun (r3:GratioWide) =>
 some (AV.agg (zbP (⟨a1.neg,⟨r3.hi,r3.lo⟩⟩)),[]))))=some y):cw ziK [AV.agg (zbP a0),AV.agg (zbP a1)] []=some y:=
 zai zqo zT [] rfl (by kernel_rfl) (by kernel_rfl) (by kernel_rfl) (by kernel_rfl) (by kernel_rfl) h
theorem zsJ (a0:GratioWide) (a1:Int) {y:AV×Mem} (h:(
 callD zli (cw zlq [AV.v (.int .u64 a0.hi),AV.v (.int .u64 a0.lo),AV.v (.int .u64 a1)] []) fun (r0:Int) =>
 some (AV.v (.int .u64 r0),[]))=some y):cw zhR [AV.agg (zas a0),AV.v (.int .u64 a1)] []=some y:=
 zai zs4 zT [] rfl (by kernel_rfl) (by kernel_rfl) (by kernel_rfl) (by kernel_rfl) (by kernel_rfl) h
theorem zuM (a0:Bool) (a1:GratioWide) (a2:GratioWide) {y:AV×Mem} (h:(
 brn (a1.hi != 0) (some (AV.tup [AV.agg (zaa (⟨0,0⟩)),I 6],[]))
 (brn (a2.hi != 0) (some (AV.tup [AV.agg (zaa (⟨0,0⟩)),I 6],[]))
 (brn (decide (1152921504606846976 < a1.lo)) (some (AV.tup [AV.agg (zaa (⟨0,0⟩)),I 6],[]))
 (brn (decide (1152921504606846976 < a2.lo)) (some (AV.tup [AV.agg (zaa (⟨0,0⟩)),I 6],[]))
 (brn a0 (some (AV.tup [AV.agg (zaa (⟨w64 (0 - w64 a1.lo),w64 a2.lo⟩)),I 0],[]))
 (some (AV.tup [AV.agg (zaa (⟨w64 a1.lo,w64 a2.lo⟩)),I 0],[])))))))=some y):cw zhs [B a0,AV.agg (zas a1),AV.agg (zas a2)] []=some y:=
 zai zux zT [] rfl (by kernel_rfl) (by kernel_rfl) (by kernel_rfl) (by kernel_rfl) (by kernel_rfl) h
theorem zrS (a0:GratioWide) (a1:Int) {y:AV×Mem} (h:(
 chk ((a1:Int)≠0)<|
 chk ((a1:Int)≠0)<|
 callD zja (cw zjx [AV.v (.int .u64 (a0.hi.tmod a1)),AV.v (.int .u64 a0.lo),AV.v (.int .u64 a1)] []) fun (r0:Int×Int) =>
 some (AV.agg (zas (⟨wu64 (a0.hi.tdiv a1),r0.fst⟩)),[]))=some y):cw zhe [AV.agg (zas a0),AV.v (.int .u64 a1)] []=some y:=
 zai zrT zT [] rfl (by kernel_rfl) (by kernel_rfl) (by kernel_rfl) (by kernel_rfl) (by kernel_rfl) h
theorem ztP (a0:Int) (a1:Int) {y:AV×Mem} (h:(
 callD zhq (cw zje [AV.v (.int .u64 a0),AV.v (.int .u64 a1)] []) fun (r0:Int×Int) =>
 some (AV.agg (zas (⟨r0.fst,r0.snd⟩)),[]))=some y):cw zfz [AV.v (.int .u64 a0),AV.v (.int .u64 a1)] []=some y:=
 zai zud zT [] rfl (by kernel_rfl) (by kernel_rfl) (by kernel_rfl) (by kernel_rfl) (by kernel_rfl) h
theorem zwx (a0:Bool) (a1:Gref01Wide) (a2:Bool) (a3:Gref01Wide) {y:AV×Mem} (h:(
 brn (a0 == a2) (callD zld (cw znh [AV.agg (zah a1),AV.agg (zah a3)] []) fun (r0:Gref01Wide) =>
 some (AV.tup [B a0,AV.agg (zah r0)],[]))
 (callD zfB (cw zgB [AV.agg (zah a1),AV.agg (zah a3)] []) fun (r1:Int) =>
 brn (decide (0≤r1)) (callD zgD (cw zif [AV.agg (zah a1),AV.agg (zah a3)] []) fun (r2:Gref01Wide) =>
 some (AV.tup [B a0,AV.agg (zah r2)],[]))
 (callD zgD (cw zif [AV.agg (zah a3),AV.agg (zah a1)] []) fun (r3:Gref01Wide) =>
 some (AV.tup [B a2,AV.agg (zah r3)],[]))))=some y):cw zkw [B a0,AV.agg (zah a1),B a2,AV.agg (zah a3)] []=some y:=
 zai zwn zT [] rfl (by kernel_rfl) (by kernel_rfl) (by kernel_rfl) (by kernel_rfl) (by kernel_rfl) h
theorem ztQ (a0:Int) (a1:Int) {y:AV×Mem} (h:(
 callD zhq (cw zje [AV.v (.int .u64 a0),AV.v (.int .u64 a1)] []) fun (r0:Int×Int) =>
 some (AV.agg (zah (⟨r0.fst,r0.snd⟩)),[]))=some y):cw zcF [AV.v (.int .u64 a0),AV.v (.int .u64 a1)] []=some y:=
 zai ztX zT [] rfl (by kernel_rfl) (by kernel_rfl) (by kernel_rfl) (by kernel_rfl) (by kernel_rfl) h
theorem zut (a0:Bool) (a1:Gref01Wide) (a2:Gref01Wide) {y:AV×Mem} (h:(
 callD zgN (cw zi1 [AV.agg (zah a1),AV.agg (zah a2)] []) fun (r0:Gref01Wide) =>
 callD zf6 (cw zhB [AV.agg (zah a1),AV.agg (zah r0)] []) fun (r1:Gref01Wide×Gref01Wide) =>
 callD zf6 (cw zhB [AV.agg (zah a2),AV.agg (zah r0)] []) fun (r2:Gref01Wide×Gref01Wide) =>
 brn (decide (0 < r1.fst.Hi)) (some (AV.tup [AV.agg (zaa (⟨0,0⟩)),I 6],[]))
 (brn (decide (0 < r2.fst.Hi)) (some (AV.tup [AV.agg (zaa (⟨0,0⟩)),I 6],[]))
 (brn (decide (1152921504606846976 < r1.fst.Lo)) (some (AV.tup [AV.agg (zaa (⟨0,0⟩)),I 6],[]))
 (brn (decide (1152921504606846976 < r2.fst.Lo)) (some (AV.tup [AV.agg (zaa (⟨0,0⟩)),I 6],[]))
 (brn a0 (some (AV.tup [AV.agg (zaa (⟨w64 (0 - w64 r1.fst.Lo),w64 r2.fst.Lo⟩)),I 0],[]))
 (some (AV.tup [AV.agg (zaa (⟨w64 r1.fst.Lo,w64 r2.fst.Lo⟩)),I 0],[])))))))=some y):cw zf8 [B a0,AV.agg (zah a1),AV.agg (zah a2)] []=some y:=
 zai zup zT [] rfl (by kernel_rfl) (by kernel_rfl) (by kernel_rfl) (by kernel_rfl) (by kernel_rfl) h
theorem zpI (a0:GDistribution) {y:AV×Mem} (h:(
 callD zfZ (cw zhW [AV.agg (zae a0),I ((↑(List.map zaj a0.Counts).length:Int))] []) fun (r0:Int) =>
 some (I r0,[]))=some y):cw zc1 [AV.agg (zae a0)] []=some y:=
 zai zpn zT [] rfl (by kernel_rfl) (by kernel_rfl) (by kernel_rfl) (by kernel_rfl) (by kernel_rfl) h
theorem zpU (a0:GDistribution) {y:AV×Mem} (h:(
 callD zbm (cw zbC [AV.agg (zae a0)] []) fun (r0:Bool) =>
 brn (!r0) (some (AV.tup [I 0,I 1],[]))
 (callD zcE (cw zc1 [AV.agg (zae a0)] []) fun (r1:Int) =>
 brn (r1 == 0) (some (AV.tup [I 0,I 10],[]))
 (some (AV.tup [I r1,I 0],[]))))=some y):cw zf0 [AV.agg (zae a0)] []=some y:=
 zai zpo zT [] rfl (by kernel_rfl) (by kernel_rfl) (by kernel_rfl) (by kernel_rfl) (by kernel_rfl) h
theorem zyq (a0:Int) (a1:Int) {y:AV×Mem} (h:(
 brn (a1 == 0) (some (AV.tup [AV.agg (zaa (⟨0,0⟩)),I 2],[]))
 (callD zcu (cw zbU [I a0] []) fun (r0:Int) =>
 callD zcu (cw zbU [I a1] []) fun (r1:Int) =>
 callD zi0 (cw zlm [AV.agg (zbP (⟨!decide (a0 < 0) == decide (a1 < 0),⟨0,r0⟩⟩)),AV.v (.int .u64 r1)] []) fun (r2:GRatio×Int) =>
 some (AV.tup [AV.agg (zaa r2.fst),I r2.snd],[])))=some y):cw ziv [I a0,I a1] []=some y:=
 zai zy7 zT [] rfl (by kernel_rfl) (by kernel_rfl) (by kernel_rfl) (by kernel_rfl) (by kernel_rfl) h
noncomputable def zdC (a0:GDistribution) (x0:Int) (x1:Int):Option (AV×Mem):=pt zig 1 ⟨[(3,I x0),(7,AV.sl 1 (List.map zaj a0.Counts)),(8,I ((↑(List.map zaj a0.Counts).length:Int))),(9,I x1)],[]⟩
theorem zhv (a0:GDistribution) (x0:Int) (x1:Int) {y:AV×Mem} (h:(
 brn (decide (x1 < (↑(List.map zaj a0.Counts).length:Int))) (chk ((0:Int)≤x1)<|
 elemD zay (List.map zaj a0.Counts) x1.toNat fun (c2:Int) =>
 zdC a0 (w64 (x0+w64 (x1*c2))) (w64 (x1+1)))
 (some (I x0,[])))=some y):zdC a0 x0 x1=some y:=
 pt_of zT [] (by kernel_rfl) h
theorem zmy (a0:GDistribution) {y:AV×Mem} (h:(
 zdC a0 0 0)=some y):cw zdZ [AV.agg (zae a0)] []=some y:=
 zai zig zT [] rfl (by kernel_rfl) (by kernel_rfl) (by kernel_rfl) (by kernel_rfl) (by kernel_rfl) h
theorem zv4 (a0:GDistribution) {y:AV×Mem} (h:(
 callD zfD (cw zgE [AV.agg (zae a0)] []) fun (r0:Bool) =>
 brn (!r0) (some (I 1,[]))
 (callD zgA (cw zh9 [AV.agg (zae a0)] []) fun (r1:Int) =>
 brn (r1 == 0) (some (I 10,[]))
 (some (I 0,[]))))=some y):cw zky [AV.agg (zae a0)] []=some y:=
 zai zvO zT [] rfl (by kernel_rfl) (by kernel_rfl) (by kernel_rfl) (by kernel_rfl) (by kernel_rfl) h
noncomputable def zkB (a0:GDistribution) (x0:Int) (x1:Int):Option (AV×Mem):=pt zsg 1 ⟨[(1,AV.loc 1 1 0 0),(3,I x0),(4,I x1)],[(1,⟨1,zaG,[zae a0],true⟩)]⟩
theorem zp3 (a0:GDistribution) (x0:Int) (x1:Int) {y:AV×Mem} (h:(
 brn (decide (x1 < (↑(List.map zaj a0.Counts).length:Int))) (chk ((0:Int)≤x1)<|
 elemD zay (List.map zaj a0.Counts) x1.toNat fun (c2:Int) =>
 zkB a0 (w64 (x0+w64 (x1*c2))) (w64 (x1+1)))
 (some (I x0,[])))=some y):zkB a0 x0 x1=some y:=
 pt_of zT [] (by kernel_rfl) h
theorem zyC (a0:GDistribution) {y:AV×Mem} (h:(
 zkB a0 0 0)=some y):cw zlY [AV.agg (zae a0)] []=some y:=
 zai zsg zT [] rfl (by kernel_rfl) (by kernel_rfl) (by kernel_rfl) (by kernel_rfl) (by kernel_rfl) h
noncomputable def zey (a0:List Int) (a1:Int) (x0:Int):Option (AV×Mem):=pt zkh 1 ⟨[(0,AV.sl 1 (List.map zaj a0)),(1,I a1),(7,I ((↑(List.map zaj a0).length:Int))),(8,I x0)],[]⟩
theorem zgd (a0:List Int) (a1:Int) (x0:Int) {y:AV×Mem} (h:(
 brn (decide (x0 < (↑(List.map zaj a0).length:Int))) (chk ((0:Int)≤x0)<|
 elemD zay (List.map zaj a0) x0.toNat fun (c1:Int) =>
 brn (a1 == c1) (some (I x0,[]))
 (zey a0 a1 (w64 (x0+1))))
 (some (I (-1),[])))=some y):zey a0 a1 x0=some y:=
 pt_of zT [] (by kernel_rfl) h
theorem zon (a0:List Int) (a1:Int) {y:AV×Mem} (h:(
 zey a0 a1 0)=some y):cw zkf [AV.sl 1 (List.map zaj a0),I a1] []=some y:=
 zai zkh zT [] rfl (by kernel_rfl) (by kernel_rfl) (by kernel_rfl) (by kernel_rfl) (by kernel_rfl) h
noncomputable def za2 (a0:List GRatio) (a1:Int) (a2:Int) (x0:List (List AV)) (x1:Int):Option (AV×Mem):=pt zc5 1 ⟨[(0,AV.row 1000 2 0 ((List.map zaa a0).length)),(1,I a1),(2,I a2),(3,AV.fn zad []),(8,I x1)],[(1000,⟨2,zac,x0,false⟩)]⟩
noncomputable def zbR (a0:List GRatio) (a1:Int) (a2:Int) (x1:Int) (x2:List (List AV)) (x3:Int):Option (AV×Mem):=pt zc5 2 ⟨[(0,AV.row 1000 2 0 ((List.map zaa a0).length)),(1,I a1),(2,I a2),(3,AV.fn zad []),(8,I x1),(9,I x3)],[(1000,⟨2,zac,x2,false⟩)]⟩
theorem zei (a0:List GRatio) (a1:Int) (a2:Int) (x0:List (List AV)) (x1:Int) {y:AV×Mem} (h:(
 brn (decide (x1 < a2)) (zbR a0 a1 a2 x1 x0 x1)
 (some (AV.tup [],[(1000,⟨2,zac,x0,false⟩)])))=some y):za2 a0 a1 a2 x0 x1=some y:=
 pt_of zT [] (by kernel_rfl) h
theorem zej (a0:List GRatio) (a1:Int) (a2:Int) (x1:Int) (x2:List (List AV)) (x3:Int) {y:AV×Mem} (h:(
 brn (decide (a1 < x3)) (chk ((0:Int)≤x3)<|
 chk ((x3:Int) < ((↑(List.map zaa a0).length:Int)))<|
 elemD zab x2 (0+x3.toNat) fun (c4:GRatio) =>
 chk ((0:Int)≤(w64 (x3 - 1)))<|
 chk ((w64 (x3 - 1):Int) < ((↑(List.map zaa a0).length:Int)))<|
 elemD zab x2 (0+(w64 (x3 - 1)).toNat) fun (c5:GRatio) =>
 callD zaz (cw zad [AV.agg (zaa c4),AV.agg (zaa c5)] []) fun (r6:Int) =>
 brn (decide (r6 < 0)) (chk ((0:Int)≤(w64 (x3 - 1)))<|
 chk ((w64 (x3 - 1):Int) < ((↑(List.map zaa a0).length:Int)))<|
 elemD zab x2 (0+(w64 (x3 - 1)).toNat) fun (c7:GRatio) =>
 chk ((0:Int)≤x3)<|
 chk ((x3:Int) < ((↑(List.map zaa a0).length:Int)))<|
 elemD zab x2 (0+x3.toNat) fun (c8:GRatio) =>
 chk ((0:Int)≤x3)<|
 chk ((x3:Int) < ((↑(List.map zaa a0).length:Int)))<|
 elemD zab x2 (0+x3.toNat) fun (c9:GRatio) =>
 chk ((0:Int)≤(w64 (x3 - 1)))<|
 chk ((w64 (x3 - 1):Int) < ((↑(List.map zaa a0).length:Int)))<|
 elemD zab (List.set x2 (0+x3.toNat) (zaa c7)) (0+(w64 (x3 - 1)).toNat) fun (c10:GRatio) =>
 zbR a0 a1 a2 x1 (List.set (List.set x2 (0+x3.toNat) (zaa c7)) (0+(w64 (x3 - 1)).toNat) (zaa c8)) (w64 (x3 - 1)))
 (za2 a0 a1 a2 x2 (w64 (x1+1))))
 (za2 a0 a1 a2 x2 (w64 (x1+1))))=some y):zbR a0 a1 a2 x1 x2 x3=some y:=
 pt_of zT [] (by kernel_rfl) h
theorem zin (a0:List GRatio) (a1:Int) (a2:Int) {y:AV×Mem} (h:(
 za2 a0 a1 a2 (List.map zaa a0) (w64 (a1+1)))=some y):cw zc3 [AV.row 1000 2 0 (List.length (List.map zaa a0)),I a1,I a2,AV.fn zad []] [(1000,⟨2,zac,List.map zaa a0,false⟩)]=some y:=
 zai zc5 zT [] rfl (by kernel_rfl) (by kernel_rfl) (by kernel_rfl) (by kernel_rfl) (by kernel_rfl) h
end Go.Proofs.YtbhkcgaanaelfaaGreat
