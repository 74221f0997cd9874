/- What the functions compute, between two cut points: printed by a program, checked by the kernel. -/
import Derived.Test.YticojpmhlhfhlaaGreatAnn
namespace Go.Proofs.YticojpmhlhfhlaaGreat
open Go.Ab
set_option maxRecDepth 100000
set_option linter.unusedVariables false
noncomputable def zbM (a0:List Int) (s:List GRatio) (x0:List (List AV)) (x1:Int) (x2:Int) (x3:Int) (x4:Bool) (x5:Bool):Option (AV×Mem):=pt zby 1 ⟨[(0,AV.row 1000 1 0 ((List.map zaa a0).length)),(1,I x1),(2,I x2),(3,I x3),(4,AV.fn zaf [AV.fa 2 (List.map zae s)]),(10,B x4),(11,B x5)],[(1000,⟨1,zaj,x0,false⟩)]⟩
noncomputable def zet (a0:List Int) (s:List GRatio) (x1:Int) (x2:Int) (x3:Int) (x4:Bool) (x5:Bool) (r8:(List Int)):Option (AV×Mem):=pt zby 1010 ⟨[(0,AV.row 1000 1 0 ((List.map zaa a0).length)),(1,I x1),(2,I x2),(3,I (w64 (x3 - 1))),(4,AV.fn zaf [AV.fa 2 (List.map zae s)]),(10,B x4),(11,B x5),(12,I (w64 (x2 - x1)))],[(1000,⟨1,zaj,List.map zaa r8,false⟩)]⟩
noncomputable def zdX (a0:List Int) (s:List GRatio) (x0:List (List AV)) (x1:Int) (x2:Int) (x3:Int) (x4:Bool) (x5:Bool):Option (AV×Mem):=pt zby 1010 ⟨[(0,AV.row 1000 1 0 ((List.map zaa a0).length)),(1,I x1),(2,I x2),(3,I x3),(4,AV.fn zaf [AV.fa 2 (List.map zae s)]),(10,B x4),(11,B x5),(12,I (w64 (x2 - x1))),(39,B false)],[(1000,⟨1,zaj,x0,false⟩)]⟩
noncomputable def zbS (a0:List Int) (s:List GRatio) (x1:Int) (x2:Int) (x4:Bool) (x5:Bool) (x11:List (List AV)) (x12:Int) (x13:Int):Option (AV×Mem):=pt zby 1015 ⟨[(0,AV.row 1000 1 0 ((List.map zaa a0).length)),(1,I x1),(2,I x2),(3,I x12),(4,AV.fn zaf [AV.fa 2 (List.map zae s)]),(10,B x4),(11,B x5),(12,I (w64 (x2 - x1))),(13,I x13),(14,I 1)],[(1000,⟨1,zaj,x11,false⟩)]⟩
noncomputable def zcI (a0:List Int) (s:List GRatio) (x1:Int) (x2:Int) (x4:Bool) (x5:Bool) (x14:List (List AV)) (x15:Int) (x16:Int) (x17:Int):Option (AV×Mem):=pt zby 1015 ⟨[(0,AV.row 1000 1 0 ((List.map zaa a0).length)),(1,I x1),(2,I x2),(3,I x15),(4,AV.fn zaf [AV.fa 2 (List.map zae s)]),(10,B x4),(11,B x5),(12,I (w64 (x2 - x1))),(13,I x16),(14,I x17),(56,B false)],[(1000,⟨1,zaj,x14,false⟩)]⟩
noncomputable def zc4 (a0:List Int) (s:List GRatio) (x1:Int) (x2:Int) (x4:Bool) (x5:Bool) (x21:List (List AV)) (x22:Int) (x23:Int):Option (AV×Mem):=pt zby 1017 ⟨[(0,AV.row 1000 1 0 ((List.map zaa a0).length)),(1,I x1),(2,I x2),(3,I x22),(4,AV.fn zaf [AV.fa 2 (List.map zae s)]),(10,B x4),(11,B x5),(12,I (w64 (x2 - x1))),(13,I x23),(80,B false)],[(1000,⟨1,zaj,x21,false⟩)]⟩
noncomputable def zbm (a0:List Int) (s:List GRatio) (x1:Int) (x2:Int) (x4:Bool) (x5:Bool) (x24:List (List AV)) (x25:Int) (x26:Int):Option (AV×Mem):=pt zby 1017 ⟨[(0,AV.row 1000 1 0 ((List.map zaa a0).length)),(1,I x1),(2,I x2),(3,I x25),(4,AV.fn zaf [AV.fa 2 (List.map zae s)]),(10,B x4),(11,B x5),(12,I (w64 (x2 - x1))),(13,I x26),(75,B false)],[(1000,⟨1,zaj,x24,false⟩)]⟩
noncomputable def zbQ (a0:List Int) (s:List GRatio) (x1:Int) (x2:Int) (x4:Bool) (x5:Bool) (x32:List (List AV)) (x33:Int) (x34:Int):Option (AV×Mem):=pt zby 1020 ⟨[(0,AV.row 1000 1 0 ((List.map zaa a0).length)),(1,I x1),(2,I x2),(3,I x33),(4,AV.fn zaf [AV.fa 2 (List.map zae s)]),(10,B x4),(11,B x5),(12,I (w64 (x2 - x1))),(13,I x34),(97,B false)],[(1000,⟨1,zaj,x32,false⟩)]⟩
theorem zdE (a0:List Int) (s:List GRatio) (x0:List (List AV)) (x1:Int) (x2:Int) (x3:Int) (x4:Bool) (x5:Bool) {y:AV×Mem} (h:(
 brn (decide (w64 (x2 - x1)≤12)) (callD zbN (cw zd8 [AV.row 1000 1 0 ((List.map zaa a0).length),I x1,I x2,AV.fn zaf [AV.fa 2 (List.map zae s)]] [(1000,⟨1,zaj,x0,false⟩)]) fun (r6:(List Int)) =>
 some (AV.tup [],[(1000,⟨1,zaj,List.map zaa r6,false⟩)]))
 (brn (x3 == 0) (callD zbR (cw zfP [AV.row 1000 1 0 ((List.map zaa a0).length),I x1,I x2,AV.fn zaf [AV.fa 2 (List.map zae s)]] [(1000,⟨1,zaj,x0,false⟩)]) fun (r7:(List Int)) =>
 some (AV.tup [],[(1000,⟨1,zaj,List.map zaa r7,false⟩)]))
 (brn (!x4) (callD zbo (cw zec [AV.row 1000 1 0 ((List.map zaa a0).length),I x1,I x2,AV.fn zaf [AV.fa 2 (List.map zae s)]] [(1000,⟨1,zaj,x0,false⟩)]) fun (r8:(List Int)) =>
 zet a0 s x1 x2 x3 x4 x5 r8)
 (zdX a0 s x0 x1 x2 x3 x4 x5))))=some y):zbM a0 s x0 x1 x2 x3 x4 x5=some y:=
 pt_of zT [20,17,15,10] (by kernel_rfl) h
theorem zpv (a0:List Int) (s:List GRatio) (x1:Int) (x2:Int) (x3:Int) (x4:Bool) (x5:Bool) (r8:(List Int)) {y:AV×Mem} (h:(
 chk (0+(List.map zaa a0).length≤(List.map zaa r8).length)<|
 callD zbC (cw zdf [AV.sl 1 (List.take ((List.map zaa a0).length) (List.map zaa r8)),I x1,I x2,AV.fn zaf [AV.fa 2 (List.map zae s)]] []) fun (r9:Int×Int) =>
 brn (r9.snd == 2) (callD zbA (cw zc5 [AV.row 1000 1 0 ((List.map zaa a0).length),I x1,I x2,AV.fn zaf [AV.fa 2 (List.map zae s)]] [(1000,⟨1,zaj,List.map zaa r8,false⟩)]) fun (r10:(List Int)) =>
 zbS a0 s x1 x2 x4 x5 (List.map zaa r10) (w64 (x3 - 1)) (w64 (w64 (x2 - 1) - w64 (r9.fst - x1))))
 (zcI a0 s x1 x2 x4 x5 (List.map zaa r8) (w64 (x3 - 1)) r9.fst r9.snd))=some y):zet a0 s x1 x2 x3 x4 x5 r8=some y:=
 pt_of zT [20,17,15,10] (by kernel_rfl) h
theorem zoe (a0:List Int) (s:List GRatio) (x0:List (List AV)) (x1:Int) (x2:Int) (x3:Int) (x4:Bool) (x5:Bool) {y:AV×Mem} (h:(
 chk (0+(List.map zaa a0).length≤x0.length)<|
 callD zbC (cw zdf [AV.sl 1 (List.take ((List.map zaa a0).length) x0),I x1,I x2,AV.fn zaf [AV.fa 2 (List.map zae s)]] []) fun (r18:Int×Int) =>
 brn (r18.snd == 2) (callD zbA (cw zc5 [AV.row 1000 1 0 ((List.map zaa a0).length),I x1,I x2,AV.fn zaf [AV.fa 2 (List.map zae s)]] [(1000,⟨1,zaj,x0,false⟩)]) fun (r19:(List Int)) =>
 zbS a0 s x1 x2 x4 x5 (List.map zaa r19) x3 (w64 (w64 (x2 - 1) - w64 (r18.fst - x1))))
 (zcI a0 s x1 x2 x4 x5 x0 x3 r18.fst r18.snd))=some y):zdX a0 s x0 x1 x2 x3 x4 x5=some y:=
 pt_of zT [20,17,15,10] (by kernel_rfl) h
theorem zpi (a0:List Int) (s:List GRatio) (x1:Int) (x2:Int) (x4:Bool) (x5:Bool) (x11:List (List AV)) (x12:Int) (x13:Int) {y:AV×Mem} (h:(
 brn x4 (brn x5 (brn (1 == 1) (callD za4 (cw zca [AV.row 1000 1 0 ((List.map zaa a0).length),I x1,I x2,AV.fn zaf [AV.fa 2 (List.map zae s)]] [(1000,⟨1,zaj,x11,false⟩)]) fun (r20:Bool×(List Int)) =>
 brn r20.fst (some (AV.tup [],[(1000,⟨1,zaj,List.map zaa r20.snd,false⟩)]))
 (zc4 a0 s x1 x2 x4 x5 (List.map zaa r20.snd) x12 x13))
 (zbm a0 s x1 x2 x4 x5 x11 x12 x13))
 (zbm a0 s x1 x2 x4 x5 x11 x12 x13))
 (zbm a0 s x1 x2 x4 x5 x11 x12 x13))=some y):zbS a0 s x1 x2 x4 x5 x11 x12 x13=some y:=
 pt_of zT [20,17,15,10] (by kernel_rfl) h
theorem zn4 (a0:List Int) (s:List GRatio) (x1:Int) (x2:Int) (x4:Bool) (x5:Bool) (x14:List (List AV)) (x15:Int) (x16:Int) (x17:Int) {y:AV×Mem} (h:(
 brn x4 (brn x5 (brn (x17 == 1) (callD za4 (cw zca [AV.row 1000 1 0 ((List.map zaa a0).length),I x1,I x2,AV.fn zaf [AV.fa 2 (List.map zae s)]] [(1000,⟨1,zaj,x14,false⟩)]) fun (r27:Bool×(List Int)) =>
 brn r27.fst (some (AV.tup [],[(1000,⟨1,zaj,List.map zaa r27.snd,false⟩)]))
 (zc4 a0 s x1 x2 x4 x5 (List.map zaa r27.snd) x15 x16))
 (zbm a0 s x1 x2 x4 x5 x14 x15 x16))
 (zbm a0 s x1 x2 x4 x5 x14 x15 x16))
 (zbm a0 s x1 x2 x4 x5 x14 x15 x16))=some y):zcI a0 s x1 x2 x4 x5 x14 x15 x16 x17=some y:=
 pt_of zT [20,17,15,10] (by kernel_rfl) h
theorem zev (a0:List Int) (s:List GRatio) (x1:Int) (x2:Int) (x4:Bool) (x5:Bool) (x21:List (List AV)) (x22:Int) (x23:Int) {y:AV×Mem} (h:(
 brn (decide (0 < x1)) (chk ((0:Int)≤(w64 (x1 - 1)))<|
 chk ((w64 (x1 - 1):Int) < ((↑(List.map zaa a0).length:Int)))<|
 elemD zag x21 (0+(w64 (x1 - 1)).toNat) fun (c28:Int) =>
 chk ((0:Int)≤x23)<|
 chk ((x23:Int) < ((↑(List.map zaa a0).length:Int)))<|
 elemD zag x21 (0+x23.toNat) fun (c29:Int) =>
 callD zaV (cw zaf [I c28,I c29,AV.fa 2 (List.map zae s)] []) fun (r30:Int) =>
 brn (!decide (r30 < 0)) (callD zbI (cw zcJ [AV.row 1000 1 0 ((List.map zaa a0).length),I x1,I x2,I x23,AV.fn zaf [AV.fa 2 (List.map zae s)]] [(1000,⟨1,zaj,x21,false⟩)]) fun (r31:Int×(List Int)) =>
 zbM a0 s (List.map zaa r31.snd) r31.fst x2 x22 x4 x5)
 (zbQ a0 s x1 x2 x4 x5 x21 x22 x23))
 (zbQ a0 s x1 x2 x4 x5 x21 x22 x23))=some y):zc4 a0 s x1 x2 x4 x5 x21 x22 x23=some y:=
 pt_of zT [20,17,15,10] (by kernel_rfl) h
theorem zd1 (a0:List Int) (s:List GRatio) (x1:Int) (x2:Int) (x4:Bool) (x5:Bool) (x24:List (List AV)) (x25:Int) (x26:Int) {y:AV×Mem} (h:(
 brn (decide (0 < x1)) (chk ((0:Int)≤(w64 (x1 - 1)))<|
 chk ((w64 (x1 - 1):Int) < ((↑(List.map zaa a0).length:Int)))<|
 elemD zag x24 (0+(w64 (x1 - 1)).toNat) fun (c35:Int) =>
 chk ((0:Int)≤x26)<|
 chk ((x26:Int) < ((↑(List.map zaa a0).length:Int)))<|
 elemD zag x24 (0+x26.toNat) fun (c36:Int) =>
 callD zaV (cw zaf [I c35,I c36,AV.fa 2 (List.map zae s)] []) fun (r37:Int) =>
 brn (!decide (r37 < 0)) (callD zbI (cw zcJ [AV.row 1000 1 0 ((List.map zaa a0).length),I x1,I x2,I x26,AV.fn zaf [AV.fa 2 (List.map zae s)]] [(1000,⟨1,zaj,x24,false⟩)]) fun (r38:Int×(List Int)) =>
 zbM a0 s (List.map zaa r38.snd) r38.fst x2 x25 x4 x5)
 (zbQ a0 s x1 x2 x4 x5 x24 x25 x26))
 (zbQ a0 s x1 x2 x4 x5 x24 x25 x26))=some y):zbm a0 s x1 x2 x4 x5 x24 x25 x26=some y:=
 pt_of zT [20,17,15,10] (by kernel_rfl) h
theorem zhM (a0:List Int) (s:List GRatio) (x1:Int) (x2:Int) (x4:Bool) (x5:Bool) (x32:List (List AV)) (x33:Int) (x34:Int) {y:AV×Mem} (h:(
 callD zcE (cw zdF [AV.row 1000 1 0 ((List.map zaa a0).length),I x1,I x2,I x34,AV.fn zaf [AV.fa 2 (List.map zae s)]] [(1000,⟨1,zaj,x32,false⟩)]) fun (r39:(Int×Bool)×(List Int)) =>
 chk ((8:Int)≠0)<|
 brn (decide (w64 (r39.fst.fst - x1) < w64 (x2 - r39.fst.fst))) (callD za2 (cw zc2 [AV.row 1000 1 0 ((List.map zaa a0).length),I x1,I r39.fst.fst,I x33,AV.fn zaf [AV.fa 2 (List.map zae s)]] [(1000,⟨1,zaj,List.map zaa r39.snd,false⟩)]) fun (r40:(List Int)) =>
 zbM a0 s (List.map zaa r40) (w64 (r39.fst.fst+1)) x2 x33 (decide (w64 ((w64 (x2 - x1)).tdiv 8)≤w64 (r39.fst.fst - x1))) r39.fst.snd)
 (callD za2 (cw zc2 [AV.row 1000 1 0 ((List.map zaa a0).length),I (w64 (r39.fst.fst+1)),I x2,I x33,AV.fn zaf [AV.fa 2 (List.map zae s)]] [(1000,⟨1,zaj,List.map zaa r39.snd,false⟩)]) fun (r41:(List Int)) =>
 zbM a0 s (List.map zaa r41) x1 r39.fst.fst x33 (decide (w64 ((w64 (x2 - x1)).tdiv 8)≤w64 (x2 - r39.fst.fst))) r39.fst.snd))=some y):zbQ a0 s x1 x2 x4 x5 x32 x33 x34=some y:=
 pt_of zT [20,17,15,10] (by kernel_rfl) h
theorem zsN (a0:List Int) (a1:Int) (a2:Int) (a3:Int) (s:List GRatio) {y:AV×Mem} (h:(
 zbM a0 s (List.map zaa a0) a1 a2 a3 true true)=some y):cw zc2 [AV.row 1000 1 0 (List.length (List.map zaa a0)),I a1,I a2,I a3,AV.fn zaf [AV.fa 2 (List.map zae s)]] [(1000,⟨1,zaj,List.map zaa a0,false⟩)]=some y:=
 zah zby zT [20,17,15,10] rfl (by kernel_rfl) (by kernel_rfl) (by kernel_rfl) (by kernel_rfl) (by kernel_rfl) h
theorem zHy (a0:GRatio) {y:AV×Mem} (h:(
 brn (decide (a0.Den < 1)) (some (B false,[]))
 (brn (decide (1152921504606846976 < a0.Den)) (some (B false,[]))
 (brn (decide (a0.Num < -1152921504606846976)) (some (B false,[]))
 (brn (decide (1152921504606846976 < a0.Num)) (some (B false,[]))
 (callD zdr (cw zfl [I a0.Num] []) fun (r0:Int) =>
 callD zol (cw zst [AV.v (.int .u64 r0),AV.v (.int .u64 (wu64 a0.Den))] []) fun (r1:Int) =>
 some (B (r1 == 1),[]))))))=some y):cw zo6 [AV.agg (zae a0)] []=some y:=
 zah zHV zT [] rfl (by kernel_rfl) (by kernel_rfl) (by kernel_rfl) (by kernel_rfl) (by kernel_rfl) h
theorem zxs (a0:Int) (a1:Int) {y:AV×Mem} (h:(
 callD zdr (cw zfl [I a0] []) fun (r0:Int) =>
 callD zre (cw zqS [AV.v (.int .u64 r0),AV.v (.int .u64 a1)] []) fun (r1:GratioWide) =>
 some (AV.agg (zib (⟨decide (a0 < 0),⟨r1.hi,r1.lo⟩⟩)),[]))=some y):cw zgn [I a0,AV.v (.int .u64 a1)] []=some y:=
 zah zxz zT [] rfl (by kernel_rfl) (by kernel_rfl) (by kernel_rfl) (by kernel_rfl) (by kernel_rfl) h
theorem zyo (a0:GratioWide) (a1:GratioWide) {y:AV×Mem} (h:(
 callD zg5 (cw zgW [AV.v (.int .u64 a0.hi),AV.v (.int .u64 a1.hi)] []) fun (r0:Int) =>
 brn (r0 != 0) (some (I r0,[]))
 (callD zg5 (cw zgW [AV.v (.int .u64 a0.lo),AV.v (.int .u64 a1.lo)] []) fun (r1:Int) =>
 some (I r1,[])))=some y):cw zeT [AV.agg (za9 a0),AV.agg (za9 a1)] []=some y:=
 zah zzj zT [] rfl (by kernel_rfl) (by kernel_rfl) (by kernel_rfl) (by kernel_rfl) (by kernel_rfl) h
theorem zvM (a0:Int) {y:AV×Mem} (h:(
 some (B (a0 != a0),[]))=some y):cw zi6 [I a0] []=some y:=
 zah zEp zT [] rfl (by kernel_rfl) (by kernel_rfl) (by kernel_rfl) (by kernel_rfl) (by kernel_rfl) h
theorem zEn (a0:GratioSigned) (a1:Int) {y:AV×Mem} (h:(
 callD zfQ (cw zkB [AV.agg (za9 a0.abs),AV.v (.int .u64 a1)] []) fun (r0:Int) =>
 callD zol (cw zst [AV.v (.int .u64 r0),AV.v (.int .u64 a1)] []) fun (r1:Int) =>
 callD zff (cw zjE [AV.agg (za9 a0.abs),AV.v (.int .u64 r1)] []) fun (r2:GratioWide) =>
 chk ((r1:Int)≠0)<|
 callD zni (cw znA [B a0.neg,AV.agg (za9 r2),AV.agg (za9 (⟨0,wu64 (a1.tdiv r1)⟩))] []) fun (r3:GRatio×Int) =>
 some (AV.tup [AV.agg (zae r3.fst),I r3.snd],[]))=some y):cw zqP [AV.agg (zib a0),AV.v (.int .u64 a1)] []=some y:=
 zah zEl zT [] rfl (by kernel_rfl) (by kernel_rfl) (by kernel_rfl) (by kernel_rfl) (by kernel_rfl) h
theorem zB8 (a0:Int) {y:AV×Mem} (h:(
 brn (decide (a0 < 0)) (some (AV.v (.int .u64 (wu64 (0 - wu64 a0))),[]))
 (some (AV.v (.int .u64 (wu64 a0)),[])))=some y):cw zfl [I a0] []=some y:=
 zah zBB zT [] rfl (by kernel_rfl) (by kernel_rfl) (by kernel_rfl) (by kernel_rfl) (by kernel_rfl) h
theorem zGk (a0:Bool) (a1:Gref01Wide) (a2:Gref01Wide) {y:AV×Mem} (h:(
 callD zqm (cw zwh [AV.agg (zaY a1),AV.agg (zaY a2)] []) fun (r0:Gref01Wide) =>
 callD zjT (cw zjY [AV.agg (zaY a1),AV.agg (zaY r0)] []) fun (r1:Gref01Wide×Gref01Wide) =>
 callD zjT (cw zjY [AV.agg (zaY a2),AV.agg (zaY r0)] []) fun (r2:Gref01Wide×Gref01Wide) =>
 brn (decide (0 < r1.fst.Hi)) (some (AV.tup [AV.agg (zae (⟨0,0⟩)),I 6],[]))
 (brn (decide (0 < r2.fst.Hi)) (some (AV.tup [AV.agg (zae (⟨0,0⟩)),I 6],[]))
 (brn (decide (1152921504606846976 < r1.fst.Lo)) (some (AV.tup [AV.agg (zae (⟨0,0⟩)),I 6],[]))
 (brn (decide (1152921504606846976 < r2.fst.Lo)) (some (AV.tup [AV.agg (zae (⟨0,0⟩)),I 6],[]))
 (brn a0 (some (AV.tup [AV.agg (zae (⟨w64 (0 - w64 r1.fst.Lo),w64 r2.fst.Lo⟩)),I 0],[]))
 (some (AV.tup [AV.agg (zae (⟨w64 r1.fst.Lo,w64 r2.fst.Lo⟩)),I 0],[])))))))=some y):cw znf [B a0,AV.agg (zaY a1),AV.agg (zaY a2)] []=some y:=
 zah zF7 zT [] rfl (by kernel_rfl) (by kernel_rfl) (by kernel_rfl) (by kernel_rfl) (by kernel_rfl) h
theorem zJg (a0:Int) {y:AV×Mem} (h:(
 brn (decide (a0 < 0)) (some (AV.v (.int .u64 (wu64 (wu64 (w64 (0 - w64 (a0+1)))+1))),[]))
 (some (AV.v (.int .u64 (wu64 a0)),[])))=some y):cw zrx [I a0] []=some y:=
 zah zH1 zT [] rfl (by kernel_rfl) (by kernel_rfl) (by kernel_rfl) (by kernel_rfl) (by kernel_rfl) h
theorem e_ref24_in (a0:Int) (a1:Int) (a2:Int) {y:AV×Mem} (h:(
 brn (decide (a1≤a0)) (some (B (decide (a0≤a2)),[]))
 (some (B false,[])))=some y):cw ze3 [I a0,I a1,I a2] []=some y:=
 zah R_ref24_in zT [] rfl (by kernel_rfl) (by kernel_rfl) (by kernel_rfl) (by kernel_rfl) (by kernel_rfl) h
noncomputable def zg2 (a0:GPaper) (x0:Int) (x1:Int):Option (AV×Mem):=pt zsR 1 ⟨[(1,AV.loc 1 3 0 0),(3,I x0),(4,I x1)],[(1,⟨3,zbc,[zas a0],true⟩)]⟩
theorem zqy (a0:GPaper) (x0:Int) (x1:Int) {y:AV×Mem} (h:(
 brn (decide (x1 < (↑(List.map zav a0.Parts).length:Int))) (chk ((0:Int)≤x1)<|
 elemD zce (List.map zav a0.Parts) x1.toNat fun (c2:GPart) =>
 callD zjI (cw zog [AV.agg (zav c2)] []) fun (r3:Bool) =>
 brn (!r3) (some (B false,[]))
 (chk ((0:Int)≤x1)<|
 elemD zce (List.map zav a0.Parts) x1.toNat fun (c4:GPart) =>
 zg2 a0 (w64 (x0+c4.Max)) (w64 (x1+1))))
 (some (B (decide (x0≤200)),[])))=some y):zg2 a0 x0 x1=some y:=
 pt_of zT [] (by kernel_rfl) h
theorem zBc (a0:GPaper) {y:AV×Mem} (h:(
 brn (decide (a0.Code < 0)) (some (B false,[]))
 (brn (decide (31 < a0.Code)) (some (B false,[]))
 (brn (decide (a0.Variant < 0)) (some (B false,[]))
 (brn (decide (4≤a0.Variant)) (some (B false,[]))
 (brn (decide ((↑(List.map zav a0.Parts).length:Int) < 1)) (some (B false,[]))
 (brn (decide (24 < (↑(List.map zav a0.Parts).length:Int))) (some (B false,[]))
 (zg2 a0 0 0)))))))=some y):cw zmB [AV.agg (zas a0)] []=some y:=
 zah zsR zT [] rfl (by kernel_rfl) (by kernel_rfl) (by kernel_rfl) (by kernel_rfl) (by kernel_rfl) h
theorem zFe (a0:GPaper) (a1:GScheme) (a2:Int) (a3:Int) {y:AV×Mem} (h:(
 callD zgC (cw zie [AV.agg (zas a0),AV.agg (zaW a1)] []) fun (r0:Bool) =>
 brn (!r0) (some (B false,[]))
 (brn (decide (a2 < 0)) (some (B false,[]))
 (brn (decide ((↑(List.map zav a0.Parts).length:Int)≤a2)) (some (B false,[]))
 (chk ((0:Int)≤a2)<|
 elemD zce (List.map zav a0.Parts) a2.toNat fun (c1:GPart) =>
 brn (c1.Kind != 2) (some (B false,[]))
 (chk ((0:Int)≤a2)<|
 elemD zdH (List.map zbB a1.Keys) a2.toNat fun (c2:List Int) =>
 brn ((↑(List.map zaa c2).length:Int) == 0) (chk ((0:Int)≤a2)<|
 elemD zce (List.map zav a0.Parts) a2.toNat fun (c3:GPart) =>
 some (B (a3 == c3.Key),[]))
 (chk ((0:Int)≤a2)<|
 elemD zdH (List.map zbB a1.Keys) a2.toNat fun (c4:List Int) =>
 callD zss (cw zwL [AV.sl 1 (List.map zaa c4),I a3] []) fun (r5:Bool) =>
 some (B r5,[])))))))=some y):cw zqE [AV.agg (zas a0),AV.agg (zaW a1),I a2,I a3] []=some y:=
 zah zEU zT [] rfl (by kernel_rfl) (by kernel_rfl) (by kernel_rfl) (by kernel_rfl) (by kernel_rfl) h
noncomputable def zma (a0:GMarkEvent) (x2:Int):Option (AV×Mem):=pt zzG 1 ⟨[(1,AV.loc 1 9 0 0),(3,I x2)],[(1,⟨9,zar,[zab a0],true⟩)]⟩
theorem zqU (a0:GMarkEvent) (x2:Int) {y:AV×Mem} (h:(
 brn (decide (x2 < (↑(List.map zaa a0.Pages).length:Int))) (chk ((0:Int)≤x2)<|
 elemD zag (List.map zaa a0.Pages) x2.toNat fun (c3:Int) =>
 callD zha (cw ziB [I c3,I 0,I 1152921504606846976] []) fun (r4:Bool) =>
 brn (!r4) (some (B false,[]))
 (zma a0 (w64 (x2+1))))
 (brn (a0.Kind == 0) (brn (decide (1≤a0.Stamp.Source)) (callD zha (cw ziB [I a0.Part,I 0,I 23] []) fun (r5:Bool) =>
 brn r5 (callD zha (cw ziB [I a0.Value,I (-1),I 40] []) fun (r6:Bool) =>
 brn r6 (some (B (a0.Marker == 0),[]))
 (some (B false,[])))
 (some (B false,[])))
 (some (B false,[])))
 (brn (a0.Kind == 1) (brn (a0.Stamp.Source == 0) (brn (a0.Script == 0) (brn (a0.Part == 0) (brn (a0.Value == 0) (callD zha (cw ziB [I a0.Marker,I 1,I 99] []) fun (r7:Bool) =>
 brn r7 (some (B ((↑(List.map zaa a0.Pages).length:Int) == 0),[]))
 (some (B false,[])))
 (some (B false,[])))
 (some (B false,[])))
 (some (B false,[])))
 (some (B false,[])))
 (brn (a0.Kind == 2) (brn (a0.Stamp.Source == 0) (brn (a0.Value == 0) (brn (a0.Marker == 0) (callD zha (cw ziB [I a0.Part,I (-1),I 23] []) fun (r8:Bool) =>
 brn r8 (some (B ((↑(List.map zaa a0.Pages).length:Int) == 0),[]))
 (some (B false,[])))
 (some (B false,[])))
 (some (B false,[])))
 (some (B false,[])))
 (some (B false,[]))))))=some y):zma a0 x2=some y:=
 pt_of zT [] (by kernel_rfl) h
theorem zHH (a0:GMarkEvent) {y:AV×Mem} (h:(
 callD zoP (cw ztg [AV.agg (zaT a0.Stamp)] []) fun (r0:Bool) =>
 brn (!r0) (some (B false,[]))
 (callD zha (cw ziB [I a0.Script,I 0,I 319999] []) fun (r1:Bool) =>
 brn (!r1) (some (B false,[]))
 (brn (decide (12 < (↑(List.map zaa a0.Pages).length:Int))) (some (B false,[]))
 (zma a0 0))))=some y):cw ztm [AV.agg (zab a0)] []=some y:=
 zah zzG zT [] rfl (by kernel_rfl) (by kernel_rfl) (by kernel_rfl) (by kernel_rfl) (by kernel_rfl) h
theorem zJo (a0:GMarkEvent) (a1:GMarkEvent) {y:AV×Mem} (h:(
 brn (a0.Stamp.Time == a1.Stamp.Time && (a0.Stamp.Source == a1.Stamp.Source && (a0.Stamp.Seq == a1.Stamp.Seq && true))) (brn (a0.Kind == a1.Kind) (brn (a0.Script == a1.Script) (brn (a0.Part == a1.Part) (brn (a0.Value == a1.Value) (brn (a0.Marker == a1.Marker) (callD zfk (cw zgV [AV.sl 1 (List.map zaa a0.Pages),AV.sl 1 (List.map zaa a1.Pages)] []) fun (r0:Bool) =>
 some (B r0,[]))
 (some (B false,[])))
 (some (B false,[])))
 (some (B false,[])))
 (some (B false,[])))
 (some (B false,[])))
 (some (B false,[])))=some y):cw zvs [AV.agg (zab a0),AV.agg (zab a1)] []=some y:=
 zah zIi zT [] rfl (by kernel_rfl) (by kernel_rfl) (by kernel_rfl) (by kernel_rfl) (by kernel_rfl) h
theorem zFN (a0:GMarkEvent) (a1:GMarkEvent) {y:AV×Mem} (h:(
 callD zeU (cw zf9 [AV.agg (zaT a0.Stamp),AV.agg (zaT a1.Stamp)] []) fun (r0:Bool) =>
 some (B r0,[]))=some y):cw zrX [AV.agg (zab a0),AV.agg (zab a1)] []=some y:=
 zah zFT zT [] rfl (by kernel_rfl) (by kernel_rfl) (by kernel_rfl) (by kernel_rfl) (by kernel_rfl) h
noncomputable def zi8 (a0:GSetup) (a2:List Gref29Noted) (r0:Int×Bool) (r1:(List Int)×Bool) (x2:List (List AV)) (x3:List (List AV)) (x4:Int):Option (AV×Mem):=pt ztD 1 ⟨[(2,AV.sl 2 (List.map zaD a2)),(3,AV.loc 3 9 0 0),(8,I r0.fst),(10,AV.sl 1 (List.map zaa r1.fst)),(12,AV.row 12 1 0 (List.length x2)),(13,AV.row 13 1 0 (List.length x3)),(14,I x4)],[(3,⟨9,zaE,[zat a0],true⟩),(12,⟨1,zaj,x2,false⟩),(13,⟨1,zaj,x3,false⟩)]⟩
noncomputable def zit (a0:GSetup) (a2:List Gref29Noted) (r0:Int×Bool) (r1:(List Int)×Bool) (x4:Int) (x8:List (List AV)) (x9:List (List AV)) (x10:Bool) (x11:Int):Option (AV×Mem):=pt ztD 2 ⟨[(2,AV.sl 2 (List.map zaD a2)),(3,AV.loc 3 9 0 0),(8,I r0.fst),(10,AV.sl 1 (List.map zaa r1.fst)),(12,AV.row 12 1 0 (List.length x8)),(13,AV.row 13 1 0 (List.length x9)),(14,I x4),(15,B x10),(16,I x11)],[(3,⟨9,zaE,[zat a0],true⟩),(12,⟨1,zaj,x8,false⟩),(13,⟨1,zaj,x9,false⟩)]⟩
theorem zv6 (a0:GSetup) (a2:List Gref29Noted) (r0:Int×Bool) (r1:(List Int)×Bool) (x2:List (List AV)) (x3:List (List AV)) (x4:Int) {y:AV×Mem} (h:(
 chk (0≤r0.fst)<|
 elemD zbj (List.map zas a0.Papers) (Int.toNat r0.fst) fun (c5:GPaper) =>
 brn (decide (x4 < (↑(List.map zav c5.Parts).length:Int))) (chk (0≤r0.fst)<|
 elemD zbj (List.map zas a0.Papers) (Int.toNat r0.fst) fun (c6:GPaper) =>
 callD zj8 (cw zm6 [AV.agg (zas c6),I x4] []) fun (r7:Bool) =>
 brn (!r7) (zi8 a0 a2 r0 r1 x2 x3 (w64 (x4+1)))
 (zit a0 a2 r0 r1 x4 x2 x3 false 0))
 (chk (0+x2.length≤x2.length)<|
 chk (0+x3.length≤x3.length)<|
 callD zqI (cw zrv [AV.agg (zba a0.Monitor),AV.sl 1 (List.take x2.length x2),AV.sl 1 (List.take x3.length x3)] []) fun (r12:Bool) =>
 some (AV.tup [B true,B r12],[])))=some y):zi8 a0 a2 r0 r1 x2 x3 x4=some y:=
 pt_of zT [] (by kernel_rfl) h
theorem zvR (a0:GSetup) (a2:List Gref29Noted) (r0:Int×Bool) (r1:(List Int)×Bool) (x4:Int) (x8:List (List AV)) (x9:List (List AV)) (x10:Bool) (x11:Int) {y:AV×Mem} (h:(
 brn (decide (x11 < (↑(List.map zaD a2).length:Int))) (chk ((0:Int)≤x11)<|
 elemD zdL (List.map zaD a2) x11.toNat fun (c13:Gref29Noted) =>
 brn (c13.part == x4) (chk ((0:Int)≤x4)<|
 elemD zag (List.map zaa r1.fst) x4.toNat fun (c14:Int) =>
 chk (x8.length=x8.length)<|
 chk ((x8.length+1)*(8+1)≤1099511627776)<|
 chk ((0:Int)≤x11)<|
 elemD zdL (List.map zaD a2) x11.toNat fun (c15:Gref29Noted) =>
 chk (x9.length=x9.length)<|
 chk ((x9.length+1)*(8+1)≤1099511627776)<|
 chk ((x8++[[I c14]]).length=(x8++[[I c14]]).length)<|
 chk ((x9++[[I c15.value]]).length=(x9++[[I c15.value]]).length)<|
 zit a0 a2 r0 r1 x4 (x8++([zaa c14])) (x9++([zaa c15.value])) true (w64 (x11+1)))
 (zit a0 a2 r0 r1 x4 x8 x9 x10 (w64 (x11+1))))
 (brn (!x10) (some (AV.tup [B false,B false],[]))
 (zi8 a0 a2 r0 r1 x8 x9 (w64 (x4+1)))))=some y):zit a0 a2 r0 r1 x4 x8 x9 x10 x11=some y:=
 pt_of zT [] (by kernel_rfl) h
theorem zHl (a0:GSetup) (a1:Int) (a2:List Gref29Noted) {y:AV×Mem} (h:(
 callD zgo (cw ziP [AV.agg (zat a0),I a1] []) fun (r0:Int×Bool) =>
 callD zcX (cw zdJ [AV.sl 2 (List.map zbT a0.Seeds),I a1] []) fun (r1:(List Int)×Bool) =>
 zi8 a0 a2 r0 r1 [] [] 0)=some y):cw zll [AV.agg (zat a0),I a1,AV.sl 2 (List.map zaD a2)] []=some y:=
 zah ztD zT [] rfl (by kernel_rfl) (by kernel_rfl) (by kernel_rfl) (by kernel_rfl) (by kernel_rfl) h
noncomputable def zt8 (a0:GMonitorRule) (a1:GWatch) (a2:Bool):Option (AV×Mem):=pt zvk 1008 ⟨[(3,AV.loc 3 4 0 0),(6,AV.loc 6 2 0 0),(8,AV.row 8 1 (0+Int.toNat 1) ((List.map nBool a1.Last++[[AV.v (Go.Value.bool a2)]]).length - Int.toNat 1))],[(3,⟨4,zmR,[zba a0],true⟩),(6,⟨2,zaQ,[[AV.v (.slice none 0 0),B false]],true⟩),(8,⟨1,zbn,(List.map nBool a1.Last)++([nBool a2]),false⟩)]⟩
noncomputable def zrO (a0:GMonitorRule) (a1:GWatch) (a2:Bool):Option (AV×Mem):=pt zvk 1008 ⟨[(3,AV.loc 3 4 0 0),(6,AV.loc 6 2 0 0),(8,AV.row 8 1 0 (List.length ((List.map nBool a1.Last)++([[B a2]])))),(27,B false)],[(3,⟨4,zmR,[zba a0],true⟩),(6,⟨2,zaQ,[[AV.v (.slice none 0 0),B false]],true⟩),(8,⟨1,zbn,(List.map nBool a1.Last)++([nBool a2]),false⟩)]⟩
theorem zBT (a0:GMonitorRule) (a1:GWatch) (a2:Bool) {y:AV×Mem} (h:(
 chk (0+Int.toNat 1+((List.map nBool a1.Last++[[AV.v (Go.Value.bool a2)]]).length - Int.toNat 1)≤(List.map nBool a1.Last++[[AV.v (Go.Value.bool a2)]]).length)<|
 callD zif (cw zlz [AV.sl 1 (List.take ((List.map nBool a1.Last++[[AV.v (Go.Value.bool a2)]]).length - Int.toNat 1) (List.drop (0+Int.toNat 1) ((List.map nBool a1.Last)++([nBool a2]))))] []) fun (r1:Int) =>
 chk (0+Int.toNat 1+((List.map nBool a1.Last++[[AV.v (Go.Value.bool a2)]]).length - Int.toNat 1)≤(List.map nBool a1.Last++[[AV.v (Go.Value.bool a2)]]).length)<|
 some (AV.tup [AV.agg [AV.sl 1 (List.take ((List.map nBool a1.Last++[[AV.v (Go.Value.bool a2)]]).length - Int.toNat 1) (List.drop (0+Int.toNat 1) ((List.map nBool a1.Last)++([[B a2]])))),B (decide (a0.Fails≤r1))],I 0],[]))=some y):zt8 a0 a1 a2=some y:=
 pt_of zT [8] (by kernel_rfl) h
theorem zz4 (a0:GMonitorRule) (a1:GWatch) (a2:Bool) {y:AV×Mem} (h:(
 chk (0+(List.map nBool a1.Last++[[AV.v (Go.Value.bool a2)]]).length≤(List.map nBool a1.Last++[[AV.v (Go.Value.bool a2)]]).length)<|
 callD zif (cw zlz [AV.sl 1 (List.take ((List.map nBool a1.Last++[[AV.v (Go.Value.bool a2)]]).length) ((List.map nBool a1.Last)++([nBool a2])))] []) fun (r2:Int) =>
 chk (0+(List.map nBool a1.Last++[[AV.v (Go.Value.bool a2)]]).length≤(List.map nBool a1.Last++[[AV.v (Go.Value.bool a2)]]).length)<|
 some (AV.tup [AV.agg [AV.sl 1 (List.take ((List.map nBool a1.Last++[[AV.v (Go.Value.bool a2)]]).length) ((List.map nBool a1.Last)++([[B a2]]))),B (decide (a0.Fails≤r2))],I 0],[]))=some y):zrO a0 a1 a2=some y:=
 pt_of zT [8] (by kernel_rfl) h
theorem zII (a0:GMonitorRule) (a1:GWatch) (a2:Bool) {y:AV×Mem} (h:(
 callD zoJ (cw ztn [AV.agg (zba a0),AV.agg (za7 a1)] []) fun (r0:Bool) =>
 brn (!r0) (some (AV.tup [AV.agg (za7 (⟨[],false⟩)),I 1],[]))
 (brn a1.Suspended (some (AV.tup [AV.agg (za7 (⟨[],false⟩)),I 8],[]))
 (chk ((List.map nBool a1.Last).length*(1+1)≤1099511627776)<|
 chk ((List.map nBool a1.Last).length=(List.map nBool a1.Last).length)<|
 chk (((List.map nBool a1.Last).length+1)*(1+1)≤1099511627776)<|
 chk ((List.map nBool a1.Last++[[AV.v (Go.Value.bool a2)]]).length=(List.map nBool a1.Last++[[AV.v (Go.Value.bool a2)]]).length)<|
 brn (decide (a0.Window < (↑(List.map nBool a1.Last++[[AV.v (Go.Value.bool a2)]]).length:Int))) (chk ((0:Int)≤1)<|
 chk (Int.toNat 1≤(List.map nBool a1.Last++[[AV.v (Go.Value.bool a2)]]).length)<|
 chk ((List.map nBool a1.Last++[[AV.v (Go.Value.bool a2)]]).length≤(List.map nBool a1.Last++[[AV.v (Go.Value.bool a2)]]).length)<|
 zt8 a0 a1 a2)
 (zrO a0 a1 a2))))=some y):cw zqJ [AV.agg (zba a0),AV.agg (za7 a1),B a2] []=some y:=
 zah zvk zT [8] rfl (by kernel_rfl) (by kernel_rfl) (by kernel_rfl) (by kernel_rfl) (by kernel_rfl) h
theorem zIb (a0:GStamp) (a1:GStamp) {y:AV×Mem} (h:(
 brn (a0.Time != a1.Time) (some (B (decide (a0.Time < a1.Time)),[]))
 (brn (a0.Source != a1.Source) (some (B (decide (a0.Source < a1.Source)),[]))
 (some (B (decide (a0.Seq < a1.Seq)),[]))))=some y):cw zf9 [AV.agg (zaT a0),AV.agg (zaT a1)] []=some y:=
 zah zJc zT [] rfl (by kernel_rfl) (by kernel_rfl) (by kernel_rfl) (by kernel_rfl) (by kernel_rfl) h
noncomputable def znm (a0:GMarker) (a1:GScript) (x0:Int):Option (AV×Mem):=pt zAV 1 ⟨[(2,AV.loc 2 5 0 0),(3,AV.loc 3 7 0 0),(5,I x0)],[(2,⟨5,zcM,[zaO a0],true⟩),(3,⟨7,zbz,[zaw a1],true⟩)]⟩
theorem zr0 (a0:GMarker) (a1:GScript) (x0:Int) {y:AV×Mem} (h:(
 brn (decide (x0 < (↑(List.map zaa a0.Papers).length:Int))) (chk ((0:Int)≤x0)<|
 elemD zag (List.map zaa a0.Papers) x0.toNat fun (c1:Int) =>
 brn (c1 == a1.Paper) (some (B (a0.Centre != a1.Centre),[]))
 (znm a0 a1 (w64 (x0+1))))
 (some (B false,[])))=some y):znm a0 a1 x0=some y:=
 pt_of zT [] (by kernel_rfl) h
theorem zIA (a0:GMarker) (a1:GScript) {y:AV×Mem} (h:(
 znm a0 a1 0)=some y):cw zvx [AV.agg (zaO a0),AV.agg (zaw a1)] []=some y:=
 zah zAV zT [] rfl (by kernel_rfl) (by kernel_rfl) (by kernel_rfl) (by kernel_rfl) (by kernel_rfl) h
theorem zyC (a0:GMarker) {y:AV×Mem} (h:(
 brn (decide (a0.ID < 1)) (some (B false,[]))
 (brn (decide (99 < a0.ID)) (some (B false,[]))
 (brn (decide (a0.Centre < -1)) (some (B false,[]))
 (brn (decide (99 < a0.Centre)) (some (B false,[]))
 (brn (decide (a0.Level < 1)) (some (B false,[]))
 (brn (decide (3 < a0.Level)) (some (B false,[]))
 (brn (decide (a0.Capacity < 0)) (some (B false,[]))
 (brn (decide (60 < a0.Capacity)) (some (B false,[]))
 (callD zdD (cw zfs [AV.sl 1 (List.map zaa a0.Papers),AV.fn zbF []] []) fun (r0:Bool) =>
 some (B (!r0),[]))))))))))=some y):cw zla [AV.agg (zaO a0)] []=some y:=
 zah zyg zT [] rfl (by kernel_rfl) (by kernel_rfl) (by kernel_rfl) (by kernel_rfl) (by kernel_rfl) h
noncomputable def zjt (a0:List Int) (x0:Int):Option (AV×Mem):=pt zv9 1 ⟨[(0,AV.sl 1 (List.map zaa a0)),(3,I x0)],[]⟩
theorem zjL (a0:List Int) (x0:Int) {y:AV×Mem} (h:(
 brn (decide (x0 < (↑(List.map zaa a0).length:Int))) (chk ((0:Int)≤(w64 (x0 - 1)))<|
 elemD zag (List.map zaa a0) ((w64 (x0 - 1)).toNat) fun (c1:Int) =>
 chk ((0:Int)≤x0)<|
 elemD zag (List.map zaa a0) x0.toNat fun (c2:Int) =>
 brn (decide (c2≤c1)) (some (B false,[]))
 (zjt a0 (w64 (x0+1))))
 (some (B true,[])))=some y):zjt a0 x0=some y:=
 pt_of zT [] (by kernel_rfl) h
theorem zER (a0:List Int) {y:AV×Mem} (h:(
 zjt a0 1)=some y):cw zqh [AV.sl 1 (List.map zaa a0)] []=some y:=
 zah zv9 zT [] rfl (by kernel_rfl) (by kernel_rfl) (by kernel_rfl) (by kernel_rfl) (by kernel_rfl) h
theorem zDo (a0:Int) {y:AV×Mem} (h:(
 brn (decide (0≤a0)) (some (B (decide (a0≤31)),[]))
 (some (B false,[])))=some y):cw zk1 [I a0] []=some y:=
 zah zEf zT [] rfl (by kernel_rfl) (by kernel_rfl) (by kernel_rfl) (by kernel_rfl) (by kernel_rfl) h
end Go.Proofs.YticojpmhlhfhlaaGreat
