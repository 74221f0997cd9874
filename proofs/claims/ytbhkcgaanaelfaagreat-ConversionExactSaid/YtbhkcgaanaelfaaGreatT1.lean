/- What the functions compute, between two cut points: printed by a program, checked by the kernel. -/
import Derived.Test.YtbhkcgaanaelfaaGreatAnn
namespace Go.Proofs.YtbhkcgaanaelfaaGreat
open Go.Ab
set_option maxRecDepth 100000
set_option linter.unusedVariables false
noncomputable def zb4 (a1:GCurve) (a2:GRatio) (a3:GRatio) (a4:Int) (a5:Int) (r4:GCurve×GmarkDice) (r5:GCurve×GmarkDice) (r6:GCurve×GmarkDice) (r7:GCurve×GmarkDice) (x8:GmarkDice) (x9:Int):Option (AV×Mem):=pt zcZ 1 ⟨[(4,I a4),(5,I a5),(8,AV.loc 8 2 0 0),(9,AV.loc 9 2 0 0),(13,AV.loc 53 2 0 0),(14,AV.loc 14 1 0 0),(15,AV.loc 15 1 0 0),(66,AV.agg [AV.sl 4 (List.map zae r4.fst.Points),AV.sl 4 (List.map zae r6.fst.Points),AV.sl 4 (List.map zae a1.Points),AV.sl 4 (List.map zae r7.fst.Points)]),(67,I x9)],[(8,⟨2,zac,[zaa a2],true⟩),(9,⟨2,zac,[zaa a3],true⟩),(14,⟨1,zau,[zah r4.fst],true⟩),(15,⟨1,zau,[zah r5.fst],true⟩),(53,⟨2,zal,[zaA x8],true⟩)]⟩
noncomputable def zek (a1:GCurve) (a2:GRatio) (a3:GRatio) (a4:Int) (a5:Int) (r4:GCurve×GmarkDice) (r5:GCurve×GmarkDice) (r6:GCurve×GmarkDice) (r7:GCurve×GmarkDice) (x8:GmarkDice) (x9:Int) (c10:GCurve) (x21:GCurve) (x22:GCurve) (x23:Int):Option (AV×Mem):=pt zcZ 2 ⟨[(4,I a4),(5,I a5),(8,AV.loc 8 2 0 0),(9,AV.loc 9 2 0 0),(13,AV.loc 53 2 0 0),(14,AV.loc 14 1 0 0),(15,AV.loc 15 1 0 0),(17,AV.loc 17 1 0 0),(18,AV.loc 18 1 0 0),(20,AV.loc 20 1 0 0),(66,AV.agg [AV.sl 4 (List.map zae r4.fst.Points),AV.sl 4 (List.map zae r6.fst.Points),AV.sl 4 (List.map zae a1.Points),AV.sl 4 (List.map zae r7.fst.Points)]),(67,I x9),(130,AV.agg [AV.sl 4 (List.map zae c10.Points),AV.sl 4 (List.map zae r5.fst.Points),AV.sl 4 (List.map zae r5.fst.Points),AV.sl 4 (List.map zae c10.Points)]),(131,I x23)],[(8,⟨2,zac,[zaa a2],true⟩),(9,⟨2,zac,[zaa a3],true⟩),(14,⟨1,zau,[zah r4.fst],true⟩),(15,⟨1,zau,[zah r5.fst],true⟩),(17,⟨1,zau,[zah c10],true⟩),(18,⟨1,zau,[zah x21],true⟩),(20,⟨1,zau,[zah x22],true⟩),(53,⟨2,zal,[zaA x8],true⟩)]⟩
noncomputable def zej (a2:GRatio) (a3:GRatio) (r24:GRatio×GmarkDice) (r25:GRatio×GmarkDice) (r26:GRatio) (r27:GRatio) (x28:Int):Option (AV×Mem):=pt zcZ 5 ⟨[(243,AV.agg [I a2.Num,I a2.Den,I a3.Num,I a3.Den,I r24.fst.Num,I r24.fst.Den,I r25.fst.Num,I r25.fst.Den,I r26.Num,I r26.Den,I r27.Num,I r27.Den]),(244,I x28)],[]⟩
noncomputable def zel (a1:GCurve) (a2:GRatio) (a3:GRatio) (a4:Int) (a5:Int) (r4:GCurve×GmarkDice) (r5:GCurve×GmarkDice) (r6:GCurve×GmarkDice) (r7:GCurve×GmarkDice) (x9:Int) (c10:GCurve) (r33:GRatio×GmarkDice) (r34:Int×GmarkDice) (r35:GRatio) (r36:GRatio) (x37:Int):Option (AV×Mem):=pt zcZ 3 ⟨[(4,I a4),(5,I a5),(8,AV.loc 8 2 0 0),(9,AV.loc 9 2 0 0),(13,AV.loc 53 2 0 0),(14,AV.loc 14 1 0 0),(15,AV.loc 15 1 0 0),(17,AV.loc 17 1 0 0),(66,AV.agg [AV.sl 4 (List.map zae r4.fst.Points),AV.sl 4 (List.map zae r6.fst.Points),AV.sl 4 (List.map zae a1.Points),AV.sl 4 (List.map zae r7.fst.Points)]),(67,I x9),(168,AV.agg [I a2.Num,I a2.Den,I r33.fst.Num,I r33.fst.Den,I r35.Num,I r35.Den,I r36.Num,I r36.Den]),(169,I x37)],[(8,⟨2,zac,[zaa a2],true⟩),(9,⟨2,zac,[zaa a3],true⟩),(14,⟨1,zau,[zah r4.fst],true⟩),(15,⟨1,zau,[zah r5.fst],true⟩),(17,⟨1,zau,[zah c10],true⟩),(53,⟨2,zal,[zaA r34.snd],true⟩)]⟩
noncomputable def zem (a1:GCurve) (a2:GRatio) (a3:GRatio) (a4:Int) (a5:Int) (r4:GCurve×GmarkDice) (r5:GCurve×GmarkDice) (r6:GCurve×GmarkDice) (r7:GCurve×GmarkDice) (x9:Int) (c10:GCurve) (r46:Int×GmarkDice) (x47:Int):Option (AV×Mem):=pt zcZ 4 ⟨[(4,I a4),(5,I a5),(8,AV.loc 8 2 0 0),(9,AV.loc 9 2 0 0),(13,AV.loc 53 2 0 0),(14,AV.loc 14 1 0 0),(15,AV.loc 15 1 0 0),(17,AV.loc 17 1 0 0),(66,AV.agg [AV.sl 4 (List.map zae r4.fst.Points),AV.sl 4 (List.map zae r6.fst.Points),AV.sl 4 (List.map zae a1.Points),AV.sl 4 (List.map zae r7.fst.Points)]),(67,I x9),(200,AV.agg [I a4,I a5,I r46.fst,I 12,I 200,I 200]),(201,I x47)],[(8,⟨2,zac,[zaa a2],true⟩),(9,⟨2,zac,[zaa a3],true⟩),(14,⟨1,zau,[zah r4.fst],true⟩),(15,⟨1,zau,[zah r5.fst],true⟩),(17,⟨1,zau,[zah c10],true⟩),(53,⟨2,zal,[zaA r46.snd],true⟩)]⟩
theorem zir (a1:GCurve) (a2:GRatio) (a3:GRatio) (a4:Int) (a5:Int) (r4:GCurve×GmarkDice) (r5:GCurve×GmarkDice) (r6:GCurve×GmarkDice) (r7:GCurve×GmarkDice) (x8:GmarkDice) (x9:Int) {y:AV×Mem} (h:(
 brn (decide (x9 < 4)) (chk ((0:Int)≤x9)<|
 chk ((x9:Int) < (↑4:Int))<|
 elemD zao ([zah r4.fst,zah r6.fst,zah a1,zah r7.fst]) x9.toNat fun (c10:GCurve) =>
 callD zdn (cw zcO [AV.agg (zah c10)] []) fun (r11:GCurve×Int) =>
 callD zf5 (cw zhb [AV.agg (zah c10)] []) fun (r12:GCurve×Int) =>
 callD zcD (cw zcY [AV.agg (zah c10)] []) fun (r13:Bool) =>
 callD zd8 (cw zeR [AV.agg (zah c10)] []) fun (r14:Bool) =>
 brn (!r13 == r14) (some (B false,[]))
 (callD zeN (cw zfu [AV.agg (zah r11.fst),AV.agg (zah r12.fst)] []) fun (r15:Bool) =>
 brn (!r15) (some (B false,[]))
 (brn (r11.snd != r12.snd) (some (B false,[]))
 (callD zgY (cw zjM [AV.agg (zah c10),AV.agg (zah r4.fst)] []) fun (r16:Bool) =>
 callD zkR (cw zm7 [AV.agg (zah c10),AV.agg (zah r4.fst)] []) fun (r17:Bool) =>
 brn (!r16 == r17) (some (B false,[]))
 (callD zfJ (cw zhH [AV.agg (zah c10)] []) fun (r18:GCurve×Int) =>
 callD zit (cw zk6 [AV.agg (zah c10)] []) fun (r19:GCurve×Int) =>
 callD zeN (cw zfu [AV.agg (zah r18.fst),AV.agg (zah r19.fst)] []) fun (r20:Bool) =>
 brn (!r20) (some (B false,[]))
 (brn (r18.snd != r19.snd) (some (B false,[]))
 (zek a1 a2 a3 a4 a5 r4 r5 r6 r7 x8 x9 c10 r18.fst r19.fst 0)))))))
 (callD zeJ (cw zfF [AV.loc 1000 2 0 0] [(1000,⟨2,zal,[zaA x8],true⟩)]) fun (r24:GRatio×GmarkDice) =>
 callD zeJ (cw zfF [AV.loc 1000 2 0 0] [(1000,⟨2,zal,[zaA r24.snd],true⟩)]) fun (r25:GRatio×GmarkDice) =>
 callD zaH (cw zaJ [I 1] []) fun (r26:GRatio) =>
 callD zaH (cw zaJ [I 1152921504606846976] []) fun (r27:GRatio) =>
 zej a2 a3 r24 r25 r26 r27 0))=some y):zb4 a1 a2 a3 a4 a5 r4 r5 r6 r7 x8 x9=some y:=
 pt_of zT [] (by kernel_rfl) h
theorem ziz (a1:GCurve) (a2:GRatio) (a3:GRatio) (a4:Int) (a5:Int) (r4:GCurve×GmarkDice) (r5:GCurve×GmarkDice) (r6:GCurve×GmarkDice) (r7:GCurve×GmarkDice) (x8:GmarkDice) (x9:Int) (c10:GCurve) (x21:GCurve) (x22:GCurve) (x23:Int) {y:AV×Mem} (h:(
 brn (decide (x23 < 2)) (chk ((0:Int)≤x23)<|
 chk ((x23:Int) < (↑2:Int))<|
 elemD zpf ([zmL (⟨c10.Points⟩,⟨r5.fst.Points⟩),zmL (⟨r5.fst.Points⟩,⟨c10.Points⟩)]) x23.toNat fun (c29:GCurve×GCurve) =>
 callD zfP (cw zhN [AV.agg (zah c29.fst),AV.agg (zah c29.snd)] []) fun (r30:GCurve×Int) =>
 callD ziI (cw zkO [AV.agg (zah c29.fst),AV.agg (zah c29.snd)] []) fun (r31:GCurve×Int) =>
 callD zeN (cw zfu [AV.agg (zah r30.fst),AV.agg (zah r31.fst)] []) fun (r32:Bool) =>
 brn (!r32) (some (B false,[]))
 (brn (r30.snd != r31.snd) (some (B false,[]))
 (zek a1 a2 a3 a4 a5 r4 r5 r6 r7 x8 x9 c10 r30.fst r31.fst (w64 (x23+1)))))
 (callD zeJ (cw zfF [AV.loc 1000 2 0 0] [(1000,⟨2,zal,[zaA x8],true⟩)]) fun (r33:GRatio×GmarkDice) =>
 callD zaX (cw zaU [AV.loc 1000 2 0 0,I 30] [(1000,⟨2,zal,[zaA r33.snd],true⟩)]) fun (r34:Int×GmarkDice) =>
 callD zaH (cw zaJ [I (w64 (r34.fst - 10))] []) fun (r35:GRatio) =>
 callD zaH (cw zaJ [I 1152921504606846976] []) fun (r36:GRatio) =>
 zel a1 a2 a3 a4 a5 r4 r5 r6 r7 x9 c10 r33 r34 r35 r36 0))=some y):zek a1 a2 a3 a4 a5 r4 r5 r6 r7 x8 x9 c10 x21 x22 x23=some y:=
 pt_of zT [] (by kernel_rfl) h
theorem zix (a2:GRatio) (a3:GRatio) (r24:GRatio×GmarkDice) (r25:GRatio×GmarkDice) (r26:GRatio) (r27:GRatio) (x28:Int) {y:AV×Mem} (h:(
 brn (decide (x28 < 3)) (chk ((0:Int)≤x28)<|
 chk ((x28:Int) < (↑3:Int))<|
 elemD zpv ([zk9 (⟨a2.Num,a2.Den⟩,⟨a3.Num,a3.Den⟩),zk9 (⟨r24.fst.Num,r24.fst.Den⟩,⟨r25.fst.Num,r25.fst.Den⟩),zk9 (⟨r26.Num,r26.Den⟩,⟨r27.Num,r27.Den⟩)]) x28.toNat fun (c38:GRatio×GRatio) =>
 callD zfB (cw zfG [AV.agg (zaa c38.fst),AV.agg (zaa c38.snd)] []) fun (r39:GCurve×Int) =>
 callD zli (cw zm4 [AV.agg (zaa c38.fst),AV.agg (zaa c38.snd)] []) fun (r40:GCurve×Int) =>
 callD zeN (cw zfu [AV.agg (zah r39.fst),AV.agg (zah r40.fst)] []) fun (r41:Bool) =>
 brn (!r41) (some (B false,[]))
 (brn (r39.snd != r40.snd) (some (B false,[]))
 (zej a2 a3 r24 r25 r26 r27 (w64 (x28+1)))))
 (callD zhh (cw zi9 [] []) fun (r42:Bool) =>
 some (B r42,[])))=some y):zej a2 a3 r24 r25 r26 r27 x28=some y:=
 pt_of zT [] (by kernel_rfl) h
theorem ziF (a1:GCurve) (a2:GRatio) (a3:GRatio) (a4:Int) (a5:Int) (r4:GCurve×GmarkDice) (r5:GCurve×GmarkDice) (r6:GCurve×GmarkDice) (r7:GCurve×GmarkDice) (x9:Int) (c10:GCurve) (r33:GRatio×GmarkDice) (r34:Int×GmarkDice) (r35:GRatio) (r36:GRatio) (x37:Int) {y:AV×Mem} (h:(
 brn (decide (x37 < 4)) (chk ((0:Int)≤x37)<|
 chk ((x37:Int) < (↑4:Int))<|
 elemD zad ([zaa a2,zaa r33.fst,zaa r35,zaa r36]) x37.toNat fun (c43:GRatio) =>
 callD zdP (cw zcs [AV.agg (zah c10),AV.agg (zaa c43)] []) fun (r44:GRatio×Int) =>
 callD zjh (cw ziY [AV.agg (zah c10),AV.agg (zaa c43)] []) fun (r45:GRatio×Int) =>
 brn (!(r44.fst.Num == r45.fst.Num && (r44.fst.Den == r45.fst.Den && true))) (some (B false,[]))
 (brn (r44.snd != r45.snd) (some (B false,[]))
 (zel a1 a2 a3 a4 a5 r4 r5 r6 r7 x9 c10 r33 r34 r35 r36 (w64 (x37+1)))))
 (callD zaX (cw zaU [AV.loc 1000 2 0 0,I 20] [(1000,⟨2,zal,[zaA r34.snd],true⟩)]) fun (r46:Int×GmarkDice) =>
 zem a1 a2 a3 a4 a5 r4 r5 r6 r7 x9 c10 r46 0))=some y):zel a1 a2 a3 a4 a5 r4 r5 r6 r7 x9 c10 r33 r34 r35 r36 x37=some y:=
 pt_of zT [] (by kernel_rfl) h
theorem ziG (a1:GCurve) (a2:GRatio) (a3:GRatio) (a4:Int) (a5:Int) (r4:GCurve×GmarkDice) (r5:GCurve×GmarkDice) (r6:GCurve×GmarkDice) (r7:GCurve×GmarkDice) (x9:Int) (c10:GCurve) (r46:Int×GmarkDice) (x47:Int) {y:AV×Mem} (h:(
 brn (decide (x47 < 3)) (chk ((0:Int)≤x47)<|
 chk ((x47:Int) < (↑3:Int))<|
 elemD zq9 ([zlX (a4,a5),zlX (r46.fst,12),zlX (200,200)]) x47.toNat fun (c48:Int×Int) =>
 callD zfH (cw zhv [AV.agg (zah c10),I c48.fst,I c48.snd] []) fun (r49:Int×Int) =>
 callD ziE (cw zkX [AV.agg (zah c10),I c48.fst,I c48.snd] []) fun (r50:Int×Int) =>
 brn (r49.fst != r50.fst) (some (B false,[]))
 (brn (r49.snd != r50.snd) (some (B false,[]))
 (zem a1 a2 a3 a4 a5 r4 r5 r6 r7 x9 c10 r46 (w64 (x47+1)))))
 (zb4 a1 a2 a3 a4 a5 r4 r5 r6 r7 r46.snd (w64 (x9+1))))=some y):zem a1 a2 a3 a4 a5 r4 r5 r6 r7 x9 c10 r46 x47=some y:=
 pt_of zT [] (by kernel_rfl) h
theorem znB (a0:List Int) (a1:GCurve) (a2:GRatio) (a3:GRatio) (a4:Int) (a5:Int) {y:AV×Mem} (h:(
 callD zk1 (cw zmW [AV.sl 1 (List.map zbl a0)] []) fun (r0:Bool) =>
 brn (!r0) (callD zhh (cw zi9 [] []) fun (r1:Bool) =>
 some (B r1,[]))
 (brn (decide (40 < (↑(List.map zae a1.Points).length:Int))) (callD zhh (cw zi9 [] []) fun (r2:Bool) =>
 some (B r2,[]))
 (callD zlN (cw zoc [AV.sl 1 (List.map zbl a0)] []) fun (r3:GmarkDice) =>
 callD zfy (cw zgV [AV.loc 1000 2 0 0] [(1000,⟨2,zal,[zaA r3],true⟩)]) fun (r4:GCurve×GmarkDice) =>
 callD zfy (cw zgV [AV.loc 1000 2 0 0] [(1000,⟨2,zal,[zaA r4.snd],true⟩)]) fun (r5:GCurve×GmarkDice) =>
 callD zjW (cw zjX [AV.loc 1000 2 0 0,AV.agg (zah r4.fst)] [(1000,⟨2,zal,[zaA r5.snd],true⟩)]) fun (r6:GCurve×GmarkDice) =>
 callD zjW (cw zjX [AV.loc 1000 2 0 0,AV.agg (zah r5.fst)] [(1000,⟨2,zal,[zaA r6.snd],true⟩)]) fun (r7:GCurve×GmarkDice) =>
 zb4 a1 a2 a3 a4 a5 r4 r5 r6 r7 r7.snd 0)))=some y):cw zjy [AV.sl 1 (List.map zbl a0),AV.agg (zah a1),AV.agg (zaa a2),AV.agg (zaa a3),I a4,I a5] []=some y:=
 zaj zcZ zT [] rfl (by kernel_rfl) (by kernel_rfl) (by kernel_rfl) (by kernel_rfl) (by kernel_rfl) h
theorem zwM (a0:List Int) {y:AV×Mem} (h:(
 some (B (decide ((↑(List.map zbl a0).length:Int)≤600)),[]))=some y):cw zmW [AV.sl 1 (List.map zbl a0)] []=some y:=
 zaj zwJ zT [] rfl (by kernel_rfl) (by kernel_rfl) (by kernel_rfl) (by kernel_rfl) (by kernel_rfl) h
theorem zxw {y:AV×Mem} (h:(
 callD zaH (cw zaJ [I 0] []) fun (r0:GRatio) =>
 callD zaH (cw zaJ [I 0] []) fun (r1:GRatio) =>
 callD zaH (cw zaJ [I 2] []) fun (r2:GRatio) =>
 callD zaH (cw zaJ [I 4] []) fun (r3:GRatio) =>
 callD zaH (cw zaJ [I 3] []) fun (r4:GRatio) =>
 callD zaH (cw zaJ [I 5] []) fun (r5:GRatio) =>
 callD zaH (cw zaJ [I 1] []) fun (r6:GRatio) =>
 callD zdP (cw zcs [AV.agg (zah (⟨[⟨⟨r0.Num,r0.Den⟩,⟨r1.Num,r1.Den⟩⟩,⟨⟨r2.Num,r2.Den⟩,⟨r3.Num,r3.Den⟩⟩,⟨⟨r4.Num,r4.Den⟩,⟨r5.Num,r5.Den⟩⟩]⟩)),AV.agg (zaa r6)] []) fun (r7:GRatio×Int) =>
 callD zaH (cw zaJ [I 4] []) fun (r8:GRatio) =>
 callD zdP (cw zcs [AV.agg (zah (⟨[⟨⟨r0.Num,r0.Den⟩,⟨r1.Num,r1.Den⟩⟩,⟨⟨r2.Num,r2.Den⟩,⟨r3.Num,r3.Den⟩⟩,⟨⟨r4.Num,r4.Den⟩,⟨r5.Num,r5.Den⟩⟩]⟩)),AV.agg (zaa r8)] []) fun (r9:GRatio×Int) =>
 callD zdn (cw zcO [AV.agg (zah (⟨[⟨⟨r0.Num,r0.Den⟩,⟨r1.Num,r1.Den⟩⟩,⟨⟨r2.Num,r2.Den⟩,⟨r3.Num,r3.Den⟩⟩,⟨⟨r4.Num,r4.Den⟩,⟨r5.Num,r5.Den⟩⟩]⟩))] []) fun (r10:GCurve×Int) =>
 callD zaH (cw zaJ [I 2] []) fun (r11:GRatio) =>
 callD zaH (cw zaJ [I 1] []) fun (r12:GRatio) =>
 callD zfB (cw zfG [AV.agg (zaa r11),AV.agg (zaa r12)] []) fun (r13:GCurve×Int) =>
 brn (r7.snd == 0) (brn (r9.snd == 0) (brn (r10.snd == 0) (brn (r13.snd == 0) (callD zaH (cw zaJ [I 2] []) fun (r14:GRatio) =>
 brn (r7.fst.Num == r14.Num && (r7.fst.Den == r14.Den && true)) (callD zaH (cw zaJ [I 6] []) fun (r15:GRatio) =>
 brn (r9.fst.Num == r15.Num && (r9.fst.Den == r15.Den && true)) (brn ((↑(List.map zae r10.fst.Points).length:Int) == 3) (chk ((0:Int)≤0)<|
 elemD zaq (List.map zae r10.fst.Points) (Int.toNat 0) fun (c16:GPoint) =>
 callD zaH (cw zaJ [I 1] []) fun (r17:GRatio) =>
 callD zaH (cw zaJ [I 2] []) fun (r18:GRatio) =>
 brn (c16.X.Num == r17.Num && (c16.X.Den == r17.Den && true) && (c16.Y.Num == r18.Num && (c16.Y.Den == r18.Den && true) && true)) (brn ((↑(List.map zae r13.fst.Points).length:Int) == 2) (chk ((0:Int)≤1)<|
 elemD zaq (List.map zae r13.fst.Points) (Int.toNat 1) fun (c19:GPoint) =>
 callD zaH (cw zaJ [I 1] []) fun (r20:GRatio) =>
 callD zaH (cw zaJ [I 3] []) fun (r21:GRatio) =>
 some (B (c19.X.Num == r20.Num && (c19.X.Den == r20.Den && true) && (c19.Y.Num == r21.Num && (c19.Y.Den == r21.Den && true) && true)),[]))
 (some (B false,[])))
 (some (B false,[])))
 (some (B false,[])))
 (some (B false,[])))
 (some (B false,[])))
 (some (B false,[])))
 (some (B false,[])))
 (some (B false,[])))
 (some (B false,[])))=some y):cw zi9 [] []=some y:=
 zaj zxv zT [] rfl (by kernel_rfl) (by kernel_rfl) (by kernel_rfl) (by kernel_rfl) (by kernel_rfl) h
theorem zyQ (a0:List Int) {y:AV×Mem} (h:(
 some (AV.newp 2 zal (zaA (⟨a0,0⟩)),[]))=some y):cw zoc [AV.sl 1 (List.map zbl a0)] []=some y:=
 zaj zyq zT [] rfl (by kernel_rfl) (by kernel_rfl) (by kernel_rfl) (by kernel_rfl) (by kernel_rfl) h
noncomputable def zgl (x3:List (List AV)) (x4:GmarkDice) (x5:Int) (x6:Int) (x7:Int):Option (AV×Mem):=pt zmt 1 ⟨[(0,AV.loc 1000 2 0 0),(2,AV.loc 2 1 0 0),(3,I x5),(4,I x6),(5,AV.loc 5 1 0 0),(6,I x7)],[(2,⟨1,zau,[[AV.v (.slice none 0 0)]],true⟩),(5,⟨1,zau,[[AV.row 900 4 0 (List.length x3)]],true⟩),(900,⟨4,za0,x3,false⟩),(1000,⟨2,zal,[zaA x4],true⟩)]⟩
theorem zll (x3:List (List AV)) (x4:GmarkDice) (x5:Int) (x6:Int) (x7:Int) {y:AV×Mem} (h:(
 brn (decide (0 < x7)) (callD zaX (cw zaU [AV.loc 1000 2 0 0,I 3] [(1000,⟨2,zal,[zaA x4],true⟩)]) fun (r8:Int×GmarkDice) =>
 callD zaX (cw zaU [AV.loc 1000 2 0 0,I 4] [(1000,⟨2,zal,[zaA r8.snd],true⟩)]) fun (r9:Int×GmarkDice) =>
 chk (x3.length=x3.length)<|
 chk ((x3.length+1)*(32+1)≤1099511627776)<|
 zgl (x3++([zae (⟨⟨w64 (w64 (x5+1)+r8.fst),1⟩,⟨w64 (w64 (x6+1)+r9.fst),1⟩⟩)])) r9.snd (w64 (w64 (x5+1)+r8.fst)) (w64 (w64 (x6+1)+r9.fst)) (w64 (x7 - 1)))
 (chk (0+x3.length≤x3.length)<|
 some (AV.agg [AV.sl 4 (List.take x3.length x3)],[(1000,⟨2,zal,[zaA x4],true⟩)])))=some y):zgl x3 x4 x5 x6 x7=some y:=
 pt_of zT [] (by kernel_rfl) h
theorem zrU (a0:GmarkDice) {y:AV×Mem} (h:(
 callD zaX (cw zaU [AV.loc 1000 2 0 0,I 9] [(1000,⟨2,zal,[zaA a0],true⟩)]) fun (r0:Int×GmarkDice) =>
 callD zaX (cw zaU [AV.loc 1000 2 0 0,I 9] [(1000,⟨2,zal,[zaA r0.snd],true⟩)]) fun (r1:Int×GmarkDice) =>
 callD zaX (cw zaU [AV.loc 1000 2 0 0,I 4] [(1000,⟨2,zal,[zaA r1.snd],true⟩)]) fun (r2:Int×GmarkDice) =>
 zgl ([zae (⟨⟨w64 (r0.fst - 4),1⟩,⟨w64 (r1.fst - 4),1⟩⟩)]) r2.snd (w64 (r0.fst - 4)) (w64 (r1.fst - 4)) (w64 (1+r2.fst)))=some y):cw zgV [AV.loc 1000 2 0 0] [(1000,⟨2,zal,[zaA a0],true⟩)]=some y:=
 zaj zmt zT [] rfl (by kernel_rfl) (by kernel_rfl) (by kernel_rfl) (by kernel_rfl) (by kernel_rfl) h
end Go.Proofs.YtbhkcgaanaelfaaGreat
