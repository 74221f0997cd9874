/- What the functions compute, between two cut points: printed by a program, checked by the kernel. -/
import Derived.Test.YtbhkcgaanaelfaaGreatAnn
namespace Go.Proofs.YtbhkcgaanaelfaaGreat
open Go.Ab
set_option maxRecDepth 100000
set_option linter.unusedVariables false
noncomputable def zej (a0:List Int) (a1:GDistribution) (a2:GCurve) (a3:Int) (a4:Int) (a5:Int) (r5:GDistribution×GmarkDice) (r6:GDistribution×GmarkDice) (r7:GDistribution×GmarkDice) (x8:Int):Option (AV×Mem):=pt zeR 1 ⟨[(3,I a3),(4,I a4),(5,I a5),(8,AV.loc 8 1 0 0),(13,AV.loc 67 2 0 0),(14,AV.loc 14 1 0 0),(15,AV.loc 15 1 0 0),(16,AV.loc 16 1 0 0),(91,AV.agg [AV.sl 1 (List.map zai r5.fst.Counts),AV.sl 1 (List.map zai r6.fst.Counts),AV.sl 1 (List.map zai r5.fst.Counts),AV.sl 1 (List.map zai r7.fst.Counts),AV.sl 1 (List.map zai r7.fst.Counts),AV.sl 1 (List.map zai r5.fst.Counts),AV.sl 1 (List.map zai a1.Counts),AV.sl 1 (List.map zai r5.fst.Counts),AV.sl 1 (List.map zai r5.fst.Counts),AV.sl 1 ([[I 0],[I 0]])]),(92,I x8)],[(8,⟨1,zay,[zak a2],true⟩),(14,⟨1,zan,[zab r5.fst],true⟩),(15,⟨1,zan,[zab r6.fst],true⟩),(16,⟨1,zan,[zab r7.fst],true⟩),(67,⟨2,zaq,[zaR r7.snd],true⟩)]⟩
noncomputable def zfC (a0:List Int) (a1:GDistribution) (a2:GCurve) (a3:Int) (a4:Int) (a5:Int) (r5:GDistribution×GmarkDice) (r6:GDistribution×GmarkDice) (r7:GDistribution×GmarkDice) (x8:Int) (c9:GDistribution×GDistribution) (x10:Int):Option (AV×Mem):=pt zeR 2 ⟨[(3,I a3),(4,I a4),(5,I a5),(8,AV.loc 8 1 0 0),(13,AV.loc 67 2 0 0),(14,AV.loc 14 1 0 0),(15,AV.loc 15 1 0 0),(16,AV.loc 16 1 0 0),(19,AV.loc 19 2 0 0),(91,AV.agg [AV.sl 1 (List.map zai r5.fst.Counts),AV.sl 1 (List.map zai r6.fst.Counts),AV.sl 1 (List.map zai r5.fst.Counts),AV.sl 1 (List.map zai r7.fst.Counts),AV.sl 1 (List.map zai r7.fst.Counts),AV.sl 1 (List.map zai r5.fst.Counts),AV.sl 1 (List.map zai a1.Counts),AV.sl 1 (List.map zai r5.fst.Counts),AV.sl 1 (List.map zai r5.fst.Counts),AV.sl 1 ([[I 0],[I 0]])]),(92,I x8),(96,AV.agg [I a3,I 0,I 1,I 2]),(97,I x10)],[(8,⟨1,zay,[zak a2],true⟩),(14,⟨1,zan,[zab r5.fst],true⟩),(15,⟨1,zan,[zab r6.fst],true⟩),(16,⟨1,zan,[zab r7.fst],true⟩),(19,⟨2,zr1,[zdx c9],true⟩),(67,⟨2,zaq,[zaR r7.snd],true⟩)]⟩
noncomputable def zeh (a2:GCurve) (a4:Int) (a5:Int) (r7:GDistribution×GmarkDice) (r11:GCurve×GmarkDice) (x12:GmarkDice) (x13:Int):Option (AV×Mem):=pt zeR 3 ⟨[(4,I a4),(5,I a5),(13,AV.loc 67 2 0 0),(16,AV.loc 16 1 0 0),(242,AV.agg [AV.sl 4 (List.map zag r11.fst.Points),AV.sl 4 (List.map zag a2.Points)]),(243,I x13)],[(16,⟨1,zan,[zab r7.fst],true⟩),(67,⟨2,zaq,[zaR x12],true⟩)]⟩
noncomputable def zfD (a2:GCurve) (a4:Int) (a5:Int) (r7:GDistribution×GmarkDice) (r11:GCurve×GmarkDice) (x13:Int) (c30:GCurve) (r31:Int×GmarkDice) (r32:Int×GmarkDice) (x33:Int):Option (AV×Mem):=pt zeR 4 ⟨[(4,I a4),(5,I a5),(13,AV.loc 67 2 0 0),(16,AV.loc 16 1 0 0),(39,AV.loc 39 1 0 0),(242,AV.agg [AV.sl 4 (List.map zag r11.fst.Points),AV.sl 4 (List.map zag a2.Points)]),(243,I x13),(254,AV.agg [I a4,I a5,I r31.fst,I r32.fst]),(255,I x33)],[(16,⟨1,zan,[zab r7.fst],true⟩),(39,⟨1,zay,[zak c30],true⟩),(67,⟨2,zaq,[zaR r32.snd],true⟩)]⟩
theorem zl1 (a0:List Int) (a1:GDistribution) (a2:GCurve) (a3:Int) (a4:Int) (a5:Int) (r5:GDistribution×GmarkDice) (r6:GDistribution×GmarkDice) (r7:GDistribution×GmarkDice) (x8:Int) {y:AV×Mem} (h:(
 brn (decide (x8 < 5)) (chk ((0:Int)≤x8)<|
 chk ((x8:Int) < (↑5:Int))<|
 elemD zl7 ([zdx (⟨r5.fst.Counts⟩,⟨r6.fst.Counts⟩),zdx (⟨r5.fst.Counts⟩,⟨r7.fst.Counts⟩),zdx (⟨r7.fst.Counts⟩,⟨r5.fst.Counts⟩),zdx (⟨a1.Counts⟩,⟨r5.fst.Counts⟩),zdx (⟨r5.fst.Counts⟩,⟨[0,0]⟩)]) x8.toNat fun (c9:GDistribution×GDistribution) =>
 zfC a0 a1 a2 a3 a4 a5 r5 r6 r7 x8 c9 0)
 (callD ziG (cw zml [AV.loc 1000 2 0 0] [(1000,⟨2,zaq,[zaR r7.snd],true⟩)]) fun (r11:GCurve×GmarkDice) =>
 zeh a2 a4 a5 r7 r11 r11.snd 0))=some y):zej a0 a1 a2 a3 a4 a5 r5 r6 r7 x8=some y:=
 pt_of zT [] (by kernel_rfl) h
theorem zlZ (a0:List Int) (a1:GDistribution) (a2:GCurve) (a3:Int) (a4:Int) (a5:Int) (r5:GDistribution×GmarkDice) (r6:GDistribution×GmarkDice) (r7:GDistribution×GmarkDice) (x8:Int) (c9:GDistribution×GDistribution) (x10:Int) {y:AV×Mem} (h:(
 brn (decide (x10 < 4)) (chk ((0:Int)≤x10)<|
 chk ((x10:Int) < (↑4:Int))<|
 elemD zaw ([zai a3,zai 0,zai 1,zai 2]) x10.toNat fun (c14:Int) =>
 callD zfr (cw zgA [I c14,AV.agg (zab c9.fst),AV.agg (zab c9.snd)] []) fun (r15:GCurve×Int) =>
 callD zg9 (cw ziN [I c14,AV.agg (zab c9.fst),AV.agg (zab c9.snd)] []) fun (r16:GCurve×Int) =>
 callD zfw (cw zgr [AV.agg (zak r15.fst),AV.agg (zak r16.fst)] []) fun (r17:Bool) =>
 brn (!r17) (some (B false,[]))
 (brn (r15.snd != r16.snd) (some (B false,[]))
 (callD zjq (cw znf [AV.agg (zab c9.fst),AV.agg (zab c9.snd),AV.agg (zab r5.fst),AV.agg (zab r6.fst),I c14] []) fun (r18:GCurve×Int) =>
 callD zmZ (cw zpz [AV.agg (zab c9.fst),AV.agg (zab c9.snd),AV.agg (zab r5.fst),AV.agg (zab r6.fst),I c14] []) fun (r19:GCurve×Int) =>
 callD zfw (cw zgr [AV.agg (zak r18.fst),AV.agg (zak r19.fst)] []) fun (r20:Bool) =>
 brn (!r20) (some (B false,[]))
 (brn (r18.snd != r19.snd) (some (B false,[]))
 (zfC a0 a1 a2 a3 a4 a5 r5 r6 r7 x8 c9 (w64 (x10+1)))))))
 (callD ze5 (cw ze6 [AV.agg (zab c9.fst),AV.agg (zab c9.snd)] []) fun (r21:GCurve×Int) =>
 callD zlg (cw zoa [AV.agg (zab c9.fst),AV.agg (zab c9.snd)] []) fun (r22:GCurve×Int) =>
 callD zgu (cw ziA [AV.agg (zab c9.fst),AV.agg (zab c9.snd)] []) fun (r23:GCurve×Int) =>
 callD ziQ (cw zi2 [AV.agg (zab c9.fst),AV.agg (zab c9.snd)] []) fun (r24:GCurve×Int) =>
 callD zc2 (cw zc1 [AV.agg (zab c9.fst),AV.agg (zab c9.snd)] []) fun (r25:GCurve×Int) =>
 callD zf6 (cw zf4 [AV.agg (zab c9.fst),AV.agg (zab c9.snd)] []) fun (r26:GCurve×Int) =>
 callD zfw (cw zgr [AV.agg (zak r21.fst),AV.agg (zak r22.fst)] []) fun (r27:Bool) =>
 brn (!r27) (some (B false,[]))
 (brn (r21.snd != r22.snd) (some (B false,[]))
 (callD zfw (cw zgr [AV.agg (zak r23.fst),AV.agg (zak r24.fst)] []) fun (r28:Bool) =>
 brn (!r28) (some (B false,[]))
 (brn (r23.snd != r24.snd) (some (B false,[]))
 (callD zfw (cw zgr [AV.agg (zak r25.fst),AV.agg (zak r26.fst)] []) fun (r29:Bool) =>
 brn (!r29) (some (B false,[]))
 (brn (r25.snd != r26.snd) (some (B false,[]))
 (zej a0 a1 a2 a3 a4 a5 r5 r6 r7 (w64 (x8+1))))))))))=some y):zfC a0 a1 a2 a3 a4 a5 r5 r6 r7 x8 c9 x10=some y:=
 pt_of zT [] (by kernel_rfl) h
theorem zl3 (a2:GCurve) (a4:Int) (a5:Int) (r7:GDistribution×GmarkDice) (r11:GCurve×GmarkDice) (x12:GmarkDice) (x13:Int) {y:AV×Mem} (h:(
 brn (decide (x13 < 2)) (chk ((0:Int)≤x13)<|
 chk ((x13:Int) < (↑2:Int))<|
 elemD zar ([zak r11.fst,zak a2]) x13.toNat fun (c30:GCurve) =>
 callD zbH (cw zbZ [AV.loc 1000 2 0 0,I 12] [(1000,⟨2,zaq,[zaR x12],true⟩)]) fun (r31:Int×GmarkDice) =>
 callD zbH (cw zbZ [AV.loc 1000 2 0 0,I 20] [(1000,⟨2,zaq,[zaR r31.snd],true⟩)]) fun (r32:Int×GmarkDice) =>
 zfD a2 a4 a5 r7 r11 x13 c30 r31 r32 0)
 (callD zhl (cw ziW [] []) fun (r34:Bool) =>
 some (B r34,[])))=some y):zeh a2 a4 a5 r7 r11 x12 x13=some y:=
 pt_of zT [] (by kernel_rfl) h
theorem zl4 (a2:GCurve) (a4:Int) (a5:Int) (r7:GDistribution×GmarkDice) (r11:GCurve×GmarkDice) (x13:Int) (c30:GCurve) (r31:Int×GmarkDice) (r32:Int×GmarkDice) (x33:Int) {y:AV×Mem} (h:(
 brn (decide (x33 < 2)) (chk ((0:Int)≤x33)<|
 chk ((x33:Int) < (↑2:Int))<|
 elemD zvf ([zrz (a4,a5),zrz (r31.fst,r32.fst)]) x33.toNat fun (c35:Int×Int) =>
 callD zhr (cw zjA [AV.agg (zak c30),I c35.fst,I c35.snd] []) fun (r36:(List Int)×Int) =>
 callD zjP (cw zmL [AV.agg (zak c30),I c35.fst,I c35.snd] []) fun (r37:(List Int)×Int) =>
 callD zh4 (cw zlt [AV.agg (zab r7.fst),AV.agg (zak c30),I c35.snd] []) fun (r38:GDistribution×Int) =>
 callD zkK (cw zot [AV.agg (zab r7.fst),AV.agg (zak c30),I c35.snd] []) fun (r39:GDistribution×Int) =>
 callD znV (cw zq0 [AV.sl 1 (List.map zai r36.fst),AV.sl 1 (List.map zai r37.fst)] []) fun (r40:Bool) =>
 brn (!r40) (some (B false,[]))
 (brn (r36.snd != r37.snd) (some (B false,[]))
 (callD znY (cw zqC [AV.agg (zab r38.fst),AV.agg (zab r39.fst)] []) fun (r41:Bool) =>
 brn (!r41) (some (B false,[]))
 (brn (r38.snd != r39.snd) (some (B false,[]))
 (zfD a2 a4 a5 r7 r11 x13 c30 r31 r32 (w64 (x33+1)))))))
 (zeh a2 a4 a5 r7 r11 r32.snd (w64 (x13+1))))=some y):zfD a2 a4 a5 r7 r11 x13 c30 r31 r32 x33=some y:=
 pt_of zT [] (by kernel_rfl) h
theorem zsm (a0:List Int) (a1:GDistribution) (a2:GCurve) (a3:Int) (a4:Int) (a5:Int) {y:AV×Mem} (h:(
 callD zop (cw zqY [AV.sl 1 (List.map zai a0)] []) fun (r0:Bool) =>
 brn (!r0) (callD zhl (cw ziW [] []) fun (r1:Bool) =>
 some (B r1,[]))
 (brn (decide (40 < (↑(List.map zai a1.Counts).length:Int))) (callD zhl (cw ziW [] []) fun (r2:Bool) =>
 some (B r2,[]))
 (brn (decide (20 < (↑(List.map zag a2.Points).length:Int))) (callD zhl (cw ziW [] []) fun (r3:Bool) =>
 some (B r3,[]))
 (callD zo7 (cw zsa [AV.sl 1 (List.map zai a0)] []) fun (r4:GmarkDice) =>
 callD zc0 (cw zdX [AV.loc 1000 2 0 0,I 6,B true] [(1000,⟨2,zaq,[zaR r4],true⟩)]) fun (r5:GDistribution×GmarkDice) =>
 callD zc0 (cw zdX [AV.loc 1000 2 0 0,I 6,B true] [(1000,⟨2,zaq,[zaR r5.snd],true⟩)]) fun (r6:GDistribution×GmarkDice) =>
 callD zc0 (cw zdX [AV.loc 1000 2 0 0,I 6,B false] [(1000,⟨2,zaq,[zaR r6.snd],true⟩)]) fun (r7:GDistribution×GmarkDice) =>
 zej a0 a1 a2 a3 a4 a5 r5 r6 r7 0))))=some y):cw znD [AV.sl 1 (List.map zai a0),AV.agg (zab a1),AV.agg (zak a2),I a3,I a4,I a5] []=some y:=
 zaj zeR zT [] rfl (by kernel_rfl) (by kernel_rfl) (by kernel_rfl) (by kernel_rfl) (by kernel_rfl) h
theorem zBC (a0:List Int) {y:AV×Mem} (h:(
 some (B (decide ((↑(List.map zai a0).length:Int)≤600)),[]))=some y):cw zqY [AV.sl 1 (List.map zai a0)] []=some y:=
 zaj zAR zT [] rfl (by kernel_rfl) (by kernel_rfl) (by kernel_rfl) (by kernel_rfl) (by kernel_rfl) h
theorem zCp (a0:List Int) {y:AV×Mem} (h:(
 some (AV.newp 2 zaq (zaR (⟨a0,0⟩)),[]))=some y):cw zsa [AV.sl 1 (List.map zai a0)] []=some y:=
 zaj zCR zT [] rfl (by kernel_rfl) (by kernel_rfl) (by kernel_rfl) (by kernel_rfl) (by kernel_rfl) h
noncomputable def zhz (x3:List (List AV)) (x4:GmarkDice) (x5:Int) (x6:Int) (x7:Int):Option (AV×Mem):=pt zpZ 1 ⟨[(0,AV.loc 1000 2 0 0),(2,AV.loc 2 1 0 0),(3,I x5),(4,I x6),(5,AV.loc 5 1 0 0),(6,I x7)],[(2,⟨1,zay,[[AV.v (.slice none 0 0)]],true⟩),(5,⟨1,zay,[[AV.row 900 4 0 (List.length x3)]],true⟩),(900,⟨4,zaC,x3,false⟩),(1000,⟨2,zaq,[zaR x4],true⟩)]⟩
theorem zoA (x3:List (List AV)) (x4:GmarkDice) (x5:Int) (x6:Int) (x7:Int) {y:AV×Mem} (h:(
 brn (decide (0 < x7)) (callD zbH (cw zbZ [AV.loc 1000 2 0 0,I 3] [(1000,⟨2,zaq,[zaR x4],true⟩)]) fun (r8:Int×GmarkDice) =>
 callD zbH (cw zbZ [AV.loc 1000 2 0 0,I 4] [(1000,⟨2,zaq,[zaR r8.snd],true⟩)]) fun (r9:Int×GmarkDice) =>
 chk (x3.length=x3.length)<|
 chk ((x3.length+1)*(32+1)≤1099511627776)<|
 zhz (x3++([zag (⟨⟨w64 (w64 (x5+1)+r8.fst),1⟩,⟨w64 (w64 (x6+1)+r9.fst),1⟩⟩)])) r9.snd (w64 (w64 (x5+1)+r8.fst)) (w64 (w64 (x6+1)+r9.fst)) (w64 (x7 - 1)))
 (chk (0+x3.length≤x3.length)<|
 some (AV.agg [AV.sl 4 (List.take x3.length x3)],[(1000,⟨2,zaq,[zaR x4],true⟩)])))=some y):zhz x3 x4 x5 x6 x7=some y:=
 pt_of zT [] (by kernel_rfl) h
theorem zv7 (a0:GmarkDice) {y:AV×Mem} (h:(
 callD zbH (cw zbZ [AV.loc 1000 2 0 0,I 9] [(1000,⟨2,zaq,[zaR a0],true⟩)]) fun (r0:Int×GmarkDice) =>
 callD zbH (cw zbZ [AV.loc 1000 2 0 0,I 9] [(1000,⟨2,zaq,[zaR r0.snd],true⟩)]) fun (r1:Int×GmarkDice) =>
 callD zbH (cw zbZ [AV.loc 1000 2 0 0,I 4] [(1000,⟨2,zaq,[zaR r1.snd],true⟩)]) fun (r2:Int×GmarkDice) =>
 zhz ([zag (⟨⟨w64 (r0.fst - 4),1⟩,⟨w64 (r1.fst - 4),1⟩⟩)]) r2.snd (w64 (r0.fst - 4)) (w64 (r1.fst - 4)) (w64 (1+r2.fst)))=some y):cw zml [AV.loc 1000 2 0 0] [(1000,⟨2,zaq,[zaR a0],true⟩)]=some y:=
 zaj zpZ zT [] rfl (by kernel_rfl) (by kernel_rfl) (by kernel_rfl) (by kernel_rfl) (by kernel_rfl) h
end Go.Proofs.YtbhkcgaanaelfaaGreat
