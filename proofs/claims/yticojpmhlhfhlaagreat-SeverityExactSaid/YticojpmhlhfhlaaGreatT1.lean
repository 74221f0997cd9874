/- What the functions compute, between two cut points: printed by a program, checked by the kernel. -/
import Derived.Test.YticojpmhlhfhlaaGreatAnn
namespace Go.Proofs.YticojpmhlhfhlaaGreat
open Go.Ab
set_option maxRecDepth 100000
set_option linter.unusedVariables false
noncomputable def zfw (a1:List GJudged) (a2:List Int) (a3:List Int) (a4:Int) (r9:((List GMarkEvent))×GmarkDice) (r11:(List GJudged)×Int) (r12:(List GJudged)×Int) (x13:Int):Option (AV×Mem):=pt zeC 1 ⟨[(1,AV.sl 3 (List.map zan a1)),(2,AV.sl 1 (List.map zaa a2)),(3,AV.sl 1 (List.map zaa a3)),(4,I a4),(11,AV.loc 57 2 0 0),(16,AV.sl 3 (List.map zan r11.fst)),(18,AV.sl 3 (List.map zan r12.fst)),(99,I ((↑(List.map zan r11.fst).length:Int))),(100,I x13)],[(57,⟨2,zad,[zal r9.snd],true⟩)]⟩
noncomputable def zfy (a1:List GJudged) (a2:List Int) (a3:List Int) (a4:Int) (r12:(List GJudged)×Int) (r16:((List GJudged))×GmarkDice) (r17:((List GJudged))×GmarkDice) (x18:GmarkDice) (x19:Int):Option (AV×Mem):=pt zeC 2 ⟨[(2,AV.sl 1 (List.map zaa a2)),(3,AV.sl 1 (List.map zaa a3)),(4,I a4),(11,AV.loc 57 2 0 0),(121,AV.agg [AV.sl 3 (List.map zan r12.fst),AV.sl 3 (List.take ((List.map zan r16.fst).length) (List.map zan r16.fst)),AV.sl 3 (List.map zan a1),AV.sl 3 (List.take ((List.map zan r17.fst++List.map zan a1).length) ((List.map zan r17.fst)++(List.map zan a1)))]),(122,I x19)],[(57,⟨2,zad,[zal x18],true⟩)]⟩
noncomputable def zfu (a1:List GJudged) (a2:List Int) (a3:List Int) (a4:Int) (r12:(List GJudged)×Int) (r16:((List GJudged))×GmarkDice) (r17:((List GJudged))×GmarkDice) (x19:Int) (c20:List GJudged) (r24:Int×GmarkDice) (x25:Int):Option (AV×Mem):=pt zeC 3 ⟨[(2,AV.sl 1 (List.map zaa a2)),(3,AV.sl 1 (List.map zaa a3)),(4,I a4),(11,AV.loc 57 2 0 0),(22,AV.sl 3 (List.map zan c20)),(121,AV.agg [AV.sl 3 (List.map zan r12.fst),AV.sl 3 (List.take ((List.map zan r16.fst).length) (List.map zan r16.fst)),AV.sl 3 (List.map zan a1),AV.sl 3 (List.take ((List.map zan r17.fst++List.map zan a1).length) ((List.map zan r17.fst)++(List.map zan a1)))]),(122,I x19),(135,AV.agg [I a4,I (w64 (1+r24.fst)),I 99]),(136,I x25)],[(57,⟨2,zad,[zal r24.snd],true⟩)]⟩
noncomputable def zfx (a1:List GJudged) (a2:List Int) (a3:List Int) (a4:Int) (r12:(List GJudged)×Int) (r16:((List GJudged))×GmarkDice) (r17:((List GJudged))×GmarkDice) (x19:Int) (r26:Int×GmarkDice) (r27:Int×GmarkDice) (r28:Int×GmarkDice) (r29:Int×GmarkDice) (r30:Int×GmarkDice) (x31:Int):Option (AV×Mem):=pt zeC 4 ⟨[(228,AV.agg [AV.sl 1 (List.map zaa a2),AV.sl 1 (List.map zaa a3),AV.sl 1 ([[I r26.fst],[I r27.fst],[I 40]]),AV.sl 1 ([[I r28.fst],[I r29.fst],[I r30.fst]]),AV.sl 1 ([[I r26.fst],[I r27.fst],[I 40]]),AV.sl 1 ([[I r26.fst],[I r27.fst],[I 40]]),AV.sl 1 (List.take (Int.toNat 1) ([[I r26.fst],[I r27.fst],[I 40]])),AV.sl 1 (List.take (Int.toNat 1) ([[I r28.fst],[I r29.fst],[I r30.fst]]))]),(229,I x31)],[]⟩
theorem znI (a1:List GJudged) (a2:List Int) (a3:List Int) (a4:Int) (r9:((List GMarkEvent))×GmarkDice) (r11:(List GJudged)×Int) (r12:(List GJudged)×Int) (x13:Int) {y:AV×Mem} (h:(
 brn (decide (x13 < (↑(List.map zan r11.fst).length:Int))) (chk ((0:Int)≤x13)<|
 elemD zbg (List.map zan r11.fst) x13.toNat fun (c14:GJudged) =>
 chk ((0:Int)≤x13)<|
 elemD zbg (List.map zan r12.fst) x13.toNat fun (c15:GJudged) =>
 brn (!(c14.Marker == c15.Marker && (c14.Value == c15.Value && (c14.Final == c15.Final && true)))) (some (B false,[]))
 (zfw a1 a2 a3 a4 r9 r11 r12 (w64 (x13+1))))
 (callD zlB (cw zlC [AV.loc 1000 2 0 0,I 20] [(1000,⟨2,zad,[zal r9.snd],true⟩)]) fun (r16:((List GJudged))×GmarkDice) =>
 callD zlB (cw zlC [AV.loc 1000 2 0 0,I 3] [(1000,⟨2,zad,[zal r16.snd],true⟩)]) fun (r17:((List GJudged))×GmarkDice) =>
 chk ((List.map zan r17.fst).length=(List.map zan r17.fst).length)<|
 chk (((List.map zan r17.fst).length+(List.map zan a1).length)*(24+1)≤1099511627776)<|
 chk (0+(List.map zan r16.fst).length≤(List.map zan r16.fst).length)<|
 chk (0+(List.map zan r17.fst++List.map zan a1).length≤(List.map zan r17.fst++List.map zan a1).length)<|
 chk (0+(List.map zan r17.fst++List.map zan a1).length≤(List.map zan r17.fst++List.map zan a1).length)<|
 chk (0+(List.map zan r16.fst).length≤(List.map zan r16.fst).length)<|
 zfy a1 a2 a3 a4 r12 r16 r17 r17.snd 0))=some y):zfw a1 a2 a3 a4 r9 r11 r12 x13=some y:=
 pt_of zT [] (by kernel_rfl) h
theorem znJ (a1:List GJudged) (a2:List Int) (a3:List Int) (a4:Int) (r12:(List GJudged)×Int) (r16:((List GJudged))×GmarkDice) (r17:((List GJudged))×GmarkDice) (x18:GmarkDice) (x19:Int) {y:AV×Mem} (h:(
 brn (decide (x19 < 4)) (chk ((0:Int)≤x19)<|
 chk ((x19:Int) < (↑4:Int))<|
 elemD zuf ([zi5 r12.fst,[AV.sl 3 (List.take ((List.map zan r16.fst).length) (List.map zan r16.fst))],zi5 a1,[AV.sl 3 (List.take ((List.map zan r17.fst++List.map zan a1).length) ((List.map zan r17.fst)++(List.map zan a1)))]]) x19.toNat fun (c20:List GJudged) =>
 callD zmb (cw zmi [AV.sl 3 (List.map zan c20)] []) fun (r21:(List Int)) =>
 callD zq5 (cw zrq [AV.sl 3 (List.map zan c20)] []) fun (r22:(List Int)) =>
 chk (0+(List.map zaa r21).length≤(List.map zaa r21).length)<|
 chk (0+(List.map zaa r22).length≤(List.map zaa r22).length)<|
 callD zri (cw zuI [AV.sl 1 (List.take ((List.map zaa r21).length) (List.map zaa r21)),AV.sl 1 (List.take ((List.map zaa r22).length) (List.map zaa r22))] []) fun (r23:Bool) =>
 brn (!r23) (some (B false,[]))
 (callD zaA (cw zaB [AV.loc 1000 2 0 0,I 5] [(1000,⟨2,zad,[zal x18],true⟩)]) fun (r24:Int×GmarkDice) =>
 zfu a1 a2 a3 a4 r12 r16 r17 x19 c20 r24 0))
 (callD zaA (cw zaB [AV.loc 1000 2 0 0,I 3] [(1000,⟨2,zad,[zal x18],true⟩)]) fun (r26:Int×GmarkDice) =>
 callD zaA (cw zaB [AV.loc 1000 2 0 0,I 3] [(1000,⟨2,zad,[zal r26.snd],true⟩)]) fun (r27:Int×GmarkDice) =>
 callD zaA (cw zaB [AV.loc 1000 2 0 0,I 3] [(1000,⟨2,zad,[zal r27.snd],true⟩)]) fun (r28:Int×GmarkDice) =>
 callD zaA (cw zaB [AV.loc 1000 2 0 0,I 3] [(1000,⟨2,zad,[zal r28.snd],true⟩)]) fun (r29:Int×GmarkDice) =>
 callD zdI (cw zeu [AV.loc 1000 2 0 0,AV.sl 1 (List.map zaa ([40,41,-1,0]))] [(1000,⟨2,zad,[zal r29.snd],true⟩)]) fun (r30:Int×GmarkDice) =>
 chk ((0:Int)≤1)<|
 chk (0≤Int.toNat 1)<|
 chk (Int.toNat 1≤3)<|
 chk ((0:Int)≤1)<|
 chk (0≤Int.toNat 1)<|
 chk (Int.toNat 1≤3)<|
 zfx a1 a2 a3 a4 r12 r16 r17 x19 r26 r27 r28 r29 r30 0))=some y):zfy a1 a2 a3 a4 r12 r16 r17 x18 x19=some y:=
 pt_of zT [] (by kernel_rfl) h
theorem znN (a1:List GJudged) (a2:List Int) (a3:List Int) (a4:Int) (r12:(List GJudged)×Int) (r16:((List GJudged))×GmarkDice) (r17:((List GJudged))×GmarkDice) (x19:Int) (c20:List GJudged) (r24:Int×GmarkDice) (x25:Int) {y:AV×Mem} (h:(
 brn (decide (x25 < 3)) (chk ((0:Int)≤x25)<|
 chk ((x25:Int) < (↑3:Int))<|
 elemD zag ([zaa a4,zaa (w64 (1+r24.fst)),zaa 99]) x25.toNat fun (c32:Int) =>
 callD zil (cw zmh [AV.sl 3 (List.map zan c20),I c32] []) fun (r33:GRatio×Bool) =>
 callD zqX (cw zvq [AV.sl 3 (List.map zan c20),I c32] []) fun (r34:GRatio×Bool) =>
 brn (!(r33.fst.Num == r34.fst.Num && (r33.fst.Den == r34.fst.Den && true))) (some (B false,[]))
 (brn (!r33.snd == r34.snd) (some (B false,[]))
 (callD zjF (cw zoc [AV.sl 3 (List.map zan c20),I c32] []) fun (r35:GRatio×Bool) =>
 callD znC (cw zr2 [AV.sl 3 (List.map zan c20),I c32] []) fun (r36:GRatio×Bool) =>
 brn (!(r35.fst.Num == r36.fst.Num && (r35.fst.Den == r36.fst.Den && true))) (some (B false,[]))
 (brn (!r35.snd == r36.snd) (some (B false,[]))
 (callD zhc (cw zkM [AV.sl 3 (List.map zan c20),I c32] []) fun (r37:GRatio×Bool) =>
 callD zjH (cw zn2 [AV.sl 3 (List.map zan c20),I c32] []) fun (r38:GRatio×Bool) =>
 brn (!(r37.fst.Num == r38.fst.Num && (r37.fst.Den == r38.fst.Den && true))) (some (B false,[]))
 (brn (!r37.snd == r38.snd) (some (B false,[]))
 (zfu a1 a2 a3 a4 r12 r16 r17 x19 c20 r24 (w64 (x25+1)))))))))
 (zfy a1 a2 a3 a4 r12 r16 r17 r24.snd (w64 (x19+1))))=some y):zfu a1 a2 a3 a4 r12 r16 r17 x19 c20 r24 x25=some y:=
 pt_of zT [] (by kernel_rfl) h
theorem znK (a1:List GJudged) (a2:List Int) (a3:List Int) (a4:Int) (r12:(List GJudged)×Int) (r16:((List GJudged))×GmarkDice) (r17:((List GJudged))×GmarkDice) (x19:Int) (r26:Int×GmarkDice) (r27:Int×GmarkDice) (r28:Int×GmarkDice) (r29:Int×GmarkDice) (r30:Int×GmarkDice) (x31:Int) {y:AV×Mem} (h:(
 brn (decide (x31 < 4)) (chk ((0:Int)≤x31)<|
 chk ((x31:Int) < (↑4:Int))<|
 elemD zsD ([zdO (a2,a3),zdO ([r26.fst,r27.fst,40],[r28.fst,r29.fst,r30.fst]),zdO ([r26.fst,r27.fst,40],[r26.fst,r27.fst,40]),zdO ([r26.fst],[r28.fst])]) x31.toNat fun (c39:(List Int)×(List Int)) =>
 callD zkX (cw zo8 [AV.sl 1 (List.map zaa c39.fst),AV.sl 1 (List.map zaa c39.snd)] []) fun (r40:GRatio×Bool) =>
 callD zoX (cw ztx [AV.sl 1 (List.map zaa c39.fst),AV.sl 1 (List.map zaa c39.snd)] []) fun (r41:GRatio×Bool) =>
 brn (!(r40.fst.Num == r41.fst.Num && (r40.fst.Den == r41.fst.Den && true))) (some (B false,[]))
 (brn (!r40.snd == r41.snd) (some (B false,[]))
 (zfx a1 a2 a3 a4 r12 r16 r17 x19 r26 r27 r28 r29 r30 (w64 (x31+1)))))
 (callD zf6 (cw zkl [] []) fun (r42:Bool) =>
 some (B r42,[])))=some y):zfx a1 a2 a3 a4 r12 r16 r17 x19 r26 r27 r28 r29 r30 x31=some y:=
 pt_of zT [] (by kernel_rfl) h
theorem zxa (a0:List Int) (a1:List GJudged) (a2:List Int) (a3:List Int) (a4:Int) {y:AV×Mem} (h:(
 callD zqL (cw zuT [AV.sl 1 (List.map zaa a0)] []) fun (r0:Bool) =>
 brn (!r0) (callD zf6 (cw zkl [] []) fun (r1:Bool) =>
 some (B r1,[]))
 (brn (decide (60 < (↑(List.map zan a1).length:Int))) (callD zf6 (cw zkl [] []) fun (r2:Bool) =>
 some (B r2,[]))
 (brn (decide (60 < (↑(List.map zaa a2).length:Int))) (callD zf6 (cw zkl [] []) fun (r3:Bool) =>
 some (B r3,[]))
 (brn (decide (60 < (↑(List.map zaa a3).length:Int))) (callD zf6 (cw zkl [] []) fun (r4:Bool) =>
 some (B r4,[]))
 (callD zsC (cw zww [AV.sl 1 (List.map zaa a0)] []) fun (r5:GmarkDice) =>
 callD zjJ (cw zod [AV.loc 1000 2 0 0] [(1000,⟨2,zad,[zal r5],true⟩)]) fun (r6:GSetup×GmarkDice) =>
 callD zkU (cw zpa [AV.loc 1000 2 0 0] [(1000,⟨2,zad,[zal r6.snd],true⟩)]) fun (r7:GMarkRule×GmarkDice) =>
 callD ziE (cw zmL [AV.loc 1000 2 0 0,AV.agg (zat r6.fst),I 20] [(1000,⟨2,zad,[zal r7.snd],true⟩)]) fun (r8:((List GMarkEvent))×GmarkDice) =>
 callD zkE (cw zph [AV.loc 1000 2 0 0,AV.agg (zat r6.fst),I 50] [(1000,⟨2,zad,[zal r8.snd],true⟩)]) fun (r9:((List GMarkEvent))×GmarkDice) =>
 chk (0+(List.map zab r9.fst).length≤(List.map zab r9.fst).length)<|
 chk ((List.map zab r8.fst).length=(List.map zab r8.fst).length)<|
 chk (((List.map zab r8.fst).length+(List.take (List.map zab r9.fst).length (List.map zab r9.fst)).length)*(88+1)≤1099511627776)<|
 chk (0+(List.map zab r8.fst++List.take (List.map zab r9.fst).length (List.map zab r9.fst)).length≤(List.map zab r8.fst++List.take (List.map zab r9.fst).length (List.map zab r9.fst)).length)<|
 callD zqV (cw zq7 [AV.agg (zat r6.fst),AV.sl 9 (List.take ((List.map zab r8.fst++List.take (List.map zab r9.fst).length (List.map zab r9.fst)).length) ((List.map zab r8.fst)++(List.take ((List.map zab r9.fst).length) (List.map zab r9.fst))))] []) fun (r10:GMarking×Int) =>
 callD zkG (cw zpp [AV.agg (zaU r7.fst),AV.agg (zat r6.fst),AV.agg (zbk r10.fst)] []) fun (r11:(List GJudged)×Int) =>
 callD zoR (cw ztI [AV.agg (zaU r7.fst),AV.agg (zat r6.fst),AV.agg (zbk r10.fst)] []) fun (r12:(List GJudged)×Int) =>
 brn ((↑(List.map zan r11.fst).length:Int) != (↑(List.map zan r12.fst).length:Int)) (some (B false,[]))
 (brn (r11.snd != r12.snd) (some (B false,[]))
 (zfw a1 a2 a3 a4 r9 r11 r12 0)))))))=some y):cw zpL [AV.sl 1 (List.map zaa a0),AV.sl 3 (List.map zan a1),AV.sl 1 (List.map zaa a2),AV.sl 1 (List.map zaa a3),I a4] []=some y:=
 zah zeC zT [] rfl (by kernel_rfl) (by kernel_rfl) (by kernel_rfl) (by kernel_rfl) (by kernel_rfl) h
theorem zIv (a0:List Int) {y:AV×Mem} (h:(
 some (B (decide ((↑(List.map zaa a0).length:Int)≤600)),[]))=some y):cw zuT [AV.sl 1 (List.map zaa a0)] []=some y:=
 zah zJl zT [] rfl (by kernel_rfl) (by kernel_rfl) (by kernel_rfl) (by kernel_rfl) (by kernel_rfl) h
theorem zJG (a0:List Int) {y:AV×Mem} (h:(
 some (AV.newp 2 zad (zal (⟨a0,0⟩)),[]))=some y):cw zww [AV.sl 1 (List.map zaa a0)] []=some y:=
 zah zJJ zT [] rfl (by kernel_rfl) (by kernel_rfl) (by kernel_rfl) (by kernel_rfl) (by kernel_rfl) h
noncomputable def zfC (r0:((List GPaper)×(List GScheme))×GmarkDice) (r1:((List GMarker))×GmarkDice) (r2:((List GScript))×GmarkDice) (r3:GMonitorRule×GmarkDice) (x4:List (List AV)) (x5:GmarkDice) (x6:Int):Option (AV×Mem):=pt ztU 1 ⟨[(0,AV.loc 1000 2 0 0),(2,AV.loc 2 9 0 0),(3,AV.sl 3 (List.map zas r0.fst.fst)),(5,AV.loc 5 9 0 0),(6,I x6)],[(2,⟨9,zaE,[[AV.v (.slice none 0 0),AV.v (.slice none 0 0),AV.v (.slice none 0 0),AV.v (.slice none 0 0),AV.v (.slice none 0 0),I 0,I 0,I 0,I 0]],true⟩),(5,⟨9,zaE,[[AV.row 13 5 0 (List.length (List.map zaO r1.fst)),AV.row 16 7 0 (List.length (List.map zaw r2.fst)),AV.sl 3 (List.map zas r0.fst.fst),AV.sl 2 (List.map zaW r0.fst.snd),AV.row 900 2 0 (List.length x4),I r3.fst.Part,I r3.fst.Total,I r3.fst.Window,I r3.fst.Fails]],true⟩),(13,⟨5,zcM,List.map zaO r1.fst,false⟩),(16,⟨7,zbz,List.map zaw r2.fst,false⟩),(900,⟨2,zsp,x4,false⟩),(1000,⟨2,zad,[zal x5],true⟩)]⟩
theorem zlQ (r0:((List GPaper)×(List GScheme))×GmarkDice) (r1:((List GMarker))×GmarkDice) (r2:((List GScript))×GmarkDice) (r3:GMonitorRule×GmarkDice) (x4:List (List AV)) (x5:GmarkDice) (x6:Int) {y:AV×Mem} (h:(
 brn (decide (x6 < (↑(List.map zaw r2.fst).length:Int))) (callD zcz (cw zc8 [AV.loc 1000 2 0 0,I 3] [(1000,⟨2,zad,[zal x5],true⟩)]) fun (r7:Bool×GmarkDice) =>
 brn r7.fst (chk ((0:Int)≤x6)<|
 chk ((x6:Int) < ((↑(List.map zaw r2.fst).length:Int)))<|
 elemD zbb (List.map zaw r2.fst) (0+x6.toNat) fun (c8:GScript) =>
 callD zlf (cw zpg [AV.loc 1000 2 0 0,AV.sl 3 (List.map zas r0.fst.fst),AV.agg (zaw c8)] [(1000,⟨2,zad,[zal r7.snd],true⟩)]) fun (r9:GSeed×GmarkDice) =>
 chk (x4.length=x4.length)<|
 chk ((x4.length+1)*(32+1)≤1099511627776)<|
 zfC r0 r1 r2 r3 (x4++([zbT r9.fst])) r9.snd (w64 (x6+1)))
 (zfC r0 r1 r2 r3 x4 r7.snd (w64 (x6+1))))
 (chk (0+(List.map zaO r1.fst).length≤(List.map zaO r1.fst).length)<|
 chk (0+(List.map zaw r2.fst).length≤(List.map zaw r2.fst).length)<|
 chk (0+x4.length≤x4.length)<|
 some (AV.agg [AV.sl 5 (List.take ((List.map zaO r1.fst).length) (List.map zaO r1.fst)),AV.sl 7 (List.take ((List.map zaw r2.fst).length) (List.map zaw r2.fst)),AV.sl 3 (List.map zas r0.fst.fst),AV.sl 2 (List.map zaW r0.fst.snd),AV.sl 2 (List.take x4.length x4),I r3.fst.Part,I r3.fst.Total,I r3.fst.Window,I r3.fst.Fails],[(1000,⟨2,zad,[zal x5],true⟩)])))=some y):zfC r0 r1 r2 r3 x4 x5 x6=some y:=
 pt_of zT [] (by kernel_rfl) h
theorem zBR (a0:GmarkDice) {y:AV×Mem} (h:(
 callD zir (cw zf8 [AV.loc 1000 2 0 0] [(1000,⟨2,zad,[zal a0],true⟩)]) fun (r0:((List GPaper)×(List GScheme))×GmarkDice) =>
 callD zh1 (cw zlW [AV.loc 1000 2 0 0] [(1000,⟨2,zad,[zal r0.snd],true⟩)]) fun (r1:((List GMarker))×GmarkDice) =>
 callD zhW (cw zlP [AV.loc 1000 2 0 0,AV.sl 3 (List.map zas r0.fst.fst),I 4] [(1000,⟨2,zad,[zal r1.snd],true⟩)]) fun (r2:((List GScript))×GmarkDice) =>
 callD zhS (cw zlR [AV.loc 1000 2 0 0] [(1000,⟨2,zad,[zal r2.snd],true⟩)]) fun (r3:GMonitorRule×GmarkDice) =>
 zfC r0 r1 r2 r3 [] r3.snd 0)=some y):cw zod [AV.loc 1000 2 0 0] [(1000,⟨2,zad,[zal a0],true⟩)]=some y:=
 zah ztU zT [] rfl (by kernel_rfl) (by kernel_rfl) (by kernel_rfl) (by kernel_rfl) (by kernel_rfl) h
theorem zD9 (a0:GmarkDice) {y:AV×Mem} (h:(
 callD zcz (cw zc8 [AV.loc 1000 2 0 0,I 2] [(1000,⟨2,zad,[zal a0],true⟩)]) fun (r0:Bool×GmarkDice) =>
 callD zaA (cw zaB [AV.loc 1000 2 0 0,I 3] [(1000,⟨2,zad,[zal r0.snd],true⟩)]) fun (r1:Int×GmarkDice) =>
 some (AV.agg (zaU (⟨r0.fst,r1.fst⟩)),[(1000,⟨2,zad,[zal r1.snd],true⟩)]))=some y):cw zpa [AV.loc 1000 2 0 0] [(1000,⟨2,zad,[zal a0],true⟩)]=some y:=
 zah zDu zT [] rfl (by kernel_rfl) (by kernel_rfl) (by kernel_rfl) (by kernel_rfl) (by kernel_rfl) h
noncomputable def zdU (a0:GSetup) (r1:(List GMarkEvent)×Int) (r2:(List GSuspension)×(List Bool)) (x3:List (List AV)) (x4:Int):Option (AV×Mem):=pt zAs 1 ⟨[(2,AV.loc 2 9 0 0),(4,AV.loc 4 2 0 0),(6,AV.sl 9 (List.map zab r1.fst)),(8,AV.loc 8 2 0 0),(10,AV.sl 1 (List.map nBool r2.snd)),(11,I x4)],[(2,⟨9,zaE,[zat a0],true⟩),(4,⟨2,zdj,[[AV.v (.slice none 0 0),AV.v (.slice none 0 0)]],true⟩),(8,⟨2,zdj,[[AV.row 901 8 0 (List.length x3),AV.sl 12 (List.map zaJ r2.fst)]],true⟩),(901,⟨8,za0,x3,false⟩)]⟩
theorem zxo (a0:GSetup) (r1:(List GMarkEvent)×Int) (r2:(List GSuspension)×(List Bool)) (x3:List (List AV)) (x4:Int) {y:AV×Mem} (h:(
 brn (decide (x4 < (↑(List.map zab r1.fst).length:Int))) (chk ((0:Int)≤x4)<|
 elemD zaG (List.map zab r1.fst) x4.toNat fun (c5:GMarkEvent) =>
 callD zcX (cw zdJ [AV.sl 2 (List.map zbT a0.Seeds),I c5.Script] []) fun (r6:(List Int)×Bool) =>
 brn r6.snd (zdU a0 r1 r2 x3 (w64 (x4+1)))
 (chk ((0:Int)≤x4)<|
 elemD dBool (List.map nBool r2.snd) x4.toNat fun (c7:Bool) =>
 brn c7 (zdU a0 r1 r2 x3 (w64 (x4+1)))
 (chk ((0:Int)≤x4)<|
 elemD zaG (List.map zab r1.fst) x4.toNat fun (c8:GMarkEvent) =>
 callD zj0 (cw zm5 [AV.agg (zat a0),AV.agg (zab c8)] []) fun (r9:Bool) =>
 brn (!r9) (zdU a0 r1 r2 x3 (w64 (x4+1)))
 (callD zmg (cw zl7 [AV.agg (zat a0),AV.sl 9 (List.map zab r1.fst),I x4] []) fun (r10:Bool) =>
 brn r10 (zdU a0 r1 r2 x3 (w64 (x4+1)))
 (chk ((0:Int)≤x4)<|
 elemD zaG (List.map zab r1.fst) x4.toNat fun (c11:GMarkEvent) =>
 callD zkd (cw zmx [AV.sl 5 (List.map zaO a0.Markers),I c11.Stamp.Source] []) fun (r12:GMarker×Bool) =>
 chk ((0:Int)≤x4)<|
 elemD zaG (List.map zab r1.fst) x4.toNat fun (c13:GMarkEvent) =>
 chk ((0:Int)≤x4)<|
 elemD zaG (List.map zab r1.fst) x4.toNat fun (c14:GMarkEvent) =>
 chk ((0:Int)≤x4)<|
 elemD zaG (List.map zab r1.fst) x4.toNat fun (c15:GMarkEvent) =>
 chk ((0:Int)≤x4)<|
 elemD zaG (List.map zab r1.fst) x4.toNat fun (c16:GMarkEvent) =>
 chk (x3.length=x3.length)<|
 callD zsF (cw zsx [AV.row 950 8 0 (List.length x3),AV.agg (zao (⟨c13.Script,c14.Part,r12.fst.ID,r12.fst.Level,c15.Value,⟨c16.Stamp.Time,c16.Stamp.Source,c16.Stamp.Seq⟩⟩))] [(950,⟨8,za0,x3,false⟩)]) fun (r17:(List GGiven)) =>
 zdU a0 r1 r2 (List.map zao r17) (w64 (x4+1)))))))
 (chk (0+x3.length≤x3.length)<|
 some (AV.tup [AV.agg [AV.sl 8 (List.take x3.length x3),AV.sl 12 (List.map zaJ r2.fst)],I 0],[])))=some y):zdU a0 r1 r2 x3 x4=some y:=
 pt_of zT [] (by kernel_rfl) h
theorem zIy (a0:GSetup) (a1:List GMarkEvent) {y:AV×Mem} (h:(
 callD zia (cw zlx [AV.agg (zat a0)] []) fun (r0:Int) =>
 brn (r0 != 0) (some (AV.tup [AV.agg (zbk (⟨[],[]⟩)),I 1],[]))
 (callD zjs (cw zoj [AV.sl 9 (List.map zab a1)] []) fun (r1:(List GMarkEvent)×Int) =>
 brn (r1.snd != 0) (some (AV.tup [AV.agg (zbk (⟨[],[]⟩)),I r1.snd],[]))
 (callD zsz (cw zsA [AV.agg (zat a0),AV.sl 9 (List.map zab r1.fst)] []) fun (r2:(List GSuspension)×(List Bool)) =>
 zdU a0 r1 r2 [] 0)))=some y):cw zq7 [AV.agg (zat a0),AV.sl 9 (List.map zab a1)] []=some y:=
 zah zAs zT [] rfl (by kernel_rfl) (by kernel_rfl) (by kernel_rfl) (by kernel_rfl) (by kernel_rfl) h
noncomputable def zbq (a1:GSetup) (a2:Int) (x0:List (List AV)) (x1:GmarkDice) (x2:Int):Option (AV×Mem):=pt zs2 1 ⟨[(0,AV.loc 1000 2 0 0),(2,I a2),(4,AV.loc 4 9 0 0),(7,AV.row 7 9 0 (List.length x0)),(8,I x2)],[(4,⟨9,zaE,[zat a1],true⟩),(7,⟨9,zar,x0,false⟩),(1000,⟨2,zad,[zal x1],true⟩)]⟩
theorem zrf (a1:GSetup) (a2:Int) (x0:List (List AV)) (x1:GmarkDice) (x2:Int) {y:AV×Mem} (h:(
 brn (decide (x2 < a2)) (callD zaA (cw zaB [AV.loc 1000 2 0 0,I 20] [(1000,⟨2,zad,[zal x1],true⟩)]) fun (r3:Int×GmarkDice) =>
 callD zaA (cw zaB [AV.loc 1000 2 0 0,I 14] [(1000,⟨2,zad,[zal r3.snd],true⟩)]) fun (r4:Int×GmarkDice) =>
 brn (r4.fst == 0) (callD zaA (cw zaB [AV.loc 1000 2 0 0,I ((↑(List.map zaO a1.Markers).length:Int))] [(1000,⟨2,zad,[zal r4.snd],true⟩)]) fun (r5:Int×GmarkDice) =>
 chk (0≤r5.fst)<|
 elemD zb6 (List.map zaO a1.Markers) (Int.toNat r5.fst) fun (c6:GMarker) =>
 chk (x0.length=x0.length)<|
 chk ((x0.length+1)*(88+1)≤1099511627776)<|
 chk ((x0++[[I (w64 (w64 (5*x2)+r3.fst)),I 0,I x2,I 1,I 0,I 0,I 0,I c6.ID,AV.sl 1 []]]).length=(x0++[[I (w64 (w64 (5*x2)+r3.fst)),I 0,I x2,I 1,I 0,I 0,I 0,I c6.ID,AV.sl 1 []]]).length)<|
 zbq a1 a2 (x0++([zab (⟨⟨w64 (w64 (5*x2)+r3.fst),0,x2⟩,1,0,0,0,c6.ID,[]⟩)])) r5.snd (w64 (x2+1)))
 (brn (r4.fst == 1) (brn (decide (0 < (↑(List.map zaw a1.Scripts).length:Int))) (callD zaA (cw zaB [AV.loc 1000 2 0 0,I ((↑(List.map zaw a1.Scripts).length:Int))] [(1000,⟨2,zad,[zal r4.snd],true⟩)]) fun (r7:Int×GmarkDice) =>
 chk (0≤r7.fst)<|
 elemD zbb (List.map zaw a1.Scripts) (Int.toNat r7.fst) fun (c8:GScript) =>
 callD zaA (cw zaB [AV.loc 1000 2 0 0,I 3] [(1000,⟨2,zad,[zal r7.snd],true⟩)]) fun (r9:Int×GmarkDice) =>
 chk (x0.length=x0.length)<|
 chk ((x0.length+1)*(88+1)≤1099511627776)<|
 chk ((x0++[[I (w64 (w64 (5*x2)+r3.fst)),I 0,I x2,I 2,I c8.Number,I (w64 (r9.fst - 1)),I 0,I 0,AV.sl 1 []]]).length=(x0++[[I (w64 (w64 (5*x2)+r3.fst)),I 0,I x2,I 2,I c8.Number,I (w64 (r9.fst - 1)),I 0,I 0,AV.sl 1 []]]).length)<|
 zbq a1 a2 (x0++([zab (⟨⟨w64 (w64 (5*x2)+r3.fst),0,x2⟩,2,c8.Number,w64 (r9.fst - 1),0,0,[]⟩)])) r9.snd (w64 (x2+1)))
 (zbq a1 a2 x0 r4.snd (w64 (x2+1))))
 (brn (r4.fst == 2) (brn (decide (0 < (↑x0.length:Int))) (callD zaA (cw zaB [AV.loc 1000 2 0 0,I (↑x0.length:Int)] [(1000,⟨2,zad,[zal r4.snd],true⟩)]) fun (r10:Int×GmarkDice) =>
 chk (0≤r10.fst)<|
 chk ((r10.fst:Int) < (↑x0.length:Int))<|
 elemD zaG x0 (0+Int.toNat r10.fst) fun (c11:GMarkEvent) =>
 chk (x0.length=x0.length)<|
 chk ((x0.length+1)*(88+1)≤1099511627776)<|
 chk ((x0++[[I c11.Stamp.Time,I c11.Stamp.Source,I c11.Stamp.Seq,I c11.Kind,I c11.Script,I c11.Part,I c11.Value,I c11.Marker,AV.sl 1 (List.map zaa c11.Pages)]]).length=(x0++[[I c11.Stamp.Time,I c11.Stamp.Source,I c11.Stamp.Seq,I c11.Kind,I c11.Script,I c11.Part,I c11.Value,I c11.Marker,AV.sl 1 (List.map zaa c11.Pages)]]).length)<|
 zbq a1 a2 (x0++([zab c11])) r10.snd (w64 (x2+1)))
 (zbq a1 a2 x0 r4.snd (w64 (x2+1))))
 (brn (r4.fst == 3) (brn (decide (0 < (↑x0.length:Int))) (callD zaA (cw zaB [AV.loc 1000 2 0 0,I (↑x0.length:Int)] [(1000,⟨2,zad,[zal r4.snd],true⟩)]) fun (r12:Int×GmarkDice) =>
 chk (0≤r12.fst)<|
 chk ((r12.fst:Int) < (↑x0.length:Int))<|
 elemD zaG x0 (0+Int.toNat r12.fst) fun (c13:GMarkEvent) =>
 chk (x0.length=x0.length)<|
 chk ((x0.length+1)*(88+1)≤1099511627776)<|
 chk ((x0++[[I c13.Stamp.Time,I c13.Stamp.Source,I c13.Stamp.Seq,I c13.Kind,I c13.Script,I c13.Part,I (w64 (c13.Value+1)),I c13.Marker,AV.sl 1 (List.map zaa c13.Pages)]]).length=(x0++[[I c13.Stamp.Time,I c13.Stamp.Source,I c13.Stamp.Seq,I c13.Kind,I c13.Script,I c13.Part,I (w64 (c13.Value+1)),I c13.Marker,AV.sl 1 (List.map zaa c13.Pages)]]).length)<|
 zbq a1 a2 (x0++([zab (⟨⟨c13.Stamp.Time,c13.Stamp.Source,c13.Stamp.Seq⟩,c13.Kind,c13.Script,c13.Part,w64 (c13.Value+1),c13.Marker,c13.Pages⟩)])) r12.snd (w64 (x2+1)))
 (zbq a1 a2 x0 r4.snd (w64 (x2+1))))
 (callD zld (cw zpm [AV.loc 1000 2 0 0,AV.agg (zat a1),I x2,I (w64 (w64 (5*x2)+r3.fst))] [(1000,⟨2,zad,[zal r4.snd],true⟩)]) fun (r14:GMarkEvent×GmarkDice) =>
 chk (x0.length=x0.length)<|
 chk ((x0.length+1)*(88+1)≤1099511627776)<|
 chk ((x0++[[I r14.fst.Stamp.Time,I r14.fst.Stamp.Source,I r14.fst.Stamp.Seq,I r14.fst.Kind,I r14.fst.Script,I r14.fst.Part,I r14.fst.Value,I r14.fst.Marker,AV.sl 1 (List.map zaa r14.fst.Pages)]]).length=(x0++[[I r14.fst.Stamp.Time,I r14.fst.Stamp.Source,I r14.fst.Stamp.Seq,I r14.fst.Kind,I r14.fst.Script,I r14.fst.Part,I r14.fst.Value,I r14.fst.Marker,AV.sl 1 (List.map zaa r14.fst.Pages)]]).length)<|
 zbq a1 a2 (x0++([zab r14.fst])) r14.snd (w64 (x2+1)))))))
 (chk (x0.length=x0.length)<|
 some (AV.new 9 zar x0,[(1000,⟨2,zad,[zal x1],true⟩)])))=some y):zbq a1 a2 x0 x1 x2=some y:=
 pt_of zT [] (by kernel_rfl) h
theorem zAB (a0:GmarkDice) (a1:GSetup) (a2:Int) {y:AV×Mem} (h:(
 zbq a1 a2 [] a0 0)=some y):cw zmL [AV.loc 1000 2 0 0,AV.agg (zat a1),I a2] [(1000,⟨2,zad,[zal a0],true⟩)]=some y:=
 zah zs2 zT [] rfl (by kernel_rfl) (by kernel_rfl) (by kernel_rfl) (by kernel_rfl) (by kernel_rfl) h
end Go.Proofs.YticojpmhlhfhlaaGreat
