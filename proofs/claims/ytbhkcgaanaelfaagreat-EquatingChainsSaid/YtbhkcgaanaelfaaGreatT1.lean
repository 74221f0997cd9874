/- What the functions compute, between two cut points: printed by a program, checked by the kernel. -/
import Derived.Test.YtbhkcgaanaelfaaGreatAnn
namespace Go.Proofs.YtbhkcgaanaelfaaGreat
open Go.Ab
set_option maxRecDepth 100000
set_option linter.unusedVariables false
noncomputable def zez (r7:GCurve×Int) (r8:GCurve×Int) (r9:GCurve×Int) (x13:GRatio) (x14:Int):Option (AV×Mem):=pt zki 1 ⟨[(11,AV.loc 11 1 0 0),(13,AV.loc 13 1 0 0),(15,AV.loc 15 1 0 0),(17,AV.loc 17 2 0 0),(18,I x14)],[(11,⟨1,zba,[zao r7.fst],true⟩),(13,⟨1,zba,[zao r8.fst],true⟩),(15,⟨1,zba,[zao r9.fst],true⟩),(17,⟨2,zac,[zaa x13],true⟩)]⟩
theorem zjq (r7:GCurve×Int) (r8:GCurve×Int) (r9:GCurve×Int) (x13:GRatio) (x14:Int) {y:AV×Mem} (h:(
 brn (decide (x14 < 6)) (callD zd0 (cw zeL [I x14] []) fun (r15:GRatio) =>
 callD zbB (cw zbA [AV.agg (zao r7.fst),AV.agg (zaa r15)] []) fun (r16:GRatio×Int) =>
 callD zbB (cw zbA [AV.agg (zao r8.fst),AV.agg (zaa r16.fst)] []) fun (r17:GRatio×Int) =>
 callD zd0 (cw zeL [I x14] []) fun (r18:GRatio) =>
 callD zbB (cw zbA [AV.agg (zao r9.fst),AV.agg (zaa r18)] []) fun (r19:GRatio×Int) =>
 brn (r16.snd != 0) (some (B false,[]))
 (brn (r17.snd != 0) (some (B false,[]))
 (brn (r19.snd != 0) (some (B false,[]))
 (brn (!(r17.fst.Num == r19.fst.Num && (r17.fst.Den == r19.fst.Den && true))) (some (B false,[]))
 (callD zjC (cw zlf [AV.agg (zaa x13),AV.agg (zaa r19.fst)] []) fun (r20:Bool) =>
 brn (!r20) (some (B false,[]))
 (zez r7 r8 r9 r19.fst (w64 (x14+1))))))))
 (callD zga (cw zhp [] []) fun (r21:Bool) =>
 some (B r21,[])))=some y):zez r7 r8 r9 x13 x14=some y:=
 pt_of zT [] (by kernel_rfl) h
theorem zoq (a0:List Int) (a1:Int) {y:AV×Mem} (h:(
 callD zle (cw zne [AV.sl 1 (List.map zaj a0)] []) fun (r0:Bool) =>
 brn (!r0) (callD zga (cw zhp [] []) fun (r1:Bool) =>
 some (B r1,[]))
 (callD zlZ (cw zov [AV.sl 1 (List.map zaj a0)] []) fun (r2:GmarkDice) =>
 callD zci (cw zcT [AV.loc 1000 2 0 0,I 5,B true] [(1000,⟨2,zar,[zbu r2],true⟩)]) fun (r3:GDistribution×GmarkDice) =>
 callD zci (cw zcT [AV.loc 1000 2 0 0,I 5,B true] [(1000,⟨2,zar,[zbu r3.snd],true⟩)]) fun (r4:GDistribution×GmarkDice) =>
 callD zci (cw zcT [AV.loc 1000 2 0 0,I 5,B true] [(1000,⟨2,zar,[zbu r4.snd],true⟩)]) fun (r5:GDistribution×GmarkDice) =>
 callD zci (cw zcT [AV.loc 1000 2 0 0,I 5,B true] [(1000,⟨2,zar,[zbu r5.snd],true⟩)]) fun (r6:GDistribution×GmarkDice) =>
 chk ((3:Int)≠0)<|
 callD zcN (cw zbV [I (w64 (a1.tmod 3)),AV.agg (zae r3.fst),AV.agg (zae r4.fst)] []) fun (r7:GCurve×Int) =>
 callD zcN (cw zbV [I (w64 (a1.tmod 3)),AV.agg (zae r5.fst),AV.agg (zae r6.fst)] []) fun (r8:GCurve×Int) =>
 callD zgl (cw zeX [AV.agg (zae r3.fst),AV.agg (zae r4.fst),AV.agg (zae r5.fst),AV.agg (zae r6.fst),I (w64 (a1.tmod 3))] []) fun (r9:GCurve×Int) =>
 brn (r7.snd != 0) (brn (r9.snd != 0) (callD zga (cw zhp [] []) fun (r10:Bool) =>
 some (B r10,[]))
 (some (B false,[])))
 (brn (r8.snd != 0) (brn (r9.snd != 0) (callD zga (cw zhp [] []) fun (r11:Bool) =>
 some (B r11,[]))
 (some (B false,[])))
 (brn (r9.snd != 0) (some (B false,[]))
 (callD zd0 (cw zeL [I (-1000)] []) fun (r12:GRatio) =>
 zez r7 r8 r9 r12 0)))))=some y):cw zj7 [AV.sl 1 (List.map zaj a0),AV.v (.int .u8 a1)] []=some y:=
 zai zki zT [] rfl (by kernel_rfl) (by kernel_rfl) (by kernel_rfl) (by kernel_rfl) (by kernel_rfl) h
theorem zxI (a0:List Int) {y:AV×Mem} (h:(
 some (B (decide ((↑(List.map zaj a0).length:Int)≤600)),[]))=some y):cw zne [AV.sl 1 (List.map zaj a0)] []=some y:=
 zai zwM zT [] rfl (by kernel_rfl) (by kernel_rfl) (by kernel_rfl) (by kernel_rfl) (by kernel_rfl) h
theorem zyz (a0:List Int) {y:AV×Mem} (h:(
 some (AV.newp 2 zar (zbu (⟨a0,0⟩)),[]))=some y):cw zov [AV.sl 1 (List.map zaj a0)] []=some y:=
 zai zyu zT [] rfl (by kernel_rfl) (by kernel_rfl) (by kernel_rfl) (by kernel_rfl) (by kernel_rfl) h
end Go.Proofs.YtbhkcgaanaelfaaGreat
