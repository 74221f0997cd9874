/- What the functions compute, between two cut points: printed by a program, checked by the kernel. -/
import Derived.Test.YtikogkgdkdmljaaGreatXAnn
set_option linter.unusedSimpArgs false
set_option linter.unusedVariables false
noncomputable section
namespace Go.Proofs.YtikogkgdkdmljaaGreat
open Go.Ab
set_option maxRecDepth 100000
variable {y:AV×Mem}
set_option maxRecDepth 100000
variable {y:AV×Mem}
def zjC (a0:zab) (x2:Int):=pt ztg 1 ⟨[(1,AV.loc 1 9 0 0),(3,I x2)],[(1,⟨9,zac,[zaa a0],true⟩)]⟩
theorem zm4 (a0:zab) (x2:Int) (h:(brn (decide (x2 < (↑(List.map zaj a0.Pages).length:Int))) (chk ((0:Int)≤x2)<|elemD zaW (List.map zaj a0.Pages) x2.toNat fun (c3:Int)=>callD zad (cw zgZ [I c3,I 0,I 1152921504606846976] []) fun (r4:Bool)=>brn (!r4) (some (B false,[])) (zjC a0 (w64 (x2+1)))) (brn (a0.Kind == 0) (brn (decide (1≤a0.Stamp.Source)) (callD zad (cw zgZ [I a0.Part,I 0,I 23] []) fun (r5:Bool)=>brn r5 (callD zad (cw zgZ [I a0.Value,I (-1),I 40] []) fun (r6:Bool)=>brn r6 (some (B (a0.Marker == 0),[])) (some (B false,[]))) (some (B false,[]))) (some (B false,[]))) (brn (a0.Kind == 1) (brn (a0.Stamp.Source == 0) (brn (a0.Script == 0) (brn (a0.Part == 0) (brn (a0.Value == 0) (callD zad (cw zgZ [I a0.Marker,I 1,I 99] []) fun (r7:Bool)=>brn r7 (some (B ((↑(List.map zaj a0.Pages).length:Int) == 0),[])) (some (B false,[]))) (some (B false,[]))) (some (B false,[]))) (some (B false,[]))) (some (B false,[]))) (brn (a0.Kind == 2) (brn (a0.Stamp.Source == 0) (brn (a0.Value == 0) (brn (a0.Marker == 0) (callD zad (cw zgZ [I a0.Part,I (-1),I 23] []) fun (r8:Bool)=>brn r8 (some (B ((↑(List.map zaj a0.Pages).length:Int) == 0),[])) (some (B false,[]))) (some (B false,[]))) (some (B false,[]))) (some (B false,[]))) (some (B false,[]))))))=some y):zjC a0 x2=some y:=ptT [] h
theorem zzC (a0:zab) (h:(callD zad (cw zoz [AV.agg (zbD a0.Stamp)] []) fun (r0:Bool)=>brn (!r0) (some (B false,[])) (callD zad (cw zgZ [I a0.Script,I 0,I 319999] []) fun (r1:Bool)=>brn (!r1) (some (B false,[])) (brn (decide (12 < (↑(List.map zaj a0.Pages).length:Int))) (some (B false,[])) (zjC a0 0))))=some y):cw zoA [AV.agg (zaa a0)] []=some y:=cwT ztg [] h
theorem zAv (a0 a1:zab) (h:(brn (a0.Stamp.Time == a1.Stamp.Time && (a0.Stamp.Source == a1.Stamp.Source && (a0.Stamp.Seq == a1.Stamp.Seq && true))) (brn (a0.Kind == a1.Kind) (brn (a0.Script == a1.Script) (brn (a0.Part == a1.Part) (brn (a0.Value == a1.Value) (brn (a0.Marker == a1.Marker) (callD zad (cw zlc [AV.sl 1 (List.map zaj a0.Pages),AV.sl 1 (List.map zaj a1.Pages)] []) fun (r0:Bool)=>some (B r0,[])) (some (B false,[]))) (some (B false,[]))) (some (B false,[]))) (some (B false,[]))) (some (B false,[]))) (some (B false,[])))=some y):cw zpY [AV.agg (zaa a0),AV.agg (zaa a1)] []=some y:=cwT zzQ [] h
theorem zyt (a0 a1:zab) (h:(callD zad (cw zpX [AV.agg (zbD a0.Stamp),AV.agg (zbD a1.Stamp)] []) fun (r0:Bool)=>some (B r0,[]))=some y):cw znF [AV.agg (zaa a0),AV.agg (zaa a1)] []=some y:=cwT zyb [] h
set_option maxRecDepth 100000
variable {y:AV×Mem}
end Go.Proofs.YtikogkgdkdmljaaGreat
end
