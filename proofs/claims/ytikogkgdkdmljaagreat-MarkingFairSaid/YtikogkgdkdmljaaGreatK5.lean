/- What the functions compute, between two cut points: printed by a program, checked by the kernel. -/
import Derived.Test.YtikogkgdkdmljaaGreatXAnn
import Derived.Test.YtikogkgdkdmljaaGreatK0
import Derived.Test.YtikogkgdkdmljaaGreatK1
import Derived.Test.YtikogkgdkdmljaaGreatK2
import Derived.Test.YtikogkgdkdmljaaGreatK3
import Derived.Test.YtikogkgdkdmljaaGreatK4
set_option linter.unusedSimpArgs false
set_option linter.unusedVariables false
noncomputable section
namespace Go.Proofs.YtikogkgdkdmljaaGreat
open Go.Ab
set_option maxRecDepth 100000
variable {y:AV×Mem}
def zd0 (a0:List Int) (x0:Int):=pt zcM 1 ⟨[(0,AV.sl 1 (List.map zai a0)),(1,AV.fn zcc []),(7,I ((↑(List.map zai a0).length:Int))),(8,I x0)],[]⟩
theorem zfu (a0:List Int) (x0:Int) (h:(brn (decide (x0 < (↑(List.map zai a0).length:Int))) (chk ((0:Int)≤x0)<|elemD zaW (List.map zai a0) x0.toNat fun (c1:Int)=>callD zad (cw zcc [I c1] []) fun (r2:Bool)=>brn r2 (some (I x0,[])) (zd0 a0 (w64 (x0+1)))) (some (I (-1),[])))=some y):zd0 a0 x0=some y:=ptT [] h
theorem zi2 (a0:List Int) (h:(zd0 a0 0)=some y):cw zb2 [AV.sl 1 (List.map zai a0),AV.fn zcc []] []=some y:=cwT zcM [] h
def zdG (a0:List Int) (x0:Int):=pt zcM 1 ⟨[(0,AV.sl 1 (List.map zai a0)),(1,AV.fn zcx []),(7,I ((↑(List.map zai a0).length:Int))),(8,I x0)],[]⟩
theorem ze0 (a0:List Int) (x0:Int) (h:(brn (decide (x0 < (↑(List.map zai a0).length:Int))) (chk ((0:Int)≤x0)<|elemD zaW (List.map zai a0) x0.toNat fun (c1:Int)=>callD zad (cw zcx [I c1] []) fun (r2:Bool)=>brn r2 (some (I x0,[])) (zdG a0 (w64 (x0+1)))) (some (I (-1),[])))=some y):zdG a0 x0=some y:=ptT [] h
theorem znv (a0:List Int) (h:(zdG a0 0)=some y):cw zb2 [AV.sl 1 (List.map zai a0),AV.fn zcx []] []=some y:=cwT zcM [] h
def zdH (a0:List Int) (x0:Int):=pt zcM 1 ⟨[(0,AV.sl 1 (List.map zai a0)),(1,AV.fn zce []),(7,I ((↑(List.map zai a0).length:Int))),(8,I x0)],[]⟩
theorem ze1 (a0:List Int) (x0:Int) (h:(brn (decide (x0 < (↑(List.map zai a0).length:Int))) (chk ((0:Int)≤x0)<|elemD zaW (List.map zai a0) x0.toNat fun (c1:Int)=>callD zad (cw zce [I c1] []) fun (r2:Bool)=>brn r2 (some (I x0,[])) (zdH a0 (w64 (x0+1)))) (some (I (-1),[])))=some y):zdH a0 x0=some y:=ptT [] h
theorem znw (a0:List Int) (h:(zdH a0 0)=some y):cw zb2 [AV.sl 1 (List.map zai a0),AV.fn zce []] []=some y:=cwT zcM [] h
theorem zwH (a0:GPart) (h:(brn (decide (a0.Max < 1)) (some (B false,[])) (brn (decide (40 < a0.Max)) (some (B false,[])) (brn (decide (a0.Topic < 0)) (some (B false,[])) (brn (decide (16≤a0.Topic)) (some (B false,[])) (brn (decide (a0.Objective < 0)) (some (B false,[])) (brn (decide (6≤a0.Objective)) (some (B false,[])) (brn (a0.Kind == 1) (brn (a0.Options == 0) (some (B (a0.Key == 0),[])) (some (B false,[]))) (brn (a0.Kind == 2) (brn (decide (2≤a0.Options)) (brn (decide (a0.Options≤5)) (brn (decide (0≤a0.Key)) (some (B (decide (a0.Key < a0.Options)),[])) (some (B false,[]))) (some (B false,[]))) (some (B false,[]))) (some (B false,[]))))))))))=some y):cw zlO [AV.agg (zaS a0)] []=some y:=cwT zv9 [] h
def zhH (a0:List GPart) (x0 x1:Int):=pt zqn 1 ⟨[(3,I x0),(6,AV.sl 6 (List.map zaS a0)),(7,I ((↑(List.map zaS a0).length:Int))),(8,I x1)],[]⟩
theorem zoS (a0:List GPart) (x0 x1:Int) (h:(brn (decide (x1 < (↑(List.map zaS a0).length:Int))) (chk ((0:Int)≤x1)<|elemD zd3 (List.map zaS a0) x1.toNat fun (c2:GPart)=>zhH a0 (w64 (x0+c2.Max)) (w64 (x1+1))) (some (I x0,[])))=some y):zhH a0 x0 x1=some y:=ptT [] h
theorem zxI (a0:List GPart) (h:(zhH a0 0 0)=some y):cw zmH [AV.sl 6 (List.map zaS a0)] []=some y:=cwT zqn [] h
theorem zoY (a0:List Int) (a1:Int) (h:(callD zaM (cw zlt [AV.sl 1 (List.map zai a0),I a1] []) fun (r0:Int)=>some (B (decide (0≤r0)),[]))=some y):cw zeJ [AV.sl 1 (List.map zai a0),I a1] []=some y:=cwT zoU [] h
theorem zrP (a0:Int) (h:(brn (decide (a0 < 0)) (some (B true,[])) (some (B (decide (1152921504606846976 < a0)),[])))=some y):cw zce [I a0] []=some y:=cwT zrm [] h
theorem zmC (a0:Int) (h:(some (B (decide (200 < a0)),[]))=some y):cw zcx [I a0] []=some y:=cwT zsc [] h
def zeV (a0:List Int) (a1 x0:Int):=pt zlm 1 ⟨[(0,AV.sl 1 (List.map zai a0)),(1,I a1),(7,I ((↑(List.map zai a0).length:Int))),(8,I x0)],[]⟩
theorem zgu (a0:List Int) (a1 x0:Int) (h:(brn (decide (x0 < (↑(List.map zai a0).length:Int))) (chk ((0:Int)≤x0)<|elemD zaW (List.map zai a0) x0.toNat fun (c1:Int)=>brn (a1 == c1) (some (I x0,[])) (zeV a0 a1 (w64 (x0+1)))) (some (I (-1),[])))=some y):zeV a0 a1 x0=some y:=ptT [] h
theorem zq3 (a0:List Int) (a1:Int) (h:(zeV a0 a1 0)=some y):cw zlt [AV.sl 1 (List.map zai a0),I a1] []=some y:=cwT zlm [] h
end Go.Proofs.YtikogkgdkdmljaaGreat
end
