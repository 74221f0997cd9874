/- What the functions compute, between two cut points: printed by a program, checked by the kernel. -/
import Derived.Test.YtikogkgdkdmljaaGreatXAnn
import Derived.Test.YtikogkgdkdmljaaGreatK0
import Derived.Test.YtikogkgdkdmljaaGreatK1
import Derived.Test.YtikogkgdkdmljaaGreatK2
import Derived.Test.YtikogkgdkdmljaaGreatK3
import Derived.Test.YtikogkgdkdmljaaGreatK4
set_option linter.unusedSimpArgs false
set_option linter.unusedVariables false
noncomputable section
namespace Go.Proofs.YtikogkgdkdmljaaGreat
open Go.Ab
set_option maxRecDepth 100000
variable {y:AV×Mem}
def zdW (a0:List Int) (x0:Int):=pt zcL 1 ⟨[(0,AV.sl 1 (List.map zah a0)),(1,AV.fn zb3 []),(7,I ((↑(List.map zah a0).length:Int))),(8,I x0)],[]⟩
theorem zfs (a0:List Int) (x0:Int) (h:(brn (decide (x0 < (↑(List.map zah a0).length:Int))) (chk ((0:Int)≤x0)<|elemD zaW (List.map zah a0) x0.toNat fun (c1:Int)=>callD zad (cw zb3 [I c1] []) fun (r2:Bool)=>brn r2 (some (I x0,[])) (zdW a0 (w64 (x0+1)))) (some (I (-1),[])))=some y):zdW a0 x0=some y:=ptT [] h
theorem ziW (a0:List Int) (h:(zdW a0 0)=some y):cw zbY [AV.sl 1 (List.map zah a0),AV.fn zb3 []] []=some y:=cwT zcL [] h
def zdE (a0:List Int) (x0:Int):=pt zcL 1 ⟨[(0,AV.sl 1 (List.map zah a0)),(1,AV.fn zcu []),(7,I ((↑(List.map zah a0).length:Int))),(8,I x0)],[]⟩
theorem zeX (a0:List Int) (x0:Int) (h:(brn (decide (x0 < (↑(List.map zah a0).length:Int))) (chk ((0:Int)≤x0)<|elemD zaW (List.map zah a0) x0.toNat fun (c1:Int)=>callD zad (cw zcu [I c1] []) fun (r2:Bool)=>brn r2 (some (I x0,[])) (zdE a0 (w64 (x0+1)))) (some (I (-1),[])))=some y):zdE a0 x0=some y:=ptT [] h
theorem znr (a0:List Int) (h:(zdE a0 0)=some y):cw zbY [AV.sl 1 (List.map zah a0),AV.fn zcu []] []=some y:=cwT zcL [] h
def zdF (a0:List Int) (x0:Int):=pt zcL 1 ⟨[(0,AV.sl 1 (List.map zah a0)),(1,AV.fn zca []),(7,I ((↑(List.map zah a0).length:Int))),(8,I x0)],[]⟩
theorem zeY (a0:List Int) (x0:Int) (h:(brn (decide (x0 < (↑(List.map zah a0).length:Int))) (chk ((0:Int)≤x0)<|elemD zaW (List.map zah a0) x0.toNat fun (c1:Int)=>callD zad (cw zca [I c1] []) fun (r2:Bool)=>brn r2 (some (I x0,[])) (zdF a0 (w64 (x0+1)))) (some (I (-1),[])))=some y):zdF a0 x0=some y:=ptT [] h
theorem zns (a0:List Int) (h:(zdF a0 0)=some y):cw zbY [AV.sl 1 (List.map zah a0),AV.fn zca []] []=some y:=cwT zcL [] h
theorem zwk (a0:GPart) (h:(brn (decide (a0.Max < 1)) (some (B false,[])) (brn (decide (40 < a0.Max)) (some (B false,[])) (brn (decide (a0.Topic < 0)) (some (B false,[])) (brn (decide (16≤a0.Topic)) (some (B false,[])) (brn (decide (a0.Objective < 0)) (some (B false,[])) (brn (decide (6≤a0.Objective)) (some (B false,[])) (brn (a0.Kind == 1) (brn (a0.Options == 0) (some (B (a0.Key == 0),[])) (some (B false,[]))) (brn (a0.Kind == 2) (brn (decide (2≤a0.Options)) (brn (decide (a0.Options≤5)) (brn (decide (0≤a0.Key)) (some (B (decide (a0.Key < a0.Options)),[])) (some (B false,[]))) (some (B false,[]))) (some (B false,[]))) (some (B false,[]))))))))))=some y):cw zlK [AV.agg (zaP a0)] []=some y:=cwT zvT [] h
def zhD (a0:List GPart) (x0 x1:Int):=pt zqb 1 ⟨[(3,I x0),(6,AV.sl 6 (List.map zaP a0)),(7,I ((↑(List.map zaP a0).length:Int))),(8,I x1)],[]⟩
theorem zoI (a0:List GPart) (x0 x1:Int) (h:(brn (decide (x1 < (↑(List.map zaP a0).length:Int))) (chk ((0:Int)≤x1)<|elemD zdY (List.map zaP a0) x1.toNat fun (c2:GPart)=>zhD a0 (w64 (x0+c2.Max)) (w64 (x1+1))) (some (I x0,[])))=some y):zhD a0 x0 x1=some y:=ptT [] h
theorem zxl (a0:List GPart) (h:(zhD a0 0 0)=some y):cw zmA [AV.sl 6 (List.map zaP a0)] []=some y:=cwT zqb [] h
theorem zoO (a0:List Int) (a1:Int) (h:(callD zaL (cw zlm [AV.sl 1 (List.map zah a0),I a1] []) fun (r0:Int)=>some (B (decide (0≤r0)),[]))=some y):cw zeE [AV.sl 1 (List.map zah a0),I a1] []=some y:=cwT zoK [] h
theorem zrw (a0:Int) (h:(brn (decide (a0 < 0)) (some (B true,[])) (some (B (decide (1152921504606846976 < a0)),[])))=some y):cw zca [I a0] []=some y:=cwT zq4 [] h
theorem zmv (a0:Int) (h:(some (B (decide (200 < a0)),[]))=some y):cw zcu [I a0] []=some y:=cwT zrV [] h
def zeR (a0:List Int) (a1 x0:Int):=pt zlg 1 ⟨[(0,AV.sl 1 (List.map zah a0)),(1,I a1),(7,I ((↑(List.map zah a0).length:Int))),(8,I x0)],[]⟩
theorem zgt (a0:List Int) (a1 x0:Int) (h:(brn (decide (x0 < (↑(List.map zah a0).length:Int))) (chk ((0:Int)≤x0)<|elemD zaW (List.map zah a0) x0.toNat fun (c1:Int)=>brn (a1 == c1) (some (I x0,[])) (zeR a0 a1 (w64 (x0+1)))) (some (I (-1),[])))=some y):zeR a0 a1 x0=some y:=ptT [] h
theorem zqL (a0:List Int) (a1:Int) (h:(zeR a0 a1 0)=some y):cw zlm [AV.sl 1 (List.map zah a0),I a1] []=some y:=cwT zlg [] h
end Go.Proofs.YtikogkgdkdmljaaGreat
end
