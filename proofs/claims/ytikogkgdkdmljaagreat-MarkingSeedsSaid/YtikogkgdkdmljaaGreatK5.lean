/- What the functions compute, between two cut points: printed by a program, checked by the kernel. -/
import Derived.Test.YtikogkgdkdmljaaGreatXAnn
import Derived.Test.YtikogkgdkdmljaaGreatK0
import Derived.Test.YtikogkgdkdmljaaGreatK1
import Derived.Test.YtikogkgdkdmljaaGreatK2
import Derived.Test.YtikogkgdkdmljaaGreatK3
import Derived.Test.YtikogkgdkdmljaaGreatK4
set_option linter.unusedSimpArgs false
set_option linter.unusedVariables false
noncomputable section
namespace Go.Proofs.YtikogkgdkdmljaaGreat
open Go.Ab
set_option maxRecDepth 100000
variable {y:AV×Mem}
def zd8 (a0:List Int) (x0:Int):=pt zcN 1 ⟨[(0,AV.sl 1 (List.map zaj a0)),(1,AV.fn zcc []),(7,I ((↑(List.map zaj a0).length:Int))),(8,I x0)],[]⟩
theorem zfK (a0:List Int) (x0:Int) (h:(brn (decide (x0 < (↑(List.map zaj a0).length:Int))) (chk ((0:Int)≤x0)<|elemD zaS (List.map zaj a0) x0.toNat fun (c1:Int)=>callD zad (cw zcc [I c1] []) fun (r2:Bool)=>brn r2 (some (I x0,[])) (zd8 a0 (w64 (x0+1)))) (some (I (-1),[])))=some y):zd8 a0 x0=some y:=ptT [] h
theorem zjf (a0:List Int) (h:(zd8 a0 0)=some y):cw zb2 [AV.sl 1 (List.map zaj a0),AV.fn zcc []] []=some y:=cwT zcN [] h
def zdL (a0:List Int) (x0:Int):=pt zcN 1 ⟨[(0,AV.sl 1 (List.map zaj a0)),(1,AV.fn zcy []),(7,I ((↑(List.map zaj a0).length:Int))),(8,I x0)],[]⟩
theorem zfc (a0:List Int) (x0:Int) (h:(brn (decide (x0 < (↑(List.map zaj a0).length:Int))) (chk ((0:Int)≤x0)<|elemD zaS (List.map zaj a0) x0.toNat fun (c1:Int)=>callD zad (cw zcy [I c1] []) fun (r2:Bool)=>brn r2 (some (I x0,[])) (zdL a0 (w64 (x0+1)))) (some (I (-1),[])))=some y):zdL a0 x0=some y:=ptT [] h
theorem znZ (a0:List Int) (h:(zdL a0 0)=some y):cw zb2 [AV.sl 1 (List.map zaj a0),AV.fn zcy []] []=some y:=cwT zcN [] h
def zdM (a0:List Int) (x0:Int):=pt zcN 1 ⟨[(0,AV.sl 1 (List.map zaj a0)),(1,AV.fn zce []),(7,I ((↑(List.map zaj a0).length:Int))),(8,I x0)],[]⟩
theorem zfd (a0:List Int) (x0:Int) (h:(brn (decide (x0 < (↑(List.map zaj a0).length:Int))) (chk ((0:Int)≤x0)<|elemD zaS (List.map zaj a0) x0.toNat fun (c1:Int)=>callD zad (cw zce [I c1] []) fun (r2:Bool)=>brn r2 (some (I x0,[])) (zdM a0 (w64 (x0+1)))) (some (I (-1),[])))=some y):zdM a0 x0=some y:=ptT [] h
theorem zn0 (a0:List Int) (h:(zdM a0 0)=some y):cw zb2 [AV.sl 1 (List.map zaj a0),AV.fn zce []] []=some y:=cwT zcN [] h
theorem zxy (a0:GPart) (h:(brn (decide (a0.Max < 1)) (some (B false,[])) (brn (decide (40 < a0.Max)) (some (B false,[])) (brn (decide (a0.Topic < 0)) (some (B false,[])) (brn (decide (16≤a0.Topic)) (some (B false,[])) (brn (decide (a0.Objective < 0)) (some (B false,[])) (brn (decide (6≤a0.Objective)) (some (B false,[])) (brn (a0.Kind == 1) (brn (a0.Options == 0) (some (B (a0.Key == 0),[])) (some (B false,[]))) (brn (a0.Kind == 2) (brn (decide (2≤a0.Options)) (brn (decide (a0.Options≤5)) (brn (decide (0≤a0.Key)) (some (B (decide (a0.Key < a0.Options)),[])) (some (B false,[]))) (some (B false,[]))) (some (B false,[]))) (some (B false,[]))))))))))=some y):cw zma [AV.agg (zaL a0)] []=some y:=cwT zw1 [] h
def zhX (a0:List GPart) (x0 x1:Int):=pt zq4 1 ⟨[(3,I x0),(6,AV.sl 6 (List.map zaL a0)),(7,I ((↑(List.map zaL a0).length:Int))),(8,I x1)],[]⟩
theorem zps (a0:List GPart) (x0 x1:Int) (h:(brn (decide (x1 < (↑(List.map zaL a0).length:Int))) (chk ((0:Int)≤x1)<|elemD zc1 (List.map zaL a0) x1.toNat fun (c2:GPart)=>zhX a0 (w64 (x0+c2.Max)) (w64 (x1+1))) (some (I x0,[])))=some y):zhX a0 x0 x1=some y:=ptT [] h
theorem zyx (a0:List GPart) (h:(zhX a0 0 0)=some y):cw zm3 [AV.sl 6 (List.map zaL a0)] []=some y:=cwT zq4 [] h
theorem zpy (a0:List Int) (a1:Int) (h:(callD zaP (cw zlL [AV.sl 1 (List.map zaj a0),I a1] []) fun (r0:Int)=>some (B (decide (0≤r0)),[]))=some y):cw zeS [AV.sl 1 (List.map zaj a0),I a1] []=some y:=cwT zpu [] h
theorem zsv (a0:Int) (h:(brn (decide (a0 < 0)) (some (B true,[])) (some (B (decide (1152921504606846976 < a0)),[])))=some y):cw zce [I a0] []=some y:=cwT zr2 [] h
theorem zmZ (a0:Int) (h:(some (B (decide (200 < a0)),[]))=some y):cw zcy [I a0] []=some y:=cwT zsT [] h
def ze7 (a0:List Int) (a1 x0:Int):=pt zlF 1 ⟨[(0,AV.sl 1 (List.map zaj a0)),(1,I a1),(7,I ((↑(List.map zaj a0).length:Int))),(8,I x0)],[]⟩
theorem zgH (a0:List Int) (a1 x0:Int) (h:(brn (decide (x0 < (↑(List.map zaj a0).length:Int))) (chk ((0:Int)≤x0)<|elemD zaS (List.map zaj a0) x0.toNat fun (c1:Int)=>brn (a1 == c1) (some (I x0,[])) (ze7 a0 a1 (w64 (x0+1)))) (some (I (-1),[])))=some y):ze7 a0 a1 x0=some y:=ptT [] h
theorem zrI (a0:List Int) (a1:Int) (h:(ze7 a0 a1 0)=some y):cw zlL [AV.sl 1 (List.map zaj a0),I a1] []=some y:=cwT zlF [] h
end Go.Proofs.YtikogkgdkdmljaaGreat
end
