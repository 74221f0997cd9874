/- What the functions compute, between two cut points: printed by a program, checked by the kernel. -/
import Derived.Test.YtikogkgdkdmljaaGreatXAnn
import Derived.Test.YtikogkgdkdmljaaGreatK0
import Derived.Test.YtikogkgdkdmljaaGreatK1
import Derived.Test.YtikogkgdkdmljaaGreatK2
import Derived.Test.YtikogkgdkdmljaaGreatK3
import Derived.Test.YtikogkgdkdmljaaGreatK4
set_option linter.unusedSimpArgs false
set_option linter.unusedVariables false
noncomputable section
namespace Go.Proofs.YtikogkgdkdmljaaGreat
open Go.Ab
set_option maxRecDepth 100000
variable {y:AV×Mem}
def zd2 (a0:List Int) (x0:Int):=pt zcM 1 ⟨[(0,AV.sl 1 (List.map zaj a0)),(1,AV.fn zb7 []),(7,I ((↑(List.map zaj a0).length:Int))),(8,I x0)],[]⟩
theorem zfv (a0:List Int) (x0:Int) (h:(brn (decide (x0 < (↑(List.map zaj a0).length:Int))) (chk ((0:Int)≤x0)<|elemD zaW (List.map zaj a0) x0.toNat fun (c1:Int)=>callD zad (cw zb7 [I c1] []) fun (r2:Bool)=>brn r2 (some (I x0,[])) (zd2 a0 (w64 (x0+1)))) (some (I (-1),[])))=some y):zd2 a0 x0=some y:=ptT [] h
theorem ziV (a0:List Int) (h:(zd2 a0 0)=some y):cw zb0 [AV.sl 1 (List.map zaj a0),AV.fn zb7 []] []=some y:=cwT zcM [] h
def zdK (a0:List Int) (x0:Int):=pt zcM 1 ⟨[(0,AV.sl 1 (List.map zaj a0)),(1,AV.fn zcv []),(7,I ((↑(List.map zaj a0).length:Int))),(8,I x0)],[]⟩
theorem ze1 (a0:List Int) (x0:Int) (h:(brn (decide (x0 < (↑(List.map zaj a0).length:Int))) (chk ((0:Int)≤x0)<|elemD zaW (List.map zaj a0) x0.toNat fun (c1:Int)=>callD zad (cw zcv [I c1] []) fun (r2:Bool)=>brn r2 (some (I x0,[])) (zdK a0 (w64 (x0+1)))) (some (I (-1),[])))=some y):zdK a0 x0=some y:=ptT [] h
theorem znA (a0:List Int) (h:(zdK a0 0)=some y):cw zb0 [AV.sl 1 (List.map zaj a0),AV.fn zcv []] []=some y:=cwT zcM [] h
def zdL (a0:List Int) (x0:Int):=pt zcM 1 ⟨[(0,AV.sl 1 (List.map zaj a0)),(1,AV.fn zcd []),(7,I ((↑(List.map zaj a0).length:Int))),(8,I x0)],[]⟩
theorem ze2 (a0:List Int) (x0:Int) (h:(brn (decide (x0 < (↑(List.map zaj a0).length:Int))) (chk ((0:Int)≤x0)<|elemD zaW (List.map zaj a0) x0.toNat fun (c1:Int)=>callD zad (cw zcd [I c1] []) fun (r2:Bool)=>brn r2 (some (I x0,[])) (zdL a0 (w64 (x0+1)))) (some (I (-1),[])))=some y):zdL a0 x0=some y:=ptT [] h
theorem znB (a0:List Int) (h:(zdL a0 0)=some y):cw zb0 [AV.sl 1 (List.map zaj a0),AV.fn zcd []] []=some y:=cwT zcM [] h
theorem zwz (a0:GPart) (h:(brn (decide (a0.Max < 1)) (some (B false,[])) (brn (decide (40 < a0.Max)) (some (B false,[])) (brn (decide (a0.Topic < 0)) (some (B false,[])) (brn (decide (16≤a0.Topic)) (some (B false,[])) (brn (decide (a0.Objective < 0)) (some (B false,[])) (brn (decide (6≤a0.Objective)) (some (B false,[])) (brn (a0.Kind == 1) (brn (a0.Options == 0) (some (B (a0.Key == 0),[])) (some (B false,[]))) (brn (a0.Kind == 2) (brn (decide (2≤a0.Options)) (brn (decide (a0.Options≤5)) (brn (decide (0≤a0.Key)) (some (B (decide (a0.Key < a0.Options)),[])) (some (B false,[]))) (some (B false,[]))) (some (B false,[]))) (some (B false,[]))))))))))=some y):cw zlO [AV.agg (zaQ a0)] []=some y:=cwT zv8 [] h
def zhD (a0:List GPart) (x0 x1:Int):=pt zqn 1 ⟨[(3,I x0),(6,AV.sl 6 (List.map zaQ a0)),(7,I ((↑(List.map zaQ a0).length:Int))),(8,I x1)],[]⟩
theorem zoR (a0:List GPart) (x0 x1:Int) (h:(brn (decide (x1 < (↑(List.map zaQ a0).length:Int))) (chk ((0:Int)≤x1)<|elemD zd5 (List.map zaQ a0) x1.toNat fun (c2:GPart)=>zhD a0 (w64 (x0+c2.Max)) (w64 (x1+1))) (some (I x0,[])))=some y):zhD a0 x0 x1=some y:=ptT [] h
theorem zxA (a0:List GPart) (h:(zhD a0 0 0)=some y):cw zmE [AV.sl 6 (List.map zaQ a0)] []=some y:=cwT zqn [] h
theorem zoX (a0:List Int) (a1:Int) (h:(callD zaL (cw zlo [AV.sl 1 (List.map zaj a0),I a1] []) fun (r0:Int)=>some (B (decide (0≤r0)),[]))=some y):cw zeJ [AV.sl 1 (List.map zaj a0),I a1] []=some y:=cwT zoT [] h
theorem zrK (a0:Int) (h:(brn (decide (a0 < 0)) (some (B true,[])) (some (B (decide (1152921504606846976 < a0)),[])))=some y):cw zcd [I a0] []=some y:=cwT zri [] h
theorem zmA (a0:Int) (h:(some (B (decide (200 < a0)),[]))=some y):cw zcv [I a0] []=some y:=cwT zr7 [] h
def zeW (a0:List Int) (a1 x0:Int):=pt zlj 1 ⟨[(0,AV.sl 1 (List.map zaj a0)),(1,I a1),(7,I ((↑(List.map zaj a0).length:Int))),(8,I x0)],[]⟩
theorem zgu (a0:List Int) (a1 x0:Int) (h:(brn (decide (x0 < (↑(List.map zaj a0).length:Int))) (chk ((0:Int)≤x0)<|elemD zaW (List.map zaj a0) x0.toNat fun (c1:Int)=>brn (a1 == c1) (some (I x0,[])) (zeW a0 a1 (w64 (x0+1)))) (some (I (-1),[])))=some y):zeW a0 a1 x0=some y:=ptT [] h
theorem zqY (a0:List Int) (a1:Int) (h:(zeW a0 a1 0)=some y):cw zlo [AV.sl 1 (List.map zaj a0),I a1] []=some y:=cwT zlj [] h
end Go.Proofs.YtikogkgdkdmljaaGreat
end
