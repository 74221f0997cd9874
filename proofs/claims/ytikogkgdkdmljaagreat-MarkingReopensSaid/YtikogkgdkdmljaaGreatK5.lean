/- What the functions compute, between two cut points: printed by a program, checked by the kernel. -/
import Derived.Test.YtikogkgdkdmljaaGreatXAnn
import Derived.Test.YtikogkgdkdmljaaGreatK0
import Derived.Test.YtikogkgdkdmljaaGreatK1
import Derived.Test.YtikogkgdkdmljaaGreatK2
import Derived.Test.YtikogkgdkdmljaaGreatK3
import Derived.Test.YtikogkgdkdmljaaGreatK4
set_option linter.unusedSimpArgs false
set_option linter.unusedVariables false
noncomputable section
namespace Go.Proofs.YtikogkgdkdmljaaGreat
open Go.Ab
set_option maxRecDepth 100000
variable {y:AV×Mem}
def zdR (a0:List Int) (x0:Int):=pt zcA 1 ⟨[(0,AV.sl 1 (List.map zak a0)),(1,AV.fn zb2 []),(7,I ((↑(List.map zak a0).length:Int))),(8,I x0)],[]⟩
theorem zfe (a0:List Int) (x0:Int) (h:(brn (decide (x0 < (↑(List.map zak a0).length:Int))) (chk ((0:Int)≤x0)<|elemD zaV (List.map zak a0) x0.toNat fun (c1:Int)=>callD zad (cw zb2 [I c1] []) fun (r2:Bool)=>brn r2 (some (I x0,[])) (zdR a0 (w64 (x0+1)))) (some (I (-1),[])))=some y):zdR a0 x0=some y:=ptT [] h
theorem zir (a0:List Int) (h:(zdR a0 0)=some y):cw zbT [AV.sl 1 (List.map zak a0),AV.fn zb2 []] []=some y:=cwT zcA [] h
def zdy (a0:List Int) (x0:Int):=pt zcA 1 ⟨[(0,AV.sl 1 (List.map zak a0)),(1,AV.fn zcn []),(7,I ((↑(List.map zak a0).length:Int))),(8,I x0)],[]⟩
theorem zeL (a0:List Int) (x0:Int) (h:(brn (decide (x0 < (↑(List.map zak a0).length:Int))) (chk ((0:Int)≤x0)<|elemD zaV (List.map zak a0) x0.toNat fun (c1:Int)=>callD zad (cw zcn [I c1] []) fun (r2:Bool)=>brn r2 (some (I x0,[])) (zdy a0 (w64 (x0+1)))) (some (I (-1),[])))=some y):zdy a0 x0=some y:=ptT [] h
theorem zmG (a0:List Int) (h:(zdy a0 0)=some y):cw zbT [AV.sl 1 (List.map zak a0),AV.fn zcn []] []=some y:=cwT zcA [] h
def zdz (a0:List Int) (x0:Int):=pt zcA 1 ⟨[(0,AV.sl 1 (List.map zak a0)),(1,AV.fn zb6 []),(7,I ((↑(List.map zak a0).length:Int))),(8,I x0)],[]⟩
theorem zeM (a0:List Int) (x0:Int) (h:(brn (decide (x0 < (↑(List.map zak a0).length:Int))) (chk ((0:Int)≤x0)<|elemD zaV (List.map zak a0) x0.toNat fun (c1:Int)=>callD zad (cw zb6 [I c1] []) fun (r2:Bool)=>brn r2 (some (I x0,[])) (zdz a0 (w64 (x0+1)))) (some (I (-1),[])))=some y):zdz a0 x0=some y:=ptT [] h
theorem zmH (a0:List Int) (h:(zdz a0 0)=some y):cw zbT [AV.sl 1 (List.map zak a0),AV.fn zb6 []] []=some y:=cwT zcA [] h
theorem zvh (a0:GPart) (h:(brn (decide (a0.Max < 1)) (some (B false,[])) (brn (decide (40 < a0.Max)) (some (B false,[])) (brn (decide (a0.Topic < 0)) (some (B false,[])) (brn (decide (16≤a0.Topic)) (some (B false,[])) (brn (decide (a0.Objective < 0)) (some (B false,[])) (brn (decide (6≤a0.Objective)) (some (B false,[])) (brn (a0.Kind == 1) (brn (a0.Options == 0) (some (B (a0.Key == 0),[])) (some (B false,[]))) (brn (a0.Kind == 2) (brn (decide (2≤a0.Options)) (brn (decide (a0.Options≤5)) (brn (decide (0≤a0.Key)) (some (B (decide (a0.Key < a0.Options)),[])) (some (B false,[]))) (some (B false,[]))) (some (B false,[]))) (some (B false,[]))))))))))=some y):cw zle [AV.agg (zaO a0)] []=some y:=cwT zuL [] h
def zhl (a0:List GPart) (x0 x1:Int):=pt zpc 1 ⟨[(3,I x0),(6,AV.sl 6 (List.map zaO a0)),(7,I ((↑(List.map zaO a0).length:Int))),(8,I x1)],[]⟩
theorem znN (a0:List GPart) (x0 x1:Int) (h:(brn (decide (x1 < (↑(List.map zaO a0).length:Int))) (chk ((0:Int)≤x1)<|elemD zec (List.map zaO a0) x1.toNat fun (c2:GPart)=>zhl a0 (w64 (x0+c2.Max)) (w64 (x1+1))) (some (I x0,[])))=some y):zhl a0 x0 x1=some y:=ptT [] h
theorem zwj (a0:List GPart) (h:(zhl a0 0 0)=some y):cw zlW [AV.sl 6 (List.map zaO a0)] []=some y:=cwT zpc [] h
theorem znT (a0:List Int) (a1:Int) (h:(callD zaJ (cw zkS [AV.sl 1 (List.map zak a0),I a1] []) fun (r0:Int)=>some (B (decide (0≤r0)),[]))=some y):cw zeu [AV.sl 1 (List.map zak a0),I a1] []=some y:=cwT znP [] h
theorem zqA (a0:Int) (h:(brn (decide (a0 < 0)) (some (B true,[])) (some (B (decide (1152921504606846976 < a0)),[])))=some y):cw zb6 [I a0] []=some y:=cwT zp8 [] h
theorem zlS (a0:Int) (h:(some (B (decide (200 < a0)),[]))=some y):cw zcn [I a0] []=some y:=cwT zqT [] h
def zeG (a0:List Int) (a1 x0:Int):=pt zkN 1 ⟨[(0,AV.sl 1 (List.map zak a0)),(1,I a1),(7,I ((↑(List.map zak a0).length:Int))),(8,I x0)],[]⟩
theorem zgd (a0:List Int) (a1 x0:Int) (h:(brn (decide (x0 < (↑(List.map zak a0).length:Int))) (chk ((0:Int)≤x0)<|elemD zaV (List.map zak a0) x0.toNat fun (c1:Int)=>brn (a1 == c1) (some (I x0,[])) (zeG a0 a1 (w64 (x0+1)))) (some (I (-1),[])))=some y):zeG a0 a1 x0=some y:=ptT [] h
theorem zpP (a0:List Int) (a1:Int) (h:(zeG a0 a1 0)=some y):cw zkS [AV.sl 1 (List.map zak a0),I a1] []=some y:=cwT zkN [] h
end Go.Proofs.YtikogkgdkdmljaaGreat
end
