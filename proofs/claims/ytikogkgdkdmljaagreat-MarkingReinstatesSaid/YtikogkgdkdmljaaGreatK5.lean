/- What the functions compute, between two cut points: printed by a program, checked by the kernel. -/
import Derived.Test.YtikogkgdkdmljaaGreatXAnn
import Derived.Test.YtikogkgdkdmljaaGreatK0
import Derived.Test.YtikogkgdkdmljaaGreatK1
import Derived.Test.YtikogkgdkdmljaaGreatK2
import Derived.Test.YtikogkgdkdmljaaGreatK3
import Derived.Test.YtikogkgdkdmljaaGreatK4
set_option linter.unusedSimpArgs false
set_option linter.unusedVariables false
noncomputable section
namespace Go.Proofs.YtikogkgdkdmljaaGreat
open Go.Ab
set_option maxRecDepth 100000
variable {y:AV×Mem}
def zdP (a0:List Int) (x0:Int):=pt zcG 1 ⟨[(0,AV.sl 1 (List.map zak a0)),(1,AV.fn zb7 []),(7,I ((↑(List.map zak a0).length:Int))),(8,I x0)],[]⟩
theorem zfh (a0:List Int) (x0:Int) (h:(brn (decide (x0 < (↑(List.map zak a0).length:Int))) (chk ((0:Int)≤x0)<|elemD zaX (List.map zak a0) x0.toNat fun (c1:Int)=>callD zad (cw zb7 [I c1] []) fun (r2:Bool)=>brn r2 (some (I x0,[])) (zdP a0 (w64 (x0+1)))) (some (I (-1),[])))=some y):zdP a0 x0=some y:=ptT [] h
theorem ziE (a0:List Int) (h:(zdP a0 0)=some y):cw zbY [AV.sl 1 (List.map zak a0),AV.fn zb7 []] []=some y:=cwT zcG [] h
def zdz (a0:List Int) (x0:Int):=pt zcG 1 ⟨[(0,AV.sl 1 (List.map zak a0)),(1,AV.fn zcq []),(7,I ((↑(List.map zak a0).length:Int))),(8,I x0)],[]⟩
theorem zeN (a0:List Int) (x0:Int) (h:(brn (decide (x0 < (↑(List.map zak a0).length:Int))) (chk ((0:Int)≤x0)<|elemD zaX (List.map zak a0) x0.toNat fun (c1:Int)=>callD zad (cw zcq [I c1] []) fun (r2:Bool)=>brn r2 (some (I x0,[])) (zdz a0 (w64 (x0+1)))) (some (I (-1),[])))=some y):zdz a0 x0=some y:=ptT [] h
theorem zmW (a0:List Int) (h:(zdz a0 0)=some y):cw zbY [AV.sl 1 (List.map zak a0),AV.fn zcq []] []=some y:=cwT zcG [] h
def zdA (a0:List Int) (x0:Int):=pt zcG 1 ⟨[(0,AV.sl 1 (List.map zak a0)),(1,AV.fn zb9 []),(7,I ((↑(List.map zak a0).length:Int))),(8,I x0)],[]⟩
theorem zeO (a0:List Int) (x0:Int) (h:(brn (decide (x0 < (↑(List.map zak a0).length:Int))) (chk ((0:Int)≤x0)<|elemD zaX (List.map zak a0) x0.toNat fun (c1:Int)=>callD zad (cw zb9 [I c1] []) fun (r2:Bool)=>brn r2 (some (I x0,[])) (zdA a0 (w64 (x0+1)))) (some (I (-1),[])))=some y):zdA a0 x0=some y:=ptT [] h
theorem zmX (a0:List Int) (h:(zdA a0 0)=some y):cw zbY [AV.sl 1 (List.map zak a0),AV.fn zb9 []] []=some y:=cwT zcG [] h
theorem zv0 (a0:GPart) (h:(brn (decide (a0.Max < 1)) (some (B false,[])) (brn (decide (40 < a0.Max)) (some (B false,[])) (brn (decide (a0.Topic < 0)) (some (B false,[])) (brn (decide (16≤a0.Topic)) (some (B false,[])) (brn (decide (a0.Objective < 0)) (some (B false,[])) (brn (decide (6≤a0.Objective)) (some (B false,[])) (brn (a0.Kind == 1) (brn (a0.Options == 0) (some (B (a0.Key == 0),[])) (some (B false,[]))) (brn (a0.Kind == 2) (brn (decide (2≤a0.Options)) (brn (decide (a0.Options≤5)) (brn (decide (0≤a0.Key)) (some (B (decide (a0.Key < a0.Options)),[])) (some (B false,[]))) (some (B false,[]))) (some (B false,[]))) (some (B false,[]))))))))))=some y):cw zlp [AV.agg (zaP a0)] []=some y:=cwT zvs [] h
def zhw (a0:List GPart) (x0 x1:Int):=pt zpI 1 ⟨[(3,I x0),(6,AV.sl 6 (List.map zaP a0)),(7,I ((↑(List.map zaP a0).length:Int))),(8,I x1)],[]⟩
theorem zob (a0:List GPart) (x0 x1:Int) (h:(brn (decide (x1 < (↑(List.map zaP a0).length:Int))) (chk ((0:Int)≤x1)<|elemD zea (List.map zaP a0) x1.toNat fun (c2:GPart)=>zhw a0 (w64 (x0+c2.Max)) (w64 (x1+1))) (some (I x0,[])))=some y):zhw a0 x0 x1=some y:=ptT [] h
theorem zw4 (a0:List GPart) (h:(zhw a0 0 0)=some y):cw zl9 [AV.sl 6 (List.map zaP a0)] []=some y:=cwT zpI [] h
theorem zoi (a0:List Int) (a1:Int) (h:(callD zaK (cw zk6 [AV.sl 1 (List.map zak a0),I a1] []) fun (r0:Int)=>some (B (decide (0≤r0)),[]))=some y):cw zew [AV.sl 1 (List.map zak a0),I a1] []=some y:=cwT zod [] h
theorem zq8 (a0:Int) (h:(brn (decide (a0 < 0)) (some (B true,[])) (some (B (decide (1152921504606846976 < a0)),[])))=some y):cw zb9 [I a0] []=some y:=cwT zqF [] h
theorem zl5 (a0:Int) (h:(some (B (decide (200 < a0)),[]))=some y):cw zcq [I a0] []=some y:=cwT zru [] h
def zeH (a0:List Int) (a1 x0:Int):=pt zk0 1 ⟨[(0,AV.sl 1 (List.map zak a0)),(1,I a1),(7,I ((↑(List.map zak a0).length:Int))),(8,I x0)],[]⟩
theorem zgl (a0:List Int) (a1 x0:Int) (h:(brn (decide (x0 < (↑(List.map zak a0).length:Int))) (chk ((0:Int)≤x0)<|elemD zaX (List.map zak a0) x0.toNat fun (c1:Int)=>brn (a1 == c1) (some (I x0,[])) (zeH a0 a1 (w64 (x0+1)))) (some (I (-1),[])))=some y):zeH a0 a1 x0=some y:=ptT [] h
theorem zql (a0:List Int) (a1:Int) (h:(zeH a0 a1 0)=some y):cw zk6 [AV.sl 1 (List.map zak a0),I a1] []=some y:=cwT zk0 [] h
end Go.Proofs.YtikogkgdkdmljaaGreat
end
