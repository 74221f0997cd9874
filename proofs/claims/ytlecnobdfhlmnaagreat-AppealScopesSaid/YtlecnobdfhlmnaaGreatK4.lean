/- What the functions compute, between two cut points: printed by a program, checked by the kernel. -/
import Derived.Test.YtlecnobdfhlmnaaGreatXAnn
import Derived.Test.YtlecnobdfhlmnaaGreatK0
import Derived.Test.YtlecnobdfhlmnaaGreatK1
import Derived.Test.YtlecnobdfhlmnaaGreatK2
import Derived.Test.YtlecnobdfhlmnaaGreatK3
set_option linter.unusedSimpArgs false
set_option linter.unusedVariables false
set_option linter.unusedSectionVars false
noncomputable section
namespace Go.Proofs.YtlecnobdfhlmnaaGreat
open Go.Ab
set_option maxRecDepth 100000
variable[Dr]
theorem zEZ{a0:zac}:Qq (callD zag (cw znj [sV a0.Stamp] []) λ(r0:Bool)=>brn (!r0) gX (brn (decide (a0.Script<0)) gX (brn (decide (319999<a0.Script)) gX (brn (a0.Kind==0) (callD zag (cw znJ [sU a0] []) λ(r1:Bool)=>some (B r1,[])) (brn (a0.Kind==1) (brn (a0.Stamp.Source==0) (brn (a0.Script==0) (brn (a0.Part==0) (brn (a0.Value==0) (brn (decide (1<=a0.Marker)) (brn (decide (a0.Marker<=99)) (some (B ((↑(List.map zai a0.Pages).length:Int)==0),[])) gX) gX) gX) gX) gX) gX) (brn (a0.Kind==2) (brn (a0.Stamp.Source==0) (brn (a0.Value==0) (brn (a0.Marker==0) (brn (decide (-1<=a0.Part)) (brn (decide (a0.Part<24)) (some (B ((↑(List.map zai a0.Pages).length:Int)==0),[])) gX) gX) gX) gX) gX) gX)))))) (cw znS [sU a0] []):=cwT zD5 []
theorem zsV{a0:zac}:Qq (some (AV.agg (zbT (a0.Stamp.Source,a0.Stamp.Seq)),[])) (cw zon [sU a0] []):=cwT zzL []
theorem zGf{a0 a1:zac}:Qq (brn (a0.Stamp.Time==a1.Stamp.Time&&(a0.Stamp.Source==a1.Stamp.Source&&(a0.Stamp.Seq==a1.Stamp.Seq&&true))) (brn (a0.Kind==a1.Kind) (brn (a0.Script==a1.Script) (brn (a0.Part==a1.Part) (brn (a0.Value==a1.Value) (brn (a0.Marker==a1.Marker) (callD zag (cw zi1 [AV.sl 1 (List.map zai a0.Pages),AV.sl 1 (List.map zai a1.Pages)] []) λ(r0:Bool)=>some (B r0,[])) gX) gX) gX) gX) gX) gX) (cw zoV [sU a0,sU a1] []):=cwT zFJ []
section
variable{a0:List Int}
theorem zrO:Qq (callD zaR (cw zdE [AV.sl 1 (List.map zai a0),AV.fn zdR []] []) λ(r0:Int)=>some (B (decide (0<=r0)),[])) (cw zdb [AV.sl 1 (List.map zai a0),AV.fn zdR []] []):=cwT zis []
theorem zqQ:Qq (callD zaR (cw zdE [AV.sl 1 (List.map zai a0),AV.fn zeD []] []) λ(r0:Int)=>some (B (decide (0<=r0)),[])) (cw zdb [AV.sl 1 (List.map zai a0),AV.fn zeD []] []):=cwT zis []
theorem zqR:Qq (callD zaR (cw zdE [AV.sl 1 (List.map zai a0),AV.fn zd5 []] []) λ(r0:Int)=>some (B (decide (0<=r0)),[])) (cw zdb [AV.sl 1 (List.map zai a0),AV.fn zd5 []] []):=cwT zis []
end
theorem zwr{a0:Int}:Qq (callD zag (cw zmF [I a0] []) λ(r0:Bool)=>some (B (!r0),[])) (cw zdR [I a0] []):=cwT zv8 []
def zks(a0:zaM)(x0:Int):=pt ztI 1 ⟨[(1,gQ 1 3),(34,sL a0.Parts),(35,I ((↑(mB a0.Parts).length:Int))),(36,I x0)],[(1,pO a0)]⟩
theorem znL{a0:zaM}{x0:Int}:Qq (brn (decide (x0<(↑(mB a0.Parts).length:Int))) (chk ((0:Int)<=x0)<|elemD zd9 (mB a0.Parts) x0.toNat λ(c1:GPart)=>callD zag (cw zp9 [pE c1] []) λ(r2:Bool)=>brn (!r2) gX (zks a0 (w64 (x0+1)))) (callD zaR (cw zrc [sL a0.Parts] []) λ(r3:Int)=>some (B (decide (r3<=200)),[]))) (zks a0 x0):=ptT []
theorem zBW{a0:zaM}:Qq (brn (decide (a0.Code<0)) gX (brn (decide (31<a0.Code)) gX (brn (decide (a0.Variant<0)) gX (brn (decide (4<=a0.Variant)) gX (brn (decide ((↑(mB a0.Parts).length:Int)<1)) gX (brn (decide (24<(↑(mB a0.Parts).length:Int))) gX (zks a0 0))))))) (cw zpm [sT a0] []):=cwT ztI []
section
variable(a0:GPart)(a1:List Int)(x0:Int)
def zib:=pt zsR 1 ⟨[(1,AV.sl 1 (List.map zai a1)),(2,gQ 2 6),(13,AV.sl 1 (List.map zai a1)),(14,I ((↑(List.map zai a1).length:Int))),(15,I x0)],[(2,⟨6,zwN,[za0 a0],true⟩)]⟩
variable{a0 a1 x0}
theorem zm9:Qq (brn (decide (x0<(↑(List.map zai a1).length:Int))) (chk ((0:Int)<=x0)<|elemD zbi (List.map zai a1) x0.toNat λ(c1:Int)=>brn (decide (c1<0)) gX (brn (decide (a0.Options<=c1)) gX (brn (decide (0<x0)) (chk ((0:Int)<=(w64 (x0-1)))<|elemD zbi (List.map zai a1) ((w64 (x0-1)).toNat) λ(c2:Int)=>brn (decide (c1<=c2)) gX (zib a0 a1 (w64 (x0+1)))) (zib a0 a1 (w64 (x0+1)))))) gZ) (zib a0 a1 x0):=ptT []
theorem zAM:Qq (brn (a0.Kind==1) (some (B ((↑(List.map zai a1).length:Int)==0),[])) (zib a0 a1 0)) (cw zos [pE a0,AV.sl 1 (List.map zai a1)] []):=cwT zsR []
end
theorem zE7{a0:Int}:Qq (brn (a0==0) gZ (brn (a0==1) gZ (brn (a0==2) gZ gX))) (cw zrp [I a0] []):=cwT zEb []
theorem zDB{a0:GPart}{a1:List Int}{a2:Int}:Qq (brn ((↑(List.map zai a1).length:Int)==0) (some (B (a2==a0.Key),[])) (callD zag (cw zhR [AV.sl 1 (List.map zai a1),I a2] []) λ(r0:Bool)=>some (B r0,[]))) (cw zqg [pE a0,AV.sl 1 (List.map zai a1),I a2] []):=cwT zCX []
def zjU(a0:zan)(a1 x0:Int):=pt zsN 1 ⟨[(1,I a1),(4,gQ 4 7),(9,sH a0.Scripts),(10,I ((↑(mI a0.Scripts).length:Int))),(11,I x0)],[(4,⟨7,zc6,[[I 0,I 0,I 0,I 0,I 0,bH,bH]],true⟩)]⟩
theorem zm7{a0:zan}{a1 x0:Int}:Qq (brn (decide (x0<(↑(mI a0.Scripts).length:Int))) (chk ((0:Int)<=x0)<|elemD zc0 (mI a0.Scripts) x0.toNat λ(c1:zaT)=>brn (c1.Number==a1) (some (AV.tup [sX c1,B true],[])) (zjU a0 a1 (w64 (x0+1)))) (some (AV.tup [sX (⟨0,0,0,0,0,[],[]⟩),B false],[]))) (zjU a0 a1 x0):=ptT []
theorem zAE{a0:zan}{a1:Int}:Qq (zjU a0 a1 0) (cw zjd [sS a0,I a1] []):=cwT zsN []
theorem zBY{a0:List za3}{a1:Int}{a2:zaT}:Qq (callD zif (cw ztv [sE a0,I a1] []) λ(r0:za3×Bool)=>brn r0.2 (callD zag (cw zqd [pG r0.1,sX a2] []) λ(r1:Bool)=>some (B r1,[])) gX) (cw zpo [sE a0,I a1,sX a2] []):=cwT zBv []
theorem zAK{a0:zaM}{a1:zbu}{a2 a3:Int}:Qq (callD zag (cw ziP [sT a0,sY a1] []) λ(r0:Bool)=>brn r0 (brn (decide (0<=a2)) (brn (decide (a2<(↑(mB a0.Parts).length:Int))) (chk ((0:Int)<=a2)<|elemD zd9 (mB a0.Parts) a2.toNat λ(c1:GPart)=>callD zag (cw zkX [pE c1,I a3] []) λ(r2:Bool)=>some (B r2,[])) gX) gX) gX) (cw zor [sT a0,sY a1,I a2,I a3] []):=cwT zzT []
section
variable(a0 a1:List Int)(x0:Int)
def zic:=pt zpx 1 ⟨[(0,AV.sl 1 (List.map zai a0)),(1,AV.sl 1 (List.map zai a1)),(12,I ((↑(List.map zai a0).length:Int))),(13,I x0)],[]⟩
variable{a0 a1 x0}
theorem zkn:Qq (brn (decide (x0<(↑(List.map zai a0).length:Int))) (chk ((0:Int)<=x0)<|elemD zbi (List.map zai a0) x0.toNat λ(c1:Int)=>chk ((0:Int)<=x0)<|elemD zbi (List.map zai a1) x0.toNat λ(c2:Int)=>brn (c1 !=c2) gX (zic a0 a1 (w64 (x0+1)))) gZ) (zic a0 a1 x0):=ptT []
theorem zwv:Qq (brn ((↑(List.map zai a0).length:Int) !=(↑(List.map zai a1).length:Int)) gX (zic a0 a1 0)) (cw zi1 [AV.sl 1 (List.map zai a0),AV.sl 1 (List.map zai a1)] []):=cwT zpx []
end
section
variable(a0:zbv)(a1 a2:List Int)(x3 x4 x5:Int)
def zmN:=pt zwU 1 ⟨[(1,AV.sl 1 (List.map zai a1)),(2,AV.sl 1 (List.map zai a2)),(3,gQ 3 4),(7,I x3),(8,I x4),(31,I ((↑(List.map zai a2).length:Int))),(32,I x5)],[(3,pZ a0)]⟩
variable{a0 a1 a2 x3 x4 x5}
theorem zvk:Qq (brn (decide (x5<(↑(List.map zai a2).length:Int))) (chk ((0:Int)<=x5)<|elemD zbi (List.map zai a1) x5.toNat λ(c6:Int)=>chk ((0:Int)<=x5)<|elemD zbi (List.map zai a2) x5.toNat λ(c7:Int)=>callD zaR (cw zkT [I (if 0 > c6 then 0 else c6),I (if 0 > c7 then 0 else c7)] []) λ(r8:Int)=>brn (decide (a0.Part<r8)) gX (zmN a0 a1 a2 (w64 (x3+if 0 > c6 then 0 else c6)) (w64 (x4+if 0 > c7 then 0 else c7)) (w64 (x5+1)))) (callD zaR (cw zkT [I x3,I x4] []) λ(r9:Int)=>some (B (decide (r9<=a0.Total)),[]))) (zmN a0 a1 a2 x3 x4 x5):=ptT []
theorem zGg:Qq (callD zaR (cw zkS [sZ a0] []) λ(r0:Int)=>brn (r0 !=0) gX (brn ((↑(List.map zai a1).length:Int) !=(↑(List.map zai a2).length:Int)) gX (callD zag (cw zkU [AV.sl 1 (List.map zai a1)] []) λ(r1:Bool)=>brn r1 gX (callD zag (cw zkU [AV.sl 1 (List.map zai a2)] []) λ(r2:Bool)=>brn r2 gX (zmN a0 a1 a2 0 0 0))))) (cw zsi [sZ a0,AV.sl 1 (List.map zai a1),AV.sl 1 (List.map zai a2)] []):=cwT zwU []
end
def zmO(a0:zbv)(a1:zbZ)(a2:Bool)(r1:(List Bool))(x2 x3:Nat):=pt zwV 1 ⟨[(3,gQ 3 4),(6,gQ 6 2),(8,AV.row 8 1 x2 x3)],[(3,pZ a0),(6,⟨2,zdl,[[bH,B false]],true⟩),(8,⟨1,zdq,(List.map nBool r1)++([nBool a2]),false⟩)]⟩
theorem zvl{a0:zbv}{a1:zbZ}{a2:Bool}{r1:(List Bool)}{x2 x3:Nat}:Qq (brn (decide (a0.Window<(↑x3:Int))) (chk ((0:Int)<=1)<|chk (Int.toNat 1<=x3)<|chk (x3<=x3)<|zmO a0 a1 a2 r1 (x2+Int.toNat 1) (x3-Int.toNat 1)) (chk (x2+x3<=(List.map nBool r1++[[B a2]]).length)<|callD zag (cw zlO [sZ a0,AV.sl 1 (List.take x3 (List.drop x2 ((List.map nBool r1)++([nBool a2]))))] []) λ(r4:Bool)=>chk (x2+x3<=(List.map nBool r1++[[B a2]]).length)<|some (AV.tup [AV.agg [AV.sl 1 (List.take x3 (List.drop x2 ((List.map nBool r1)++([[B a2]])))),B r4],I 0],[]))) (zmO a0 a1 a2 r1 x2 x3):=ptT []
theorem zGh{a0:zbv}{a1:zbZ}{a2:Bool}:Qq (callD zag (cw zrh [sZ a0,pF a1] []) λ(r0:Bool)=>brn (!r0) (some (AV.tup [pF (⟨[],false⟩),I 1],[])) (brn a1.Suspended (some (AV.tup [pF (⟨[],false⟩),I 8],[])) (callD zig (cw zc1 [AV.sl 1 (List.map nBool a1.Last)] []) λ(r1:(List Bool))=>chk ((List.map nBool r1).length=(List.map nBool r1).length)<|chk (((List.map nBool r1).length+1)*(1+1)<=1099511627776)<|chk ((List.map nBool r1++[[B a2]]).length=(List.map nBool r1++[[B a2]]).length)<|zmO a0 a1 a2 r1 0 ((List.map nBool r1++[[B a2]]).length)))) (cw zsj [sZ a0,pF a1,B a2] []):=cwT zwV []
section
variable(a0:zay)(x0:zbS)(x1 x2:LL)(x3 a1:Int)(a2:za6)
def zmo:=pt zg9 1004 ⟨[(0,gQ 1000 14),(6,gQ 6 12)],[(6,⟨12,zaD,[zat (⟨a1,⟨a0.started.Time,a0.started.Source,a0.started.Seq⟩,⟨a2.Time,a2.Source,a2.Seq⟩,⟨0,0,0⟩,true,false⟩)],true⟩),(900,gG (mG a0.marks)),(901,gH (mL a0.noted)),(902,gA (mC a0.suspensions)),(1000,⟨14,zb0,[[I a0.level,gR 900 10 (mG a0.marks),I a0.period,I a0.started.Time,I a0.started.Source,I a0.started.Seq,AV.map 901,AV.sl 1 (List.map nBool a0.watch.Last),B a0.watch.Suspended,I a0.good.Time,I a0.good.Source,I a0.good.Seq,B a0.some,gR 902 12 (mC a0.suspensions)]],true⟩)]⟩
def zlI:=pt zg9 1004 ⟨[(0,gQ 1000 14),(6,gQ 6 12),(19,B false)],[(6,⟨12,zaD,[zat (⟨a1,⟨a0.good.Time,a0.good.Source,a0.good.Seq⟩,⟨a2.Time,a2.Source,a2.Seq⟩,⟨0,0,0⟩,false,false⟩)],true⟩),(900,gG (mG a0.marks)),(901,gH (mL a0.noted)),(902,gA (mC a0.suspensions)),(1000,⟨14,zb0,[[I a0.level,gR 900 10 (mG a0.marks),I a0.period,I a0.started.Time,I a0.started.Source,I a0.started.Seq,AV.map 901,AV.sl 1 (List.map nBool a0.watch.Last),B a0.watch.Suspended,I a0.good.Time,I a0.good.Source,I a0.good.Seq,B a0.some,gR 902 12 (mC a0.suspensions)]],true⟩)]⟩
def zeW:=pt zg9 1 ⟨[(0,gQ 1000 14),(6,gQ 6 12),(7,I x3)],[(6,⟨12,zaD,[zat x0],true⟩),(900,gG x1),(901,gH (mL a0.noted)),(902,gA x2),(1000,⟨14,zb0,[[I a0.level,AV.row 900 10 0 ((mG a0.marks).length),I a0.period,I a0.started.Time,I a0.started.Source,I a0.started.Seq,AV.map 901,AV.sl 1 (List.map nBool a0.watch.Last),B a0.watch.Suspended,I a0.good.Time,I a0.good.Source,I a0.good.Seq,B a0.some,AV.row 902 12 0 x2.length]],true⟩)]⟩
def zg6:=pt zg9 1009 ⟨[(0,gQ 1000 14),(6,gQ 6 12),(7,I x3),(65,B true)],[(6,⟨12,zaD,[zat x0],true⟩),(900,gG x1),(901,gH (mL a0.noted)),(902,gA x2),(1000,⟨14,zb0,[[I a0.level,AV.row 900 10 0 ((mG a0.marks).length),I a0.period,I a0.started.Time,I a0.started.Source,I a0.started.Seq,AV.map 901,AV.sl 1 (List.map nBool a0.watch.Last),B a0.watch.Suspended,I a0.good.Time,I a0.good.Source,I a0.good.Seq,B a0.some,AV.row 902 12 0 x2.length]],true⟩)]⟩
variable{a0 x0 x1 x2 x3 a1 a2}
theorem zte:Qq (chk ((mC a0.suspensions).length=(mC a0.suspensions).length)<|chk (((mC a0.suspensions).length+1)*(88+1)<=1099511627776)<|zeW a0 (⟨a1,⟨a0.started.Time,a0.started.Source,a0.started.Seq⟩,⟨a2.Time,a2.Source,a2.Seq⟩,⟨0,0,0⟩,true,false⟩) (mG a0.marks) ((mC a0.suspensions)++([zat (⟨a1,⟨a0.started.Time,a0.started.Source,a0.started.Seq⟩,⟨a2.Time,a2.Source,a2.Seq⟩,⟨0,0,0⟩,true,false⟩)])) a0.period) (zmo a0 a1 a2):=ptT [9,4]
theorem zrQ:Qq (chk ((mC a0.suspensions).length=(mC a0.suspensions).length)<|chk (((mC a0.suspensions).length+1)*(88+1)<=1099511627776)<|zeW a0 (⟨a1,⟨a0.good.Time,a0.good.Source,a0.good.Seq⟩,⟨a2.Time,a2.Source,a2.Seq⟩,⟨0,0,0⟩,false,false⟩) (mG a0.marks) ((mC a0.suspensions)++([zat (⟨a1,⟨a0.good.Time,a0.good.Source,a0.good.Seq⟩,⟨a2.Time,a2.Source,a2.Seq⟩,⟨0,0,0⟩,false,false⟩)])) a0.period) (zlI a0 a1 a2):=ptT [9,4]
theorem zoJ:Qq (brn (decide (x3<(↑(mG a0.marks).length:Int))) (brn x0.First (zg6 a0 x0 x1 x2 x3) (chk ((0:Int)<=x3)<|chk ((x3:Int)<(mG a0.marks).length)<|elemD zff x1 (0+x3.toNat) λ(c4:zb5)=>callD zaR (cw zh5 [sV c4.event.Stamp,sV x0.Good] []) λ(r5:Int)=>brn (decide (0<r5)) (zg6 a0 x0 x1 x2 x3) (zeW a0 x0 x1 x2 (w64 (x3+1))))) (some (AV.tup [],[(1000,⟨14,zb0,[[I a0.level,AV.row 900 10 0 ((mG a0.marks).length),I a0.period,I a0.started.Time,I a0.started.Source,I a0.started.Seq,AV.map 901,AV.sl 1 (List.map nBool a0.watch.Last),B a0.watch.Suspended,I a0.good.Time,I a0.good.Source,I a0.good.Seq,B a0.some,AV.row 902 12 0 x2.length]],true⟩),(900,gG x1),(901,gH (mL a0.noted)),(902,gA x2)]))) (zeW a0 x0 x1 x2 x3):=ptT [9,4]
theorem ztf:Qq (chk ((0:Int)<=x3)<|chk ((x3:Int)<(mG a0.marks).length)<|elemD zff x1 (0+x3.toNat) λ(c6:zb5)=>zeW a0 x0 (List.set x1 (0+x3.toNat) (zaH (⟨⟨⟨c6.event.Stamp.Time,c6.event.Stamp.Source,c6.event.Stamp.Seq⟩,c6.event.Kind,c6.event.Script,c6.event.Part,c6.event.Value,c6.event.Marker,c6.event.Pages⟩,true⟩))) x2 (w64 (x3+1))) (zg6 a0 x0 x1 x2 x3):=ptT [9,4]
theorem zwt:Qq (brn (!a0.some) (zmo a0 a1 a2) (zlI a0 a1 a2)) (cw zi0 [gQ 1000 14,I a1,sV a2] [(1000,⟨14,zb0,[[I a0.level,AV.row 900 10 0 ((mG a0.marks).length),I a0.period,I a0.started.Time,I a0.started.Source,I a0.started.Seq,AV.map 901,AV.sl 1 (List.map nBool a0.watch.Last),B a0.watch.Suspended,I a0.good.Time,I a0.good.Source,I a0.good.Seq,B a0.some,AV.row 902 12 0 ((mC a0.suspensions).length)]],true⟩),(900,gG (mG a0.marks)),(901,gH (mL a0.noted)),(902,gA (mC a0.suspensions))]):=cwT zg9 [9,4]
end
theorem zzx{a0:zbG}{a1:zan}:Qq (callD zaR (cw zh2 [sS a1] []) λ(r0:Int)=>brn (r0==0) (callD zaR (cw zkq [pA a0] []) λ(r1:Int)=>some (B (r1==0),[])) gX) (cw znE [pA a0,sS a1] []):=cwT zzf []
section
variable(a0:zbG)(a1:zan)(a2:za9)(a3:zaT)(c1:zaM)(c2:zbu)(r3:(List Int)×Int)(r4:(List Int)×Bool)(x5:LL)(x6:Int)
def zfI:=pt zlq 1 ⟨[(4,gQ 4 2),(6,gQ 6 2),(7,gQ 7 7),(12,gQ 12 2),(13,AV.sl 1 (List.map zai r3.1)),(15,AV.sl 1 (List.map zai r4.1)),(16,B r4.2),(17,AV.row 55 2 0 ((gV (mB c1.Parts)).length)),(57,sL c1.Parts),(58,I ((↑(mB c1.Parts).length:Int))),(59,I x6)],[(4,pW a0),(6,pR a2),(7,pU a3),(12,pS c2),(55,⟨2,zhP,x5,false⟩)]⟩
def zg5:=pt zlq 1011 ⟨[(4,gQ 4 2),(6,gQ 6 2),(7,gQ 7 7),(12,gQ 12 2),(13,AV.sl 1 (List.map zai r3.1)),(15,AV.sl 1 (List.map zai r4.1)),(16,B r4.2),(17,AV.row 55 2 0 ((gV (mB c1.Parts)).length)),(18,I x6),(57,sL c1.Parts),(58,I ((↑(mB c1.Parts).length:Int))),(59,I x6),(74,B true)],[(4,pW a0),(6,pR a2),(7,pU a3),(12,pS c2),(55,⟨2,zhP,x5,false⟩)]⟩
variable{a0 a1 a2 a3 c1 c2 r3 r4 x5 x6}
theorem zoH:Qq (brn (decide (x6<(↑(mB c1.Parts).length:Int))) (chk ((0:Int)<=x6)<|elemD zd9 (mB c1.Parts) x6.toNat λ(c7:GPart)=>brn (c7.Kind==2) (zg5 a0 a2 a3 c1 c2 r3 r4 x5 x6) (chk ((0:Int)<=x6)<|elemD zbi (List.map zai c2.Withdrawn) x6.toNat λ(c8:Int)=>brn (c8 !=0) (zg5 a0 a2 a3 c1 c2 r3 r4 x5 x6) (brn r4.2 (chk ((0:Int)<=x6)<|elemD zbi (List.map zai r4.1) x6.toNat λ(c9:Int)=>chk ((0:Int)<=x6)<|chk ((x6:Int)<(gV (mB c1.Parts)).length)<|elemD zeF x5 (0+x6.toNat) λ(c10:zc8)=>zfI a0 a2 a3 c1 c2 r3 r4 (List.set x5 (0+x6.toNat) (zdj (⟨3,c9⟩))) (w64 (x6+1))) (callD zlG (cw zkR [sW a2,I a3.Number,I x6] []) λ(r11:(List za5))=>chk (0+(mF r11).length<=(mF r11).length)<|callD zmi (cw zmD [pA a0,AV.sl 8 (List.take ((mF r11).length) (mF r11))] []) λ(r12:zc8)=>chk ((0:Int)<=x6)<|chk ((x6:Int)<(gV (mB c1.Parts)).length)<|elemD zeF x5 (0+x6.toNat) λ(c13:zc8)=>zfI a0 a2 a3 c1 c2 r3 r4 (List.set x5 (0+x6.toNat) (zdj r12)) (w64 (x6+1)))))) (chk ((gV (mB c1.Parts)).length=x5.length)<|some (AV.new 2 zhP x5,[]))) (zfI a0 a2 a3 c1 c2 r3 r4 x5 x6):=ptT [11]
theorem zs9:Qq (chk ((0:Int)<=x6)<|elemD zbi (List.map zai r3.1) x6.toNat λ(c14:Int)=>chk ((0:Int)<=x6)<|chk ((x6:Int)<(gV (mB c1.Parts)).length)<|elemD zeF x5 (0+x6.toNat) λ(c15:zc8)=>zfI a0 a2 a3 c1 c2 r3 r4 (List.set x5 (0+x6.toNat) (zdj (⟨3,if 0 > c14 then 0 else c14⟩))) (w64 (x6+1))) (zg5 a0 a2 a3 c1 c2 r3 r4 x5 x6):=ptT [11]
theorem zwp:Qq (callD zd1 (cw zjJ [sS a1,I a3.Number] []) λ(r0:Int×Bool)=>chk (0<=r0.1)<|elemD zcV (mJ a1.Papers) (Int.toNat r0.1) λ(c1:zaM)=>chk (0<=r0.1)<|elemD zeU (mU a1.Schemes) (Int.toNat r0.1) λ(c2:zbu)=>callD zeh (cw zkW [sT c1,sY c2,AV.sl 1 (List.map zai a3.Answers)] []) λ(r3:(List Int)×Int)=>callD zfT (cw zkd [sS a1,I a3.Number] []) λ(r4:(List Int)×Bool)=>chk (((↑(mB c1.Parts).length:Int):Int)=((↑(mB c1.Parts).length:Int)))<|chk ((0:Int)<=((↑(mB c1.Parts).length:Int)))<|chk ((↑(mB c1.Parts).length:Int).toNat*(16+1)<=1099511627776)<|zfI a0 a2 a3 c1 c2 r3 r4 (List.replicate ((↑(mB c1.Parts).length:Int).toNat) (zdj (⟨0,0⟩))) 0) (cw zlv [pA a0,sS a1,sW a2,sX a3] []):=cwT zlq [11]
end
section
variable(a0:zaM)(a1:zbu)(a2:List Int)(x1:Int)
def zjO:=pt zvA 1 ⟨[(2,AV.sl 1 (List.map zai a2)),(4,gQ 4 2),(22,sL a0.Parts),(23,I ((↑(mB a0.Parts).length:Int))),(24,I x1)],[(4,pS a1)]⟩
variable{a0 a1 a2 x1}
theorem zpt:Qq (brn (decide (x1<(↑(mB a0.Parts).length:Int))) (chk ((0:Int)<=x1)<|elemD zd9 (mB a0.Parts) x1.toNat λ(c2:GPart)=>chk ((0:Int)<=x1)<|elemD zbi (List.map zai a1.Withdrawn) x1.toNat λ(c3:Int)=>brn (c3==0) (chk ((0:Int)<=x1)<|elemD zbi (List.map zai a2) x1.toNat λ(c4:Int)=>callD zag (cw zkX [pE c2,I c4] []) λ(r5:Bool)=>brn (!r5) gX (zjO a0 a1 a2 (w64 (x1+1)))) (zjO a0 a1 a2 (w64 (x1+1)))) gZ) (zjO a0 a1 a2 x1):=ptT []
theorem zE6:Qq (callD zag (cw ziP [sT a0,sY a1] []) λ(r0:Bool)=>brn (!r0) gX (brn ((↑(List.map zai a2).length:Int) !=(↑(mB a0.Parts).length:Int)) gX (zjO a0 a1 a2 0))) (cw zro [sT a0,sY a1,AV.sl 1 (List.map zai a2)] []):=cwT zvA []
end
section
variable(a0:zaM)(a1:zbu)(a2:List Int)(x0 x1:Int)
def zo5:=pt zzV 1 ⟨[(1,AV.fn zhB [AV.fp [sR a1.Keys,AV.sl 1 (List.map zai a1.Withdrawn)],AV.fp [AV.sl 1 (List.map zai a2)]]),(5,I x0),(9,sL a0.Parts),(10,I ((↑(mB a0.Parts).length:Int))),(11,I x1)],[]⟩
variable{a0 a1 a2 x0 x1}
theorem zxK:Qq (brn (decide (x1<(↑(mB a0.Parts).length:Int))) (chk ((0:Int)<=x1)<|elemD zd9 (mB a0.Parts) x1.toNat λ(c2:GPart)=>callD zaR (cw zhB [I x1,pE c2,AV.fp [sR a1.Keys,AV.sl 1 (List.map zai a1.Withdrawn)],AV.fp [AV.sl 1 (List.map zai a2)]] []) λ(r3:Int)=>zo5 a0 a1 a2 (w64 (x0+r3)) (w64 (x1+1))) (some (I x0,[]))) (zo5 a0 a1 a2 x0 x1):=ptT []
theorem zJg:Qq (zo5 a0 a1 a2 0 0) (cw zu3 [sT a0,AV.fn zhB [AV.fp [sR a1.Keys,AV.sl 1 (List.map zai a1.Withdrawn)],AV.fp [AV.sl 1 (List.map zai a2)]]] []):=cwT zzV []
end
theorem zDA{a0:Int}{a1:GPart}{a2:zbu}{a3:List Int}:Qq (chk ((0:Int)<=a0)<|elemD zbi (List.map zai a2.Withdrawn) a0.toNat λ(c0:Int)=>brn (c0==1) (some (I a1.Max,[])) (brn (c0==2) bF (chk ((0:Int)<=a0)<|elemD zbi (List.map zai a3) a0.toNat λ(c1:Int)=>some (I (if 0 > c1 then 0 else c1),[])))) (cw zhB [I a0,pE a1,AV.fp [sR a2.Keys,AV.sl 1 (List.map zai a2.Withdrawn)],AV.fp [AV.sl 1 (List.map zai a3)]] []):=cwT zCW []
theorem zB3{a0:GPart}:Qq (brn (decide (a0.Max<1)) gX (brn (decide (40<a0.Max)) gX (brn (decide (a0.Topic<0)) gX (brn (decide (16<=a0.Topic)) gX (brn (decide (a0.Objective<0)) gX (brn (decide (6<=a0.Objective)) gX (brn (a0.Kind==1) (brn (a0.Options==0) (some (B (a0.Key==0),[])) gX) (brn (a0.Kind==2) (brn (decide (2<=a0.Options)) (brn (decide (a0.Options<=5)) (brn (decide (0<=a0.Key)) (some (B (decide (a0.Key<a0.Options)),[])) gX) gX) gX) gX)))))))) (cw zpp [pE a0] []):=cwT zBy []
section
variable(a0:List Int)(a1 x0:Int)
def zpZ:=pt zCc 1 ⟨[(0,AV.sl 1 (List.map zai a0)),(1,I a1),(5,I x0)],[]⟩
variable{a0 a1 x0}
theorem ztG:Qq (brn (decide (x0<(↑(List.map zai a0).length:Int))) (chk ((0:Int)<=x0)<|elemD zbi (List.map zai a0) x0.toNat λ(c1:Int)=>brn (c1==a1) gZ (zpZ a0 a1 (w64 (x0+1)))) gX) (zpZ a0 a1 x0):=ptT []
theorem zJW:Qq (zpZ a0 a1 0) (cw zwy [AV.sl 1 (List.map zai a0),I a1] []):=cwT zCc []
end
theorem e_ref28_in{a0 a1 a2:Int}:Qq (brn (decide (a1<=a0)) (some (B (decide (a0<=a2)),[])) gX) (cw zkV [I a0,I a1,I a2] []):=cwT R_ref28_in []
section
variable(a0:zbv)(a1 a2:List Int)(x1 x2:Int)
def zo4:=pt zzR 1 ⟨[(1,AV.sl 1 (List.map zai a1)),(2,AV.sl 1 (List.map zai a2)),(3,gQ 3 4),(7,I x1),(8,I x2)],[(3,pZ a0)]⟩
variable{a0 a1 a2 x1 x2}
theorem zxH:Qq (brn (decide (x2<(↑(List.map zai a1).length:Int))) (chk ((0:Int)<=x2)<|elemD zbi (List.map zai a1) x2.toNat λ(c3:Int)=>brn (decide (200<c3)) gX (chk ((0:Int)<=x2)<|elemD zbi (List.map zai a2) x2.toNat λ(c4:Int)=>brn (decide (200<c4)) gX (chk ((0:Int)<=x2)<|elemD zbi (List.map zai a1) x2.toNat λ(c5:Int)=>chk ((0:Int)<=x2)<|elemD zbi (List.map zai a2) x2.toNat λ(c6:Int)=>callD zaR (cw zrj [I (w64 ((if 0 > c5 then 0 else c5)-if 0 > c6 then 0 else c6))] []) λ(r7:Int)=>brn (decide (a0.Part<r7)) gX (zo4 a0 a1 a2 (w64 (x1+w64 ((if 0 > c5 then 0 else c5)-if 0 > c6 then 0 else c6))) (w64 (x2+1)))))) (callD zaR (cw zrj [I x1] []) λ(r8:Int)=>some (B (decide (r8<=a0.Total)),[]))) (zo4 a0 a1 a2 x1 x2):=ptT []
theorem zI7:Qq (callD zaR (cw znh [sZ a0] []) λ(r0:Int)=>brn (r0 !=0) gX (brn ((↑(List.map zai a1).length:Int) !=(↑(List.map zai a2).length:Int)) gX (brn (decide (24<(↑(List.map zai a1).length:Int))) gX (zo4 a0 a1 a2 0 0)))) (cw zuZ [sZ a0,AV.sl 1 (List.map zai a1),AV.sl 1 (List.map zai a2)] []):=cwT zzR []
end
theorem zHR{a0:zbv}{a1:zbZ}:Qq (callD zaR (cw znh [sZ a0] []) λ(r0:Int)=>brn (r0==0) (brn (decide ((↑(List.map nBool a1.Last).length:Int)<=a0.Window)) (callD zaR (cw zni [AV.sl 1 (List.map nBool a1.Last)] []) λ(r1:Int)=>some (B (a1.Suspended==decide (a0.Fails<=r1)),[])) gX) gX) (cw zty [sZ a0,pF a1] []):=cwT zHe []
def zk9(a0:List Bool)(x0 x1:Int):=pt zy1 1 ⟨[(0,AV.sl 1 (List.map nBool a0)),(3,I x0),(4,I x1)],[]⟩
theorem zvY{a0:List Bool}{x0 x1:Int}:Qq (brn (decide (x1<(↑(List.map nBool a0).length:Int))) (chk ((0:Int)<=x1)<|elemD dBool (List.map nBool a0) x1.toNat λ(c2:Bool)=>brn (!c2) (zk9 a0 (w64 (x0+1)) (w64 (x1+1))) (zk9 a0 x0 (w64 (x1+1)))) (some (I x0,[]))) (zk9 a0 x0 x1):=ptT []
theorem zHS{a0:List Bool}:Qq (zk9 a0 0 0) (cw zni [AV.sl 1 (List.map nBool a0)] []):=cwT zy1 []
theorem zzE{a0:zac}:Qq (brn (decide (a0.Stamp.Source<1)) gX (brn (decide (a0.Part<0)) gX (brn (decide (24<=a0.Part)) gX (brn (decide (a0.Value < -1)) gX (brn (decide (40<a0.Value)) gX (brn (a0.Marker !=0) gX (brn (decide (12<(↑(List.map zai a0.Pages).length:Int))) gX (callD zag (cw zdb [AV.sl 1 (List.map zai a0.Pages),AV.fn zd5 []] []) λ(r0:Bool)=>some (B (!r0),[]))))))))) (cw znJ [sU a0] []):=cwT zzi []
def zgQ(a0:List Int)(x0:Int):=pt zfb 1 ⟨[(0,AV.sl 1 (List.map zai a0)),(1,AV.fn zdR []),(7,I ((↑(List.map zai a0).length:Int))),(8,I x0)],[]⟩
theorem ziV{a0:List Int}{x0:Int}:Qq (brn (decide (x0<(↑(List.map zai a0).length:Int))) (chk ((0:Int)<=x0)<|elemD zbi (List.map zai a0) x0.toNat λ(c1:Int)=>callD zag (cw zdR [I c1] []) λ(r2:Bool)=>brn r2 (some (I x0,[])) (zgQ a0 (w64 (x0+1)))) (some (I (-1),[]))) (zgQ a0 x0):=ptT []
theorem znf{a0:List Int}:Qq (zgQ a0 0) (cw zdE [AV.sl 1 (List.map zai a0),AV.fn zdR []] []):=cwT zfb []
def zgr(a0:List Int)(x0:Int):=pt zfb 1 ⟨[(0,AV.sl 1 (List.map zai a0)),(1,AV.fn zeD []),(7,I ((↑(List.map zai a0).length:Int))),(8,I x0)],[]⟩
theorem zih{a0:List Int}{x0:Int}:Qq (brn (decide (x0<(↑(List.map zai a0).length:Int))) (chk ((0:Int)<=x0)<|elemD zbi (List.map zai a0) x0.toNat λ(c1:Int)=>callD zag (cw zeD [I c1] []) λ(r2:Bool)=>brn r2 (some (I x0,[])) (zgr a0 (w64 (x0+1)))) (some (I (-1),[]))) (zgr a0 x0):=ptT []
theorem zse{a0:List Int}:Qq (zgr a0 0) (cw zdE [AV.sl 1 (List.map zai a0),AV.fn zeD []] []):=cwT zfb []
def zgs(a0:List Int)(x0:Int):=pt zfb 1 ⟨[(0,AV.sl 1 (List.map zai a0)),(1,AV.fn zd5 []),(7,I ((↑(List.map zai a0).length:Int))),(8,I x0)],[]⟩
theorem zii{a0:List Int}{x0:Int}:Qq (brn (decide (x0<(↑(List.map zai a0).length:Int))) (chk ((0:Int)<=x0)<|elemD zbi (List.map zai a0) x0.toNat λ(c1:Int)=>callD zag (cw zd5 [I c1] []) λ(r2:Bool)=>brn r2 (some (I x0,[])) (zgs a0 (w64 (x0+1)))) (some (I (-1),[]))) (zgs a0 x0):=ptT []
theorem zsf{a0:List Int}:Qq (zgs a0 0) (cw zdE [AV.sl 1 (List.map zai a0),AV.fn zd5 []] []):=cwT zfb []
theorem zDo{a0:GPart}:Qq (brn (decide (a0.Max<1)) gX (brn (decide (40<a0.Max)) gX (brn (decide (a0.Topic<0)) gX (brn (decide (16<=a0.Topic)) gX (brn (decide (a0.Objective<0)) gX (brn (decide (6<=a0.Objective)) gX (brn (a0.Kind==1) (brn (a0.Options==0) (some (B (a0.Key==0),[])) gX) (brn (a0.Kind==2) (brn (decide (2<=a0.Options)) (brn (decide (a0.Options<=5)) (brn (decide (0<=a0.Key)) (some (B (decide (a0.Key<a0.Options)),[])) gX) gX) gX) gX)))))))) (cw zp9 [pE a0] []):=cwT zCO []
section
variable(a0:List GPart)(x0 x1:Int)
def zlR:=pt zvw 1 ⟨[(3,I x0),(6,sL a0),(7,I ((↑(mB a0).length:Int))),(8,I x1)],[]⟩
variable{a0 x0 x1}
theorem ztY:Qq (brn (decide (x1<(↑(mB a0).length:Int))) (chk ((0:Int)<=x1)<|elemD zd9 (mB a0) x1.toNat λ(c2:GPart)=>zlR a0 (w64 (x0+c2.Max)) (w64 (x1+1))) (some (I x0,[]))) (zlR a0 x0 x1):=ptT []
theorem zEV:Qq (zlR a0 0 0) (cw zrc [sL a0] []):=cwT zvw []
end
theorem zt6{a0:List Int}{a1:Int}:Qq (callD zaR (cw zpD [AV.sl 1 (List.map zai a0),I a1] []) λ(r0:Int)=>some (B (decide (0<=r0)),[])) (cw zhR [AV.sl 1 (List.map zai a0),I a1] []):=cwT zt2 []
section
variable(a0:List za3)(a1 x0:Int)
def znV:=pt zyZ 1 ⟨[(1,I a1),(4,gQ 4 5),(8,sE a0),(9,I ((↑(mH a0).length:Int))),(10,I x0)],[(4,⟨5,zdM,[[I 0,I 0,I 0,I 0,bH]],true⟩)]⟩
variable{a0 a1 x0}
theorem zrG:Qq (brn (decide (x0<(↑(mH a0).length:Int))) (chk ((0:Int)<=x0)<|elemD zdU (mH a0) x0.toNat λ(c1:za3)=>brn (c1.ID==a1) (callD zhv (cw zcL [AV.sl 1 (List.map zai c1.Papers)] []) λ(r2:(List Int))=>chk (0+(List.map zai r2).length<=(List.map zai r2).length)<|some (AV.tup [AV.agg [I c1.ID,I c1.Centre,I c1.Level,I c1.Capacity,AV.sl 1 (List.take ((List.map zai r2).length) (List.map zai r2))],B true],[])) (znV a0 a1 (w64 (x0+1)))) (some (AV.tup [pG (⟨0,0,0,0,[]⟩),B false],[]))) (znV a0 a1 x0):=ptT []
theorem zHL:Qq (znV a0 a1 0) (cw ztv [sE a0,I a1] []):=cwT zyZ []
end
theorem zDv{a0:za3}{a1:zaT}:Qq (brn (a0.Centre !=a1.Centre) (callD zag (cw zhR [AV.sl 1 (List.map zai a0.Papers),I a1.Paper] []) λ(r0:Bool)=>some (B r0,[])) gX) (cw zqd [pG a0,sX a1] []):=cwT zCU []
theorem zAL{a0:GPart}{a1:Int}:Qq (brn (a1==-1) gZ (brn (a0.Kind==2) (brn (a1==0) gZ (some (B (a1==a0.Max),[]))) (brn (decide (0<=a1)) (some (B (decide (a1<=a0.Max)),[])) gX))) (cw zkX [pE a0,I a1] []):=cwT zzU []
theorem zAH{a0:List Int}:Qq (brn (decide (24<(↑(List.map zai a0).length:Int))) gZ (callD zag (cw zdb [AV.sl 1 (List.map zai a0),AV.fn zeD []] []) λ(r0:Bool)=>some (B r0,[]))) (cw zkU [AV.sl 1 (List.map zai a0)] []):=cwT zzN []
theorem zAG{a0 a1:Int}:Qq (some (I (if w64 (a1-a0) > w64 (a0-a1)then w64 (a1-a0)else w64 (a0-a1)),[])) (cw zkT [I a0,I a1] []):=cwT zzM []
theorem zE2{a0:zbv}{a1:zbZ}:Qq (callD zaR (cw zkS [sZ a0] []) λ(r0:Int)=>brn (r0==0) (brn (decide ((↑(List.map nBool a1.Last).length:Int)<=a0.Window)) (callD zag (cw zlO [sZ a0,AV.sl 1 (List.map nBool a1.Last)] []) λ(r1:Bool)=>some (B (a1.Suspended==r1),[])) gX) gX) (cw zrh [sZ a0,pF a1] []):=cwT zD8 []
section
variable(a0:zbv)(a1:List Bool)(x0 x1:Int)
def ziE:=pt ztL 1 ⟨[(2,gQ 2 4),(5,I x0),(8,AV.sl 1 (List.map nBool a1)),(9,I ((↑(List.map nBool a1).length:Int))),(10,I x1)],[(2,pZ a0)]⟩
variable{a0 a1 x0 x1}
theorem zr2:Qq (brn (decide (x1<(↑(List.map nBool a1).length:Int))) (chk ((0:Int)<=x1)<|elemD dBool (List.map nBool a1) x1.toNat λ(c2:Bool)=>brn (!c2) (ziE a0 a1 (w64 (x0+1)) (w64 (x1+1))) (ziE a0 a1 x0 (w64 (x1+1)))) (some (B (decide (a0.Fails<=x0)),[]))) (ziE a0 a1 x0 x1):=ptT []
theorem zB1:Qq (ziE a0 a1 0 0) (cw zlO [sZ a0,AV.sl 1 (List.map nBool a1)] []):=cwT ztL []
end
def zhu(a0:zan)(a1 x0:Int):=pt zoa 1 ⟨[(1,I a1),(9,sN a0.Seeds),(10,I ((↑(mM a0.Seeds).length:Int))),(11,I x0)],[]⟩
theorem zjH{a0:zan}{a1 x0:Int}:Qq (brn (decide (x0<(↑(mM a0.Seeds).length:Int))) (chk ((0:Int)<=x0)<|elemD zfO (mM a0.Seeds) x0.toNat λ(c1:GSeed)=>brn (c1.Script==a1) (some (AV.tup [AV.sl 1 (List.map zai c1.Marks),B true],[])) (zhu a0 a1 (w64 (x0+1)))) (some (AV.tup [AV.sl 1 (List.map zai []),B false],[]))) (zhu a0 a1 x0):=ptT []
theorem zuS{a0:zan}{a1:Int}:Qq (zhu a0 a1 0) (cw zkd [sS a0,I a1] []):=cwT zoa []
section
variable(a0:zbG)(a1:List za5)(x8 x9 x10:Int)
def zhg:=pt zqT 1 ⟨[(1,sM a1),(2,gQ 2 2),(4,gQ 4 2),(7,I x8),(8,I x9),(43,sM a1),(44,I ((↑(mF a1).length:Int))),(45,I x10)],[(2,pW a0),(4,⟨2,zhP,[zdj (⟨0,0⟩)],true⟩)]⟩
variable{a0 a1 x8 x9 x10}
theorem zpK:Qq (brn (decide (x10<(↑(mF a1).length:Int))) (chk ((0:Int)<=x10)<|elemD zdX (mF a1) x10.toNat λ(c11:za5)=>callD zaR (cw zeZ [pB c11] []) λ(r12:Int)=>callD zaR (cw zeZ [pB c11] []) λ(r13:Int)=>zhg a0 a1 (if r12<x8 then r12 else x8) (if r13 > x9 then r13 else x9) (w64 (x10+1))) (brn (decide (a0.Tolerance<w64 (x9-x8))) (some (AV.agg (zdj (⟨2,0⟩)),[])) (callD zaR (cw zoj [sM a1] []) λ(r14:Int)=>some (AV.agg (zdj (⟨3,r14⟩)),[])))) (zhg a0 a1 x8 x9 x10):=ptT []
theorem zyh:Qq (callD zi7 (cw zlu [sM a1] []) λ(r0:za5×Bool)=>brn r0.2 (callD zaR (cw zeZ [pB r0.1] []) λ(r1:Int)=>some (AV.agg (zdj (⟨3,r1⟩)),[])) (brn ((↑(mF a1).length:Int)==0) (some (AV.agg (zdj (⟨0,0⟩)),[])) (brn ((↑(mF a1).length:Int)==1) (brn a0.Double (some (AV.agg (zdj (⟨1,0⟩)),[])) (chk ((0:Int)<=0)<|elemD zdX (mF a1) (Int.toNat 0) λ(c2:za5)=>callD zaR (cw zeZ [pB c2] []) λ(r3:Int)=>some (AV.agg (zdj (⟨3,r3⟩)),[]))) (chk ((0:Int)<=0)<|elemD zdX (mF a1) (Int.toNat 0) λ(c4:za5)=>callD zaR (cw zeZ [pB c4] []) λ(r5:Int)=>chk ((0:Int)<=0)<|elemD zdX (mF a1) (Int.toNat 0) λ(c6:za5)=>callD zaR (cw zeZ [pB c6] []) λ(r7:Int)=>zhg a0 a1 r5 r7 0)))) (cw zmD [pA a0,sM a1] []):=cwT zqT []
end
section
variable(a0:za9)(a1 a2:Int)(x0:LL)(x1:Int)
def zgO:=pt zsM 1 ⟨[(1,I a1),(2,I a2),(7,AV.row 7 8 0 x0.length),(11,sM a0.Given),(12,I ((↑(mF a0.Given).length:Int))),(13,I x1)],[(7,gE x0)]⟩
variable{a0 a1 a2 x0 x1}
theorem zrH:Qq (brn (decide (x1<(↑(mF a0.Given).length:Int))) (chk ((0:Int)<=x1)<|elemD zdX (mF a0.Given) x1.toNat λ(c2:za5)=>brn (c2.Script==a1) (brn (c2.Part==a2) (chk (x0.length=x0.length)<|chk ((x0.length+1)*(64+1)<=1099511627776)<|chk ((x0++[zaC c2]).length=(x0++[zaC c2]).length)<|zgO a0 a1 a2 (x0++([zaC c2])) (w64 (x1+1))) (zgO a0 a1 a2 x0 (w64 (x1+1)))) (zgO a0 a1 a2 x0 (w64 (x1+1)))) (chk (x0.length=x0.length)<|some (AV.new 8 zbl x0,[]))) (zgO a0 a1 a2 x0 x1):=ptT []
theorem zAD:Qq (zgO a0 a1 a2 [] 0) (cw zkR [sW a0,I a1,I a2] []):=cwT zsM []
end
theorem zI9{a0:Int}:Qq (brn (decide (a0<0)) (some (I (w64 (0-a0)),[])) (some (I a0,[]))) (cw zrj [I a0] []):=cwT zIa []
theorem zxg{a0:Int}:Qq (brn (decide (a0<0)) gZ (some (B (decide (1152921504606846976<a0)),[]))) (cw zd5 [I a0] []):=cwT zwT []
section
variable(a0:List Int)(a1 x0:Int)
def zid:=pt zpy 1 ⟨[(0,AV.sl 1 (List.map zai a0)),(1,I a1),(7,I ((↑(List.map zai a0).length:Int))),(8,I x0)],[]⟩
variable{a0 a1 x0}
theorem zko:Qq (brn (decide (x0<(↑(List.map zai a0).length:Int))) (chk ((0:Int)<=x0)<|elemD zbi (List.map zai a0) x0.toNat λ(c1:Int)=>brn (a1==c1) (some (I x0,[])) (zid a0 a1 (w64 (x0+1)))) (some (I (-1),[]))) (zid a0 a1 x0):=ptT []
theorem zww:Qq (zid a0 a1 0) (cw zpD [AV.sl 1 (List.map zai a0),I a1] []):=cwT zpy []
end
theorem zq4{a0:Int}:Qq (some (B (decide (200<a0)),[])) (cw zeD [I a0] []):=cwT zxQ []
section
variable(a0:List za5)(x0:za5)(x1:Bool)(x2:Int)
def zdV:=pt zpv 1 ⟨[(2,gQ 2 8),(4,gQ 4 8),(5,B x1),(8,sM a0),(9,I ((↑(mF a0).length:Int))),(10,I x2)],[(2,pY (⟨0,0,0,0,0,⟨0,0,0⟩⟩)),(4,pY x0)]⟩
variable{a0 x0 x1 x2}
theorem zoG:Qq (brn (decide (x2<(↑(mF a0).length:Int))) (chk ((0:Int)<=x2)<|elemD zdX (mF a0) x2.toNat λ(c3:za5)=>brn (decide (c3.Level<2)) (zdV a0 x0 x1 (w64 (x2+1))) (brn (!x1) (zdV a0 c3 true (w64 (x2+1))) (brn (decide (x0.Level<c3.Level)) (zdV a0 c3 true (w64 (x2+1))) (brn (c3.Level==x0.Level) (callD zaR (cw zh5 [sV c3.Stamp,sV x0.Stamp] []) λ(r4:Int)=>brn (decide (0<=r4)) (zdV a0 c3 true (w64 (x2+1))) (zdV a0 x0 x1 (w64 (x2+1)))) (zdV a0 x0 x1 (w64 (x2+1))))))) (some (AV.tup [pB x0,B x1],[]))) (zdV a0 x0 x1 x2):=ptT []
theorem zwo:Qq (zdV a0 (⟨0,0,0,0,0,⟨0,0,0⟩⟩) false 0) (cw zlu [sM a0] []):=cwT zpv []
end
theorem zzy{a0:za5}:Qq (some (I (if 0 > a0.Value then 0 else a0.Value),[])) (cw zeZ [pB a0] []):=cwT zzg []
def zjS(a0:List za5)(x0 x1 x2:Int):=pt zsJ 1 ⟨[(0,sM a0),(3,AV.v (.int .u64 x0)),(4,AV.v (.int .u64 x1)),(11,sM a0),(12,I ((↑(mF a0).length:Int))),(13,I x2)],[]⟩
theorem zrD{a0:List za5}{x0 x1 x2:Int}:Qq (brn (decide (x2<(↑(mF a0).length:Int))) (chk ((0:Int)<=x2)<|elemD zdX (mF a0) x2.toNat λ(c3:za5)=>callD zaR (cw zeZ [pB c3] []) λ(r4:Int)=>zjS a0 (wu64 (x0+Int.ofNat ((x1.toNat+(wu64 r4).toNat+Int.toNat 0) / 2 ^ 64))) (Int.ofNat ((x1.toNat+(wu64 r4).toNat+Int.toNat 0) % 2 ^ 64)) (w64 (x2+1))) (callD zrB (cw zuV [AV.v (.int .u64 x0),AV.v (.int .u64 x1),AV.v (.int .u64 (wu64 (↑(mF a0).length:Int)))] []) λ(r5:Int×Int)=>brn (decide (wu64 (↑(mF a0).length:Int)<=wu64 (2*r5.2))) (some (I (w64 (wu64 (r5.1+1))),[])) (some (I (w64 r5.1),[])))) (zjS a0 x0 x1 x2):=ptT []
theorem zAA{a0:List za5}:Qq (zjS a0 0 0 0) (cw zoj [sM a0] []):=cwT zsJ []
theorem zIZ{a1 a2:Int}:Qq (brn (a2==0) (none) (brn (decide (a2<=0)) (none) (chk ((a2:Int)≠0)<|chk ((a2:Int)≠0)<|some (AV.tup [AV.v (.int .u64 (wu64 (a1.tdiv a2))),AV.v (.int .u64 (a1.tmod a2))],[])))) (cw zuV [AV.v (.int .u64 0),AV.v (.int .u64 a1),AV.v (.int .u64 a2)] []):=cwT zH7 []
end Go.Proofs.YtlecnobdfhlmnaaGreat
end
