/- What the functions compute, between two cut points: printed by a program, checked by the kernel. -/
import Derived.Test.YticojpmhlhfhlaaGreatAnn
namespace Go.Proofs.YticojpmhlhfhlaaGreat
open Go.Ab
set_option maxRecDepth 100000
set_option linter.unusedVariables false
noncomputable def zio (a0:List GMarker) (x0:Int):Option (AV×Mem):=pt zoU 1 ⟨[(0,AV.sl 5 (List.map zaO a0)),(3,I x0)],[]⟩
noncomputable def ziV (a0:List GMarker) (x0:Int) (c1:GMarker) (x6:Int):Option (AV×Mem):=pt zoU 2 ⟨[(0,AV.sl 5 (List.map zaO a0)),(3,I x0),(4,AV.loc 4 5 0 0),(5,I x6)],[(4,⟨5,zcM,[zaO c1],true⟩)]⟩
noncomputable def zgt (a0:List GMarker) (x0:Int) (c1:GMarker) (x9:Int):Option (AV×Mem):=pt zoU 3 ⟨[(0,AV.sl 5 (List.map zaO a0)),(3,I x0),(4,AV.loc 4 5 0 0),(6,I x9)],[(4,⟨5,zcM,[zaO c1],true⟩)]⟩
theorem zvU (a0:List GMarker) (x0:Int) {y:AV×Mem} (h:(
 brn (decide (x0 < (↑(List.map zaO a0).length:Int))) (chk ((0:Int)≤x0)<|
 elemD zb6 (List.map zaO a0) x0.toNat fun (c1:GMarker) =>
 callD zek (cw ze3 [I c1.ID,I 1,I 99] []) fun (r2:Bool) =>
 brn (!r2) (some (I 2,[]))
 (callD zek (cw ze3 [I c1.Centre,I (-1),I 99] []) fun (r3:Bool) =>
 brn (!r3) (some (I 2,[]))
 (callD zek (cw ze3 [I c1.Level,I 1,I 3] []) fun (r4:Bool) =>
 brn (!r4) (some (I 2,[]))
 (callD zek (cw ze3 [I c1.Capacity,I 0,I 60] []) fun (r5:Bool) =>
 brn (!r5) (some (I 2,[]))
 (ziV a0 x0 c1 0)))))
 (some (I 0,[])))=some y):zio a0 x0=some y:=
 pt_of zT [] (by kernel_rfl) h
theorem zwc (a0:List GMarker) (x0:Int) (c1:GMarker) (x6:Int) {y:AV×Mem} (h:(
 brn (decide (x6 < (↑(List.map zaa c1.Papers).length:Int))) (chk ((0:Int)≤x6)<|
 elemD zag (List.map zaa c1.Papers) x6.toNat fun (c7:Int) =>
 callD zek (cw ze3 [I c7,I 0,I 31] []) fun (r8:Bool) =>
 brn (!r8) (some (I 2,[]))
 (ziV a0 x0 c1 (w64 (x6+1))))
 (zgt a0 x0 c1 1))=some y):ziV a0 x0 c1 x6=some y:=
 pt_of zT [] (by kernel_rfl) h
theorem zwe (a0:List GMarker) (x0:Int) (c1:GMarker) (x9:Int) {y:AV×Mem} (h:(
 brn (decide (x9 < (↑(List.map zaa c1.Papers).length:Int))) (chk ((0:Int)≤x9)<|
 elemD zag (List.map zaa c1.Papers) x9.toNat fun (c10:Int) =>
 chk ((0:Int)≤(w64 (x9 - 1)))<|
 elemD zag (List.map zaa c1.Papers) ((w64 (x9 - 1)).toNat) fun (c11:Int) =>
 brn (decide (c10≤c11)) (some (I 43,[]))
 (zgt a0 x0 c1 (w64 (x9+1))))
 (brn (decide (0 < x0)) (chk ((0:Int)≤(w64 (x0 - 1)))<|
 elemD zb6 (List.map zaO a0) ((w64 (x0 - 1)).toNat) fun (c12:GMarker) =>
 brn (decide (c1.ID≤c12.ID)) (some (I 43,[]))
 (zio a0 (w64 (x0+1))))
 (zio a0 (w64 (x0+1)))))=some y):zgt a0 x0 c1 x9=some y:=
 pt_of zT [] (by kernel_rfl) h
theorem zGX (a0:List GMarker) {y:AV×Mem} (h:(
 brn (decide (16 < (↑(List.map zaO a0).length:Int))) (some (I 3,[]))
 (zio a0 0))=some y):cw ztp [AV.sl 5 (List.map zaO a0)] []=some y:=
 zah zoU zT [] rfl (by kernel_rfl) (by kernel_rfl) (by kernel_rfl) (by kernel_rfl) (by kernel_rfl) h
noncomputable def zef (a0:List GScript) (x0:Int):Option (AV×Mem):=pt zrh 1 ⟨[(0,AV.sl 7 (List.map zaw a0)),(3,I x0)],[]⟩
theorem zbU (a0:List GScript) (x0:Int) {y:AV×Mem} (h:(
 brn (decide (x0 < (↑(List.map zaw a0).length:Int))) (chk ((0:Int)≤x0)<|
 elemD zbb (List.map zaw a0) x0.toNat fun (c1:GScript) =>
 callD zek (cw ze3 [I c1.Paper,I 0,I 31] []) fun (r2:Bool) =>
 brn (!r2) (some (I 2,[]))
 (callD zek (cw ze3 [I c1.Candidate,I 0,I 9999] []) fun (r3:Bool) =>
 brn (!r3) (some (I 2,[]))
 (callD zek (cw ze3 [I c1.Centre,I 0,I 99] []) fun (r4:Bool) =>
 brn (!r4) (some (I 2,[]))
 (callD zek (cw ze3 [I c1.Variant,I 0,I 31] []) fun (r5:Bool) =>
 brn (!r5) (some (I 2,[]))
 (brn (c1.Number != w64 (w64 (c1.Paper*10000)+c1.Candidate)) (some (I 1,[]))
 (brn (decide (12 < (↑(List.map zaa c1.Pages).length:Int))) (some (I 1,[]))
 (brn (decide (0 < x0)) (chk ((0:Int)≤(w64 (x0 - 1)))<|
 elemD zbb (List.map zaw a0) ((w64 (x0 - 1)).toNat) fun (c6:GScript) =>
 brn (decide (c1.Number≤c6.Number)) (some (I 43,[]))
 (zef a0 (w64 (x0+1))))
 (zef a0 (w64 (x0+1))))))))))
 (some (I 0,[])))=some y):zef a0 x0=some y:=
 pt_of zT [] (by kernel_rfl) h
theorem zqH (a0:List GScript) {y:AV×Mem} (h:(
 brn (decide (60 < (↑(List.map zaw a0).length:Int))) (some (I 3,[]))
 (zef a0 0))=some y):cw zkw [AV.sl 7 (List.map zaw a0)] []=some y:=
 zah zrh zT [] rfl (by kernel_rfl) (by kernel_rfl) (by kernel_rfl) (by kernel_rfl) (by kernel_rfl) h
theorem zHA (a0:GMonitorRule) {y:AV×Mem} (h:(
 brn (decide (a0.Part < 0)) (some (I 2,[]))
 (brn (decide (200 < a0.Part)) (some (I 2,[]))
 (brn (decide (a0.Total < 0)) (some (I 2,[]))
 (brn (decide (200 < a0.Total)) (some (I 2,[]))
 (brn (decide (a0.Window < 1)) (some (I 2,[]))
 (brn (decide (20 < a0.Window)) (some (I 2,[]))
 (brn (decide (a0.Fails < 1)) (some (I 2,[]))
 (brn (decide (a0.Window < a0.Fails)) (some (I 2,[]))
 (some (I 0,[]))))))))))=some y):cw zlr [AV.agg (zba a0)] []=some y:=
 zah zHw zT [] rfl (by kernel_rfl) (by kernel_rfl) (by kernel_rfl) (by kernel_rfl) (by kernel_rfl) h
noncomputable def zi0 (a0:GPaper) (a1:GScheme) (x1:Int):Option (AV×Mem):=pt zto 1 ⟨[(2,AV.loc 2 3 0 0),(3,AV.loc 3 2 0 0),(5,I ((↑(List.map zav a0.Parts).length:Int))),(6,I x1)],[(2,⟨3,zbc,[zas a0],true⟩),(3,⟨2,zbL,[zaW a1],true⟩)]⟩
noncomputable def zdA (a0:GPaper) (a1:GScheme) (x1:Int) (x4:Int):Option (AV×Mem):=pt zto 2 ⟨[(2,AV.loc 2 3 0 0),(3,AV.loc 3 2 0 0),(5,I ((↑(List.map zav a0.Parts).length:Int))),(6,I x1),(7,I x4)],[(2,⟨3,zbc,[zas a0],true⟩),(3,⟨2,zbL,[zaW a1],true⟩)]⟩
theorem zqz (a0:GPaper) (a1:GScheme) (x1:Int) {y:AV×Mem} (h:(
 brn (decide (x1 < (↑(List.map zav a0.Parts).length:Int))) (chk ((0:Int)≤x1)<|
 elemD zag (List.map zaa a1.Withdrawn) x1.toNat fun (c2:Int) =>
 brn (decide (c2 < 0)) (some (B false,[]))
 (chk ((0:Int)≤x1)<|
 elemD zag (List.map zaa a1.Withdrawn) x1.toNat fun (c3:Int) =>
 brn (decide (2 < c3)) (some (B false,[]))
 (zdA a0 a1 x1 0)))
 (some (B true,[])))=some y):zi0 a0 a1 x1=some y:=
 pt_of zT [] (by kernel_rfl) h
theorem zmp (a0:GPaper) (a1:GScheme) (x1:Int) (x4:Int) {y:AV×Mem} (h:(
 chk ((0:Int)≤x1)<|
 elemD zdH (List.map zbB a1.Keys) x1.toNat fun (c5:List Int) =>
 brn (decide (x4 < (↑(List.map zaa c5).length:Int))) (chk ((0:Int)≤x1)<|
 elemD zdH (List.map zbB a1.Keys) x1.toNat fun (c6:List Int) =>
 chk ((0:Int)≤x4)<|
 elemD zag (List.map zaa c6) x4.toNat fun (c7:Int) =>
 brn (decide (c7 < 0)) (some (B false,[]))
 (chk ((0:Int)≤x1)<|
 elemD zdH (List.map zbB a1.Keys) x1.toNat fun (c8:List Int) =>
 chk ((0:Int)≤x4)<|
 elemD zag (List.map zaa c8) x4.toNat fun (c9:Int) =>
 chk ((0:Int)≤x1)<|
 elemD zce (List.map zav a0.Parts) x1.toNat fun (c10:GPart) =>
 brn (decide (c10.Options≤c9)) (some (B false,[]))
 (brn (decide (0 < x4)) (chk ((0:Int)≤x1)<|
 elemD zdH (List.map zbB a1.Keys) x1.toNat fun (c11:List Int) =>
 chk ((0:Int)≤(w64 (x4 - 1)))<|
 elemD zag (List.map zaa c11) ((w64 (x4 - 1)).toNat) fun (c12:Int) =>
 chk ((0:Int)≤x1)<|
 elemD zdH (List.map zbB a1.Keys) x1.toNat fun (c13:List Int) =>
 chk ((0:Int)≤x4)<|
 elemD zag (List.map zaa c13) x4.toNat fun (c14:Int) =>
 brn (decide (c14≤c12)) (some (B false,[]))
 (zdA a0 a1 x1 (w64 (x4+1))))
 (zdA a0 a1 x1 (w64 (x4+1))))))
 (zi0 a0 a1 (w64 (x1+1))))=some y):zdA a0 a1 x1 x4=some y:=
 pt_of zT [] (by kernel_rfl) h
theorem zG6 (a0:GPaper) (a1:GScheme) {y:AV×Mem} (h:(
 callD ziK (cw zmB [AV.agg (zas a0)] []) fun (r0:Bool) =>
 brn (!r0) (some (B false,[]))
 (brn ((↑(List.map zbB a1.Keys).length:Int) != (↑(List.map zav a0.Parts).length:Int)) (some (B false,[]))
 (brn ((↑(List.map zaa a1.Withdrawn).length:Int) != (↑(List.map zav a0.Parts).length:Int)) (some (B false,[]))
 (zi0 a0 a1 0))))=some y):cw zie [AV.agg (zas a0),AV.agg (zaW a1)] []=some y:=
 zah zto zT [] rfl (by kernel_rfl) (by kernel_rfl) (by kernel_rfl) (by kernel_rfl) (by kernel_rfl) h
noncomputable def ziw (a0:List GPaper) (a1:GScript) (x0:Int):Option (AV×Mem):=pt zzF 1 ⟨[(0,AV.sl 3 (List.map zas a0)),(3,AV.loc 3 7 0 0),(6,I x0)],[(3,⟨7,zbz,[zaw a1],true⟩)]⟩
theorem zqv (a0:List GPaper) (a1:GScript) (x0:Int) {y:AV×Mem} (h:(
 brn (decide (x0 < (↑(List.map zas a0).length:Int))) (chk ((0:Int)≤x0)<|
 elemD zbj (List.map zas a0) x0.toNat fun (c1:GPaper) =>
 brn (c1.Code == a1.Paper) (chk ((0:Int)≤x0)<|
 elemD zbj (List.map zas a0) x0.toNat fun (c2:GPaper) =>
 brn (c2.Variant == a1.Variant) (some (AV.tup [I x0,B true],[]))
 (ziw a0 a1 (w64 (x0+1))))
 (ziw a0 a1 (w64 (x0+1))))
 (some (AV.tup [I 0,B false],[])))=some y):ziw a0 a1 x0=some y:=
 pt_of zT [] (by kernel_rfl) h
theorem zHk (a0:List GPaper) (a1:GScript) {y:AV×Mem} (h:(
 ziw a0 a1 0)=some y):cw zlA [AV.sl 3 (List.map zas a0),AV.agg (zaw a1)] []=some y:=
 zah zzF zT [] rfl (by kernel_rfl) (by kernel_rfl) (by kernel_rfl) (by kernel_rfl) (by kernel_rfl) h
noncomputable def zes (a0:GPaper) (a1:GScheme) (a2:List Int) (x1:List (List AV)) (x2:Int):Option (AV×Mem):=pt zhx 1 ⟨[(2,AV.sl 1 (List.map zaa a2)),(3,AV.loc 3 3 0 0),(4,AV.loc 4 2 0 0),(8,AV.row 8 1 0 (List.length x1)),(9,I x2)],[(3,⟨3,zbc,[zas a0],true⟩),(4,⟨2,zbL,[zaW a1],true⟩),(8,⟨1,zaj,x1,false⟩)]⟩
noncomputable def zrG (a0:GPaper) (a1:GScheme) (a2:List Int) (x1:List (List AV)) (x2:Int) (c9:GPart):Option (AV×Mem):=pt zhx 1016 ⟨[(2,AV.sl 1 (List.map zaa a2)),(3,AV.loc 3 3 0 0),(4,AV.loc 4 2 0 0),(8,AV.row 8 1 0 (List.length x1)),(9,I x2),(10,I c9.Max)],[(3,⟨3,zbc,[zas a0],true⟩),(4,⟨2,zbL,[zaW a1],true⟩),(8,⟨1,zaj,x1,false⟩)]⟩
noncomputable def zpO (a0:GPaper) (a1:GScheme) (a2:List Int) (x1:List (List AV)) (x2:Int):Option (AV×Mem):=pt zhx 1016 ⟨[(2,AV.sl 1 (List.map zaa a2)),(3,AV.loc 3 3 0 0),(4,AV.loc 4 2 0 0),(8,AV.row 8 1 0 (List.length x1)),(9,I x2),(10,I 0),(62,B false)],[(3,⟨3,zbc,[zas a0],true⟩),(4,⟨2,zbL,[zaW a1],true⟩),(8,⟨1,zaj,x1,false⟩)]⟩
noncomputable def zhV (a0:GPaper) (a1:GScheme) (a2:List Int) (x1:List (List AV)) (x2:Int):Option (AV×Mem):=pt zhx 1018 ⟨[(2,AV.sl 1 (List.map zaa a2)),(3,AV.loc 3 3 0 0),(4,AV.loc 4 2 0 0),(8,AV.row 8 1 0 (List.length x1)),(9,I x2),(10,I (-1))],[(3,⟨3,zbc,[zas a0],true⟩),(4,⟨2,zbL,[zaW a1],true⟩),(8,⟨1,zaj,x1,false⟩)]⟩
noncomputable def zgk (a0:GPaper) (a1:GScheme) (a2:List Int) (x1:List (List AV)) (x2:Int) (x11:Int):Option (AV×Mem):=pt zhx 1018 ⟨[(2,AV.sl 1 (List.map zaa a2)),(3,AV.loc 3 3 0 0),(4,AV.loc 4 2 0 0),(8,AV.row 8 1 0 (List.length x1)),(9,I x2),(10,I x11),(73,B false)],[(3,⟨3,zbc,[zas a0],true⟩),(4,⟨2,zbL,[zaW a1],true⟩),(8,⟨1,zaj,x1,false⟩)]⟩
theorem zpE (a0:GPaper) (a1:GScheme) (a2:List Int) (x1:List (List AV)) (x2:Int) {y:AV×Mem} (h:(
 brn (decide (x2 < (↑(List.map zaa a2).length:Int))) (chk ((0:Int)≤x2)<|
 elemD zce (List.map zav a0.Parts) x2.toNat fun (c3:GPart) =>
 brn (c3.Kind == 1) (chk (x1.length=x1.length)<|
 chk ((x1.length+1)*(8+1)≤1099511627776)<|
 chk ((x1++[[I (-2)]]).length=(x1++[[I (-2)]]).length)<|
 zes a0 a1 a2 (x1++([zaa (-2)])) (w64 (x2+1)))
 (chk ((0:Int)≤x2)<|
 elemD zag (List.map zaa a2) x2.toNat fun (c4:Int) =>
 brn (decide (c4 < -2)) (some (AV.tup [AV.sl 1 (List.map zaa []),I 2],[]))
 (chk ((0:Int)≤x2)<|
 elemD zag (List.map zaa a2) x2.toNat fun (c5:Int) =>
 chk ((0:Int)≤x2)<|
 elemD zce (List.map zav a0.Parts) x2.toNat fun (c6:GPart) =>
 brn (decide (c6.Options≤c5)) (some (AV.tup [AV.sl 1 (List.map zaa []),I 2],[]))
 (chk ((0:Int)≤x2)<|
 elemD zag (List.map zaa a2) x2.toNat fun (c7:Int) =>
 callD zmm (cw zqE [AV.agg (zas a0),AV.agg (zaW a1),I x2,I c7] []) fun (r8:Bool) =>
 brn r8 (chk ((0:Int)≤x2)<|
 elemD zce (List.map zav a0.Parts) x2.toNat fun (c9:GPart) =>
 zrG a0 a1 a2 x1 x2 c9)
 (zpO a0 a1 a2 x1 x2)))))
 (chk (0+x1.length≤x1.length)<|
 some (AV.tup [AV.sl 1 (List.take x1.length x1),I 0],[])))=some y):zes a0 a1 a2 x1 x2=some y:=
 pt_of zT [18,16] (by kernel_rfl) h
theorem zzO (a0:GPaper) (a1:GScheme) (a2:List Int) (x1:List (List AV)) (x2:Int) (c9:GPart) {y:AV×Mem} (h:(
 chk ((0:Int)≤x2)<|
 elemD zag (List.map zaa a2) x2.toNat fun (c10:Int) =>
 brn (c10 == -1) (zhV a0 a1 a2 x1 x2)
 (zgk a0 a1 a2 x1 x2 c9.Max))=some y):zrG a0 a1 a2 x1 x2 c9=some y:=
 pt_of zT [18,16] (by kernel_rfl) h
theorem zxh (a0:GPaper) (a1:GScheme) (a2:List Int) (x1:List (List AV)) (x2:Int) {y:AV×Mem} (h:(
 chk ((0:Int)≤x2)<|
 elemD zag (List.map zaa a2) x2.toNat fun (c12:Int) =>
 brn (c12 == -1) (zhV a0 a1 a2 x1 x2)
 (zgk a0 a1 a2 x1 x2 0))=some y):zpO a0 a1 a2 x1 x2=some y:=
 pt_of zT [18,16] (by kernel_rfl) h
theorem zzR (a0:GPaper) (a1:GScheme) (a2:List Int) (x1:List (List AV)) (x2:Int) {y:AV×Mem} (h:(
 chk (x1.length=x1.length)<|
 chk ((x1.length+1)*(8+1)≤1099511627776)<|
 chk ((x1++[[I (-1)]]).length=(x1++[[I (-1)]]).length)<|
 zes a0 a1 a2 (x1++([zaa (-1)])) (w64 (x2+1)))=some y):zhV a0 a1 a2 x1 x2=some y:=
 pt_of zT [18,16] (by kernel_rfl) h
theorem zxM (a0:GPaper) (a1:GScheme) (a2:List Int) (x1:List (List AV)) (x2:Int) (x11:Int) {y:AV×Mem} (h:(
 chk (x1.length=x1.length)<|
 chk ((x1.length+1)*(8+1)≤1099511627776)<|
 chk ((x1++[[I x11]]).length=(x1++[[I x11]]).length)<|
 zes a0 a1 a2 (x1++([zaa x11])) (w64 (x2+1)))=some y):zgk a0 a1 a2 x1 x2 x11=some y:=
 pt_of zT [18,16] (by kernel_rfl) h
theorem zrY (a0:GPaper) (a1:GScheme) (a2:List Int) {y:AV×Mem} (h:(
 callD zgC (cw zie [AV.agg (zas a0),AV.agg (zaW a1)] []) fun (r0:Bool) =>
 brn (!r0) (some (AV.tup [AV.sl 1 (List.map zaa []),I 1],[]))
 (brn ((↑(List.map zaa a2).length:Int) != (↑(List.map zav a0.Parts).length:Int)) (some (AV.tup [AV.sl 1 (List.map zaa []),I 22],[]))
 (zes a0 a1 a2 [] 0)))=some y):cw zjW [AV.agg (zas a0),AV.agg (zaW a1),AV.sl 1 (List.map zaa a2)] []=some y:=
 zah zhx zT [18,16] rfl (by kernel_rfl) (by kernel_rfl) (by kernel_rfl) (by kernel_rfl) (by kernel_rfl) h
theorem zFD (a0:GSetup) (a1:Int) {y:AV×Mem} (h:(
 callD zhv (cw zj1 [AV.sl 7 (List.map zaw a0.Scripts),I a1] []) fun (r0:GScript×Bool) =>
 brn (!r0.snd) (some (AV.tup [I 0,B false],[]))
 (callD zih (cw zlA [AV.sl 3 (List.map zas a0.Papers),AV.agg (zaw r0.fst)] []) fun (r1:Int×Bool) =>
 some (AV.tup [I r1.fst,B r1.snd],[])))=some y):cw ziP [AV.agg (zat a0),I a1] []=some y:=
 zah zEB zT [] rfl (by kernel_rfl) (by kernel_rfl) (by kernel_rfl) (by kernel_rfl) (by kernel_rfl) h
noncomputable def znr (a0:GPaper) (a1:List Int) (x0:Int):Option (AV×Mem):=pt zA7 1 ⟨[(1,AV.sl 1 (List.map zaa a1)),(2,AV.loc 2 3 0 0),(5,I x0)],[(2,⟨3,zbc,[zas a0],true⟩)]⟩
theorem zw6 (a0:GPaper) (a1:List Int) (x0:Int) {y:AV×Mem} (h:(
 brn (decide (x0 < (↑(List.map zaa a1).length:Int))) (chk ((0:Int)≤x0)<|
 elemD zag (List.map zaa a1) x0.toNat fun (c1:Int) =>
 brn (decide (c1 < 0)) (some (B false,[]))
 (chk ((0:Int)≤x0)<|
 elemD zag (List.map zaa a1) x0.toNat fun (c2:Int) =>
 chk ((0:Int)≤x0)<|
 elemD zce (List.map zav a0.Parts) x0.toNat fun (c3:GPart) =>
 brn (decide (c3.Max < c2)) (some (B false,[]))
 (znr a0 a1 (w64 (x0+1)))))
 (some (B true,[])))=some y):znr a0 a1 x0=some y:=
 pt_of zT [] (by kernel_rfl) h
theorem zIn (a0:GPaper) (a1:List Int) {y:AV×Mem} (h:(
 brn ((↑(List.map zaa a1).length:Int) != (↑(List.map zav a0.Parts).length:Int)) (some (B false,[]))
 (znr a0 a1 0))=some y):cw zvw [AV.agg (zas a0),AV.sl 1 (List.map zaa a1)] []=some y:=
 zah zA7 zT [] rfl (by kernel_rfl) (by kernel_rfl) (by kernel_rfl) (by kernel_rfl) (by kernel_rfl) h
noncomputable def zcY (a0:List GMarkEvent) (x0:List (List AV)) (x1:List (List AV)) (x2:Int):Option (AV×Mem):=pt zvz 1 ⟨[(0,AV.sl 9 (List.map zab a0)),(4,AV.map 10),(5,AV.map 11),(6,I x2)],[(10,⟨0,zE7,x0,false⟩),(11,⟨0,zDL,x1,false⟩)]⟩
theorem zsM (a0:List GMarkEvent) (x0:List (List AV)) (x1:List (List AV)) (x2:Int) {y:AV×Mem} (h:(
 brn (decide (x2 < (↑(List.map zab a0).length:Int))) (chk ((0:Int)≤x2)<|
 elemD zaG (List.map zab a0) x2.toNat fun (c3:GMarkEvent) =>
 callD zo3 (cw ztm [AV.agg (zab c3)] []) fun (r4:Bool) =>
 brn (!r4) (zcY a0 x0 x1 (w64 (x2+1)))
 (chk ((0:Int)≤x2)<|
 elemD zaG (List.map zab a0) x2.toNat fun (c5:GMarkEvent) =>
 chk ((0:Int)≤x2)<|
 elemD zaG (List.map zab a0) x2.toNat fun (c6:GMarkEvent) =>
 mapD zP 150 false zag (I 0) x0 (AV.agg (zcu (c5.Stamp.Source,c6.Stamp.Seq))) fun (c7:Int) (b8:Bool) =>
 brn (!b8) (msetD zP 150 3 (AV.agg (zcu (c5.Stamp.Source,c6.Stamp.Seq))) (I x2) x0 fun (m9:List (List AV)) =>
 zcY a0 m9 x1 (w64 (x2+1)))
 (chk (0≤c7)<|
 elemD zaG (List.map zab a0) (Int.toNat c7) fun (c10:GMarkEvent) =>
 chk ((0:Int)≤x2)<|
 elemD zaG (List.map zab a0) x2.toNat fun (c11:GMarkEvent) =>
 callD zrw (cw zvs [AV.agg (zab c10),AV.agg (zab c11)] []) fun (r12:Bool) =>
 brn (!r12) (msetD zP 150 4 (AV.agg (zcu (c5.Stamp.Source,c6.Stamp.Seq))) (B true) x1 fun (m13:List (List AV)) =>
 zcY a0 x0 m13 (w64 (x2+1)))
 (zcY a0 x0 x1 (w64 (x2+1))))))
 (some (AV.tup [AV.mp x0,AV.mp x1],[])))=some y):zcY a0 x0 x1 x2=some y:=
 pt_of zT [] (by kernel_rfl) h
theorem zDc (a0:List GMarkEvent) {y:AV×Mem} (h:(
 zcY a0 [] [] 0)=some y):cw zpn [AV.sl 9 (List.map zab a0)] []=some y:=
 zah zvz zT [] rfl (by kernel_rfl) (by kernel_rfl) (by kernel_rfl) (by kernel_rfl) (by kernel_rfl) h
noncomputable def zkf (r0:(List GMarkEvent)) (r1:(List GMarkEvent)) (x2:List (List AV)) (x3:Int) (x4:Int):Option (AV×Mem):=pt zmK 1 ⟨[(3,AV.row 18 9 0 (List.length (List.map zab r0))),(4,AV.row 24 9 0 (List.length (List.map zab r1))),(5,AV.row 5 9 0 (List.length x2)),(6,I x3),(7,I x4)],[(5,⟨9,zar,x2,false⟩),(18,⟨9,zar,List.map zab r0,false⟩),(24,⟨9,zar,List.map zab r1,false⟩)]⟩
noncomputable def zjz (r0:(List GMarkEvent)) (r1:(List GMarkEvent)) (x2:List (List AV)) (x3:Int) (x4:Int):Option (AV×Mem):=pt zmK 1007 ⟨[(3,AV.row 18 9 0 (List.length (List.map zab r0))),(4,AV.row 24 9 0 (List.length (List.map zab r1))),(5,AV.row 5 9 0 (List.length x2)),(6,I x3),(7,I x4),(34,B true)],[(5,⟨9,zar,x2,false⟩),(18,⟨9,zar,List.map zab r0,false⟩),(24,⟨9,zar,List.map zab r1,false⟩)]⟩
noncomputable def zjC (r0:(List GMarkEvent)) (r1:(List GMarkEvent)) (x2:List (List AV)) (x3:Int) (x4:Int):Option (AV×Mem):=pt zmK 1008 ⟨[(3,AV.row 18 9 0 (List.length (List.map zab r0))),(4,AV.row 24 9 0 (List.length (List.map zab r1))),(5,AV.row 5 9 0 (List.length x2)),(6,I x3),(7,I x4),(56,B true)],[(5,⟨9,zar,x2,false⟩),(18,⟨9,zar,List.map zab r0,false⟩),(24,⟨9,zar,List.map zab r1,false⟩)]⟩
noncomputable def zjx (r0:(List GMarkEvent)) (r1:(List GMarkEvent)) (x2:List (List AV)) (x3:Int) (x4:Int):Option (AV×Mem):=pt zmK 1010 ⟨[(3,AV.row 18 9 0 (List.length (List.map zab r0))),(4,AV.row 24 9 0 (List.length (List.map zab r1))),(5,AV.row 5 9 0 (List.length x2)),(6,I x3),(7,I x4),(56,B false)],[(5,⟨9,zar,x2,false⟩),(18,⟨9,zar,List.map zab r0,false⟩),(24,⟨9,zar,List.map zab r1,false⟩)]⟩
theorem zxx (r0:(List GMarkEvent)) (r1:(List GMarkEvent)) (x2:List (List AV)) (x3:Int) (x4:Int) {y:AV×Mem} (h:(
 brn (decide (x3 < (↑(List.map zab r0).length:Int))) (zjz r0 r1 x2 x3 x4)
 (brn (decide (x4 < (↑(List.map zab r1).length:Int))) (zjz r0 r1 x2 x3 x4)
 (chk (x2.length=x2.length)<|
 chk (x2.length=x2.length)<|
 some (AV.new 9 zar x2,[]))))=some y):zkf r0 r1 x2 x3 x4=some y:=
 pt_of zT [10,8,7] (by kernel_rfl) h
theorem zCe (r0:(List GMarkEvent)) (r1:(List GMarkEvent)) (x2:List (List AV)) (x3:Int) (x4:Int) {y:AV×Mem} (h:(
 brn (x4 == (↑(List.map zab r1).length:Int)) (zjC r0 r1 x2 x3 x4)
 (brn (decide (x3 < (↑(List.map zab r0).length:Int))) (chk ((0:Int)≤x4)<|
 chk ((x4:Int) < ((↑(List.map zab r1).length:Int)))<|
 elemD zaG (List.map zab r1) (0+x4.toNat) fun (c5:GMarkEvent) =>
 chk ((0:Int)≤x3)<|
 chk ((x3:Int) < ((↑(List.map zab r0).length:Int)))<|
 elemD zaG (List.map zab r0) (0+x3.toNat) fun (c6:GMarkEvent) =>
 callD znl (cw zrX [AV.agg (zab c5),AV.agg (zab c6)] []) fun (r7:Bool) =>
 brn (!r7) (zjC r0 r1 x2 x3 x4)
 (zjx r0 r1 x2 x3 x4))
 (zjx r0 r1 x2 x3 x4)))=some y):zjz r0 r1 x2 x3 x4=some y:=
 pt_of zT [10,8,7] (by kernel_rfl) h
theorem zBz (r0:(List GMarkEvent)) (r1:(List GMarkEvent)) (x2:List (List AV)) (x3:Int) (x4:Int) {y:AV×Mem} (h:(
 chk ((0:Int)≤x3)<|
 chk ((x3:Int) < ((↑(List.map zab r0).length:Int)))<|
 elemD zaG (List.map zab r0) (0+x3.toNat) fun (c8:GMarkEvent) =>
 chk (x2.length=x2.length)<|
 chk ((x2.length+1)*(88+1)≤1099511627776)<|
 chk ((x2++[[I c8.Stamp.Time,I c8.Stamp.Source,I c8.Stamp.Seq,I c8.Kind,I c8.Script,I c8.Part,I c8.Value,I c8.Marker,AV.sl 1 (List.map zaa c8.Pages)]]).length=(x2++[[I c8.Stamp.Time,I c8.Stamp.Source,I c8.Stamp.Seq,I c8.Kind,I c8.Script,I c8.Part,I c8.Value,I c8.Marker,AV.sl 1 (List.map zaa c8.Pages)]]).length)<|
 zkf r0 r1 (x2++([zab c8])) (w64 (x3+1)) x4)=some y):zjC r0 r1 x2 x3 x4=some y:=
 pt_of zT [10,8,7] (by kernel_rfl) h
theorem zCs (r0:(List GMarkEvent)) (r1:(List GMarkEvent)) (x2:List (List AV)) (x3:Int) (x4:Int) {y:AV×Mem} (h:(
 chk ((0:Int)≤x4)<|
 chk ((x4:Int) < ((↑(List.map zab r1).length:Int)))<|
 elemD zaG (List.map zab r1) (0+x4.toNat) fun (c9:GMarkEvent) =>
 chk (x2.length=x2.length)<|
 chk ((x2.length+1)*(88+1)≤1099511627776)<|
 chk ((x2++[[I c9.Stamp.Time,I c9.Stamp.Source,I c9.Stamp.Seq,I c9.Kind,I c9.Script,I c9.Part,I c9.Value,I c9.Marker,AV.sl 1 (List.map zaa c9.Pages)]]).length=(x2++[[I c9.Stamp.Time,I c9.Stamp.Source,I c9.Stamp.Seq,I c9.Kind,I c9.Script,I c9.Part,I c9.Value,I c9.Marker,AV.sl 1 (List.map zaa c9.Pages)]]).length)<|
 zkf r0 r1 (x2++([zab c9])) x3 (w64 (x4+1)))=some y):zjx r0 r1 x2 x3 x4=some y:=
 pt_of zT [10,8,7] (by kernel_rfl) h
theorem zvt (a0:List GMarkEvent) {y:AV×Mem} (h:(
 brn (decide ((↑(List.map zab a0).length:Int) < 2)) (chk ((List.map zab a0).length*(88+1)≤1099511627776)<|
 chk ((List.map zab a0).length=(List.map zab a0).length)<|
 chk ((List.map zab a0).length=(List.map zab a0).length)<|
 some (AV.new 9 zar (List.map zab a0),[]))
 (chk ((2:Int)≠0)<|
 chk ((0:Int)≤(w64 ((↑(List.map zab a0).length:Int).tdiv 2)))<|
 chk (0≤(w64 ((↑(List.map zab a0).length:Int).tdiv 2)).toNat)<|
 chk ((w64 ((↑(List.map zab a0).length:Int).tdiv 2)).toNat≤(List.map zab a0).length)<|
 callD zkk (cw zmN [AV.sl 9 (List.take ((w64 ((↑(List.map zab a0).length:Int).tdiv 2)).toNat) (List.map zab a0))] []) fun (r0:(List GMarkEvent)) =>
 chk ((2:Int)≠0)<|
 chk ((0:Int)≤(w64 ((↑(List.map zab a0).length:Int).tdiv 2)))<|
 chk ((w64 ((↑(List.map zab a0).length:Int).tdiv 2)).toNat≤(List.map zab a0).length)<|
 chk ((List.map zab a0).length≤(List.map zab a0).length)<|
 callD zkk (cw zmN [AV.sl 9 (List.drop ((w64 ((↑(List.map zab a0).length:Int).tdiv 2)).toNat) (List.take ((List.map zab a0).length) (List.map zab a0)))] []) fun (r1:(List GMarkEvent)) =>
 zkf r0 r1 [] 0 0))=some y):cw zmN [AV.sl 9 (List.map zab a0)] []=some y:=
 zah zmK zT [10,8,7] rfl (by kernel_rfl) (by kernel_rfl) (by kernel_rfl) (by kernel_rfl) (by kernel_rfl) h
end Go.Proofs.YticojpmhlhfhlaaGreat
