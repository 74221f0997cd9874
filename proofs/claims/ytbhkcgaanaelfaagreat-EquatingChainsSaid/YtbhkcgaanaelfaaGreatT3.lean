/- What the functions compute, between two cut points: printed by a program, checked by the kernel. -/
import Derived.Test.YtbhkcgaanaelfaaGreatAnn
namespace Go.Proofs.YtbhkcgaanaelfaaGreat
open Go.Ab
set_option maxRecDepth 100000
set_option linter.unusedVariables false
theorem zn1 (a0:GDistribution) (a1:GDistribution) {y:AV×Mem} (h:(
 callD zfv (cw zet [AV.agg (zae a0),AV.agg (zae a1),AV.fn zcL []] []) fun (r0:GRatio×GRatio×Int) =>
 brn (r0.snd.snd != 0) (some (AV.tup [AV.agg (zao ⟨[]⟩),I r0.snd.snd],[]))
 (callD zcC (cw zb8 [AV.agg (zaa (⟨1,1⟩)),AV.agg (zaa r0.fst),AV.agg (zaa r0.snd.fst)] []) fun (r1:GCurve×Int) =>
 some (AV.tup [AV.agg (zao r1.fst),I r1.snd],[])))=some y):cw zfq [AV.agg (zae a0),AV.agg (zae a1)] []=some y:=
 zai ztB zT [] rfl (by kernel_rfl) (by kernel_rfl) (by kernel_rfl) (by kernel_rfl) (by kernel_rfl) h
theorem zbY (a0:GDistribution) (a1:GDistribution) {y:AV×Mem} (h:(
 callD zfv (cw zet [AV.agg (zae a0),AV.agg (zae a1),AV.fn zck []] []) fun (r0:GRatio×GRatio×Int) =>
 brn (r0.snd.snd != 0) (some (AV.tup [AV.agg (zao ⟨[]⟩),I r0.snd.snd],[]))
 (brn (r0.fst.Num == 0) (some (AV.tup [AV.agg (zao ⟨[]⟩),I 10],[]))
 (brn (r0.snd.fst.Num == 0) (some (AV.tup [AV.agg (zao ⟨[]⟩),I 10],[]))
 (callD zfv (cw zet [AV.agg (zae a0),AV.agg (zae a1),AV.fn zcL []] []) fun (r1:GRatio×GRatio×Int) =>
 brn (r1.snd.snd != 0) (some (AV.tup [AV.agg (zao ⟨[]⟩),I r1.snd.snd],[]))
 (callD zf1 (cw zcV [AV.agg (zaa r0.snd.fst),AV.agg (zaa r0.fst)] []) fun (r2:GRatio×Int) =>
 brn (r2.snd != 0) (some (AV.tup [AV.agg (zao ⟨[]⟩),I r2.snd],[]))
 (callD zcC (cw zb8 [AV.agg (zaa r2.fst),AV.agg (zaa r1.fst),AV.agg (zaa r1.snd.fst)] []) fun (r3:GCurve×Int) =>
 some (AV.tup [AV.agg (zao r3.fst),I r3.snd],[])))))))=some y):cw zeI [AV.agg (zae a0),AV.agg (zae a1)] []=some y:=
 zai zr5 zT [] rfl (by kernel_rfl) (by kernel_rfl) (by kernel_rfl) (by kernel_rfl) (by kernel_rfl) h
theorem zhC (a0:GDistribution) (a1:GDistribution) {y:AV×Mem} (h:(
 callD zfD (cw zgE [AV.agg (zae a0)] []) fun (r0:Bool) =>
 brn (!r0) (some (AV.tup [AV.agg (zao ⟨[]⟩),I 1],[]))
 (callD zfD (cw zgE [AV.agg (zae a1)] []) fun (r1:Bool) =>
 brn (!r1) (some (AV.tup [AV.agg (zao ⟨[]⟩),I 1],[]))
 (callD zji (cw zfl [AV.agg (zae a0)] []) fun (r2:GRatio×Int) =>
 callD zji (cw zfl [AV.agg (zae a1)] []) fun (r3:GRatio×Int) =>
 brn (r2.snd != 0) (some (AV.tup [AV.agg (zao ⟨[]⟩),I 10],[]))
 (brn (r3.snd != 0) (some (AV.tup [AV.agg (zao ⟨[]⟩),I 10],[]))
 (callD zfG (cw zhi [AV.agg (zae a0)] []) fun (r4:GRatio×Int) =>
 callD zfG (cw zhi [AV.agg (zae a1)] []) fun (r5:GRatio×Int) =>
 brn (r4.snd != 0) (some (AV.tup [AV.agg (zao ⟨[]⟩),I 6],[]))
 (brn (r5.snd != 0) (some (AV.tup [AV.agg (zao ⟨[]⟩),I 6],[]))
 (brn (r4.fst.Num == 0) (some (AV.tup [AV.agg (zao ⟨[]⟩),I 10],[]))
 (brn (r5.fst.Num == 0) (some (AV.tup [AV.agg (zao ⟨[]⟩),I 10],[]))
 (callD zkb (cw zl7 [AV.agg (zaa r5.fst),AV.agg (zaa r4.fst)] []) fun (r6:GRatio×Int) =>
 brn (r6.snd != 0) (some (AV.tup [AV.agg (zao ⟨[]⟩),I r6.snd],[]))
 (callD zfu (cw zgI [AV.agg (zaa r6.fst),AV.agg (zaa r2.fst),AV.agg (zaa r3.fst)] []) fun (r7:GCurve×Int) =>
 some (AV.tup [AV.agg (zao r7.fst),I r7.snd],[])))))))))))=some y):cw zlL [AV.agg (zae a0),AV.agg (zae a1)] []=some y:=
 zai zuH zT [] rfl (by kernel_rfl) (by kernel_rfl) (by kernel_rfl) (by kernel_rfl) (by kernel_rfl) h
noncomputable def zdI (a0:GDistribution) (a1:GDistribution) (r4:(List Int)) (r5:(List Int)) (c6:Int) (c7:Int) (x8:List (List AV)) (x9:Int) (x10:Int):Option (AV×Mem):=pt zct 1 ⟨[(2,AV.loc 2 1 0 0),(3,AV.loc 3 1 0 0),(4,AV.loc 4 1 0 0),(6,AV.row 40 1 0 (List.length (List.map zaj r4))),(7,AV.row 42 1 0 (List.length (List.map zaj r5))),(8,I c6),(9,I c7),(11,AV.row 11 4 0 (List.length x8)),(12,I x9),(13,I x10)],[(2,⟨1,zaG,[zae a0],true⟩),(3,⟨1,zaG,[zae a1],true⟩),(4,⟨1,zba,[[AV.v (.slice none 0 0)]],true⟩),(11,⟨4,za0,x8,false⟩),(40,⟨1,zaF,List.map zaj r4,false⟩),(42,⟨1,zaF,List.map zaj r5,false⟩)]⟩
noncomputable def zd4 (a0:GDistribution) (a1:GDistribution) (r4:(List Int)) (r5:(List Int)) (c6:Int) (c7:Int) (x10:Int) (x15:List (List AV)) (x16:Int) (x17:Int) (x18:Int) (x19:Int):Option (AV×Mem):=pt zct 1015 ⟨[(2,AV.loc 2 1 0 0),(3,AV.loc 3 1 0 0),(4,AV.loc 4 1 0 0),(6,AV.row 40 1 0 (List.length (List.map zaj r4))),(7,AV.row 42 1 0 (List.length (List.map zaj r5))),(8,I c6),(9,I c7),(11,AV.row 11 4 0 (List.length x15)),(12,I x16),(13,I x10),(14,I x17),(15,I x18),(16,I x19),(17,I c7)],[(2,⟨1,zaG,[zae a0],true⟩),(3,⟨1,zaG,[zae a1],true⟩),(4,⟨1,zba,[[AV.v (.slice none 0 0)]],true⟩),(11,⟨4,za0,x15,false⟩),(40,⟨1,zaF,List.map zaj r4,false⟩),(42,⟨1,zaF,List.map zaj r5,false⟩)]⟩
noncomputable def zdG (a0:GDistribution) (a1:GDistribution) (r4:(List Int)) (r5:(List Int)) (c6:Int) (c7:Int) (x10:Int) (x20:List (List AV)) (x21:Int) (x22:Int) (x23:Int) (x24:Int):Option (AV×Mem):=pt zct 1015 ⟨[(2,AV.loc 2 1 0 0),(3,AV.loc 3 1 0 0),(4,AV.loc 4 1 0 0),(6,AV.row 40 1 0 (List.length (List.map zaj r4))),(7,AV.row 42 1 0 (List.length (List.map zaj r5))),(8,I c6),(9,I c7),(11,AV.row 11 4 0 (List.length x20)),(12,I x21),(13,I x10),(14,I x22),(15,I x23),(16,I x24),(17,I c6),(94,B false)],[(2,⟨1,zaG,[zae a0],true⟩),(3,⟨1,zaG,[zae a1],true⟩),(4,⟨1,zba,[[AV.v (.slice none 0 0)]],true⟩),(11,⟨4,za0,x20,false⟩),(40,⟨1,zaF,List.map zaj r4,false⟩),(42,⟨1,zaF,List.map zaj r5,false⟩)]⟩
noncomputable def zcz (a0:GDistribution) (a1:GDistribution) (r4:(List Int)) (r5:(List Int)) (c6:Int) (c7:Int) (x10:Int) (x25:List (List AV)) (x26:Int):Option (AV×Mem):=pt zct 1026 ⟨[(2,AV.loc 2 1 0 0),(3,AV.loc 3 1 0 0),(4,AV.loc 4 1 0 0),(6,AV.row 40 1 0 (List.length (List.map zaj r4))),(7,AV.row 42 1 0 (List.length (List.map zaj r5))),(8,I c6),(9,I c7),(11,AV.row 11 4 0 (List.length x25)),(12,I x26),(13,I x10),(71,B false)],[(2,⟨1,zaG,[zae a0],true⟩),(3,⟨1,zaG,[zae a1],true⟩),(4,⟨1,zba,[[AV.v (.slice none 0 0)]],true⟩),(11,⟨4,za0,x25,false⟩),(40,⟨1,zaF,List.map zaj r4,false⟩),(42,⟨1,zaF,List.map zaj r5,false⟩)]⟩
noncomputable def zc2 (a0:GDistribution) (a1:GDistribution) (r4:(List Int)) (r5:(List Int)) (c6:Int) (c7:Int) (x10:Int) (x29:List (List AV)) (x30:Int) (x31:Int) (x32:Int):Option (AV×Mem):=pt zct 1024 ⟨[(2,AV.loc 2 1 0 0),(3,AV.loc 3 1 0 0),(4,AV.loc 4 1 0 0),(6,AV.row 40 1 0 (List.length (List.map zaj r4))),(7,AV.row 42 1 0 (List.length (List.map zaj r5))),(8,I c6),(9,I c7),(11,AV.row 11 4 0 (List.length x29)),(12,I x30),(13,I x10),(14,I x31),(15,I x32)],[(2,⟨1,zaG,[zae a0],true⟩),(3,⟨1,zaG,[zae a1],true⟩),(4,⟨1,zba,[[AV.v (.slice none 0 0)]],true⟩),(11,⟨4,za0,x29,false⟩),(40,⟨1,zaF,List.map zaj r4,false⟩),(42,⟨1,zaF,List.map zaj r5,false⟩)]⟩
noncomputable def zcS (a0:GDistribution) (a1:GDistribution) (r4:(List Int)) (r5:(List Int)) (c6:Int) (c7:Int) (x10:Int) (x33:List (List AV)) (x34:Int) (x35:Int) (x36:Int):Option (AV×Mem):=pt zct 1024 ⟨[(2,AV.loc 2 1 0 0),(3,AV.loc 3 1 0 0),(4,AV.loc 4 1 0 0),(6,AV.row 40 1 0 (List.length (List.map zaj r4))),(7,AV.row 42 1 0 (List.length (List.map zaj r5))),(8,I c6),(9,I c7),(11,AV.row 11 4 0 (List.length x33)),(12,I x34),(13,I x10),(14,I x35),(15,I x36),(133,B false)],[(2,⟨1,zaG,[zae a0],true⟩),(3,⟨1,zaG,[zae a1],true⟩),(4,⟨1,zba,[[AV.v (.slice none 0 0)]],true⟩),(11,⟨4,za0,x33,false⟩),(40,⟨1,zaF,List.map zaj r4,false⟩),(42,⟨1,zaF,List.map zaj r5,false⟩)]⟩
noncomputable def zeh (a0:GDistribution) (a1:GDistribution) (r4:(List Int)) (r5:(List Int)) (c6:Int) (c7:Int) (x10:Int) (x40:List (List AV)) (x41:Int):Option (AV×Mem):=pt zct 1 ⟨[(2,AV.loc 2 1 0 0),(3,AV.loc 3 1 0 0),(4,AV.loc 4 1 0 0),(6,AV.row 40 1 0 (List.length (List.map zaj r4))),(7,AV.row 42 1 0 (List.length (List.map zaj r5))),(8,I c6),(9,I c7),(11,AV.row 11 4 0 (List.length x40)),(12,I x41),(13,I x10),(138,B false)],[(2,⟨1,zaG,[zae a0],true⟩),(3,⟨1,zaG,[zae a1],true⟩),(4,⟨1,zba,[[AV.v (.slice none 0 0)]],true⟩),(11,⟨4,za0,x40,false⟩),(40,⟨1,zaF,List.map zaj r4,false⟩),(42,⟨1,zaF,List.map zaj r5,false⟩)]⟩
theorem zgv (a0:GDistribution) (a1:GDistribution) (r4:(List Int)) (r5:(List Int)) (c6:Int) (c7:Int) (x8:List (List AV)) (x9:Int) (x10:Int) {y:AV×Mem} (h:(
 brn (decide (x9 < (↑(List.map zaj a0.Counts).length:Int))) (brn (decide (x10 < (↑(List.map zaj a1.Counts).length:Int))) (chk ((0:Int)≤(w64 (x9+1)))<|
 chk ((w64 (x9+1):Int) < ((↑(List.map zaj r4).length:Int)))<|
 elemD zay (List.map zaj r4) (0+(w64 (x9+1)).toNat) fun (c11:Int) =>
 chk ((0:Int)≤(w64 (x10+1)))<|
 chk ((w64 (x10+1):Int) < ((↑(List.map zaj r5).length:Int)))<|
 elemD zay (List.map zaj r5) (0+(w64 (x10+1)).toNat) fun (c12:Int) =>
 chk ((0:Int)≤(w64 (x9+1)))<|
 chk ((w64 (x9+1):Int) < ((↑(List.map zaj r4).length:Int)))<|
 elemD zay (List.map zaj r4) (0+(w64 (x9+1)).toNat) fun (c13:Int) =>
 brn (decide (w64 (c12*c6) < w64 (c11*c7))) (chk ((0:Int)≤(w64 (x10+1)))<|
 chk ((w64 (x10+1):Int) < ((↑(List.map zaj r5).length:Int)))<|
 elemD zay (List.map zaj r5) (0+(w64 (x10+1)).toNat) fun (c14:Int) =>
 zd4 a0 a1 r4 r5 c6 c7 x10 x8 x9 (w64 (c11*c7)) (w64 (c12*c6)) c14)
 (zdG a0 a1 r4 r5 c6 c7 x10 x8 x9 (w64 (c11*c7)) (w64 (c12*c6)) c13))
 (zcz a0 a1 r4 r5 c6 c7 x10 x8 x9))
 (zcz a0 a1 r4 r5 c6 c7 x10 x8 x9))=some y):zdI a0 a1 r4 r5 c6 c7 x8 x9 x10=some y:=
 pt_of zT [26,24,15] (by kernel_rfl) h
theorem zmj (a0:GDistribution) (a1:GDistribution) (r4:(List Int)) (r5:(List Int)) (c6:Int) (c7:Int) (x10:Int) (x15:List (List AV)) (x16:Int) (x17:Int) (x18:Int) (x19:Int) {y:AV×Mem} (h:(
 chk (0+(List.map zaj r4).length≤(List.map zaj r4).length)<|
 callD zdK (cw zeF [AV.sl 1 (List.take ((List.map zaj r4).length) (List.map zaj r4)),I x16,I x19,I c7] []) fun (r27:GRatio×Int) =>
 brn (r27.snd != 0) (some (AV.tup [AV.agg (zao ⟨[]⟩),I r27.snd],[]))
 (chk (0+(List.map zaj r5).length≤(List.map zaj r5).length)<|
 callD zdK (cw zeF [AV.sl 1 (List.take ((List.map zaj r5).length) (List.map zaj r5)),I x10,I x19,I c7] []) fun (r28:GRatio×Int) =>
 brn (r28.snd != 0) (some (AV.tup [AV.agg (zao ⟨[]⟩),I r28.snd],[]))
 (chk (x15.length=x15.length)<|
 chk ((x15.length+1)*(32+1)≤1099511627776)<|
 chk ((x15++[[I r27.fst.Num,I r27.fst.Den,I r28.fst.Num,I r28.fst.Den]]).length=(x15++[[I r27.fst.Num,I r27.fst.Den,I r28.fst.Num,I r28.fst.Den]]).length)<|
 brn (decide (x17≤x18)) (zc2 a0 a1 r4 r5 c6 c7 x10 (x15++([zak (⟨⟨r27.fst.Num,r27.fst.Den⟩,⟨r28.fst.Num,r28.fst.Den⟩⟩)])) (w64 (x16+1)) x17 x18)
 (zcS a0 a1 r4 r5 c6 c7 x10 (x15++([zak (⟨⟨r27.fst.Num,r27.fst.Den⟩,⟨r28.fst.Num,r28.fst.Den⟩⟩)])) x16 x17 x18))))=some y):zd4 a0 a1 r4 r5 c6 c7 x10 x15 x16 x17 x18 x19=some y:=
 pt_of zT [26,24,15] (by kernel_rfl) h
theorem zlK (a0:GDistribution) (a1:GDistribution) (r4:(List Int)) (r5:(List Int)) (c6:Int) (c7:Int) (x10:Int) (x20:List (List AV)) (x21:Int) (x22:Int) (x23:Int) (x24:Int) {y:AV×Mem} (h:(
 chk (0+(List.map zaj r4).length≤(List.map zaj r4).length)<|
 callD zdK (cw zeF [AV.sl 1 (List.take ((List.map zaj r4).length) (List.map zaj r4)),I x21,I x24,I c6] []) fun (r37:GRatio×Int) =>
 brn (r37.snd != 0) (some (AV.tup [AV.agg (zao ⟨[]⟩),I r37.snd],[]))
 (chk (0+(List.map zaj r5).length≤(List.map zaj r5).length)<|
 callD zdK (cw zeF [AV.sl 1 (List.take ((List.map zaj r5).length) (List.map zaj r5)),I x10,I x24,I c6] []) fun (r38:GRatio×Int) =>
 brn (r38.snd != 0) (some (AV.tup [AV.agg (zao ⟨[]⟩),I r38.snd],[]))
 (chk (x20.length=x20.length)<|
 chk ((x20.length+1)*(32+1)≤1099511627776)<|
 chk ((x20++[[I r37.fst.Num,I r37.fst.Den,I r38.fst.Num,I r38.fst.Den]]).length=(x20++[[I r37.fst.Num,I r37.fst.Den,I r38.fst.Num,I r38.fst.Den]]).length)<|
 brn (decide (x22≤x23)) (zc2 a0 a1 r4 r5 c6 c7 x10 (x20++([zak (⟨⟨r37.fst.Num,r37.fst.Den⟩,⟨r38.fst.Num,r38.fst.Den⟩⟩)])) (w64 (x21+1)) x22 x23)
 (zcS a0 a1 r4 r5 c6 c7 x10 (x20++([zak (⟨⟨r37.fst.Num,r37.fst.Den⟩,⟨r38.fst.Num,r38.fst.Den⟩⟩)])) x21 x22 x23))))=some y):zdG a0 a1 r4 r5 c6 c7 x10 x20 x21 x22 x23 x24=some y:=
 pt_of zT [26,24,15] (by kernel_rfl) h
theorem zmq (a0:GDistribution) (a1:GDistribution) (r4:(List Int)) (r5:(List Int)) (c6:Int) (c7:Int) (x10:Int) (x25:List (List AV)) (x26:Int) {y:AV×Mem} (h:(
 chk (0+x25.length≤x25.length)<|
 callD zeU (cw zgp [AV.agg [AV.sl 4 (List.take x25.length x25)]] []) fun (r39:GCurve×Int) =>
 chk (0+x25.length≤x25.length)<|
 chk (0+x25.length≤x25.length)<|
 chk (0+x25.length≤x25.length)<|
 some (AV.tup [AV.agg (zao r39.fst),I r39.snd],[]))=some y):zcz a0 a1 r4 r5 c6 c7 x10 x25 x26=some y:=
 pt_of zT [26,24,15] (by kernel_rfl) h
theorem zmk (a0:GDistribution) (a1:GDistribution) (r4:(List Int)) (r5:(List Int)) (c6:Int) (c7:Int) (x10:Int) (x29:List (List AV)) (x30:Int) (x31:Int) (x32:Int) {y:AV×Mem} (h:(
 brn (decide (x32≤x31)) (zdI a0 a1 r4 r5 c6 c7 x29 x30 (w64 (x10+1)))
 (zeh a0 a1 r4 r5 c6 c7 x10 x29 x30))=some y):zc2 a0 a1 r4 r5 c6 c7 x10 x29 x30 x31 x32=some y:=
 pt_of zT [26,24,15] (by kernel_rfl) h
theorem zlS (a0:GDistribution) (a1:GDistribution) (r4:(List Int)) (r5:(List Int)) (c6:Int) (c7:Int) (x10:Int) (x33:List (List AV)) (x34:Int) (x35:Int) (x36:Int) {y:AV×Mem} (h:(
 brn (decide (x36≤x35)) (zdI a0 a1 r4 r5 c6 c7 x33 x34 (w64 (x10+1)))
 (zeh a0 a1 r4 r5 c6 c7 x10 x33 x34))=some y):zcS a0 a1 r4 r5 c6 c7 x10 x33 x34 x35 x36=some y:=
 pt_of zT [26,24,15] (by kernel_rfl) h
theorem zfO (a0:GDistribution) (a1:GDistribution) (r4:(List Int)) (r5:(List Int)) (c6:Int) (c7:Int) (x10:Int) (x40:List (List AV)) (x41:Int) {y:AV×Mem} (h:(
 brn (decide (x41 < (↑(List.map zaj a0.Counts).length:Int))) (brn (decide (x10 < (↑(List.map zaj a1.Counts).length:Int))) (chk ((0:Int)≤(w64 (x41+1)))<|
 chk ((w64 (x41+1):Int) < ((↑(List.map zaj r4).length:Int)))<|
 elemD zay (List.map zaj r4) (0+(w64 (x41+1)).toNat) fun (c42:Int) =>
 chk ((0:Int)≤(w64 (x10+1)))<|
 chk ((w64 (x10+1):Int) < ((↑(List.map zaj r5).length:Int)))<|
 elemD zay (List.map zaj r5) (0+(w64 (x10+1)).toNat) fun (c43:Int) =>
 chk ((0:Int)≤(w64 (x41+1)))<|
 chk ((w64 (x41+1):Int) < ((↑(List.map zaj r4).length:Int)))<|
 elemD zay (List.map zaj r4) (0+(w64 (x41+1)).toNat) fun (c44:Int) =>
 brn (decide (w64 (c43*c6) < w64 (c42*c7))) (chk ((0:Int)≤(w64 (x10+1)))<|
 chk ((w64 (x10+1):Int) < ((↑(List.map zaj r5).length:Int)))<|
 elemD zay (List.map zaj r5) (0+(w64 (x10+1)).toNat) fun (c45:Int) =>
 zd4 a0 a1 r4 r5 c6 c7 x10 x40 x41 (w64 (c42*c7)) (w64 (c43*c6)) c45)
 (zdG a0 a1 r4 r5 c6 c7 x10 x40 x41 (w64 (c42*c7)) (w64 (c43*c6)) c44))
 (zcz a0 a1 r4 r5 c6 c7 x10 x40 x41))
 (zcz a0 a1 r4 r5 c6 c7 x10 x40 x41))=some y):zeh a0 a1 r4 r5 c6 c7 x10 x40 x41=some y:=
 pt_of zT [26,24,15] (by kernel_rfl) h
theorem zoS (a0:GDistribution) (a1:GDistribution) {y:AV×Mem} (h:(
 callD zbm (cw zbC [AV.agg (zae a0)] []) fun (r0:Bool) =>
 brn (!r0) (some (AV.tup [AV.agg (zao ⟨[]⟩),I 1],[]))
 (callD zbm (cw zbC [AV.agg (zae a1)] []) fun (r1:Bool) =>
 brn (!r1) (some (AV.tup [AV.agg (zao ⟨[]⟩),I 1],[]))
 (callD zdi (cw zeg [AV.sl 1 (List.map zaj a0.Counts),I 0] []) fun (r2:Bool) =>
 brn r2 (some (AV.tup [AV.agg (zao ⟨[]⟩),I 10],[]))
 (callD zdi (cw zeg [AV.sl 1 (List.map zaj a1.Counts),I 0] []) fun (r3:Bool) =>
 brn r3 (some (AV.tup [AV.agg (zao ⟨[]⟩),I 10],[]))
 (callD zgR (cw ziR [AV.agg (zae a0)] []) fun (r4:(List Int)) =>
 callD zgR (cw ziR [AV.agg (zae a1)] []) fun (r5:(List Int)) =>
 chk ((0:Int)≤(w64 ((↑(List.map zaj r4).length:Int) - 1)))<|
 chk ((w64 ((↑(List.map zaj r4).length:Int) - 1):Int) < ((↑(List.map zaj r4).length:Int)))<|
 elemD zay (List.map zaj r4) (0+(w64 ((↑(List.map zaj r4).length:Int) - 1)).toNat) fun (c6:Int) =>
 chk ((0:Int)≤(w64 ((↑(List.map zaj r5).length:Int) - 1)))<|
 chk ((w64 ((↑(List.map zaj r5).length:Int) - 1):Int) < ((↑(List.map zaj r5).length:Int)))<|
 elemD zay (List.map zaj r5) (0+(w64 ((↑(List.map zaj r5).length:Int) - 1)).toNat) fun (c7:Int) =>
 chk (1=1)<|
 zdI a0 a1 r4 r5 c6 c7 ([zak (⟨⟨-1,2⟩,⟨-1,2⟩⟩)]) 0 0)))))=some y):cw zef [AV.agg (zae a0),AV.agg (zae a1)] []=some y:=
 zai zct zT [26,24,15] rfl (by kernel_rfl) (by kernel_rfl) (by kernel_rfl) (by kernel_rfl) (by kernel_rfl) h
end Go.Proofs.YtbhkcgaanaelfaaGreat
