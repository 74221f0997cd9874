/- What the functions compute, between two cut points: printed by a program, checked by the kernel. -/
import Derived.Test.YtbhkcgaanaelfaaGreatAnn
namespace Go.Proofs.YtbhkcgaanaelfaaGreat
open Go.Ab
set_option maxRecDepth 100000
set_option linter.unusedVariables false
theorem zsT (a0:GmarkDice) (a1:List Int) {y:AV×Mem} (h:(
 callD zeY (cw zgh [AV.loc 1000 2 0 0,I ((↑(List.map zaj a1).length:Int))] [(1000,⟨2,zar,[zbu a0],true⟩)]) fun (r0:Int×GmarkDice) =>
 chk (0≤r0.fst)<|
 elemD zay (List.map zaj a1) (Int.toNat r0.fst) fun (c1:Int) =>
 some (I c1,[(1000,⟨2,zar,[zbu r0.snd],true⟩)]))=some y):cw zkO [AV.loc 1000 2 0 0,AV.sl 1 (List.map zaj a1)] [(1000,⟨2,zar,[zbu a0],true⟩)]=some y:=
 zai zs0 zT [] rfl (by kernel_rfl) (by kernel_rfl) (by kernel_rfl) (by kernel_rfl) (by kernel_rfl) h
noncomputable def zi9 (a0:List GPoint) (r0:(List GPoint)×Int) (r5:GRatio×GconversionSteps) (r8:GRatio×GconversionSteps):Option (AV×Mem):=pt ziA 1009 ⟨[(0,AV.sl 4 (List.map zak a0)),(2,AV.loc 2 1 0 0),(4,AV.sl 4 (List.map zak r0.fst)),(6,AV.loc 6 1 0 0),(7,AV.loc 7 2 0 0),(8,AV.loc 8 2 0 0)],[(2,⟨1,zba,[[AV.v (.slice none 0 0)]],true⟩),(6,⟨1,zap,[zaw r8.snd],true⟩),(7,⟨2,zac,[zaa r5.fst],true⟩),(8,⟨2,zac,[zaa r8.fst],true⟩)]⟩
noncomputable def zik (a0:List GPoint) (r0:(List GPoint)×Int) (r1:GRatio) (r2:GRatio):Option (AV×Mem):=pt ziA 1009 ⟨[(0,AV.sl 4 (List.map zak a0)),(2,AV.loc 2 1 0 0),(4,AV.sl 4 (List.map zak r0.fst)),(6,AV.loc 6 1 0 0),(7,AV.loc 7 2 0 0),(8,AV.loc 8 2 0 0),(24,B false)],[(2,⟨1,zba,[[AV.v (.slice none 0 0)]],true⟩),(6,⟨1,zap,[zaw ⟨0⟩],true⟩),(7,⟨2,zac,[zaa r1],true⟩),(8,⟨2,zac,[zaa r2],true⟩)]⟩
theorem zgm (a0:List GPoint) (r0:(List GPoint)×Int) (r5:GRatio×GconversionSteps) (r8:GRatio×GconversionSteps) {y:AV×Mem} (h:(
 brn (r8.snd.e != 0) (some (AV.tup [AV.agg (zao ⟨[]⟩),I r8.snd.e],[]))
 (callD zb2 (cw zb6 [AV.sl 4 (List.map zak a0),AV.agg (zaa r5.fst)] []) fun (r9:GPoint×Int) =>
 brn (r9.snd != 0) (some (AV.tup [AV.agg (zao ⟨[]⟩),I r9.snd],[]))
 (callD zb2 (cw zb6 [AV.sl 4 (List.map zak a0),AV.agg (zaa r8.fst)] []) fun (r10:GPoint×Int) =>
 brn (r10.snd != 0) (some (AV.tup [AV.agg (zao ⟨[]⟩),I r10.snd],[]))
 (brn (decide (410 < w64 ((↑(List.map zak r0.fst).length:Int)+2))) (some (AV.tup [AV.agg (zao ⟨[]⟩),I 3],[]))
 (chk (1=1)<|
 chk ((1+(List.map zak r0.fst).length)*(32+1)≤1099511627776)<|
 chk (([[I r9.fst.X.Num,I r9.fst.X.Den,I r9.fst.Y.Num,I r9.fst.Y.Den]]++List.map zak r0.fst).length=([[I r9.fst.X.Num,I r9.fst.X.Den,I r9.fst.Y.Num,I r9.fst.Y.Den]]++List.map zak r0.fst).length)<|
 chk ((([[I r9.fst.X.Num,I r9.fst.X.Den,I r9.fst.Y.Num,I r9.fst.Y.Den]]++List.map zak r0.fst).length+1)*(32+1)≤1099511627776)<|
 chk (0+([[I r9.fst.X.Num,I r9.fst.X.Den,I r9.fst.Y.Num,I r9.fst.Y.Den]]++List.map zak r0.fst++[[I r10.fst.X.Num,I r10.fst.X.Den,I r10.fst.Y.Num,I r10.fst.Y.Den]]).length≤([[I r9.fst.X.Num,I r9.fst.X.Den,I r9.fst.Y.Num,I r9.fst.Y.Den]]++List.map zak r0.fst++[[I r10.fst.X.Num,I r10.fst.X.Den,I r10.fst.Y.Num,I r10.fst.Y.Den]]).length)<|
 some (AV.tup [AV.agg [AV.sl 4 (List.take (([[I r9.fst.X.Num,I r9.fst.X.Den,I r9.fst.Y.Num,I r9.fst.Y.Den]]++List.map zak r0.fst++[[I r10.fst.X.Num,I r10.fst.X.Den,I r10.fst.Y.Num,I r10.fst.Y.Den]]).length) ((([[I r9.fst.X.Num,I r9.fst.X.Den,I r9.fst.Y.Num,I r9.fst.Y.Den]])++(List.map zak r0.fst))++([[I r10.fst.X.Num,I r10.fst.X.Den,I r10.fst.Y.Num,I r10.fst.Y.Den]])))],I 0],[]))))))=some y):zi9 a0 r0 r5 r8=some y:=
 pt_of zT [9] (by kernel_rfl) h
theorem zmx (a0:List GPoint) (r0:(List GPoint)×Int) (r1:GRatio) (r2:GRatio) {y:AV×Mem} (h:(
 callD zb2 (cw zb6 [AV.sl 4 (List.map zak a0),AV.agg (zaa r1)] []) fun (r11:GPoint×Int) =>
 brn (r11.snd != 0) (some (AV.tup [AV.agg (zao ⟨[]⟩),I r11.snd],[]))
 (callD zb2 (cw zb6 [AV.sl 4 (List.map zak a0),AV.agg (zaa r2)] []) fun (r12:GPoint×Int) =>
 brn (r12.snd != 0) (some (AV.tup [AV.agg (zao ⟨[]⟩),I r12.snd],[]))
 (brn (decide (410 < w64 ((↑(List.map zak r0.fst).length:Int)+2))) (some (AV.tup [AV.agg (zao ⟨[]⟩),I 3],[]))
 (chk (1=1)<|
 chk ((1+(List.map zak r0.fst).length)*(32+1)≤1099511627776)<|
 chk (([[I r11.fst.X.Num,I r11.fst.X.Den,I r11.fst.Y.Num,I r11.fst.Y.Den]]++List.map zak r0.fst).length=([[I r11.fst.X.Num,I r11.fst.X.Den,I r11.fst.Y.Num,I r11.fst.Y.Den]]++List.map zak r0.fst).length)<|
 chk ((([[I r11.fst.X.Num,I r11.fst.X.Den,I r11.fst.Y.Num,I r11.fst.Y.Den]]++List.map zak r0.fst).length+1)*(32+1)≤1099511627776)<|
 chk (0+([[I r11.fst.X.Num,I r11.fst.X.Den,I r11.fst.Y.Num,I r11.fst.Y.Den]]++List.map zak r0.fst++[[I r12.fst.X.Num,I r12.fst.X.Den,I r12.fst.Y.Num,I r12.fst.Y.Den]]).length≤([[I r11.fst.X.Num,I r11.fst.X.Den,I r11.fst.Y.Num,I r11.fst.Y.Den]]++List.map zak r0.fst++[[I r12.fst.X.Num,I r12.fst.X.Den,I r12.fst.Y.Num,I r12.fst.Y.Den]]).length)<|
 some (AV.tup [AV.agg [AV.sl 4 (List.take (([[I r11.fst.X.Num,I r11.fst.X.Den,I r11.fst.Y.Num,I r11.fst.Y.Den]]++List.map zak r0.fst++[[I r12.fst.X.Num,I r12.fst.X.Den,I r12.fst.Y.Num,I r12.fst.Y.Den]]).length) ((([[I r11.fst.X.Num,I r11.fst.X.Den,I r11.fst.Y.Num,I r11.fst.Y.Den]])++(List.map zak r0.fst))++([[I r12.fst.X.Num,I r12.fst.X.Den,I r12.fst.Y.Num,I r12.fst.Y.Den]])))],I 0],[])))))=some y):zik a0 r0 r1 r2=some y:=
 pt_of zT [9] (by kernel_rfl) h
theorem zqA (a0:List GPoint) {y:AV×Mem} (h:(
 callD zgS (cw zgV [AV.sl 4 (List.map zak a0)] []) fun (r0:(List GPoint)×Int) =>
 brn (r0.snd != 0) (some (AV.tup [AV.agg (zao ⟨[]⟩),I r0.snd],[]))
 (callD zcD (cw zcW [I 0] []) fun (r1:GRatio) =>
 callD zcD (cw zcW [I 1] []) fun (r2:GRatio) =>
 brn (decide (0 < (↑(List.map zak r0.fst).length:Int))) (chk ((0:Int)≤0)<|
 elemD zaB (List.map zak r0.fst) (Int.toNat 0) fun (c3:GPoint) =>
 callD zcD (cw zcW [I 1] []) fun (r4:GRatio) =>
 callD zav (cw zan [AV.loc 1000 1 0 0,AV.fn zbD [],AV.agg (zaa c3.X),AV.agg (zaa r4)] [(1000,⟨1,zap,[zaw ⟨0⟩],true⟩)]) fun (r5:GRatio×GconversionSteps) =>
 chk ((0:Int)≤(w64 ((↑(List.map zak r0.fst).length:Int) - 1)))<|
 elemD zaB (List.map zak r0.fst) ((w64 ((↑(List.map zak r0.fst).length:Int) - 1)).toNat) fun (c6:GPoint) =>
 callD zcD (cw zcW [I 1] []) fun (r7:GRatio) =>
 callD zav (cw zan [AV.loc 1000 1 0 0,AV.fn zcH [],AV.agg (zaa c6.X),AV.agg (zaa r7)] [(1000,⟨1,zap,[zaw r5.snd],true⟩)]) fun (r8:GRatio×GconversionSteps) =>
 zi9 a0 r0 r5 r8)
 (zik a0 r0 r1 r2)))=some y):cw zeR [AV.sl 4 (List.map zak a0)] []=some y:=
 zai ziA zT [9] rfl (by kernel_rfl) (by kernel_rfl) (by kernel_rfl) (by kernel_rfl) (by kernel_rfl) h
noncomputable def zdz (a0:List GPoint) (x0:Int):Option (AV×Mem):=pt zkp 1 ⟨[(0,AV.sl 4 (List.map zak a0)),(5,AV.sl 4 (List.map zak a0)),(6,I ((↑(List.map zak a0).length:Int))),(7,I x0)],[]⟩
theorem zjl (a0:List GPoint) (x0:Int) {y:AV×Mem} (h:(
 brn (decide (x0 < (↑(List.map zak a0).length:Int))) (chk ((0:Int)≤x0)<|
 elemD zaB (List.map zak a0) x0.toNat fun (c1:GPoint) =>
 callD zbc (cw zbi [AV.agg (zaa c1.X)] []) fun (r2:Bool) =>
 brn (!r2) (some (B false,[]))
 (callD zbc (cw zbi [AV.agg (zaa c1.Y)] []) fun (r3:Bool) =>
 brn (!r3) (some (B false,[]))
 (brn (decide (0 < x0)) (chk ((0:Int)≤(w64 (x0 - 1)))<|
 elemD zaB (List.map zak a0) ((w64 (x0 - 1)).toNat) fun (c4:GPoint) =>
 callD zjm (cw zlg [AV.agg (zaa c4.X),AV.agg (zaa c1.X)] []) fun (r5:Bool) =>
 brn (!r5) (some (B false,[]))
 (chk ((0:Int)≤(w64 (x0 - 1)))<|
 elemD zaB (List.map zak a0) ((w64 (x0 - 1)).toNat) fun (c6:GPoint) =>
 callD zjm (cw zlg [AV.agg (zaa c6.Y),AV.agg (zaa c1.Y)] []) fun (r7:Bool) =>
 brn (!r7) (some (B false,[]))
 (zdz a0 (w64 (x0+1)))))
 (zdz a0 (w64 (x0+1))))))
 (some (B true,[])))=some y):zdz a0 x0=some y:=
 pt_of zT [] (by kernel_rfl) h
theorem zok (a0:List GPoint) {y:AV×Mem} (h:(
 zdz a0 0)=some y):cw zj5 [AV.sl 4 (List.map zak a0)] []=some y:=
 zai zkp zT [] rfl (by kernel_rfl) (by kernel_rfl) (by kernel_rfl) (by kernel_rfl) (by kernel_rfl) h
noncomputable def zel (a0:List GPoint) (x0:List (List AV)) (x1:Int):Option (AV×Mem):=pt zkk 1 ⟨[(3,AV.row 8 4 0 ((List.replicate (↑(List.map zak a0).length:Int).toNat (I 0 :: I 0 :: I 0 :: I 0 :: List.map AV.v [])).length)),(9,AV.sl 4 (List.map zak a0)),(10,I ((↑(List.map zak a0).length:Int))),(11,I x1)],[(8,⟨4,za0,x0,false⟩)]⟩
theorem zjw (a0:List GPoint) (x0:List (List AV)) (x1:Int) {y:AV×Mem} (h:(
 brn (decide (x1 < (↑(List.map zak a0).length:Int))) (chk ((0:Int)≤x1)<|
 elemD zaB (List.map zak a0) x1.toNat fun (c2:GPoint) =>
 chk ((0:Int)≤x1)<|
 chk ((x1:Int) < ((↑(List.replicate (↑(List.map zak a0).length:Int).toNat (I 0 :: I 0 :: I 0 :: I 0 :: List.map AV.v [])).length:Int)))<|
 elemD zaB x0 (0+x1.toNat) fun (c3:GPoint) =>
 zel a0 (List.set x0 (0+x1.toNat) (zak (⟨⟨c2.Y.Num,c2.Y.Den⟩,⟨c2.X.Num,c2.X.Den⟩⟩))) (w64 (x1+1)))
 (chk ((List.replicate (↑(List.map zak a0).length:Int).toNat (I 0 :: I 0 :: I 0 :: I 0 :: List.map AV.v [])).length=x0.length)<|
 some (AV.new 4 za0 x0,[])))=some y):zel a0 x0 x1=some y:=
 pt_of zT [] (by kernel_rfl) h
theorem zos (a0:List GPoint) {y:AV×Mem} (h:(
 chk (((↑(List.map zak a0).length:Int):Int)=((↑(List.map zak a0).length:Int)))<|
 chk ((0:Int)≤((↑(List.map zak a0).length:Int)))<|
 chk ((↑(List.map zak a0).length:Int).toNat*(32+1)≤1099511627776)<|
 zel a0 (List.replicate ((↑(List.map zak a0).length:Int).toNat) (zak (⟨⟨0,0⟩,⟨0,0⟩⟩))) 0)=some y):cw zgX [AV.sl 4 (List.map zak a0)] []=some y:=
 zai zkk zT [] rfl (by kernel_rfl) (by kernel_rfl) (by kernel_rfl) (by kernel_rfl) (by kernel_rfl) h
theorem zmC (a0:List GPoint) (a1:GRatio) {y:AV×Mem} (h:(
 callD zku (cw zmo [I (w64 (w64 ((↑(List.map zak a0).length:Int) - 1) - 1)),AV.fn zdf [AV.fp [I a1.Num,I a1.Den],AV.fp [AV.sl 4 (List.map zak a0)]]] []) fun (r0:Int) =>
 chk ((0:Int)≤(w64 (w64 (1+r0) - 1)))<|
 elemD zaB (List.map zak a0) ((w64 (w64 (1+r0) - 1)).toNat) fun (c1:GPoint) =>
 chk ((0:Int)≤(w64 (1+r0)))<|
 elemD zaB (List.map zak a0) ((w64 (1+r0)).toNat) fun (c2:GPoint) =>
 callD zcQ (cw zcm [AV.loc 1000 1 0 0,AV.agg (zak c1),AV.agg (zak c2)] [(1000,⟨1,zap,[zaw ⟨0⟩],true⟩)]) fun (r3:GRatio×GconversionSteps) =>
 callD zav (cw zan [AV.loc 1000 1 0 0,AV.fn zbD [],AV.agg (zaa a1),AV.agg (zaa c1.X)] [(1000,⟨1,zap,[zaw r3.snd],true⟩)]) fun (r4:GRatio×GconversionSteps) =>
 callD zav (cw zan [AV.loc 1000 1 0 0,AV.fn zda [],AV.agg (zaa r4.fst),AV.agg (zaa r3.fst)] [(1000,⟨1,zap,[zaw r4.snd],true⟩)]) fun (r5:GRatio×GconversionSteps) =>
 callD zav (cw zan [AV.loc 1000 1 0 0,AV.fn zcH [],AV.agg (zaa c1.Y),AV.agg (zaa r5.fst)] [(1000,⟨1,zap,[zaw r5.snd],true⟩)]) fun (r6:GRatio×GconversionSteps) =>
 some (AV.tup [AV.agg (zaa r6.fst),I r6.snd.e],[]))=some y):cw zbq [AV.sl 4 (List.map zak a0),AV.agg (zaa a1)] []=some y:=
 zai zrW zT [] rfl (by kernel_rfl) (by kernel_rfl) (by kernel_rfl) (by kernel_rfl) (by kernel_rfl) h
theorem zi2 (a0:List GRatio) {y:AV×Mem} (h:(
 callD zmN (cw zmS [AV.v (.int .u64 (wu64 (↑(List.map zaa a0).length:Int)))] []) fun (r0:Int) =>
 callD zaA (cw zca [AV.row 1000 2 0 (List.length (List.map zaa a0)),I 0,I ((↑(List.map zaa a0).length:Int)),I r0,AV.fn zad []] [(1000,⟨2,zac,List.map zaa a0,false⟩)]) fun (r1:(List GRatio)) =>
 some (AV.tup [],[(1000,⟨2,zac,List.map zaa r1,false⟩)]))=some y):cw zbz [AV.row 1000 2 0 (List.length (List.map zaa a0)),AV.fn zad []] [(1000,⟨2,zac,List.map zaa a0,false⟩)]=some y:=
 zai zi6 zT [] rfl (by kernel_rfl) (by kernel_rfl) (by kernel_rfl) (by kernel_rfl) (by kernel_rfl) h
theorem ztf (a0:GRatio) (a1:GRatio) {y:AV×Mem} (h:(
 callD zbc (cw zbi [AV.agg (zaa a0)] []) fun (r0:Bool) =>
 brn (!r0) (some (I 0,[]))
 (callD zbc (cw zbi [AV.agg (zaa a1)] []) fun (r1:Bool) =>
 brn (!r1) (some (I 0,[]))
 (callD zdn (cw zdp [I a0.Num,AV.v (.int .u64 (wu64 a1.Den))] []) fun (r2:GratioSigned) =>
 callD zdn (cw zdp [I a1.Num,AV.v (.int .u64 (wu64 a0.Den))] []) fun (r3:GratioSigned) =>
 brn r2.neg (brn r3.neg (callD zdH (cw zdF [AV.agg (zas r3.abs),AV.agg (zas r2.abs)] []) fun (r4:Int) =>
 some (I r4,[]))
 (brn r2.neg (some (I (-1),[]))
 (brn r3.neg (some (I 1,[]))
 (callD zdH (cw zdF [AV.agg (zas r2.abs),AV.agg (zas r3.abs)] []) fun (r5:Int) =>
 some (I r5,[])))))
 (brn r2.neg (some (I (-1),[]))
 (brn r3.neg (some (I 1,[]))
 (callD zdH (cw zdF [AV.agg (zas r2.abs),AV.agg (zas r3.abs)] []) fun (r6:Int) =>
 some (I r6,[])))))))=some y):cw zad [AV.agg (zaa a0),AV.agg (zaa a1)] []=some y:=
 zai zt9 zT [] rfl (by kernel_rfl) (by kernel_rfl) (by kernel_rfl) (by kernel_rfl) (by kernel_rfl) h
end Go.Proofs.YtbhkcgaanaelfaaGreat
