/- What the functions compute, between two cut points: printed by a program, checked by the kernel. -/
import Derived.Test.YtlecnobdfhlmnaaGreatXAnn
set_option linter.unusedSimpArgs false
set_option linter.unusedVariables false
set_option linter.unusedSectionVars false
noncomputable section
namespace Go.Proofs.YtlecnobdfhlmnaaGreat
open Go.Ab
set_option maxRecDepth 100000
variable[Dr]
section
variable(a0:zan)(a1:za9)(a2:zaA)(r1:(List (Int×Bool)))(x5:LL)(x6:Int)(c11:zaT)(x12:Bool)(r2:(List (Int×Bool)))(x3:LL)(x4:Int)(c7:zaT)(x8:Bool)
def zhC:=pt zl0 1 ⟨[(5,gQ 5 6),(7,AV.map 17),(8,AV.map 25),(9,AV.map 26),(28,sH a0.Scripts),(29,I ((↑(mI a0.Scripts).length:Int))),(30,I x4)],[(5,pL a2),(17,gN (mO r1)),(25,gN (mO r2)),(26,gN x3)]⟩
def zgD:=pt zl0 1 ⟨[(5,gQ 5 6),(7,AV.map 17),(8,AV.map 18),(9,AV.map 26),(28,sH a0.Scripts),(29,I ((↑(mI a0.Scripts).length:Int))),(30,I x6)],[(5,pL a2),(17,gN (mO r1)),(18,⟨0,zcQ,[],false⟩),(26,gN x5)]⟩
def ziA:=pt zl0 1012 ⟨[(5,gQ 5 6),(7,AV.map 17),(8,AV.map 25),(9,AV.map 26),(11,gQ 11 7),(12,B x8),(28,sH a0.Scripts),(29,I ((↑(mI a0.Scripts).length:Int))),(30,I x4)],[(5,pL a2),(11,pU c7),(17,gN (mO r1)),(25,gN (mO r2)),(26,gN x3)]⟩
def zhG:=pt zl0 1012 ⟨[(5,gQ 5 6),(7,AV.map 17),(8,AV.map 18),(9,AV.map 26),(11,gQ 11 7),(12,B x12),(28,sH a0.Scripts),(29,I ((↑(mI a0.Scripts).length:Int))),(30,I x6)],[(5,pL a2),(11,pU c11),(17,gN (mO r1)),(18,⟨0,zcQ,[],false⟩),(26,gN x5)]⟩
variable{a0 a1 a2 r1 x5 x6 c11 x12 r2 x3 x4 c7 x8}
theorem zvh:Qq (brn (decide (x4<(↑(mI a0.Scripts).length:Int))) (chk ((0:Int)<=x4)<|elemD zc0 (mI a0.Scripts) x4.toNat λ(c7:zaT)=>brn (a2.Kind==0) (brn (c7.Candidate==a2.Candidate) (ziA a0 a2 r1 r2 x3 x4 c7 (c7.Centre==a2.Stamp.Source)) (ziA a0 a2 r1 r2 x3 x4 c7 false)) (ziA a0 a2 r1 r2 x3 x4 c7 false)) (callD zd6 (cw zdz [AV.mp x3] []) λ(r9:List (Int×Bool))=>callD zeN (cw zdf [AV.fn zbV [AV.fa 0 ([[AV.mp (List.map (zbX) r9)]])]] []) λ(r10:(List Int))=>some (AV.sl 1 (List.map zai r10),[]))) (zhC a0 a2 r1 r2 x3 x4):=ptT [12]
theorem zs8:Qq (brn (decide (x6<(↑(mI a0.Scripts).length:Int))) (chk ((0:Int)<=x6)<|elemD zc0 (mI a0.Scripts) x6.toNat λ(c11:zaT)=>brn (a2.Kind==0) (brn (c11.Candidate==a2.Candidate) (zhG a0 a2 r1 x5 x6 c11 (c11.Centre==a2.Stamp.Source)) (zhG a0 a2 r1 x5 x6 c11 false)) (zhG a0 a2 r1 x5 x6 c11 false)) (callD zd6 (cw zdz [AV.mp x5] []) λ(r13:List (Int×Bool))=>callD zeN (cw zdf [AV.fn zbV [AV.fa 0 ([[AV.mp (List.map (zbX) r13)]])]] []) λ(r14:(List Int))=>some (AV.sl 1 (List.map zai r14),[]))) (zgD a0 a2 r1 x5 x6):=ptT [12]
theorem zzF:Qq (mapD zP 3 false dBool (B false) (mO r1) (I c7.Number) λ(c15:Bool) (b16:Bool)=>brn (!c15) (brn x8 (msetD zP 3 4 (I c7.Number) (B true) x3 λ(m17:LL)=>zhC a0 a2 r1 r2 m17 (w64 (x4+1))) (mapD zP 3 false dBool (B false) (mO r2) (I c7.Number) λ(c18:Bool) (b19:Bool)=>brn c18 (msetD zP 3 4 (I c7.Number) (B true) x3 λ(m20:LL)=>zhC a0 a2 r1 r2 m20 (w64 (x4+1))) (zhC a0 a2 r1 r2 x3 (w64 (x4+1))))) (zhC a0 a2 r1 r2 x3 (w64 (x4+1)))) (ziA a0 a2 r1 r2 x3 x4 c7 x8):=ptT [12]
theorem zxB:Qq (mapD zP 3 false dBool (B false) (mO r1) (I c11.Number) λ(c21:Bool) (b22:Bool)=>brn (!c21) (brn x12 (msetD zP 3 4 (I c11.Number) (B true) x5 λ(m23:LL)=>zgD a0 a2 r1 m23 (w64 (x6+1))) (mapD zP 3 false dBool (B false) [] (I c11.Number) λ(c24:Bool) (b25:Bool)=>brn c24 (msetD zP 3 4 (I c11.Number) (B true) x5 λ(m26:LL)=>zgD a0 a2 r1 m26 (w64 (x6+1))) (zgD a0 a2 r1 x5 (w64 (x6+1))))) (zgD a0 a2 r1 x5 (w64 (x6+1)))) (zhG a0 a2 r1 x5 x6 c11 x12):=ptT [12]
theorem zGb:Qq (callD zag (cw zl3 [pC a2] []) λ(r0:Bool)=>brn (!r0) (some (AV.sl 1 (List.map zai []),[])) (callD ziS (cw zsg [sS a0] []) λ(r1:(List (Int×Bool)))=>brn (a2.Kind==1) (callD ziS (cw zlN [sW a1,I a2.Marker] []) λ(r2:(List (Int×Bool)))=>zhC a0 a2 r1 r2 [] 0) (zgD a0 a2 r1 [] 0))) (cw ziN [sS a0,sW a1,pC a2] []):=cwT zl0 [12]
end
section
variable(a0:List za3)(a1 x0:Int)
def zo1:=pt zzO 1 ⟨[(0,sE a0),(1,I a1),(4,gQ 4 5),(6,I x0)],[(4,⟨5,zdM,[[I 0,I 0,I 0,I 0,bH]],true⟩)]⟩
variable{a0 a1 x0}
theorem zsA:Qq (brn (decide (x0<(↑(mH a0).length:Int))) (chk ((0:Int)<=x0)<|elemD zdU (mH a0) x0.toNat λ(c1:za3)=>brn (c1.ID==a1) (chk ((0:Int)<=x0)<|elemD zdU (mH a0) x0.toNat λ(c2:za3)=>some (AV.tup [pG c2,B true],[])) (zo1 a0 a1 (w64 (x0+1)))) (some (AV.tup [pG (⟨0,0,0,0,[]⟩),B false],[]))) (zo1 a0 a1 x0):=ptT []
theorem zI4:Qq (zo1 a0 a1 0) (cw zl7 [sE a0,I a1] []):=cwT zzO []
end
section
variable(a0:zbp)(a1:Int)(a2:List zaA)(x0:LL)(x1:Int)
def zg1:=pt zvv 1 ⟨[(1,I a1),(3,gQ 3 3),(7,AV.row 7 6 0 x0.length),(16,sD a2),(17,I ((↑(mE a2).length:Int))),(18,I x1)],[(3,pQ a0),(7,gL x0)]⟩
variable{a0 a1 a2 x0 x1}
theorem ztV:Qq (brn (decide (x1<(↑(mE a2).length:Int))) (chk ((0:Int)<=x1)<|elemD zcz (mE a2) x1.toNat λ(c2:zaA)=>callD zag (cw znj [sV c2.Stamp] []) λ(r3:Bool)=>brn r3 (brn (decide (a1<=c2.Stamp.Time)) (brn (decide (w64 (c2.Stamp.Time-a1)<=a0.Days)) (chk (x0.length=x0.length)<|chk ((x0.length+1)*(48+1)<=1099511627776)<|chk ((x0++[zaw c2]).length=(x0++[zaw c2]).length)<|zg1 a0 a1 a2 (x0++([zaw c2])) (w64 (x1+1))) (zg1 a0 a1 a2 x0 (w64 (x1+1)))) (zg1 a0 a1 a2 x0 (w64 (x1+1)))) (zg1 a0 a1 a2 x0 (w64 (x1+1)))) (chk (x0.length=x0.length)<|some (AV.new 6 za8 x0,[]))) (zg1 a0 a1 a2 x0 x1):=ptT []
theorem zES:Qq (brn (decide (a1<0)) (some (AV.new 6 za8 [],[])) (brn (decide (1000000<a1)) (some (AV.new 6 za8 [],[])) (zg1 a0 a1 a2 [] 0))) (cw zq9 [pD a0,I a1,sD a2] []):=cwT zvv []
end
theorem zGc{a0:zaA}:Qq (callD zag (cw znj [sV a0.Stamp] []) λ(r0:Bool)=>brn (!r0) gX (brn (decide (a0.Stamp.Source<1)) gX (brn (a0.Kind==0) (brn (decide (0<=a0.Candidate)) (brn (decide (a0.Candidate<=9999)) (some (B (a0.Marker==0),[])) gX) gX) (brn (a0.Kind==1) (brn (decide (1<=a0.Marker)) (brn (decide (a0.Marker<=99)) (some (B (a0.Candidate==0),[])) gX) gX) gX)))) (cw zl3 [pC a0] []):=cwT zFH []
theorem zGa{a0:zbp}:Qq (brn (decide (a0.Days<0)) gY (brn (decide (1000<a0.Days)) gY (brn (decide (a0.Fails<1)) gY (brn (decide (60<a0.Fails)) gY (brn (decide (a0.Tolerance<0)) gY (brn (decide (200<a0.Tolerance)) gY bF)))))) (cw zl2 [pD a0] []):=cwT zFG []
section
variable(a0:List GSeed)(a1 x0:Int)
def zjW:=pt zsQ 1 ⟨[(0,sN a0),(1,I a1),(6,I x0)],[]⟩
variable{a0 a1 x0}
theorem zm8:Qq (brn (decide (x0<(↑(mM a0).length:Int))) (chk ((0:Int)<=x0)<|elemD zfO (mM a0) x0.toNat λ(c1:GSeed)=>brn (c1.Script==a1) (chk ((0:Int)<=x0)<|elemD zfO (mM a0) x0.toNat λ(c2:GSeed)=>chk ((List.map zai c2.Marks).length*(8+1)<=1099511627776)<|chk ((List.map zai c2.Marks).length=(List.map zai c2.Marks).length)<|chk (0+(List.map zai c2.Marks).length<=(List.map zai c2.Marks).length)<|some (AV.tup [AV.sl 1 (List.take ((List.map zai c2.Marks).length) (List.map zai c2.Marks)),B true],[])) (zjW a0 a1 (w64 (x0+1)))) (chk (0+0<=0)<|some (AV.tup [AV.sl 1 (List.map zai []),B false],[]))) (zjW a0 a1 x0):=ptT []
theorem zAJ:Qq (zjW a0 a1 0) (cw zje [sN a0,I a1] []):=cwT zsQ []
end
theorem zGe{a0 a1 a2 a3:Int}:Qq (some (pC (⟨⟨a0,a1,a2⟩,0,a3,0⟩),[])) (cw ziO [I a0,I a1,I a2,I a3] []):=cwT zFI []
section
variable(a0:zaj)(x5 x6:LL)(x7:zaj)(x8:Int)(r0:zaM×zaj)(r1:Bool×zaj)(r2:zaM×zaj)
def zkD:=pt zkN 1004 ⟨[(0,gQ 1000 2),(4,gR 4 3 (([zaQ r0.1])++([zaQ r2.1])))],[(4,⟨3,zcT,([zaQ r0.1])++([zaQ r2.1]),false⟩),(1000,pI r2.2)]⟩
def zjT:=pt zkN 1004 ⟨[(0,gQ 1000 2),(4,gR 4 3 ([zaQ r0.1])),(11,B false)],[(4,⟨3,zcT,[zaQ r0.1],false⟩),(1000,pI r1.2)]⟩
def zfi:=pt zkN 1 ⟨[(0,gQ 1000 2),(4,AV.row 4 3 0 x5.length),(5,AV.row 5 2 0 x6.length),(6,I x8)],[(4,⟨3,zcT,x5,false⟩),(5,⟨2,zdN,x6,false⟩),(1000,pI x7)]⟩
variable{a0 x5 x6 x7 x8 r0 r1 r2}
theorem zph:Qq (callD zey (cw zeV [gQ 1000 2,I 2] [(1000,pI r2.2)]) λ(r3:Bool×zaj)=>brn r3.1 (callD zg4 (cw zgf [gQ 1000 2,I 1,I 0] [(1000,pI r3.2)]) λ(r4:zaM×zaj)=>chk (2=2)<|chk ((2+1)*(40+1)<=1099511627776)<|chk (3=3)<|zfi ((([zaQ r0.1])++([zaQ r2.1]))++([zaQ r4.1])) [] r4.2 0) (zfi (([zaQ r0.1])++([zaQ r2.1])) [] r3.2 0)) (zkD r0 r2):=ptT [4]
theorem zn3:Qq (callD zey (cw zeV [gQ 1000 2,I 2] [(1000,pI r1.2)]) λ(r9:Bool×zaj)=>brn r9.1 (callD zg4 (cw zgf [gQ 1000 2,I 1,I 0] [(1000,pI r9.2)]) λ(r10:zaM×zaj)=>chk (1=1)<|chk ((1+1)*(40+1)<=1099511627776)<|chk (2=2)<|zfi (([zaQ r0.1])++([zaQ r10.1])) [] r10.2 0) (zfi ([zaQ r0.1]) [] r9.2 0)) (zjT r0 r1):=ptT [4]
theorem zrF:Qq (brn (decide (x8<(↑x5.length:Int))) (chk ((0:Int)<=x8)<|chk ((x8:Int)<x5.length)<|elemD zcV x5 (0+x8.toNat) λ(c11:zaM)=>callD zlk (cw zok [gQ 1000 2,sT c11] [(1000,pI x7)]) λ(r12:zbu×zaj)=>chk (x6.length=x6.length)<|chk ((x6.length+1)*(48+1)<=1099511627776)<|chk ((x6++[zbL r12.1]).length=(x6++[zbL r12.1]).length)<|zfi x5 (x6++([zbL r12.1])) r12.2 (w64 (x8+1))) (chk (0+x5.length<=x5.length)<|chk (0+x6.length<=x6.length)<|some (AV.tup [AV.sl 3 (List.take x5.length x5),AV.sl 2 (List.take x6.length x6)],[(1000,pI x7)]))) (zfi x5 x6 x7 x8):=ptT [4]
theorem zsT:Qq (callD zg4 (cw zgf [gQ 1000 2,I 0,I 0] [(1000,pI a0)]) λ(r0:zaM×zaj)=>chk (1=1)<|callD zey (cw zeV [gQ 1000 2,I 2] [(1000,pI r0.2)]) λ(r1:Bool×zaj)=>brn r1.1 (callD zg4 (cw zgf [gQ 1000 2,I 0,I 1] [(1000,pI r1.2)]) λ(r2:zaM×zaj)=>chk (1=1)<|chk ((1+1)*(40+1)<=1099511627776)<|chk (2=2)<|zkD r0 r2) (zjT r0 r1)) (cw zjc [gQ 1000 2] [(1000,pI a0)]):=cwT zkN [4]
end
def zjr(x1:LL)(x2:zaj)(x3 x4:Int):=pt zrS 1 ⟨[(0,gQ 1000 2),(3,AV.row 3 5 0 x1.length),(4,I x3),(5,I x4)],[(3,⟨5,zdM,x1,false⟩),(1000,pI x2)]⟩
theorem zqN{x1:LL}{x2:zaj}{x3 x4:Int}:Qq (brn (decide (0<x4)) (callD zbc (cw zbn [gQ 1000 2,I 3] [(1000,pI x2)]) λ(r5:Int×zaj)=>callD zbc (cw zhA [gQ 1000 2,AV.sl 1 (List.map zai ([-1,-1,1,2,3]))] [(1000,pI r5.2)]) λ(r6:Int×zaj)=>callD zbc (cw zhA [gQ 1000 2,AV.sl 1 (List.map zai ([1,1,1,2,3]))] [(1000,pI r6.2)]) λ(r7:Int×zaj)=>callD zbc (cw zhA [gQ 1000 2,AV.sl 1 (List.map zai ([3,2,6,0,1]))] [(1000,pI r7.2)]) λ(r8:Int×zaj)=>callD zbc (cw zbn [gQ 1000 2,I 4] [(1000,pI r8.2)]) λ(r9:Int×zaj)=>chk (0<=r9.1)<|elemD zgC ([zc9 ([0,1]),zc9 [0],zc9 [1],zc9 ([0,1])]) (Int.toNat r9.1) λ(c10:List Int)=>chk (x1.length=x1.length)<|chk ((x1.length+1)*(56+1)<=1099511627776)<|chk ((x1++[[I (w64 (x3+w64 (1+r5.1))),I r6.1,I r7.1,I r8.1,AV.sl 1 (List.map zai c10)]]).length=(x1++[[I (w64 (x3+w64 (1+r5.1))),I r6.1,I r7.1,I r8.1,AV.sl 1 (List.map zai c10)]]).length)<|zjr (x1++([zbb (⟨w64 (x3+w64 (1+r5.1)),r6.1,r7.1,r8.1,c10⟩)])) r9.2 (w64 (x3+w64 (1+r5.1))) (w64 (x4-1))) (chk (x1.length=x1.length)<|some (AV.new 5 zdM x1,[(1000,pI x2)]))) (zjr x1 x2 x3 x4):=ptT []
theorem zzA{a0:zaj}:Qq (callD zbc (cw zbn [gQ 1000 2,I 4] [(1000,pI a0)]) λ(r0:Int×zaj)=>zjr [] r0.2 0 (w64 (2+r0.1))) (cw znG [gQ 1000 2] [(1000,pI a0)]):=cwT zrS []
section
variable(a0:zaj)(a1:List zaM)(a2:Int)(x0:LL)(x1:zaj)(x2:Int)(x3 x7:LL)(x8:zaj)(x9 x4:Int)
def zfJ:=pt zkp 1 ⟨[(0,gQ 1000 2),(1,sG a1),(2,I a2),(7,AV.row 7 7 0 x0.length),(8,I x2)],[(7,⟨7,zc6,x0,false⟩),(1000,pI x1)]⟩
def zhJ:=pt zkp 2 ⟨[(0,gQ 1000 2),(1,sG a1),(2,I a2),(7,AV.row 7 7 0 x0.length),(8,I x2),(9,AV.row 9 3 0 x3.length),(10,I x4)],[(7,⟨7,zc6,x0,false⟩),(9,⟨3,zcT,x3,false⟩),(1000,pI x1)]⟩
def zhK:=pt zkp 3 ⟨[(0,gQ 1000 2),(1,sG a1),(2,I a2),(7,AV.row 7 7 0 x7.length),(8,I x2),(9,AV.row 9 3 0 x3.length),(11,I x9)],[(7,⟨7,zc6,x7,false⟩),(9,⟨3,zcT,x3,false⟩),(1000,pI x8)]⟩
variable{a0 a1 a2 x0 x1 x2 x3 x7 x8 x9 x4}
theorem zqO:Qq (brn (decide (x2<2)) (zhJ a1 a2 x0 x1 x2 [] 0) (chk (x0.length=x0.length)<|some (AV.new 7 zc6 x0,[(1000,pI x1)]))) (zfJ a1 a2 x0 x1 x2):=ptT []
theorem zmj:Qq (brn (decide (x4<(↑(mJ a1).length:Int))) (chk ((0:Int)<=x4)<|elemD zcV (mJ a1) x4.toNat λ(c5:zaM)=>brn (c5.Code==x2) (chk ((0:Int)<=x4)<|elemD zcV (mJ a1) x4.toNat λ(c6:zaM)=>chk (x3.length=x3.length)<|chk ((x3.length+1)*(40+1)<=1099511627776)<|chk ((x3++[zaQ c6]).length=(x3++[zaQ c6]).length)<|zhJ a1 a2 x0 x1 x2 (x3++([zaQ c6])) (w64 (x4+1))) (zhJ a1 a2 x0 x1 x2 x3 (w64 (x4+1)))) (zhK a1 a2 x2 x3 x0 x1 1)) (zhJ a1 a2 x0 x1 x2 x3 x4):=ptT []
theorem zjy:Qq (brn (decide (x9<=a2)) (brn (decide (0<(↑x3.length:Int))) (callD zbc (cw zbn [gQ 1000 2,I 5] [(1000,pI x8)]) λ(r10:Int×zaj)=>brn (decide (0<r10.1)) (callD zbc (cw zbn [gQ 1000 2,I (↑x3.length:Int)] [(1000,pI r10.2)]) λ(r11:Int×zaj)=>chk (0<=r11.1)<|chk ((r11.1:Int)<x3.length)<|elemD zcV x3 (0+Int.toNat r11.1) λ(c12:zaM)=>callD zll (cw zol [gQ 1000 2,sT c12,I x9] [(1000,pI r11.2)]) λ(r13:zaT×zaj)=>chk (x7.length=x7.length)<|chk ((x7.length+1)*(88+1)<=1099511627776)<|chk ((x7++[za1 r13.1]).length=(x7++[za1 r13.1]).length)<|zhK a1 a2 x2 x3 (x7++([za1 r13.1])) r13.2 (w64 (x9+1))) (zhK a1 a2 x2 x3 x7 r10.2 (w64 (x9+1)))) (zfJ a1 a2 x7 x8 (w64 (x2+1)))) (zfJ a1 a2 x7 x8 (w64 (x2+1)))) (zhK a1 a2 x2 x3 x7 x8 x9):=ptT []
theorem zzC:Qq (zfJ a1 a2 [] a0 0) (cw znI [gQ 1000 2,sG a1,I a2] [(1000,pI a0)]):=cwT zkp []
theorem zzB:Qq (callD zbc (cw zbn [gQ 1000 2,I 3] [(1000,pI a0)]) λ(r0:Int×zaj)=>callD zbc (cw zbn [gQ 1000 2,I 2] [(1000,pI r0.2)]) λ(r1:Int×zaj)=>callD zbc (cw zbn [gQ 1000 2,I 3] [(1000,pI r1.2)]) λ(r2:Int×zaj)=>callD zbc (cw zbn [gQ 1000 2,I (w64 (1+r0.1))] [(1000,pI r2.2)]) λ(r3:Int×zaj)=>some (sZ (⟨r1.1,r2.1,w64 (1+r0.1),w64 (1+r3.1)⟩),[(1000,pI r3.2)])) (cw znH [gQ 1000 2] [(1000,pI a0)]):=cwT zzh []
end
theorem zDp{a0:zaj}{a1:Int}:Qq (callD zbc (cw zbn [gQ 1000 2,I a1] [(1000,pI a0)]) λ(r0:Int×zaj)=>some (B (r0.1==w64 (a1-1)),[(1000,pI r0.2)])) (cw zeV [gQ 1000 2,I a1] [(1000,pI a0)]):=cwT zCP []
def zk3(a2:zaT)(r0:zaM)(x1:LL)(x2:zaj)(x3:Int):=pt zuw 1 ⟨[(0,gQ 1000 2),(6,gQ 6 2),(7,gQ 7 2),(8,gQ 8 3),(9,I x3)],[(6,⟨2,zfL,[[I 0,bH]],true⟩),(7,⟨2,zfL,[[I a2.Number,AV.row 900 1 0 x1.length]],true⟩),(8,pO r0),(900,gJ x1),(1000,pI x2)]⟩
theorem ztd{a2:zaT}{r0:zaM}{x1:LL}{x2:zaj}{x3:Int}:Qq (brn (decide (x3<(↑(mB r0.Parts).length:Int))) (chk ((0:Int)<=x3)<|elemD zd9 (mB r0.Parts) x3.toNat λ(c4:GPart)=>callD zbc (cw zbn [gQ 1000 2,I (w64 (c4.Max+1))] [(1000,pI x2)]) λ(r5:Int×zaj)=>chk (x1.length=x1.length)<|chk ((x1.length+1)*(8+1)<=1099511627776)<|zk3 a2 r0 (x1++([zai r5.1])) r5.2 (w64 (x3+1))) (chk (0+x1.length<=x1.length)<|some (AV.agg [I a2.Number,AV.sl 1 (List.take x1.length x1)],[(1000,pI x2)]))) (zk3 a2 r0 x1 x2 x3):=ptT []
theorem zDt{a0:zaj}{a1:List zaM}{a2:zaT}:Qq (callD zmg (cw zom [sG a1,sX a2] []) λ(r0:zaM)=>zk3 a2 r0 [] a0 0) (cw zqc [gQ 1000 2,sG a1,sX a2] [(1000,pI a0)]):=cwT zuw []
section
variable(a0:List zaM)(a1:zaT)(x0:Int)
def zl8:=pt zzK 1 ⟨[(0,sG a0),(3,gQ 3 7),(4,gQ 4 3),(5,I x0)],[(3,pU a1),(4,⟨3,zcT,[[I 0,I 0,bH]],true⟩)]⟩
variable{a0 a1 x0}
theorem zsz:Qq (brn (decide (x0<(↑(mJ a0).length:Int))) (chk ((0:Int)<=x0)<|elemD zcV (mJ a0) x0.toNat λ(c1:zaM)=>brn (c1.Code==a1.Paper) (chk ((0:Int)<=x0)<|elemD zcV (mJ a0) x0.toNat λ(c2:zaM)=>brn (c2.Variant==a1.Variant) (chk ((0:Int)<=x0)<|elemD zcV (mJ a0) x0.toNat λ(c3:zaM)=>some (sT c3,[])) (zl8 a0 a1 (w64 (x0+1)))) (zl8 a0 a1 (w64 (x0+1)))) (some (sT (⟨0,0,[]⟩),[]))) (zl8 a0 a1 x0):=ptT []
theorem zI3:Qq (zl8 a0 a1 0) (cw zom [sG a0,sX a1] []):=cwT zzK []
end
theorem zmB{a0:zaj}{a1:Int}:Qq (brn (decide ((↑(List.map zai a0.L).length:Int)<=a0.At)) (some (I 0,[(1000,pI a0)])) (brn (decide (a1<1)) (some (I 0,[(1000,pI a0)])) (chk ((0:Int)<=a0.At)<|elemD zbi (List.map zai a0.L) a0.At.toNat λ(c0:Int)=>chk ((a1:Int)≠0)<|brn (decide (Int.tmod c0 a1<0)) (some (I (w64 (Int.tmod c0 a1+a1)),[(1000,pI (⟨a0.L,w64 (a0.At+1)⟩))])) (some (I (Int.tmod c0 a1),[(1000,pI (⟨a0.L,w64 (a0.At+1)⟩))]))))) (cw zbn [gQ 1000 2,I a1] [(1000,pI a0)]):=cwT zCQ []
section
variable(a0:zaj)(a1:zan)(a2 a3:Int)(c1:za3)(c3:zaT)(r5 r7:Int×zaj)(r8:Bool×zaj)
def zqH:=pt zp4 1012 ⟨[(8,gQ 8 9),(10,gQ 10 9)],[(8,⟨9,zak,[[I 0,I 0,I 0,I 0,I 0,I 0,I 0,I 0,bH]],true⟩),(10,⟨9,zak,[[I a3,I c1.ID,I a2,I 0,I c3.Number,I r5.1,I (w64 (r7.1-1)),I 0,AV.row 900 1 0 0]],true⟩),(900,⟨1,zcO,[],false⟩),(1000,pI r8.2)]⟩
def zpd:=pt zp4 1012 ⟨[(8,gQ 8 9),(10,gQ 10 9),(72,B false)],[(8,⟨9,zak,[[I 0,I 0,I 0,I 0,I 0,I 0,I 0,I 0,bH]],true⟩),(10,⟨9,zak,[[I a3,I c1.ID,I a2,I 0,I c3.Number,I r5.1,I (w64 (r7.1-1)),I 0,gR 900 1 (List.map zai c3.Pages)]],true⟩),(900,⟨1,zcO,List.map zai c3.Pages,false⟩),(1000,pI r8.2)]⟩
variable{a0 a1 a2 a3 c1 c3 r5 r7 r8}
theorem zxD:Qq (chk (0+0<=0)<|some (sU (⟨⟨a3,c1.ID,a2⟩,0,c3.Number,r5.1,w64 (r7.1-1),0,[]⟩),[(1000,pI r8.2)])) (zqH a2 a3 c1 c3 r5 r7 r8):=ptT [12]
theorem zvt:Qq (chk (0+(List.map zai c3.Pages).length<=(List.map zai c3.Pages).length)<|some (AV.agg [I a3,I c1.ID,I a2,I 0,I c3.Number,I r5.1,I (w64 (r7.1-1)),I 0,AV.sl 1 (List.take ((List.map zai c3.Pages).length) (List.map zai c3.Pages))],[(1000,pI r8.2)])) (zpd a2 a3 c1 c3 r5 r7 r8):=ptT [12]
theorem zp7:Qq (callD zbc (cw zbn [gQ 1000 2,I ((↑(mH a1.Markers).length:Int))] [(1000,pI a0)]) λ(r0:Int×zaj)=>chk (0<=r0.1)<|elemD zdU (mH a1.Markers) (Int.toNat r0.1) λ(c1:za3)=>brn ((↑(mI a1.Scripts).length:Int)==0) (chk (0+0<=0)<|some (sU (⟨⟨a3,c1.ID,a2⟩,0,0,0,0,0,[]⟩),[(1000,pI r0.2)])) (callD zbc (cw zbn [gQ 1000 2,I ((↑(mI a1.Scripts).length:Int))] [(1000,pI r0.2)]) λ(r2:Int×zaj)=>chk (0<=r2.1)<|elemD zc0 (mI a1.Scripts) (Int.toNat r2.1) λ(c3:zaT)=>callD zmg (cw zom [sG a1.Papers,sX c3] []) λ(r4:zaM)=>callD zbc (cw zbn [gQ 1000 2,I ((↑(mB r4.Parts).length:Int))] [(1000,pI r2.2)]) λ(r5:Int×zaj)=>chk (0<=r5.1)<|elemD zd9 (mB r4.Parts) (Int.toNat r5.1) λ(c6:GPart)=>callD zbc (cw zbn [gQ 1000 2,I (w64 (c6.Max+2))] [(1000,pI r5.2)]) λ(r7:Int×zaj)=>chk ((List.map zai c3.Pages).length*(8+1)<=1099511627776)<|callD zey (cw zeV [gQ 1000 2,I 12] [(1000,pI r7.2)]) λ(r8:Bool×zaj)=>brn r8.1 (zqH a2 a3 c1 c3 r5 r7 r8) (zpd a2 a3 c1 c3 r5 r7 r8))) (cw zqa [gQ 1000 2,sS a1,I a2,I a3] [(1000,pI a0)]):=cwT zp4 [12]
end
theorem zDr{a0:zaj}{a1:List Int}:Qq (callD zbc (cw zbn [gQ 1000 2,I ((↑(List.map zai a1).length:Int))] [(1000,pI a0)]) λ(r0:Int×zaj)=>chk (0<=r0.1)<|elemD zbi (List.map zai a1) (Int.toNat r0.1) λ(c1:Int)=>some (I c1,[(1000,pI r0.2)])) (cw zhA [gQ 1000 2,AV.sl 1 (List.map zai a1)] [(1000,pI a0)]):=cwT zCR []
theorem zzw{a0:zbG}:Qq (brn (decide (a0.Tolerance<0)) gY (brn (decide (40<a0.Tolerance)) gY bF)) (cw zkq [pA a0] []):=cwT zze []
theorem zEX{a0:zan}:Qq (callD zaR (cw zsh [sE a0.Markers] []) λ(r0:Int)=>brn (r0 !=0) bC (callD zaR (cw zl5 [sH a0.Scripts] []) λ(r1:Int)=>brn (r1 !=0) bC (callD zag (cw zl6 [sS a0] []) λ(r2:Bool)=>brn (!r2) bC (callD zag (cw zlx [sS a0] []) λ(r3:Bool)=>brn (!r3) bC (callD zag (cw zmK [sS a0] []) λ(r4:Bool)=>brn (!r4) bC (callD zaR (cw zkS [sZ a0.Monitor] []) λ(r5:Int)=>brn (r5 !=0) bC bF)))))) (cw zh2 [sS a0] []):=cwT zD4 []
theorem zxc{a0:List (Int×Int)}{a1 a2:Int}:Qq (mapD zP 3 false zbi (I 0) (mR a0) (I a1) λ(c0:Int) (b1:Bool)=>brn (!b1) (msetD zP 3 3 (I a1) (I a2) (mR a0) λ(m2:LL)=>some (AV.tup [],[(1000,gO m2)])) (brn (decide (a2<c0)) (msetD zP 3 3 (I a1) (I a2) (mR a0) λ(m3:LL)=>some (AV.tup [],[(1000,gO m3)])) (some (AV.tup [],[(1000,gO (mR a0))])))) (cw zl4 [AV.map 1000,I a1,I a2] [(1000,gO (mR a0))]):=cwT zwP []
theorem zHK{a0 a1:List zac}:Qq (callD zev (cw zfy [sQ ([a0,a1])] []) λ(r0:(List zac))=>chk (0+(mA r0).length<=(mA r0).length)<|some (AV.sl 9 (List.take ((mA r0).length) (mA r0)),[])) (cw ztu [sC a0,sC a1] []):=cwT zHb []
section
variable(a0:List (Int×Int))(r1:(List Int))(x2:LL)(x3:Int)
def zgp:=pt zl1 1 ⟨[(0,AV.mp (mR a0)),(3,AV.row 3 9 0 x2.length),(8,AV.sl 1 (List.map zai r1)),(9,I ((↑(List.map zai r1).length:Int))),(10,I x3)],[(3,gB x2)]⟩
variable{a0 r1 x2 x3}
theorem zlp:Qq (brn (decide (x3<(↑(List.map zai r1).length:Int))) (chk ((0:Int)<=x3)<|elemD zbi (List.map zai r1) x3.toNat λ(c4:Int)=>mapD zP 3 false zbi (I 0) (mR a0) (I c4) λ(c5:Int) (b6:Bool)=>chk (x2.length=x2.length)<|chk ((x2.length+1)*(88+1)<=1099511627776)<|chk ((x2++[[I c5,I 0,I (w64 (9000+x3)),I 2,I c4,I (-1),I 0,I 0,AV.sl 1 []]]).length=(x2++[[I c5,I 0,I (w64 (9000+x3)),I 2,I c4,I (-1),I 0,I 0,AV.sl 1 []]]).length)<|zgp a0 r1 (x2++([zab (⟨⟨c5,0,w64 (9000+x3)⟩,2,c4,-1,0,0,[]⟩)])) (w64 (x3+1))) (chk (0+x2.length<=x2.length)<|some (AV.sl 9 (List.take x2.length x2),[]))) (zgp a0 r1 x2 x3):=ptT []
theorem zsc:Qq (callD zeu (cw zdP [AV.mp (mR a0)] []) λ(r0:List (Int×Int))=>callD zeN (cw zdf [AV.fn zb7 [AV.fa 0 ([[AV.mp (List.map (zb8) r0)]])]] []) λ(r1:(List Int))=>zgp a0 r1 [] 0) (cw zgN [AV.mp (mR a0)] []):=cwT zl1 []
end
section
variable(a0:List zac)(a1:Int)(x0:LL)(x1:Int)
def zjN:=pt zvy 1 ⟨[(1,I a1),(5,AV.row 5 9 0 x0.length),(8,sC a0),(9,I ((↑(mA a0).length:Int))),(10,I x1)],[(5,gB x0)]⟩
variable{a0 a1 x0 x1}
theorem ztZ:Qq (brn (decide (x1<(↑(mA a0).length:Int))) (chk ((0:Int)<=x1)<|elemD zaZ (mA a0) x1.toNat λ(c2:zac)=>brn (decide (c2.Stamp.Time<=a1)) (callD zlm (cw zjp [sU c2] []) λ(r3:zac)=>chk (x0.length=x0.length)<|chk ((x0.length+1)*(88+1)<=1099511627776)<|chk ((x0++[zab r3]).length=(x0++[zab r3]).length)<|zjN a0 a1 (x0++([zab r3])) (w64 (x1+1))) (zjN a0 a1 x0 (w64 (x1+1)))) (chk (x0.length=x0.length)<|some (AV.new 9 zak x0,[]))) (zjN a0 a1 x0 x1):=ptT []
theorem zEY:Qq (zjN a0 a1 [] 0) (cw zrg [sC a0,I a1] []):=cwT zvy []
end
theorem zDn{a0:zbG}{a1:zan}{a2 a3:za9}{a4:Int}:Qq (callD zkK (cw ziz [pA a0,sS a1,sW a2,I a4] []) λ(r0:Int×Int×Int)=>brn (r0.2.2 !=0) (some (AV.tup [I 0,I r0.2.2],[])) (callD zkK (cw ziz [pA a0,sS a1,sW a3,I a4] []) λ(r1:Int×Int×Int)=>brn (r1.2.2 !=0) (some (AV.tup [I 0,I r1.2.2],[])) (brn (r0.1 !=3) (some (AV.tup [I 0,I 0],[])) (brn (r1.1 !=3) (some (AV.tup [I 0,I 0],[])) (some (AV.tup [I (if w64 (r0.2.1-r1.2.1) > w64 (r1.2.1-r0.2.1)then w64 (r0.2.1-r1.2.1)else w64 (r1.2.1-r0.2.1)),I 0],[])))))) (cw zmC [pA a0,sS a1,sW a2,sW a3,I a4] []):=cwT zCN []
section
variable(a0:zbp)(a1:zan)(a2:za9)(a3:List Int)(x0:LL)(x1:Int)(c2:za3)(r3:(List (Int×Bool)))(x4:LL)(x5:Int)
def zil:=pt zqS 1 ⟨[(3,AV.sl 1 (List.map zai a3)),(4,gQ 4 3),(6,gQ 6 2),(9,AV.row 9 1 0 x0.length),(17,sE a1.Markers),(18,I ((↑(mH a1.Markers).length:Int))),(19,I x1)],[(4,pQ a0),(6,pR a2),(9,gJ x0)]⟩
def zjM:=pt zqS 2 ⟨[(3,AV.sl 1 (List.map zai a3)),(4,gQ 4 3),(6,gQ 6 2),(9,AV.row 9 1 0 x0.length),(11,gQ 11 5),(12,AV.map 29),(13,AV.map 30),(17,sE a1.Markers),(18,I ((↑(mH a1.Markers).length:Int))),(19,I x1),(31,AV.sl 1 (List.map zai a3)),(32,I ((↑(List.map zai a3).length:Int))),(33,I x5)],[(4,pQ a0),(6,pR a2),(9,gJ x0),(11,pV c2),(29,gN (mO r3)),(30,gN x4)]⟩
variable{a0 a1 a2 a3 x0 x1 c2 r3 x4 x5}
theorem ztW:Qq (brn (decide (x1<(↑(mH a1.Markers).length:Int))) (chk ((0:Int)<=x1)<|elemD zdU (mH a1.Markers) x1.toNat λ(c2:za3)=>brn (c2.Level !=1) (zil a0 a1 a2 a3 x0 (w64 (x1+1))) (callD ziS (cw zlN [sW a2,I c2.ID] []) λ(r3:(List (Int×Bool)))=>zjM a0 a1 a2 a3 x0 x1 c2 r3 [] 0)) (chk (x0.length=x0.length)<|some (AV.new 1 zcO x0,[]))) (zil a0 a1 a2 a3 x0 x1):=ptT []
theorem ztX:Qq (brn (decide (x5<(↑(List.map zai a3).length:Int))) (chk ((0:Int)<=x5)<|elemD zbi (List.map zai a3) x5.toNat λ(c6:Int)=>mapD zP 3 false dBool (B false) (mO r3) (I c6) λ(c7:Bool) (b8:Bool)=>brn c7 (msetD zP 3 4 (I c6) (B true) x4 λ(m9:LL)=>zjM a0 a1 a2 a3 x0 x1 c2 r3 m9 (w64 (x5+1))) (zjM a0 a1 a2 a3 x0 x1 c2 r3 x4 (w64 (x5+1)))) (brn (decide (a0.Fails<=(↑x4.length:Int))) (chk (x0.length=x0.length)<|chk ((x0.length+1)*(8+1)<=1099511627776)<|chk ((x0++[[I c2.ID]]).length=(x0++[[I c2.ID]]).length)<|zil a0 a1 a2 a3 (x0++([zai c2.ID])) (w64 (x1+1))) (zil a0 a1 a2 a3 x0 (w64 (x1+1))))) (zjM a0 a1 a2 a3 x0 x1 c2 r3 x4 x5):=ptT []
theorem zET:Qq (zil a0 a1 a2 a3 [] 0) (cw zra [pD a0,sS a1,sW a2,AV.sl 1 (List.map zai a3)] []):=cwT zqS []
end
section
variable(a0:zan)(x14 x7 x3:Int)
def zla:=pt zpV 1 ⟨[(1,gQ 1 9),(3,I x3)],[(1,pJ a0)]⟩
def zlb:=pt zpV 2 ⟨[(1,gQ 1 9),(4,I x7)],[(1,pJ a0)]⟩
def zju:=pt zpV 3 ⟨[(1,gQ 1 9),(9,I x14)],[(1,pJ a0)]⟩
variable{a0 x14 x7 x3}
theorem zvZ:Qq (brn (decide (x3<(↑(mJ a0.Papers).length:Int))) (chk ((0:Int)<=x3)<|elemD zcV (mJ a0.Papers) x3.toNat λ(c4:zaM)=>chk ((0:Int)<=x3)<|elemD zeU (mU a0.Schemes) x3.toNat λ(c5:zbu)=>callD zag (cw zkG [sT c4,sY c5] []) λ(r6:Bool)=>brn (!r6) bC (zla a0 (w64 (x3+1)))) (zlb a0 0)) (zla a0 x3):=ptT []
theorem zv0:Qq (brn (decide (x7<(↑(mI a0.Scripts).length:Int))) (chk ((0:Int)<=x7)<|elemD zc0 (mI a0.Scripts) x7.toNat λ(c8:zaT)=>callD zd1 (cw zng [sG a0.Papers,sX c8] []) λ(r9:Int×Bool)=>brn (!r9.2) bC (chk (0<=r9.1)<|elemD zcV (mJ a0.Papers) (Int.toNat r9.1) λ(c10:zaM)=>chk (0<=r9.1)<|elemD zeU (mU a0.Schemes) (Int.toNat r9.1) λ(c11:zbu)=>chk ((0:Int)<=x7)<|elemD zc0 (mI a0.Scripts) x7.toNat λ(c12:zaT)=>callD zeh (cw zoW [sT c10,sY c11,AV.sl 1 (List.map zai c12.Answers)] []) λ(r13:(List Int)×Int)=>brn (r13.2 !=0) bC (zlb a0 (w64 (x7+1))))) (zju a0 0)) (zlb a0 x7):=ptT []
theorem zv1:Qq (brn (decide (x14<(↑(mM a0.Seeds).length:Int))) (chk ((0:Int)<=x14)<|elemD zfO (mM a0.Seeds) x14.toNat λ(c15:GSeed)=>callD zd1 (cw znT [sS a0,I c15.Script] []) λ(r16:Int×Bool)=>brn (!r16.2) bC (chk (0<=r16.1)<|elemD zcV (mJ a0.Papers) (Int.toNat r16.1) λ(c17:zaM)=>chk ((0:Int)<=x14)<|elemD zfO (mM a0.Seeds) x14.toNat λ(c18:GSeed)=>callD zag (cw zuY [sT c17,AV.sl 1 (List.map zai c18.Marks)] []) λ(r19:Bool)=>brn (!r19) bC (brn (decide (0<x14)) (chk ((0:Int)<=x14)<|elemD zfO (mM a0.Seeds) x14.toNat λ(c20:GSeed)=>chk ((0:Int)<=(w64 (x14-1)))<|elemD zfO (mM a0.Seeds) ((w64 (x14-1)).toNat) λ(c21:GSeed)=>brn (decide (c20.Script<=c21.Script)) bC (zju a0 (w64 (x14+1)))) (zju a0 (w64 (x14+1)))))) bF) (zju a0 x14):=ptT []
theorem zHU:Qq (callD zaR (cw ztx [sE a0.Markers] []) λ(r0:Int)=>brn (r0 !=0) bC (callD zaR (cw zmL [sH a0.Scripts] []) λ(r1:Int)=>brn (r1 !=0) bC (brn ((↑(mU a0.Schemes).length:Int) !=(↑(mJ a0.Papers).length:Int)) bC (brn (decide (32<(↑(mJ a0.Papers).length:Int))) bC (brn (decide (12<(↑(mM a0.Seeds).length:Int))) bC (callD zaR (cw znh [sZ a0.Monitor] []) λ(r2:Int)=>brn (r2 !=0) bC (zla a0 0))))))) (cw ztA [sS a0] []):=cwT zpV []
end
section
variable(a0:List zac)(r0:(List ((Int×Int)×Int))×(List ((Int×Int)×Bool)))(x1:LL)(x2:Int)
def zfA:=pt ztM 1 ⟨[(0,sC a0),(4,AV.mp (mZ r0.1)),(5,AV.mp (mN r0.2)),(6,AV.row 6 9 0 x1.length),(7,I x2)],[(6,gB x1)]⟩
variable{a0 r0 x1 x2}
theorem zr3:Qq (brn (decide (x2<(↑(mA a0).length:Int))) (chk ((0:Int)<=x2)<|elemD zaZ (mA a0) x2.toNat λ(c3:zac)=>chk ((0:Int)<=x2)<|elemD zaZ (mA a0) x2.toNat λ(c4:zac)=>mapD zP 137 false zbi (I 0) (mZ r0.1) (AV.agg (zbT (c3.Stamp.Source,c4.Stamp.Seq))) λ(c5:Int) (b6:Bool)=>brn b6 (brn (c5==x2) (mapD zP 137 false dBool (B false) (mN r0.2) (AV.agg (zbT (c3.Stamp.Source,c4.Stamp.Seq))) λ(c7:Bool) (b8:Bool)=>brn (!c7) (chk ((0:Int)<=x2)<|elemD zaZ (mA a0) x2.toNat λ(c9:zac)=>chk ((List.map zai c9.Pages).length*(8+1)<=1099511627776)<|chk (0+(List.map zai c9.Pages).length<=(List.map zai c9.Pages).length)<|chk (0+(List.map zai c9.Pages).length<=(List.map zai c9.Pages).length)<|chk (x1.length=x1.length)<|chk ((x1.length+1)*(88+1)<=1099511627776)<|chk ((x1++[[I c9.Stamp.Time,I c9.Stamp.Source,I c9.Stamp.Seq,I c9.Kind,I c9.Script,I c9.Part,I c9.Value,I c9.Marker,AV.sl 1 (List.take (List.map zai c9.Pages).length (List.map zai c9.Pages))]]).length=(x1++[[I c9.Stamp.Time,I c9.Stamp.Source,I c9.Stamp.Seq,I c9.Kind,I c9.Script,I c9.Part,I c9.Value,I c9.Marker,AV.sl 1 (List.take (List.map zai c9.Pages).length (List.map zai c9.Pages))]]).length)<|zfA a0 r0 (x1++([[I c9.Stamp.Time,I c9.Stamp.Source,I c9.Stamp.Seq,I c9.Kind,I c9.Script,I c9.Part,I c9.Value,I c9.Marker,AV.sl 1 (List.take ((List.map zai c9.Pages).length) (List.map zai c9.Pages))]])) (w64 (x2+1))) (zfA a0 r0 x1 (w64 (x2+1)))) (zfA a0 r0 x1 (w64 (x2+1)))) (zfA a0 r0 x1 (w64 (x2+1)))) (brn (decide (2000<(↑x1.length:Int))) (some (AV.tup [AV.sl 9 (mA []),I 3],[])) (chk (0+x1.length<=x1.length)<|callD zev (cw zoq [AV.sl 9 (List.take x1.length x1)] []) λ(r10:(List zac))=>chk (0+x1.length<=x1.length)<|chk (0+x1.length<=x1.length)<|chk (0+(mA r10).length<=(mA r10).length)<|some (AV.tup [AV.sl 9 (List.take ((mA r10).length) (mA r10)),I 0],[])))) (zfA a0 r0 x1 x2):=ptT []
theorem zB5:Qq (callD zm4 (cw zqf [sC a0] []) λ(r0:(List ((Int×Int)×Int))×(List ((Int×Int)×Bool)))=>zfA a0 r0 [] 0) (cw zlQ [sC a0] []):=cwT ztM []
end
section
variable(a0:zan)(a1:List zac)(x0 x1:LL)(x2:Int)(r4:(List zbS)×(List Bool))(x5:LL)(x6:Int)
def zp0:=pt zwa 1 ⟨[(1,sC a1),(2,gQ 2 9),(6,AV.row 14 1 0 ((gT (mA a1)).length)),(7,AV.row 7 12 0 x0.length),(8,I x2)],[(2,pJ a0),(7,gA x0),(14,gI x1)]⟩
def znl:=pt zwa 2 ⟨[(1,sC a1),(2,gQ 2 9),(6,AV.row 14 1 0 ((gT (mA a1)).length)),(7,gR 7 12 (x0++(mC r4.1))),(8,I x2),(10,AV.sl 1 (List.map nBool r4.2)),(11,I x6)],[(2,pJ a0),(7,⟨12,zaD,x0++(mC r4.1),false⟩),(14,gI x5)]⟩
variable{a0 a1 x0 x1 x2 r4 x5 x6}
theorem zzb:Qq (brn (decide (x2<(↑(mH a0.Markers).length:Int))) (chk ((0:Int)<=x2)<|elemD zdU (mH a0.Markers) x2.toNat λ(c3:za3)=>callD znz (cw zpX [sS a0,sC a1,I c3.ID] []) λ(r4:(List zbS)×(List Bool))=>chk (x0.length=x0.length)<|chk ((x0.length+(mC r4.1).length)*(88+1)<=1099511627776)<|chk ((x0++mC r4.1).length=(x0++mC r4.1).length)<|znl a0 a1 x0 x2 r4 x1 0) (chk (0+x0.length<=x0.length)<|chk (0+(gT (mA a1)).length<=x1.length)<|some (AV.tup [AV.sl 12 (List.take x0.length x0),AV.sl 1 (List.take ((gT (mA a1)).length) x1)],[]))) (zp0 a0 a1 x0 x1 x2):=ptT []
theorem zzc:Qq (brn (decide (x6<(↑(List.map nBool r4.2).length:Int))) (chk ((0:Int)<=x6)<|chk ((x6:Int)<(gT (mA a1)).length)<|elemD dBool x5 (0+x6.toNat) λ(c7:Bool)=>brn c7 (chk ((0:Int)<=x6)<|chk ((x6:Int)<(gT (mA a1)).length)<|elemD dBool x5 (0+x6.toNat) λ(c8:Bool)=>znl a0 a1 x0 x2 r4 (List.set x5 (0+x6.toNat) (nBool true)) (w64 (x6+1))) (chk ((0:Int)<=x6)<|elemD dBool (List.map nBool r4.2) x6.toNat λ(c9:Bool)=>chk ((0:Int)<=x6)<|chk ((x6:Int)<(gT (mA a1)).length)<|elemD dBool x5 (0+x6.toNat) λ(c10:Bool)=>znl a0 a1 x0 x2 r4 (List.set x5 (0+x6.toNat) (nBool c9)) (w64 (x6+1)))) (zp0 a0 a1 (x0++(mC r4.1)) x5 (w64 (x2+1)))) (znl a0 a1 x0 x2 r4 x5 x6):=ptT []
theorem zJX:Qq (chk (((↑(mA a1).length:Int):Int)=((↑(mA a1).length:Int)))<|chk ((0:Int)<=((↑(mA a1).length:Int)))<|chk ((↑(mA a1).length:Int).toNat*(1+1)<=1099511627776)<|zp0 a0 a1 [] (List.replicate ((↑(mA a1).length:Int).toNat) (nBool false)) 0) (cw zsF [sS a0,sC a1] []):=cwT zwa []
end
theorem zJc{a0:zan}{a1:zac}:Qq (callD zgR (cw zoX [sH a0.Scripts,I a1.Script] []) λ(r0:zaT×Bool)=>brn (!r0.2) gX (brn (a1.Kind !=0) gX (callD zag (cw zqe [sE a0.Markers,I a1.Stamp.Source,sX r0.1] []) λ(r1:Bool)=>brn (!r1) gX (callD zd1 (cw zng [sG a0.Papers,sX r0.1] []) λ(r2:Int×Bool)=>chk (0<=r2.1)<|elemD zcV (mJ a0.Papers) (Int.toNat r2.1) λ(c3:zaM)=>callD zag (cw zrl [sT c3,I a1.Part] []) λ(r4:Bool)=>brn r4 (brn (a1.Value==-1) (callD zag (cw zjL [AV.sl 1 (List.map zai a1.Pages),AV.sl 1 (List.map zai r0.1.Pages)] []) λ(r5:Bool)=>some (B r5,[])) (chk (0<=r2.1)<|elemD zcV (mJ a0.Papers) (Int.toNat r2.1) λ(c6:zaM)=>chk (0<=r2.1)<|elemD zeU (mU a0.Schemes) (Int.toNat r2.1) λ(c7:zbu)=>callD zag (cw zpq [sT c6,sY c7,I a1.Part,I a1.Value] []) λ(r8:Bool)=>brn r8 (callD zag (cw zjL [AV.sl 1 (List.map zai a1.Pages),AV.sl 1 (List.map zai r0.1.Pages)] []) λ(r9:Bool)=>some (B r9,[])) gX)) gX)))) (cw zrk [sS a0,sU a1] []):=cwT zId []
end Go.Proofs.YtlecnobdfhlmnaaGreat
end
