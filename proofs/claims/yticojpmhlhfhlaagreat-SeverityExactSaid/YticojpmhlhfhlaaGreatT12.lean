/- What the functions compute, between two cut points: printed by a program, checked by the kernel. -/
import Derived.Test.YticojpmhlhfhlaaGreatAnn
namespace Go.Proofs.YticojpmhlhfhlaaGreat
open Go.Ab
set_option maxRecDepth 100000
set_option linter.unusedVariables false
noncomputable def zo5 (x0:Int) (x1:Int):Option (AV×Mem):=pt zCN 1 ⟨[(0,AV.v (.int .u64 x0)),(1,AV.v (.int .u64 x1))],[]⟩
theorem zHU (x0:Int) (x1:Int) {y:AV×Mem} (h:(
 brn (x1 != 0) (chk ((x1:Int)≠0)<|
 zo5 x1 (x0.tmod x1))
 (some (AV.v (.int .u64 x0),[])))=some y):zo5 x0 x1=some y:=
 pt_of zT [] (by kernel_rfl) h
theorem zJT (a0:Int) (a1:Int) {y:AV×Mem} (h:(
 zo5 a0 a1)=some y):cw zst [AV.v (.int .u64 a0),AV.v (.int .u64 a1)] []=some y:=
 zah zCN zT [] rfl (by kernel_rfl) (by kernel_rfl) (by kernel_rfl) (by kernel_rfl) (by kernel_rfl) h
theorem zFc (a0:Int) (a1:Int) {y:AV×Mem} (h:(
 callD zmU (cw zvm [AV.v (.int .u64 a0),AV.v (.int .u64 a1)] []) fun (r0:Int×Int) =>
 some (AV.agg (za9 (⟨r0.fst,r0.snd⟩)),[]))=some y):cw zqS [AV.v (.int .u64 a0),AV.v (.int .u64 a1)] []=some y:=
 zah zFa zT [] rfl (by kernel_rfl) (by kernel_rfl) (by kernel_rfl) (by kernel_rfl) (by kernel_rfl) h
theorem zym (a0:Int) (a1:Int) {y:AV×Mem} (h:(
 callD zeI (cw ziS [AV.v (.int .u64 a0)] []) fun (r0:Bool) =>
 callD zeI (cw ziS [AV.v (.int .u64 a1)] []) fun (r1:Bool) =>
 brn r0 (brn r1 (some (I 0,[]))
 (some (I (-1),[])))
 (brn r1 (some (I 1,[]))
 (brn (decide (a0 < a1)) (some (I (-1),[]))
 (brn (decide (a1 < a0)) (some (I 1,[]))
 (some (I 0,[]))))))=some y):cw zgW [AV.v (.int .u64 a0),AV.v (.int .u64 a1)] []=some y:=
 zah zy6 zT [] rfl (by kernel_rfl) (by kernel_rfl) (by kernel_rfl) (by kernel_rfl) (by kernel_rfl) h
theorem zEe (a0:GratioWide) (a1:Int) {y:AV×Mem} (h:(
 callD zve (cw zvh [AV.v (.int .u64 a0.hi),AV.v (.int .u64 a0.lo),AV.v (.int .u64 a1)] []) fun (r0:Int) =>
 some (AV.v (.int .u64 r0),[]))=some y):cw zkB [AV.agg (za9 a0),AV.v (.int .u64 a1)] []=some y:=
 zah zDG zT [] rfl (by kernel_rfl) (by kernel_rfl) (by kernel_rfl) (by kernel_rfl) (by kernel_rfl) h
theorem zFQ (a0:Bool) (a1:GratioWide) (a2:GratioWide) {y:AV×Mem} (h:(
 brn (a1.hi != 0) (some (AV.tup [AV.agg (zae (⟨0,0⟩)),I 6],[]))
 (brn (a2.hi != 0) (some (AV.tup [AV.agg (zae (⟨0,0⟩)),I 6],[]))
 (brn (decide (1152921504606846976 < a1.lo)) (some (AV.tup [AV.agg (zae (⟨0,0⟩)),I 6],[]))
 (brn (decide (1152921504606846976 < a2.lo)) (some (AV.tup [AV.agg (zae (⟨0,0⟩)),I 6],[]))
 (brn a0 (some (AV.tup [AV.agg (zae (⟨w64 (0 - w64 a1.lo),w64 a2.lo⟩)),I 0],[]))
 (some (AV.tup [AV.agg (zae (⟨w64 a1.lo,w64 a2.lo⟩)),I 0],[])))))))=some y):cw znA [B a0,AV.agg (za9 a1),AV.agg (za9 a2)] []=some y:=
 zah zFU zT [] rfl (by kernel_rfl) (by kernel_rfl) (by kernel_rfl) (by kernel_rfl) (by kernel_rfl) h
theorem zBJ (a0:GratioWide) (a1:Int) {y:AV×Mem} (h:(
 chk ((a1:Int)≠0)<|
 chk ((a1:Int)≠0)<|
 callD zhJ (cw zki [AV.v (.int .u64 (a0.hi.tmod a1)),AV.v (.int .u64 a0.lo),AV.v (.int .u64 a1)] []) fun (r0:Int×Int) =>
 some (AV.agg (za9 (⟨wu64 (a0.hi.tdiv a1),r0.fst⟩)),[]))=some y):cw zjE [AV.agg (za9 a0),AV.v (.int .u64 a1)] []=some y:=
 zah zB2 zT [] rfl (by kernel_rfl) (by kernel_rfl) (by kernel_rfl) (by kernel_rfl) (by kernel_rfl) h
noncomputable def zgU (x0:Gref01Wide) (x1:Gref01Wide):Option (AV×Mem):=pt zvS 1 ⟨[(2,AV.loc 2 2 0 0),(3,AV.loc 3 2 0 0),(4,AV.loc 4 2 0 0)],[(2,⟨2,zep,[zaY x0],true⟩),(3,⟨2,zep,[zaY x1],true⟩),(4,⟨2,zep,[zaY (⟨0,0⟩)],true⟩)]⟩
theorem zCl (x0:Gref01Wide) (x1:Gref01Wide) {y:AV×Mem} (h:(
 brn (!(x1.Hi == 0 && (x1.Lo == 0 && true))) (callD zjT (cw zjY [AV.agg (zaY x0),AV.agg (zaY x1)] []) fun (r2:Gref01Wide×Gref01Wide) =>
 zgU x1 r2.snd)
 (some (AV.agg (zaY x0),[])))=some y):zgU x0 x1=some y:=
 pt_of zT [] (by kernel_rfl) h
theorem zFH (a0:Gref01Wide) (a1:Gref01Wide) {y:AV×Mem} (h:(
 zgU a0 a1)=some y):cw zwh [AV.agg (zaY a0),AV.agg (zaY a1)] []=some y:=
 zah zvS zT [] rfl (by kernel_rfl) (by kernel_rfl) (by kernel_rfl) (by kernel_rfl) (by kernel_rfl) h
noncomputable def zuO (a0:Gref01Wide) (a1:Gref01Wide) (x0:Gref01Wide) (x1:Gref01Wide) (x2:Int):Option (AV×Mem):=pt zxP 1 ⟨[(2,AV.loc 2 2 0 0),(3,AV.loc 3 2 0 0),(4,AV.loc 4 2 0 0),(5,AV.loc 5 2 0 0),(6,AV.loc 6 2 0 0),(7,AV.loc 7 2 0 0),(8,I x2)],[(2,⟨2,zep,[zaY a0],true⟩),(3,⟨2,zep,[zaY a1],true⟩),(4,⟨2,zep,[zaY (⟨0,0⟩)],true⟩),(5,⟨2,zep,[zaY (⟨0,0⟩)],true⟩),(6,⟨2,zep,[zaY x0],true⟩),(7,⟨2,zep,[zaY x1],true⟩)]⟩
theorem zGf (a0:Gref01Wide) (a1:Gref01Wide) {y:AV×Mem} (h:(
 brn (a0.Hi == 0) (brn (a1.Hi == 0) (chk ((a1.Lo:Int)≠0)<|
 chk ((a1.Lo:Int)≠0)<|
 some (AV.tup [AV.agg (zaY (⟨0,wu64 (a0.Lo.tdiv a1.Lo)⟩)),AV.agg (zaY (⟨0,a0.Lo.tmod a1.Lo⟩))],[]))
 (zuO a0 a1 (⟨0,0⟩) (⟨0,0⟩) 127))
 (zuO a0 a1 (⟨0,0⟩) (⟨0,0⟩) 127))=some y):cw zjY [AV.agg (zaY a0),AV.agg (zaY a1)] []=some y:=
 zah zxP zT [15,10] rfl (by kernel_rfl) (by kernel_rfl) (by kernel_rfl) (by kernel_rfl) (by kernel_rfl) h
theorem zCz (a0:GPart) {y:AV×Mem} (h:(
 brn (decide (a0.Max < 1)) (some (B false,[]))
 (brn (decide (40 < a0.Max)) (some (B false,[]))
 (brn (decide (a0.Topic < 0)) (some (B false,[]))
 (brn (decide (16≤a0.Topic)) (some (B false,[]))
 (brn (decide (a0.Objective < 0)) (some (B false,[]))
 (brn (decide (6≤a0.Objective)) (some (B false,[]))
 (brn (a0.Kind == 1) (brn (a0.Options == 0) (some (B (a0.Key == 0),[]))
 (some (B false,[])))
 (brn (a0.Kind == 2) (brn (decide (2≤a0.Options)) (brn (decide (a0.Options≤5)) (brn (decide (0≤a0.Key)) (some (B (decide (a0.Key < a0.Options)),[]))
 (some (B false,[])))
 (some (B false,[])))
 (some (B false,[])))
 (some (B false,[]))))))))))=some y):cw zog [AV.agg (zav a0)] []=some y:=
 zah zB7 zT [] rfl (by kernel_rfl) (by kernel_rfl) (by kernel_rfl) (by kernel_rfl) (by kernel_rfl) h
noncomputable def zoO (a0:List Int) (a1:Int) (x0:Int):Option (AV×Mem):=pt zCD 1 ⟨[(0,AV.sl 1 (List.map zaa a0)),(1,I a1),(5,I x0)],[]⟩
theorem zth (a0:List Int) (a1:Int) (x0:Int) {y:AV×Mem} (h:(
 brn (decide (x0 < (↑(List.map zaa a0).length:Int))) (chk ((0:Int)≤x0)<|
 elemD zag (List.map zaa a0) x0.toNat fun (c1:Int) =>
 brn (c1 == a1) (some (B true,[]))
 (zoO a0 a1 (w64 (x0+1))))
 (some (B false,[])))=some y):zoO a0 a1 x0=some y:=
 pt_of zT [] (by kernel_rfl) h
theorem zJO (a0:List Int) (a1:Int) {y:AV×Mem} (h:(
 zoO a0 a1 0)=some y):cw zwL [AV.sl 1 (List.map zaa a0),I a1] []=some y:=
 zah zCD zT [] rfl (by kernel_rfl) (by kernel_rfl) (by kernel_rfl) (by kernel_rfl) (by kernel_rfl) h
theorem zG1 (a0:GStamp) {y:AV×Mem} (h:(
 brn (decide (0≤a0.Time)) (brn (decide (a0.Time≤1000000)) (brn (decide (0≤a0.Source)) (brn (decide (a0.Source≤99)) (brn (decide (0≤a0.Seq)) (some (B (decide (a0.Seq≤9999)),[]))
 (some (B false,[])))
 (some (B false,[])))
 (some (B false,[])))
 (some (B false,[])))
 (some (B false,[])))=some y):cw ztg [AV.agg (zaT a0)] []=some y:=
 zah zHq zT [] rfl (by kernel_rfl) (by kernel_rfl) (by kernel_rfl) (by kernel_rfl) (by kernel_rfl) h
theorem e_ref28_in (a0:Int) (a1:Int) (a2:Int) {y:AV×Mem} (h:(
 brn (decide (a1≤a0)) (some (B (decide (a0≤a2)),[]))
 (some (B false,[])))=some y):cw ziB [I a0,I a1,I a2] []=some y:=
 zah R_ref28_in zT [] rfl (by kernel_rfl) (by kernel_rfl) (by kernel_rfl) (by kernel_rfl) (by kernel_rfl) h
end Go.Proofs.YticojpmhlhfhlaaGreat
