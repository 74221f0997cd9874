/- What the functions compute, between two cut points: printed by a program, checked by the kernel. -/
import Derived.Test.YtbhkcgaanaelfaaGreatAnn
namespace Go.Proofs.YtbhkcgaanaelfaaGreat
open Go.Ab
set_option maxRecDepth 100000
set_option linter.unusedVariables false
theorem zkv (a0:List GRatio) (a1:Int) (a2:Int) (a3:Int) (a4:Int) {y:AV×Mem} (h:(
 callD zch (cw zcm [AV.sl 2 (List.map zaa a0),I a1,I a2,AV.loc 1003 1 0 0,AV.fn zag []] [(1003,⟨1,za8,[zbl a4],true⟩)]) fun (r0:(Int×Int)×Int) =>
 callD zch (cw zcm [AV.sl 2 (List.map zaa a0),I r0.fst.snd,I a3,AV.loc 1003 1 0 0,AV.fn zag []] [(1003,⟨1,za8,[zbl r0.snd],true⟩)]) fun (r1:(Int×Int)×Int) =>
 callD zch (cw zcm [AV.sl 2 (List.map zaa a0),I r0.fst.fst,I r1.fst.fst,AV.loc 1003 1 0 0,AV.fn zag []] [(1003,⟨1,za8,[zbl r1.snd],true⟩)]) fun (r2:(Int×Int)×Int) =>
 some (I r2.fst.snd,[(1004,⟨1,za8,[zbl r2.snd],true⟩)]))=some y):cw zcj [AV.sl 2 (List.map zaa a0),I a1,I a2,I a3,AV.loc 1004 1 0 0,AV.fn zag []] [(1004,⟨1,za8,[zbl a4],true⟩)]=some y:=
 zaj zki zT [] rfl (by kernel_rfl) (by kernel_rfl) (by kernel_rfl) (by kernel_rfl) (by kernel_rfl) h
theorem zro (a0:Int) {y:AV×Mem} (h:(
 some (B (a0 != a0),[]))=some y):cw zgC [AV.v (.int .u64 a0)] []=some y:=
 zaj zqN zT [] rfl (by kernel_rfl) (by kernel_rfl) (by kernel_rfl) (by kernel_rfl) (by kernel_rfl) h
theorem zwl (a0:Gref01Wide) {y:AV×Mem} (h:(
 chk ((0:Int)≤1)<|
 chk ((0:Int)≤63)<|
 chk ((0:Int)≤1)<|
 some (AV.agg (zai (⟨wu64 (↑((wu64 (a0.Hi*2 ^ Min.min (Int.toNat 1) 64) % Int.ofNat (2 ^ 64)).toNat ||| (a0.Lo.fdiv (2 ^ Min.min (Int.toNat 63) 64) % Int.ofNat (2 ^ 64)).toNat):Int),wu64 (a0.Lo*2 ^ Min.min (Int.toNat 1) 64)⟩)),[]))=some y):cw zeO [AV.agg (zai a0)] []=some y:=
 zaj zwk zT [] rfl (by kernel_rfl) (by kernel_rfl) (by kernel_rfl) (by kernel_rfl) (by kernel_rfl) h
theorem zo0 (a0:Int) {y:AV×Mem} (h:(
 callD zjl (cw ziR [AV.v (.int .u64 a0)] []) fun (r0:Int) =>
 some (I (w64 (64 - r0)),[]))=some y):cw zg3 [AV.v (.int .u64 a0)] []=some y:=
 zaj zoW zT [] rfl (by kernel_rfl) (by kernel_rfl) (by kernel_rfl) (by kernel_rfl) (by kernel_rfl) h
theorem zge (a0:List GRatio) (a1:Int) (a2:Int) (a3:Int) {y:AV×Mem} (h:(
 chk ((0:Int)≤a2)<|
 elemD zad (List.map zaa a0) a2.toNat fun (c0:GRatio) =>
 chk ((0:Int)≤a1)<|
 elemD zad (List.map zaa a0) a1.toNat fun (c1:GRatio) =>
 callD zaB (cw zag [AV.agg (zaa c0),AV.agg (zaa c1)] []) fun (r2:Int) =>
 brn (decide (r2 < 0)) (some (AV.tup [I a2,I a1],[(1003,⟨1,za8,[zbl (w64 (a3+1))],true⟩)]))
 (some (AV.tup [I a1,I a2],[(1003,⟨1,za8,[zbl a3],true⟩)])))=some y):cw zcm [AV.sl 2 (List.map zaa a0),I a1,I a2,AV.loc 1003 1 0 0,AV.fn zag []] [(1003,⟨1,za8,[zbl a3],true⟩)]=some y:=
 zaj zkw zT [] rfl (by kernel_rfl) (by kernel_rfl) (by kernel_rfl) (by kernel_rfl) (by kernel_rfl) h
end Go.Proofs.YtbhkcgaanaelfaaGreat
