/- What the functions compute, between two cut points: printed by a program, checked by the kernel. -/
import Derived.Test.YtbhkcgaanaelfaaGreatAnn
namespace Go.Proofs.YtbhkcgaanaelfaaGreat
open Go.Ab
set_option maxRecDepth 100000
set_option linter.unusedVariables false
theorem zne (a0:List GRatio) (a1:Int) (a2:Int) (a3:Int) (a4:Int) {y:AV×Mem} (h:(
 callD zcp (cw zco [AV.sl 2 (List.map zaa a0),I a1,I a2,AV.loc 1003 1 0 0,AV.fn zah []] [(1003,⟨1,zaJ,[zai a4],true⟩)]) fun (r0:(Int×Int)×Int) =>
 callD zcp (cw zco [AV.sl 2 (List.map zaa a0),I r0.fst.snd,I a3,AV.loc 1003 1 0 0,AV.fn zah []] [(1003,⟨1,zaJ,[zai r0.snd],true⟩)]) fun (r1:(Int×Int)×Int) =>
 callD zcp (cw zco [AV.sl 2 (List.map zaa a0),I r0.fst.fst,I r1.fst.fst,AV.loc 1003 1 0 0,AV.fn zah []] [(1003,⟨1,zaJ,[zai r1.snd],true⟩)]) fun (r2:(Int×Int)×Int) =>
 some (I r2.fst.snd,[(1004,⟨1,zaJ,[zai r2.snd],true⟩)]))=some y):cw zct [AV.sl 2 (List.map zaa a0),I a1,I a2,I a3,AV.loc 1004 1 0 0,AV.fn zah []] [(1004,⟨1,zaJ,[zai a4],true⟩)]=some y:=
 zaj znh zT [] rfl (by kernel_rfl) (by kernel_rfl) (by kernel_rfl) (by kernel_rfl) (by kernel_rfl) h
theorem zuu (a0:Int) {y:AV×Mem} (h:(
 some (B (a0 != a0),[]))=some y):cw zhY [AV.v (.int .u64 a0)] []=some y:=
 zaj zuG zT [] rfl (by kernel_rfl) (by kernel_rfl) (by kernel_rfl) (by kernel_rfl) (by kernel_rfl) h
theorem zAb (a0:Gref01Wide) {y:AV×Mem} (h:(
 chk ((0:Int)≤1)<|
 chk ((0:Int)≤63)<|
 chk ((0:Int)≤1)<|
 some (AV.agg (zal (⟨wu64 (↑((wu64 (a0.Hi*2 ^ Min.min (Int.toNat 1) 64) % Int.ofNat (2 ^ 64)).toNat ||| (a0.Lo.fdiv (2 ^ Min.min (Int.toNat 63) 64) % Int.ofNat (2 ^ 64)).toNat):Int),wu64 (a0.Lo*2 ^ Min.min (Int.toNat 1) 64)⟩)),[]))=some y):cw zfv [AV.agg (zal a0)] []=some y:=
 zaj zzZ zT [] rfl (by kernel_rfl) (by kernel_rfl) (by kernel_rfl) (by kernel_rfl) (by kernel_rfl) h
theorem zsC (a0:Int) {y:AV×Mem} (h:(
 callD zlq (cw zly [AV.v (.int .u64 a0)] []) fun (r0:Int) =>
 some (I (w64 (64 - r0)),[]))=some y):cw ziX [AV.v (.int .u64 a0)] []=some y:=
 zaj zso zT [] rfl (by kernel_rfl) (by kernel_rfl) (by kernel_rfl) (by kernel_rfl) (by kernel_rfl) h
theorem zhh (a0:List GRatio) (a1:Int) (a2:Int) (a3:Int) {y:AV×Mem} (h:(
 chk ((0:Int)≤a2)<|
 elemD zaf (List.map zaa a0) a2.toNat fun (c0:GRatio) =>
 chk ((0:Int)≤a1)<|
 elemD zaf (List.map zaa a0) a1.toNat fun (c1:GRatio) =>
 callD zaH (cw zah [AV.agg (zaa c0),AV.agg (zaa c1)] []) fun (r2:Int) =>
 brn (decide (r2 < 0)) (some (AV.tup [I a2,I a1],[(1003,⟨1,zaJ,[zai (w64 (a3+1))],true⟩)]))
 (some (AV.tup [I a1,I a2],[(1003,⟨1,zaJ,[zai a3],true⟩)])))=some y):cw zco [AV.sl 2 (List.map zaa a0),I a1,I a2,AV.loc 1003 1 0 0,AV.fn zah []] [(1003,⟨1,zaJ,[zai a3],true⟩)]=some y:=
 zaj zna zT [] rfl (by kernel_rfl) (by kernel_rfl) (by kernel_rfl) (by kernel_rfl) (by kernel_rfl) h
end Go.Proofs.YtbhkcgaanaelfaaGreat
