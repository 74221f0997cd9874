/- What the functions compute, between two cut points: printed by a program, checked by the kernel. -/
import Derived.Test.YtbhkcgaanaelfaaGreatAnn
namespace Go.Proofs.YtbhkcgaanaelfaaGreat
open Go.Ab
set_option maxRecDepth 100000
set_option linter.unusedVariables false
theorem zkU (a0:List GRatio) (a1:Int) (a2:Int) (a3:Int) (a4:Int) {y:AV×Mem} (h:(
 callD zcl (cw zco [AV.sl 2 (List.map zaa a0),I a1,I a2,AV.loc 1003 1 0 0,AV.fn zad []] [(1003,⟨1,zaF,[zaj a4],true⟩)]) fun (r0:(Int×Int)×Int) =>
 callD zcl (cw zco [AV.sl 2 (List.map zaa a0),I r0.fst.snd,I a3,AV.loc 1003 1 0 0,AV.fn zad []] [(1003,⟨1,zaF,[zaj r0.snd],true⟩)]) fun (r1:(Int×Int)×Int) =>
 callD zcl (cw zco [AV.sl 2 (List.map zaa a0),I r0.fst.fst,I r1.fst.fst,AV.loc 1003 1 0 0,AV.fn zad []] [(1003,⟨1,zaF,[zaj r1.snd],true⟩)]) fun (r2:(Int×Int)×Int) =>
 some (I r2.fst.snd,[(1004,⟨1,zaF,[zaj r2.snd],true⟩)]))=some y):cw zcn [AV.sl 2 (List.map zaa a0),I a1,I a2,I a3,AV.loc 1004 1 0 0,AV.fn zad []] [(1004,⟨1,zaF,[zaj a4],true⟩)]=some y:=
 zai zkK zT [] rfl (by kernel_rfl) (by kernel_rfl) (by kernel_rfl) (by kernel_rfl) (by kernel_rfl) h
theorem zq0 (a0:Int) {y:AV×Mem} (h:(
 some (B (a0 != a0),[]))=some y):cw zgL [AV.v (.int .u64 a0)] []=some y:=
 zai zqM zT [] rfl (by kernel_rfl) (by kernel_rfl) (by kernel_rfl) (by kernel_rfl) (by kernel_rfl) h
theorem zwr (a0:Gref01Wide) {y:AV×Mem} (h:(
 chk ((0:Int)≤1)<|
 chk ((0:Int)≤63)<|
 chk ((0:Int)≤1)<|
 some (AV.agg (zah (⟨wu64 (↑((wu64 (a0.Hi*2 ^ Min.min (Int.toNat 1) 64) % Int.ofNat (2 ^ 64)).toNat ||| (a0.Lo.fdiv (2 ^ Min.min (Int.toNat 63) 64) % Int.ofNat (2 ^ 64)).toNat):Int),wu64 (a0.Lo*2 ^ Min.min (Int.toNat 1) 64)⟩)),[]))=some y):cw zeM [AV.agg (zah a0)] []=some y:=
 zai zvW zT [] rfl (by kernel_rfl) (by kernel_rfl) (by kernel_rfl) (by kernel_rfl) (by kernel_rfl) h
theorem zo1 (a0:Int) {y:AV×Mem} (h:(
 callD zjk (cw zjy [AV.v (.int .u64 a0)] []) fun (r0:Int) =>
 some (I (w64 (64 - r0)),[]))=some y):cw zhD [AV.v (.int .u64 a0)] []=some y:=
 zai zo4 zT [] rfl (by kernel_rfl) (by kernel_rfl) (by kernel_rfl) (by kernel_rfl) (by kernel_rfl) h
theorem zf9 (a0:List GRatio) (a1:Int) (a2:Int) (a3:Int) {y:AV×Mem} (h:(
 chk ((0:Int)≤a2)<|
 elemD zab (List.map zaa a0) a2.toNat fun (c0:GRatio) =>
 chk ((0:Int)≤a1)<|
 elemD zab (List.map zaa a0) a1.toNat fun (c1:GRatio) =>
 callD zaz (cw zad [AV.agg (zaa c0),AV.agg (zaa c1)] []) fun (r2:Int) =>
 brn (decide (r2 < 0)) (some (AV.tup [I a2,I a1],[(1003,⟨1,zaF,[zaj (w64 (a3+1))],true⟩)]))
 (some (AV.tup [I a1,I a2],[(1003,⟨1,zaF,[zaj a3],true⟩)])))=some y):cw zco [AV.sl 2 (List.map zaa a0),I a1,I a2,AV.loc 1003 1 0 0,AV.fn zad []] [(1003,⟨1,zaF,[zaj a3],true⟩)]=some y:=
 zai zkP zT [] rfl (by kernel_rfl) (by kernel_rfl) (by kernel_rfl) (by kernel_rfl) (by kernel_rfl) h
end Go.Proofs.YtbhkcgaanaelfaaGreat
