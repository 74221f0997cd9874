/- What the functions compute, between two cut points: printed by a program, checked by the kernel. -/
import Derived.Test.YtbhkcgaanaelfaaGreatAnn
namespace Go.Proofs.YtbhkcgaanaelfaaGreat
open Go.Ab
set_option maxRecDepth 100000
set_option linter.unusedVariables false
noncomputable def zkI (a0:Int) (a1:Int) (a2:Int) (r0:Int):Option (AV×Mem):=pt zgf 1 ⟨[(2,AV.v (.int .u64 (wu64 (a2*2 ^ Min.min (wu64 r0).toNat 64)))),(8,AV.v (.int .u64 (wu64 r0))),(9,AV.v (.int .u64 ((wu64 (a2*2 ^ Min.min (wu64 r0).toNat 64)).fdiv (2 ^ Min.min (Int.toNat 32) 64)))),(10,AV.v (.int .u64 (wu64 (↑((wu64 (a2*2 ^ Min.min (wu64 r0).toNat 64) % Int.ofNat (2 ^ 64)).toNat &&& (4294967295 % Int.ofNat (2 ^ 64)).toNat):Int)))),(11,AV.v (.int .u64 (wu64 (↑((wu64 (a0*2 ^ Min.min (wu64 r0).toNat 64) % Int.ofNat (2 ^ 64)).toNat ||| (a1.fdiv (2 ^ Min.min (wu64 (64 - wu64 r0)).toNat 64) % Int.ofNat (2 ^ 64)).toNat):Int)))),(13,AV.v (.int .u64 ((wu64 (a1*2 ^ Min.min (wu64 r0).toNat 64)).fdiv (2 ^ Min.min (Int.toNat 32) 64)))),(14,AV.v (.int .u64 (wu64 (↑((wu64 (a1*2 ^ Min.min (wu64 r0).toNat 64) % Int.ofNat (2 ^ 64)).toNat &&& (4294967295 % Int.ofNat (2 ^ 64)).toNat):Int)))),(15,AV.v (.int .u64 (wu64 ((wu64 (↑((wu64 (a0*2 ^ Min.min (wu64 r0).toNat 64) % Int.ofNat (2 ^ 64)).toNat ||| (a1.fdiv (2 ^ Min.min (wu64 (64 - wu64 r0)).toNat 64) % Int.ofNat (2 ^ 64)).toNat):Int)).tdiv ((wu64 (a2*2 ^ Min.min (wu64 r0).toNat 64)).fdiv (2 ^ Min.min (Int.toNat 32) 64)))))),(16,AV.v (.int .u64 (wu64 (wu64 (↑((wu64 (a0*2 ^ Min.min (wu64 r0).toNat 64) % Int.ofNat (2 ^ 64)).toNat ||| (a1.fdiv (2 ^ Min.min (wu64 (64 - wu64 r0)).toNat 64) % Int.ofNat (2 ^ 64)).toNat):Int) - wu64 (wu64 ((wu64 (↑((wu64 (a0*2 ^ Min.min (wu64 r0).toNat 64) % Int.ofNat (2 ^ 64)).toNat ||| (a1.fdiv (2 ^ Min.min (wu64 (64 - wu64 r0)).toNat 64) % Int.ofNat (2 ^ 64)).toNat):Int)).tdiv ((wu64 (a2*2 ^ Min.min (wu64 r0).toNat 64)).fdiv (2 ^ Min.min (Int.toNat 32) 64)))*(wu64 (a2*2 ^ Min.min (wu64 r0).toNat 64)).fdiv (2 ^ Min.min (Int.toNat 32) 64))))))],[]⟩
noncomputable def zdT (a0:Int) (a1:Int) (a2:Int) (r0:Int) (x1:Int) (x2:Int):Option (AV×Mem):=pt zgf 1018 ⟨[(2,AV.v (.int .u64 (wu64 (a2*2 ^ Min.min (wu64 r0).toNat 64)))),(8,AV.v (.int .u64 (wu64 r0))),(9,AV.v (.int .u64 ((wu64 (a2*2 ^ Min.min (wu64 r0).toNat 64)).fdiv (2 ^ Min.min (Int.toNat 32) 64)))),(10,AV.v (.int .u64 (wu64 (↑((wu64 (a2*2 ^ Min.min (wu64 r0).toNat 64) % Int.ofNat (2 ^ 64)).toNat &&& (4294967295 % Int.ofNat (2 ^ 64)).toNat):Int)))),(11,AV.v (.int .u64 (wu64 (↑((wu64 (a0*2 ^ Min.min (wu64 r0).toNat 64) % Int.ofNat (2 ^ 64)).toNat ||| (a1.fdiv (2 ^ Min.min (wu64 (64 - wu64 r0)).toNat 64) % Int.ofNat (2 ^ 64)).toNat):Int)))),(13,AV.v (.int .u64 ((wu64 (a1*2 ^ Min.min (wu64 r0).toNat 64)).fdiv (2 ^ Min.min (Int.toNat 32) 64)))),(14,AV.v (.int .u64 (wu64 (↑((wu64 (a1*2 ^ Min.min (wu64 r0).toNat 64) % Int.ofNat (2 ^ 64)).toNat &&& (4294967295 % Int.ofNat (2 ^ 64)).toNat):Int)))),(15,AV.v (.int .u64 x1)),(16,AV.v (.int .u64 x2)),(78,B true)],[]⟩
noncomputable def zd6 (a1:Int) (a2:Int) (r0:Int) (x3:Int) (x4:Int) (x5:Int) (x6:Int):Option (AV×Mem):=pt zgf 2 ⟨[(2,AV.v (.int .u64 (wu64 (a2*2 ^ Min.min (wu64 r0).toNat 64)))),(8,AV.v (.int .u64 (wu64 r0))),(9,AV.v (.int .u64 ((wu64 (a2*2 ^ Min.min (wu64 r0).toNat 64)).fdiv (2 ^ Min.min (Int.toNat 32) 64)))),(10,AV.v (.int .u64 (wu64 (↑((wu64 (a2*2 ^ Min.min (wu64 r0).toNat 64) % Int.ofNat (2 ^ 64)).toNat &&& (4294967295 % Int.ofNat (2 ^ 64)).toNat):Int)))),(14,AV.v (.int .u64 (wu64 (↑((wu64 (a1*2 ^ Min.min (wu64 r0).toNat 64) % Int.ofNat (2 ^ 64)).toNat &&& (4294967295 % Int.ofNat (2 ^ 64)).toNat):Int)))),(15,AV.v (.int .u64 x3)),(16,AV.v (.int .u64 x4)),(17,AV.v (.int .u64 x5)),(18,AV.v (.int .u64 x6))],[]⟩
noncomputable def zjt (a0:Int) (a1:Int) (a2:Int) (r0:Int) (x1:Int) (x2:Int):Option (AV×Mem):=pt zgf 1 ⟨[(2,AV.v (.int .u64 (wu64 (a2*2 ^ Min.min (wu64 r0).toNat 64)))),(8,AV.v (.int .u64 (wu64 r0))),(9,AV.v (.int .u64 ((wu64 (a2*2 ^ Min.min (wu64 r0).toNat 64)).fdiv (2 ^ Min.min (Int.toNat 32) 64)))),(10,AV.v (.int .u64 (wu64 (↑((wu64 (a2*2 ^ Min.min (wu64 r0).toNat 64) % Int.ofNat (2 ^ 64)).toNat &&& (4294967295 % Int.ofNat (2 ^ 64)).toNat):Int)))),(11,AV.v (.int .u64 (wu64 (↑((wu64 (a0*2 ^ Min.min (wu64 r0).toNat 64) % Int.ofNat (2 ^ 64)).toNat ||| (a1.fdiv (2 ^ Min.min (wu64 (64 - wu64 r0)).toNat 64) % Int.ofNat (2 ^ 64)).toNat):Int)))),(13,AV.v (.int .u64 ((wu64 (a1*2 ^ Min.min (wu64 r0).toNat 64)).fdiv (2 ^ Min.min (Int.toNat 32) 64)))),(14,AV.v (.int .u64 (wu64 (↑((wu64 (a1*2 ^ Min.min (wu64 r0).toNat 64) % Int.ofNat (2 ^ 64)).toNat &&& (4294967295 % Int.ofNat (2 ^ 64)).toNat):Int)))),(15,AV.v (.int .u64 (wu64 (x1 - 1)))),(16,AV.v (.int .u64 (wu64 (x2+(wu64 (a2*2 ^ Min.min (wu64 r0).toNat 64)).fdiv (2 ^ Min.min (Int.toNat 32) 64))))),(85,B false)],[]⟩
noncomputable def zdU (a1:Int) (a2:Int) (r0:Int) (x3:Int) (x5:Int) (x7:Int) (x8:Int):Option (AV×Mem):=pt zgf 1025 ⟨[(2,AV.v (.int .u64 (wu64 (a2*2 ^ Min.min (wu64 r0).toNat 64)))),(8,AV.v (.int .u64 (wu64 r0))),(9,AV.v (.int .u64 ((wu64 (a2*2 ^ Min.min (wu64 r0).toNat 64)).fdiv (2 ^ Min.min (Int.toNat 32) 64)))),(10,AV.v (.int .u64 (wu64 (↑((wu64 (a2*2 ^ Min.min (wu64 r0).toNat 64) % Int.ofNat (2 ^ 64)).toNat &&& (4294967295 % Int.ofNat (2 ^ 64)).toNat):Int)))),(14,AV.v (.int .u64 (wu64 (↑((wu64 (a1*2 ^ Min.min (wu64 r0).toNat 64) % Int.ofNat (2 ^ 64)).toNat &&& (4294967295 % Int.ofNat (2 ^ 64)).toNat):Int)))),(15,AV.v (.int .u64 x3)),(16,AV.v (.int .u64 x7)),(17,AV.v (.int .u64 x5)),(18,AV.v (.int .u64 x8)),(113,B true)],[]⟩
noncomputable def zjj (a1:Int) (a2:Int) (r0:Int) (x3:Int) (x5:Int) (x7:Int) (x8:Int):Option (AV×Mem):=pt zgf 2 ⟨[(2,AV.v (.int .u64 (wu64 (a2*2 ^ Min.min (wu64 r0).toNat 64)))),(8,AV.v (.int .u64 (wu64 r0))),(9,AV.v (.int .u64 ((wu64 (a2*2 ^ Min.min (wu64 r0).toNat 64)).fdiv (2 ^ Min.min (Int.toNat 32) 64)))),(10,AV.v (.int .u64 (wu64 (↑((wu64 (a2*2 ^ Min.min (wu64 r0).toNat 64) % Int.ofNat (2 ^ 64)).toNat &&& (4294967295 % Int.ofNat (2 ^ 64)).toNat):Int)))),(14,AV.v (.int .u64 (wu64 (↑((wu64 (a1*2 ^ Min.min (wu64 r0).toNat 64) % Int.ofNat (2 ^ 64)).toNat &&& (4294967295 % Int.ofNat (2 ^ 64)).toNat):Int)))),(15,AV.v (.int .u64 x3)),(16,AV.v (.int .u64 (wu64 (x7+(wu64 (a2*2 ^ Min.min (wu64 r0).toNat 64)).fdiv (2 ^ Min.min (Int.toNat 32) 64))))),(17,AV.v (.int .u64 x5)),(18,AV.v (.int .u64 (wu64 (x8 - 1)))),(120,B false)],[]⟩
theorem zs8 (a0:Int) (a1:Int) (a2:Int) (r0:Int) {y:AV×Mem} (h:(
 brn (decide (4294967296≤wu64 ((wu64 (↑((wu64 (a0*2 ^ Min.min (wu64 r0).toNat 64) % Int.ofNat (2 ^ 64)).toNat ||| (a1.fdiv (2 ^ Min.min (wu64 (64 - wu64 r0)).toNat 64) % Int.ofNat (2 ^ 64)).toNat):Int)).tdiv ((wu64 (a2*2 ^ Min.min (wu64 r0).toNat 64)).fdiv (2 ^ Min.min (Int.toNat 32) 64))))) (zdT a0 a1 a2 r0 (wu64 ((wu64 (↑((wu64 (a0*2 ^ Min.min (wu64 r0).toNat 64) % Int.ofNat (2 ^ 64)).toNat ||| (a1.fdiv (2 ^ Min.min (wu64 (64 - wu64 r0)).toNat 64) % Int.ofNat (2 ^ 64)).toNat):Int)).tdiv ((wu64 (a2*2 ^ Min.min (wu64 r0).toNat 64)).fdiv (2 ^ Min.min (Int.toNat 32) 64)))) (wu64 (wu64 (↑((wu64 (a0*2 ^ Min.min (wu64 r0).toNat 64) % Int.ofNat (2 ^ 64)).toNat ||| (a1.fdiv (2 ^ Min.min (wu64 (64 - wu64 r0)).toNat 64) % Int.ofNat (2 ^ 64)).toNat):Int) - wu64 (wu64 ((wu64 (↑((wu64 (a0*2 ^ Min.min (wu64 r0).toNat 64) % Int.ofNat (2 ^ 64)).toNat ||| (a1.fdiv (2 ^ Min.min (wu64 (64 - wu64 r0)).toNat 64) % Int.ofNat (2 ^ 64)).toNat):Int)).tdiv ((wu64 (a2*2 ^ Min.min (wu64 r0).toNat 64)).fdiv (2 ^ Min.min (Int.toNat 32) 64)))*(wu64 (a2*2 ^ Min.min (wu64 r0).toNat 64)).fdiv (2 ^ Min.min (Int.toNat 32) 64)))))
 (brn (decide (wu64 (wu64 (4294967296*wu64 (wu64 (↑((wu64 (a0*2 ^ Min.min (wu64 r0).toNat 64) % Int.ofNat (2 ^ 64)).toNat ||| (a1.fdiv (2 ^ Min.min (wu64 (64 - wu64 r0)).toNat 64) % Int.ofNat (2 ^ 64)).toNat):Int) - wu64 (wu64 ((wu64 (↑((wu64 (a0*2 ^ Min.min (wu64 r0).toNat 64) % Int.ofNat (2 ^ 64)).toNat ||| (a1.fdiv (2 ^ Min.min (wu64 (64 - wu64 r0)).toNat 64) % Int.ofNat (2 ^ 64)).toNat):Int)).tdiv ((wu64 (a2*2 ^ Min.min (wu64 r0).toNat 64)).fdiv (2 ^ Min.min (Int.toNat 32) 64)))*(wu64 (a2*2 ^ Min.min (wu64 r0).toNat 64)).fdiv (2 ^ Min.min (Int.toNat 32) 64))))+(wu64 (a1*2 ^ Min.min (wu64 r0).toNat 64)).fdiv (2 ^ Min.min (Int.toNat 32) 64)) < wu64 (wu64 ((wu64 (↑((wu64 (a0*2 ^ Min.min (wu64 r0).toNat 64) % Int.ofNat (2 ^ 64)).toNat ||| (a1.fdiv (2 ^ Min.min (wu64 (64 - wu64 r0)).toNat 64) % Int.ofNat (2 ^ 64)).toNat):Int)).tdiv ((wu64 (a2*2 ^ Min.min (wu64 r0).toNat 64)).fdiv (2 ^ Min.min (Int.toNat 32) 64)))*wu64 (↑((wu64 (a2*2 ^ Min.min (wu64 r0).toNat 64) % Int.ofNat (2 ^ 64)).toNat &&& (4294967295 % Int.ofNat (2 ^ 64)).toNat):Int)))) (zdT a0 a1 a2 r0 (wu64 ((wu64 (↑((wu64 (a0*2 ^ Min.min (wu64 r0).toNat 64) % Int.ofNat (2 ^ 64)).toNat ||| (a1.fdiv (2 ^ Min.min (wu64 (64 - wu64 r0)).toNat 64) % Int.ofNat (2 ^ 64)).toNat):Int)).tdiv ((wu64 (a2*2 ^ Min.min (wu64 r0).toNat 64)).fdiv (2 ^ Min.min (Int.toNat 32) 64)))) (wu64 (wu64 (↑((wu64 (a0*2 ^ Min.min (wu64 r0).toNat 64) % Int.ofNat (2 ^ 64)).toNat ||| (a1.fdiv (2 ^ Min.min (wu64 (64 - wu64 r0)).toNat 64) % Int.ofNat (2 ^ 64)).toNat):Int) - wu64 (wu64 ((wu64 (↑((wu64 (a0*2 ^ Min.min (wu64 r0).toNat 64) % Int.ofNat (2 ^ 64)).toNat ||| (a1.fdiv (2 ^ Min.min (wu64 (64 - wu64 r0)).toNat 64) % Int.ofNat (2 ^ 64)).toNat):Int)).tdiv ((wu64 (a2*2 ^ Min.min (wu64 r0).toNat 64)).fdiv (2 ^ Min.min (Int.toNat 32) 64)))*(wu64 (a2*2 ^ Min.min (wu64 r0).toNat 64)).fdiv (2 ^ Min.min (Int.toNat 32) 64)))))
 (chk (((wu64 (a2*2 ^ Min.min (wu64 r0).toNat 64)).fdiv (2 ^ Min.min (Int.toNat 32) 64):Int)≠0)<|
 zd6 a1 a2 r0 (wu64 ((wu64 (↑((wu64 (a0*2 ^ Min.min (wu64 r0).toNat 64) % Int.ofNat (2 ^ 64)).toNat ||| (a1.fdiv (2 ^ Min.min (wu64 (64 - wu64 r0)).toNat 64) % Int.ofNat (2 ^ 64)).toNat):Int)).tdiv ((wu64 (a2*2 ^ Min.min (wu64 r0).toNat 64)).fdiv (2 ^ Min.min (Int.toNat 32) 64)))) (wu64 (wu64 (wu64 (wu64 (wu64 (↑((wu64 (a0*2 ^ Min.min (wu64 r0).toNat 64) % Int.ofNat (2 ^ 64)).toNat ||| (a1.fdiv (2 ^ Min.min (wu64 (64 - wu64 r0)).toNat 64) % Int.ofNat (2 ^ 64)).toNat):Int)*4294967296)+(wu64 (a1*2 ^ Min.min (wu64 r0).toNat 64)).fdiv (2 ^ Min.min (Int.toNat 32) 64)) - wu64 (wu64 ((wu64 (↑((wu64 (a0*2 ^ Min.min (wu64 r0).toNat 64) % Int.ofNat (2 ^ 64)).toNat ||| (a1.fdiv (2 ^ Min.min (wu64 (64 - wu64 r0)).toNat 64) % Int.ofNat (2 ^ 64)).toNat):Int)).tdiv ((wu64 (a2*2 ^ Min.min (wu64 r0).toNat 64)).fdiv (2 ^ Min.min (Int.toNat 32) 64)))*wu64 (a2*2 ^ Min.min (wu64 r0).toNat 64))) - wu64 (wu64 ((wu64 (wu64 (wu64 (wu64 (↑((wu64 (a0*2 ^ Min.min (wu64 r0).toNat 64) % Int.ofNat (2 ^ 64)).toNat ||| (a1.fdiv (2 ^ Min.min (wu64 (64 - wu64 r0)).toNat 64) % Int.ofNat (2 ^ 64)).toNat):Int)*4294967296)+(wu64 (a1*2 ^ Min.min (wu64 r0).toNat 64)).fdiv (2 ^ Min.min (Int.toNat 32) 64)) - wu64 (wu64 ((wu64 (↑((wu64 (a0*2 ^ Min.min (wu64 r0).toNat 64) % Int.ofNat (2 ^ 64)).toNat ||| (a1.fdiv (2 ^ Min.min (wu64 (64 - wu64 r0)).toNat 64) % Int.ofNat (2 ^ 64)).toNat):Int)).tdiv ((wu64 (a2*2 ^ Min.min (wu64 r0).toNat 64)).fdiv (2 ^ Min.min (Int.toNat 32) 64)))*wu64 (a2*2 ^ Min.min (wu64 r0).toNat 64)))).tdiv ((wu64 (a2*2 ^ Min.min (wu64 r0).toNat 64)).fdiv (2 ^ Min.min (Int.toNat 32) 64)))*(wu64 (a2*2 ^ Min.min (wu64 r0).toNat 64)).fdiv (2 ^ Min.min (Int.toNat 32) 64)))) (wu64 (wu64 (wu64 (wu64 (↑((wu64 (a0*2 ^ Min.min (wu64 r0).toNat 64) % Int.ofNat (2 ^ 64)).toNat ||| (a1.fdiv (2 ^ Min.min (wu64 (64 - wu64 r0)).toNat 64) % Int.ofNat (2 ^ 64)).toNat):Int)*4294967296)+(wu64 (a1*2 ^ Min.min (wu64 r0).toNat 64)).fdiv (2 ^ Min.min (Int.toNat 32) 64)) - wu64 (wu64 ((wu64 (↑((wu64 (a0*2 ^ Min.min (wu64 r0).toNat 64) % Int.ofNat (2 ^ 64)).toNat ||| (a1.fdiv (2 ^ Min.min (wu64 (64 - wu64 r0)).toNat 64) % Int.ofNat (2 ^ 64)).toNat):Int)).tdiv ((wu64 (a2*2 ^ Min.min (wu64 r0).toNat 64)).fdiv (2 ^ Min.min (Int.toNat 32) 64)))*wu64 (a2*2 ^ Min.min (wu64 r0).toNat 64)))) (wu64 ((wu64 (wu64 (wu64 (wu64 (↑((wu64 (a0*2 ^ Min.min (wu64 r0).toNat 64) % Int.ofNat (2 ^ 64)).toNat ||| (a1.fdiv (2 ^ Min.min (wu64 (64 - wu64 r0)).toNat 64) % Int.ofNat (2 ^ 64)).toNat):Int)*4294967296)+(wu64 (a1*2 ^ Min.min (wu64 r0).toNat 64)).fdiv (2 ^ Min.min (Int.toNat 32) 64)) - wu64 (wu64 ((wu64 (↑((wu64 (a0*2 ^ Min.min (wu64 r0).toNat 64) % Int.ofNat (2 ^ 64)).toNat ||| (a1.fdiv (2 ^ Min.min (wu64 (64 - wu64 r0)).toNat 64) % Int.ofNat (2 ^ 64)).toNat):Int)).tdiv ((wu64 (a2*2 ^ Min.min (wu64 r0).toNat 64)).fdiv (2 ^ Min.min (Int.toNat 32) 64)))*wu64 (a2*2 ^ Min.min (wu64 r0).toNat 64)))).tdiv ((wu64 (a2*2 ^ Min.min (wu64 r0).toNat 64)).fdiv (2 ^ Min.min (Int.toNat 32) 64)))))))=some y):zkI a0 a1 a2 r0=some y:=
 pt_of zT [25,18] (by kernel_rfl) h
theorem zlH (a0:Int) (a1:Int) (a2:Int) (r0:Int) (x1:Int) (x2:Int) {y:AV×Mem} (h:(
 brn (decide (4294967296≤wu64 (x2+(wu64 (a2*2 ^ Min.min (wu64 r0).toNat 64)).fdiv (2 ^ Min.min (Int.toNat 32) 64)))) (chk (((wu64 (a2*2 ^ Min.min (wu64 r0).toNat 64)).fdiv (2 ^ Min.min (Int.toNat 32) 64):Int)≠0)<|
 zd6 a1 a2 r0 (wu64 (x1 - 1)) (wu64 (wu64 (wu64 (wu64 (wu64 (↑((wu64 (a0*2 ^ Min.min (wu64 r0).toNat 64) % Int.ofNat (2 ^ 64)).toNat ||| (a1.fdiv (2 ^ Min.min (wu64 (64 - wu64 r0)).toNat 64) % Int.ofNat (2 ^ 64)).toNat):Int)*4294967296)+(wu64 (a1*2 ^ Min.min (wu64 r0).toNat 64)).fdiv (2 ^ Min.min (Int.toNat 32) 64)) - wu64 (wu64 (x1 - 1)*wu64 (a2*2 ^ Min.min (wu64 r0).toNat 64))) - wu64 (wu64 ((wu64 (wu64 (wu64 (wu64 (↑((wu64 (a0*2 ^ Min.min (wu64 r0).toNat 64) % Int.ofNat (2 ^ 64)).toNat ||| (a1.fdiv (2 ^ Min.min (wu64 (64 - wu64 r0)).toNat 64) % Int.ofNat (2 ^ 64)).toNat):Int)*4294967296)+(wu64 (a1*2 ^ Min.min (wu64 r0).toNat 64)).fdiv (2 ^ Min.min (Int.toNat 32) 64)) - wu64 (wu64 (x1 - 1)*wu64 (a2*2 ^ Min.min (wu64 r0).toNat 64)))).tdiv ((wu64 (a2*2 ^ Min.min (wu64 r0).toNat 64)).fdiv (2 ^ Min.min (Int.toNat 32) 64)))*(wu64 (a2*2 ^ Min.min (wu64 r0).toNat 64)).fdiv (2 ^ Min.min (Int.toNat 32) 64)))) (wu64 (wu64 (wu64 (wu64 (↑((wu64 (a0*2 ^ Min.min (wu64 r0).toNat 64) % Int.ofNat (2 ^ 64)).toNat ||| (a1.fdiv (2 ^ Min.min (wu64 (64 - wu64 r0)).toNat 64) % Int.ofNat (2 ^ 64)).toNat):Int)*4294967296)+(wu64 (a1*2 ^ Min.min (wu64 r0).toNat 64)).fdiv (2 ^ Min.min (Int.toNat 32) 64)) - wu64 (wu64 (x1 - 1)*wu64 (a2*2 ^ Min.min (wu64 r0).toNat 64)))) (wu64 ((wu64 (wu64 (wu64 (wu64 (↑((wu64 (a0*2 ^ Min.min (wu64 r0).toNat 64) % Int.ofNat (2 ^ 64)).toNat ||| (a1.fdiv (2 ^ Min.min (wu64 (64 - wu64 r0)).toNat 64) % Int.ofNat (2 ^ 64)).toNat):Int)*4294967296)+(wu64 (a1*2 ^ Min.min (wu64 r0).toNat 64)).fdiv (2 ^ Min.min (Int.toNat 32) 64)) - wu64 (wu64 (x1 - 1)*wu64 (a2*2 ^ Min.min (wu64 r0).toNat 64)))).tdiv ((wu64 (a2*2 ^ Min.min (wu64 r0).toNat 64)).fdiv (2 ^ Min.min (Int.toNat 32) 64)))))
 (zjt a0 a1 a2 r0 x1 x2))=some y):zdT a0 a1 a2 r0 x1 x2=some y:=
 pt_of zT [25,18] (by kernel_rfl) h
theorem zsF (a1:Int) (a2:Int) (r0:Int) (x3:Int) (x4:Int) (x5:Int) (x6:Int) {y:AV×Mem} (h:(
 brn (decide (4294967296≤x6)) (zdU a1 a2 r0 x3 x5 x4 x6)
 (brn (decide (wu64 (wu64 (4294967296*x4)+wu64 (↑((wu64 (a1*2 ^ Min.min (wu64 r0).toNat 64) % Int.ofNat (2 ^ 64)).toNat &&& (4294967295 % Int.ofNat (2 ^ 64)).toNat):Int)) < wu64 (x6*wu64 (↑((wu64 (a2*2 ^ Min.min (wu64 r0).toNat 64) % Int.ofNat (2 ^ 64)).toNat &&& (4294967295 % Int.ofNat (2 ^ 64)).toNat):Int)))) (zdU a1 a2 r0 x3 x5 x4 x6)
 (chk ((0:Int)≤(wu64 r0))<|
 some (AV.tup [AV.v (.int .u64 (wu64 (wu64 (x3*4294967296)+x6))),AV.v (.int .u64 ((wu64 (wu64 (wu64 (x5*4294967296)+wu64 (↑((wu64 (a1*2 ^ Min.min (wu64 r0).toNat 64) % Int.ofNat (2 ^ 64)).toNat &&& (4294967295 % Int.ofNat (2 ^ 64)).toNat):Int)) - wu64 (x6*wu64 (a2*2 ^ Min.min (wu64 r0).toNat 64)))).fdiv (2 ^ Min.min (wu64 r0).toNat 64)))],[]))))=some y):zd6 a1 a2 r0 x3 x4 x5 x6=some y:=
 pt_of zT [25,18] (by kernel_rfl) h
theorem zl9 (a0:Int) (a1:Int) (a2:Int) (r0:Int) (x1:Int) (x2:Int) {y:AV×Mem} (h:(
 brn (decide (4294967296≤wu64 (x1 - 1))) (zdT a0 a1 a2 r0 (wu64 (x1 - 1)) (wu64 (x2+(wu64 (a2*2 ^ Min.min (wu64 r0).toNat 64)).fdiv (2 ^ Min.min (Int.toNat 32) 64))))
 (brn (decide (wu64 (wu64 (4294967296*wu64 (x2+(wu64 (a2*2 ^ Min.min (wu64 r0).toNat 64)).fdiv (2 ^ Min.min (Int.toNat 32) 64)))+(wu64 (a1*2 ^ Min.min (wu64 r0).toNat 64)).fdiv (2 ^ Min.min (Int.toNat 32) 64)) < wu64 (wu64 (x1 - 1)*wu64 (↑((wu64 (a2*2 ^ Min.min (wu64 r0).toNat 64) % Int.ofNat (2 ^ 64)).toNat &&& (4294967295 % Int.ofNat (2 ^ 64)).toNat):Int)))) (zdT a0 a1 a2 r0 (wu64 (x1 - 1)) (wu64 (x2+(wu64 (a2*2 ^ Min.min (wu64 r0).toNat 64)).fdiv (2 ^ Min.min (Int.toNat 32) 64))))
 (chk (((wu64 (a2*2 ^ Min.min (wu64 r0).toNat 64)).fdiv (2 ^ Min.min (Int.toNat 32) 64):Int)≠0)<|
 zd6 a1 a2 r0 (wu64 (x1 - 1)) (wu64 (wu64 (wu64 (wu64 (wu64 (↑((wu64 (a0*2 ^ Min.min (wu64 r0).toNat 64) % Int.ofNat (2 ^ 64)).toNat ||| (a1.fdiv (2 ^ Min.min (wu64 (64 - wu64 r0)).toNat 64) % Int.ofNat (2 ^ 64)).toNat):Int)*4294967296)+(wu64 (a1*2 ^ Min.min (wu64 r0).toNat 64)).fdiv (2 ^ Min.min (Int.toNat 32) 64)) - wu64 (wu64 (x1 - 1)*wu64 (a2*2 ^ Min.min (wu64 r0).toNat 64))) - wu64 (wu64 ((wu64 (wu64 (wu64 (wu64 (↑((wu64 (a0*2 ^ Min.min (wu64 r0).toNat 64) % Int.ofNat (2 ^ 64)).toNat ||| (a1.fdiv (2 ^ Min.min (wu64 (64 - wu64 r0)).toNat 64) % Int.ofNat (2 ^ 64)).toNat):Int)*4294967296)+(wu64 (a1*2 ^ Min.min (wu64 r0).toNat 64)).fdiv (2 ^ Min.min (Int.toNat 32) 64)) - wu64 (wu64 (x1 - 1)*wu64 (a2*2 ^ Min.min (wu64 r0).toNat 64)))).tdiv ((wu64 (a2*2 ^ Min.min (wu64 r0).toNat 64)).fdiv (2 ^ Min.min (Int.toNat 32) 64)))*(wu64 (a2*2 ^ Min.min (wu64 r0).toNat 64)).fdiv (2 ^ Min.min (Int.toNat 32) 64)))) (wu64 (wu64 (wu64 (wu64 (↑((wu64 (a0*2 ^ Min.min (wu64 r0).toNat 64) % Int.ofNat (2 ^ 64)).toNat ||| (a1.fdiv (2 ^ Min.min (wu64 (64 - wu64 r0)).toNat 64) % Int.ofNat (2 ^ 64)).toNat):Int)*4294967296)+(wu64 (a1*2 ^ Min.min (wu64 r0).toNat 64)).fdiv (2 ^ Min.min (Int.toNat 32) 64)) - wu64 (wu64 (x1 - 1)*wu64 (a2*2 ^ Min.min (wu64 r0).toNat 64)))) (wu64 ((wu64 (wu64 (wu64 (wu64 (↑((wu64 (a0*2 ^ Min.min (wu64 r0).toNat 64) % Int.ofNat (2 ^ 64)).toNat ||| (a1.fdiv (2 ^ Min.min (wu64 (64 - wu64 r0)).toNat 64) % Int.ofNat (2 ^ 64)).toNat):Int)*4294967296)+(wu64 (a1*2 ^ Min.min (wu64 r0).toNat 64)).fdiv (2 ^ Min.min (Int.toNat 32) 64)) - wu64 (wu64 (x1 - 1)*wu64 (a2*2 ^ Min.min (wu64 r0).toNat 64)))).tdiv ((wu64 (a2*2 ^ Min.min (wu64 r0).toNat 64)).fdiv (2 ^ Min.min (Int.toNat 32) 64)))))))=some y):zjt a0 a1 a2 r0 x1 x2=some y:=
 pt_of zT [25,18] (by kernel_rfl) h
theorem zlD (a1:Int) (a2:Int) (r0:Int) (x3:Int) (x5:Int) (x7:Int) (x8:Int) {y:AV×Mem} (h:(
 brn (decide (4294967296≤wu64 (x7+(wu64 (a2*2 ^ Min.min (wu64 r0).toNat 64)).fdiv (2 ^ Min.min (Int.toNat 32) 64)))) (chk ((0:Int)≤(wu64 r0))<|
 some (AV.tup [AV.v (.int .u64 (wu64 (wu64 (x3*4294967296)+wu64 (x8 - 1)))),AV.v (.int .u64 ((wu64 (wu64 (wu64 (x5*4294967296)+wu64 (↑((wu64 (a1*2 ^ Min.min (wu64 r0).toNat 64) % Int.ofNat (2 ^ 64)).toNat &&& (4294967295 % Int.ofNat (2 ^ 64)).toNat):Int)) - wu64 (wu64 (x8 - 1)*wu64 (a2*2 ^ Min.min (wu64 r0).toNat 64)))).fdiv (2 ^ Min.min (wu64 r0).toNat 64)))],[]))
 (zjj a1 a2 r0 x3 x5 x7 x8))=some y):zdU a1 a2 r0 x3 x5 x7 x8=some y:=
 pt_of zT [25,18] (by kernel_rfl) h
theorem zmg (a1:Int) (a2:Int) (r0:Int) (x3:Int) (x5:Int) (x7:Int) (x8:Int) {y:AV×Mem} (h:(
 brn (decide (4294967296≤wu64 (x8 - 1))) (zdU a1 a2 r0 x3 x5 (wu64 (x7+(wu64 (a2*2 ^ Min.min (wu64 r0).toNat 64)).fdiv (2 ^ Min.min (Int.toNat 32) 64))) (wu64 (x8 - 1)))
 (brn (decide (wu64 (wu64 (4294967296*wu64 (x7+(wu64 (a2*2 ^ Min.min (wu64 r0).toNat 64)).fdiv (2 ^ Min.min (Int.toNat 32) 64)))+wu64 (↑((wu64 (a1*2 ^ Min.min (wu64 r0).toNat 64) % Int.ofNat (2 ^ 64)).toNat &&& (4294967295 % Int.ofNat (2 ^ 64)).toNat):Int)) < wu64 (wu64 (x8 - 1)*wu64 (↑((wu64 (a2*2 ^ Min.min (wu64 r0).toNat 64) % Int.ofNat (2 ^ 64)).toNat &&& (4294967295 % Int.ofNat (2 ^ 64)).toNat):Int)))) (zdU a1 a2 r0 x3 x5 (wu64 (x7+(wu64 (a2*2 ^ Min.min (wu64 r0).toNat 64)).fdiv (2 ^ Min.min (Int.toNat 32) 64))) (wu64 (x8 - 1)))
 (chk ((0:Int)≤(wu64 r0))<|
 some (AV.tup [AV.v (.int .u64 (wu64 (wu64 (x3*4294967296)+wu64 (x8 - 1)))),AV.v (.int .u64 ((wu64 (wu64 (wu64 (x5*4294967296)+wu64 (↑((wu64 (a1*2 ^ Min.min (wu64 r0).toNat 64) % Int.ofNat (2 ^ 64)).toNat &&& (4294967295 % Int.ofNat (2 ^ 64)).toNat):Int)) - wu64 (wu64 (x8 - 1)*wu64 (a2*2 ^ Min.min (wu64 r0).toNat 64)))).fdiv (2 ^ Min.min (wu64 r0).toNat 64)))],[]))))=some y):zjj a1 a2 r0 x3 x5 x7 x8=some y:=
 pt_of zT [25,18] (by kernel_rfl) h
theorem zum (a0:Int) (a1:Int) (a2:Int) {y:AV×Mem} (h:(
 brn (a2 == 0) (none)
 (brn (decide (a2≤a0)) (none)
 (brn (a0 == 0) (chk ((a2:Int)≠0)<|
 chk ((a2:Int)≠0)<|
 some (AV.tup [AV.v (.int .u64 (wu64 (a1.tdiv a2))),AV.v (.int .u64 (a1.tmod a2))],[]))
 (callD zfA (cw zhD [AV.v (.int .u64 a2)] []) fun (r0:Int) =>
 chk ((0:Int)≤(wu64 r0))<|
 chk ((0:Int)≤32)<|
 chk ((0:Int)≤(wu64 r0))<|
 chk ((0:Int)≤(wu64 (64 - wu64 r0)))<|
 chk ((0:Int)≤(wu64 r0))<|
 chk ((0:Int)≤32)<|
 chk (((wu64 (a2*2 ^ Min.min (wu64 r0).toNat 64)).fdiv (2 ^ Min.min (Int.toNat 32) 64):Int)≠0)<|
 zkI a0 a1 a2 r0))))=some y):cw zjx [AV.v (.int .u64 a0),AV.v (.int .u64 a1),AV.v (.int .u64 a2)] []=some y:=
 zai zgf zT [25,18] rfl (by kernel_rfl) (by kernel_rfl) (by kernel_rfl) (by kernel_rfl) (by kernel_rfl) h
theorem zxH (a0:Int) (a1:Int) {y:AV×Mem} (h:(
 chk ((0:Int)≤32)<|
 chk ((0:Int)≤32)<|
 chk ((0:Int)≤32)<|
 chk ((0:Int)≤32)<|
 chk ((0:Int)≤32)<|
 some (AV.tup [AV.v (.int .u64 (wu64 (wu64 (wu64 (a0.fdiv (2 ^ Min.min (Int.toNat 32) 64)*a1.fdiv (2 ^ Min.min (Int.toNat 32) 64))+(wu64 (wu64 (a0.fdiv (2 ^ Min.min (Int.toNat 32) 64)*wu64 (↑((a1 % Int.ofNat (2 ^ 64)).toNat &&& (4294967295 % Int.ofNat (2 ^ 64)).toNat):Int))+(wu64 (wu64 (↑((a0 % Int.ofNat (2 ^ 64)).toNat &&& (4294967295 % Int.ofNat (2 ^ 64)).toNat):Int)*wu64 (↑((a1 % Int.ofNat (2 ^ 64)).toNat &&& (4294967295 % Int.ofNat (2 ^ 64)).toNat):Int))).fdiv (2 ^ Min.min (Int.toNat 32) 64))).fdiv (2 ^ Min.min (Int.toNat 32) 64))+(wu64 (wu64 (↑((wu64 (wu64 (a0.fdiv (2 ^ Min.min (Int.toNat 32) 64)*wu64 (↑((a1 % Int.ofNat (2 ^ 64)).toNat &&& (4294967295 % Int.ofNat (2 ^ 64)).toNat):Int))+(wu64 (wu64 (↑((a0 % Int.ofNat (2 ^ 64)).toNat &&& (4294967295 % Int.ofNat (2 ^ 64)).toNat):Int)*wu64 (↑((a1 % Int.ofNat (2 ^ 64)).toNat &&& (4294967295 % Int.ofNat (2 ^ 64)).toNat):Int))).fdiv (2 ^ Min.min (Int.toNat 32) 64)) % Int.ofNat (2 ^ 64)).toNat &&& (4294967295 % Int.ofNat (2 ^ 64)).toNat):Int)+wu64 (wu64 (↑((a0 % Int.ofNat (2 ^ 64)).toNat &&& (4294967295 % Int.ofNat (2 ^ 64)).toNat):Int)*a1.fdiv (2 ^ Min.min (Int.toNat 32) 64)))).fdiv (2 ^ Min.min (Int.toNat 32) 64)))),AV.v (.int .u64 (wu64 (a0*a1)))],[]))=some y):cw zje [AV.v (.int .u64 a0),AV.v (.int .u64 a1)] []=some y:=
 zai zw0 zT [] rfl (by kernel_rfl) (by kernel_rfl) (by kernel_rfl) (by kernel_rfl) (by kernel_rfl) h
theorem zxJ (a0:Gref01Wide) (a1:Gref01Wide) {y:AV×Mem} (h:(
 brn (Int.ofNat ((a0.Lo.toNat+a1.Lo.toNat+Int.toNat 0) / 2 ^ 64) == 0) (some (AV.agg (zah (⟨Int.ofNat ((a0.Hi.toNat+a1.Hi.toNat+Int.toNat 0) % 2 ^ 64),Int.ofNat ((a0.Lo.toNat+a1.Lo.toNat+Int.toNat 0) % 2 ^ 64)⟩)),[]))
 (brn (Int.ofNat ((a0.Lo.toNat+a1.Lo.toNat+Int.toNat 0) / 2 ^ 64) == 1) (some (AV.agg (zah (⟨Int.ofNat ((a0.Hi.toNat+a1.Hi.toNat+Int.toNat 1) % 2 ^ 64),Int.ofNat ((a0.Lo.toNat+a1.Lo.toNat+Int.toNat 0) % 2 ^ 64)⟩)),[]))
 (none)))=some y):cw znh [AV.agg (zah a0),AV.agg (zah a1)] []=some y:=
 zai zxK zT [] rfl (by kernel_rfl) (by kernel_rfl) (by kernel_rfl) (by kernel_rfl) (by kernel_rfl) h
theorem zvC (a0:Gref01Wide) (a1:Gref01Wide) {y:AV×Mem} (h:(
 brn (decide (a0.Hi < a1.Hi)) (some (I (-1),[]))
 (brn (a0.Hi == a1.Hi) (brn (decide (a0.Lo < a1.Lo)) (some (I (-1),[]))
 (brn (a0.Hi == a1.Hi && (a0.Lo == a1.Lo && true)) (some (I 0,[]))
 (some (I 1,[]))))
 (brn (a0.Hi == a1.Hi && (a0.Lo == a1.Lo && true)) (some (I 0,[]))
 (some (I 1,[])))))=some y):cw zgB [AV.agg (zah a0),AV.agg (zah a1)] []=some y:=
 zai zwu zT [] rfl (by kernel_rfl) (by kernel_rfl) (by kernel_rfl) (by kernel_rfl) (by kernel_rfl) h
theorem zvA (a0:Gref01Wide) (a1:Gref01Wide) {y:AV×Mem} (h:(
 brn (Int.ofNat (if a0.Lo.toNat < a1.Lo.toNat+Int.toNat 0 then 1 else 0) == 0) (some (AV.agg (zah (⟨Int.ofNat ((a0.Hi.toNat+2 ^ 64 - a1.Hi.toNat - Int.toNat 0) % 2 ^ 64),Int.ofNat ((a0.Lo.toNat+2 ^ 64 - a1.Lo.toNat - Int.toNat 0) % 2 ^ 64)⟩)),[]))
 (brn (Int.ofNat (if a0.Lo.toNat < a1.Lo.toNat+Int.toNat 0 then 1 else 0) == 1) (some (AV.agg (zah (⟨Int.ofNat ((a0.Hi.toNat+2 ^ 64 - a1.Hi.toNat - Int.toNat 1) % 2 ^ 64),Int.ofNat ((a0.Lo.toNat+2 ^ 64 - a1.Lo.toNat - Int.toNat 0) % 2 ^ 64)⟩)),[]))
 (none)))=some y):cw zif [AV.agg (zah a0),AV.agg (zah a1)] []=some y:=
 zai zvY zT [] rfl (by kernel_rfl) (by kernel_rfl) (by kernel_rfl) (by kernel_rfl) (by kernel_rfl) h
noncomputable def ze8 (a0:GDistribution) (a1:Int) (x1:Int) (x2:Int):Option (AV×Mem):=pt zls 1 ⟨[(1,I a1),(2,AV.loc 2 1 0 0),(5,I x1),(6,I x2)],[(2,⟨1,zaG,[zae a0],true⟩)]⟩
theorem zke (a0:GDistribution) (a1:Int) (x1:Int) (x2:Int) {y:AV×Mem} (h:(
 brn (decide (x2 < (↑(List.map zaj a0.Counts).length:Int))) (brn (decide (x2 < a1)) (chk ((0:Int)≤x2)<|
 elemD zay (List.map zaj a0.Counts) x2.toNat fun (c3:Int) =>
 ze8 a0 a1 (w64 (x1+c3)) (w64 (x2+1)))
 (some (I x1,[])))
 (some (I x1,[])))=some y):ze8 a0 a1 x1 x2=some y:=
 pt_of zT [] (by kernel_rfl) h
theorem zps (a0:GDistribution) (a1:Int) {y:AV×Mem} (h:(
 callD zbm (cw zbC [AV.agg (zae a0)] []) fun (r0:Bool) =>
 brn (!r0) (some (I 0,[]))
 (ze8 a0 a1 0 0))=some y):cw zhW [AV.agg (zae a0),I a1] []=some y:=
 zai zls zT [] rfl (by kernel_rfl) (by kernel_rfl) (by kernel_rfl) (by kernel_rfl) (by kernel_rfl) h
theorem ztA (a0:GratioSigned) (a1:Int) {y:AV×Mem} (h:(
 callD zgi (cw zhR [AV.agg (zas a0.abs),AV.v (.int .u64 a1)] []) fun (r0:Int) =>
 callD zdV (cw zek [AV.v (.int .u64 r0),AV.v (.int .u64 a1)] []) fun (r1:Int) =>
 callD zfE (cw zhe [AV.agg (zas a0.abs),AV.v (.int .u64 r1)] []) fun (r2:GratioWide) =>
 chk ((r1:Int)≠0)<|
 callD zf5 (cw zhs [B a0.neg,AV.agg (zas r2),AV.agg (zas (⟨0,wu64 (a1.tdiv r1)⟩))] []) fun (r3:GRatio×Int) =>
 some (AV.tup [AV.agg (zaa r3.fst),I r3.snd],[]))=some y):cw zlm [AV.agg (zbP a0),AV.v (.int .u64 a1)] []=some y:=
 zai ztN zT [] rfl (by kernel_rfl) (by kernel_rfl) (by kernel_rfl) (by kernel_rfl) (by kernel_rfl) h
noncomputable def zbK (a0:List GRatio) (a2:Int) (a3:Int) (x0:List (List AV)) (x1:Int):Option (AV×Mem):=pt zcO 1 ⟨[(0,AV.row 1000 2 0 ((List.map zaa a0).length)),(2,I a2),(3,I a3),(4,AV.fn zad []),(10,I x1)],[(1000,⟨2,zac,x0,false⟩)]⟩
noncomputable def zeP (a0:List GRatio) (a2:Int) (a3:Int) (x0:List (List AV)) (x1:Int):Option (AV×Mem):=pt zcO 1005 ⟨[(0,AV.row 1000 2 0 ((List.map zaa a0).length)),(2,I a2),(3,I a3),(4,AV.fn zad []),(10,I x1),(11,I (w64 (w64 (w64 (2*x1)+1)+1)))],[(1000,⟨2,zac,x0,false⟩)]⟩
noncomputable def zbT (a0:List GRatio) (a2:Int) (a3:Int) (x0:List (List AV)) (x1:Int):Option (AV×Mem):=pt zcO 1005 ⟨[(0,AV.row 1000 2 0 ((List.map zaa a0).length)),(2,I a2),(3,I a3),(4,AV.fn zad []),(10,I x1),(11,I (w64 (w64 (2*x1)+1))),(40,B false)],[(1000,⟨2,zac,x0,false⟩)]⟩
theorem zfn (a0:List GRatio) (a2:Int) (a3:Int) (x0:List (List AV)) (x1:Int) {y:AV×Mem} (h:(
 brn (decide (a2≤w64 (w64 (2*x1)+1))) (some (AV.tup [],[(1000,⟨2,zac,x0,false⟩)]))
 (brn (decide (w64 (w64 (w64 (2*x1)+1)+1) < a2)) (chk ((0:Int)≤(w64 (a3+w64 (w64 (2*x1)+1))))<|
 chk ((w64 (a3+w64 (w64 (2*x1)+1)):Int) < ((↑(List.map zaa a0).length:Int)))<|
 elemD zab x0 (0+(w64 (a3+w64 (w64 (2*x1)+1))).toNat) fun (c2:GRatio) =>
 chk ((0:Int)≤(w64 (w64 (a3+w64 (w64 (2*x1)+1))+1)))<|
 chk ((w64 (w64 (a3+w64 (w64 (2*x1)+1))+1):Int) < ((↑(List.map zaa a0).length:Int)))<|
 elemD zab x0 (0+(w64 (w64 (a3+w64 (w64 (2*x1)+1))+1)).toNat) fun (c3:GRatio) =>
 callD zaz (cw zad [AV.agg (zaa c2),AV.agg (zaa c3)] []) fun (r4:Int) =>
 brn (decide (r4 < 0)) (zeP a0 a2 a3 x0 x1)
 (zbT a0 a2 a3 x0 x1))
 (zbT a0 a2 a3 x0 x1)))=some y):zbK a0 a2 a3 x0 x1=some y:=
 pt_of zT [5] (by kernel_rfl) h
theorem zib (a0:List GRatio) (a2:Int) (a3:Int) (x0:List (List AV)) (x1:Int) {y:AV×Mem} (h:(
 chk ((0:Int)≤(w64 (a3+x1)))<|
 chk ((w64 (a3+x1):Int) < ((↑(List.map zaa a0).length:Int)))<|
 elemD zab x0 (0+(w64 (a3+x1)).toNat) fun (c5:GRatio) =>
 chk ((0:Int)≤(w64 (a3+w64 (w64 (w64 (2*x1)+1)+1))))<|
 chk ((w64 (a3+w64 (w64 (w64 (2*x1)+1)+1)):Int) < ((↑(List.map zaa a0).length:Int)))<|
 elemD zab x0 (0+(w64 (a3+w64 (w64 (w64 (2*x1)+1)+1))).toNat) fun (c6:GRatio) =>
 callD zaz (cw zad [AV.agg (zaa c5),AV.agg (zaa c6)] []) fun (r7:Int) =>
 brn (!decide (r7 < 0)) (some (AV.tup [],[(1000,⟨2,zac,x0,false⟩)]))
 (chk ((0:Int)≤(w64 (a3+w64 (w64 (w64 (2*x1)+1)+1))))<|
 chk ((w64 (a3+w64 (w64 (w64 (2*x1)+1)+1)):Int) < ((↑(List.map zaa a0).length:Int)))<|
 elemD zab x0 (0+(w64 (a3+w64 (w64 (w64 (2*x1)+1)+1))).toNat) fun (c8:GRatio) =>
 chk ((0:Int)≤(w64 (a3+x1)))<|
 chk ((w64 (a3+x1):Int) < ((↑(List.map zaa a0).length:Int)))<|
 elemD zab x0 (0+(w64 (a3+x1)).toNat) fun (c9:GRatio) =>
 chk ((0:Int)≤(w64 (a3+x1)))<|
 chk ((w64 (a3+x1):Int) < ((↑(List.map zaa a0).length:Int)))<|
 elemD zab x0 (0+(w64 (a3+x1)).toNat) fun (c10:GRatio) =>
 chk ((0:Int)≤(w64 (a3+w64 (w64 (w64 (2*x1)+1)+1))))<|
 chk ((w64 (a3+w64 (w64 (w64 (2*x1)+1)+1)):Int) < ((↑(List.map zaa a0).length:Int)))<|
 elemD zab (List.set x0 (0+(w64 (a3+x1)).toNat) (zaa c8)) (0+(w64 (a3+w64 (w64 (w64 (2*x1)+1)+1))).toNat) fun (c11:GRatio) =>
 zbK a0 a2 a3 (List.set (List.set x0 (0+(w64 (a3+x1)).toNat) (zaa c8)) (0+(w64 (a3+w64 (w64 (w64 (2*x1)+1)+1))).toNat) (zaa c9)) (w64 (w64 (w64 (2*x1)+1)+1))))=some y):zeP a0 a2 a3 x0 x1=some y:=
 pt_of zT [5] (by kernel_rfl) h
theorem zhE (a0:List GRatio) (a2:Int) (a3:Int) (x0:List (List AV)) (x1:Int) {y:AV×Mem} (h:(
 chk ((0:Int)≤(w64 (a3+x1)))<|
 chk ((w64 (a3+x1):Int) < ((↑(List.map zaa a0).length:Int)))<|
 elemD zab x0 (0+(w64 (a3+x1)).toNat) fun (c12:GRatio) =>
 chk ((0:Int)≤(w64 (a3+w64 (w64 (2*x1)+1))))<|
 chk ((w64 (a3+w64 (w64 (2*x1)+1)):Int) < ((↑(List.map zaa a0).length:Int)))<|
 elemD zab x0 (0+(w64 (a3+w64 (w64 (2*x1)+1))).toNat) fun (c13:GRatio) =>
 callD zaz (cw zad [AV.agg (zaa c12),AV.agg (zaa c13)] []) fun (r14:Int) =>
 brn (!decide (r14 < 0)) (some (AV.tup [],[(1000,⟨2,zac,x0,false⟩)]))
 (chk ((0:Int)≤(w64 (a3+w64 (w64 (2*x1)+1))))<|
 chk ((w64 (a3+w64 (w64 (2*x1)+1)):Int) < ((↑(List.map zaa a0).length:Int)))<|
 elemD zab x0 (0+(w64 (a3+w64 (w64 (2*x1)+1))).toNat) fun (c15:GRatio) =>
 chk ((0:Int)≤(w64 (a3+x1)))<|
 chk ((w64 (a3+x1):Int) < ((↑(List.map zaa a0).length:Int)))<|
 elemD zab x0 (0+(w64 (a3+x1)).toNat) fun (c16:GRatio) =>
 chk ((0:Int)≤(w64 (a3+x1)))<|
 chk ((w64 (a3+x1):Int) < ((↑(List.map zaa a0).length:Int)))<|
 elemD zab x0 (0+(w64 (a3+x1)).toNat) fun (c17:GRatio) =>
 chk ((0:Int)≤(w64 (a3+w64 (w64 (2*x1)+1))))<|
 chk ((w64 (a3+w64 (w64 (2*x1)+1)):Int) < ((↑(List.map zaa a0).length:Int)))<|
 elemD zab (List.set x0 (0+(w64 (a3+x1)).toNat) (zaa c15)) (0+(w64 (a3+w64 (w64 (2*x1)+1))).toNat) fun (c18:GRatio) =>
 zbK a0 a2 a3 (List.set (List.set x0 (0+(w64 (a3+x1)).toNat) (zaa c15)) (0+(w64 (a3+w64 (w64 (2*x1)+1))).toNat) (zaa c16)) (w64 (w64 (2*x1)+1))))=some y):zbT a0 a2 a3 x0 x1=some y:=
 pt_of zT [5] (by kernel_rfl) h
theorem zjU (a0:List GRatio) (a1:Int) (a2:Int) (a3:Int) {y:AV×Mem} (h:(
 zbK a0 a2 a3 (List.map zaa a0) a1)=some y):cw zbW [AV.row 1000 2 0 (List.length (List.map zaa a0)),I a1,I a2,I a3,AV.fn zad []] [(1000,⟨2,zac,List.map zaa a0,false⟩)]=some y:=
 zai zcO zT [5] rfl (by kernel_rfl) (by kernel_rfl) (by kernel_rfl) (by kernel_rfl) (by kernel_rfl) h
theorem znO (a0:Int) {y:AV×Mem} (h:(
 callD zmN (cw zmS [AV.v (.int .u64 (wu64 a0))] []) fun (r0:Int) =>
 chk ((0:Int)≤r0)<|
 some (AV.v (.int .u64 (wu64 (1*2 ^ Min.min r0.toNat 64))),[]))=some y):cw zgt [I a0] []=some y:=
 zai znN zT [] rfl (by kernel_rfl) (by kernel_rfl) (by kernel_rfl) (by kernel_rfl) (by kernel_rfl) h
theorem zom (a0:Int) {y:AV×Mem} (h:(
 chk ((0:Int)≤13)<|
 chk ((0:Int)≤7)<|
 chk ((0:Int)≤17)<|
 some (AV.v (.int .u64 (wu64 (↑((wu64 (↑((wu64 (↑((a0 % Int.ofNat (2 ^ 64)).toNat ^^^ (wu64 (a0*2 ^ Min.min (Int.toNat 13) 64) % Int.ofNat (2 ^ 64)).toNat):Int) % Int.ofNat (2 ^ 64)).toNat ^^^ ((wu64 (↑((a0 % Int.ofNat (2 ^ 64)).toNat ^^^ (wu64 (a0*2 ^ Min.min (Int.toNat 13) 64) % Int.ofNat (2 ^ 64)).toNat):Int)).fdiv (2 ^ Min.min (Int.toNat 7) 64) % Int.ofNat (2 ^ 64)).toNat):Int) % Int.ofNat (2 ^ 64)).toNat ^^^ (wu64 (wu64 (↑((wu64 (↑((a0 % Int.ofNat (2 ^ 64)).toNat ^^^ (wu64 (a0*2 ^ Min.min (Int.toNat 13) 64) % Int.ofNat (2 ^ 64)).toNat):Int) % Int.ofNat (2 ^ 64)).toNat ^^^ ((wu64 (↑((a0 % Int.ofNat (2 ^ 64)).toNat ^^^ (wu64 (a0*2 ^ Min.min (Int.toNat 13) 64) % Int.ofNat (2 ^ 64)).toNat):Int)).fdiv (2 ^ Min.min (Int.toNat 7) 64) % Int.ofNat (2 ^ 64)).toNat):Int)*2 ^ Min.min (Int.toNat 17) 64) % Int.ofNat (2 ^ 64)).toNat):Int))),[(1000,⟨1,zbI,[zll (wu64 (↑((wu64 (↑((wu64 (↑((a0 % Int.ofNat (2 ^ 64)).toNat ^^^ (wu64 (a0*2 ^ Min.min (Int.toNat 13) 64) % Int.ofNat (2 ^ 64)).toNat):Int) % Int.ofNat (2 ^ 64)).toNat ^^^ ((wu64 (↑((a0 % Int.ofNat (2 ^ 64)).toNat ^^^ (wu64 (a0*2 ^ Min.min (Int.toNat 13) 64) % Int.ofNat (2 ^ 64)).toNat):Int)).fdiv (2 ^ Min.min (Int.toNat 7) 64) % Int.ofNat (2 ^ 64)).toNat):Int) % Int.ofNat (2 ^ 64)).toNat ^^^ (wu64 (wu64 (↑((wu64 (↑((a0 % Int.ofNat (2 ^ 64)).toNat ^^^ (wu64 (a0*2 ^ Min.min (Int.toNat 13) 64) % Int.ofNat (2 ^ 64)).toNat):Int) % Int.ofNat (2 ^ 64)).toNat ^^^ ((wu64 (↑((a0 % Int.ofNat (2 ^ 64)).toNat ^^^ (wu64 (a0*2 ^ Min.min (Int.toNat 13) 64) % Int.ofNat (2 ^ 64)).toNat):Int)).fdiv (2 ^ Min.min (Int.toNat 7) 64) % Int.ofNat (2 ^ 64)).toNat):Int)*2 ^ Min.min (Int.toNat 17) 64) % Int.ofNat (2 ^ 64)).toNat):Int))],true⟩)]))=some y):cw zgW [AV.loc 1000 1 0 0] [(1000,⟨1,zbI,[zll a0],true⟩)]=some y:=
 zai zop zT [] rfl (by kernel_rfl) (by kernel_rfl) (by kernel_rfl) (by kernel_rfl) (by kernel_rfl) h
theorem zhL (a0:List GRatio) (a1:Int) (a2:Int) {y:AV×Mem} (h:(
 callD zch (cw zcn [AV.sl 2 (List.map zaa a0),I (w64 (a1 - 1)),I a1,I (w64 (a1+1)),AV.loc 1004 1 0 0,AV.fn zad []] [(1004,⟨1,zaF,[zaj a2],true⟩)]) fun (r0:Int×Int) =>
 some (I r0.fst,[(1002,⟨1,zaF,[zaj r0.snd],true⟩)]))=some y):cw zbn [AV.sl 2 (List.map zaa a0),I a1,AV.loc 1002 1 0 0,AV.fn zad []] [(1002,⟨1,zaF,[zaj a2],true⟩)]=some y:=
 zai zhN zT [] rfl (by kernel_rfl) (by kernel_rfl) (by kernel_rfl) (by kernel_rfl) (by kernel_rfl) h
end Go.Proofs.YtbhkcgaanaelfaaGreat
