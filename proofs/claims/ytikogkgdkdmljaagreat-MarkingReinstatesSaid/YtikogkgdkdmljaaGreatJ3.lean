/- The library's sort by a comparison, for any kind of elements: what its parts compute is what the guide's plain layer of the sort says. -/
import Derived.Test.YtikogkgdkdmljaaGreatXAnn
import Derived.Test.YtikogkgdkdmljaaGreatAb9
import Derived.Test.YtikogkgdkdmljaaGreatJ2
import Derived.Sort.AssemblyPlain
set_option linter.unusedSimpArgs false
set_option linter.unusedVariables false
noncomputable section
namespace Go.Proofs.YtikogkgdkdmljaaGreat.SX
open Go.Ab Go.Sort
structure Sg where
 D:TyD
 z:Nat
 ty:TypeId
 fc:FuncId
 inh:D.α
 so:Fr
 pi:Fr
 is:Fr
 pd:Fr
 hs:Fr
 bp:Fr
 cp:Fr
 rr:Fr
 pe:Fr
 pa:Fr
 sd:Fr
 ma:Fr
 md:Fr
 o2:Fr
variable {S:Sg}
instance:Inhabited S.D.α:=⟨S.inh⟩
abbrev rC:RD:=r1 (vI .i64)
def q_so (S:Sg):(List S.D.α)→AV×Mem:=(r0M (mRow 1000 S.z S.ty S.D)).enc
abbrev r_so (S:Sg):RD:={ α:=(List S.D.α),enc:=q_so S,dec:=(r0M (mRow 1000 S.z S.ty S.D)).dec,ok:=(r0M (mRow 1000 S.z S.ty S.D)).ok,de:=(r0M (mRow 1000 S.z S.ty S.D)).de }
def q_pd (S:Sg):(List S.D.α)→AV×Mem:=(r0M (mRow 1000 S.z S.ty S.D)).enc
abbrev r_pd (S:Sg):RD:={ α:=(List S.D.α),enc:=q_pd S,dec:=(r0M (mRow 1000 S.z S.ty S.D)).dec,ok:=(r0M (mRow 1000 S.z S.ty S.D)).ok,de:=(r0M (mRow 1000 S.z S.ty S.D)).de }
def q_is (S:Sg):(List S.D.α)→AV×Mem:=(r0M (mRow 1000 S.z S.ty S.D)).enc
abbrev r_is (S:Sg):RD:={ α:=(List S.D.α),enc:=q_is S,dec:=(r0M (mRow 1000 S.z S.ty S.D)).dec,ok:=(r0M (mRow 1000 S.z S.ty S.D)).ok,de:=(r0M (mRow 1000 S.z S.ty S.D)).de }
def q_hs (S:Sg):(List S.D.α)→AV×Mem:=(r0M (mRow 1000 S.z S.ty S.D)).enc
abbrev r_hs (S:Sg):RD:={ α:=(List S.D.α),enc:=q_hs S,dec:=(r0M (mRow 1000 S.z S.ty S.D)).dec,ok:=(r0M (mRow 1000 S.z S.ty S.D)).ok,de:=(r0M (mRow 1000 S.z S.ty S.D)).de }
def q_bp (S:Sg):(List S.D.α)→AV×Mem:=(r0M (mRow 1000 S.z S.ty S.D)).enc
abbrev r_bp (S:Sg):RD:={ α:=(List S.D.α),enc:=q_bp S,dec:=(r0M (mRow 1000 S.z S.ty S.D)).dec,ok:=(r0M (mRow 1000 S.z S.ty S.D)).ok,de:=(r0M (mRow 1000 S.z S.ty S.D)).de }
def q_rr (S:Sg):(List S.D.α)→AV×Mem:=(r0M (mRow 1000 S.z S.ty S.D)).enc
abbrev r_rr (S:Sg):RD:={ α:=(List S.D.α),enc:=q_rr S,dec:=(r0M (mRow 1000 S.z S.ty S.D)).dec,ok:=(r0M (mRow 1000 S.z S.ty S.D)).ok,de:=(r0M (mRow 1000 S.z S.ty S.D)).de }
def q_sd (S:Sg):(List S.D.α)→AV×Mem:=(r0M (mRow 1000 S.z S.ty S.D)).enc
abbrev r_sd (S:Sg):RD:={ α:=(List S.D.α),enc:=q_sd S,dec:=(r0M (mRow 1000 S.z S.ty S.D)).dec,ok:=(r0M (mRow 1000 S.z S.ty S.D)).ok,de:=(r0M (mRow 1000 S.z S.ty S.D)).de }
def q_cp (S:Sg):(Int×Int)→AV×Mem:=(rT (lCons (vI .i64) (lOne (vI .i64)))).enc
abbrev r_cp (S:Sg):RD:={ α:=(Int×Int),enc:=q_cp S,dec:=(rT (lCons (vI .i64) (lOne (vI .i64)))).dec,ok:=(rT (lCons (vI .i64) (lOne (vI .i64)))).ok,de:=(rT (lCons (vI .i64) (lOne (vI .i64)))).de }
def q_pi (S:Sg):(Bool×(List S.D.α))→AV×Mem:=(r1M vBool (mRow 1000 S.z S.ty S.D)).enc
abbrev r_pi (S:Sg):RD:={ α:=(Bool×(List S.D.α)),enc:=q_pi S,dec:=(r1M vBool (mRow 1000 S.z S.ty S.D)).dec,ok:=(r1M vBool (mRow 1000 S.z S.ty S.D)).ok,de:=(r1M vBool (mRow 1000 S.z S.ty S.D)).de }
def q_pe (S:Sg):(Int×(List S.D.α))→AV×Mem:=(r1M (vI .i64) (mRow 1000 S.z S.ty S.D)).enc
abbrev r_pe (S:Sg):RD:={ α:=(Int×(List S.D.α)),enc:=q_pe S,dec:=(r1M (vI .i64) (mRow 1000 S.z S.ty S.D)).dec,ok:=(r1M (vI .i64) (mRow 1000 S.z S.ty S.D)).ok,de:=(r1M (vI .i64) (mRow 1000 S.z S.ty S.D)).de }
def q_pa (S:Sg):((Int×Bool)×(List S.D.α))→AV×Mem:=(rTM (lCons (vI .i64) (lOne vBool)) (mRow 1000 S.z S.ty S.D)).enc
abbrev r_pa (S:Sg):RD:={ α:=((Int×Bool)×(List S.D.α)),enc:=q_pa S,dec:=(rTM (lCons (vI .i64) (lOne vBool)) (mRow 1000 S.z S.ty S.D)).dec,ok:=(rTM (lCons (vI .i64) (lOne vBool)) (mRow 1000 S.z S.ty S.D)).ok,de:=(rTM (lCons (vI .i64) (lOne vBool)) (mRow 1000 S.z S.ty S.D)).de }
def q_ma (S:Sg):(Int×Int)→AV×Mem:=(r1M (vI .i64) (mBox 1002 1 za3 zaX)).enc
abbrev r_ma (S:Sg):RD:={ α:=(Int×Int),enc:=q_ma S,dec:=(r1M (vI .i64) (mBox 1002 1 za3 zaX)).dec,ok:=(r1M (vI .i64) (mBox 1002 1 za3 zaX)).ok,de:=(r1M (vI .i64) (mBox 1002 1 za3 zaX)).de }
def q_md (S:Sg):(Int×Int)→AV×Mem:=(r1M (vI .i64) (mBox 1004 1 za3 zaX)).enc
abbrev r_md (S:Sg):RD:={ α:=(Int×Int),enc:=q_md S,dec:=(r1M (vI .i64) (mBox 1004 1 za3 zaX)).dec,ok:=(r1M (vI .i64) (mBox 1004 1 za3 zaX)).ok,de:=(r1M (vI .i64) (mBox 1004 1 za3 zaX)).de }
def q_o2 (S:Sg):((Int×Int)×Int)→AV×Mem:=(rTM (lCons (vI .i64) (lOne (vI .i64))) (mBox 1003 1 za3 zaX)).enc
abbrev r_o2 (S:Sg):RD:={ α:=((Int×Int)×Int),enc:=q_o2 S,dec:=(rTM (lCons (vI .i64) (lOne (vI .i64))) (mBox 1003 1 za3 zaX)).dec,ok:=(rTM (lCons (vI .i64) (lOne (vI .i64))) (mBox 1003 1 za3 zaX)).ok,de:=(rTM (lCons (vI .i64) (lOne (vI .i64))) (mBox 1003 1 za3 zaX)).de }
def zpp (S:Sg) (a0:List S.D.α) (x0:List (List AV)) (x1:Int) (x2:Int) (x3:Int) (x4:Bool) (x5:Bool):Option (AV×Mem):=pt S.pd 1 ⟨[(0,AV.row 1000 S.z 0 ((List.map S.D.enc a0).length)),(1,I x1),(2,I x2),(3,I x3),(4,AV.fn S.fc []),(10,B x4),(11,B x5)],[(1000,⟨S.z,S.ty,x0,false⟩)]⟩
def ztQ (S:Sg) (a0:List S.D.α) (x1:Int) (x2:Int) (x3:Int) (x4:Bool) (x5:Bool) (r8:(List S.D.α)):Option (AV×Mem):=pt S.pd 1010 ⟨[(0,AV.row 1000 S.z 0 ((List.map S.D.enc a0).length)),(1,I x1),(2,I x2),(3,I (w64 (x3 - 1))),(4,AV.fn S.fc []),(10,B x4),(11,B x5),(12,I (w64 (x2 - x1)))],[(1000,⟨S.z,S.ty,List.map S.D.enc r8,false⟩)]⟩
def zqq (S:Sg) (a0:List S.D.α) (x0:List (List AV)) (x1:Int) (x2:Int) (x3:Int) (x4:Bool) (x5:Bool):Option (AV×Mem):=pt S.pd 1010 ⟨[(0,AV.row 1000 S.z 0 ((List.map S.D.enc a0).length)),(1,I x1),(2,I x2),(3,I x3),(4,AV.fn S.fc []),(10,B x4),(11,B x5),(12,I (w64 (x2 - x1))),(39,B false)],[(1000,⟨S.z,S.ty,x0,false⟩)]⟩
def zlQ (S:Sg) (a0:List S.D.α) (x1:Int) (x2:Int) (x4:Bool) (x5:Bool) (x11:List (List AV)) (x12:Int) (x13:Int):Option (AV×Mem):=pt S.pd 1015 ⟨[(0,AV.row 1000 S.z 0 ((List.map S.D.enc a0).length)),(1,I x1),(2,I x2),(3,I x12),(4,AV.fn S.fc []),(10,B x4),(11,B x5),(12,I (w64 (x2 - x1))),(13,I x13),(14,I 1)],[(1000,⟨S.z,S.ty,x11,false⟩)]⟩
def znk (S:Sg) (a0:List S.D.α) (x1:Int) (x2:Int) (x4:Bool) (x5:Bool) (x14:List (List AV)) (x15:Int) (x16:Int) (x17:Int):Option (AV×Mem):=pt S.pd 1015 ⟨[(0,AV.row 1000 S.z 0 ((List.map S.D.enc a0).length)),(1,I x1),(2,I x2),(3,I x15),(4,AV.fn S.fc []),(10,B x4),(11,B x5),(12,I (w64 (x2 - x1))),(13,I x16),(14,I x17),(56,B false)],[(1000,⟨S.z,S.ty,x14,false⟩)]⟩
def zpV (S:Sg) (a0:List S.D.α) (x1:Int) (x2:Int) (x4:Bool) (x5:Bool) (x21:List (List AV)) (x22:Int) (x23:Int):Option (AV×Mem):=pt S.pd 1017 ⟨[(0,AV.row 1000 S.z 0 ((List.map S.D.enc a0).length)),(1,I x1),(2,I x2),(3,I x22),(4,AV.fn S.fc []),(10,B x4),(11,B x5),(12,I (w64 (x2 - x1))),(13,I x23),(80,B false)],[(1000,⟨S.z,S.ty,x21,false⟩)]⟩
def zf1 (S:Sg) (a0:List S.D.α) (x1:Int) (x2:Int) (x4:Bool) (x5:Bool) (x24:List (List AV)) (x25:Int) (x26:Int):Option (AV×Mem):=pt S.pd 1017 ⟨[(0,AV.row 1000 S.z 0 ((List.map S.D.enc a0).length)),(1,I x1),(2,I x2),(3,I x25),(4,AV.fn S.fc []),(10,B x4),(11,B x5),(12,I (w64 (x2 - x1))),(13,I x26),(75,B false)],[(1000,⟨S.z,S.ty,x24,false⟩)]⟩
def zlR (S:Sg) (a0:List S.D.α) (x1:Int) (x2:Int) (x4:Bool) (x5:Bool) (x32:List (List AV)) (x33:Int) (x34:Int):Option (AV×Mem):=pt S.pd 1020 ⟨[(0,AV.row 1000 S.z 0 ((List.map S.D.enc a0).length)),(1,I x1),(2,I x2),(3,I x33),(4,AV.fn S.fc []),(10,B x4),(11,B x5),(12,I (w64 (x2 - x1))),(13,I x34),(97,B false)],[(1000,⟨S.z,S.ty,x32,false⟩)]⟩
def zrd (S:Sg) (a0:List S.D.α) (a1:Int) (a2:Int) (x0:List (List AV)) (x1:Int):Option (AV×Mem):=pt S.is 1 ⟨[(0,AV.row 1000 S.z 0 ((List.map S.D.enc a0).length)),(1,I a1),(2,I a2),(3,AV.fn S.fc []),(8,I x1)],[(1000,⟨S.z,S.ty,x0,false⟩)]⟩
def k_is_2 (S:Sg) (a0:List S.D.α) (a1:Int) (a2:Int) (x1:Int) (x2:List (List AV)) (x3:Int):Option (AV×Mem):=pt S.is 2 ⟨[(0,AV.row 1000 S.z 0 ((List.map S.D.enc a0).length)),(1,I a1),(2,I a2),(3,AV.fn S.fc []),(8,I x1),(9,I x3)],[(1000,⟨S.z,S.ty,x2,false⟩)]⟩
def k_hs_1 (S:Sg) (a0:List S.D.α) (a1:Int) (a2:Int) (x0:List (List AV)) (x1:Int):Option (AV×Mem):=pt S.hs 1 ⟨[(0,AV.row 1000 S.z 0 ((List.map S.D.enc a0).length)),(3,AV.fn S.fc []),(8,I a1),(9,I 0),(10,I (w64 (a2 - a1))),(11,I x1)],[(1000,⟨S.z,S.ty,x0,false⟩)]⟩
def k_hs_2 (S:Sg) (a0:List S.D.α) (a1:Int) (x3:List (List AV)) (x4:Int):Option (AV×Mem):=pt S.hs 2 ⟨[(0,AV.row 1000 S.z 0 ((List.map S.D.enc a0).length)),(3,AV.fn S.fc []),(8,I a1),(9,I 0),(12,I x4)],[(1000,⟨S.z,S.ty,x3,false⟩)]⟩
def k_bp_1 (S:Sg) (a0:List S.D.α) (a1:Int) (a2:Int) (r0:Int) (x1:Int) (x2:List (List AV)) (x3:Int):Option (AV×Mem):=pt S.bp 1 ⟨[(0,AV.row 1000 S.z 0 ((List.map S.D.enc a0).length)),(1,I a1),(8,I (w64 (a2 - a1))),(9,AV.loc 9 1 0 0),(10,AV.v (.int .u64 r0)),(11,I x3)],[(9,⟨1,zcm,[zmj x1],true⟩),(1000,⟨S.z,S.ty,x2,false⟩)]⟩
def zpU (S:Sg) (a0:List S.D.α) (a1:Int) (a2:Int) (r0:Int) (x2:List (List AV)) (x3:Int) (r4:Int×Int):Option (AV×Mem):=pt S.bp 1010 ⟨[(0,AV.row 1000 S.z 0 ((List.map S.D.enc a0).length)),(1,I a1),(8,I (w64 (a2 - a1))),(9,AV.loc 9 1 0 0),(10,AV.v (.int .u64 r0)),(11,I x3),(12,I (w64 (w64 (wu64 (↑((r4.fst % Int.ofNat (2 ^ 64)).toNat &&& (wu64 (r0 - 1) % Int.ofNat (2 ^ 64)).toNat):Int)) - w64 (a2 - a1))))],[(9,⟨1,zcm,[zmj r4.snd],true⟩),(1000,⟨S.z,S.ty,x2,false⟩)]⟩
def zu8 (S:Sg) (a0:List S.D.α) (a1:Int) (a2:Int) (r0:Int) (x2:List (List AV)) (x3:Int) (r4:Int×Int):Option (AV×Mem):=pt S.bp 1010 ⟨[(0,AV.row 1000 S.z 0 ((List.map S.D.enc a0).length)),(1,I a1),(8,I (w64 (a2 - a1))),(9,AV.loc 9 1 0 0),(10,AV.v (.int .u64 r0)),(11,I x3),(12,I (w64 (wu64 (↑((r4.fst % Int.ofNat (2 ^ 64)).toNat &&& (wu64 (r0 - 1) % Int.ofNat (2 ^ 64)).toNat):Int)))),(45,B false)],[(9,⟨1,zcm,[zmj r4.snd],true⟩),(1000,⟨S.z,S.ty,x2,false⟩)]⟩
def zyj (S:Sg) (a0:List S.D.α) (r0:Int×Int) (r1:Int×Int) (r2:Int×Int):Option (AV×Mem):=pt S.cp 1011 ⟨[(0,AV.sl S.z (List.map S.D.enc a0)),(3,AV.fn S.fc []),(11,AV.loc 11 1 0 0),(12,I r0.fst),(13,I r1.fst),(14,I r2.fst)],[(11,⟨1,za3,[zak r2.snd],true⟩)]⟩
def zu9 (S:Sg) (a0:List S.D.α) (a1:Int) (a2:Int):Option (AV×Mem):=pt S.cp 1011 ⟨[(0,AV.sl S.z (List.map S.D.enc a0)),(3,AV.fn S.fc []),(11,AV.loc 11 1 0 0),(12,I (w64 (a1+w64 (w64 ((w64 (a2 - a1)).tdiv 4)*1)))),(13,I (w64 (a1+w64 (w64 ((w64 (a2 - a1)).tdiv 4)*2)))),(14,I (w64 (a1+w64 (w64 ((w64 (a2 - a1)).tdiv 4)*3)))),(36,B false)],[(11,⟨1,za3,[zak 0],true⟩)]⟩
def k_rr_1 (S:Sg) (a0:List S.D.α) (x0:List (List AV)) (x1:Int) (x2:Int):Option (AV×Mem):=pt S.rr 1 ⟨[(0,AV.row 1000 S.z 0 ((List.map S.D.enc a0).length)),(8,I x1),(9,I x2)],[(1000,⟨S.z,S.ty,x0,false⟩)]⟩
def zjZ (S:Sg) (a0:List S.D.α) (a1:Int) (a2:Int) (x0:List (List AV)) (x1:Int) (x2:Int):Option (AV×Mem):=pt S.pi 1 ⟨[(0,AV.row 1000 S.z 0 ((List.map S.D.enc a0).length)),(1,I a1),(2,I a2),(3,AV.fn S.fc []),(9,I x1),(10,I x2)],[(1000,⟨S.z,S.ty,x0,false⟩)]⟩
def k_pi_2 (S:Sg) (a0:List S.D.α) (a1:Int) (a2:Int) (x0:List (List AV)) (x1:Int) (x2:Int):Option (AV×Mem):=pt S.pi 2 ⟨[(0,AV.row 1000 S.z 0 ((List.map S.D.enc a0).length)),(1,I a1),(2,I a2),(3,AV.fn S.fc []),(9,I x1),(10,I x2),(16,B true)],[(1000,⟨S.z,S.ty,x0,false⟩)]⟩
def zsb (S:Sg) (a0:List S.D.α) (a1:Int) (a2:Int) (x0:List (List AV)) (x2:Int) (x6:Int):Option (AV×Mem):=pt S.pi 2 ⟨[(0,AV.row 1000 S.z 0 ((List.map S.D.enc a0).length)),(1,I a1),(2,I a2),(3,AV.fn S.fc []),(9,I x6),(10,I x2)],[(1000,⟨S.z,S.ty,x0,false⟩)]⟩
def zj0 (S:Sg) (a0:List S.D.α) (a1:Int) (a2:Int) (x0:List (List AV)) (x2:Int) (x7:Int):Option (AV×Mem):=pt S.pi 1007 ⟨[(0,AV.row 1000 S.z 0 ((List.map S.D.enc a0).length)),(1,I a1),(2,I a2),(3,AV.fn S.fc []),(9,I x7),(10,I x2),(36,B false)],[(1000,⟨S.z,S.ty,x0,false⟩)]⟩
def k_pi_3 (S:Sg) (a0:List S.D.α) (a1:Int) (a2:Int) (x2:Int) (x7:Int) (x15:List (List AV)) (x16:Int):Option (AV×Mem):=pt S.pi 3 ⟨[(0,AV.row 1000 S.z 0 ((List.map S.D.enc a0).length)),(1,I a1),(2,I a2),(3,AV.fn S.fc []),(9,I x7),(10,I x2),(11,I x16)],[(1000,⟨S.z,S.ty,x15,false⟩)]⟩
def znG (S:Sg) (a0:List S.D.α) (a1:Int) (a2:Int) (x2:Int) (x7:Int) (x17:List (List AV)) (x18:Int):Option (AV×Mem):=pt S.pi 4 ⟨[(0,AV.row 1000 S.z 0 ((List.map S.D.enc a0).length)),(1,I a1),(2,I a2),(3,AV.fn S.fc []),(9,I x7),(10,I x2),(12,I x18)],[(1000,⟨S.z,S.ty,x17,false⟩)]⟩
def k_pe_1 (S:Sg) (a0:List S.D.α) (a1:Int) (x4:List (List AV)) (x5:Int) (x6:Int):Option (AV×Mem):=pt S.pe 1 ⟨[(0,AV.row 1000 S.z 0 ((List.map S.D.enc a0).length)),(1,I a1),(4,AV.fn S.fc []),(11,I x5),(12,I x6)],[(1000,⟨S.z,S.ty,x4,false⟩)]⟩
def k_pe_2 (S:Sg) (a0:List S.D.α) (a1:Int) (x4:List (List AV)) (x6:Int) (x7:Int):Option (AV×Mem):=pt S.pe 2 ⟨[(0,AV.row 1000 S.z 0 ((List.map S.D.enc a0).length)),(1,I a1),(4,AV.fn S.fc []),(11,I x7),(12,I x6)],[(1000,⟨S.z,S.ty,x4,false⟩)]⟩
def k_pe_3 (S:Sg) (a0:List S.D.α) (a1:Int) (x4:List (List AV)) (x6:Int) (x7:Int):Option (AV×Mem):=pt S.pe 3 ⟨[(0,AV.row 1000 S.z 0 ((List.map S.D.enc a0).length)),(1,I a1),(4,AV.fn S.fc []),(11,I x7),(12,I x6),(47,B false)],[(1000,⟨S.z,S.ty,x4,false⟩)]⟩
def zsa (S:Sg) (a0:List S.D.α) (a1:Int) (x4:List (List AV)) (x7:Int) (x14:Int):Option (AV×Mem):=pt S.pe 3 ⟨[(0,AV.row 1000 S.z 0 ((List.map S.D.enc a0).length)),(1,I a1),(4,AV.fn S.fc []),(11,I x7),(12,I x14)],[(1000,⟨S.z,S.ty,x4,false⟩)]⟩
def zjY (S:Sg) (a0:List S.D.α) (a1:Int) (x4:List (List AV)) (x7:Int) (x15:Int):Option (AV×Mem):=pt S.pe 1007 ⟨[(0,AV.row 1000 S.z 0 ((List.map S.D.enc a0).length)),(1,I a1),(4,AV.fn S.fc []),(11,I x7),(12,I x15),(65,B false)],[(1000,⟨S.z,S.ty,x4,false⟩)]⟩
def k_pa_1 (S:Sg) (a0:List S.D.α) (a1:Int) (a2:Int) (a3:Int) (c0:S.D.α) (c1:S.D.α) (c2:S.D.α) (c3:S.D.α) (x4:Int):Option (AV×Mem):=pt S.pa 1 ⟨[(0,AV.row 1000 S.z 0 ((List.map S.D.enc a0).length)),(1,I a1),(4,AV.fn S.fc []),(12,I x4),(13,I (w64 (a2 - 1)))],[(1000,⟨S.z,S.ty,List.set (List.set (List.map S.D.enc a0) (0+a1.toNat) (S.D.enc c0)) (0+a3.toNat) (S.D.enc c1),false⟩)]⟩
def zre (S:Sg) (a0:List S.D.α) (a1:Int) (a2:Int) (a3:Int) (c0:S.D.α) (c1:S.D.α) (c2:S.D.α) (c3:S.D.α) (x4:Int):Option (AV×Mem):=pt S.pa 2 ⟨[(0,AV.row 1000 S.z 0 ((List.map S.D.enc a0).length)),(1,I a1),(4,AV.fn S.fc []),(12,I x4),(13,I (w64 (a2 - 1))),(47,B false)],[(1000,⟨S.z,S.ty,List.set (List.set (List.map S.D.enc a0) (0+a1.toNat) (S.D.enc c0)) (0+a3.toNat) (S.D.enc c1),false⟩)]⟩
def zr8 (S:Sg) (a0:List S.D.α) (a1:Int) (a2:Int) (a3:Int) (c0:S.D.α) (c1:S.D.α) (c2:S.D.α) (c3:S.D.α) (x4:Int) (x11:Int):Option (AV×Mem):=pt S.pa 2 ⟨[(0,AV.row 1000 S.z 0 ((List.map S.D.enc a0).length)),(1,I a1),(4,AV.fn S.fc []),(12,I x4),(13,I x11)],[(1000,⟨S.z,S.ty,List.set (List.set (List.map S.D.enc a0) (0+a1.toNat) (S.D.enc c0)) (0+a3.toNat) (S.D.enc c1),false⟩)]⟩
def zjW (S:Sg) (a0:List S.D.α) (a1:Int) (a2:Int) (a3:Int) (c0:S.D.α) (c1:S.D.α) (c2:S.D.α) (c3:S.D.α) (x4:Int) (x12:Int):Option (AV×Mem):=pt S.pa 1007 ⟨[(0,AV.row 1000 S.z 0 ((List.map S.D.enc a0).length)),(1,I a1),(4,AV.fn S.fc []),(12,I x4),(13,I x12),(66,B false)],[(1000,⟨S.z,S.ty,List.set (List.set (List.map S.D.enc a0) (0+a1.toNat) (S.D.enc c0)) (0+a3.toNat) (S.D.enc c1),false⟩)]⟩
def k_pa_3 (S:Sg) (a0:List S.D.α) (a1:Int) (x24:List (List AV)) (x25:Int) (x26:Int):Option (AV×Mem):=pt S.pa 3 ⟨[(0,AV.row 1000 S.z 0 ((List.map S.D.enc a0).length)),(1,I a1),(4,AV.fn S.fc []),(12,I x25),(13,I x26)],[(1000,⟨S.z,S.ty,x24,false⟩)]⟩
def k_pa_4 (S:Sg) (a0:List S.D.α) (a1:Int) (x24:List (List AV)) (x26:Int) (x27:Int):Option (AV×Mem):=pt S.pa 4 ⟨[(0,AV.row 1000 S.z 0 ((List.map S.D.enc a0).length)),(1,I a1),(4,AV.fn S.fc []),(12,I x27),(13,I x26)],[(1000,⟨S.z,S.ty,x24,false⟩)]⟩
def k_pa_5 (S:Sg) (a0:List S.D.α) (a1:Int) (x24:List (List AV)) (x26:Int) (x27:Int):Option (AV×Mem):=pt S.pa 5 ⟨[(0,AV.row 1000 S.z 0 ((List.map S.D.enc a0).length)),(1,I a1),(4,AV.fn S.fc []),(12,I x27),(13,I x26),(120,B false)],[(1000,⟨S.z,S.ty,x24,false⟩)]⟩
def zr9 (S:Sg) (a0:List S.D.α) (a1:Int) (x24:List (List AV)) (x27:Int) (x34:Int):Option (AV×Mem):=pt S.pa 5 ⟨[(0,AV.row 1000 S.z 0 ((List.map S.D.enc a0).length)),(1,I a1),(4,AV.fn S.fc []),(12,I x27),(13,I x34)],[(1000,⟨S.z,S.ty,x24,false⟩)]⟩
def zjX (S:Sg) (a0:List S.D.α) (a1:Int) (x24:List (List AV)) (x27:Int) (x35:Int):Option (AV×Mem):=pt S.pa 1017 ⟨[(0,AV.row 1000 S.z 0 ((List.map S.D.enc a0).length)),(1,I a1),(4,AV.fn S.fc []),(12,I x27),(13,I x35),(139,B false)],[(1000,⟨S.z,S.ty,x24,false⟩)]⟩
def k_sd_1 (S:Sg) (a0:List S.D.α) (a2:Int) (a3:Int) (x0:List (List AV)) (x1:Int):Option (AV×Mem):=pt S.sd 1 ⟨[(0,AV.row 1000 S.z 0 ((List.map S.D.enc a0).length)),(2,I a2),(3,I a3),(4,AV.fn S.fc []),(10,I x1)],[(1000,⟨S.z,S.ty,x0,false⟩)]⟩
def zyk (S:Sg) (a0:List S.D.α) (a2:Int) (a3:Int) (x0:List (List AV)) (x1:Int):Option (AV×Mem):=pt S.sd 1005 ⟨[(0,AV.row 1000 S.z 0 ((List.map S.D.enc a0).length)),(2,I a2),(3,I a3),(4,AV.fn S.fc []),(10,I x1),(11,I (w64 (w64 (w64 (2*x1)+1)+1)))],[(1000,⟨S.z,S.ty,x0,false⟩)]⟩
def znl (S:Sg) (a0:List S.D.α) (a2:Int) (a3:Int) (x0:List (List AV)) (x1:Int):Option (AV×Mem):=pt S.sd 1005 ⟨[(0,AV.row 1000 S.z 0 ((List.map S.D.enc a0).length)),(2,I a2),(3,I a3),(4,AV.fn S.fc []),(10,I x1),(11,I (w64 (w64 (2*x1)+1))),(40,B false)],[(1000,⟨S.z,S.ty,x0,false⟩)]⟩
structure Lw (S:Sg):Prop where
 e_so:∀ (a0:List S.D.α) {y:AV×Mem},((callD zaK (cw zr3 [AV.v (.int .u64 (wu64 (↑(List.map S.D.enc a0).length:Int)))] []) fun (r0:Int) =>
  callD (r_pd S) (cw S.pd.f [AV.row 1000 S.z 0 (List.length (List.map S.D.enc a0)),I 0,I ((↑(List.map S.D.enc a0).length:Int)),I r0,AV.fn S.fc []] [(1000,⟨S.z,S.ty,List.map S.D.enc a0,false⟩)]) fun (r1:(List S.D.α)) =>
  some (AV.tup [],[(1000,⟨S.z,S.ty,List.map S.D.enc r1,false⟩)]))=some y)→cw S.so.f [AV.row 1000 S.z 0 (List.length (List.map S.D.enc a0)),AV.fn S.fc []] [(1000,⟨S.z,S.ty,List.map S.D.enc a0,false⟩)]=some y
 t_pd_1:∀ (a0:List S.D.α) (x0:List (List AV)) (x1:Int) (x2:Int) (x3:Int) (x4:Bool) (x5:Bool) {y:AV×Mem},((brn (decide (w64 (x2 - x1)≤12)) (callD (r_is S) (cw S.is.f [AV.row 1000 S.z 0 ((List.map S.D.enc a0).length),I x1,I x2,AV.fn S.fc []] [(1000,⟨S.z,S.ty,x0,false⟩)]) fun (r6:(List S.D.α))=>some (AV.tup [],[(1000,⟨S.z,S.ty,List.map S.D.enc r6,false⟩)]))
  (brn (x3 == 0) (callD (r_hs S) (cw S.hs.f [AV.row 1000 S.z 0 ((List.map S.D.enc a0).length),I x1,I x2,AV.fn S.fc []] [(1000,⟨S.z,S.ty,x0,false⟩)]) fun (r7:(List S.D.α))=>some (AV.tup [],[(1000,⟨S.z,S.ty,List.map S.D.enc r7,false⟩)]))
   (brn (!x4) (callD (r_bp S) (cw S.bp.f [AV.row 1000 S.z 0 ((List.map S.D.enc a0).length),I x1,I x2,AV.fn S.fc []] [(1000,⟨S.z,S.ty,x0,false⟩)]) fun (r8:(List S.D.α))=>ztQ S a0 x1 x2 x3 x4 x5 r8)
    (zqq S a0 x0 x1 x2 x3 x4 x5))))=some y)→zpp S a0 x0 x1 x2 x3 x4 x5=some y
 t_pd_1010:∀ (a0:List S.D.α) (x1:Int) (x2:Int) (x3:Int) (x4:Bool) (x5:Bool) (r8:(List S.D.α)) {y:AV×Mem},((chk (0+(List.map S.D.enc a0).length≤(List.map S.D.enc r8).length)<|
  callD (r_cp S) (cw S.cp.f [AV.sl S.z (List.take ((List.map S.D.enc a0).length) (List.map S.D.enc r8)),I x1,I x2,AV.fn S.fc []] []) fun (r9:Int×Int) =>
  brn (r9.snd == 2) (callD (r_rr S) (cw S.rr.f [AV.row 1000 S.z 0 ((List.map S.D.enc a0).length),I x1,I x2,AV.fn S.fc []] [(1000,⟨S.z,S.ty,List.map S.D.enc r8,false⟩)]) fun (r10:(List S.D.α))=>zlQ S a0 x1 x2 x4 x5 (List.map S.D.enc r10) (w64 (x3 - 1)) (w64 (w64 (x2 - 1) - w64 (r9.fst - x1))))
  (znk S a0 x1 x2 x4 x5 (List.map S.D.enc r8) (w64 (x3 - 1)) r9.fst r9.snd))=some y)→ztQ S a0 x1 x2 x3 x4 x5 r8=some y
 t_pd_1010v1:∀ (a0:List S.D.α) (x0:List (List AV)) (x1:Int) (x2:Int) (x3:Int) (x4:Bool) (x5:Bool) {y:AV×Mem},((chk (0+(List.map S.D.enc a0).length≤x0.length)<|
  callD (r_cp S) (cw S.cp.f [AV.sl S.z (List.take ((List.map S.D.enc a0).length) x0),I x1,I x2,AV.fn S.fc []] []) fun (r18:Int×Int) =>
  brn (r18.snd == 2) (callD (r_rr S) (cw S.rr.f [AV.row 1000 S.z 0 ((List.map S.D.enc a0).length),I x1,I x2,AV.fn S.fc []] [(1000,⟨S.z,S.ty,x0,false⟩)]) fun (r19:(List S.D.α))=>zlQ S a0 x1 x2 x4 x5 (List.map S.D.enc r19) x3 (w64 (w64 (x2 - 1) - w64 (r18.fst - x1))))
  (znk S a0 x1 x2 x4 x5 x0 x3 r18.fst r18.snd))=some y)→zqq S a0 x0 x1 x2 x3 x4 x5=some y
 t_pd_1015:∀ (a0:List S.D.α) (x1:Int) (x2:Int) (x4:Bool) (x5:Bool) (x11:List (List AV)) (x12:Int) (x13:Int) {y:AV×Mem},((brn x4 (brn x5 (brn (1 == 1) (callD (r_pi S) (cw S.pi.f [AV.row 1000 S.z 0 ((List.map S.D.enc a0).length),I x1,I x2,AV.fn S.fc []] [(1000,⟨S.z,S.ty,x11,false⟩)]) fun (r20:Bool×(List S.D.α)) =>
   brn r20.fst (some (AV.tup [],[(1000,⟨S.z,S.ty,List.map S.D.enc r20.snd,false⟩)]))
   (zpV S a0 x1 x2 x4 x5 (List.map S.D.enc r20.snd) x12 x13))
   (zf1 S a0 x1 x2 x4 x5 x11 x12 x13))
  (zf1 S a0 x1 x2 x4 x5 x11 x12 x13))
  (zf1 S a0 x1 x2 x4 x5 x11 x12 x13))=some y)→zlQ S a0 x1 x2 x4 x5 x11 x12 x13=some y
 t_pd_1015v1:∀ (a0:List S.D.α) (x1:Int) (x2:Int) (x4:Bool) (x5:Bool) (x14:List (List AV)) (x15:Int) (x16:Int) (x17:Int) {y:AV×Mem},((brn x4 (brn x5 (brn (x17 == 1) (callD (r_pi S) (cw S.pi.f [AV.row 1000 S.z 0 ((List.map S.D.enc a0).length),I x1,I x2,AV.fn S.fc []] [(1000,⟨S.z,S.ty,x14,false⟩)]) fun (r27:Bool×(List S.D.α)) =>
   brn r27.fst (some (AV.tup [],[(1000,⟨S.z,S.ty,List.map S.D.enc r27.snd,false⟩)]))
   (zpV S a0 x1 x2 x4 x5 (List.map S.D.enc r27.snd) x15 x16))
   (zf1 S a0 x1 x2 x4 x5 x14 x15 x16))
  (zf1 S a0 x1 x2 x4 x5 x14 x15 x16))
  (zf1 S a0 x1 x2 x4 x5 x14 x15 x16))=some y)→znk S a0 x1 x2 x4 x5 x14 x15 x16 x17=some y
 t_pd_1017:∀ (a0:List S.D.α) (x1:Int) (x2:Int) (x4:Bool) (x5:Bool) (x21:List (List AV)) (x22:Int) (x23:Int) {y:AV×Mem},((brn (decide (0 < x1)) (chk ((0:Int)≤(w64 (x1 - 1)))<|
  chk ((w64 (x1 - 1):Int) < ((↑(List.map S.D.enc a0).length:Int)))<|
  elemD S.D x21 (0+(w64 (x1 - 1)).toNat) fun (c28:S.D.α) =>
  chk ((0:Int)≤x23)<|
  chk ((x23:Int) < ((↑(List.map S.D.enc a0).length:Int)))<|
  elemD S.D x21 (0+x23.toNat) fun (c29:S.D.α) =>
  callD rC (cw S.fc [AV.agg (S.D.enc c28),AV.agg (S.D.enc c29)] []) fun (r30:Int) =>
  brn (!decide (r30 < 0)) (callD (r_pe S) (cw S.pe.f [AV.row 1000 S.z 0 ((List.map S.D.enc a0).length),I x1,I x2,I x23,AV.fn S.fc []] [(1000,⟨S.z,S.ty,x21,false⟩)]) fun (r31:Int×(List S.D.α))=>zpp S a0 (List.map S.D.enc r31.snd) r31.fst x2 x22 x4 x5)
  (zlR S a0 x1 x2 x4 x5 x21 x22 x23))
  (zlR S a0 x1 x2 x4 x5 x21 x22 x23))=some y)→zpV S a0 x1 x2 x4 x5 x21 x22 x23=some y
 t_pd_1017v1:∀ (a0:List S.D.α) (x1:Int) (x2:Int) (x4:Bool) (x5:Bool) (x24:List (List AV)) (x25:Int) (x26:Int) {y:AV×Mem},((brn (decide (0 < x1)) (chk ((0:Int)≤(w64 (x1 - 1)))<|
  chk ((w64 (x1 - 1):Int) < ((↑(List.map S.D.enc a0).length:Int)))<|
  elemD S.D x24 (0+(w64 (x1 - 1)).toNat) fun (c35:S.D.α) =>
  chk ((0:Int)≤x26)<|
  chk ((x26:Int) < ((↑(List.map S.D.enc a0).length:Int)))<|
  elemD S.D x24 (0+x26.toNat) fun (c36:S.D.α) =>
  callD rC (cw S.fc [AV.agg (S.D.enc c35),AV.agg (S.D.enc c36)] []) fun (r37:Int) =>
  brn (!decide (r37 < 0)) (callD (r_pe S) (cw S.pe.f [AV.row 1000 S.z 0 ((List.map S.D.enc a0).length),I x1,I x2,I x26,AV.fn S.fc []] [(1000,⟨S.z,S.ty,x24,false⟩)]) fun (r38:Int×(List S.D.α))=>zpp S a0 (List.map S.D.enc r38.snd) r38.fst x2 x25 x4 x5)
  (zlR S a0 x1 x2 x4 x5 x24 x25 x26))
  (zlR S a0 x1 x2 x4 x5 x24 x25 x26))=some y)→zf1 S a0 x1 x2 x4 x5 x24 x25 x26=some y
 t_pd_1020:∀ (a0:List S.D.α) (x1:Int) (x2:Int) (x4:Bool) (x5:Bool) (x32:List (List AV)) (x33:Int) (x34:Int) {y:AV×Mem},((callD (r_pa S) (cw S.pa.f [AV.row 1000 S.z 0 ((List.map S.D.enc a0).length),I x1,I x2,I x34,AV.fn S.fc []] [(1000,⟨S.z,S.ty,x32,false⟩)]) fun (r39:(Int×Bool)×(List S.D.α)) =>
  chk ((8:Int)≠0)<|
  brn (decide (w64 (r39.fst.fst - x1) < w64 (x2 - r39.fst.fst))) (callD (r_pd S) (cw S.pd.f [AV.row 1000 S.z 0 ((List.map S.D.enc a0).length),I x1,I r39.fst.fst,I x33,AV.fn S.fc []] [(1000,⟨S.z,S.ty,List.map S.D.enc r39.snd,false⟩)]) fun (r40:(List S.D.α))=>zpp S a0 (List.map S.D.enc r40) (w64 (r39.fst.fst+1)) x2 x33 (decide (w64 ((w64 (x2 - x1)).tdiv 8)≤w64 (r39.fst.fst - x1))) r39.fst.snd)
  (callD (r_pd S) (cw S.pd.f [AV.row 1000 S.z 0 ((List.map S.D.enc a0).length),I (w64 (r39.fst.fst+1)),I x2,I x33,AV.fn S.fc []] [(1000,⟨S.z,S.ty,List.map S.D.enc r39.snd,false⟩)]) fun (r41:(List S.D.α))=>zpp S a0 (List.map S.D.enc r41) x1 r39.fst.fst x33 (decide (w64 ((w64 (x2 - x1)).tdiv 8)≤w64 (x2 - r39.fst.fst))) r39.fst.snd))=some y)→zlR S a0 x1 x2 x4 x5 x32 x33 x34=some y
 e_pd:∀ (a0:List S.D.α) (a1:Int) (a2:Int) (a3:Int) {y:AV×Mem},((zpp S a0 (List.map S.D.enc a0) a1 a2 a3 true true)=some y)→cw S.pd.f [AV.row 1000 S.z 0 (List.length (List.map S.D.enc a0)),I a1,I a2,I a3,AV.fn S.fc []] [(1000,⟨S.z,S.ty,List.map S.D.enc a0,false⟩)]=some y
 t_is_1:∀ (a0:List S.D.α) (a1:Int) (a2:Int) (x0:List (List AV)) (x1:Int) {y:AV×Mem},((brn (decide (x1 < a2)) (k_is_2 S a0 a1 a2 x1 x0 x1)
  (some (AV.tup [],[(1000,⟨S.z,S.ty,x0,false⟩)])))=some y)→zrd S a0 a1 a2 x0 x1=some y
 t_is_2:∀ (a0:List S.D.α) (a1:Int) (a2:Int) (x1:Int) (x2:List (List AV)) (x3:Int) {y:AV×Mem},((brn (decide (a1 < x3)) (chk ((0:Int)≤x3)<|
  chk ((x3:Int) < ((↑(List.map S.D.enc a0).length:Int)))<|
  elemD S.D x2 (0+x3.toNat) fun (c4:S.D.α) =>
  chk ((0:Int)≤(w64 (x3 - 1)))<|
  chk ((w64 (x3 - 1):Int) < ((↑(List.map S.D.enc a0).length:Int)))<|
  elemD S.D x2 (0+(w64 (x3 - 1)).toNat) fun (c5:S.D.α) =>
  callD rC (cw S.fc [AV.agg (S.D.enc c4),AV.agg (S.D.enc c5)] []) fun (r6:Int) =>
  brn (decide (r6 < 0)) (chk ((0:Int)≤(w64 (x3 - 1)))<|
   chk ((w64 (x3 - 1):Int) < ((↑(List.map S.D.enc a0).length:Int)))<|
   elemD S.D x2 (0+(w64 (x3 - 1)).toNat) fun (c7:S.D.α) =>
   chk ((0:Int)≤x3)<|
   chk ((x3:Int) < ((↑(List.map S.D.enc a0).length:Int)))<|
   elemD S.D x2 (0+x3.toNat) fun (c8:S.D.α) =>
   chk ((0:Int)≤x3)<|
   chk ((x3:Int) < ((↑(List.map S.D.enc a0).length:Int)))<|
   elemD S.D x2 (0+x3.toNat) fun (c9:S.D.α) =>
   chk ((0:Int)≤(w64 (x3 - 1)))<|
   chk ((w64 (x3 - 1):Int) < ((↑(List.map S.D.enc a0).length:Int)))<|
   elemD S.D (List.set x2 (0+x3.toNat) (S.D.enc c7)) (0+(w64 (x3 - 1)).toNat) fun (c10:S.D.α) =>
   k_is_2 S a0 a1 a2 x1 (List.set (List.set x2 (0+x3.toNat) (S.D.enc c7)) (0+(w64 (x3 - 1)).toNat) (S.D.enc c8)) (w64 (x3 - 1)))
  (zrd S a0 a1 a2 x2 (w64 (x1+1))))
  (zrd S a0 a1 a2 x2 (w64 (x1+1))))=some y)→k_is_2 S a0 a1 a2 x1 x2 x3=some y
 e_is:∀ (a0:List S.D.α) (a1:Int) (a2:Int) {y:AV×Mem},((zrd S a0 a1 a2 (List.map S.D.enc a0) (w64 (a1+1)))=some y)→cw S.is.f [AV.row 1000 S.z 0 (List.length (List.map S.D.enc a0)),I a1,I a2,AV.fn S.fc []] [(1000,⟨S.z,S.ty,List.map S.D.enc a0,false⟩)]=some y
 t_hs_1:∀ (a0:List S.D.α) (a1:Int) (a2:Int) (x0:List (List AV)) (x1:Int) {y:AV×Mem},((brn (decide (0≤x1)) (callD (r_sd S) (cw S.sd.f [AV.row 1000 S.z 0 ((List.map S.D.enc a0).length),I x1,I (w64 (a2 - a1)),I a1,AV.fn S.fc []] [(1000,⟨S.z,S.ty,x0,false⟩)]) fun (r2:(List S.D.α))=>k_hs_1 S a0 a1 a2 (List.map S.D.enc r2) (w64 (x1 - 1)))
  (k_hs_2 S a0 a1 x0 (w64 (w64 (a2 - a1) - 1))))=some y)→k_hs_1 S a0 a1 a2 x0 x1=some y
 t_hs_2:∀ (a0:List S.D.α) (a1:Int) (x3:List (List AV)) (x4:Int) {y:AV×Mem},((brn (decide (0≤x4)) (chk ((0:Int)≤(w64 (a1+x4)))<|
  chk ((w64 (a1+x4):Int) < ((↑(List.map S.D.enc a0).length:Int)))<|
  elemD S.D x3 (0+(w64 (a1+x4)).toNat) fun (c5:S.D.α) =>
  chk ((0:Int)≤a1)<|
  chk ((a1:Int) < ((↑(List.map S.D.enc a0).length:Int)))<|
  elemD S.D x3 (0+a1.toNat) fun (c6:S.D.α) =>
  chk ((0:Int)≤a1)<|
  chk ((a1:Int) < ((↑(List.map S.D.enc a0).length:Int)))<|
  elemD S.D x3 (0+a1.toNat) fun (c7:S.D.α) =>
  chk ((0:Int)≤(w64 (a1+x4)))<|
  chk ((w64 (a1+x4):Int) < ((↑(List.map S.D.enc a0).length:Int)))<|
  elemD S.D (List.set x3 (0+a1.toNat) (S.D.enc c5)) (0+(w64 (a1+x4)).toNat) fun (c8:S.D.α) =>
  callD (r_sd S) (cw S.sd.f [AV.row 1000 S.z 0 ((List.map S.D.enc a0).length),I 0,I x4,I a1,AV.fn S.fc []] [(1000,⟨S.z,S.ty,List.set (List.set x3 (0+a1.toNat) (S.D.enc c5)) (0+(w64 (a1+x4)).toNat) (S.D.enc c6),false⟩)]) fun (r9:(List S.D.α)) =>
  k_hs_2 S a0 a1 (List.map S.D.enc r9) (w64 (x4 - 1)))
  (some (AV.tup [],[(1000,⟨S.z,S.ty,x3,false⟩)])))=some y)→k_hs_2 S a0 a1 x3 x4=some y
 e_hs:∀ (a0:List S.D.α) (a1:Int) (a2:Int) {y:AV×Mem},((chk ((2:Int)≠0)<|
  k_hs_1 S a0 a1 a2 (List.map S.D.enc a0) (w64 ((w64 (w64 (a2 - a1) - 1)).tdiv 2)))=some y)→cw S.hs.f [AV.row 1000 S.z 0 (List.length (List.map S.D.enc a0)),I a1,I a2,AV.fn S.fc []] [(1000,⟨S.z,S.ty,List.map S.D.enc a0,false⟩)]=some y
 t_bp_1:∀ (a0:List S.D.α) (a1:Int) (a2:Int) (r0:Int) (x1:Int) (x2:List (List AV)) (x3:Int) {y:AV×Mem},((chk ((4:Int)≠0)<|
  brn (decide (x3≤w64 (w64 (a1+w64 (w64 ((w64 (a2 - a1)).tdiv 4)*2))+1))) (callD zed (cw zhf [AV.loc 1000 1 0 0] [(1000,⟨1,zcm,[zmj x1],true⟩)]) fun (r4:Int×Int) =>
   brn (decide (w64 (a2 - a1)≤w64 (wu64 (↑((r4.fst % Int.ofNat (2 ^ 64)).toNat &&& (wu64 (r0 - 1) % Int.ofNat (2 ^ 64)).toNat):Int)))) (zpU S a0 a1 a2 r0 x2 x3 r4)
   (zu8 S a0 a1 a2 r0 x2 x3 r4))
  (some (AV.tup [],[(1000,⟨S.z,S.ty,x2,false⟩)])))=some y)→k_bp_1 S a0 a1 a2 r0 x1 x2 x3=some y
 t_bp_1010:∀ (a0:List S.D.α) (a1:Int) (a2:Int) (r0:Int) (x2:List (List AV)) (x3:Int) (r4:Int×Int) {y:AV×Mem},((chk ((0:Int)≤(w64 (a1+w64 (w64 (wu64 (↑((r4.fst % Int.ofNat (2 ^ 64)).toNat &&& (wu64 (r0 - 1) % Int.ofNat (2 ^ 64)).toNat):Int)) - w64 (a2 - a1)))))<|
  chk ((w64 (a1+w64 (w64 (wu64 (↑((r4.fst % Int.ofNat (2 ^ 64)).toNat &&& (wu64 (r0 - 1) % Int.ofNat (2 ^ 64)).toNat):Int)) - w64 (a2 - a1))):Int) < ((↑(List.map S.D.enc a0).length:Int)))<|
  elemD S.D x2 (0+(w64 (a1+w64 (w64 (wu64 (↑((r4.fst % Int.ofNat (2 ^ 64)).toNat &&& (wu64 (r0 - 1) % Int.ofNat (2 ^ 64)).toNat):Int)) - w64 (a2 - a1)))).toNat) fun (c5:S.D.α) =>
  chk ((0:Int)≤x3)<|
  chk ((x3:Int) < ((↑(List.map S.D.enc a0).length:Int)))<|
  elemD S.D x2 (0+x3.toNat) fun (c6:S.D.α) =>
  chk ((0:Int)≤x3)<|
  chk ((x3:Int) < ((↑(List.map S.D.enc a0).length:Int)))<|
  elemD S.D x2 (0+x3.toNat) fun (c7:S.D.α) =>
  chk ((0:Int)≤(w64 (a1+w64 (w64 (wu64 (↑((r4.fst % Int.ofNat (2 ^ 64)).toNat &&& (wu64 (r0 - 1) % Int.ofNat (2 ^ 64)).toNat):Int)) - w64 (a2 - a1)))))<|
  chk ((w64 (a1+w64 (w64 (wu64 (↑((r4.fst % Int.ofNat (2 ^ 64)).toNat &&& (wu64 (r0 - 1) % Int.ofNat (2 ^ 64)).toNat):Int)) - w64 (a2 - a1))):Int) < ((↑(List.map S.D.enc a0).length:Int)))<|
  elemD S.D (List.set x2 (0+x3.toNat) (S.D.enc c5)) (0+(w64 (a1+w64 (w64 (wu64 (↑((r4.fst % Int.ofNat (2 ^ 64)).toNat &&& (wu64 (r0 - 1) % Int.ofNat (2 ^ 64)).toNat):Int)) - w64 (a2 - a1)))).toNat) fun (c8:S.D.α) =>
  k_bp_1 S a0 a1 a2 r0 r4.snd (List.set (List.set x2 (0+x3.toNat) (S.D.enc c5)) (0+(w64 (a1+w64 (w64 (wu64 (↑((r4.fst % Int.ofNat (2 ^ 64)).toNat &&& (wu64 (r0 - 1) % Int.ofNat (2 ^ 64)).toNat):Int)) - w64 (a2 - a1)))).toNat) (S.D.enc c6)) (w64 (x3+1)))=some y)→zpU S a0 a1 a2 r0 x2 x3 r4=some y
 t_bp_1010v1:∀ (a0:List S.D.α) (a1:Int) (a2:Int) (r0:Int) (x2:List (List AV)) (x3:Int) (r4:Int×Int) {y:AV×Mem},((chk ((0:Int)≤(w64 (a1+w64 (wu64 (↑((r4.fst % Int.ofNat (2 ^ 64)).toNat &&& (wu64 (r0 - 1) % Int.ofNat (2 ^ 64)).toNat):Int)))))<|
  chk ((w64 (a1+w64 (wu64 (↑((r4.fst % Int.ofNat (2 ^ 64)).toNat &&& (wu64 (r0 - 1) % Int.ofNat (2 ^ 64)).toNat):Int))):Int) < ((↑(List.map S.D.enc a0).length:Int)))<|
  elemD S.D x2 (0+(w64 (a1+w64 (wu64 (↑((r4.fst % Int.ofNat (2 ^ 64)).toNat &&& (wu64 (r0 - 1) % Int.ofNat (2 ^ 64)).toNat):Int)))).toNat) fun (c9:S.D.α) =>
  chk ((0:Int)≤x3)<|
  chk ((x3:Int) < ((↑(List.map S.D.enc a0).length:Int)))<|
  elemD S.D x2 (0+x3.toNat) fun (c10:S.D.α) =>
  chk ((0:Int)≤x3)<|
  chk ((x3:Int) < ((↑(List.map S.D.enc a0).length:Int)))<|
  elemD S.D x2 (0+x3.toNat) fun (c11:S.D.α) =>
  chk ((0:Int)≤(w64 (a1+w64 (wu64 (↑((r4.fst % Int.ofNat (2 ^ 64)).toNat &&& (wu64 (r0 - 1) % Int.ofNat (2 ^ 64)).toNat):Int)))))<|
  chk ((w64 (a1+w64 (wu64 (↑((r4.fst % Int.ofNat (2 ^ 64)).toNat &&& (wu64 (r0 - 1) % Int.ofNat (2 ^ 64)).toNat):Int))):Int) < ((↑(List.map S.D.enc a0).length:Int)))<|
  elemD S.D (List.set x2 (0+x3.toNat) (S.D.enc c9)) (0+(w64 (a1+w64 (wu64 (↑((r4.fst % Int.ofNat (2 ^ 64)).toNat &&& (wu64 (r0 - 1) % Int.ofNat (2 ^ 64)).toNat):Int)))).toNat) fun (c12:S.D.α) =>
  k_bp_1 S a0 a1 a2 r0 r4.snd (List.set (List.set x2 (0+x3.toNat) (S.D.enc c9)) (0+(w64 (a1+w64 (wu64 (↑((r4.fst % Int.ofNat (2 ^ 64)).toNat &&& (wu64 (r0 - 1) % Int.ofNat (2 ^ 64)).toNat):Int)))).toNat) (S.D.enc c10)) (w64 (x3+1)))=some y)→zu8 S a0 a1 a2 r0 x2 x3 r4=some y
 e_bp:∀ (a0:List S.D.α) (a1:Int) (a2:Int) {y:AV×Mem},((brn (decide (8≤w64 (a2 - a1))) (callD zdT (cw zgv [I (w64 (a2 - a1))] []) fun (r0:Int) =>
  chk ((4:Int)≠0)<|
  k_bp_1 S a0 a1 a2 r0 (wu64 (w64 (a2 - a1))) (List.map S.D.enc a0) (w64 (w64 (a1+w64 (w64 ((w64 (a2 - a1)).tdiv 4)*2)) - 1)))
  (some (AV.tup [],[(1000,⟨S.z,S.ty,List.map S.D.enc a0,false⟩)])))=some y)→cw S.bp.f [AV.row 1000 S.z 0 (List.length (List.map S.D.enc a0)),I a1,I a2,AV.fn S.fc []] [(1000,⟨S.z,S.ty,List.map S.D.enc a0,false⟩)]=some y
 t_cp_1011:∀ (a0:List S.D.α) (r0:Int×Int) (r1:Int×Int) (r2:Int×Int) {y:AV×Mem},((callD (r_md S) (cw S.md.f [AV.sl S.z (List.map S.D.enc a0),I r0.fst,I r1.fst,I r2.fst,AV.loc 1004 1 0 0,AV.fn S.fc []] [(1004,⟨1,za3,[zak r2.snd],true⟩)]) fun (r3:Int×Int) =>
  brn (r3.snd == 0) (some (AV.tup [I r3.fst,I 1],[]))
  (brn (r3.snd == 12) (some (AV.tup [I r3.fst,I 2],[]))
   (some (AV.tup [I r3.fst,I 0],[]))))=some y)→zyj S a0 r0 r1 r2=some y
 t_cp_1011v1:∀ (a0:List S.D.α) (a1:Int) (a2:Int) {y:AV×Mem},((callD (r_md S) (cw S.md.f [AV.sl S.z (List.map S.D.enc a0),I (w64 (a1+w64 (w64 ((w64 (a2 - a1)).tdiv 4)*1))),I (w64 (a1+w64 (w64 ((w64 (a2 - a1)).tdiv 4)*2))),I (w64 (a1+w64 (w64 ((w64 (a2 - a1)).tdiv 4)*3))),AV.loc 1004 1 0 0,AV.fn S.fc []] [(1004,⟨1,za3,[zak 0],true⟩)]) fun (r4:Int×Int) =>
  brn (r4.snd == 0) (some (AV.tup [I r4.fst,I 1],[]))
  (brn (r4.snd == 12) (some (AV.tup [I r4.fst,I 2],[]))
   (some (AV.tup [I r4.fst,I 0],[]))))=some y)→zu9 S a0 a1 a2=some y
 e_cp:∀ (a0:List S.D.α) (a1:Int) (a2:Int) {y:AV×Mem},((chk ((4:Int)≠0)<|
  chk ((4:Int)≠0)<|
  chk ((4:Int)≠0)<|
  brn (decide (8≤w64 (a2 - a1))) (brn (decide (50≤w64 (a2 - a1))) (callD (r_ma S) (cw S.ma.f [AV.sl S.z (List.map S.D.enc a0),I (w64 (a1+w64 (w64 ((w64 (a2 - a1)).tdiv 4)*1))),AV.loc 1002 1 0 0,AV.fn S.fc []] [(1002,⟨1,za3,[zak 0],true⟩)]) fun (r0:Int×Int) =>
   callD (r_ma S) (cw S.ma.f [AV.sl S.z (List.map S.D.enc a0),I (w64 (a1+w64 (w64 ((w64 (a2 - a1)).tdiv 4)*2))),AV.loc 1002 1 0 0,AV.fn S.fc []] [(1002,⟨1,za3,[zak r0.snd],true⟩)]) fun (r1:Int×Int) =>
   callD (r_ma S) (cw S.ma.f [AV.sl S.z (List.map S.D.enc a0),I (w64 (a1+w64 (w64 ((w64 (a2 - a1)).tdiv 4)*3))),AV.loc 1002 1 0 0,AV.fn S.fc []] [(1002,⟨1,za3,[zak r1.snd],true⟩)]) fun (r2:Int×Int) =>
   zyj S a0 r0 r1 r2)
   (zu9 S a0 a1 a2))
  (some (AV.tup [I (w64 (a1+w64 (w64 ((w64 (a2 - a1)).tdiv 4)*2))),I 1],[])))=some y)→cw S.cp.f [AV.sl S.z (List.map S.D.enc a0),I a1,I a2,AV.fn S.fc []] []=some y
 t_rr_1:∀ (a0:List S.D.α) (x0:List (List AV)) (x1:Int) (x2:Int) {y:AV×Mem},((brn (decide (x1 < x2)) (chk ((0:Int)≤x2)<|
  chk ((x2:Int) < ((↑(List.map S.D.enc a0).length:Int)))<|
  elemD S.D x0 (0+x2.toNat) fun (c3:S.D.α) =>
  chk ((0:Int)≤x1)<|
  chk ((x1:Int) < ((↑(List.map S.D.enc a0).length:Int)))<|
  elemD S.D x0 (0+x1.toNat) fun (c4:S.D.α) =>
  chk ((0:Int)≤x1)<|
  chk ((x1:Int) < ((↑(List.map S.D.enc a0).length:Int)))<|
  elemD S.D x0 (0+x1.toNat) fun (c5:S.D.α) =>
  chk ((0:Int)≤x2)<|
  chk ((x2:Int) < ((↑(List.map S.D.enc a0).length:Int)))<|
  elemD S.D (List.set x0 (0+x1.toNat) (S.D.enc c3)) (0+x2.toNat) fun (c6:S.D.α) =>
  k_rr_1 S a0 (List.set (List.set x0 (0+x1.toNat) (S.D.enc c3)) (0+x2.toNat) (S.D.enc c4)) (w64 (x1+1)) (w64 (x2 - 1)))
  (some (AV.tup [],[(1000,⟨S.z,S.ty,x0,false⟩)])))=some y)→k_rr_1 S a0 x0 x1 x2=some y
 e_rr:∀ (a0:List S.D.α) (a1:Int) (a2:Int) {y:AV×Mem},((k_rr_1 S a0 (List.map S.D.enc a0) a1 (w64 (a2 - 1)))=some y)→cw S.rr.f [AV.row 1000 S.z 0 (List.length (List.map S.D.enc a0)),I a1,I a2,AV.fn S.fc []] [(1000,⟨S.z,S.ty,List.map S.D.enc a0,false⟩)]=some y
 t_pi_1:∀ (a0:List S.D.α) (a1:Int) (a2:Int) (x0:List (List AV)) (x1:Int) (x2:Int) {y:AV×Mem},((brn (decide (x2 < 5)) (k_pi_2 S a0 a1 a2 x0 x1 x2)
  (some (B false,[(1000,⟨S.z,S.ty,x0,false⟩)])))=some y)→zjZ S a0 a1 a2 x0 x1 x2=some y
 t_pi_2:∀ (a0:List S.D.α) (a1:Int) (a2:Int) (x0:List (List AV)) (x1:Int) (x2:Int) {y:AV×Mem},((brn (decide (x1 < a2)) (chk ((0:Int)≤x1)<|
  chk ((x1:Int) < ((↑(List.map S.D.enc a0).length:Int)))<|
  elemD S.D x0 (0+x1.toNat) fun (c3:S.D.α) =>
  chk ((0:Int)≤(w64 (x1 - 1)))<|
  chk ((w64 (x1 - 1):Int) < ((↑(List.map S.D.enc a0).length:Int)))<|
  elemD S.D x0 (0+(w64 (x1 - 1)).toNat) fun (c4:S.D.α) =>
  callD rC (cw S.fc [AV.agg (S.D.enc c3),AV.agg (S.D.enc c4)] []) fun (r5:Int) =>
  brn (!decide (r5 < 0)) (zsb S a0 a1 a2 x0 x2 (w64 (x1+1)))
  (zj0 S a0 a1 a2 x0 x2 x1))
  (zj0 S a0 a1 a2 x0 x2 x1))=some y)→k_pi_2 S a0 a1 a2 x0 x1 x2=some y
 t_pi_2v1:∀ (a0:List S.D.α) (a1:Int) (a2:Int) (x0:List (List AV)) (x2:Int) (x6:Int) {y:AV×Mem},((brn (decide (x6 < a2)) (chk ((0:Int)≤x6)<|
  chk ((x6:Int) < ((↑(List.map S.D.enc a0).length:Int)))<|
  elemD S.D x0 (0+x6.toNat) fun (c8:S.D.α) =>
  chk ((0:Int)≤(w64 (x6 - 1)))<|
  chk ((w64 (x6 - 1):Int) < ((↑(List.map S.D.enc a0).length:Int)))<|
  elemD S.D x0 (0+(w64 (x6 - 1)).toNat) fun (c9:S.D.α) =>
  callD rC (cw S.fc [AV.agg (S.D.enc c8),AV.agg (S.D.enc c9)] []) fun (r10:Int) =>
  brn (!decide (r10 < 0)) (zsb S a0 a1 a2 x0 x2 (w64 (x6+1)))
  (zj0 S a0 a1 a2 x0 x2 x6))
  (zj0 S a0 a1 a2 x0 x2 x6))=some y)→zsb S a0 a1 a2 x0 x2 x6=some y
 t_pi_1007:∀ (a0:List S.D.α) (a1:Int) (a2:Int) (x0:List (List AV)) (x2:Int) (x7:Int) {y:AV×Mem},((brn (x7 == a2) (some (B true,[(1000,⟨S.z,S.ty,x0,false⟩)]))
  (brn (decide (w64 (a2 - a1) < 50)) (some (B false,[(1000,⟨S.z,S.ty,x0,false⟩)]))
   (chk ((0:Int)≤(w64 (x7 - 1)))<|
    chk ((w64 (x7 - 1):Int) < ((↑(List.map S.D.enc a0).length:Int)))<|
    elemD S.D x0 (0+(w64 (x7 - 1)).toNat) fun (c11:S.D.α) =>
    chk ((0:Int)≤x7)<|
    chk ((x7:Int) < ((↑(List.map S.D.enc a0).length:Int)))<|
    elemD S.D x0 (0+x7.toNat) fun (c12:S.D.α) =>
    chk ((0:Int)≤x7)<|
    chk ((x7:Int) < ((↑(List.map S.D.enc a0).length:Int)))<|
    elemD S.D x0 (0+x7.toNat) fun (c13:S.D.α) =>
    chk ((0:Int)≤(w64 (x7 - 1)))<|
    chk ((w64 (x7 - 1):Int) < ((↑(List.map S.D.enc a0).length:Int)))<|
    elemD S.D (List.set x0 (0+x7.toNat) (S.D.enc c11)) (0+(w64 (x7 - 1)).toNat) fun (c14:S.D.α) =>
    brn (decide (2≤w64 (x7 - a1))) (k_pi_3 S a0 a1 a2 x2 x7 (List.set (List.set x0 (0+x7.toNat) (S.D.enc c11)) (0+(w64 (x7 - 1)).toNat) (S.D.enc c12)) (w64 (x7 - 1)))
    (brn (decide (2≤w64 (a2 - x7))) (znG S a0 a1 a2 x2 x7 (List.set (List.set x0 (0+x7.toNat) (S.D.enc c11)) (0+(w64 (x7 - 1)).toNat) (S.D.enc c12)) (w64 (x7+1)))
     (zjZ S a0 a1 a2 (List.set (List.set x0 (0+x7.toNat) (S.D.enc c11)) (0+(w64 (x7 - 1)).toNat) (S.D.enc c12)) x7 (w64 (x2+1)))))))=some y)→zj0 S a0 a1 a2 x0 x2 x7=some y
 t_pi_3:∀ (a0:List S.D.α) (a1:Int) (a2:Int) (x2:Int) (x7:Int) (x15:List (List AV)) (x16:Int) {y:AV×Mem},((brn (decide (1≤x16)) (chk ((0:Int)≤x16)<|
  chk ((x16:Int) < ((↑(List.map S.D.enc a0).length:Int)))<|
  elemD S.D x15 (0+x16.toNat) fun (c19:S.D.α) =>
  chk ((0:Int)≤(w64 (x16 - 1)))<|
  chk ((w64 (x16 - 1):Int) < ((↑(List.map S.D.enc a0).length:Int)))<|
  elemD S.D x15 (0+(w64 (x16 - 1)).toNat) fun (c20:S.D.α) =>
  callD rC (cw S.fc [AV.agg (S.D.enc c19),AV.agg (S.D.enc c20)] []) fun (r21:Int) =>
  brn (!decide (r21 < 0)) (brn (decide (2≤w64 (a2 - x7))) (znG S a0 a1 a2 x2 x7 x15 (w64 (x7+1)))
   (zjZ S a0 a1 a2 x15 x7 (w64 (x2+1))))
  (chk ((0:Int)≤(w64 (x16 - 1)))<|
   chk ((w64 (x16 - 1):Int) < ((↑(List.map S.D.enc a0).length:Int)))<|
   elemD S.D x15 (0+(w64 (x16 - 1)).toNat) fun (c22:S.D.α) =>
   chk ((0:Int)≤x16)<|
   chk ((x16:Int) < ((↑(List.map S.D.enc a0).length:Int)))<|
   elemD S.D x15 (0+x16.toNat) fun (c23:S.D.α) =>
   chk ((0:Int)≤x16)<|
   chk ((x16:Int) < ((↑(List.map S.D.enc a0).length:Int)))<|
   elemD S.D x15 (0+x16.toNat) fun (c24:S.D.α) =>
   chk ((0:Int)≤(w64 (x16 - 1)))<|
   chk ((w64 (x16 - 1):Int) < ((↑(List.map S.D.enc a0).length:Int)))<|
   elemD S.D (List.set x15 (0+x16.toNat) (S.D.enc c22)) (0+(w64 (x16 - 1)).toNat) fun (c25:S.D.α) =>
   k_pi_3 S a0 a1 a2 x2 x7 (List.set (List.set x15 (0+x16.toNat) (S.D.enc c22)) (0+(w64 (x16 - 1)).toNat) (S.D.enc c23)) (w64 (x16 - 1))))
  (brn (decide (2≤w64 (a2 - x7))) (znG S a0 a1 a2 x2 x7 x15 (w64 (x7+1)))
   (zjZ S a0 a1 a2 x15 x7 (w64 (x2+1)))))=some y)→k_pi_3 S a0 a1 a2 x2 x7 x15 x16=some y
 t_pi_4:∀ (a0:List S.D.α) (a1:Int) (a2:Int) (x2:Int) (x7:Int) (x17:List (List AV)) (x18:Int) {y:AV×Mem},((brn (decide (x18 < a2)) (chk ((0:Int)≤x18)<|
  chk ((x18:Int) < ((↑(List.map S.D.enc a0).length:Int)))<|
  elemD S.D x17 (0+x18.toNat) fun (c26:S.D.α) =>
  chk ((0:Int)≤(w64 (x18 - 1)))<|
  chk ((w64 (x18 - 1):Int) < ((↑(List.map S.D.enc a0).length:Int)))<|
  elemD S.D x17 (0+(w64 (x18 - 1)).toNat) fun (c27:S.D.α) =>
  callD rC (cw S.fc [AV.agg (S.D.enc c26),AV.agg (S.D.enc c27)] []) fun (r28:Int) =>
  brn (!decide (r28 < 0)) (zjZ S a0 a1 a2 x17 x7 (w64 (x2+1)))
  (chk ((0:Int)≤(w64 (x18 - 1)))<|
   chk ((w64 (x18 - 1):Int) < ((↑(List.map S.D.enc a0).length:Int)))<|
   elemD S.D x17 (0+(w64 (x18 - 1)).toNat) fun (c29:S.D.α) =>
   chk ((0:Int)≤x18)<|
   chk ((x18:Int) < ((↑(List.map S.D.enc a0).length:Int)))<|
   elemD S.D x17 (0+x18.toNat) fun (c30:S.D.α) =>
   chk ((0:Int)≤x18)<|
   chk ((x18:Int) < ((↑(List.map S.D.enc a0).length:Int)))<|
   elemD S.D x17 (0+x18.toNat) fun (c31:S.D.α) =>
   chk ((0:Int)≤(w64 (x18 - 1)))<|
   chk ((w64 (x18 - 1):Int) < ((↑(List.map S.D.enc a0).length:Int)))<|
   elemD S.D (List.set x17 (0+x18.toNat) (S.D.enc c29)) (0+(w64 (x18 - 1)).toNat) fun (c32:S.D.α) =>
   znG S a0 a1 a2 x2 x7 (List.set (List.set x17 (0+x18.toNat) (S.D.enc c29)) (0+(w64 (x18 - 1)).toNat) (S.D.enc c30)) (w64 (x18+1))))
  (zjZ S a0 a1 a2 x17 x7 (w64 (x2+1))))=some y)→znG S a0 a1 a2 x2 x7 x17 x18=some y
 e_pi:∀ (a0:List S.D.α) (a1:Int) (a2:Int) {y:AV×Mem},((zjZ S a0 a1 a2 (List.map S.D.enc a0) (w64 (a1+1)) 0)=some y)→cw S.pi.f [AV.row 1000 S.z 0 (List.length (List.map S.D.enc a0)),I a1,I a2,AV.fn S.fc []] [(1000,⟨S.z,S.ty,List.map S.D.enc a0,false⟩)]=some y
 t_pe_1:∀ (a0:List S.D.α) (a1:Int) (x4:List (List AV)) (x5:Int) (x6:Int) {y:AV×Mem},((k_pe_2 S a0 a1 x4 x6 x5)=some y)→k_pe_1 S a0 a1 x4 x5 x6=some y
 t_pe_2:∀ (a0:List S.D.α) (a1:Int) (x4:List (List AV)) (x6:Int) (x7:Int) {y:AV×Mem},((brn (decide (x7≤x6)) (chk ((0:Int)≤a1)<|
  chk ((a1:Int) < ((↑(List.map S.D.enc a0).length:Int)))<|
  elemD S.D x4 (0+a1.toNat) fun (c8:S.D.α) =>
  chk ((0:Int)≤x7)<|
  chk ((x7:Int) < ((↑(List.map S.D.enc a0).length:Int)))<|
  elemD S.D x4 (0+x7.toNat) fun (c9:S.D.α) =>
  callD rC (cw S.fc [AV.agg (S.D.enc c8),AV.agg (S.D.enc c9)] []) fun (r10:Int) =>
  brn (!decide (r10 < 0)) (k_pe_2 S a0 a1 x4 x6 (w64 (x7+1)))
  (k_pe_3 S a0 a1 x4 x6 x7))
  (k_pe_3 S a0 a1 x4 x6 x7))=some y)→k_pe_2 S a0 a1 x4 x6 x7=some y
 t_pe_3:∀ (a0:List S.D.α) (a1:Int) (x4:List (List AV)) (x6:Int) (x7:Int) {y:AV×Mem},((brn (decide (x7≤x6)) (chk ((0:Int)≤a1)<|
  chk ((a1:Int) < ((↑(List.map S.D.enc a0).length:Int)))<|
  elemD S.D x4 (0+a1.toNat) fun (c11:S.D.α) =>
  chk ((0:Int)≤x6)<|
  chk ((x6:Int) < ((↑(List.map S.D.enc a0).length:Int)))<|
  elemD S.D x4 (0+x6.toNat) fun (c12:S.D.α) =>
  callD rC (cw S.fc [AV.agg (S.D.enc c11),AV.agg (S.D.enc c12)] []) fun (r13:Int) =>
  brn (decide (r13 < 0)) (zsa S a0 a1 x4 x7 (w64 (x6 - 1)))
  (zjY S a0 a1 x4 x7 x6))
  (zjY S a0 a1 x4 x7 x6))=some y)→k_pe_3 S a0 a1 x4 x6 x7=some y
 t_pe_3v1:∀ (a0:List S.D.α) (a1:Int) (x4:List (List AV)) (x7:Int) (x14:Int) {y:AV×Mem},((brn (decide (x7≤x14)) (chk ((0:Int)≤a1)<|
  chk ((a1:Int) < ((↑(List.map S.D.enc a0).length:Int)))<|
  elemD S.D x4 (0+a1.toNat) fun (c16:S.D.α) =>
  chk ((0:Int)≤x14)<|
  chk ((x14:Int) < ((↑(List.map S.D.enc a0).length:Int)))<|
  elemD S.D x4 (0+x14.toNat) fun (c17:S.D.α) =>
  callD rC (cw S.fc [AV.agg (S.D.enc c16),AV.agg (S.D.enc c17)] []) fun (r18:Int) =>
  brn (decide (r18 < 0)) (zsa S a0 a1 x4 x7 (w64 (x14 - 1)))
  (zjY S a0 a1 x4 x7 x14))
  (zjY S a0 a1 x4 x7 x14))=some y)→zsa S a0 a1 x4 x7 x14=some y
 t_pe_1007:∀ (a0:List S.D.α) (a1:Int) (x4:List (List AV)) (x7:Int) (x15:Int) {y:AV×Mem},((brn (decide (x15 < x7)) (some (I x7,[(1000,⟨S.z,S.ty,x4,false⟩)]))
  (chk ((0:Int)≤x15)<|
   chk ((x15:Int) < ((↑(List.map S.D.enc a0).length:Int)))<|
   elemD S.D x4 (0+x15.toNat) fun (c19:S.D.α) =>
   chk ((0:Int)≤x7)<|
   chk ((x7:Int) < ((↑(List.map S.D.enc a0).length:Int)))<|
   elemD S.D x4 (0+x7.toNat) fun (c20:S.D.α) =>
   chk ((0:Int)≤x7)<|
   chk ((x7:Int) < ((↑(List.map S.D.enc a0).length:Int)))<|
   elemD S.D x4 (0+x7.toNat) fun (c21:S.D.α) =>
   chk ((0:Int)≤x15)<|
   chk ((x15:Int) < ((↑(List.map S.D.enc a0).length:Int)))<|
   elemD S.D (List.set x4 (0+x7.toNat) (S.D.enc c19)) (0+x15.toNat) fun (c22:S.D.α) =>
   k_pe_1 S a0 a1 (List.set (List.set x4 (0+x7.toNat) (S.D.enc c19)) (0+x15.toNat) (S.D.enc c20)) (w64 (x7+1)) (w64 (x15 - 1))))=some y)→zjY S a0 a1 x4 x7 x15=some y
 e_pe:∀ (a0:List S.D.α) (a1:Int) (a2:Int) (a3:Int) {y:AV×Mem},((chk ((0:Int)≤a3)<|
  chk ((a3:Int) < ((↑(List.map S.D.enc a0).length:Int)))<|
  elemD S.D (List.map S.D.enc a0) (0+a3.toNat) fun (c0:S.D.α) =>
  chk ((0:Int)≤a1)<|
  chk ((a1:Int) < ((↑(List.map S.D.enc a0).length:Int)))<|
  elemD S.D (List.map S.D.enc a0) (0+a1.toNat) fun (c1:S.D.α) =>
  chk ((0:Int)≤a1)<|
  chk ((a1:Int) < ((↑(List.map S.D.enc a0).length:Int)))<|
  elemD S.D (List.map S.D.enc a0) (0+a1.toNat) fun (c2:S.D.α) =>
  chk ((0:Int)≤a3)<|
  chk ((a3:Int) < ((↑(List.map S.D.enc a0).length:Int)))<|
  elemD S.D (List.set (List.map S.D.enc a0) (0+a1.toNat) (S.D.enc c0)) (0+a3.toNat) fun (c3:S.D.α) =>
  k_pe_1 S a0 a1 (List.set (List.set (List.map S.D.enc a0) (0+a1.toNat) (S.D.enc c0)) (0+a3.toNat) (S.D.enc c1)) (w64 (a1+1)) (w64 (a2 - 1)))=some y)→cw S.pe.f [AV.row 1000 S.z 0 (List.length (List.map S.D.enc a0)),I a1,I a2,I a3,AV.fn S.fc []] [(1000,⟨S.z,S.ty,List.map S.D.enc a0,false⟩)]=some y
 t_pa_1:∀ (a0:List S.D.α) (a1:Int) (a2:Int) (a3:Int) (c0:S.D.α) (c1:S.D.α) (c2:S.D.α) (c3:S.D.α) (x4:Int) {y:AV×Mem},((brn (decide (x4≤w64 (a2 - 1))) (chk ((0:Int)≤x4)<|
  chk ((x4:Int) < ((↑(List.map S.D.enc a0).length:Int)))<|
  elemD S.D (List.set (List.set (List.map S.D.enc a0) (0+a1.toNat) (S.D.enc c0)) (0+a3.toNat) (S.D.enc c1)) (0+x4.toNat) fun (c5:S.D.α) =>
  chk ((0:Int)≤a1)<|
  chk ((a1:Int) < ((↑(List.map S.D.enc a0).length:Int)))<|
  elemD S.D (List.set (List.set (List.map S.D.enc a0) (0+a1.toNat) (S.D.enc c0)) (0+a3.toNat) (S.D.enc c1)) (0+a1.toNat) fun (c6:S.D.α) =>
  callD rC (cw S.fc [AV.agg (S.D.enc c5),AV.agg (S.D.enc c6)] []) fun (r7:Int) =>
  brn (decide (r7 < 0)) (k_pa_1 S a0 a1 a2 a3 c0 c1 c2 c3 (w64 (x4+1)))
  (zre S a0 a1 a2 a3 c0 c1 c2 c3 x4))
  (zre S a0 a1 a2 a3 c0 c1 c2 c3 x4))=some y)→k_pa_1 S a0 a1 a2 a3 c0 c1 c2 c3 x4=some y
 t_pa_2:∀ (a0:List S.D.α) (a1:Int) (a2:Int) (a3:Int) (c0:S.D.α) (c1:S.D.α) (c2:S.D.α) (c3:S.D.α) (x4:Int) {y:AV×Mem},((brn (decide (x4≤w64 (a2 - 1))) (chk ((0:Int)≤(w64 (a2 - 1)))<|
  chk ((w64 (a2 - 1):Int) < ((↑(List.map S.D.enc a0).length:Int)))<|
  elemD S.D (List.set (List.set (List.map S.D.enc a0) (0+a1.toNat) (S.D.enc c0)) (0+a3.toNat) (S.D.enc c1)) (0+(w64 (a2 - 1)).toNat) fun (c8:S.D.α) =>
  chk ((0:Int)≤a1)<|
  chk ((a1:Int) < ((↑(List.map S.D.enc a0).length:Int)))<|
  elemD S.D (List.set (List.set (List.map S.D.enc a0) (0+a1.toNat) (S.D.enc c0)) (0+a3.toNat) (S.D.enc c1)) (0+a1.toNat) fun (c9:S.D.α) =>
  callD rC (cw S.fc [AV.agg (S.D.enc c8),AV.agg (S.D.enc c9)] []) fun (r10:Int) =>
  brn (!decide (r10 < 0)) (zr8 S a0 a1 a2 a3 c0 c1 c2 c3 x4 (w64 (w64 (a2 - 1) - 1)))
  (zjW S a0 a1 a2 a3 c0 c1 c2 c3 x4 (w64 (a2 - 1))))
  (zjW S a0 a1 a2 a3 c0 c1 c2 c3 x4 (w64 (a2 - 1))))=some y)→zre S a0 a1 a2 a3 c0 c1 c2 c3 x4=some y
 t_pa_2v1:∀ (a0:List S.D.α) (a1:Int) (a2:Int) (a3:Int) (c0:S.D.α) (c1:S.D.α) (c2:S.D.α) (c3:S.D.α) (x4:Int) (x11:Int) {y:AV×Mem},((brn (decide (x4≤x11)) (chk ((0:Int)≤x11)<|
  chk ((x11:Int) < ((↑(List.map S.D.enc a0).length:Int)))<|
  elemD S.D (List.set (List.set (List.map S.D.enc a0) (0+a1.toNat) (S.D.enc c0)) (0+a3.toNat) (S.D.enc c1)) (0+x11.toNat) fun (c13:S.D.α) =>
  chk ((0:Int)≤a1)<|
  chk ((a1:Int) < ((↑(List.map S.D.enc a0).length:Int)))<|
  elemD S.D (List.set (List.set (List.map S.D.enc a0) (0+a1.toNat) (S.D.enc c0)) (0+a3.toNat) (S.D.enc c1)) (0+a1.toNat) fun (c14:S.D.α) =>
  callD rC (cw S.fc [AV.agg (S.D.enc c13),AV.agg (S.D.enc c14)] []) fun (r15:Int) =>
  brn (!decide (r15 < 0)) (zr8 S a0 a1 a2 a3 c0 c1 c2 c3 x4 (w64 (x11 - 1)))
  (zjW S a0 a1 a2 a3 c0 c1 c2 c3 x4 x11))
  (zjW S a0 a1 a2 a3 c0 c1 c2 c3 x4 x11))=some y)→zr8 S a0 a1 a2 a3 c0 c1 c2 c3 x4 x11=some y
 t_pa_1007:∀ (a0:List S.D.α) (a1:Int) (a2:Int) (a3:Int) (c0:S.D.α) (c1:S.D.α) (c2:S.D.α) (c3:S.D.α) (x4:Int) (x12:Int) {y:AV×Mem},((brn (decide (x12 < x4)) (chk ((0:Int)≤a1)<|
  chk ((a1:Int) < ((↑(List.map S.D.enc a0).length:Int)))<|
  elemD S.D (List.set (List.set (List.map S.D.enc a0) (0+a1.toNat) (S.D.enc c0)) (0+a3.toNat) (S.D.enc c1)) (0+a1.toNat) fun (c16:S.D.α) =>
  chk ((0:Int)≤x12)<|
  chk ((x12:Int) < ((↑(List.map S.D.enc a0).length:Int)))<|
  elemD S.D (List.set (List.set (List.map S.D.enc a0) (0+a1.toNat) (S.D.enc c0)) (0+a3.toNat) (S.D.enc c1)) (0+x12.toNat) fun (c17:S.D.α) =>
  chk ((0:Int)≤x12)<|
  chk ((x12:Int) < ((↑(List.map S.D.enc a0).length:Int)))<|
  elemD S.D (List.set (List.set (List.map S.D.enc a0) (0+a1.toNat) (S.D.enc c0)) (0+a3.toNat) (S.D.enc c1)) (0+x12.toNat) fun (c18:S.D.α) =>
  chk ((0:Int)≤a1)<|
  chk ((a1:Int) < ((↑(List.map S.D.enc a0).length:Int)))<|
  elemD S.D (List.set (List.set (List.set (List.map S.D.enc a0) (0+a1.toNat) (S.D.enc c0)) (0+a3.toNat) (S.D.enc c1)) (0+x12.toNat) (S.D.enc c16)) (0+a1.toNat) fun (c19:S.D.α) =>
  some (AV.tup [I x12,B true],[(1000,⟨S.z,S.ty,List.set (List.set (List.set (List.set (List.map S.D.enc a0) (0+a1.toNat) (S.D.enc c0)) (0+a3.toNat) (S.D.enc c1)) (0+x12.toNat) (S.D.enc c16)) (0+a1.toNat) (S.D.enc c17),false⟩)]))
  (chk ((0:Int)≤x12)<|
   chk ((x12:Int) < ((↑(List.map S.D.enc a0).length:Int)))<|
   elemD S.D (List.set (List.set (List.map S.D.enc a0) (0+a1.toNat) (S.D.enc c0)) (0+a3.toNat) (S.D.enc c1)) (0+x12.toNat) fun (c20:S.D.α) =>
   chk ((0:Int)≤x4)<|
   chk ((x4:Int) < ((↑(List.map S.D.enc a0).length:Int)))<|
   elemD S.D (List.set (List.set (List.map S.D.enc a0) (0+a1.toNat) (S.D.enc c0)) (0+a3.toNat) (S.D.enc c1)) (0+x4.toNat) fun (c21:S.D.α) =>
   chk ((0:Int)≤x4)<|
   chk ((x4:Int) < ((↑(List.map S.D.enc a0).length:Int)))<|
   elemD S.D (List.set (List.set (List.map S.D.enc a0) (0+a1.toNat) (S.D.enc c0)) (0+a3.toNat) (S.D.enc c1)) (0+x4.toNat) fun (c22:S.D.α) =>
   chk ((0:Int)≤x12)<|
   chk ((x12:Int) < ((↑(List.map S.D.enc a0).length:Int)))<|
   elemD S.D (List.set (List.set (List.set (List.map S.D.enc a0) (0+a1.toNat) (S.D.enc c0)) (0+a3.toNat) (S.D.enc c1)) (0+x4.toNat) (S.D.enc c20)) (0+x12.toNat) fun (c23:S.D.α) =>
   k_pa_3 S a0 a1 (List.set (List.set (List.set (List.set (List.map S.D.enc a0) (0+a1.toNat) (S.D.enc c0)) (0+a3.toNat) (S.D.enc c1)) (0+x4.toNat) (S.D.enc c20)) (0+x12.toNat) (S.D.enc c21)) (w64 (x4+1)) (w64 (x12 - 1))))=some y)→zjW S a0 a1 a2 a3 c0 c1 c2 c3 x4 x12=some y
 t_pa_3:∀ (a0:List S.D.α) (a1:Int) (x24:List (List AV)) (x25:Int) (x26:Int) {y:AV×Mem},((k_pa_4 S a0 a1 x24 x26 x25)=some y)→k_pa_3 S a0 a1 x24 x25 x26=some y
 t_pa_4:∀ (a0:List S.D.α) (a1:Int) (x24:List (List AV)) (x26:Int) (x27:Int) {y:AV×Mem},((brn (decide (x27≤x26)) (chk ((0:Int)≤x27)<|
  chk ((x27:Int) < ((↑(List.map S.D.enc a0).length:Int)))<|
  elemD S.D x24 (0+x27.toNat) fun (c28:S.D.α) =>
  chk ((0:Int)≤a1)<|
  chk ((a1:Int) < ((↑(List.map S.D.enc a0).length:Int)))<|
  elemD S.D x24 (0+a1.toNat) fun (c29:S.D.α) =>
  callD rC (cw S.fc [AV.agg (S.D.enc c28),AV.agg (S.D.enc c29)] []) fun (r30:Int) =>
  brn (decide (r30 < 0)) (k_pa_4 S a0 a1 x24 x26 (w64 (x27+1)))
  (k_pa_5 S a0 a1 x24 x26 x27))
  (k_pa_5 S a0 a1 x24 x26 x27))=some y)→k_pa_4 S a0 a1 x24 x26 x27=some y
 t_pa_5:∀ (a0:List S.D.α) (a1:Int) (x24:List (List AV)) (x26:Int) (x27:Int) {y:AV×Mem},((brn (decide (x27≤x26)) (chk ((0:Int)≤x26)<|
  chk ((x26:Int) < ((↑(List.map S.D.enc a0).length:Int)))<|
  elemD S.D x24 (0+x26.toNat) fun (c31:S.D.α) =>
  chk ((0:Int)≤a1)<|
  chk ((a1:Int) < ((↑(List.map S.D.enc a0).length:Int)))<|
  elemD S.D x24 (0+a1.toNat) fun (c32:S.D.α) =>
  callD rC (cw S.fc [AV.agg (S.D.enc c31),AV.agg (S.D.enc c32)] []) fun (r33:Int) =>
  brn (!decide (r33 < 0)) (zr9 S a0 a1 x24 x27 (w64 (x26 - 1)))
  (zjX S a0 a1 x24 x27 x26))
  (zjX S a0 a1 x24 x27 x26))=some y)→k_pa_5 S a0 a1 x24 x26 x27=some y
 t_pa_5v1:∀ (a0:List S.D.α) (a1:Int) (x24:List (List AV)) (x27:Int) (x34:Int) {y:AV×Mem},((brn (decide (x27≤x34)) (chk ((0:Int)≤x34)<|
  chk ((x34:Int) < ((↑(List.map S.D.enc a0).length:Int)))<|
  elemD S.D x24 (0+x34.toNat) fun (c36:S.D.α) =>
  chk ((0:Int)≤a1)<|
  chk ((a1:Int) < ((↑(List.map S.D.enc a0).length:Int)))<|
  elemD S.D x24 (0+a1.toNat) fun (c37:S.D.α) =>
  callD rC (cw S.fc [AV.agg (S.D.enc c36),AV.agg (S.D.enc c37)] []) fun (r38:Int) =>
  brn (!decide (r38 < 0)) (zr9 S a0 a1 x24 x27 (w64 (x34 - 1)))
  (zjX S a0 a1 x24 x27 x34))
  (zjX S a0 a1 x24 x27 x34))=some y)→zr9 S a0 a1 x24 x27 x34=some y
 t_pa_1017:∀ (a0:List S.D.α) (a1:Int) (x24:List (List AV)) (x27:Int) (x35:Int) {y:AV×Mem},((brn (decide (x35 < x27)) (chk ((0:Int)≤a1)<|
  chk ((a1:Int) < ((↑(List.map S.D.enc a0).length:Int)))<|
  elemD S.D x24 (0+a1.toNat) fun (c39:S.D.α) =>
  chk ((0:Int)≤x35)<|
  chk ((x35:Int) < ((↑(List.map S.D.enc a0).length:Int)))<|
  elemD S.D x24 (0+x35.toNat) fun (c40:S.D.α) =>
  chk ((0:Int)≤x35)<|
  chk ((x35:Int) < ((↑(List.map S.D.enc a0).length:Int)))<|
  elemD S.D x24 (0+x35.toNat) fun (c41:S.D.α) =>
  chk ((0:Int)≤a1)<|
  chk ((a1:Int) < ((↑(List.map S.D.enc a0).length:Int)))<|
  elemD S.D (List.set x24 (0+x35.toNat) (S.D.enc c39)) (0+a1.toNat) fun (c42:S.D.α) =>
  some (AV.tup [I x35,B false],[(1000,⟨S.z,S.ty,List.set (List.set x24 (0+x35.toNat) (S.D.enc c39)) (0+a1.toNat) (S.D.enc c40),false⟩)]))
  (chk ((0:Int)≤x35)<|
   chk ((x35:Int) < ((↑(List.map S.D.enc a0).length:Int)))<|
   elemD S.D x24 (0+x35.toNat) fun (c43:S.D.α) =>
   chk ((0:Int)≤x27)<|
   chk ((x27:Int) < ((↑(List.map S.D.enc a0).length:Int)))<|
   elemD S.D x24 (0+x27.toNat) fun (c44:S.D.α) =>
   chk ((0:Int)≤x27)<|
   chk ((x27:Int) < ((↑(List.map S.D.enc a0).length:Int)))<|
   elemD S.D x24 (0+x27.toNat) fun (c45:S.D.α) =>
   chk ((0:Int)≤x35)<|
   chk ((x35:Int) < ((↑(List.map S.D.enc a0).length:Int)))<|
   elemD S.D (List.set x24 (0+x27.toNat) (S.D.enc c43)) (0+x35.toNat) fun (c46:S.D.α) =>
   k_pa_3 S a0 a1 (List.set (List.set x24 (0+x27.toNat) (S.D.enc c43)) (0+x35.toNat) (S.D.enc c44)) (w64 (x27+1)) (w64 (x35 - 1))))=some y)→zjX S a0 a1 x24 x27 x35=some y
 e_pa:∀ (a0:List S.D.α) (a1:Int) (a2:Int) (a3:Int) {y:AV×Mem},((chk ((0:Int)≤a3)<|
  chk ((a3:Int) < ((↑(List.map S.D.enc a0).length:Int)))<|
  elemD S.D (List.map S.D.enc a0) (0+a3.toNat) fun (c0:S.D.α) =>
  chk ((0:Int)≤a1)<|
  chk ((a1:Int) < ((↑(List.map S.D.enc a0).length:Int)))<|
  elemD S.D (List.map S.D.enc a0) (0+a1.toNat) fun (c1:S.D.α) =>
  chk ((0:Int)≤a1)<|
  chk ((a1:Int) < ((↑(List.map S.D.enc a0).length:Int)))<|
  elemD S.D (List.map S.D.enc a0) (0+a1.toNat) fun (c2:S.D.α) =>
  chk ((0:Int)≤a3)<|
  chk ((a3:Int) < ((↑(List.map S.D.enc a0).length:Int)))<|
  elemD S.D (List.set (List.map S.D.enc a0) (0+a1.toNat) (S.D.enc c0)) (0+a3.toNat) fun (c3:S.D.α) =>
  k_pa_1 S a0 a1 a2 a3 c0 c1 c2 c3 (w64 (a1+1)))=some y)→cw S.pa.f [AV.row 1000 S.z 0 (List.length (List.map S.D.enc a0)),I a1,I a2,I a3,AV.fn S.fc []] [(1000,⟨S.z,S.ty,List.map S.D.enc a0,false⟩)]=some y
 t_sd_1:∀ (a0:List S.D.α) (a2:Int) (a3:Int) (x0:List (List AV)) (x1:Int) {y:AV×Mem},((brn (decide (a2≤w64 (w64 (2*x1)+1))) (some (AV.tup [],[(1000,⟨S.z,S.ty,x0,false⟩)]))
  (brn (decide (w64 (w64 (w64 (2*x1)+1)+1) < a2)) (chk ((0:Int)≤(w64 (a3+w64 (w64 (2*x1)+1))))<|
   chk ((w64 (a3+w64 (w64 (2*x1)+1)):Int) < ((↑(List.map S.D.enc a0).length:Int)))<|
   elemD S.D x0 (0+(w64 (a3+w64 (w64 (2*x1)+1))).toNat) fun (c2:S.D.α) =>
   chk ((0:Int)≤(w64 (w64 (a3+w64 (w64 (2*x1)+1))+1)))<|
   chk ((w64 (w64 (a3+w64 (w64 (2*x1)+1))+1):Int) < ((↑(List.map S.D.enc a0).length:Int)))<|
   elemD S.D x0 (0+(w64 (w64 (a3+w64 (w64 (2*x1)+1))+1)).toNat) fun (c3:S.D.α) =>
   callD rC (cw S.fc [AV.agg (S.D.enc c2),AV.agg (S.D.enc c3)] []) fun (r4:Int) =>
   brn (decide (r4 < 0)) (zyk S a0 a2 a3 x0 x1)
   (znl S a0 a2 a3 x0 x1))
   (znl S a0 a2 a3 x0 x1)))=some y)→k_sd_1 S a0 a2 a3 x0 x1=some y
 t_sd_1005:∀ (a0:List S.D.α) (a2:Int) (a3:Int) (x0:List (List AV)) (x1:Int) {y:AV×Mem},((chk ((0:Int)≤(w64 (a3+x1)))<|
  chk ((w64 (a3+x1):Int) < ((↑(List.map S.D.enc a0).length:Int)))<|
  elemD S.D x0 (0+(w64 (a3+x1)).toNat) fun (c5:S.D.α) =>
  chk ((0:Int)≤(w64 (a3+w64 (w64 (w64 (2*x1)+1)+1))))<|
  chk ((w64 (a3+w64 (w64 (w64 (2*x1)+1)+1)):Int) < ((↑(List.map S.D.enc a0).length:Int)))<|
  elemD S.D x0 (0+(w64 (a3+w64 (w64 (w64 (2*x1)+1)+1))).toNat) fun (c6:S.D.α) =>
  callD rC (cw S.fc [AV.agg (S.D.enc c5),AV.agg (S.D.enc c6)] []) fun (r7:Int) =>
  brn (!decide (r7 < 0)) (some (AV.tup [],[(1000,⟨S.z,S.ty,x0,false⟩)]))
  (chk ((0:Int)≤(w64 (a3+w64 (w64 (w64 (2*x1)+1)+1))))<|
   chk ((w64 (a3+w64 (w64 (w64 (2*x1)+1)+1)):Int) < ((↑(List.map S.D.enc a0).length:Int)))<|
   elemD S.D x0 (0+(w64 (a3+w64 (w64 (w64 (2*x1)+1)+1))).toNat) fun (c8:S.D.α) =>
   chk ((0:Int)≤(w64 (a3+x1)))<|
   chk ((w64 (a3+x1):Int) < ((↑(List.map S.D.enc a0).length:Int)))<|
   elemD S.D x0 (0+(w64 (a3+x1)).toNat) fun (c9:S.D.α) =>
   chk ((0:Int)≤(w64 (a3+x1)))<|
   chk ((w64 (a3+x1):Int) < ((↑(List.map S.D.enc a0).length:Int)))<|
   elemD S.D x0 (0+(w64 (a3+x1)).toNat) fun (c10:S.D.α) =>
   chk ((0:Int)≤(w64 (a3+w64 (w64 (w64 (2*x1)+1)+1))))<|
   chk ((w64 (a3+w64 (w64 (w64 (2*x1)+1)+1)):Int) < ((↑(List.map S.D.enc a0).length:Int)))<|
   elemD S.D (List.set x0 (0+(w64 (a3+x1)).toNat) (S.D.enc c8)) (0+(w64 (a3+w64 (w64 (w64 (2*x1)+1)+1))).toNat) fun (c11:S.D.α) =>
   k_sd_1 S a0 a2 a3 (List.set (List.set x0 (0+(w64 (a3+x1)).toNat) (S.D.enc c8)) (0+(w64 (a3+w64 (w64 (w64 (2*x1)+1)+1))).toNat) (S.D.enc c9)) (w64 (w64 (w64 (2*x1)+1)+1))))=some y)→zyk S a0 a2 a3 x0 x1=some y
 t_sd_1005v1:∀ (a0:List S.D.α) (a2:Int) (a3:Int) (x0:List (List AV)) (x1:Int) {y:AV×Mem},((chk ((0:Int)≤(w64 (a3+x1)))<|
  chk ((w64 (a3+x1):Int) < ((↑(List.map S.D.enc a0).length:Int)))<|
  elemD S.D x0 (0+(w64 (a3+x1)).toNat) fun (c12:S.D.α) =>
  chk ((0:Int)≤(w64 (a3+w64 (w64 (2*x1)+1))))<|
  chk ((w64 (a3+w64 (w64 (2*x1)+1)):Int) < ((↑(List.map S.D.enc a0).length:Int)))<|
  elemD S.D x0 (0+(w64 (a3+w64 (w64 (2*x1)+1))).toNat) fun (c13:S.D.α) =>
  callD rC (cw S.fc [AV.agg (S.D.enc c12),AV.agg (S.D.enc c13)] []) fun (r14:Int) =>
  brn (!decide (r14 < 0)) (some (AV.tup [],[(1000,⟨S.z,S.ty,x0,false⟩)]))
  (chk ((0:Int)≤(w64 (a3+w64 (w64 (2*x1)+1))))<|
   chk ((w64 (a3+w64 (w64 (2*x1)+1)):Int) < ((↑(List.map S.D.enc a0).length:Int)))<|
   elemD S.D x0 (0+(w64 (a3+w64 (w64 (2*x1)+1))).toNat) fun (c15:S.D.α) =>
   chk ((0:Int)≤(w64 (a3+x1)))<|
   chk ((w64 (a3+x1):Int) < ((↑(List.map S.D.enc a0).length:Int)))<|
   elemD S.D x0 (0+(w64 (a3+x1)).toNat) fun (c16:S.D.α) =>
   chk ((0:Int)≤(w64 (a3+x1)))<|
   chk ((w64 (a3+x1):Int) < ((↑(List.map S.D.enc a0).length:Int)))<|
   elemD S.D x0 (0+(w64 (a3+x1)).toNat) fun (c17:S.D.α) =>
   chk ((0:Int)≤(w64 (a3+w64 (w64 (2*x1)+1))))<|
   chk ((w64 (a3+w64 (w64 (2*x1)+1)):Int) < ((↑(List.map S.D.enc a0).length:Int)))<|
   elemD S.D (List.set x0 (0+(w64 (a3+x1)).toNat) (S.D.enc c15)) (0+(w64 (a3+w64 (w64 (2*x1)+1))).toNat) fun (c18:S.D.α) =>
   k_sd_1 S a0 a2 a3 (List.set (List.set x0 (0+(w64 (a3+x1)).toNat) (S.D.enc c15)) (0+(w64 (a3+w64 (w64 (2*x1)+1))).toNat) (S.D.enc c16)) (w64 (w64 (2*x1)+1))))=some y)→znl S a0 a2 a3 x0 x1=some y
 e_sd:∀ (a0:List S.D.α) (a1:Int) (a2:Int) (a3:Int) {y:AV×Mem},((k_sd_1 S a0 a2 a3 (List.map S.D.enc a0) a1)=some y)→cw S.sd.f [AV.row 1000 S.z 0 (List.length (List.map S.D.enc a0)),I a1,I a2,I a3,AV.fn S.fc []] [(1000,⟨S.z,S.ty,List.map S.D.enc a0,false⟩)]=some y
 e_ma:∀ (a0:List S.D.α) (a1:Int) (a2:Int) {y:AV×Mem},((callD (r_md S) (cw S.md.f [AV.sl S.z (List.map S.D.enc a0),I (w64 (a1 - 1)),I a1,I (w64 (a1+1)),AV.loc 1004 1 0 0,AV.fn S.fc []] [(1004,⟨1,za3,[zak a2],true⟩)]) fun (r0:Int×Int)=>some (I r0.fst,[(1002,⟨1,za3,[zak r0.snd],true⟩)]))=some y)→cw S.ma.f [AV.sl S.z (List.map S.D.enc a0),I a1,AV.loc 1002 1 0 0,AV.fn S.fc []] [(1002,⟨1,za3,[zak a2],true⟩)]=some y
 e_md:∀ (a0:List S.D.α) (a1:Int) (a2:Int) (a3:Int) (a4:Int) {y:AV×Mem},((callD (r_o2 S) (cw S.o2.f [AV.sl S.z (List.map S.D.enc a0),I a1,I a2,AV.loc 1003 1 0 0,AV.fn S.fc []] [(1003,⟨1,za3,[zak a4],true⟩)]) fun (r0:(Int×Int)×Int) =>
  callD (r_o2 S) (cw S.o2.f [AV.sl S.z (List.map S.D.enc a0),I r0.fst.snd,I a3,AV.loc 1003 1 0 0,AV.fn S.fc []] [(1003,⟨1,za3,[zak r0.snd],true⟩)]) fun (r1:(Int×Int)×Int) =>
  callD (r_o2 S) (cw S.o2.f [AV.sl S.z (List.map S.D.enc a0),I r0.fst.fst,I r1.fst.fst,AV.loc 1003 1 0 0,AV.fn S.fc []] [(1003,⟨1,za3,[zak r1.snd],true⟩)]) fun (r2:(Int×Int)×Int) =>
  some (I r2.fst.snd,[(1004,⟨1,za3,[zak r2.snd],true⟩)]))=some y)→cw S.md.f [AV.sl S.z (List.map S.D.enc a0),I a1,I a2,I a3,AV.loc 1004 1 0 0,AV.fn S.fc []] [(1004,⟨1,za3,[zak a4],true⟩)]=some y
 e_o2:∀ (a0:List S.D.α) (a1:Int) (a2:Int) (a3:Int) {y:AV×Mem},((chk ((0:Int)≤a2)<|
  elemD S.D (List.map S.D.enc a0) a2.toNat fun (c0:S.D.α) =>
  chk ((0:Int)≤a1)<|
  elemD S.D (List.map S.D.enc a0) a1.toNat fun (c1:S.D.α) =>
  callD rC (cw S.fc [AV.agg (S.D.enc c0),AV.agg (S.D.enc c1)] []) fun (r2:Int) =>
  brn (decide (r2 < 0)) (some (AV.tup [I a2,I a1],[(1003,⟨1,za3,[zak (w64 (a3+1))],true⟩)]))
  (some (AV.tup [I a1,I a2],[(1003,⟨1,za3,[zak a3],true⟩)])))=some y)→cw S.o2.f [AV.sl S.z (List.map S.D.enc a0),I a1,I a2,AV.loc 1003 1 0 0,AV.fn S.fc []] [(1003,⟨1,za3,[zak a3],true⟩)]=some y
theorem LW [h:Nonempty (Lw S)]:Lw S:=h.elim id
theorem ptQ {y:AV×Mem} (cut:List Nat) {R:Fr} {j:Nat} {st:St} {x:Option (AV×Mem)} (h:x=some y) (hx:tGo R zT cut 100000 (decide (j≠0)) (ptS R.fn j) st=x:=by kernel_rfl):pt R j st=some y:=pt_of zT cut hx h
theorem cwQ {y:AV×Mem} (R:Fr) (cut:List Nat) {args:List AV} {ms:Mem} {x:Option (AV×Mem)} (h:x=some y) (ho:R.C.orc R.f args ms=none:=by rfl) (hf:R.P.funcs[R.f]?=some R.fn:=by kernel_rfl) (he:enters R.P R.f=true:=by kernel_rfl)
  (hN:decide (R.fn.ntmps≤1000∧args.length≤R.fn.ntmps)=true:=by kernel_rfl) (hm:R.ms=Go.Ab.blank ms:=by kernel_rfl)
  (hx:tGo R zT cut 100000 false (ptK R.fn 0) { t:=argTab 0 args,m:=ms }=x:=by kernel_rfl):callw R.P R.C R.F R.f args ms=some y:=zwX R zT cut ho hf he hN hm hx h
abbrev Er (d:Array S.D.α):List (List AV):=List.map S.D.enc d.toList
theorem lenE (d:Array S.D.α):(Er d).length=d.size:=by simp
structure Cmp (lt:S.D.α→S.D.α→Bool) (P:S.D.α→Prop):Prop where
 ans:∀ x y,P x→P y→∃ v:Int,cw S.fc [.agg (S.D.enc x),.agg (S.D.enc y)] []=some (rC.enc v)∧decide (v < 0)=lt x y
def AllA (P:S.D.α→Prop) (d:Array S.D.α):Prop:=∀ i,i < d.size→P d[i]!
section
variable {lt:S.D.α→S.D.α→Bool} {P:S.D.α→Prop}
theorem Cmp.step {β:Type} (hc:Cmp lt P) {x y:S.D.α} (hx:P x) (hy:P y) (A B:Option β):(callD rC (cw S.fc [.agg (S.D.enc x),.agg (S.D.enc y)] []) fun (r:Int)=>brn (decide (r < 0)) A B)=brn (lt x y) A B:=by obtain ⟨v,h1,h2⟩:=hc.ans x y hx hy; rw [zbx h1,h2]
theorem Cmp.stepN {β:Type} (hc:Cmp lt P) {x y:S.D.α} (hx:P x) (hy:P y) (A B:Option β):(callD rC (cw S.fc [.agg (S.D.enc x),.agg (S.D.enc y)] []) fun (r:Int)=>brn (!decide (r < 0)) A B)=brn (lt x y) B A:=by obtain ⟨v,h1,h2⟩:=hc.ans x y hx hy; rw [zbx h1,h2,brn_not]
theorem rdA {β:Type} {d:Array S.D.α} {n i:Nat} (hn:n=d.size) (hi:i < d.size) (K:S.D.α→Option β):(chk ((0:Int)≤(i:Int))<|chk ((i:Int) < (n:Int))<|elemD S.D (Er d) (0+((i:Nat):Int).toNat) K)=K d[i]!:=by rw [cPQ,cPQ,za4,zb5,zyb (D:=S.D) (l:=d.toList) (x:=d[i]!) (by simp [hi])]
theorem setA (d:Array S.D.α) (i:Nat) (x:S.D.α):List.set (Er d) i (S.D.enc x)=Er (d.setIfInBounds i x):=by show List.set (List.map S.D.enc d.toList) i (S.D.enc x)=List.map S.D.enc (d.setIfInBounds i x).toList; rw [Array.toList_setIfInBounds,List.map_set]
theorem rdS {β:Type} {d:Array S.D.α} {n i j:Nat} {x:S.D.α} (hn:n=d.size) (hj:j < d.size) (K:S.D.α→Option β):(chk ((0:Int)≤(j:Int))<|chk ((j:Int) < (n:Int))<|elemD S.D (List.set (Er d) (0+((i:Nat):Int).toNat) (S.D.enc x)) (0+((j:Nat):Int).toNat) K)=K (d.setIfInBounds i x)[j]!:=by rw [za4,zb5 i,setA]; exact rdA (by rw [zoU]; exact hn) (by rw [zoU]; exact hj) K
theorem swpE (d:Array S.D.α) (i j:Nat):List.set (List.set (Er d) (0+((i:Nat):Int).toNat) (S.D.enc d[j]!)) (0+((j:Nat):Int).toNat) (S.D.enc d[i]!)=Er (swp d i j):=by rw [za4,za4,zb5,zb5,setA,setA]; rfl
theorem zbe (d:Array S.D.α) (i j:Nat):(swp d i j).size=d.size:=by unfold swp; rw [zoU,zoU]
theorem AllA.swp {d:Array S.D.α} (h:AllA P d) {i j:Nat} (hi:i < d.size) (hj:j < d.size):AllA P (swp d i j):=by intro k hk; rw [zbe] at hk; have hP:=swp_permIn d 0 d.size i j (by omega) hi (by omega) hj (zbR _); exact permIn_all d (Go.Sort.swp d i j) 0 d.size P (zbR _) hP (fun k _ hk=>h k hk) k (by omega) hk
theorem AllA.perm {d d':Array S.D.α} {a b:Nat} (h:AllA P d) (hab:a≤b) (hb:b≤d.size) (hP:PermIn a b d d'):AllA P d':=by intro k hk; rw [hP.1] at hk; have hP':=permIn_mono d d' a b 0 d.size (by omega) hb (zbR _) hP; exact permIn_all d d' 0 d.size P (zbR _) hP' (fun k _ hk=>h k hk) k (by omega) hk
theorem k_ins2 [Nonempty (Lw S)] (hc:Cmp lt P) (a0:List S.D.α) (a b i:Nat):∀ (j:Nat) (d:Array S.D.α) (y:AV×Mem),a0.length=d.size→AllA P d→j < d.size→d.size≤1000000→i≤1000000→zrd S a0 (a:Int) (b:Int) (Er (insInner lt a j d)) ((i+1:Nat):Int)=some y→k_is_2 S a0 (a:Int) (b:Int) (i:Int) (Er d) (j:Int)=some y:=by
 have ei:∀ i:Nat,i≤1000000→w64 ((i:Int)+1)=((i+1:Nat):Int):=fun i hi=>by rw [w6Q]; omega
 intro j
 induction j with
 | zero=>intro d y hn hP hj hs hi h; refine LW.t_is_2 _ _ _ _ _ _ ?_; rw [zaV,iNQ,ei i hi]; exact h
 | succ j ih =>
   intro d y hn hP hj hs hi h; refine LW.t_is_2 _ _ _ _ _ _ ?_; unfold insInner at h; have e1:w64 (((j+1:Nat):Int) - 1)=(j:Int):=by rw [w6Q]; omega
   rw [zaV,e1,ei i hi,zap]; by_cases ha:a < j+1
   · rw [iPQ,rdA hn hj,rdA hn (by omega),hc.step (hP _ hj) (hP _ (by omega))]
     cases hlt:lt d[j+1]! d[j]! with
     | false=>rw [hlt,zoZ,iNs] at h; rw [zaw]; exact h
     | true=>rw [hlt,zoY,if_pos (by simpa using ha)] at h; rw [zaI,rdA hn (by omega),rdA hn hj,rdA hn hj,rdS hn (by omega),swpE]; exact ih _ y (by rw [zbe]; exact hn) (hP.swp hj (by omega)) (by rw [zbe]; omega) (by rw [zbe]; exact hs) hi h
   · rw [iNQ]; rw [if_neg (by simp; omega)] at h; exact h
theorem zlg (a:Nat):∀ (j:Nat) (d:Array S.D.α),(insInner lt a j d).size=d.size
 | 0,d=>rfl
 | j+1,d=>by
   unfold insInner; split
   · rw [zlg a j,zbe]
   · rfl
theorem ztP (a:Nat):∀ (j:Nat) (d:Array S.D.α),j < d.size→AllA P d→AllA P (insInner lt a j d)
 | 0,d,_,h=>h
 | j+1,d,hj,h=>by
   unfold insInner; split
   · exact ztP a j _ (by rw [zbe]; omega) (h.swp hj (by omega))
   · exact h
theorem k_ins1 [Nonempty (Lw S)] (hc:Cmp lt P) (a0:List S.D.α) (a b:Nat):∀ (k i:Nat) (d:Array S.D.α),b≤i+k→a0.length=d.size→AllA P d→b≤d.size→d.size≤1000000→i≤1000000→zrd S a0 (a:Int) (b:Int) (Er d) (i:Int)=some ((r_is S).enc (insOuter lt a b i d).toList):=by
 intro k
 induction k with
 | zero=>intro i d hk hn hP hb hs hi; refine LW.t_is_1 _ _ _ _ _ ?_; unfold insOuter; rw [zaV,iNQ,iNQ]; rfl
 | succ k ih =>
   intro i d hk hn hP hb hs hi; refine LW.t_is_1 _ _ _ _ _ ?_; unfold insOuter; rw [zaV]; by_cases hib:i < b
   · rw [iPQ,if_pos hib]; refine k_ins2 hc a0 a b i i d _ hn hP (by omega) hs hi ?_; exact ih (i+1) _ (by omega) (by rw [zlg]; exact hn) (ztP a i d (by omega) hP) (by rw [zlg]; exact hb) (by rw [zlg]; exact hs) (by omega)
   · rw [iNQ,if_neg hib]; rfl
abbrev mA (d:Array S.D.α):Mem:=[(1000,⟨S.z,S.ty,Er d,false⟩)]
abbrev rA (d:Array S.D.α):AV:=.row 1000 S.z 0 (List.length (Er d))
theorem zAh [Nonempty (Lw S)] (hc:Cmp lt P) (d:Array S.D.α) (a b:Nat) (hP:AllA P d) (hab:a≤b) (hb:b≤d.size) (hs:d.size≤100000):cw S.is.f [rA d,I (a:Int),I (b:Int),.fn S.fc []] (mA d)=some ((r_is S).enc (insertionSort lt d a b).toList):=by
 refine LW.e_is d.toList _ _ ?_; have e:w64 ((a:Int)+1)=((a+1:Nat):Int):=by rw [w6Q]; omega
 rw [e]; exact k_ins1 hc d.toList a b b (a+1) d (by omega) (by simp) hP hb (by omega) (by omega)
theorem zt2 (hi first:Nat):∀ (k root:Nat) (d:Array S.D.α),hi≤root+k→first+hi≤d.size→AllA P d→AllA P (siftDown lt hi first root d)∧(siftDown lt hi first root d).size=d.size:=by
 intro k
 induction k with
 | zero=>intro root d hk hs h; unfold siftDown; rw [dif_pos (by omega)]; exact ⟨h,rfl⟩
 | succ k ih =>
   intro root d hk hs h; unfold siftDown; split
   · exact ⟨h,rfl⟩
   · rename_i h1; split
     · split
       · exact ⟨h,rfl⟩
       · split
         · rename_i h2; have:=ih (2*root+2) (swp d (first+root) (first+(2*root+2))) (by omega) (by rw [zbe]; exact hs) (h.swp (by omega) (by omega)); rw [zbe] at this; exact this
         · exact ⟨h,rfl⟩
     · split
       · exact ⟨h,rfl⟩
       · have:=ih (2*root+1) (swp d (first+root) (first+(2*root+1))) (by omega) (by rw [zbe]; exact hs) (h.swp (by omega) (by omega)); rw [zbe] at this; exact this
theorem k_sift [Nonempty (Lw S)] (hc:Cmp lt P) (a0:List S.D.α) (hi first:Nat):∀ (k root:Nat) (d:Array S.D.α),hi≤root+k→first+hi≤d.size→a0.length=d.size→AllA P d→d.size≤100000→root≤100000→k_sd_1 S a0 (hi:Int) (first:Int) (Er d) (root:Int)=some ((r_sd S).enc (siftDown lt hi first root d).toList):=by
 intro k
 induction k with
 | zero=>intro root d hk hs hn hP hsz hr; refine LW.t_sd_1 _ _ _ _ _ ?_; unfold siftDown; rw [w6Q (n:=2*(root:Int)),w6Q (n:=2*(root:Int)+1),zaV,iPQ,dif_pos (by omega)]; rfl
 | succ k ih =>
   intro root d hk hs hn hP hsz hr; refine LW.t_sd_1 _ _ _ _ _ ?_; unfold siftDown; have e1:w64 (w64 (2*(root:Int))+1)=((2*root+1:Nat):Int):=by rw [w6Q (n:=2*(root:Int)),w6Q]; omega
   have e2:w64 (((2*root+1:Nat):Int)+1)=((2*root+2:Nat):Int):=by rw [w6Q]; omega
   have e3:w64 ((first:Int)+((2*root+1:Nat):Int))=((first+(2*root+1):Nat):Int):=by rw [w6Q]; omega
   have e4:w64 (((first+(2*root+1):Nat):Int)+1)=((first+(2*root+1)+1:Nat):Int):=by rw [w6Q]; omega
   have e5:w64 ((first:Int)+(root:Int))=((first+root:Nat):Int):=by rw [w6Q]; omega
   have e6:w64 ((first:Int)+((2*root+2:Nat):Int))=((first+(2*root+2):Nat):Int):=by rw [w6Q]; omega
   rw [e1,e2,e3,e4,zaV,zap]; by_cases h1:2*root+1 ≥ hi
   · rw [iPQ,dif_pos h1]; rfl
   · rw [iNQ,dif_neg h1,zaV]
     have low:znl S a0 (hi:Int) (first:Int) (Er d) (root:Int)=some ((r_sd S).enc (if (!lt d[first+root]! d[first+(2*root+1)]!)=true then d else siftDown lt hi first (2*root+1) (swp d (first+root) (first+(2*root+1)))).toList):=by
      refine LW.t_sd_1005v1 _ _ _ _ _ ?_; rw [e1,e3,e5,zap,rdA hn (by omega),rdA hn (by omega),hc.stepN (hP _ (by omega)) (hP _ (by omega))]
      cases hl:lt d[first+root]! d[first+(2*root+1)]! with
      | false=>rw [zaw,if_pos (by simp)]; rfl
      | true=>rw [zaI,iNs,rdA hn (by omega),rdA hn (by omega),rdA hn (by omega),rdS hn (by omega),swpE]; exact ih (2*root+1) _ (by omega) (by rw [zbe]; exact hs) (by rw [zbe]; exact hn) (hP.swp (by omega) (by omega)) (by rw [zbe]; exact hsz) (by omega)
     by_cases h2:2*root+1+1 < hi
     · rw [iPQ,rdA hn (by omega),rdA hn (by omega),hc.step (hP _ (by omega)) (hP _ (by omega))]
       cases hl:lt d[first+(2*root+1)]! d[first+(2*root+1)+1]! with
       | false=>rw [zaw,iNs]; exact low
       | true =>
         rw [zaI,if_pos (by simpa using h2)]; refine LW.t_sd_1005 _ _ _ _ _ ?_; rw [e1,e2,e5,e6,zap,rdA hn (by omega),rdA hn (by omega),hc.stepN (hP _ (by omega)) (hP _ (by omega))]
         cases hl2:lt d[first+root]! d[first+(2*root+2)]! with
         | false=>rw [zaw,if_pos (by simp)]; rfl
         | true=>rw [zaI,iNs,dif_pos (by omega),rdA hn (by omega),rdA hn (by omega),rdA hn (by omega),rdS hn (by omega),swpE]; exact ih (2*root+2) _ (by omega) (by rw [zbe]; exact hs) (by rw [zbe]; exact hn) (hP.swp (by omega) (by omega)) (by rw [zbe]; exact hsz) (by omega)
     · rw [iNQ,if_neg (by simp; omega)]; exact low
theorem c_sift [Nonempty (Lw S)] (hc:Cmp lt P) (d:Array S.D.α) (root hi first:Nat) (hs:first+hi≤d.size) (hP:AllA P d) (hsz:d.size≤100000) (hr:root≤100000):cw S.sd.f [rA d,I (root:Int),I (hi:Int),I (first:Int),.fn S.fc []] (mA d)=some ((r_sd S).enc (siftDown lt hi first root d).toList):=
 LW.e_sd d.toList _ _ _ (k_sift hc d.toList hi first hi root d (by omega) hs (by simp) hP hsz hr)
theorem row_eq {a0:List S.D.α} {d:Array S.D.α} (h:a0.length=d.size):AV.row 1000 S.z 0 ((List.map S.D.enc a0).length)=rA d:=by show AV.row 1000 S.z 0 _=AV.row 1000 S.z 0 _; rw [zap,lenE,h]
theorem k_heap2 [Nonempty (Lw S)] (hc:Cmp lt P) (a0:List S.D.α) (first:Nat):∀ (k:Nat) (d:Array S.D.α),first+k≤d.size→a0.length=d.size→AllA P d→d.size≤100000→k_hs_2 S a0 (first:Int) (Er d) ((k:Int) - 1)=some ((r_hs S).enc (heapPop lt first k d).toList):=by
 intro k
 induction k with
 | zero=>intro d hs hn hP hsz; refine LW.t_hs_2 _ _ _ _ ?_; rw [zaV,iNQ]; rfl
 | succ k ih =>
   intro d hs hn hP hsz; refine LW.t_hs_2 _ _ _ _ ?_; have e0:((k+1:Nat):Int) - 1=(k:Int):=by omega
   have e1:w64 ((first:Int)+(k:Int))=((first+k:Nat):Int):=by rw [w6Q]; omega
   have e2:w64 ((k:Int) - 1)=(k:Int) - 1:=w64_id (by omega) (by omega); have hP':=hP.swp (i:=first) (j:=first+k) (by omega) (by omega); have hsi:=zt2 (lt:=lt) k first k 0 (swp d first (first+k)) (by omega) (by rw [zbe]; omega) hP'
   rw [e0,zaV,iPQ,e1,e2,zap,rdA hn (by omega),rdA hn (by omega),rdA hn (by omega),rdS hn (by omega),swpE]
   have hrow:AV.row 1000 S.z 0 a0.length=rA (swp d first (first+k)):=by
    have:=row_eq (a0:=a0) (d:=swp d first (first+k)) (by rw [zbe]; exact hn)
    rwa [zap] at this
   have hcs:cw S.sd.f [rA (swp d first (first+k)),I 0,I (k:Int),I (first:Int),.fn S.fc []] (mA (swp d first (first+k)))=some ((r_sd S).enc (siftDown lt k first 0 (swp d first (first+k))).toList):=
    c_sift hc _ 0 k first (by rw [zbe]; omega) hP' (by rw [zbe]; exact hsz) (by omega)
   rw [hrow,zbx hcs]; have h3:(siftDown lt k first 0 (swp d first (first+k))).size=d.size:=by rw [hsi.2,zbe]
   exact ih _ (by rw [h3]; omega) (by rw [h3]; exact hn) hsi.1 (by rw [h3]; exact hsz)
theorem k_heap1 [Nonempty (Lw S)] (hc:Cmp lt P) (a0:List S.D.α) (a b:Nat) (hab:a≤b):∀ (k:Nat) (d:Array S.D.α),k≤100000→b≤d.size→a0.length=d.size→AllA P d→d.size≤100000→k_hs_1 S a0 (a:Int) (b:Int) (Er d) ((k:Int) - 1)=some ((r_hs S).enc (heapPop lt a (b - a) (heapBuild lt (b - a) a k d)).toList):=by
 intro k
 induction k with
 | zero =>
   intro d hk hb hn hP hsz; refine LW.t_hs_1 _ _ _ _ _ ?_; have e:w64 (w64 ((b:Int) - (a:Int)) - 1)=((b - a:Nat):Int) - 1:=by rw [w6Q (n:=(b:Int) - a),w6Q]; omega
   rw [zaV,iNQ,e]; exact k_heap2 hc a0 a (b - a) d (by omega) hn hP hsz
 | succ k ih =>
   intro d hk hb hn hP hsz; refine LW.t_hs_1 _ _ _ _ _ ?_; have e0:((k+1:Nat):Int) - 1=(k:Int):=by omega
   have e1:w64 ((b:Int) - (a:Int))=((b - a:Nat):Int):=by rw [w6Q]; omega
   have e2:w64 ((k:Int) - 1)=(k:Int) - 1:=w64_id (by omega) (by omega); have hsi:=zt2 (lt:=lt) (b - a) a (b - a) k d (by omega) (by omega) hP; rw [e0,zaV,iPQ,e1,e2,row_eq hn,zbx (c_sift hc d k (b - a) a (by omega) hP hsz (by omega))]; exact ih _ (by omega) (by rw [hsi.2]; exact hb) (by rw [hsi.2]; exact hn) hsi.1 (by rw [hsi.2]; exact hsz)
theorem c_heap [Nonempty (Lw S)] (hc:Cmp lt P) (d:Array S.D.α) (a b:Nat) (hP:AllA P d) (hab:a < b) (hb:b≤d.size) (hs:d.size≤100000):cw S.hs.f [rA d,I (a:Int),I (b:Int),.fn S.fc []] (mA d)=some ((r_hs S).enc (heapSort lt d a b).toList):=by
 refine LW.e_hs d.toList _ _ ?_; have e0:w64 (w64 ((b:Int) - (a:Int)) - 1)=((b - a - 1:Nat):Int):=by rw [w6Q (n:=(b:Int) - a),w6Q]; omega
 have e1:(((b - a - 1:Nat):Int)).tdiv 2=(((b - a - 1) / 2:Nat):Int):=rfl; have e2:w64 (((b - a - 1) / 2:Nat):Int)=(((b - a - 1) / 2+1:Nat):Int) - 1:=by rw [w6Q]; omega
 rw [cPQ,e0,e1,e2]; exact k_heap1 hc d.toList a b (by omega) ((b - a - 1) / 2+1) d (by omega) hb (by simp) hP hs
theorem k_reverse [Nonempty (Lw S)] (a0:List S.D.α):∀ (k i j:Nat) (d:Array S.D.α),j≤i+k→j < d.size∨j≤i→a0.length=d.size→d.size≤100000→i≤100000→k_rr_1 S a0 (Er d) (i:Int) (j:Int)=some ((r_rr S).enc (reverseLoop i j d).toList):=by
 intro k
 induction k with
 | zero=>intro i j d hk hj hn hs hi; refine LW.t_rr_1 _ _ _ _ ?_; unfold reverseLoop; rw [zaV,iNQ,iNQ]; rfl
 | succ k ih =>
   intro i j d hk hj hn hs hi; refine LW.t_rr_1 _ _ _ _ ?_; unfold reverseLoop; rw [zaV]; by_cases hij:i < j
   · have e1:w64 ((i:Int)+1)=((i+1:Nat):Int):=by rw [w6Q]; omega
     have e2:w64 ((j:Int) - 1)=((j - 1:Nat):Int):=by rw [w6Q]; omega
     rw [iPQ,if_pos hij,zap,rdA hn (by omega),rdA hn (by omega),rdA hn (by omega),rdS hn (by omega),swpE,e1,e2]; exact ih (i+1) (j - 1) _ (by omega) (by rw [zbe]; omega) (by rw [zbe]; exact hn) (by rw [zbe]; exact hs) (by omega)
   · rw [iNQ,if_neg hij]; rfl
theorem zx7 [Nonempty (Lw S)] (d:Array S.D.α) (a b:Nat) (hab:a < b) (hb:b≤d.size) (hs:d.size≤100000):cw S.rr.f [rA d,I (a:Int),I (b:Int),.fn S.fc []] (mA d)=some ((r_rr S).enc (reverseRange d a b).toList):=by
 refine LW.e_rr d.toList _ _ ?_; have e:w64 ((b:Int) - 1)=((b - 1:Nat):Int):=by rw [w6Q]; omega
 rw [e]; exact k_reverse d.toList b a (b - 1) d (by omega) (by omega) (by simp) hs (by omega)
end
variable {S:Sg}
section
variable {lt:S.D.α→S.D.α→Bool} {P:S.D.α→Prop}
theorem up1 {i:Nat} (h:i≤1000000):w64 ((i:Int)+1)=((i+1:Nat):Int):=by rw [w6Q]; omega
theorem dn1 {i:Nat} (h0:1≤i) (h:i≤1000000):w64 ((i:Int) - 1)=((i - 1:Nat):Int):=by rw [w6Q]; omega
theorem zdn (p:S.D.α→Bool) (d:Array S.D.α) (j i:Nat):scanUp p d j i=if (decide (i≤j) && p d[i]!)=true then scanUp p d j (i+1) else i:=by conv=>lhs; unfold scanUp
theorem zeW (p:S.D.α→Bool) (d:Array S.D.α) (i:Nat) {j:Nat} (hj:1≤j):scanDown p d i j=if (decide (i≤j) && p d[j]!)=true then scanDown p d i (j - 1) else j:=by
 obtain ⟨k,rfl⟩:∃ k,j=k+1:=⟨j - 1,by omega⟩
 rfl
theorem zpZ (p:S.D.α→Bool) (d:Array S.D.α) (j:Nat):∀ (k i:Nat),j≤i+k→i≤j+1→scanUp p d j i≤j+1
 | 0,i,hk,hi=>by
   rw [zdn]; split
   · rw [zdn]; rename_i h; simp only [zbK,decide_eq_true_eq] at h; rw [if_neg (by simp; omega)]; omega
   · exact hi
 | k+1,i,hk,hi=>by
   rw [zdn]; split
   · rename_i h; simp only [zbK,decide_eq_true_eq] at h; exact zpZ p d j k (i+1) (by omega) (by omega)
   · exact hi
theorem zno (p:S.D.α→Bool) (d:Array S.D.α) (i:Nat) (hi:1≤i):∀ (j:Nat),i≤j+1→i≤scanDown p d i j+1
 | 0,h=>by simpa [scanDown] using h
 | j+1,h=>by
   unfold scanDown; split
   · rename_i h1; simp only [zbK,decide_eq_true_eq] at h1; exact zno p d i hi j (by omega)
   · omega
theorem znp (p:S.D.α→Bool) (d:Array S.D.α) (j:Nat):∀ (k i:Nat),j+1≤i+k→scanUp p d j i≤j→p d[scanUp p d j i]! = false
 | 0,i,hk,h=>by rw [zdn,if_neg (by simp; omega)] at h; omega
 | k+1,i,hk,h=>by
   rw [zdn] at h ⊢; split
   · rename_i h1; rw [if_pos h1] at h; exact znp p d j k (i+1) (by omega) h
   · rename_i h1; rw [if_neg h1] at h; simp only [zbK,decide_eq_true_eq,not_and,Bool.not_eq_true] at h1; exact h1 h
theorem zlh (q:S.D.α→Bool) (d:Array S.D.α) (i:Nat) (hi:1≤i):∀ (j:Nat),i≤scanDown q d i j→q d[scanDown q d i j]! = false
 | 0,h=>by simp [scanDown] at h; omega
 | j+1,h=>by
   unfold scanDown at h ⊢; split
   · rename_i h1; rw [if_pos h1] at h; exact zlh q d i hi j h
   · rename_i h1; rw [if_neg h1] at h; simp only [zbK,decide_eq_true_eq,not_and,Bool.not_eq_true] at h1; exact h1 h
abbrev rPart (m:Nat) (b:Bool) (d:Array S.D.α):Option (AV×Mem):=some ((r_pa S).enc ((( m:Int),b),d.toList))
theorem k_part4 [Nonempty (Lw S)] (hc:Cmp lt P) (a0:List S.D.α) (a:Nat) (d:Array S.D.α) (hn:a0.length=d.size) (hP:AllA P d) (hs:d.size≤100000) (ha:a < d.size) (j:Nat) (hj:j < d.size) (y:AV×Mem):∀ (k i:Nat),j+1≤i+k→i≤100001→k_pa_5 S a0 (a:Int) (Er d) (j:Int) ((scanUp (fun x=>lt x d[a]!) d j i:Nat):Int)=some y→k_pa_4 S a0 (a:Int) (Er d) (j:Int) (i:Int)=some y:=by
 intro k
 induction k with
 | zero=>intro i hk hi h; refine LW.t_pa_4 _ _ _ _ _ ?_; rw [zdn,if_neg (by simp; omega)] at h; rw [zaV,iNQ]; exact h
 | succ k ih =>
   intro i hk hi h; refine LW.t_pa_4 _ _ _ _ _ ?_; rw [zdn] at h; rw [zaV,up1 (by omega),zap]; by_cases hij:i≤j
   · rw [iPQ,rdA hn (by omega),rdA hn ha,hc.step (hP _ (by omega)) (hP _ ha)]
     cases hl:lt d[i]! d[a]! with
     | true=>rw [hl,if_pos (by simpa using hij)] at h; rw [zaI]; exact ih (i+1) (by omega) (by omega) h
     | false=>rw [hl,iNs] at h; rw [zaw]; exact h
   · rw [if_neg (by simp; omega)] at h; rw [iNQ]; exact h
theorem k_part5 [Nonempty (Lw S)] (hc:Cmp lt P) (a0:List S.D.α) (a:Nat) (d:Array S.D.α) (hn:a0.length=d.size) (hP:AllA P d) (hs:d.size≤100000) (ha:a < d.size) (i:Nat) (hi:1≤i) (hi2:i≤100001) (y:AV×Mem):∀ (j:Nat),j < d.size→i≤j+1→zjX S a0 (a:Int) (Er d) (i:Int) ((scanDown (fun x=>!lt x d[a]!) d i j:Nat):Int)=some y→zr9 S a0 (a:Int) (Er d) (i:Int) (j:Int)=some y:=by
 intro j
 induction j with
 | zero=>intro hj hij h; refine LW.t_pa_5v1 _ _ _ _ _ ?_; rw [zaV,iNQ]; exact h
 | succ j ih =>
   intro hj hij h; refine LW.t_pa_5v1 _ _ _ _ _ ?_; rw [zeW _ _ _ (by omega)] at h; rw [zaV,dn1 (by omega) (by omega),zap]; by_cases hle:i≤j+1
   · rw [iPQ,rdA hn (by omega),rdA hn ha,hc.stepN (hP _ (by omega)) (hP _ ha)]
     cases hl:lt d[j+1]! d[a]! with
     | false =>
       rw [hl,if_pos (by simpa using hle)] at h; rw [zaw]; by_cases h0:i≤j+1 - 1+1
       · exact ih (by omega) h0 h
       · omega
     | true=>rw [hl,iNs] at h; rw [zaI]; exact h
   · rw [if_neg (by simp; omega)] at h; rw [iNQ]; exact h
theorem k_part5' [Nonempty (Lw S)] (hc:Cmp lt P) (a0:List S.D.α) (a:Nat) (d:Array S.D.α) (hn:a0.length=d.size) (hP:AllA P d) (hs:d.size≤100000) (ha:a < d.size) (i:Nat) (hi:1≤i) (hi2:i≤100001) (y:AV×Mem)
  (j:Nat) (hj:j < d.size) (hij:i≤j+1) (h:zjX S a0 (a:Int) (Er d) (i:Int) ((scanDown (fun x=>!lt x d[a]!) d i j:Nat):Int)=some y):k_pa_5 S a0 (a:Int) (Er d) (j:Int) (i:Int)=some y:=by
 refine LW.t_pa_5 _ _ _ _ _ ?_; by_cases h0:j=0
 · subst h0; rw [zaV,iNQ]; exact h
 · rw [zeW _ _ _ (by omega)] at h; rw [zaV,dn1 (by omega) (by omega),zap]; by_cases hle:i≤j
   · rw [iPQ,rdA hn (by omega),rdA hn ha,hc.stepN (hP _ (by omega)) (hP _ ha)]
     cases hl:lt d[j]! d[a]! with
     | false=>rw [hl,if_pos (by simpa using hle)] at h; rw [zaw]; exact k_part5 hc a0 a d hn hP hs ha i hi hi2 y (j - 1) (by omega) (by omega) h
     | true=>rw [hl,iNs] at h; rw [zaI]; exact h
   · rw [if_neg (by simp; omega)] at h; rw [iNQ]; exact h
theorem k_partLoop [Nonempty (Lw S)] (hc:Cmp lt P) (a0:List S.D.α) (a:Nat):∀ (n i j:Nat) (d:Array S.D.α),j+1 - i≤n→a < i→i≤j+1→j < d.size→a0.length=d.size→AllA P d→d.size≤100000→k_pa_3 S a0 (a:Int) (Er d) (i:Int) (j:Int)=rPart (partLoop lt a i j d).1 false (swp (partLoop lt a i j d).2 (partLoop lt a i j d).1 a):=by
 intro n
 induction n with
 | zero =>
   intro i j d hn hai hij hj hl hP hs; refine LW.t_pa_3 _ _ _ _ _ ?_; refine k_part4 hc a0 a d hl hP hs (by omega) j hj _ (j+1) i (by omega) (by omega) ?_; have hu:scanUp (fun x=>lt x d[a]!) d j i=i:=by rw [zdn,if_neg (by simp; omega)]
   rw [hu]; refine k_part5' hc a0 a d hl hP hs (by omega) i (by omega) (by omega) _ j hj hij ?_
   have hd:scanDown (fun x=>!lt x d[a]!) d i j=j:=by
    by_cases h0:j=0
    · subst h0; rfl
    · rw [zeW _ _ _ (by omega),if_neg (by simp; omega)]
   rw [hd]; refine LW.t_pa_1017 _ _ _ _ _ ?_; rw [partLoop_eq]; simp only [hu,hd]; rw [if_pos (show i > j by omega),zaV,iPQ,zap,rdA hl (by omega),rdA hl (by omega),rdA hl (by omega),rdS hl (by omega),swpE]; rfl
 | succ n ih =>
   intro i j d hn hai hij hj hl hP hs; refine LW.t_pa_3 _ _ _ _ _ ?_; refine k_part4 hc a0 a d hl hP hs (by omega) j hj _ (j+1) i (by omega) (by omega) ?_; have u1:=scanUp_ge (fun x=>lt x d[a]!) d j i; have u2:=zpZ (fun x=>lt x d[a]!) d j (j+1) i (by omega) hij; refine k_part5' hc a0 a d hl hP hs (by omega) _ (by omega) (by omega) _ j hj (by omega) ?_; have d1:=scanDown_le (fun x=>!lt x d[a]!) d (scanUp (fun x=>lt x d[a]!) d j i) j; have d2:=zno (fun x=>!lt x d[a]!) d (scanUp (fun x=>lt x d[a]!) d j i) (by omega) j (by omega); have u3:=znp (fun x=>lt x d[a]!) d j (j+1) i (by omega); have d3:=zlh (fun x=>!lt x d[a]!) d (scanUp (fun x=>lt x d[a]!) d j i) (by omega) j; refine LW.t_pa_1017 _ _ _ _ _ ?_; rw [partLoop_eq]; generalize scanUp (fun x=>lt x d[a]!) d j i=i2 at *; generalize scanDown (fun x=>!lt x d[a]!) d i2 j=j2 at *; rw [zaV]; by_cases hgt:i2 > j2
   · rw [iPQ]; simp only [hgt,if_true]; rw [zap,rdA hl (by omega),rdA hl (by omega),rdA hl (by omega),rdS hl (by omega),swpE]; rfl
   · rw [iNQ]; simp only [hgt,if_false]; rw [zap,rdA hl (by omega),rdA hl (by omega),rdA hl (by omega),rdS hl (by omega),swpE,up1 (by omega),dn1 (by omega) (by omega)]; by_cases heq:i2=j2
     · exfalso; have w1:=u3 (by omega); have w2:=d3 (by omega); rw [heq] at w1; rw [w1] at w2; cases w2
     · exact ih (i2+1) (j2 - 1) _ (by omega) (by omega) (by omega) (by rw [zbe]; omega) (by rw [zbe]; exact hl) (hP.swp (by omega) (by omega)) (by rw [zbe]; exact hs)
theorem k_part1 [Nonempty (Lw S)] (hc:Cmp lt P) (d0 d:Array S.D.α) (a b pivot:Nat) (c0 c1 c2 c3:S.D.α) (hrow:List.set (List.set (Er d0) (0+((a:Nat):Int).toNat) (S.D.enc c0)) (0+((pivot:Nat):Int).toNat) (S.D.enc c1)=Er d)
  (hn:d0.toList.length=d.size) (hP:AllA P d) (hs:d.size≤100000) (hab:a < b) (hb:b≤d.size) (y:AV×Mem):∀ (k i:Nat),b≤i+k→a < i→i≤100001→zre S d0.toList (a:Int) (b:Int) (pivot:Int) c0 c1 c2 c3 ((scanUp (fun x=>lt x d[a]!) d (b - 1) i:Nat):Int)=some y→k_pa_1 S d0.toList (a:Int) (b:Int) (pivot:Int) c0 c1 c2 c3 (i:Int)=some y:=by
 have eb:w64 ((b:Int) - 1)=((b - 1:Nat):Int):=dn1 (by omega) (by omega); intro k
 induction k with
 | zero=>intro i hk hai hi h; refine LW.t_pa_1 _ _ _ _ _ _ _ _ _ ?_; rw [zdn,if_neg (by simp; omega)] at h; rw [zaV,eb,iNQ]; exact h
 | succ k ih =>
   intro i hk hai hi h; refine LW.t_pa_1 _ _ _ _ _ _ _ _ _ ?_; rw [zdn] at h; rw [zaV,eb,up1 (by omega),zap,hrow]; by_cases hij:i≤b - 1
   · rw [iPQ,rdA hn (by omega),rdA hn (by omega),hc.step (hP _ (by omega)) (hP _ (by omega))]
     cases hl:lt d[i]! d[a]! with
     | true=>rw [hl,if_pos (by simpa using hij)] at h; rw [zaI]; exact ih (i+1) (by omega) (by omega) (by omega) h
     | false=>rw [hl,iNs] at h; rw [zaw]; exact h
   · rw [if_neg (by simp; omega)] at h; rw [iNQ]; exact h
theorem k_part2 [Nonempty (Lw S)] (hc:Cmp lt P) (d0 d:Array S.D.α) (a b pivot:Nat) (c0 c1 c2 c3:S.D.α) (hrow:List.set (List.set (Er d0) (0+((a:Nat):Int).toNat) (S.D.enc c0)) (0+((pivot:Nat):Int).toNat) (S.D.enc c1)=Er d)
  (hn:d0.toList.length=d.size) (hP:AllA P d) (hs:d.size≤100000) (ha:a < d.size) (i:Nat) (hi:1≤i) (hi2:i≤100001) (y:AV×Mem):∀ (j:Nat),j < d.size→i≤j+1→zjW S d0.toList (a:Int) (b:Int) (pivot:Int) c0 c1 c2 c3 (i:Int) ((scanDown (fun x=>!lt x d[a]!) d i j:Nat):Int)=some y→zr8 S d0.toList (a:Int) (b:Int) (pivot:Int) c0 c1 c2 c3 (i:Int) (j:Int)=some y:=by
 intro j
 induction j with
 | zero=>intro hj hij h; refine LW.t_pa_2v1 _ _ _ _ _ _ _ _ _ _ ?_; rw [zaV,iNQ]; exact h
 | succ j ih =>
   intro hj hij h; refine LW.t_pa_2v1 _ _ _ _ _ _ _ _ _ _ ?_; rw [zeW _ _ _ (by omega)] at h; rw [zaV,dn1 (by omega) (by omega),zap,hrow]; by_cases hle:i≤j+1
   · rw [iPQ,rdA hn (by omega),rdA hn ha,hc.stepN (hP _ (by omega)) (hP _ ha)]
     cases hl:lt d[j+1]! d[a]! with
     | false=>rw [hl,if_pos (by simpa using hle)] at h; rw [zaw]; exact ih (by omega) (by omega) h
     | true=>rw [hl,iNs] at h; rw [zaI]; exact h
   · rw [if_neg (by simp; omega)] at h; rw [iNQ]; exact h
theorem zAi [Nonempty (Lw S)] (hc:Cmp lt P) (d0:Array S.D.α) (a b pivot:Nat) (hP0:AllA P d0) (ha:a≤pivot) (hp:pivot < b) (hb:b≤d0.size) (hs0:d0.size≤100000) (hab:a+1 < b):∃ flag:Bool,cw S.pa.f [rA d0,I (a:Int),I (b:Int),I (pivot:Int),.fn S.fc []] (mA d0)=rPart (partition lt d0 a b pivot).1 flag (partition lt d0 a b pivot).2.2:=by
 have hn0:d0.toList.length=d0.size:=by simp
 rw [partition_fst,partition_arr]; have hrow:=swpE d0 a pivot; have hP:=hP0.swp (i:=a) (j:=pivot) (by omega) (by omega); have hsz:=zbe d0 a pivot; generalize hd:swp d0 a pivot=d at *; have hn:d0.toList.length=d.size:=by rw [hn0,hsz]
 have eb:w64 ((b:Int) - 1)=((b - 1:Nat):Int):=dn1 (by omega) (by omega); have u1:=scanUp_ge (fun x=>lt x d[a]!) d (b - 1) (a+1); have u2:=zpZ (fun x=>lt x d[a]!) d (b - 1) b (a+1) (by omega) (by omega); have u3:=znp (fun x=>lt x d[a]!) d (b - 1) b (a+1) (by omega); rw [partLoop_eq]
 have head:∀ y,zre S d0.toList (a:Int) (b:Int) (pivot:Int) d0[pivot]! d0[a]! d0[a]! (d0.setIfInBounds a d0[pivot]!)[pivot]! ((scanUp (fun x=>lt x d[a]!) d (b - 1) (a+1):Nat):Int)=some y→cw S.pa.f [rA d0,I (a:Int),I (b:Int),I (pivot:Int),.fn S.fc []] (mA d0)=some y:=by intro y h; refine LW.e_pa d0.toList _ _ _ ?_; rw [zap,rdA hn0 (by omega),rdA hn0 (by omega),rdA hn0 (by omega),rdS hn0 (by omega),up1 (by omega)]; exact k_part1 hc d0 d a b pivot _ _ _ _ hrow hn hP (by omega) (by omega) (by omega) _ b (a+1) (by omega) (by omega) (by omega) h
 generalize scanUp (fun x=>lt x d[a]!) d (b - 1) (a+1)=i at *; have d1:=scanDown_le (fun x=>!lt x d[a]!) d i (b - 1); have d2:=zno (fun x=>!lt x d[a]!) d i (by omega) (b - 1) (by omega); have d3:=zlh (fun x=>!lt x d[a]!) d i (by omega) (b - 1)
 have mid:∀ y,zjW S d0.toList (a:Int) (b:Int) (pivot:Int) d0[pivot]! d0[a]! d0[a]! (d0.setIfInBounds a d0[pivot]!)[pivot]! (i:Int) ((scanDown (fun x=>!lt x d[a]!) d i (b - 1):Nat):Int)=some y→zre S d0.toList (a:Int) (b:Int) (pivot:Int) d0[pivot]! d0[a]! d0[a]! (d0.setIfInBounds a d0[pivot]!)[pivot]! (i:Int)=some y:=by
  intro y h; refine LW.t_pa_2 _ _ _ _ _ _ _ _ _ ?_; rw [zaV,eb,hrow,zap]; rw [zeW _ _ _ (by omega)] at h; by_cases hle:i≤b - 1
  · rw [iPQ,rdA hn (by omega),rdA hn (by omega),hc.stepN (hP _ (by omega)) (hP _ (by omega)),dn1 (by omega) (by omega)]
    cases hl:lt d[b - 1]! d[a]! with
    | false=>rw [hl,if_pos (by simpa using hle)] at h; rw [zaw]; exact k_part2 hc d0 d a b pivot _ _ _ _ hrow hn hP (by omega) (by omega) i (by omega) (by omega) _ (b - 1 - 1) (by omega) (by omega) h
    | true=>rw [hl,iNs] at h; rw [zaI]; exact h
  · rw [if_neg (by simp; omega)] at h; rw [iNQ]; exact h
 generalize scanDown (fun x=>!lt x d[a]!) d i (b - 1)=j at *; by_cases hgt:i > j
 · refine ⟨true,head _ (mid _ (LW.t_pa_1007 _ _ _ _ _ _ _ _ _ _ ?_))⟩; rw [zaV,hrow,zap,iPQ,if_pos hgt,rdA hn (by omega),rdA hn (by omega),rdA hn (by omega),rdS hn (by omega),swpE]; rfl
 · refine ⟨false,head _ (mid _ (LW.t_pa_1007 _ _ _ _ _ _ _ _ _ _ ?_))⟩
   have hne:i≠j:=by intro heq; have w1:=u3 (by omega); have w2:=d3 (by omega); rw [heq] at w1; rw [w1] at w2; cases w2
   rw [zaV,hrow,zap,iNQ,if_neg hgt,rdA hn (by omega),rdA hn (by omega),rdA hn (by omega),rdS hn (by omega),swpE,up1 (by omega),dn1 (by omega) (by omega)]; exact k_partLoop hc d0.toList a (j+1) (i+1) (j - 1) _ (by omega) (by omega) (by omega) (by rw [zbe]; omega) (by rw [zbe]; exact hn) (hP.swp (by omega) (by omega)) (by rw [zbe]; omega)
abbrev rEq (m:Nat) (d:Array S.D.α):Option (AV×Mem):=some ((r_pe S).enc ((m:Int),d.toList))
theorem k_eq2 [Nonempty (Lw S)] (hc:Cmp lt P) (a0:List S.D.α) (a:Nat) (d:Array S.D.α) (hn:a0.length=d.size) (hP:AllA P d) (hs:d.size≤100000) (ha:a < d.size) (j:Nat) (hj:j < d.size) (y:AV×Mem):∀ (k i:Nat),j+1≤i+k→i≤100001→k_pe_3 S a0 (a:Int) (Er d) (j:Int) ((scanUp (fun x=>!lt d[a]! x) d j i:Nat):Int)=some y→k_pe_2 S a0 (a:Int) (Er d) (j:Int) (i:Int)=some y:=by
 intro k
 induction k with
 | zero=>intro i hk hi h; refine LW.t_pe_2 _ _ _ _ _ ?_; rw [zdn,if_neg (by simp; omega)] at h; rw [zaV,iNQ]; exact h
 | succ k ih =>
   intro i hk hi h; refine LW.t_pe_2 _ _ _ _ _ ?_; rw [zdn] at h; rw [zaV,up1 (by omega),zap]; by_cases hij:i≤j
   · rw [iPQ,rdA hn ha,rdA hn (by omega),hc.stepN (hP _ ha) (hP _ (by omega))]
     cases hl:lt d[a]! d[i]! with
     | false=>rw [hl,if_pos (by simpa using hij)] at h; rw [zaw]; exact ih (i+1) (by omega) (by omega) h
     | true=>rw [hl,iNs] at h; rw [zaI]; exact h
   · rw [if_neg (by simp; omega)] at h; rw [iNQ]; exact h
theorem k_eq3 [Nonempty (Lw S)] (hc:Cmp lt P) (a0:List S.D.α) (a:Nat) (d:Array S.D.α) (hn:a0.length=d.size) (hP:AllA P d) (hs:d.size≤100000) (ha:a < d.size) (i:Nat) (hi:1≤i) (hi2:i≤100001) (y:AV×Mem):∀ (j:Nat),j < d.size→i≤j+1→zjY S a0 (a:Int) (Er d) (i:Int) ((scanDown (fun x=>lt d[a]! x) d i j:Nat):Int)=some y→zsa S a0 (a:Int) (Er d) (i:Int) (j:Int)=some y:=by
 intro j
 induction j with
 | zero=>intro hj hij h; refine LW.t_pe_3v1 _ _ _ _ _ ?_; rw [zaV,iNQ]; exact h
 | succ j ih =>
   intro hj hij h; refine LW.t_pe_3v1 _ _ _ _ _ ?_; rw [zeW _ _ _ (by omega)] at h; rw [zaV,dn1 (by omega) (by omega),zap]; by_cases hle:i≤j+1
   · rw [iPQ,rdA hn ha,rdA hn (by omega),hc.step (hP _ ha) (hP _ (by omega))]
     cases hl:lt d[a]! d[j+1]! with
     | true=>rw [hl,if_pos (by simpa using hle)] at h; rw [zaI]; exact ih (by omega) (by omega) h
     | false=>rw [hl,iNs] at h; rw [zaw]; exact h
   · rw [if_neg (by simp; omega)] at h; rw [iNQ]; exact h
theorem k_eq3' [Nonempty (Lw S)] (hc:Cmp lt P) (a0:List S.D.α) (a:Nat) (d:Array S.D.α) (hn:a0.length=d.size) (hP:AllA P d) (hs:d.size≤100000) (ha:a < d.size) (i:Nat) (hi:1≤i) (hi2:i≤100001) (y:AV×Mem)
  (j:Nat) (hj:j < d.size) (hij:i≤j+1) (h:zjY S a0 (a:Int) (Er d) (i:Int) ((scanDown (fun x=>lt d[a]! x) d i j:Nat):Int)=some y):k_pe_3 S a0 (a:Int) (Er d) (j:Int) (i:Int)=some y:=by
 refine LW.t_pe_3 _ _ _ _ _ ?_; by_cases h0:j=0
 · subst h0; rw [zaV,iNQ]; exact h
 · rw [zeW _ _ _ (by omega)] at h; rw [zaV,dn1 (by omega) (by omega),zap]; by_cases hle:i≤j
   · rw [iPQ,rdA hn ha,rdA hn (by omega),hc.step (hP _ ha) (hP _ (by omega))]
     cases hl:lt d[a]! d[j]! with
     | true=>rw [hl,if_pos (by simpa using hle)] at h; rw [zaI]; exact k_eq3 hc a0 a d hn hP hs ha i hi hi2 y (j - 1) (by omega) (by omega) h
     | false=>rw [hl,iNs] at h; rw [zaw]; exact h
   · rw [if_neg (by simp; omega)] at h; rw [iNQ]; exact h
theorem k_eqLoop [Nonempty (Lw S)] (hc:Cmp lt P) (a0:List S.D.α) (a:Nat):∀ (n i j:Nat) (d:Array S.D.α),j+1 - i≤n→a < i→i≤j+1→j < d.size→a0.length=d.size→AllA P d→d.size≤100000→k_pe_1 S a0 (a:Int) (Er d) (i:Int) (j:Int)=rEq (partEqLoop lt a i j d).1 (partEqLoop lt a i j d).2:=by
 intro n
 induction n with
 | zero =>
   intro i j d hn hai hij hj hl hP hs; refine LW.t_pe_1 _ _ _ _ _ ?_; refine k_eq2 hc a0 a d hl hP hs (by omega) j hj _ (j+1) i (by omega) (by omega) ?_; have hu:scanUp (fun x=>!lt d[a]! x) d j i=i:=by rw [zdn,if_neg (by simp; omega)]
   rw [hu]; refine k_eq3' hc a0 a d hl hP hs (by omega) i (by omega) (by omega) _ j hj hij ?_
   have hd:scanDown (fun x=>lt d[a]! x) d i j=j:=by
    by_cases h0:j=0
    · subst h0; rfl
    · rw [zeW _ _ _ (by omega),if_neg (by simp; omega)]
   rw [hd]; refine LW.t_pe_1007 _ _ _ _ _ ?_; rw [partEqLoop_eq,hu,hd,if_pos (show i > j by omega),zaV,iPQ]; rfl
 | succ n ih =>
   intro i j d hn hai hij hj hl hP hs; refine LW.t_pe_1 _ _ _ _ _ ?_; refine k_eq2 hc a0 a d hl hP hs (by omega) j hj _ (j+1) i (by omega) (by omega) ?_; have u1:=scanUp_ge (fun x=>!lt d[a]! x) d j i; have u2:=zpZ (fun x=>!lt d[a]! x) d j (j+1) i (by omega) hij; refine k_eq3' hc a0 a d hl hP hs (by omega) _ (by omega) (by omega) _ j hj (by omega) ?_; have d1:=scanDown_le (fun x=>lt d[a]! x) d (scanUp (fun x=>!lt d[a]! x) d j i) j; have d2:=zno (fun x=>lt d[a]! x) d (scanUp (fun x=>!lt d[a]! x) d j i) (by omega) j (by omega); have u3:=znp (fun x=>!lt d[a]! x) d j (j+1) i (by omega); have d3:=zlh (fun x=>lt d[a]! x) d (scanUp (fun x=>!lt d[a]! x) d j i) (by omega) j; refine LW.t_pe_1007 _ _ _ _ _ ?_; rw [partEqLoop_eq]; generalize scanUp (fun x=>!lt d[a]! x) d j i=i2 at *; generalize scanDown (fun x=>lt d[a]! x) d i2 j=j2 at *; rw [zaV]; by_cases hgt:i2 > j2
   · rw [iPQ,if_pos hgt]; rfl
   · have hne:i2≠j2:=by intro heq; have w1:=u3 (by omega); have w2:=d3 (by omega); rw [heq,w2] at w1; cases w1
     rw [iNQ,if_neg hgt,zap,rdA hl (by omega),rdA hl (by omega),rdA hl (by omega),rdS hl (by omega),swpE,up1 (by omega),dn1 (by omega) (by omega)]; exact ih (i2+1) (j2 - 1) _ (by omega) (by omega) (by omega) (by rw [zbe]; omega) (by rw [zbe]; exact hl) (hP.swp (by omega) (by omega)) (by rw [zbe]; exact hs)
theorem zo9 [Nonempty (Lw S)] (hc:Cmp lt P) (d0:Array S.D.α) (a b pivot:Nat) (hP0:AllA P d0) (ha:a≤pivot) (hp:pivot < b) (hb:b≤d0.size) (hs0:d0.size≤100000):cw S.pe.f [rA d0,I (a:Int),I (b:Int),I (pivot:Int),.fn S.fc []] (mA d0)=rEq (partitionEqual lt d0 a b pivot).1 (partitionEqual lt d0 a b pivot).2:=by
 have hn0:d0.toList.length=d0.size:=by simp
 refine LW.e_pe d0.toList _ _ _ ?_; rw [zap,rdA hn0 (by omega),rdA hn0 (by omega),rdA hn0 (by omega),rdS hn0 (by omega),up1 (by omega),dn1 (by omega) (by omega),swpE]; exact k_eqLoop hc d0.toList a b (a+1) (b - 1) _ (by omega) (by omega) (by omega) (by rw [zbe]; omega) (by rw [zbe]; exact hn0) (hP0.swp (by omega) (by omega)) (by rw [zbe]; exact hs0)
theorem rdL {β:Type} {d:Array S.D.α} {i:Nat} (hi:i < d.size) (K:S.D.α→Option β):(chk ((0:Int)≤(i:Int))<|elemD S.D (Er d) (((i:Nat):Int).toNat) K)=K d[i]!:=by rw [cPQ,za4,zyb (D:=S.D) (l:=d.toList) (x:=d[i]!) (by simp [hi])]
abbrev mSw (k:Nat) (s:Int):Mem:=[(k,⟨1,za3,[zak s],true⟩)]
theorem zvW [Nonempty (Lw S)] (hc:Cmp lt P) (d:Array S.D.α) (hP:AllA P d) (a b:Nat) (s:Int) (ha:a < d.size) (hb:b < d.size) (hs0:0≤s) (hs:s≤1000):∃ (x y:Nat) (s':Int),cw S.o2.f [.sl S.z (Er d),I (a:Int),I (b:Int),.loc 1003 1 0 0,.fn S.fc []] (mSw 1003 s)=some ((r_o2 S).enc (((x:Int),(y:Int)),s'))∧((x=a∧y=b)∨(x=b∧y=a))∧0≤s'∧s'≤s+1:=by
 cases hl:lt d[b]! d[a]! with
 | true=>refine ⟨b,a,s+1,LW.e_o2 d.toList _ _ _ ?_,.inr ⟨rfl,rfl⟩,by omega,by omega⟩; rw [rdL hb,rdL ha,hc.step (hP _ hb) (hP _ ha),hl,zaI,w6Q]; rfl
 | false=>refine ⟨a,b,s,LW.e_o2 d.toList _ _ _ ?_,.inl ⟨rfl,rfl⟩,by omega,by omega⟩; rw [rdL hb,rdL ha,hc.step (hP _ hb) (hP _ ha),hl,zaw]; rfl
theorem zvV [Nonempty (Lw S)] (hc:Cmp lt P) (d:Array S.D.α) (hP:AllA P d) (a b c:Nat) (s:Int) (ha:a < d.size) (hb:b < d.size) (hcc:c < d.size) (hs0:0≤s) (hs:s≤900):∃ (x:Nat) (s':Int),cw S.md.f [.sl S.z (Er d),I (a:Int),I (b:Int),I (c:Int),.loc 1004 1 0 0,.fn S.fc []] (mSw 1004 s)=some ((r_md S).enc ((x:Int),s'))∧(x=a∨x=b∨x=c)∧0≤s'∧s'≤s+3:=by obtain ⟨x1,y1,s1,h1,o1,p1,q1⟩:=zvW hc d hP a b s ha hb hs0 (by omega); obtain ⟨x2,y2,s2,h2,o2,p2,q2⟩:=zvW hc d hP y1 c s1 (by omega) hcc p1 (by omega); obtain ⟨x3,y3,s3,h3,o3,p3,q3⟩:=zvW hc d hP x1 x2 s2 (by omega) (by omega) p2 (by omega); refine ⟨y3,s3,LW.e_md d.toList _ _ _ _ ?_,by omega,p3,by omega⟩; rw [zbx h1,zbx h2,zbx h3]; rfl
theorem zlo [Nonempty (Lw S)] (hc:Cmp lt P) (d:Array S.D.α) (hP:AllA P d) (a:Nat) (s:Int) (ha:a+1 < d.size) (ha1:1≤a) (hsz:d.size≤100000) (hs0:0≤s) (hs:s≤900):∃ (x:Nat) (s':Int),cw S.ma.f [.sl S.z (Er d),I (a:Int),.loc 1002 1 0 0,.fn S.fc []] (mSw 1002 s)=some ((r_ma S).enc ((x:Int),s'))∧(x=a - 1∨x=a∨x=a+1)∧0≤s'∧s'≤s+3:=by obtain ⟨x,s',h,o,p,q⟩:=zvV hc d hP (a - 1) a (a+1) s (by omega) (by omega) ha hs0 hs; refine ⟨x,s',LW.e_ma d.toList _ _ ?_,o,p,q⟩; rw [dn1 ha1 (by omega),up1 (by omega),zbx h]; rfl
set_option maxHeartbeats 1000000 in
theorem zsC [Nonempty (Lw S)] (hc:Cmp lt P) (d:Array S.D.α) (hP:AllA P d) (a b:Nat) (hab:a < b) (hb:b≤d.size) (hsz:d.size≤100000):∃ (m:Nat) (h:Int),cw S.cp.f [.sl S.z (Er d),I (a:Int),I (b:Int),.fn S.fc []] []=some ((r_cp S).enc ((m:Int),h))∧a≤m∧m < b∧(h=0∨h=1∨h=2):=by
 have e0:w64 ((b:Int) - (a:Int))=((b - a:Nat):Int):=by rw [w6Q]; omega
 have e1:(((b - a:Nat):Int)).tdiv 4=(((b - a) / 4:Nat):Int):=rfl; have ew:w64 (((b - a) / 4:Nat):Int)=(((b - a) / 4:Nat):Int):=w64_id (by omega) (by omega)
 have ei:∀ c:Nat,c≤3→w64 ((a:Int)+w64 ((((b - a) / 4:Nat):Int)*(c:Int)))=((a+(b - a) / 4*c:Nat):Int):=fun c hc=>by
  have:(((b - a) / 4:Nat):Int)*(c:Int)=(((b - a) / 4*c:Nat):Int):=by push_cast; rfl
  have h2:(b - a) / 4*c≤(b - a) / 4*3:=zub _ hc; rw [this,w64_id (n:=(((b - a) / 4*c:Nat):Int)) (by omega) (by omega),w6Q]; omega
 have ei1:=ei 1 (by omega); have ei2:=ei 2 (by omega); have ei3:=ei 3 (by omega); have c1:((1:Nat):Int)=1:=rfl; have c2:((2:Nat):Int)=2:=rfl; have c3:((3:Nat):Int)=3:=rfl; rw [c1] at ei1; rw [c2] at ei2; rw [c3] at ei3
 have fin:∀ (m:Nat) (s:Int),∃ h:Int,(h=0∨h=1∨h=2)∧(brn (s == 0) (some (AV.tup [I (m:Int),I 1],([]:Mem))) (brn (s == 12) (some (.tup [I (m:Int),I 2],[])) (some (.tup [I (m:Int),I 0],[]))))=some ((r_cp S).enc ((m:Int),h)):=by
  intro m s; by_cases hz:s=0
  · exact ⟨1,by omega,by rw [hz]; rfl⟩
  · by_cases hz2:s=12
    · exact ⟨2,by omega,by rw [hz2]; rfl⟩
    · refine ⟨0,by omega,?_⟩; rw [beq_false_of_ne hz,beq_false_of_ne hz2]; rfl
 by_cases h8:8≤b - a
 · by_cases h50:50≤b - a
   · obtain ⟨x1,s1,g1,o1,p1,q1⟩:=zlo hc d hP (a+(b - a) / 4*1) 0 (by omega) (by omega) hsz (by omega) (by omega); have v1:a≤x1∧x1 < b:=by omega
     clear o1; obtain ⟨x2,s2,g2,o2,p2,q2⟩:=zlo hc d hP (a+(b - a) / 4*2) s1 (by omega) (by omega) hsz p1 (by omega); have v2:a≤x2∧x2 < b:=by omega
     clear o2; obtain ⟨x3,s3,g3,o3,p3,q3⟩:=zlo hc d hP (a+(b - a) / 4*3) s2 (by omega) (by omega) hsz p2 (by omega); have v3:a≤x3∧x3 < b:=by omega
     clear o3; obtain ⟨x4,s4,g4,o4,p4,q4⟩:=zvV hc d hP x1 x2 x3 s3 (by omega) (by omega) (by omega) p3 (by omega); have v4:a≤x4∧x4 < b:=by omega
     clear o4; obtain ⟨h,hh,hf⟩:=fin x4 s4; refine ⟨x4,h,LW.e_cp d.toList _ _ ?_,v4.1,v4.2,hh⟩; clear hh; rw [cPQ,cPQ,cPQ,e0,e1,ew,ei1,ei2,ei3,zaV,iPQ,zaV,iPQ,zbx g1,zbx g2,zbx g3]; refine LW.t_cp_1011 _ _ _ _ ?_; rw [zbx g4]; exact hf
   · obtain ⟨x4,s4,g4,o4,p4,q4⟩:=zvV hc d hP (a+(b - a) / 4*1) (a+(b - a) / 4*2) (a+(b - a) / 4*3) 0 (by omega) (by omega) (by omega) (by omega) (by omega); have v4:a≤x4∧x4 < b:=by omega
     clear o4; obtain ⟨h,hh,hf⟩:=fin x4 s4; refine ⟨x4,h,LW.e_cp d.toList _ _ ?_,v4.1,v4.2,hh⟩; clear hh; rw [cPQ,cPQ,cPQ,e0,zaV,iPQ,zaV,iNQ]; refine LW.t_cp_1011v1 _ _ _ ?_; rw [e0,e1,ew,ei1,ei2,ei3,zbx g4]; exact hf
 · refine ⟨a+(b - a) / 4*2,1,LW.e_cp d.toList _ _ ?_,by omega,by omega,by omega⟩; rw [cPQ,cPQ,cPQ,e0,e1,ew,ei2,zaV,iNQ]; rfl
end
variable {S:Sg}
theorem c_Len:∀ n:Nat,n < 256→cw zr3 [.v (.int .u64 (n:Int))] []=some (zaK.enc ((bitsLen n:Nat):Int)):=by
 repeat (first | exact fun _ h=>absurd h (Nat.not_lt_zero _) | refine zwL ?_ ?_)
 all_goals exact cw_of 20 (by kernel_rfl)
theorem zuY {n:Nat} (h:n < 256):bitsLen n≤8:=(bitsLen_le_iff n 8).2 (by omega)
theorem c_nextPow (n:Nat) (h:n < 256):cw zgv [I (n:Int)] []=some (zdT.enc ((2 ^ bitsLen n:Nat):Int)):=by
 refine zpE _ ?_; have hb:=zuY h; have hp:2 ^ bitsLen n≤2 ^ 8:=Nat.pow_le_pow_right (by omega) hb; rw [zlY (n:=(n:Int)) (by omega) (by omega),zbx (c_Len n h),cPQ,za4,zt8 (by omega)]; have e:(1:Int)*2 ^ bitsLen n=((2 ^ bitsLen n:Nat):Int):=by push_cast; rw [Int.one_mul]
 rw [e]; clear e; have hp':2 ^ bitsLen n≤256:=hp; clear hp; generalize 2 ^ bitsLen n=z at hp' ⊢; rw [zlY (by omega) (by omega)]; rfl
theorem c_xor (x:Int):∃ v w:Int,cw zhf [.loc 1000 1 0 0] [(1000,⟨1,zcm,[zmj x],true⟩)]=some (zed.enc (v,w)):=by apply Exists.intro; apply Exists.intro; apply zqm; rw [cPQ,cPQ,cPQ]; rfl
section
variable {lt:S.D.α→S.D.α→Bool} {P:S.D.α→Prop}
theorem and_bd (v:Nat) (M:Nat) (h1:1≤M) (h2:M≤1000):v &&& (wu64 ((M:Int) - 1) % Int.ofNat (2 ^ 64)).toNat < M:=by
 have e:(wu64 ((M:Int) - 1) % Int.ofNat (2 ^ 64)).toNat=M - 1:=by rw [zlY (by omega) (by omega)]; show (((M:Int) - 1) % (18446744073709551616:Int)).toNat=M - 1; omega
 rw [e]; have:=Nat.and_le_right (n:=v) (m:=M - 1); omega
theorem k_break [Nonempty (Lw S)] (a0:List S.D.α) (a b M:Nat) (hab:a+8≤b) (hM:1≤M) (hM2:M≤2*(b - a)) (hM3:M≤1000) (hbs:b≤100000):∀ (k i:Nat) (x:Int) (d:Array S.D.α),a+(b - a) / 4*2+2≤i+k→a≤i→a0.length=d.size→b≤d.size→d.size≤100000→∃ d',k_bp_1 S a0 (a:Int) (b:Int) (M:Int) x (Er d) (i:Int)=some ((r_bp S).enc d'.toList)∧PermIn a b d d':=by
 have e0:w64 ((b:Int) - (a:Int))=((b - a:Nat):Int):=by rw [w6Q]; omega
 have e1:(((b - a:Nat):Int)).tdiv 4=(((b - a) / 4:Nat):Int):=rfl; intro k
 induction k with
 | zero =>
   intro i x d hk hi hn hb hs; refine ⟨d,LW.t_bp_1 _ _ _ _ _ _ _ ?_,permIn_refl _ _ _⟩
   have e2:w64 (w64 ((a:Int)+w64 (w64 (((b - a:Nat):Int).tdiv 4)*2))+1)=((a+(b - a) / 4*2+1:Nat):Int):=by rw [e1,w64_id (n:=(((b - a) / 4:Nat):Int)) (by omega) (by omega),w64_id (n:=(((b - a) / 4:Nat):Int)*2) (by omega) (by omega),w6Q (n:=(a:Int)+_),w6Q]; omega
   rw [cPQ,e0,e2,zaV,iNQ]; rfl
 | succ k ih =>
   intro i x d hk hi hn hb hs
   have e2:w64 (w64 ((a:Int)+w64 (w64 (((b - a:Nat):Int).tdiv 4)*2))+1)=((a+(b - a) / 4*2+1:Nat):Int):=by rw [e1,w64_id (n:=(((b - a) / 4:Nat):Int)) (by omega) (by omega),w64_id (n:=(((b - a) / 4:Nat):Int)*2) (by omega) (by omega),w6Q (n:=(a:Int)+_),w6Q]; omega
   by_cases hle:i≤a+(b - a) / 4*2+1
   · obtain ⟨v,w,hx⟩:=c_xor x; have hq:=and_bd (v % Int.ofNat (2 ^ 64)).toNat M hM hM3; have hl2:(b - a) / 4*2+1 < b - a:=by omega
     by_cases hge:b - a≤((v % Int.ofNat (2 ^ 64)).toNat &&& (wu64 ((M:Int) - 1) % Int.ofNat (2 ^ 64)).toNat)
     · obtain ⟨d',g1,g2⟩:=ih (i+1) w (swp d i (a+(((v % Int.ofNat (2 ^ 64)).toNat &&& (wu64 ((M:Int) - 1) % Int.ofNat (2 ^ 64)).toNat) - (b - a)))) (by omega) (by omega) (by rw [zbe]; exact hn) (by rw [zbe]; exact hb) (by rw [zbe]; exact hs); refine ⟨d',LW.t_bp_1 _ _ _ _ _ _ _ ?_,permIn_trans _ _ _ _ _ (swp_permIn d a b i _ hi (by omega) (by omega) (by omega) hb) g2⟩; rw [cPQ,e0,e2,zaV,iPQ,zbx hx]; dsimp only; have hT:∀ y,zpU S a0 (a:Int) (b:Int) (M:Int) (Er d) (i:Int) (v,w)=some y→(chk ((4:Int)≠0)<|zpU S a0 (a:Int) (b:Int) (M:Int) (Er d) (i:Int) (v,w))=some y:=fun y h=>by rw [cPQ]; exact h
       have hG:=LW.t_bp_1010 a0 (a:Int) (b:Int) (M:Int) (Er d) (i:Int) (v,w) (y:=(r_bp S).enc d'.toList); dsimp only at hG; generalize ((v % Int.ofNat (2 ^ 64)).toNat &&& (wu64 ((M:Int) - 1) % Int.ofNat (2 ^ 64)).toNat)=q at hq hge g1 hG ⊢; rw [zlY (n:=(q:Int)) (by omega) (by omega),w6Q (n:=(q:Int)),zaV,iPQ]; apply hG
       have ei:w64 ((a:Int)+w64 (w64 (wu64 (q:Int)) - w64 ((b:Int) - (a:Int))))=((a+(q - (b - a)):Nat):Int):=by rw [zlY (n:=(q:Int)) (by omega) (by omega),w6Q (n:=(q:Int)),e0,w6Q (n:=(q:Int) - _),w6Q]; omega
       rw [ei,zap,rdA hn (by omega),rdA hn (by omega),rdA hn (by omega),rdS hn (by omega),swpE,up1 (by omega)]; exact g1
     · obtain ⟨d',g1,g2⟩:=ih (i+1) w (swp d i (a+(((v % Int.ofNat (2 ^ 64)).toNat &&& (wu64 ((M:Int) - 1) % Int.ofNat (2 ^ 64)).toNat)))) (by omega) (by omega) (by rw [zbe]; exact hn) (by rw [zbe]; exact hb) (by rw [zbe]; exact hs); refine ⟨d',LW.t_bp_1 _ _ _ _ _ _ _ ?_,permIn_trans _ _ _ _ _ (swp_permIn d a b i _ hi (by omega) (by omega) (by omega) hb) g2⟩; rw [cPQ,e0,e2,zaV,iPQ,zbx hx]; dsimp only; have hG:=LW.t_bp_1010v1 a0 (a:Int) (b:Int) (M:Int) (Er d) (i:Int) (v,w) (y:=(r_bp S).enc d'.toList); dsimp only at hG; generalize ((v % Int.ofNat (2 ^ 64)).toNat &&& (wu64 ((M:Int) - 1) % Int.ofNat (2 ^ 64)).toNat)=q at hq hge g1 hG ⊢; rw [zlY (n:=(q:Int)) (by omega) (by omega),w6Q (n:=(q:Int)),zaV,iNQ]; apply hG
       have ei:w64 ((a:Int)+w64 (wu64 (q:Int)))=((a+q:Nat):Int):=by rw [zlY (n:=(q:Int)) (by omega) (by omega),w6Q (n:=(q:Int)),w6Q]; omega
       rw [ei,zap,rdA hn (by omega),rdA hn (by omega),rdA hn (by omega),rdS hn (by omega),swpE,up1 (by omega)]; exact g1
   · refine ⟨d,LW.t_bp_1 _ _ _ _ _ _ _ ?_,permIn_refl _ _ _⟩; rw [cPQ,e0,e2,zaV,iNQ]; rfl
theorem c_break [Nonempty (Lw S)] (d:Array S.D.α) (a b:Nat) (hab:a≤b) (hb:b≤d.size) (hs:d.size < 256):∃ d',cw S.bp.f [rA d,I (a:Int),I (b:Int),.fn S.fc []] (mA d)=some ((r_bp S).enc d'.toList)∧PermIn a b d d':=by
 have e0:w64 ((b:Int) - (a:Int))=((b - a:Nat):Int):=by rw [w6Q]; omega
 have e1:(((b - a:Nat):Int)).tdiv 4=(((b - a) / 4:Nat):Int):=rfl; by_cases h8:8≤b - a
 · have hM2:=two_pow_bitsLen_le (n:=b - a) (by omega)
   have e2:w64 (w64 ((a:Int)+w64 (w64 (((b - a:Nat):Int).tdiv 4)*2)) - 1)=((a+(b - a) / 4*2 - 1:Nat):Int):=by rw [e1,w64_id (n:=(((b - a) / 4:Nat):Int)) (by omega) (by omega),w64_id (n:=(((b - a) / 4:Nat):Int)*2) (by omega) (by omega),w6Q (n:=(a:Int)+_),w6Q]; omega
   obtain ⟨d',g1,g2⟩:=k_break d.toList a b (2 ^ bitsLen (b - a)) (by omega) (Nat.one_le_two_pow) hM2 (by omega) (by omega) 100 (a+(b - a) / 4*2 - 1) (wu64 ((b - a:Nat):Int)) d (by omega) (by omega) (by simp) hb (by omega); refine ⟨d',LW.e_bp d.toList _ _ ?_,g2⟩; rw [e0,zaV,iPQ,zbx (c_nextPow (b - a) (by omega)),cPQ,e2]; exact g1
 · refine ⟨d,LW.e_bp d.toList _ _ ?_,permIn_refl _ _ _⟩; rw [e0,zaV,iNQ]; rfl
theorem zt1:∀ (j:Nat) (d:Array S.D.α),j < d.size→(shiftDown lt j d).size=d.size∧(AllA P d→AllA P (shiftDown lt j d))
 | 0,d,_=>⟨rfl,fun h=>h⟩
 | j+1,d,h=>by
   unfold shiftDown; split
   · exact ⟨rfl,fun h=>h⟩
   · have ih:=zt1 j (swp d (j+1) j) (by rw [zbe]; omega); rw [zbe] at ih; exact ⟨ih.1,fun hP=>ih.2 (hP.swp h (by omega))⟩
theorem shiftUp_ok (b:Nat):∀ (k j:Nat) (d:Array S.D.α),b≤j+k→b≤d.size→(shiftUp lt b j d).size=d.size∧(AllA P d→AllA P (shiftUp lt b j d)):=by
 intro k
 induction k with
 | zero=>intro j d hk _; rw [shiftUp,iNQ]; exact ⟨rfl,fun h=>h⟩
 | succ k ih =>
   intro j d hk hb; rw [shiftUp]; split
   · split
     · exact ⟨rfl,fun h=>h⟩
     · have ih:=ih (j+1) (swp d j (j - 1)) (by omega) (by rw [zbe]; exact hb); rw [zbe] at ih; exact ⟨ih.1,fun hP=>ih.2 (hP.swp (by omega) (by omega))⟩
   · exact ⟨rfl,fun h=>h⟩
theorem k_up [Nonempty (Lw S)] (hc:Cmp lt P) (a0:List S.D.α) (a b i c:Nat) (y:AV×Mem):∀ (k j:Nat) (d:Array S.D.α),b≤j+k→1≤j→b≤d.size→d.size≤100000→a0.length=d.size→AllA P d→zjZ S a0 (a:Int) (b:Int) (Er (shiftUp lt b j d)) (i:Int) (w64 ((c:Int)+1))=some y→znG S a0 (a:Int) (b:Int) (c:Int) (i:Int) (Er d) (j:Int)=some y:=by
 intro k
 induction k with
 | zero=>intro j d hk hj hb hs hn hP h; rw [shiftUp,iNQ] at h; refine LW.t_pi_4 _ _ _ _ _ _ _ ?_; rw [zaV,iNQ]; exact h
 | succ k ih =>
   intro j d hk hj hb hs hn hP h; refine LW.t_pi_4 _ _ _ _ _ _ _ ?_; by_cases hjb:j < b
   · rw [shiftUp,if_pos hjb] at h; rw [zaV,iPQ,dn1 (by omega) (by omega),zap,rdA hn (by omega),rdA hn (by omega),hc.stepN (hP _ (by omega)) (hP _ (by omega))]
     cases hl:lt d[j]! d[j - 1]! with
     | false=>rw [hl,zcx,if_pos rfl] at h; rw [zaw]; exact h
     | true=>rw [hl,zbO,iNs] at h; rw [zaI,rdA hn (by omega),rdA hn (by omega),rdA hn (by omega),rdS hn (by omega),swpE,up1 (by omega)]; exact ih (j+1) (swp d j (j - 1)) (by omega) (by omega) (by rw [zbe]; exact hb) (by rw [zbe]; exact hs) (by rw [zbe]; exact hn) (hP.swp (by omega) (by omega)) h
   · rw [shiftUp,if_neg hjb] at h; rw [zaV,iNQ]; exact h
theorem k_down [Nonempty (Lw S)] (hc:Cmp lt P) (a0:List S.D.α) (a b i c:Nat) (y:AV×Mem):∀ (j:Nat) (d:Array S.D.α),j < d.size→d.size≤100000→a0.length=d.size→AllA P d→(brn (decide (2≤w64 ((b:Int) - (i:Int)))) (znG S a0 (a:Int) (b:Int) (c:Int) (i:Int) (Er (shiftDown lt j d)) (w64 ((i:Int)+1)))
   (zjZ S a0 (a:Int) (b:Int) (Er (shiftDown lt j d)) (i:Int) (w64 ((c:Int)+1))))=some y→k_pi_3 S a0 (a:Int) (b:Int) (c:Int) (i:Int) (Er d) (j:Int)=some y:=by
 intro j
 induction j with
 | zero=>intro d _ hs hn hP h; refine LW.t_pi_3 _ _ _ _ _ _ _ ?_; rw [zaV,iNQ]; exact h
 | succ j ih =>
   intro d hj hs hn hP h; unfold shiftDown at h; refine LW.t_pi_3 _ _ _ _ _ _ _ ?_; rw [zaV,iPQ,dn1 (by omega) (by omega),Nat.add_sub_cancel,zap,rdA hn (by omega),rdA hn (by omega),hc.stepN (hP _ (by omega)) (hP _ (by omega))]
   cases hl:lt d[j+1]! d[j]! with
   | false=>rw [hl,zcx,if_pos rfl] at h; rw [zaw]; exact h
   | true=>rw [hl,zbO,iNs] at h; rw [zaI,rdA hn (by omega),rdA hn (by omega),rdA hn (by omega),rdS hn (by omega),swpE]; exact ih (swp d (j+1) j) (by rw [zbe]; omega) (by rw [zbe]; exact hs) (by rw [zbe]; exact hn) (hP.swp hj (by omega)) h
theorem k_scan [Nonempty (Lw S)] (hc:Cmp lt P) (a0:List S.D.α) (a b c:Nat) (d:Array S.D.α) (hb:b≤d.size) (hs:d.size≤100000) (hn:a0.length=d.size) (hP:AllA P d) (y:AV×Mem):∀ (k i:Nat),b≤i+k→1≤i→zj0 S a0 (a:Int) (b:Int) (Er d) (c:Int) ((scanSorted lt d b i:Nat):Int)=some y→zsb S a0 (a:Int) (b:Int) (Er d) (c:Int) (i:Int)=some y:=by
 intro k
 induction k with
 | zero=>intro i hk hi h; rw [scanSorted,if_neg (by simp; omega)] at h; refine LW.t_pi_2v1 _ _ _ _ _ _ ?_; rw [zaV,iNQ]; exact h
 | succ k ih =>
   intro i hk hi h; refine LW.t_pi_2v1 _ _ _ _ _ _ ?_; by_cases hib:i < b
   · rw [zaV,iPQ,dn1 (by omega) (by omega),zap,rdA hn (by omega),rdA hn (by omega),hc.stepN (hP _ (by omega)) (hP _ (by omega))]
     cases hl:lt d[i]! d[i - 1]! with
     | false=>rw [scanSorted,if_pos (by rw [hl]; simp; omega)] at h; rw [zaw,up1 (by omega)]; exact ih (i+1) (by omega) (by omega) h
     | true=>rw [scanSorted,if_neg (by rw [hl]; simp)] at h; rw [zaI]; exact h
   · rw [scanSorted,if_neg (by simp; omega)] at h; rw [zaV,iNQ]; exact h
theorem k_scan0 [Nonempty (Lw S)] (hc:Cmp lt P) (a0:List S.D.α) (a b c:Nat) (d:Array S.D.α) (hb:b≤d.size) (hs:d.size≤100000) (hn:a0.length=d.size) (hP:AllA P d) (y:AV×Mem) (i:Nat) (hi:1≤i)
  (h:zj0 S a0 (a:Int) (b:Int) (Er d) (c:Int) ((scanSorted lt d b i:Nat):Int)=some y):k_pi_2 S a0 (a:Int) (b:Int) (Er d) (i:Int) (c:Int)=some y:=by
 refine LW.t_pi_2 _ _ _ _ _ _ ?_; by_cases hib:i < b
 · rw [zaV,iPQ,dn1 (by omega) (by omega),zap,rdA hn (by omega),rdA hn (by omega),hc.stepN (hP _ (by omega)) (hP _ (by omega))]
   cases hl:lt d[i]! d[i - 1]! with
   | false=>rw [scanSorted,if_pos (by rw [hl]; simp; omega)] at h; rw [zaw,up1 (by omega)]; exact k_scan hc a0 a b c d hb hs hn hP y b (i+1) (by omega) (by omega) h
   | true=>rw [scanSorted,if_neg (by rw [hl]; simp)] at h; rw [zaI]; exact h
 · rw [scanSorted,if_neg (by simp; omega)] at h; rw [zaV,iNQ]; exact h
theorem scan_le (d:Array S.D.α) (b:Nat):∀ (k i:Nat),b≤i+k→i≤b→i≤scanSorted lt d b i∧scanSorted lt d b i≤b:=by
 intro k
 induction k with
 | zero=>intro i hk hi; rw [scanSorted,if_neg (by simp; omega)]; omega
 | succ k ih =>
   intro i hk hi; rw [scanSorted]; split
   · rename_i hc; simp only [zbK,decide_eq_true_eq] at hc; have:=ih (i+1) (by omega) (by omega); omega
   · omega
theorem k_trial [Nonempty (Lw S)] (hc:Cmp lt P) (a0:List S.D.α) (a b:Nat):∀ (s i c:Nat) (d:Array S.D.α),c+s=5→a < i→i≤b→b≤d.size→d.size≤100000→a0.length=d.size→AllA P d→zjZ S a0 (a:Int) (b:Int) (Er d) (i:Int) (c:Int)=some ((r_pi S).enc ((partialIns lt a b s i d).2,(partialIns lt a b s i d).1.toList)):=by
 intro s
 induction s with
 | zero=>intro i c d hcs ha hi hb hs hn hP; refine LW.t_pi_1 _ _ _ _ _ _ ?_; rw [zaV,iNQ]; rfl
 | succ s ih =>
   intro i c d hcs ha hi hb hs hn hP; refine LW.t_pi_1 _ _ _ _ _ _ ?_; rw [zaV,iPQ]; refine k_scan0 hc a0 a b c d hb hs hn hP _ i (by omega) ?_; rw [partialIns_succ]; obtain ⟨hk1,hk2⟩:=scan_le (lt:=lt) d b b i (by omega) hi; generalize scanSorted lt d b i=k at hk1 hk2 ⊢; refine LW.t_pi_1007 _ _ _ _ _ _ ?_; by_cases hkb:k=b
   · rw [if_pos hkb,hkb,beq_self_eq_true,zaI]; rfl
   · rw [if_neg hkb,beq_false_of_ne (by omega),zaw,w6Q (n:=(b:Int) - (a:Int))]; by_cases h50:b - a < 50
     · rw [if_pos h50,zaV,iPQ]; rfl
     · have hkl:k < b:=by omega
       rw [if_neg h50,zaV,iNQ,dn1 (by omega) (by omega),zap,rdA hn (by omega),rdA hn (by omega),rdA hn (by omega),rdS hn (by omega),swpE,w6Q (n:=(k:Int) - (a:Int))]; have hP1:=hP.swp (show k < d.size by omega) (show k - 1 < d.size by omega); have z1:(swp d k (k - 1)).size=d.size:=zbe _ _ _; generalize swp d k (k - 1)=d1 at hP1 z1 ⊢
       have hx:(fixDown lt a k d1).size=d1.size∧AllA P (fixDown lt a k d1):=by
        unfold fixDown; split
        · have:=zt1 (lt:=lt) (P:=P) (k - 1) d1 (by omega); exact ⟨this.1,this.2 hP1⟩
        · exact ⟨rfl,hP1⟩
       have hy:(fixUp lt b k (fixDown lt a k d1)).size=d1.size∧AllA P (fixUp lt b k (fixDown lt a k d1)):=by
        unfold fixUp; split
        · have:=shiftUp_ok (lt:=lt) (P:=P) b b (k+1) (fixDown lt a k d1) (by omega) (by omega); exact ⟨by rw [this.1]; exact hx.1,this.2 hx.2⟩
        · exact hx
       have fin:=ih k (c+1) (fixUp lt b k (fixDown lt a k d1)) (by omega) (by omega) (by omega) (by omega) (by omega) (by omega) hy.2
       have tail:(brn (decide (2≤w64 ((b:Int) - (k:Int)))) (znG S a0 (a:Int) (b:Int) (c:Int) (k:Int) (Er (fixDown lt a k d1)) (w64 ((k:Int)+1)))
         (zjZ S a0 (a:Int) (b:Int) (Er (fixDown lt a k d1)) (k:Int) (w64 ((c:Int)+1))))=some ((r_pi S).enc ((partialIns lt a b s k (fixUp lt b k (fixDown lt a k d1))).2,(partialIns lt a b s k (fixUp lt b k (fixDown lt a k d1))).1.toList)):=by
        rw [← up1 (i:=c) (by omega)] at fin; rw [w6Q (n:=(b:Int) - (k:Int))]; by_cases h2:b - k ≥ 2
        · rw [zaV,iPQ,up1 (i:=k) (by omega)]; refine k_up hc a0 a b k c _ b (k+1) (fixDown lt a k d1) (by omega) (by omega) (by omega) (by omega) (by omega) hx.2 ?_; unfold fixUp at fin ⊢; rw [if_pos h2] at fin ⊢; exact fin
        · rw [zaV,iNQ]; unfold fixUp at fin ⊢; rw [if_neg h2] at fin ⊢; exact fin
       by_cases h2:k - a ≥ 2
       · rw [zaV,iPQ]; refine k_down hc a0 a b k c _ (k - 1) d1 (by omega) (by omega) (by omega) hP1 ?_; unfold fixDown at tail ⊢; rw [if_pos h2] at tail ⊢; exact tail
       · rw [zaV,iNQ]; unfold fixDown at tail ⊢; rw [if_neg h2] at tail ⊢; exact tail
theorem c_trial [Nonempty (Lw S)] (hc:Cmp lt P) (hW:SWO lt) (d:Array S.D.α) (a b:Nat) (hP:AllA P d) (hab:a < b) (hb:b≤d.size) (hs:d.size < 256) (hB:Below lt a b d):∃ (f:Bool) (d':Array S.D.α),cw S.pi.f [rA d,I (a:Int),I (b:Int),.fn S.fc []] (mA d)=some ((r_pi S).enc (f,d'.toList))∧PermIn a b d d'∧(f=true→SortedIn lt a b d'):=by have hsp:=partialInsertionSort_holds hW d a b hab hb hB; refine ⟨_,_,LW.e_pi d.toList _ _ ?_,hsp.1,hsp.2⟩; rw [up1 (by omega)]; exact k_trial hc d.toList a b 5 (a+1) 0 d (by omega) (by omega) (by omega) hb (by omega) (by simp) hP
end
variable {S:Sg}
section
variable {lt:S.D.α→S.D.α→Bool} {P:S.D.α→Prop}
def PdqOk (lt:S.D.α→S.D.α→Bool) (P:S.D.α→Prop) (n:Nat):Prop:=∀ (a b:Nat) (d:Array S.D.α) (a0:List S.D.α) (lim:Nat) (wb wp:Bool),b - a < n→a≤b→b≤d.size→d.size < 256→a0.length=d.size→AllA P d→Below lt a b d→lim≤100→∃ d',zpp S a0 (Er d) (a:Int) (b:Int) (lim:Int) wb wp=some ((r_pd S).enc d'.toList)∧PermIn a b d d'∧SortedIn lt a b d'
theorem c_pdq [Nonempty (Lw S)] {n:Nat} (h:PdqOk lt P n) (a b:Nat) (d:Array S.D.α) (lim:Nat) (h1:b - a < n) (h2:a≤b) (h3:b≤d.size) (h4:d.size < 256) (hP:AllA P d) (hB:Below lt a b d) (hl:lim≤100):∃ d',cw S.pd.f [rA d,I (a:Int),I (b:Int),I (lim:Int),.fn S.fc []] (mA d)=some ((r_pd S).enc d'.toList)∧PermIn a b d d'∧SortedIn lt a b d':=by obtain ⟨d',g1,g2⟩:=h a b d d.toList lim true true h1 h2 h3 h4 (by simp) hP hB hl; exact ⟨d',LW.e_pd d.toList _ _ _ g1,g2⟩
set_option maxHeartbeats 1000000 in
theorem k_1020 [Nonempty (Lw S)] (hc:Cmp lt P) (hW:SWO lt) (a0:List S.D.α) (a b m lim:Nat) (d:Array S.D.α) (wb wp:Bool) (hI:PdqOk lt P (b - a)) (hab:a+1 < b) (hb:b≤d.size) (hs:d.size < 256) (hn:a0.length=d.size) (hP:AllA P d) (hB:Below lt a b d) (hm:a≤m) (hm2:m < b) (hl:lim≤100):∃ d',zlR S a0 (a:Int) (b:Int) wb wp (Er d) (lim:Int) (m:Int)=some ((r_pd S).enc d'.toList)∧PermIn a b d d'∧SortedIn lt a b d':=by
 obtain ⟨flag,hp⟩:=zAi hc d a b m hP hm hm2 hb (by omega) hab; have hperm:PermIn a b d (partition lt d a b m).2.2:=(partition_holds lt hW d a b m hm hm2 hb).2.2.1; generalize hx:partition lt d a b m=r at hp hperm; obtain ⟨mid,ap,d4⟩:=r; obtain ⟨q1,q2,q3,q4,q5,q6,q7⟩:=round_part hW (partition_holds lt) hm hm2 hb hB hx; dsimp only at hp hperm; have hP4:AllA P d4:=hP.perm (by omega) hb hperm; have e1:w64 ((mid:Int) - (a:Int))=((mid - a:Nat):Int):=by rw [w6Q]; omega
 have e2:w64 ((b:Int) - (mid:Int))=((b - mid:Nat):Int):=by rw [w6Q]; omega
 by_cases hlt:mid - a < b - mid
 · obtain ⟨L,g1,g2,g3⟩:=c_pdq hI a mid d4 lim (by omega) q1 (by omega) (by omega) hP4 q4 hl; obtain ⟨hBL,hR⟩:=q6 L g2 g3; have hLs:L.size=d4.size:=g2.1; obtain ⟨R,r1,r2,r3⟩:=hI (mid+1) b L a0 lim (decide (w64 ((w64 ((b:Int) - (a:Int))).tdiv 8)≤w64 ((mid:Int) - (a:Int)))) flag (by omega) (by omega) (by omega) (by omega) (by omega) (hP4.perm q1 (by omega) g2) hBL hl; obtain ⟨z1,z2⟩:=hR R r2 r3; refine ⟨R,LW.t_pd_1020 _ _ _ _ _ _ _ _ ?_,z1,z2⟩; rw [row_eq hn,zbx hp,cPQ]; dsimp only; rw [show rA d=rA d4 from by rw [rA,rA,lenE,lenE,q3],zaV,if_pos (by rw [e1,e2]; omega),zbx g1,up1 (by omega)]; exact r1
 · obtain ⟨L,g1,g2,g3⟩:=c_pdq hI (mid+1) b d4 lim (by omega) (by omega) (by omega) (by omega) hP4 q5 hl; obtain ⟨hBL,hR⟩:=q7 L g2 g3; have hLs:L.size=d4.size:=g2.1; obtain ⟨R,r1,r2,r3⟩:=hI a mid L a0 lim (decide (w64 ((w64 ((b:Int) - (a:Int))).tdiv 8)≤w64 ((b:Int) - (mid:Int)))) flag (by omega) (by omega) (by omega) (by omega) (by omega) (hP4.perm (by omega) (by omega) g2) hBL hl; obtain ⟨z1,z2⟩:=hR R r2 r3; refine ⟨R,LW.t_pd_1020 _ _ _ _ _ _ _ _ ?_,z1,z2⟩; rw [row_eq hn,zbx hp,cPQ]; dsimp only; rw [show rA d=rA d4 from by rw [rA,rA,lenE,lenE,q3],zaV,if_neg (by rw [e1,e2]; omega),up1 (by omega),zbx g1]; exact r1
theorem k_1017 [Nonempty (Lw S)] (hc:Cmp lt P) (hW:SWO lt) (a0:List S.D.α) (a b m lim:Nat) (d:Array S.D.α) (wb wp:Bool) (hI:PdqOk lt P (b - a)) (hab:a+1 < b) (hb:b≤d.size) (hs:d.size < 256) (hn:a0.length=d.size) (hP:AllA P d) (hB:Below lt a b d) (hm:a≤m) (hm2:m < b) (hl:lim≤100):∃ d',zpV S a0 (a:Int) (b:Int) wb wp (Er d) (lim:Int) (m:Int)=some ((r_pd S).enc d'.toList)∧PermIn a b d d'∧SortedIn lt a b d':=by
 by_cases ha:0 < a
 · cases hlt:lt d[a - 1]! d[m]! with
   | false =>
     have hp:=zo9 hc d a b m hP hm hm2 hb (by omega); generalize hx:partitionEqual lt d a b m=r at hp; obtain ⟨mid,d4⟩:=r; obtain ⟨q1,q2,q3,q4,q5⟩:=round_eq hW (partitionEqual_holds lt) ha hm hm2 hb hB hlt hx
     have hge:∀ i,a≤i→i < b→lt d[i]! d[m]! = false:=fun i hi hi'=>by
      rcases hB with h0 | hB
      · omega
      · exact hW.ntrans _ _ _ (hB i hi hi') hlt
     have hperm:PermIn a b d (partitionEqual lt d a b m).2:=(partitionEqual_holds lt hW d a b m hm hm2 hb hge).2.2.1; rw [hx] at hperm; dsimp only at hp hperm; obtain ⟨R,r1,r2,r3⟩:=hI mid b d4 a0 lim wb wp (by omega) q2 (by omega) (by omega) (by omega) (hP.perm (by omega) hb hperm) q4 hl; obtain ⟨z1,z2⟩:=q5 R r2 r3; refine ⟨R,LW.t_pd_1017 _ _ _ _ _ _ _ _ ?_,z1,z2⟩; rw [row_eq hn,zap,zaV,iPQ,dn1 (by omega) (by omega),rdA hn (by omega),rdA hn (by omega),hc.stepN (hP _ (by omega)) (hP _ (by omega)),hlt,zaw,zbx hp]; exact r1
   | true=>obtain ⟨R,r1,r2⟩:=k_1020 hc hW a0 a b m lim d wb wp hI hab hb hs hn hP hB hm hm2 hl; refine ⟨R,LW.t_pd_1017 _ _ _ _ _ _ _ _ ?_,r2⟩; rw [row_eq hn,zap,zaV,iPQ,dn1 (by omega) (by omega),rdA hn (by omega),rdA hn (by omega),hc.stepN (hP _ (by omega)) (hP _ (by omega)),hlt,zaI]; exact r1
 · obtain ⟨R,r1,r2⟩:=k_1020 hc hW a0 a b m lim d wb wp hI hab hb hs hn hP hB hm hm2 hl; refine ⟨R,LW.t_pd_1017 _ _ _ _ _ _ _ _ ?_,r2⟩; rw [zaV,iNQ]; exact r1
theorem k_1017v1 [Nonempty (Lw S)] (hc:Cmp lt P) (hW:SWO lt) (a0:List S.D.α) (a b m lim:Nat) (d:Array S.D.α) (wb wp:Bool) (hI:PdqOk lt P (b - a)) (hab:a+1 < b) (hb:b≤d.size) (hs:d.size < 256) (hn:a0.length=d.size) (hP:AllA P d) (hB:Below lt a b d) (hm:a≤m) (hm2:m < b) (hl:lim≤100):∃ d',zf1 S a0 (a:Int) (b:Int) wb wp (Er d) (lim:Int) (m:Int)=some ((r_pd S).enc d'.toList)∧PermIn a b d d'∧SortedIn lt a b d':=by
 by_cases ha:0 < a
 · cases hlt:lt d[a - 1]! d[m]! with
   | false =>
     have hp:=zo9 hc d a b m hP hm hm2 hb (by omega); generalize hx:partitionEqual lt d a b m=r at hp; obtain ⟨mid,d4⟩:=r; obtain ⟨q1,q2,q3,q4,q5⟩:=round_eq hW (partitionEqual_holds lt) ha hm hm2 hb hB hlt hx
     have hge:∀ i,a≤i→i < b→lt d[i]! d[m]! = false:=fun i hi hi'=>by
      rcases hB with h0 | hB
      · omega
      · exact hW.ntrans _ _ _ (hB i hi hi') hlt
     have hperm:PermIn a b d (partitionEqual lt d a b m).2:=(partitionEqual_holds lt hW d a b m hm hm2 hb hge).2.2.1; rw [hx] at hperm; dsimp only at hp hperm; obtain ⟨R,r1,r2,r3⟩:=hI mid b d4 a0 lim wb wp (by omega) q2 (by omega) (by omega) (by omega) (hP.perm (by omega) hb hperm) q4 hl; obtain ⟨z1,z2⟩:=q5 R r2 r3; refine ⟨R,LW.t_pd_1017v1 _ _ _ _ _ _ _ _ ?_,z1,z2⟩; rw [row_eq hn,zap,zaV,iPQ,dn1 (by omega) (by omega),rdA hn (by omega),rdA hn (by omega),hc.stepN (hP _ (by omega)) (hP _ (by omega)),hlt,zaw,zbx hp]; exact r1
   | true=>obtain ⟨R,r1,r2⟩:=k_1020 hc hW a0 a b m lim d wb wp hI hab hb hs hn hP hB hm hm2 hl; refine ⟨R,LW.t_pd_1017v1 _ _ _ _ _ _ _ _ ?_,r2⟩; rw [row_eq hn,zap,zaV,iPQ,dn1 (by omega) (by omega),rdA hn (by omega),rdA hn (by omega),hc.stepN (hP _ (by omega)) (hP _ (by omega)),hlt,zaI]; exact r1
 · obtain ⟨R,r1,r2⟩:=k_1020 hc hW a0 a b m lim d wb wp hI hab hb hs hn hP hB hm hm2 hl; refine ⟨R,LW.t_pd_1017v1 _ _ _ _ _ _ _ _ ?_,r2⟩; rw [zaV,iNQ]; exact r1
theorem k_1015 [Nonempty (Lw S)] (hc:Cmp lt P) (hW:SWO lt) (a0:List S.D.α) (a b m lim:Nat) (d:Array S.D.α) (wb wp:Bool) (hI:PdqOk lt P (b - a)) (hab:a+1 < b) (hb:b≤d.size) (hs:d.size < 256) (hn:a0.length=d.size) (hP:AllA P d) (hB:Below lt a b d) (hm:a≤m) (hm2:m < b) (hl:lim≤100):∃ d',zlQ S a0 (a:Int) (b:Int) wb wp (Er d) (lim:Int) (m:Int)=some ((r_pd S).enc d'.toList)∧PermIn a b d d'∧SortedIn lt a b d':=by
 obtain ⟨R',r1',r2'⟩:=k_1017v1 hc hW a0 a b m lim d wb wp hI hab hb hs hn hP hB hm hm2 hl; obtain ⟨f,d2,hf,hp2,hfs⟩:=c_trial hc hW d a b hP (by omega) hb hs hB; have hs2:d2.size=d.size:=hp2.1; obtain ⟨R,r1,r2⟩:=k_1017 hc hW a0 a b m lim d2 wb wp hI hab (by omega) (by omega) (by omega) (hP.perm (by omega) hb hp2) (hB.perm hb hp2) hm hm2 hl; have hU:=fun y=>LW.t_pd_1015 a0 (a:Int) (b:Int) wb wp (Er d) (lim:Int) (m:Int) (y:=y)
 rw [row_eq hn,zbx hf,r1'] at hU; dsimp only at hU; rw [r1] at hU
 cases wb with
 | false=>exact ⟨R',hU _ rfl,r2'⟩
 | true =>
   cases wp with
   | false=>exact ⟨R',hU _ rfl,r2'⟩
   | true =>
     rw [zaI,zaI] at hU
     cases hh:((1:Nat) == 1) with
     | false=>rw [hh,zaw] at hU; exact ⟨R',hU _ rfl,r2'⟩
     | true =>
       rw [hh,zaI] at hU
       cases f with
       | false=>exact ⟨R,hU _ rfl,permIn_trans _ _ _ _ _ hp2 r2.1,r2.2⟩
       | true=>exact ⟨d2,hU _ rfl,hp2,hfs rfl⟩
theorem k_1015v1 [Nonempty (Lw S)] (hc:Cmp lt P) (hW:SWO lt) (a0:List S.D.α) (a b m lim:Nat) (d:Array S.D.α) (wb wp:Bool) (h:Int) (hI:PdqOk lt P (b - a)) (hab:a+1 < b) (hb:b≤d.size) (hs:d.size < 256) (hn:a0.length=d.size) (hP:AllA P d) (hB:Below lt a b d) (hm:a≤m) (hm2:m < b) (hl:lim≤100):∃ d',znk S a0 (a:Int) (b:Int) wb wp (Er d) (lim:Int) (m:Int) h=some ((r_pd S).enc d'.toList)∧PermIn a b d d'∧SortedIn lt a b d':=by
 obtain ⟨R',r1',r2'⟩:=k_1017v1 hc hW a0 a b m lim d wb wp hI hab hb hs hn hP hB hm hm2 hl; obtain ⟨f,d2,hf,hp2,hfs⟩:=c_trial hc hW d a b hP (by omega) hb hs hB; have hs2:d2.size=d.size:=hp2.1; obtain ⟨R,r1,r2⟩:=k_1017 hc hW a0 a b m lim d2 wb wp hI hab (by omega) (by omega) (by omega) (hP.perm (by omega) hb hp2) (hB.perm hb hp2) hm hm2 hl; have hU:=fun y=>LW.t_pd_1015v1 a0 (a:Int) (b:Int) wb wp (Er d) (lim:Int) (m:Int) h (y:=y)
 rw [row_eq hn,zbx hf,r1'] at hU; dsimp only at hU; rw [r1] at hU
 cases wb with
 | false=>exact ⟨R',hU _ rfl,r2'⟩
 | true =>
   cases wp with
   | false=>exact ⟨R',hU _ rfl,r2'⟩
   | true =>
     rw [zaI,zaI] at hU
     cases hh:(h == 1) with
     | false=>rw [hh,zaw] at hU; exact ⟨R',hU _ rfl,r2'⟩
     | true =>
       rw [hh,zaI] at hU
       cases f with
       | false=>exact ⟨R,hU _ rfl,permIn_trans _ _ _ _ _ hp2 r2.1,r2.2⟩
       | true=>exact ⟨d2,hU _ rfl,hp2,hfs rfl⟩
theorem ks_1010 [Nonempty (Lw S)] (hc:Cmp lt P) (hW:SWO lt) (a0:List S.D.α) (a b lim:Nat) (d:Array S.D.α) (wb wp:Bool) (hI:PdqOk lt P (b - a)) (hab:a+1 < b) (hb:b≤d.size) (hs:d.size < 256) (hn:a0.length=d.size) (hP:AllA P d) (hB:Below lt a b d) (hl:lim≤100) (hl1:1≤lim):∃ d',ztQ S a0 (a:Int) (b:Int) (lim:Int) wb wp d.toList=some ((r_pd S).enc d'.toList)∧PermIn a b d d'∧SortedIn lt a b d':=by
 obtain ⟨m,h,hp,hm,hm2,hh⟩:=zsC hc d hP a b (by omega) hb (by omega); have hU:=fun y=>LW.t_pd_1010 a0 (a:Int) (b:Int) (lim:Int) wb wp d.toList (y:=y)
 have ht:List.take ((List.map S.D.enc a0).length) (List.map S.D.enc d.toList)=Er d:=zcN (by simp [hn]); rw [zan (by simp [hn]),ht,zbx hp,row_eq hn] at hU; dsimp only at hU; by_cases h2:h=2
 · have hr:=zx7 d a b (by omega) hb (by omega); have hrp:=reverseRange_holds d a b (by omega) hb
   have e:w64 (w64 ((b:Int) - 1) - w64 ((m:Int) - (a:Int)))=((b - 1 - (m - a):Nat):Int):=by rw [w6Q (n:=(b:Int) - 1),w6Q (n:=(m:Int) - a),w6Q]; omega
   obtain ⟨R,r1,r2,r3⟩:=k_1015 hc hW a0 a b (b - 1 - (m - a)) (lim - 1) (reverseRange d a b) wb wp hI hab (by rw [hrp.1]; exact hb) (by rw [hrp.1]; exact hs) (by rw [hrp.1]; exact hn) (hP.perm (by omega) hb hrp) (hB.perm hb hrp) (by omega) (by omega) (by omega); rw [h2,zbx hr,e] at hU; refine ⟨R,hU _ ?_,permIn_trans _ _ _ _ _ hrp r2,r3⟩; show zlQ S a0 (a:Int) (b:Int) wb wp (Er (reverseRange d a b)) _ _=_; rw [dn1 hl1 (by omega)]; exact r1
 · obtain ⟨R,r1,r2⟩:=k_1015v1 hc hW a0 a b m (lim - 1) d wb wp h hI hab hb hs hn hP hB hm hm2 (by omega); rw [beq_false_of_ne h2,zaw] at hU; refine ⟨R,hU _ ?_,r2⟩; rw [dn1 hl1 (by omega)]; exact r1
theorem k_1010v1 [Nonempty (Lw S)] (hc:Cmp lt P) (hW:SWO lt) (a0:List S.D.α) (a b lim:Nat) (d:Array S.D.α) (wb wp:Bool) (hI:PdqOk lt P (b - a)) (hab:a+1 < b) (hb:b≤d.size) (hs:d.size < 256) (hn:a0.length=d.size) (hP:AllA P d) (hB:Below lt a b d) (hl:lim≤100):∃ d',zqq S a0 (Er d) (a:Int) (b:Int) (lim:Int) wb wp=some ((r_pd S).enc d'.toList)∧PermIn a b d d'∧SortedIn lt a b d':=by
 obtain ⟨m,h,hp,hm,hm2,hh⟩:=zsC hc d hP a b (by omega) hb (by omega); have hU:=fun y=>LW.t_pd_1010v1 a0 (Er d) (a:Int) (b:Int) (lim:Int) wb wp (y:=y)
 have ht:List.take ((List.map S.D.enc a0).length) (List.map S.D.enc d.toList)=Er d:=zcN (by simp [hn]); rw [zan (by simp [hn]),ht,zbx hp,row_eq hn] at hU; dsimp only at hU; by_cases h2:h=2
 · have hr:=zx7 d a b (by omega) hb (by omega); have hrp:=reverseRange_holds d a b (by omega) hb
   have e:w64 (w64 ((b:Int) - 1) - w64 ((m:Int) - (a:Int)))=((b - 1 - (m - a):Nat):Int):=by rw [w6Q (n:=(b:Int) - 1),w6Q (n:=(m:Int) - a),w6Q]; omega
   obtain ⟨R,r1,r2,r3⟩:=k_1015 hc hW a0 a b (b - 1 - (m - a)) (lim) (reverseRange d a b) wb wp hI hab (by rw [hrp.1]; exact hb) (by rw [hrp.1]; exact hs) (by rw [hrp.1]; exact hn) (hP.perm (by omega) hb hrp) (hB.perm hb hrp) (by omega) (by omega) (by omega); rw [h2,zbx hr,e] at hU; refine ⟨R,hU _ ?_,permIn_trans _ _ _ _ _ hrp r2,r3⟩; show zlQ S a0 (a:Int) (b:Int) wb wp (Er (reverseRange d a b)) _ _=_; exact r1
 · obtain ⟨R,r1,r2⟩:=k_1015v1 hc hW a0 a b m (lim) d wb wp h hI hab hb hs hn hP hB hm hm2 (by omega); rw [beq_false_of_ne h2,zaw] at hU; refine ⟨R,hU _ ?_,r2⟩; exact r1
theorem k_pdq [Nonempty (Lw S)] (hc:Cmp lt P) (hW:SWO lt):∀ n,PdqOk lt P n:=by
 intro n
 induction n with
 | zero=>intro a b d a0 lim wb wp h; omega
 | succ n ih =>
   intro a b d a0 lim wb wp h hab hb hs hn hP hB hl; have hI:PdqOk lt P (b - a):=fun a' b' d' a0' lim' wb' wp' h'=>ih a' b' d' a0' lim' wb' wp' (by omega)
   have e0:w64 ((b:Int) - (a:Int))=((b - a:Nat):Int):=by rw [w6Q]; omega
   by_cases h12:b - a≤12
   · have hi:=insertionSort_holds hW d a b hab hb; refine ⟨insertionSort lt d a b,LW.t_pd_1 _ _ _ _ _ _ _ ?_,hi.1,hi.2⟩; rw [e0,zaV,iPQ,row_eq hn,zbx (zAh hc d a b hP hab hb (by omega))]; rfl
   · by_cases h0:lim=0
     · have hi:=heapSort_holds hW d a b hab hb; refine ⟨heapSort lt d a b,LW.t_pd_1 _ _ _ _ _ _ _ ?_,hi.1,hi.2⟩; rw [e0,zaV,iNQ,h0,row_eq hn,zbx (c_heap hc d a b hP (by omega) hb (by omega))]; rfl
     · cases wb with
       | false=>obtain ⟨d1,g1,g2⟩:=c_break d a b hab hb hs; have hs1:d1.size=d.size:=g2.1; obtain ⟨R,r1,r2,r3⟩:=ks_1010 hc hW a0 a b lim d1 false wp hI (by omega) (by omega) (by omega) (by omega) (hP.perm hab hb g2) (hB.perm hb g2) hl (by omega); refine ⟨R,LW.t_pd_1 _ _ _ _ _ _ _ ?_,permIn_trans _ _ _ _ _ g2 r2,r3⟩; rw [e0,zaV,iNQ,beq_false_of_ne (by omega),zaw,zcx,zaI,row_eq hn,zbx g1]; exact r1
       | true=>obtain ⟨R,r1,r2,r3⟩:=k_1010v1 hc hW a0 a b lim d true wp hI (by omega) (by omega) (by omega) (by omega) hP hB hl; refine ⟨R,LW.t_pd_1 _ _ _ _ _ _ _ ?_,r2,r3⟩; rw [e0,zaV,iNQ,beq_false_of_ne (by omega),zaw,zbO,zaw]; exact r1
theorem c_SortFunc [Nonempty (Lw S)] (hc:Cmp lt P) (hW:SWO lt) (l:List S.D.α) (hP:∀ x∈l,P x) (hs:l.length < 256):∃ l':List S.D.α,cw S.so.f [.row 1000 S.z 0 (List.map S.D.enc l).length,.fn S.fc []] [(1000,⟨S.z,S.ty,List.map S.D.enc l,false⟩)]=some ((r_so S).enc l')∧l'.Perm l∧l'.Pairwise (fun x y=>lt y x=false):=by
 have hPA:AllA P l.toArray:=by
  intro i hi
  have:l.toArray[i]! = l[i]'(by simpa using hi):=by rw [getElem!_pos l.toArray i hi]; simp
  rw [this]; exact hP _ (zbg _)
 have hsz:l.toArray.size=l.length:=by simp
 obtain ⟨d',g1,g2,g3⟩:=c_pdq (k_pdq hc hW 256) 0 l.length l.toArray (bitsLen l.length) (by omega) (by omega) (by omega) (by omega) hPA (Or.inl rfl) (by have:=zuY hs; omega); refine ⟨d'.toList,LW.e_so l ?_,?_,?_⟩
 · rw [zap,zlY (by omega) (by omega),zbx (c_Len l.length hs)]; have hr:rA l.toArray=AV.row 1000 S.z 0 l.length:=by simp [rA]
   rw [hr] at g1; rw [show ((0:Nat):Int)=0 from rfl] at g1; rw [zbx g1]; rfl
 · have h:=g2.2.2
   have e1:d'.extract 0 l.length=d':=by
    have:d'.size=l.length:=by rw [g2.1]; simp
    rw [← this]; simp
   have e2:l.toArray.extract 0 l.length=l.toArray:=by simp
   rw [e1,e2] at h; simpa using h
 · have hd:d'.size=l.length:=by rw [g2.1]; simp
   rw [zvD]; intro i j hi hj hij; have hi':i < d'.size:=by simpa using hi
   have hj':j < d'.size:=by simpa using hj
   have:=g3 i j (by omega) hij (by omega); rw [getElem!_pos d' i hi',getElem!_pos d' j hj'] at this; simpa using this
end
end Go.Proofs.YtikogkgdkdmljaaGreat.SX
end
