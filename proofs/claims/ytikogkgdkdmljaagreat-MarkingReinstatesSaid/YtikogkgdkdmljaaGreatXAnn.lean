/- Annotations of the seat's functions: what lives behind each region, which slots own rows, which arguments are written; how results read. -/
import Derived.Test.YtikogkgdkdmljaaGreatXTy
import Derived.Test.YtikogkgdkdmljaaGreatProg
import Derived.Test.YtikogkgdkdmljaaGreatXSp
noncomputable section
namespace Go.Proofs.YtikogkgdkdmljaaGreat
open Go.Ab
abbrev LL:=List (List AV)
def zC:Cfg:={ wrt:=atReg [(12,[0]),(13,[0]),(14,[0]),(15,[1]),(16,[0,1]),(26,[0]),(31,[1]),(33,[0]),(34,[0]),(35,[0]),(36,[0]),(37,[0]),(38,[0]),(39,[0]),(42,[0]),(45,[0]),(56,[0]),(60,[0]),(61,[0]),(62,[0]),(63,[0]),(64,[0]),(71,[0]),(72,[0]),(80,[0]),(86,[0]),(100,[0]),(109,[0]),(110,[0]),(111,[0]),(113,[0]),(114,[0]),(115,[0]),(116,[0]),(123,[0]),(124,[0]),(125,[0]),(127,[0]),(128,[0]),(129,[0]),(130,[0]),(139,[0]),(140,[0]),(141,[0]),(143,[0]),(144,[0]),(145,[0]),(146,[0]),(155,[0]),(157,[0]),(158,[2]),(159,[4]),(163,[0]),(164,[2]),(165,[4]),(171,[0]),(172,[2]),(173,[4]),(175,[3]),(176,[3]),(178,[3])],orc:=zOrc,dp:=fun f=>(atReg [(108,[0]),(75,[0]),(78,[0])] f).head? }
def zp7:zal→Mem:=fun x=>[(1000,⟨14,zbh,[[I x.level,.row 900 10 0 (List.map zeb.enc x.marks).length,I x.period,I x.started.Time,I x.started.Source,I x.started.Seq,.map 901,.sl 1 (List.map dBool.enc x.watch.Last),B x.watch.Suspended,I x.good.Time,I x.good.Source,I x.good.Seq,B x.some,.row 902 12 0 (List.map zde.enc x.suspensions).length]],true⟩),(900,⟨10,133,List.map zeb.enc x.marks,false⟩),(901,⟨0,108,List.map zfj.enc x.noted,false⟩),(902,⟨12,61,List.map zde.enc x.suspensions,false⟩)]
abbrev zna:MD:=⟨zal,zp7,by
 intro x y h; simp only [zp7,zbC,zaS,Ent.mk.injEq,AV.v.injEq,AV.row.injEq,AV.sl.injEq,Value.int.injEq,Value.bool.injEq,Value.string.injEq,true_and,and_true,and_assoc,TyD.minj dBool,TyD.minj zfj,TyD.minj zde,TyD.minj zeb] at h
 exact (zal.eqOf (h.1) (h.2.2.2.2.2.2.2.2.2.2.2.2.2.1) (h.2.2.1) (zaW.eqOf (h.2.2.2.1) (h.2.2.2.2.1) (h.2.2.2.2.2.1)) (h.2.2.2.2.2.2.2.2.2.2.2.2.2.2.1) (ze2.eqOf (h.2.2.2.2.2.2.1) (h.2.2.2.2.2.2.2.1)) (zaW.eqOf (h.2.2.2.2.2.2.2.2.1) (h.2.2.2.2.2.2.2.2.2.1) (h.2.2.2.2.2.2.2.2.2.2.1)) (h.2.2.2.2.2.2.2.2.2.2.2.1) (h.2.2.2.2.2.2.2.2.2.2.2.2.2.2.2))⟩
def anK (l:List Nat) (v:List (List Nat)) (o:List (Nat×List (Nat×Nat×TypeId))):Ann:={ lits:=l,live:=fun i=>v[i]?,own:=atReg o }
def zvn:Ann:={ anK [] [[0],[0,14],[2],[3],[3,4],[3,4,5],[3,4,5,6,7],[4,5,6,7,8,9],[6,7,8,9,10,11],[2]] [(5,[(5,9,64)])] with fz:=atReg [(7,[5])] }
def zwt:Ann:=anK [] [[0],[0,23],[2],[3],[3,4],[4,5],[4,5,6,7],[4,5,6,43],[2],[4,6,8],[4,6,8,47,48,49],[4,6,8,47,48,49,50],[4,6,8,9,10,47,48,49],[4,6,8,9,10,11,12,47,48,49],[4,6,8,9,10,11,12,14,47,48,49],[4,6,8,9,10,11,47,48,49,91],[2],[4,6,8,9,10,11,47,48,49,93],[4,6,8,10,11,15,47,48,49],[4,6,8,10,11,47,48,49,132],[2],[4,6,8,10,11,47,48,49,134,135,136],[4,6,8,10,11,47,48,49,134,135,136,137],[4,6,8,10,11,17,47,48,49,134,135,136],[4,6,8,10,11,47,48,49,134,135,136,164],[2],[4,6,8,10,11,47,48,49,134,135,136],[4,6,8,10,11,18,47,48,49],[4,6,8,10,11,18,47,48,49,166,167,168],[4,6,8,10,11,18,47,48,49,166,167,168,169],[4,6,8,10,11,18,20,47,48,49,166,167,168],[4,6,8,10,11,18,47,48,49,166,167,168],[4,6,8,10,11,18,47,48,49,166,167,168],[4,6,8,47,48,49,215],[2],[4,6,8,47,48,49],[2]] [(5,[(5,9,64)])]
def zvm:Ann:=anK [] [[0],[0,23],[2],[3],[3,4],[4,5],[4,5,6,7],[4,5,6,44],[2],[4,5,6,46,47,48],[4,5,6,46,47,48,49],[4,5,6,9,46,47,48],[4,5,6,9,10,46,47,48],[4,5,6,9,10,46,47,48,52,53,54],[4,5,6,9,10,46,47,48,52,53,54,55],[4,5,6,9,10,12,46,47,48,52,53,54],[4,5,6,9,10,12,46,47,48,52,53,54,68],[4,5,6,9,10,46,47,48,52,53,54],[4,5,6,9,10,46,47,48,52,53,54],[4,5,6,9,13,14,46,47,48],[4,5,6,9,13,14,15,46,47,48],[4,5,6,9,13,14,15,16,46,47,48],[4,5,6,9,13,14,15,16,46,47,48,81,82,83],[4,5,6,9,13,14,15,16,46,47,48,81,82,83,84],[4,5,6,9,13,14,15,16,18,46,47,48,81,82,83],[4,5,6,9,13,14,15,16,18,46,47,48,81,82,83,91],[4,5,6,9,13,14,15,16,46,47,48,81,82,83],[4,5,6,9,13,14,15,16,46,47,48,81,82,83],[4,5,6,9,13,14,15,16,46,47,48,98,99,100],[4,5,6,9,13,14,15,16,46,47,48,98,99,100,101],[4,5,6,9,13,14,15,16,20,46,47,48,98,99,100],[4,5,6,9,13,14,15,16,20,46,47,48,98,99,100,108],[4,5,6,9,13,14,15,16,46,47,48,98,99,100],[4,5,6,9,13,14,15,16,46,47,48,98,99,100],[4,5,6,46,47,48,123],[2],[4,5,6,46,47,48],[2]] [(12,[(10,9,64)]),(17,[(10,9,64)]),(20,[(15,8,51)]),(21,[(16,12,61)]),(26,[(15,8,51)]),(32,[(16,12,61)])]
def zvo:Ann:=anK [] [[0],[0,27],[2],[3],[3,4],[4,5],[4,5,6,7],[4,5,6,7,41,42,43],[4,5,6,7,41,42,43,44],[4,5,6,7,9,41,42,43],[4,5,6,7,9,11,41,42,43],[4,5,6,7,9,41,42,43,60],[4,5,6,7,9,41,42,43],[4,5,6,7,9,41,42,43,67],[4,5,6,7,41,42,43],[4,5,6,7,41,42,43],[4,6,7,12,13],[4,7,12,13,14,15],[4,7,12,13,14,15],[4,7,12,13,14,15,16,17],[4,7,16,117],[2],[4,7,16,18],[4,16,18,119,120,121],[4,16,18,119,120,121,122],[4,16,18,20,119,120,121],[4,16,18,20,119,120,121,127],[4,16,18,119,120,121],[4,16,18,119,120,121],[16,18,145],[2],[18,147,148,149],[18,147,148,149,150],[18,22,147,148,149],[18,22,23,24,147,148,149],[18,147,148,149,172],[2],[18,147,148,149],[2]] [(6,[(6,9,64),(7,9,64)]),(12,[(6,9,64)]),(14,[(7,9,64)])]
def ztE:Ann:=anK [] [[0,1],[0,1,19],[4],[1,5],[1,5,6],[1,5,6,7],[1,5,6,7,31],[4],[5,6,7,8],[6,7,8,9],[6,7,8,9,10,11],[8,9,10,11,12,13],[8,9,10,11,12,13,14],[8,9,10,11,12,13,14,67,68,69],[8,9,10,11,12,13,14,67,68,69,70],[8,9,10,11,12,13,14,16,67,68,69],[8,9,10,11,12,13,14,16,67,68,69,88],[8,9,10,11,12,13,14,67,68,69],[8,9,10,11,12,13,14,67,68,69],[4]] [(12,[(14,8,51)]),(17,[(14,8,51)])]
def zrQ:Ann:=anK [] [[0,1],[0,1,29],[4],[1,5],[1,5,6],[1,6,7],[1,6,7,8,9],[6,7,8,9,10],[6,7,8,9,10,11],[6,7,8,9,10,11,12],[6,7,8,9,10,11,12,13,14],[6,7,8,9,10,11,13,14,15,16],[6,7,8,10,11,13,113],[4],[6,7,10,11,13,17],[6,7,10,11,17,129],[4],[6,7,10,11,17,131,132,133],[6,7,10,11,17,131,132,133,134],[6,7,10,11,17,19,131,132,133],[6,7,10,11,17,19,21,131,132,133],[6,7,10,11,17,19,131,132,133,153],[6,7,10,11,17,19,22,131,132,133],[6,7,10,11,17,19,22,23,24,131,132,133],[6,7,10,11,17,19,23,24,25,26,131,132,133],[6,7,10,11,17,131,132,133,205],[4],[6,7,10,11,17,131,132,133],[4]] []
def zgJ:Ann:=anK [] [[0],[2]] []
def zCN:Ann:=anK [13] [[],[1],[1,2,3],[1,2,3,4,5],[1,2,3,4,5],[2,3,4,5,6,7],[0]] [(1,[(1,9,64)]),(4,[(1,9,64)])]
def zx7:Ann:={ anK [] [[0,2],[0,2,3,4],[0,2,3,5],[0,2,3,5,6],[0,2,3,5,6,26],[0,2,3,5,6],[0,2,3,5,6,30],[0,2,3,5,6],[2]] [] with cel:=fun _=>[(5,4,900,2,90)] }
def zwQ:Ann:=anK [] [[0,2,4],[0,2,4,7],[0,2,4,7,8],[0,2,4,7,8,13],[0,2,4,7,8],[0,2,4,7,8,9],[0,2,4,7,8,9,22],[0,2,4,7,8],[0,2,4,7,8,9,22,31],[0,2,4,7,8],[0,2,4,7,8,9,22,50],[0,2,4,7,8,9,55],[0,2,4,7,8],[0,2,4,7,8,9,22,76],[0,2,4,7,8,80],[0,2,4,7,8],[0,2,4,7,8,9,91],[0,2,4,7,8,95],[0,2,4,7,8,10],[0,2,4,7,8,10],[0,2,4,7,8],[6]] [(1,[(7,9,64)]),(7,[(7,9,64)]),(9,[(7,9,64)]),(12,[(7,9,64)]),(15,[(7,9,64)]),(20,[(7,9,64)])]
def zzk:Ann:=anK [] [[0,2,4],[0,2,4,7],[0,2,4,7,8],[0,2,4,7,8,17],[0,2,4,7,8],[0,2,4,7,8,9],[0,2,4,7,8,9,10],[0,2,4,7,8,9,10,32],[0,2,4,7,8,9,10],[0,2,4,7,8,9,10,11],[0,2,4,7,8,9,10,11,39],[0,2,4,7,8,9,10,11],[0,2,4,7,8,9,10,11,53],[0,2,4,7,8,9,10,11,12],[0,2,4,7,8,9,10,11],[6]] [(1,[(7,9,64)]),(14,[(7,9,64)])]
def zBb:Ann:={ anK [] [[1,2,4],[1,2,4,17],[4,5],[2,4,6,7],[2,4,6,7,25],[4,5],[4,8,9],[4,8,9,10],[4,9,10,34,35],[4,9,10,34,35,36],[4,9,10,11,12,34,35],[4,9,10,11,12,34,35,42],[4,9,10,11,12,34,35],[4,9,10,11,12,34,35,54],[4,9,10,11,12,34,35,54,56],[4,9,10,11,12,14,34,35,54],[4,9,10,11,12,34,35,54],[4,9,10,34,35],[4,10],[4,5]] [] with cel:=fun _=>[(10,0,301,8,51),(10,1,302,12,61)] }
def zvp:Ann:=anK [] [[0,1],[0,1,5],[0,1,5,6],[0,1,5,6,15],[0,1,5,6],[0,1,5,6,7],[0,1,5,6],[0,1,5,8],[0,1,5,8,39],[0,1,5,8],[0,1,5,8,43],[0,1,5,8],[4]] [(1,[(5,9,64)]),(11,[(5,9,64)])]
def zzj:Ann:={ anK [] [[0],[3],[2]] [] with frz:=true }
def zCU:Ann:=anK [] [[2,3],[2,3,22],[4],[2,3,5],[2,3,5,27],[2,3,5],[2,3,5,40],[4],[2,3,6],[2,3,6,45],[2,3,6],[2,3,6,58],[4],[4]] []
def zux:Ann:=anK [] [[0,1,4],[0,1,4,6],[0,1,4,6,10],[0,1,4,6],[0,1,4,6,19],[4,5],[4,5]] []
def zwY:Ann:=anK [] [[0,1],[0,1,6],[0,1,6,10],[0,1,6],[0,1,6,19],[4,5],[4,5]] [(0,[(4,1,3)]),(5,[(4,1,3)]),(6,[(4,1,3)])]
def zsE:Ann:=anK [] [[0,1,5],[5,7,8],[6]] []
def zwx:Ann:=anK [] [[3,4,5],[6]] []
def zCQ:Ann:=anK [] [[2,3],[2,3,5],[4],[2,3,16],[4],[4]] []
def zye:Ann:=anK [] [[0,1],[0,1,10],[4],[0,1,5],[0,1,5,14],[0,1,5],[0,1,5,25],[4],[4]] []
def zCS:Ann:=anK [] [[2,3],[2,3,5,6],[2,3,5,33],[4],[2,3,5,7],[4]] []
def zzm:Ann:=anK [] [[0,1],[0,1,19],[4],[0,1,5],[1,5],[1,5,40],[5],[4]] []
def zwg:Ann:=anK [] [[0,1],[0,1,10],[4],[0,1,12,13],[0,1,12,13,14],[0,1,5,12,13],[0,1,12,13,24],[4],[0,1,12,13],[4]] []
def zA9:Ann:=anK [] [[1,2,3],[1,11,12,13],[1,11,12,13,14],[1,8,11,12,13],[1,11,12,13,26],[6],[1,11,12,13],[6]] []
def a_law29_at:Ann:=anK [] [[0,1,2,6],[6]] []
def zCa:Ann:={ anK [12,13] [[0],[0,1],[0,1],[0,1,2],[0,1,2,18],[0,1,2],[0,1,2],[0,1],[0]] [] with cel:=fun _=>[(1,1,900,7,53)] }
def zwV:Ann:=anK [] [[1,2],[1,2,20],[4,5],[2,6,7],[2,6,7,27],[4,5],[8,9],[8,9,10],[9,10,35,36],[9,10,35,36,37],[9,10,11,12,35,36],[9,10,11,12,35,36,43],[9,10,11,12,13,35,36],[9,10,11,13,35,36,50,51,52],[9,10,11,13,35,36,50,51,52,53],[9,10,11,13,15,35,36,50,51,52],[9,10,11,13,15,17,35,36,50,51,52],[9,10,11,13,15,35,36,50,51,52,73],[9,10,11,13,35,36,50,51,52],[9,10,11,13,35,36,50,51,52],[9,10,35,36],[10],[4,5]] [(7,[(10,2,136)]),(18,[(10,2,136)])]
def zwU:Ann:=anK [] [[1,2,3],[1,2,3,7],[1,2,7,11,12,13],[1,2,7,11,12,13,14],[1,2,7,9,11,12,13],[1,2,7,9,11,12,13,26],[1,2,7,11,12,13],[1,2,7,11,12,13],[6]] [(1,[(7,8,51)]),(6,[(7,8,51)])]
def zwR:Ann:=anK [9] [[0],[0,4],[0,4,11],[0,4],[0,4,18],[0,4],[0,4,5],[0,4,5,6],[0,4,5,6,27],[0,4,5,6],[0,4,5,6],[2,3]] [(1,[(4,3,95)]),(3,[(4,3,95)]),(5,[(4,3,95)]),(6,[(5,2,131)]),(10,[(5,2,131)])]
def zwu:Ann:=anK [] [[0],[0,3],[0,3,4],[0,3,4,5],[0,3,4,5,10],[0,3,4,5],[0,3,4,5],[0,3,4,5],[2]] [(1,[(3,5,67)]),(7,[(3,5,67)])]
def zww:Ann:=anK [] [[0,1,2],[0,1,2,7],[0,1,2,7,8],[0,1,2,7,8,13],[0,1,2,7,8],[0,1,2,7,8,9],[0,1,2,7,8,9,10],[0,1,2,7,8,9,10,19],[0,1,2,7,8,9,10],[0,1,2,7,8,9,10,28],[0,1,2,7,8,9,10],[0,1,2,7,8,9,11],[0,1,2,7,8,9,11,43],[0,1,2,7,8,9,11],[0,1,2,7,8,9,11,48],[0,1,2,7,8,9,11],[6]] [(1,[(7,7,53)]),(5,[(9,3,95)]),(10,[(9,3,95)]),(15,[(7,7,53)])]
def zwv:Ann:=anK [] [[0,2],[0,2,3],[2]] []
def zig:Ann:=anK [] [[0,1],[4]] []
def zzn:Ann:={ anK [] [[0,1,5,6],[0,1,5,6,7],[0,6,7,8],[0,6,7,8,9],[0,6,7,8,9,20],[0,6,7,8,9],[0,6,7,8,9],[6]] [] with cel:=fun _=>[(7,1,900,1,3)] }
def zzl:Ann:={ anK [] [[0,2,3,5,8],[0,2,3,5,8,9],[0,5,8,10],[0,5,8,10,31],[8],[0,5,8,10,11],[0,8,10,11,12],[0,8,10,11,12],[0,8,10,11],[0,8,10],[8,10,72],[8,10],[8]] [] with cel:=fun _=>[(10,8,900,1,3)] }
def zCO:Ann:=anK [] [[0,3,4],[0,3,4,5],[0,3,4,5,9],[0,3,4,5],[0,3,4,5,29],[4],[4]] []
def zAb:Ann:=anK [] [[1],[33],[2],[2]] []
def zwz:Ann:=anK [] [[0],[0,4],[0,4,10],[0,4,10,12],[0,4,6,10],[0,4,6,10,17],[0,4,10],[4,28],[2,3],[4],[4,32,33],[4,32,33,34],[4,7,32,33],[4,32,33],[4,32,33],[2,3]] [(1,[(4,9,64)]),(6,[(4,9,64)])]
def zBc:Ann:={ anK [] [[1,2],[1,2,6],[1,2,6,20,21,22],[1,2,6,20,21,22,23],[1,2,6,8,20,21,22],[1,2,6,20,21,22],[1,2,6,20,21,22],[1,2,6,9],[2,6,9,38,39,40],[2,6,9,38,39,40,41],[2,6,9,11,38,39,40],[2,6,9,11,38,39,40,45],[2,6,9,11,38,39,40,45,46],[2,6,9,11,12,38,39,40],[2,6,9,11,12,38,39,40,55],[2,6,9,38,39,40],[2,6,9,11,38,39,40,45,60],[2,6,9,38,39,40],[2,6,9,11,38,39,40,70],[2,6,9,11,13,14,38,39,40],[2,6,9,11,13,14,38,39,40,80],[2,6,9,11,13,14,15,16,38,39,40],[2,6,9,11,13,14,15,38,39,40,88],[2,6,9,38,39,40],[2,6,9,38,39,40],[2,6,9,38,39,40],[4,5]] [] with cel:=fun _=>[(33,1,301,10,133),(33,6,302,1,0),(33,7,1000,1,0),(33,13,303,12,61)] }
def zta:Ann:=anK [] [[0,1],[0,1,5],[0,1,5,12,13,14],[0,1,5,12,13,14,15],[0,1,5,7,12,13,14],[0,1,5,7,12,13,14,32],[0,1,5,12,13,14],[0,1,5,12,13,14],[4]] []
def zfX:Ann:=anK [] [[0,1,4],[]] []
def zdq:Ann:=anK [] [[2,3],[4]] []
def zyd:Ann:={ anK [] [[0],[0,4,5],[0,4,5,6],[0,4,5,6,7],[0,4,5,6,7,20],[0,4,5,6,7],[0,4,5,6,7,8],[0,4,5,6,7,8,9,10],[0,4,5,6,7,53],[0,4,5,6,7,11],[0,4,5,6,7,11],[0,4,5,6,7],[6,68],[2,3],[2,3]] [(2,[(6,9,64)]),(11,[(6,9,64)])] with fz:=atReg [(10,[60])],cel:=fun _=>[(11,8,900,1,3)] }
def zCP:Ann:=anK [] [[2,3],[2,3,5],[2,3,5,10],[2,3,5],[2,3,5,20],[4],[4]] []
def zuv:Ann:=anK [] [[1,2,3],[4]] []
def zCd:Ann:=anK [] [[0,3],[0,3,6],[0,3,6,10],[0,3,6],[0,3,6,30],[4,5],[4,5]] []
def zCT:Ann:=anK [] [[1,2],[4]] []
def zyc:Ann:=anK [] [[2,3,4,5],[2,3,4,24],[8],[2,3,4,9],[3,9,37],[8],[8]] []
def zCM:Ann:=anK [] [[0],[0,3],[3,6,7,8],[3,6,7,8,9],[3,5,6,7,8],[3,5,6,7,8,14],[2],[3,6,7,8],[2]] []
def zx4:Ann:=anK [] [[0,1],[0,1,5],[0,1,5,6],[0,1,6,11],[12],[4],[4],[0,1,13],[4],[0,1,16],[4],[19],[4],[4]] []
def zop:Ann:=anK [] [[0],[0,8],[2],[0,3],[0,3,13],[0,3],[0,3,25],[0,3,4],[0,3,4,5],[0,3,4,5,32],[0,3,4,5],[0,3,4,5,44],[0,3,4,5],[0,3,4,5],[0,3],[2],[2]] []
def zx6:Ann:={ anK [14] [[0,1,2,6],[0,6,7],[0,6,7,18],[0,6,7],[0,6,7,32],[6,7],[6]] [] with cel:=fun _=>[(7,2,900,6,98)] }
def zwS:Ann:=anK [] [[0,3,4],[0,3,4,5],[0,3,4,5,16],[4,5],[4]] []
def zwT:Ann:={ anK [30] [[0,2,4,6],[0,4,6,7],[0,4,6,7,8],[0,4,6,7,8,36],[0,4,6,7,8],[0,4,6,7,8,9],[0,4,6,7,8,9,45],[0,4,6,7,8,9],[0,4,6,7,8],[6]] [] with cel:=fun _=>[(7,6,900,1,3)] }
def zBa:Ann:=anK [] [[0],[0,7],[2],[0,8,9,10],[0,8,9,10,11],[0,3,4,8,9,10],[0,3,4,8,9,10,17],[2],[0,8,9,10,36],[2],[0,8,9,10],[2]] []
def zuu:Ann:=anK [] [[0],[0,7],[2],[0,8,9,10],[0,8,9,10,11],[0,3,4,8,9,10],[0,3,4,8,9,10,48],[2],[0,3,4,8,9,10,63],[2],[0,8,9,10,76],[2],[0,8,9,10],[2]] []
def zuw:Ann:=anK [] [[1],[1,17],[2],[1,19,20,21],[1,19,20,21,22],[1,3,4,19,20,21],[1,19,20,21,33],[2],[1,19,20,21],[2]] []
def ztG:Ann:=anK [] [[1],[1,10,11,12],[1,10,11,12,13],[1,4,10,11,12],[1,4,5,6,10,11,12],[1,4,5,10,11,12,23],[2],[1,8,10,11,12],[1,10,11,12,41],[2],[1,10,11,12],[2]] []
def zvu:Ann:=anK [] [[1],[1,10],[2],[1,12,13,14],[1,12,13,14,15],[1,3,4,12,13,14],[1,4,12,13,14,32],[2],[1,4,5,6,12,13,14],[1,12,13,14,52],[2],[1,12,13,14],[2]] []
def zAe:Ann:=anK [] [[1],[34],[2],[2]] []
def zzo:Ann:=anK [] [[0],[0,3],[0,3,10,11,12],[0,3,10,11,12,13],[0,3,4,5,10,11,12],[0,3,4,5,10,11,12,19],[0,3,4,5,6,10,11,12],[0,3,4,5,6,7,8,10,11,12],[0,3,4,5,6,7,10,11,12,29],[0,3,6,7,10,11,12],[0,3,6,7,10,11,12,39],[0,3,6,7,10,11,12],[0,3,10,11,12],[0,3,10,11,12],[2]] []
def zAd:Ann:=anK [] [[1,2],[1,2],[2]] []
def zsC:Ann:={ anK [] [[0,3],[0,3,10],[0,3,4],[0,3],[0,3],[0],[0],[0],[]] [] with cel:=fun _=>[(1000,1,900,10,133),(1000,6,901,1,0),(1000,7,1000,1,0),(1000,13,902,12,61)] }
def zvr:Ann:=anK [] [[0,4,5],[4,5,7],[4,5,7,8,9],[4,5,7,8,39],[6,7],[4,5,6,7,8,9],[4,5,6,7,8,78],[6,7],[5,6,7,8,99],[6,7],[6,7,105],[6,7],[6,7]] []
def zsD:Ann:=anK [] [[1,2,4],[1,4,9,10,11],[1,4,9,10,11,12],[1,4,7,9,10,11],[1,4,7,9,10,11,18],[4,5],[1,4,9,10,11],[4,5]] []
def zwy:Ann:={ anK [] [[0,6,7,8,9],[0,6,7,8,9,10],[0,6,7,8,9,10,12],[0,6,7,8,9,10,36],[0,6,7,8,9],[0,6,7,8,9,13,14],[0,6,8,9,13,14,45,46,47],[0,6,8,9,13,14,45,46,47,48],[0,6,8,9,13,14,15,16,45,46,47],[0,6,8,9,13,14,15,45,46,47,54],[0,6,8,9,13,14,15,17,18,45,46,47],[0,6,8,9,13,14,15,17,45,46,47,68],[0,6,8,9,13,14,17,45,46,47],[0,6,8,9,13,14,45,46,47],[0,6,8,9,13,14,45,46,47],[0,6,9,19],[0,9,19,20,21],[0,9,19,20,99],[0,9,19,20],[0,9,19,104],[],[0,9,114],[]] [(5,[(13,1,3),(14,1,3)]),(12,[(13,1,3)]),(13,[(14,1,3)])] with cel:=fun _=>[(1000,1,900,10,133),(1000,6,901,1,0),(1000,7,1000,1,0),(1000,13,902,12,61)] }
def zvs:Ann:=anK [] [[0,3],[0,3,11,12,13],[0,3,11,12,13,14],[0,3,6,11,12,13],[0,3,7,8,11,12,13],[0,3,11,12,13,33],[4],[0,3,11,12,13],[4]] []
def zgK:Ann:=anK [] [[0,1,2,3,4,10],[0,1,2,3,4,10,11],[0,1,2,3,4,10,11,12],[0,1,2,3,4,10,11,12,25],[],[0,1,2,3,4,10,11,12,32],[],[0,1,2,3,4,10,11,12,39],[0,1,2,3,4,10,11,12],[0,1,2,3,4,10,11,12],[0,1,2,3,4,10,11,12,13,14],[0,1,2,3,4,10,11,12,13,14,56],[0,1,2,3,4,10,11,12,13],[0,1,2,3,4,10,11,12,13],[0,1,2,3,4,10,11,12,13,14],[0,1,2,3,4,10,11,12,13,75],[0,1,2,3,4,10,11,12,13,80],[0,1,2,3,4,10,11,12,13,97],[0,2,3,4,10,11,15],[0,1,2,3,4,10,11],[0,1,2,3,4,12,16,17],[0,1,2,3,4,11,12,16],[0,1,2,3,4,11,12,16,18,19],[0,1,2,3,4,11,16,18,19,20],[0,1,2,3,4,11,16,18,19,20,125],[0,1,2,3,4,10,11,16],[0,2,3,4,10,11,16],[0,1,2,3,4,10,11],[0,1,2,3,4,10,11,16],[0,1,3,4,10,11,16],[0,1,2,3,4,10,11]] []
def a_bits_Len:Ann:=anK [] [[0],[2],[2]] []
def zzp:Ann:=anK [] [[0],[0,4,5],[0,4,5,6],[0,4,5,6,15],[0,4,5,6],[0,4,5,6,23],[0,4,5,6,7],[0,4,5,6,7,8,9],[0,4,5,6,7,8,44],[0,4,5,6],[0,4,5,6,7,57],[0,4,5,6],[2,3]] []
def zCR:Ann:=anK [] [[0],[0,10],[2],[3,4],[3,4,5],[3,4,5,6,7],[3,4,5,6,7,34],[3,4,5,6,7,56],[3,4,5,6,7],[3,4,5,6,7],[3,4,5,6,7],[3,4,5,6,7],[2]] [(0,[(2,9,64)]),(2,[(2,9,64)]),(4,[(5,9,64)]),(8,[(5,9,64)]),(10,[(5,9,64)]),(12,[(2,9,64)])]
def zei:Ann:=anK [] [[0,1],[0,1,7,8],[0,1,7,8,9],[0,1,5,7,8],[0,1,5,7,8,16],[4],[0,1,7,8],[4]] []
def zCc:Ann:=anK [] [[2,3],[2,3,5],[2,3,5,27],[4],[2,3,5,6],[2,3,5,6,30],[2,3,5,6],[2,3,5,6,46],[4],[2,3,5,6,7],[2,3,5,6,7,54],[2,3,5,6,7],[2,3,5,6,7,106],[4],[4]] []
def zvq:Ann:=anK [] [[1],[1,40],[2],[2]] []
def zAa:Ann:=anK [] [[0],[0,3],[0,3,7],[0,3],[0,3,19],[2],[2]] []
def zBf:Ann:=anK [] [[2,3],[2,3,27],[4],[3,29,30,31],[3,29,30,31,32],[3,5,6,29,30,31],[3,29,30,31,52],[4],[3,29,30,31],[4]] []
def zx9:Ann:=anK [] [[2,3],[3,9,10,11],[3,9,10,11,12],[3,6,7,9,10,11],[3,6,9,10,11,27],[4,5],[3,9,10,11],[4,5]] []
def zAf:Ann:=anK [] [[2,3,4],[2,3,4,17],[6,7],[2,3,4,23],[6,7],[2,3,4,25,26,27],[2,3,4,25,26,27,28],[2,3,4,8,9,25,26,27],[2,3,4,9,10,25,26,27],[2,3,4,25,26,27,56],[6,7],[2,3,4,25,26,27],[2,3,4,11],[2,4,11,63,64,65],[2,4,11,63,64,65,66],[2,4,11,12,13,63,64,65],[2,4,11,12,13,63,64,65,70],[2,4,11,63,64,65],[2,4,11,12,13,63,64,65,77],[2,4,11,63,64,65],[2,4,11,12,63,64,65,94],[2,4,11,63,64,65],[2,4,11,63,64,65],[6,7]] []
def zx8:Ann:=anK [] [[1,2],[2,6,7],[2,6,15],[4,5],[4,5]] []
def zvt:Ann:=anK [] [[1,2],[1,2,12],[4],[1,14,15,16],[1,14,15,16,17],[1,5,6,14,15,16],[1,14,15,16,34],[4],[1,14,15,16],[4]] []
def zAc:Ann:=anK [] [[1],[1,16],[2],[1,18],[1,18,19],[2],[1,18,23],[2],[1,60],[2],[2]] []
def zwW:Ann:=anK [] [[1,2],[2]] []
def ztH:Ann:=anK [5] [[0],[0,4],[2],[2]] [(0,[(2,1,3)]),(2,[(2,1,3)]),(3,[(2,1,3)])]
def zwZ:Ann:=anK [] [[2,3,4,5],[8]] []
def zBd:Ann:=anK [] [[1,2,3],[1,2,3,29],[6],[1,2,3,7,8],[1,2,3,7,8,31,32],[1,2,3,7,8,31,32,33],[1,2,3,7,8,9,31,32],[1,2,3,7,8,10,11,31,32],[1,2,3,7,8,10,11,31,32,50],[6],[1,2,3,7,8,31,32],[1,2,3,7,8,31,32],[6]] []
def zBe:Ann:=anK [] [[2,3,4,6],[2,3,4,6,12],[6,7],[2,3,4,6,15],[6,7],[3,6,8],[3,6,8,27],[3,6,8],[6,7]] [(5,[(8,1,4)]),(7,[(8,1,4)])]
def ztF:Ann:={ anK [] [[0,1,5],[0,6],[0,6,19],[0,6],[0,6],[0,6,7],[0,6,7,46],[0,6,7],[0,6,7,65],[0,6,7]] [] with cel:=fun _=>[(1000,1,900,10,133),(1000,6,901,1,0),(1000,7,1000,1,0),(1000,13,902,12,61)] }
def zfv:Ann:=anK [] [[0,1,2,3,8],[0,1,2,3,8,14],[0,1,2,3,8],[0,1,2,3,8,9],[0,1,2,3,8,9,34],[0,1,2,3,8,9],[0,1,2,3,8,9]] []
def zgt:Ann:=anK [] [[0,1,2,3,8],[0,1,2,3,8,9],[0,3,8,9,10],[0,3,8,9,10,11],[0,3,8,9,10,11,21],[0,3,8,9,10,11],[0,3,8,9,10,11],[0,3,8,9,12],[0,3,8,9,12,33],[0,3,8,9,12],[0,3,8,9,12],[0,3,8,9,12]] []
def zfu:Ann:=anK [] [[0,1,8],[0,1,8,17],[0,1,8,9],[0,1,8,9,10],[0,1,8,9,10,11],[0,1,8,9,10,11,35],[0,1,8,9,10,11],[0,1,8,9,10,11,12],[0,1,8,9,10,11,12,45],[0,1,8,9,10,11,12],[0,1,8,9,10,11]] []
def zfY:Ann:=anK [] [[0,1,2,3],[0,1,3,10],[0,1,3,10,11],[0,1,3,10,11,12],[0,1,3,10,11,12,13],[0,3,10,11,12,13,14],[0,3,10,11,12,13,14,34],[0,3,11,12,13,14,36],[0,3,11,12,13,14],[0,3,11,12,13,14],[0,3,11,12,13,14],[11,13],[13,55],[8,9],[13,55,57],[8,9],[13,60],[8,9]] []
def zfJ:Ann:=anK [] [[0,2,8],[0,8,9],[0,8,9,15],[0,8,9],[0,8,9],[0,8,9]] []
def zey:Ann:=anK [] [[0,1,2,3],[0,1,2,3,9],[0,1,2,3,9,10],[0,1,2,3,9,10,16],[0,1,2,3,9,10],[0,1,2,3,9,10,36],[0,1,2,3,9,10],[0,1,2,3,9,10,41],[8],[0,1,2,3,9,10,45],[8],[0,1,2,3,9,10],[0,1,2,3,9,10,65],[0,1,2,3,9,10,11],[0,1,2,3,9,10,11,69],[0,1,2,3,9,10,11],[0,1,2,3,9,10,11,84],[0,1,2,3,9,10,11],[0,1,2,3,9,10,104],[0,1,2,3,9,10,12],[0,1,2,3,9,10,12,109],[0,1,2,3,9,10,12],[0,1,2,3,9,10,12,124],[0,1,2,3,9,10,12],[8]] []
def zfn:Ann:=anK [] [[0,1,2,3,4],[0,1,2,4],[0,1,4,11,12],[0,1,4,11,12,47],[0,1,4,11,12],[0,1,4,11,12,65],[0,1,4,11,12],[0,1,4,11,12,70],[0,1,4,11,12],[0,1,4,11,12],[0,1,4,11,12],[10]] []
def zge:Ann:=anK [] [[0,1,2,3,4],[0,1,2,4],[0,1,4,12,13],[0,1,4,12,13,47],[0,1,4,12,13],[0,1,4,12,13,66],[0,1,4,12,13],[0,1,4,12,13,71],[13],[10,11],[0,1,4,12,13],[0,1,4,12,13],[0,1,4,12,13],[0,1,4,12,13,120],[0,1,4,12,13],[0,1,4,12,13,139],[0,1,4,12,13],[0,1,4,12,13,144],[0,1,4,12,13],[0,1,4,12,13],[0,1,4,12,13],[13],[10,11]] []
def zCK:Ann:=anK [] [[0,2],[0,2,4],[0],[0,2],[0,2,8],[0,2],[0,2],[2]] []
def zCL:Ann:=anK [] [[0,2],[0,2,4],[0],[0,2],[0,2,8],[0,2],[0,2],[0,2,14],[0,2],[0,2],[2]] []
def zCe:Ann:=anK [] [[1],[1,19],[2],[1,3],[1,3,24],[1,3],[1,3,33],[2],[1,35],[1,35,36],[2],[1,35,57],[2],[1,89],[2],[2]] []
def zwX:Ann:=anK [] [[1],[1,34],[2],[1,3],[1,3,4],[1,3,4,39],[1,3,4],[1,3,4,48],[2],[1,3,4],[2]] []
def zx5:Ann:=anK [] [[1],[1,22],[2],[1,32],[2],[1,34,35,36],[1,34,35,36,37],[1,4,34,35,36],[1,34,35,36,42],[2],[1,34,35,36],[2]] []
def zw1:Ann:=anK [] [[1,2],[1,2,9],[4],[1,2,13,14,15],[1,2,13,14,15,16],[1,2,5,6,13,14,15],[1,2,13,14,15,40],[4],[1,2,13,14,15],[4]] []
def zAg:Ann:=anK [] [[0],[3],[3,4],[3,4],[4],[2],[2]] []
def zzq:Ann:=anK [] [[1,2,3],[1,2,3,9],[6],[6]] []
def zwh:Ann:=anK [] [[1],[2]] []
def zwA:Ann:=anK [] [[1],[1,37],[2],[2]] []
def zCb:Ann:=anK [] [[0,1,4],[1,4,8,9,10],[1,4,8,9,10,11],[1,4,7,8,9,10],[1,4,7,8,9,10,17],[4,7],[4,5],[1,4,8,9,10],[4,5]] []
def zw0:Ann:=anK [] [[1,2],[1,2,6],[4],[1,2,9],[4],[4]] []
def zsF:Ann:=anK [5] [[0],[0,4],[2],[2]] [(0,[(2,1,4)]),(2,[(2,1,4)]),(3,[(2,1,4)])]
def zya:Ann:=anK [] [[1,2],[1,2,5],[2,5,8,9,10],[2,5,8,9,10,11],[2,5,7,8,9,10],[2,5,8,9,10,15],[2,5,8,9,10],[2,5,8,9,10],[4]] []
def zgu:Ann:=anK [] [[0,2,3,4,10],[0,2,3,4,10,11],[0,2,3,4,10,11,18],[0,2,3,4,10,11,40],[0,2,3,4,10,11],[0,2,3,4,10,11,58],[0,2,3,4,11],[0,2,3,4,10]] []
def ztI:Ann:=anK [] [[0],[0],[0],[0],[2]] []
def zfm:Ann:=anK [] [[0,1,2,3],[8]] []
def zg5:Ann:=anK [] [[0,1,2,3,4,5],[0,1,2,3,4,5],[0,1,2,4,5],[2],[12]] []
def a_ref28_in:Ann:=anK [] [[0,1,2],[6]] []
def zyb:Ann:=anK [] [[1],[1,30],[2],[1,33],[2],[2]] []
def zzi:Ann:=anK [] [[1],[1,30],[2],[1,32],[1,32,33],[2],[1,43],[2],[2]] []
def zz9:Ann:=anK [] [[0],[0,3],[3,6,7,8],[3,6,7,8,9],[3,5,6,7,8],[3,6,7,8],[3,6,7,8],[2]] []
def zg6:Ann:=anK [] [[0,1,2,3,4],[1,2,3,22],[1,2],[10,11],[10,11]] []
def aNone:Ann:={ lits:=[],live:=fun _=>none,own:=fun _=>[] }
def annTab:List Ann:=[aNone,aNone,aNone,zvn,zwt,zvm,zvo,ztE,zrQ,zgJ,zCN,zgJ,zx7,zwQ,zzk,zBb,zvp,zzj,zCU,zux,zwY,zsE,zwx,zCQ,zye,zCS,zzm,zwg,zA9,a_law29_at,zCa,zwV,zwU,zwR,zwu,zww,zwv,zig,zzn,zzl,zCO,zAb,zwz,zBc,zta,zfX,zdq,zyd,zux,zCP,zig,zuv,zdq,zCd,zCT,zyc,zfX,zdq,zCM,zx4,zop,zx6,zwS,zig,zwT,zBa,zuu,zuw,ztG,zvu,zAe,zzo,zfX,zdq,zAd,zsC,zvr,zsD,zwy,zvs,zgK,a_bits_Len,zzp,zCR,zei,zCc,zgK,zgJ,zvq,zAa,zgJ,zBf,zx9,zAf,zx8,zvt,zgJ,zAc,zwW,zdq,zgK,ztH,zsD,zsE,zwZ,zwg,zBd,zBe,ztF,zfv,zgt,zfu,zfY,zfJ,zey,zfn,zge,zCK,zCL,zCe,zdq,zdq,zwX,zfv,zgt,zfu,zfY,zfJ,zey,zfn,zge,zig,zgJ,zx5,zw1,zAg,zzq,zwh,zwA,zfv,zgt,zfu,zfY,zfJ,zey,zfn,zge,zCb,zdq,zw0,zgJ,zig,zdq,zsF,zya,zgu,zgJ,ztI,zfm,zg5,zwh,a_ref28_in,zyb,zgu,zfm,zg5,zei,zzi,zz9,zig,zgJ,zgu,zfm,zg5,zgJ,zg6,zg6,zei,zg6,aNone,aNone,aNone,aNone,aNone,aNone,aNone,aNone,aNone,aNone,aNone,aNone,aNone,aNone,aNone,aNone]
def zA:AnnF:=fun f=>annTab.getD f aNone
def zaw:Bool→AV×Mem:=(r1 vBool).enc
abbrev zag:RD:={ α:=Bool,enc:=zaw,dec:=(r1 vBool).dec,ok:=(r1 vBool).ok,de:=(r1 vBool).de }
def zt4:zak→AV×Mem:=(r1 (vNewp 2 zam za5)).enc
abbrev zq0:RD:={ α:=zak,enc:=zt4,dec:=(r1 (vNewp 2 zam za5)).dec,ok:=(r1 (vNewp 2 zam za5)).ok,de:=(r1 (vNewp 2 zam za5)).de }
def zk5:(zaI×zak)→AV×Mem:=(r1M (vAgg zla) (mBox 1000 2 zam za5)).enc
abbrev zk6:RD:={ α:=zaI×zak,enc:=zk5,dec:=(r1M (vAgg zla) (mBox 1000 2 zam za5)).dec,ok:=(r1M (vAgg zla) (mBox 1000 2 zam za5)).ok,de:=(r1M (vAgg zla) (mBox 1000 2 zam za5)).de }
def zkp:(((List zab))×zak)→AV×Mem:=(r1M (vNew 9 zac zai) (mBox 1000 2 zam za5)).enc
abbrev ziR:RD:={ α:=((List zab))×zak,enc:=zkp,dec:=(r1M (vNew 9 zac zai) (mBox 1000 2 zam za5)).dec,ok:=(r1M (vNew 9 zac zai) (mBox 1000 2 zam za5)).ok,de:=(r1M (vNew 9 zac zai) (mBox 1000 2 zam za5)).de }
def zqN:((zbX×Int)×(List zab))→AV×Mem:=(rTM (lCons (vAgg zj7) (lOne (vI .i64))) (mRow 1001 9 zac zai)).enc
abbrev zcS:RD:={ α:=(zbX×Int)×(List zab),enc:=zqN,dec:=(rTM (lCons (vAgg zj7) (lOne (vI .i64))) (mRow 1001 9 zac zai)).dec,ok:=(rTM (lCons (vAgg zj7) (lOne (vI .i64))) (mRow 1001 9 zac zai)).ok,de:=(rTM (lCons (vAgg zj7) (lOne (vI .i64))) (mRow 1001 9 zac zai)).de }
def zv5:(((List zab))×zak×(List zab))→AV×Mem:=(r1M (vNew 9 zac zai) (mApp (mBox 1000 2 zam za5) (mRow 1001 9 zac zai) (fun _ _=>rfl))).enc
abbrev zv6:RD:={ α:=((List zab))×zak×(List zab),enc:=zv5,dec:=(r1M (vNew 9 zac zai) (mApp (mBox 1000 2 zam za5) (mRow 1001 9 zac zai) (fun _ _=>rfl))).dec,ok:=(r1M (vNew 9 zac zai) (mApp (mBox 1000 2 zam za5) (mRow 1001 9 zac zai) (fun _ _=>rfl))).ok,de:=(r1M (vNew 9 zac zai) (mApp (mBox 1000 2 zam za5) (mRow 1001 9 zac zai) (fun _ _=>rfl))).de }
def zzP:((List zab))→AV×Mem:=(r1 (vSl 9 zai)).enc
abbrev zzT:RD:={ α:=(List zab),enc:=zzP,dec:=(r1 (vSl 9 zai)).dec,ok:=(r1 (vSl 9 zai)).ok,de:=(r1 (vSl 9 zai)).de }
def zoa:(zaX×Bool)→AV×Mem:=(rT (lCons (vAgg zc7) (lOne vBool))).enc
abbrev ziq:RD:={ α:=zaX×Bool,enc:=zoa,dec:=(rT (lCons (vAgg zc7) (lOne vBool))).dec,ok:=(rT (lCons (vAgg zc7) (lOne vBool))).ok,de:=(rT (lCons (vAgg zc7) (lOne vBool))).de }
def zkt:((List Int)×Bool)→AV×Mem:=(rT (lCons (vSl 1 zbg) (lOne vBool))).enc
abbrev zkz:RD:={ α:=(List Int)×Bool,enc:=zkt,dec:=(rT (lCons (vSl 1 zbg) (lOne vBool))).dec,ok:=(rT (lCons (vSl 1 zbg) (lOne vBool))).ok,de:=(rT (lCons (vSl 1 zbg) (lOne vBool))).de }
def zlX:(Int×zak)→AV×Mem:=(r1M (vI .i64) (mBox 1000 2 zam za5)).enc
abbrev zbb:RD:={ α:=Int×zak,enc:=zlX,dec:=(r1M (vI .i64) (mBox 1000 2 zam za5)).dec,ok:=(r1M (vI .i64) (mBox 1000 2 zam za5)).ok,de:=(r1M (vI .i64) (mBox 1000 2 zam za5)).de }
def zn8:zab→AV×Mem:=(r1 (vAgg zai)).enc
abbrev zhH:RD:={ α:=zab,enc:=zn8,dec:=(r1 (vAgg zai)).dec,ok:=(r1 (vAgg zai)).ok,de:=(r1 (vAgg zai)).de }
def zrC:zaI→AV×Mem:=(r1 (vAgg zla)).enc
abbrev zj3:RD:={ α:=zaI,enc:=zrC,dec:=(r1 (vAgg zla)).dec,ok:=(r1 (vAgg zla)).ok,de:=(r1 (vAgg zla)).de }
def znH:(((List GTask)×Int)×(List zab))→AV×Mem:=(rTM (lCons (vSl 2 ze7) (lOne (vI .i64))) (mRow 1001 9 zac zai)).enc
abbrev ziT:RD:={ α:=((List GTask)×Int)×(List zab),enc:=znH,dec:=(rTM (lCons (vSl 2 ze7) (lOne (vI .i64))) (mRow 1001 9 zac zai)).dec,ok:=(rTM (lCons (vSl 2 ze7) (lOne (vI .i64))) (mRow 1001 9 zac zai)).ok,de:=(rTM (lCons (vSl 2 ze7) (lOne (vI .i64))) (mRow 1001 9 zac zai)).de }
def zkr:((List zaf))→AV×Mem:=(r1 (vNew 8 zao zaJ)).enc
abbrev ziS:RD:={ α:=(List zaf),enc:=zkr,dec:=(r1 (vNew 8 zao zaJ)).dec,ok:=(r1 (vNew 8 zao zaJ)).ok,de:=(r1 (vNew 8 zao zaJ)).de }
def ziQ:(((List zaP)×(List zbM))×zak)→AV×Mem:=(rTM (lCons (vSl 3 zcY) (lOne (vSl 2 zfK))) (mBox 1000 2 zam za5)).enc
abbrev zkv:RD:={ α:=((List zaP)×(List zbM))×zak,enc:=ziQ,dec:=(rTM (lCons (vSl 3 zcY) (lOne (vSl 2 zfK))) (mBox 1000 2 zam za5)).dec,ok:=(rTM (lCons (vSl 3 zcY) (lOne (vSl 2 zfK))) (mBox 1000 2 zam za5)).ok,de:=(rTM (lCons (vSl 3 zcY) (lOne (vSl 2 zfK))) (mBox 1000 2 zam za5)).de }
def zjQ:(((List za3))×zak)→AV×Mem:=(r1M (vNew 5 ze1 zej) (mBox 1000 2 zam za5)).enc
abbrev zjS:RD:={ α:=((List za3))×zak,enc:=zjQ,dec:=(r1M (vNew 5 ze1 zej) (mBox 1000 2 zam za5)).dec,ok:=(r1M (vNew 5 ze1 zej) (mBox 1000 2 zam za5)).ok,de:=(r1M (vNew 5 ze1 zej) (mBox 1000 2 zam za5)).de }
def zjR:(((List zaX))×zak)→AV×Mem:=(r1M (vNew 7 zdp zc7) (mBox 1000 2 zam za5)).enc
abbrev zjU:RD:={ α:=((List zaX))×zak,enc:=zjR,dec:=(r1M (vNew 7 zdp zc7) (mBox 1000 2 zam za5)).dec,ok:=(r1M (vNew 7 zdp zc7) (mBox 1000 2 zam za5)).ok,de:=(r1M (vNew 7 zdp zc7) (mBox 1000 2 zam za5)).de }
def zmM:(zbe×zak)→AV×Mem:=(r1M (vAgg zmf) (mBox 1000 2 zam za5)).enc
abbrev zjT:RD:={ α:=zbe×zak,enc:=zmM,dec:=(r1M (vAgg zmf) (mBox 1000 2 zam za5)).dec,ok:=(r1M (vAgg zmf) (mBox 1000 2 zam za5)).ok,de:=(r1M (vAgg zmf) (mBox 1000 2 zam za5)).de }
def zpc:(Bool×zak)→AV×Mem:=(r1M vBool (mBox 1000 2 zam za5)).enc
abbrev zf6:RD:={ α:=Bool×zak,enc:=zpc,dec:=(r1M vBool (mBox 1000 2 zam za5)).dec,ok:=(r1M vBool (mBox 1000 2 zam za5)).ok,de:=(r1M vBool (mBox 1000 2 zam za5)).de }
def zlY:(GSeed×zak)→AV×Mem:=(r1M (vAgg zhe) (mBox 1000 2 zam za5)).enc
abbrev zl0:RD:={ α:=GSeed×zak,enc:=zlY,dec:=(r1M (vAgg zhe) (mBox 1000 2 zam za5)).dec,ok:=(r1M (vAgg zhe) (mBox 1000 2 zam za5)).ok,de:=(r1M (vAgg zhe) (mBox 1000 2 zam za5)).de }
def zzQ:(zab×zak)→AV×Mem:=(r1M (vAgg zai) (mBox 1000 2 zam za5)).enc
abbrev zzU:RD:={ α:=zab×zak,enc:=zzQ,dec:=(r1M (vAgg zai) (mBox 1000 2 zam za5)).dec,ok:=(r1M (vAgg zai) (mBox 1000 2 zam za5)).ok,de:=(r1M (vAgg zai) (mBox 1000 2 zam za5)).de }
def zpY:zaP→AV×Mem:=(r1 (vAgg zcY)).enc
abbrev znI:RD:={ α:=zaP,enc:=zpY,dec:=(r1 (vAgg zcY)).dec,ok:=(r1 (vAgg zcY)).ok,de:=(r1 (vAgg zcY)).de }
def zbu:Int→AV×Mem:=(r1 (vI .i64)).enc
abbrev zau:RD:={ α:=Int,enc:=zbu,dec:=(r1 (vI .i64)).dec,ok:=(r1 (vI .i64)).ok,de:=(r1 (vI .i64)).de }
def zfO:(((List zab)×Int)×(List zab))→AV×Mem:=(rTM (lCons (vSl 9 zai) (lOne (vI .i64))) (mRow 1000 9 zac zai)).enc
abbrev zic:RD:={ α:=((List zab)×Int)×(List zab),enc:=zfO,dec:=(rTM (lCons (vSl 9 zai) (lOne (vI .i64))) (mRow 1000 9 zac zai)).dec,ok:=(rTM (lCons (vSl 9 zai) (lOne (vI .i64))) (mRow 1000 9 zac zai)).ok,de:=(rTM (lCons (vSl 9 zai) (lOne (vI .i64))) (mRow 1000 9 zac zai)).de }
def zez:((List (zaB×zab)))→AV×Mem:=(r1 (vNewm zci zd9)).enc
abbrev zgp:RD:={ α:=(List (zaB×zab)),enc:=zez,dec:=(r1 (vNewm zci zd9)).dec,ok:=(r1 (vNewm zci zd9)).ok,de:=(r1 (vNewm zci zd9)).de }
def zf0:((List zaf))→AV×Mem:=(r0M (mRow 1000 8 zao zaJ)).enc
abbrev zap:RD:={ α:=(List zaf),enc:=zf0,dec:=(r0M (mRow 1000 8 zao zaJ)).dec,ok:=(r0M (mRow 1000 8 zao zaJ)).ok,de:=(r0M (mRow 1000 8 zao zaJ)).de }
def zhW:((List zab)×Int)→AV×Mem:=(rT (lCons (vSl 9 zai) (lOne (vI .i64)))).enc
abbrev zjd:RD:={ α:=(List zab)×Int,enc:=zhW,dec:=(rT (lCons (vSl 9 zai) (lOne (vI .i64)))).dec,ok:=(rT (lCons (vSl 9 zai) (lOne (vI .i64)))).ok,de:=(rT (lCons (vSl 9 zai) (lOne (vI .i64)))).de }
def zli:(za3×Bool)→AV×Mem:=(rT (lCons (vAgg zej) (lOne vBool))).enc
abbrev zlk:RD:={ α:=za3×Bool,enc:=zli,dec:=(rT (lCons (vAgg zej) (lOne vBool))).dec,ok:=(rT (lCons (vAgg zej) (lOne vBool))).ok,de:=(rT (lCons (vAgg zej) (lOne vBool))).de }
def zml:(Int×Bool)→AV×Mem:=(rT (lCons (vI .i64) (lOne vBool))).enc
abbrev zgY:RD:={ α:=Int×Bool,enc:=zml,dec:=(rT (lCons (vI .i64) (lOne vBool))).dec,ok:=(rT (lCons (vI .i64) (lOne vBool))).ok,de:=(rT (lCons (vI .i64) (lOne vBool))).de }
def zgj:((List GTask))→AV×Mem:=(r0M (mRow 1000 2 zb2 ze7)).enc
abbrev zbI:RD:={ α:=(List GTask),enc:=zgj,dec:=(r0M (mRow 1000 2 zb2 ze7)).dec,ok:=(r0M (mRow 1000 2 zb2 ze7)).ok,de:=(r0M (mRow 1000 2 zb2 ze7)).de }
def zgy:(Nat×(List GTask))→AV×Mem:=(r1M (vRow 1000 2) (mRow 1000 2 zb2 ze7)).enc
abbrev zeZ:RD:={ α:=Nat×(List GTask),enc:=zgy,dec:=(r1M (vRow 1000 2) (mRow 1000 2 zb2 ze7)).dec,ok:=(r1M (vRow 1000 2) (mRow 1000 2 zb2 ze7)).ok,de:=(r1M (vRow 1000 2) (mRow 1000 2 zb2 ze7)).de }
def zox:(zaP×zak)→AV×Mem:=(r1M (vAgg zcY) (mBox 1000 2 zam za5)).enc
abbrev zgz:RD:={ α:=zaP×zak,enc:=zox,dec:=(r1M (vAgg zcY) (mBox 1000 2 zam za5)).dec,ok:=(r1M (vAgg zcY) (mBox 1000 2 zam za5)).ok,de:=(r1M (vAgg zcY) (mBox 1000 2 zam za5)).de }
def znG:(zbM×zak)→AV×Mem:=(r1M (vAgg zfK) (mBox 1000 2 zam za5)).enc
abbrev zkw:RD:={ α:=zbM×zak,enc:=znG,dec:=(r1M (vAgg zfK) (mBox 1000 2 zam za5)).dec,ok:=(r1M (vAgg zfK) (mBox 1000 2 zam za5)).ok,de:=(r1M (vAgg zfK) (mBox 1000 2 zam za5)).de }
def zkq:(zaX×zak)→AV×Mem:=(r1M (vAgg zc7) (mBox 1000 2 zam za5)).enc
abbrev zkx:RD:={ α:=zaX×zak,enc:=zkq,dec:=(r1M (vAgg zc7) (mBox 1000 2 zam za5)).dec,ok:=(r1M (vAgg zc7) (mBox 1000 2 zam za5)).ok,de:=(r1M (vAgg zc7) (mBox 1000 2 zam za5)).de }
def zf5:(((List ((Int×Int)×zbk)))×(List zab))→AV×Mem:=(r1M (vNewm zbE zcz) (mRow 1000 9 zac zai)).enc
abbrev zl2:RD:={ α:=((List ((Int×Int)×zbk)))×(List zab),enc:=zf5,dec:=(r1M (vNewm zbE zcz) (mRow 1000 9 zac zai)).dec,ok:=(r1M (vNewm zbE zcz) (mRow 1000 9 zac zai)).ok,de:=(r1M (vNewm zbE zcz) (mRow 1000 9 zac zai)).de }
def zeI:((List zab))→AV×Mem:=(r0M (mRow 1000 9 zac zai)).enc
abbrev zaj:RD:={ α:=(List zab),enc:=zeI,dec:=(r0M (mRow 1000 9 zac zai)).dec,ok:=(r0M (mRow 1000 9 zac zai)).ok,de:=(r0M (mRow 1000 9 zac zai)).de }
def zcp:zal→AV×Mem:=(r0M zna).enc
abbrev zdC:RD:={ α:=zal,enc:=zcp,dec:=(r0M zna).dec,ok:=(r0M zna).ok,de:=(r0M zna).de }
def zhE:(Int×(Option Addr))→AV×Mem:=(rT (lCons (vI .i64) (lOne vPtr))).enc
abbrev zjk:RD:={ α:=Int×(Option Addr),enc:=zhE,dec:=(rT (lCons (vI .i64) (lOne vPtr))).dec,ok:=(rT (lCons (vI .i64) (lOne vPtr))).ok,de:=(rT (lCons (vI .i64) (lOne vPtr))).de }
def zjE:(GSeed×Bool)→AV×Mem:=(rT (lCons (vAgg zhe) (lOne vBool))).enc
abbrev zl1:RD:={ α:=GSeed×Bool,enc:=zjE,dec:=(rT (lCons (vAgg zhe) (lOne vBool))).dec,ok:=(rT (lCons (vAgg zhe) (lOne vBool))).ok,de:=(rT (lCons (vAgg zhe) (lOne vBool))).de }
def zzS:((List ((Int×Int)×Int))×(List ((Int×Int)×Bool)))→AV×Mem:=(rT (lCons (vMp zhV) (lOne (vMp zik)))).enc
abbrev zzW:RD:={ α:=(List ((Int×Int)×Int))×(List ((Int×Int)×Bool)),enc:=zzS,dec:=(rT (lCons (vMp zhV) (lOne (vMp zik)))).dec,ok:=(rT (lCons (vMp zhV) (lOne (vMp zik)))).ok,de:=(rT (lCons (vMp zhV) (lOne (vMp zik)))).de }
def zDl:((List zab))→AV×Mem:=(r1 (vNew 9 zac zai)).enc
abbrev zDm:RD:={ α:=(List zab),enc:=zDl,dec:=(r1 (vNew 9 zac zai)).dec,ok:=(r1 (vNew 9 zac zai)).ok,de:=(r1 (vNew 9 zac zai)).de }
def zhF:((List Int)×Int)→AV×Mem:=(rT (lCons (vSl 1 zbg) (lOne (vI .i64)))).enc
abbrev zm7:RD:={ α:=(List Int)×Int,enc:=zhF,dec:=(rT (lCons (vSl 1 zbg) (lOne (vI .i64)))).dec,ok:=(rT (lCons (vSl 1 zbg) (lOne (vI .i64)))).ok,de:=(rT (lCons (vSl 1 zbg) (lOne (vI .i64)))).de }
def zks:((Int×Int))→AV×Mem:=(r1 (vAgg zgA)).enc
abbrev ziU:RD:={ α:=(Int×Int),enc:=zks,dec:=(r1 (vAgg zgA)).dec,ok:=(r1 (vAgg zgA)).ok,de:=(r1 (vAgg zgA)).de }
def zkQ:((List Int))→AV×Mem:=(r1 (vNew 1 za7 zbg)).enc
abbrev zgQ:RD:={ α:=(List Int),enc:=zkQ,dec:=(r1 (vNew 1 za7 zbg)).dec,ok:=(r1 (vNew 1 za7 zbg)).ok,de:=(r1 (vNew 1 za7 zbg)).de }
def zn9:(ze2×Int)→AV×Mem:=(rT (lCons (vAgg zuG) (lOne (vI .i64)))).enc
abbrev zob:RD:={ α:=ze2×Int,enc:=zn9,dec:=(rT (lCons (vAgg zuG) (lOne (vI .i64)))).dec,ok:=(rT (lCons (vAgg zuG) (lOne (vI .i64)))).ok,de:=(rT (lCons (vAgg zuG) (lOne (vI .i64)))).de }
def ziu:(Int×Int)→AV×Mem:=(rT (lCons (vI .i64) (lOne (vI .i64)))).enc
abbrev zbf:RD:={ α:=Int×Int,enc:=ziu,dec:=(rT (lCons (vI .i64) (lOne (vI .i64)))).dec,ok:=(rT (lCons (vI .i64) (lOne (vI .i64)))).ok,de:=(rT (lCons (vI .i64) (lOne (vI .i64)))).de }
def zgo:(Bool×(List zaf))→AV×Mem:=(r1M vBool (mRow 1000 8 zao zaJ)).enc
abbrev zbz:RD:={ α:=Bool×(List zaf),enc:=zgo,dec:=(r1M vBool (mRow 1000 8 zao zaJ)).dec,ok:=(r1M vBool (mRow 1000 8 zao zaJ)).ok,de:=(r1M vBool (mRow 1000 8 zao zaJ)).de }
def zhG:(Int×(List zaf))→AV×Mem:=(r1M (vI .i64) (mRow 1000 8 zao zaJ)).enc
abbrev zcw:RD:={ α:=Int×(List zaf),enc:=zhG,dec:=(r1M (vI .i64) (mRow 1000 8 zao zaJ)).dec,ok:=(r1M (vI .i64) (mRow 1000 8 zao zaJ)).ok,de:=(r1M (vI .i64) (mRow 1000 8 zao zaJ)).de }
def zi2:((Int×Bool)×(List zaf))→AV×Mem:=(rTM (lCons (vI .i64) (lOne vBool)) (mRow 1000 8 zao zaJ)).enc
abbrev zdO:RD:={ α:=(Int×Bool)×(List zaf),enc:=zi2,dec:=(rTM (lCons (vI .i64) (lOne vBool)) (mRow 1000 8 zao zaJ)).dec,ok:=(rTM (lCons (vI .i64) (lOne vBool)) (mRow 1000 8 zao zaJ)).ok,de:=(rTM (lCons (vI .i64) (lOne vBool)) (mRow 1000 8 zao zaJ)).de }
def zku:(Bool×(List GTask))→AV×Mem:=(r1M vBool (mRow 1000 2 zb2 ze7)).enc
abbrev zkA:RD:={ α:=Bool×(List GTask),enc:=zku,dec:=(r1M vBool (mRow 1000 2 zb2 ze7)).dec,ok:=(r1M vBool (mRow 1000 2 zb2 ze7)).ok,de:=(r1M vBool (mRow 1000 2 zb2 ze7)).de }
def zmm:(Int×(List GTask))→AV×Mem:=(r1M (vI .i64) (mRow 1000 2 zb2 ze7)).enc
abbrev zmn:RD:={ α:=Int×(List GTask),enc:=zmm,dec:=(r1M (vI .i64) (mRow 1000 2 zb2 ze7)).dec,ok:=(r1M (vI .i64) (mRow 1000 2 zb2 ze7)).ok,de:=(r1M (vI .i64) (mRow 1000 2 zb2 ze7)).de }
def zoy:((Int×Bool)×(List GTask))→AV×Mem:=(rTM (lCons (vI .i64) (lOne vBool)) (mRow 1000 2 zb2 ze7)).enc
abbrev zoz:RD:={ α:=(Int×Bool)×(List GTask),enc:=zoy,dec:=(rTM (lCons (vI .i64) (lOne vBool)) (mRow 1000 2 zb2 ze7)).dec,ok:=(rTM (lCons (vI .i64) (lOne vBool)) (mRow 1000 2 zb2 ze7)).ok,de:=(rTM (lCons (vI .i64) (lOne vBool)) (mRow 1000 2 zb2 ze7)).de }
def zfU:(Bool×(List zab))→AV×Mem:=(r1M vBool (mRow 1000 9 zac zai)).enc
abbrev zbr:RD:={ α:=Bool×(List zab),enc:=zfU,dec:=(r1M vBool (mRow 1000 9 zac zai)).dec,ok:=(r1M vBool (mRow 1000 9 zac zai)).ok,de:=(r1M vBool (mRow 1000 9 zac zai)).de }
def zgP:(Int×(List zab))→AV×Mem:=(r1M (vI .i64) (mRow 1000 9 zac zai)).enc
abbrev zcf:RD:={ α:=Int×(List zab),enc:=zgP,dec:=(r1M (vI .i64) (mRow 1000 9 zac zai)).dec,ok:=(r1M (vI .i64) (mRow 1000 9 zac zai)).ok,de:=(r1M (vI .i64) (mRow 1000 9 zac zai)).de }
def zh2:((Int×Bool)×(List zab))→AV×Mem:=(rTM (lCons (vI .i64) (lOne vBool)) (mRow 1000 9 zac zai)).enc
abbrev zc5:RD:={ α:=(Int×Bool)×(List zab),enc:=zh2,dec:=(rTM (lCons (vI .i64) (lOne vBool)) (mRow 1000 9 zac zai)).dec,ok:=(rTM (lCons (vI .i64) (lOne vBool)) (mRow 1000 9 zac zai)).ok,de:=(rTM (lCons (vI .i64) (lOne vBool)) (mRow 1000 9 zac zai)).de }
def zjF:((List Bool))→AV×Mem:=(r1 (vNew 1 zit dBool)).enc
abbrev zhI:RD:={ α:=(List Bool),enc:=zjF,dec:=(r1 (vNew 1 zit dBool)).dec,ok:=(r1 (vNew 1 zit dBool)).ok,de:=(r1 (vNew 1 zit dBool)).de }
def zol:Int→AV×Mem:=(r1 (vI .u64)).enc
abbrev zeA:RD:={ α:=Int,enc:=zol,dec:=(r1 (vI .u64)).dec,ok:=(r1 (vI .u64)).ok,de:=(r1 (vI .u64)).de }
def zt5:(Int×Int)→AV×Mem:=(r1M (vI .u64) (mBox 1000 1 zch zrd)).enc
abbrev zgR:RD:={ α:=Int×Int,enc:=zt5,dec:=(r1M (vI .u64) (mBox 1000 1 zch zrd)).dec,ok:=(r1M (vI .u64) (mBox 1000 1 zch zrd)).ok,de:=(r1M (vI .u64) (mBox 1000 1 zch zrd)).de }
def zlZ:(Int×Int)→AV×Mem:=(r1M (vI .i64) (mBox 1002 1 za7 zbg)).enc
abbrev zbl:RD:={ α:=Int×Int,enc:=zlZ,dec:=(r1M (vI .i64) (mBox 1002 1 za7 zbg)).dec,ok:=(r1M (vI .i64) (mBox 1002 1 za7 zbg)).ok,de:=(r1M (vI .i64) (mBox 1002 1 za7 zbg)).de }
def zpd:(Int×Int)→AV×Mem:=(r1M (vI .i64) (mBox 1004 1 za7 zbg)).enc
abbrev zbJ:RD:={ α:=Int×Int,enc:=zpd,dec:=(r1M (vI .i64) (mBox 1004 1 za7 zbg)).dec,ok:=(r1M (vI .i64) (mBox 1004 1 za7 zbg)).ok,de:=(r1M (vI .i64) (mBox 1004 1 za7 zbg)).de }
def zpe:((Int×Int)×Int)→AV×Mem:=(rTM (lCons (vI .i64) (lOne (vI .i64))) (mBox 1003 1 za7 zbg)).enc
abbrev zbK:RD:={ α:=(Int×Int)×Int,enc:=zpe,dec:=(rTM (lCons (vI .i64) (lOne (vI .i64))) (mBox 1003 1 za7 zbg)).dec,ok:=(rTM (lCons (vI .i64) (lOne (vI .i64))) (mBox 1003 1 za7 zbg)).ok,de:=(rTM (lCons (vI .i64) (lOne (vI .i64))) (mBox 1003 1 za7 zbg)).de }
def resTab:List RD:=[rRaw,rRaw,rRaw,zag,zag,zag,zag,zag,zag,zag,zag,zq0,zk6,ziR,ziR,zcS,zv6,zzT,zag,ziq,zkz,zag,zag,zag,zag,zag,zbb,zag,zag,zhH,zj3,ziT,ziS,zkv,zjS,zjU,zjT,zf6,zl0,zzU,znI,zau,zic,zlj,zgp,zap,zau,zjd,zlk,zag,zag,zag,zau,zgY,zag,zag,zbI,zau,zau,zau,zeZ,zgz,zkw,zbb,zkx,zau,zau,zag,zag,zag,zau,zl2,zaj,zau,zhH,zdC,zjk,zl1,zdC,zag,zap,zau,zzW,zDm,zau,zag,zbI,zag,zag,zag,zag,zag,zgY,zm7,zgY,zag,zag,zag,ziU,zag,zaj,zgQ,ziq,zag,zag,zag,zag,zob,zdC,zap,zap,zap,zbf,zap,zbz,zcw,zdO,zau,zau,zag,zag,zag,zag,zbI,zbI,zbI,zbf,zbI,zkA,zmn,zoz,zag,zag,zag,zag,zag,zag,zag,zag,zaj,zaj,zaj,zbf,zaj,zbr,zcf,zc5,zlk,zag,zag,zag,zau,zag,zhI,zag,zap,zeA,zgR,zbl,zbJ,zag,zag,zag,zbI,zbl,zbJ,zau,zag,zau,zag,zag,zaj,zbl,zbJ,zag,zbK,zbK,zau,zbK,rRaw,rRaw,rRaw,rRaw,rRaw,rRaw,rRaw,rRaw,rRaw,rRaw,rRaw,rRaw,rRaw,rRaw,rRaw,rRaw]
def zzR:(zbX×Int)→AV×Mem:=(rT (lCons (vAgg zj7) (lOne (vI .i64)))).enc
abbrev zzV:RD:={ α:=zbX×Int,enc:=zzR,dec:=(rT (lCons (vAgg zj7) (lOne (vI .i64)))).dec,ok:=(rT (lCons (vAgg zj7) (lOne (vI .i64)))).ok,de:=(rT (lCons (vAgg zj7) (lOne (vI .i64)))).de }
def zfg:((List ((Int×Int)×zbk)))→AV×Mem:=(r1 (vNewm zbE zcz)).enc
abbrev zky:RD:={ α:=(List ((Int×Int)×zbk)),enc:=zfg,dec:=(r1 (vNewm zbE zcz)).dec,ok:=(r1 (vNewm zbE zcz)).ok,de:=(r1 (vNewm zbE zcz)).de }
def zT:Dic:=Dic.of tyTab resTab [(15,zzV),(42,zjd),(71,zky)]
abbrev zmS:Fr:=⟨Tryz.prog,zC,zA,8,Tryz.f8,[]⟩
abbrev zCy:Fr:=⟨Tryz.prog,zC,zA,9,Tryz.f9,[]⟩
abbrev zCx:Fr:=⟨Tryz.prog,zC,zA,10,Tryz.f10,[]⟩
abbrev zDs:Fr:=⟨Tryz.prog,zC,zA,11,Tryz.f11,[]⟩
abbrev zrG:Fr:=⟨Tryz.prog,zC,zA,12,Tryz.f12,[(1000,⟨0,0,[],false⟩)]⟩
abbrev zlC:Fr:=⟨Tryz.prog,zC,zA,14,Tryz.f14,[(1000,⟨0,0,[],false⟩)]⟩
abbrev zaZ:Fr:=⟨Tryz.prog,zC,zA,15,Tryz.f15,[(1001,⟨0,0,[],false⟩)]⟩
abbrev zsw:Fr:=⟨Tryz.prog,zC,zA,18,Tryz.f18,[]⟩
abbrev zq7:Fr:=⟨Tryz.prog,zC,zA,20,Tryz.f20,[]⟩
abbrev zy6:Fr:=⟨Tryz.prog,zC,zA,21,Tryz.f21,[]⟩
abbrev zwr:Fr:=⟨Tryz.prog,zC,zA,22,Tryz.f22,[]⟩
abbrev zy2:Fr:=⟨Tryz.prog,zC,zA,26,Tryz.f26,[(1000,⟨0,0,[],false⟩)]⟩
abbrev zwe:Fr:=⟨Tryz.prog,zC,zA,27,Tryz.f27,[]⟩
abbrev zud:Fr:=⟨Tryz.prog,zC,zA,28,Tryz.f28,[]⟩
abbrev R_law29_at:Fr:=⟨Tryz.prog,zC,zA,29,Tryz.f29,[]⟩
abbrev zhb:Fr:=⟨Tryz.prog,zC,zA,31,Tryz.f31,[(1001,⟨0,0,[],false⟩)]⟩
abbrev zq4:Fr:=⟨Tryz.prog,zC,zA,32,Tryz.f32,[]⟩
abbrev zj4:Fr:=⟨Tryz.prog,zC,zA,33,Tryz.f33,[(1000,⟨0,0,[],false⟩)]⟩
abbrev zqb:Fr:=⟨Tryz.prog,zC,zA,34,Tryz.f34,[(1000,⟨0,0,[],false⟩)]⟩
abbrev zjN:Fr:=⟨Tryz.prog,zC,zA,35,Tryz.f35,[(1000,⟨0,0,[],false⟩)]⟩
abbrev zwq:Fr:=⟨Tryz.prog,zC,zA,36,Tryz.f36,[(1000,⟨0,0,[],false⟩)]⟩
abbrev zy1:Fr:=⟨Tryz.prog,zC,zA,37,Tryz.f37,[(1000,⟨0,0,[],false⟩)]⟩
abbrev zss:Fr:=⟨Tryz.prog,zC,zA,38,Tryz.f38,[(1000,⟨0,0,[],false⟩)]⟩
abbrev zwI:Fr:=⟨Tryz.prog,zC,zA,40,Tryz.f40,[]⟩
abbrev zz0:Fr:=⟨Tryz.prog,zC,zA,41,Tryz.f41,[]⟩
abbrev zaT:Fr:=⟨Tryz.prog,zC,zA,42,Tryz.f42,[(1000,⟨0,0,[],false⟩)]⟩
abbrev zaO:Fr:=⟨Tryz.prog,zC,zA,43,Tryz.f43,[]⟩
abbrev zoe:Fr:=⟨Tryz.prog,zC,zA,44,Tryz.f44,[]⟩
abbrev znb:Fr:=⟨Tryz.prog,zC,zA,45,Tryz.f45,[(1000,⟨0,0,[],false⟩)]⟩
abbrev ztC:Fr:=⟨Tryz.prog,zC,zA,46,Tryz.f46,[]⟩
abbrev zwM:Fr:=⟨Tryz.prog,zC,zA,48,Tryz.f48,[]⟩
abbrev zwN:Fr:=⟨Tryz.prog,zC,zA,49,Tryz.f49,[]⟩
abbrev zi9:Fr:=⟨Tryz.prog,zC,zA,50,Tryz.f50,[]⟩
abbrev zuf:Fr:=⟨Tryz.prog,zC,zA,51,Tryz.f51,[]⟩
abbrev zz6:Fr:=⟨Tryz.prog,zC,zA,52,Tryz.f52,[]⟩
abbrev zwH:Fr:=⟨Tryz.prog,zC,zA,58,Tryz.f58,[]⟩
abbrev zxZ:Fr:=⟨Tryz.prog,zC,zA,59,Tryz.f59,[]⟩
abbrev zoo:Fr:=⟨Tryz.prog,zC,zA,61,Tryz.f61,[(1000,⟨0,0,[],false⟩)]⟩
abbrev zng:Fr:=⟨Tryz.prog,zC,zA,62,Tryz.f62,[(1000,⟨0,0,[],false⟩)]⟩
abbrev zy3:Fr:=⟨Tryz.prog,zC,zA,63,Tryz.f63,[(1000,⟨0,0,[],false⟩)]⟩
abbrev zq3:Fr:=⟨Tryz.prog,zC,zA,64,Tryz.f64,[(1000,⟨0,0,[],false⟩)]⟩
abbrev zue:Fr:=⟨Tryz.prog,zC,zA,65,Tryz.f65,[]⟩
abbrev zph:Fr:=⟨Tryz.prog,zC,zA,66,Tryz.f66,[]⟩
abbrev zpi:Fr:=⟨Tryz.prog,zC,zA,67,Tryz.f67,[]⟩
abbrev zoB:Fr:=⟨Tryz.prog,zC,zA,68,Tryz.f68,[]⟩
abbrev zlD:Fr:=⟨Tryz.prog,zC,zA,69,Tryz.f69,[]⟩
abbrev zz3:Fr:=⟨Tryz.prog,zC,zA,70,Tryz.f70,[]⟩
abbrev zsv:Fr:=⟨Tryz.prog,zC,zA,71,Tryz.f71,[(1000,⟨0,0,[],false⟩)]⟩
abbrev zj5:Fr:=⟨Tryz.prog,zC,zA,72,Tryz.f72,[(1000,⟨0,0,[],false⟩)]⟩
abbrev zug:Fr:=⟨Tryz.prog,zC,zA,73,Tryz.f73,[]⟩
abbrev zz2:Fr:=⟨Tryz.prog,zC,zA,74,Tryz.f74,[]⟩
abbrev zst:Fr:=⟨Tryz.prog,zC,zA,75,Tryz.f75,[(1000,⟨0,0,[],false⟩),(900,⟨0,0,[],false⟩),(901,⟨0,0,[],false⟩),(902,⟨0,0,[],false⟩)]⟩
abbrev zhv:Fr:=⟨Tryz.prog,zC,zA,76,Tryz.f76,[]⟩
abbrev zsu:Fr:=⟨Tryz.prog,zC,zA,77,Tryz.f77,[]⟩
abbrev zqc:Fr:=⟨Tryz.prog,zC,zA,78,Tryz.f78,[(1000,⟨0,0,[],false⟩),(900,⟨0,0,[],false⟩),(901,⟨0,0,[],false⟩),(902,⟨0,0,[],false⟩)]⟩
abbrev zpD:Fr:=⟨Tryz.prog,zC,zA,79,Tryz.f79,[]⟩
abbrev zb1:Fr:=⟨Tryz.prog,zC,zA,80,Tryz.f80,[(1000,⟨0,0,[],false⟩)]⟩
abbrev zf2:Fr:=⟨Tryz.prog,zC,zA,84,Tryz.f84,[]⟩
abbrev zzZ:Fr:=⟨Tryz.prog,zC,zA,87,Tryz.f87,[]⟩
abbrev zu8:Fr:=⟨Tryz.prog,zC,zA,88,Tryz.f88,[]⟩
abbrev ztk:Fr:=⟨Tryz.prog,zC,zA,89,Tryz.f89,[]⟩
abbrev zy4:Fr:=⟨Tryz.prog,zC,zA,90,Tryz.f90,[]⟩
abbrev zuk:Fr:=⟨Tryz.prog,zC,zA,91,Tryz.f91,[]⟩
abbrev zrH:Fr:=⟨Tryz.prog,zC,zA,92,Tryz.f92,[]⟩
abbrev zpF:Fr:=⟨Tryz.prog,zC,zA,93,Tryz.f93,[]⟩
abbrev zx1:Fr:=⟨Tryz.prog,zC,zA,94,Tryz.f94,[]⟩
abbrev zpE:Fr:=⟨Tryz.prog,zC,zA,95,Tryz.f95,[]⟩
abbrev zx2:Fr:=⟨Tryz.prog,zC,zA,96,Tryz.f96,[]⟩
abbrev zz1:Fr:=⟨Tryz.prog,zC,zA,97,Tryz.f97,[]⟩
abbrev zwJ:Fr:=⟨Tryz.prog,zC,zA,98,Tryz.f98,[]⟩
abbrev zA8:Fr:=⟨Tryz.prog,zC,zA,99,Tryz.f99,[]⟩
abbrev zbN:Fr:=⟨Tryz.prog,zC,zA,100,Tryz.f100,[(1000,⟨0,0,[],false⟩)]⟩
abbrev zbL:Fr:=⟨Tryz.prog,zC,zA,101,Tryz.f101,[]⟩
abbrev zq5:Fr:=⟨Tryz.prog,zC,zA,102,Tryz.f102,[]⟩
abbrev zx0:Fr:=⟨Tryz.prog,zC,zA,103,Tryz.f103,[]⟩
abbrev zwO:Fr:=⟨Tryz.prog,zC,zA,104,Tryz.f104,[]⟩
abbrev zoC:Fr:=⟨Tryz.prog,zC,zA,105,Tryz.f105,[]⟩
abbrev zui:Fr:=⟨Tryz.prog,zC,zA,106,Tryz.f106,[]⟩
abbrev zuj:Fr:=⟨Tryz.prog,zC,zA,107,Tryz.f107,[]⟩
abbrev zgI:Fr:=⟨Tryz.prog,zC,zA,108,Tryz.f108,[(1000,⟨0,0,[],false⟩),(900,⟨0,0,[],false⟩),(901,⟨0,0,[],false⟩),(902,⟨0,0,[],false⟩)]⟩
abbrev zft:Fr:=⟨Tryz.prog,zC,zA,109,Tryz.f109,[(1000,⟨0,0,[],false⟩)]⟩
abbrev zgs:Fr:=⟨Tryz.prog,zC,zA,110,Tryz.f110,[(1000,⟨0,0,[],false⟩)]⟩
abbrev zea:Fr:=⟨Tryz.prog,zC,zA,111,Tryz.f111,[(1000,⟨0,0,[],false⟩)]⟩
abbrev zfW:Fr:=⟨Tryz.prog,zC,zA,112,Tryz.f112,[]⟩
abbrev zh8:Fr:=⟨Tryz.prog,zC,zA,113,Tryz.f113,[(1000,⟨0,0,[],false⟩)]⟩
abbrev zbO:Fr:=⟨Tryz.prog,zC,zA,114,Tryz.f114,[(1000,⟨0,0,[],false⟩)]⟩
abbrev zct:Fr:=⟨Tryz.prog,zC,zA,115,Tryz.f115,[(1000,⟨0,0,[],false⟩)]⟩
abbrev zbH:Fr:=⟨Tryz.prog,zC,zA,116,Tryz.f116,[(1000,⟨0,0,[],false⟩)]⟩
abbrev zh6:Fr:=⟨Tryz.prog,zC,zA,131,Tryz.f131,[]⟩
abbrev ztB:Fr:=⟨Tryz.prog,zC,zA,132,Tryz.f132,[]⟩
abbrev zrF:Fr:=⟨Tryz.prog,zC,zA,133,Tryz.f133,[]⟩
abbrev zq8:Fr:=⟨Tryz.prog,zC,zA,134,Tryz.f134,[]⟩
abbrev zz5:Fr:=⟨Tryz.prog,zC,zA,135,Tryz.f135,[]⟩
abbrev zy7:Fr:=⟨Tryz.prog,zC,zA,136,Tryz.f136,[]⟩
abbrev zB8:Fr:=⟨Tryz.prog,zC,zA,137,Tryz.f137,[]⟩
abbrev zws:Fr:=⟨Tryz.prog,zC,zA,138,Tryz.f138,[]⟩
abbrev zeU:Fr:=⟨Tryz.prog,zC,zA,139,Tryz.f139,[(1000,⟨0,0,[],false⟩)]⟩
abbrev zfI:Fr:=⟨Tryz.prog,zC,zA,140,Tryz.f140,[(1000,⟨0,0,[],false⟩)]⟩
abbrev zdE:Fr:=⟨Tryz.prog,zC,zA,141,Tryz.f141,[(1000,⟨0,0,[],false⟩)]⟩
abbrev zfc:Fr:=⟨Tryz.prog,zC,zA,142,Tryz.f142,[]⟩
abbrev zhc:Fr:=⟨Tryz.prog,zC,zA,143,Tryz.f143,[(1000,⟨0,0,[],false⟩)]⟩
abbrev zbD:Fr:=⟨Tryz.prog,zC,zA,144,Tryz.f144,[(1000,⟨0,0,[],false⟩)]⟩
abbrev zcd:Fr:=⟨Tryz.prog,zC,zA,145,Tryz.f145,[(1000,⟨0,0,[],false⟩)]⟩
abbrev zbw:Fr:=⟨Tryz.prog,zC,zA,146,Tryz.f146,[(1000,⟨0,0,[],false⟩)]⟩
abbrev zwf:Fr:=⟨Tryz.prog,zC,zA,147,Tryz.f147,[]⟩
abbrev zy5:Fr:=⟨Tryz.prog,zC,zA,148,Tryz.f148,[]⟩
abbrev zwP:Fr:=⟨Tryz.prog,zC,zA,149,Tryz.f149,[]⟩
abbrev zwL:Fr:=⟨Tryz.prog,zC,zA,150,Tryz.f150,[]⟩
abbrev zwK:Fr:=⟨Tryz.prog,zC,zA,151,Tryz.f151,[]⟩
abbrev zz4:Fr:=⟨Tryz.prog,zC,zA,152,Tryz.f152,[]⟩
abbrev zbA:Fr:=⟨Tryz.prog,zC,zA,153,Tryz.f153,[]⟩
abbrev zrI:Fr:=⟨Tryz.prog,zC,zA,154,Tryz.f154,[]⟩
abbrev zeX:Fr:=⟨Tryz.prog,zC,zA,155,Tryz.f155,[(1000,⟨0,0,[],false⟩)]⟩
abbrev zs9:Fr:=⟨Tryz.prog,zC,zA,156,Tryz.f156,[]⟩
abbrev ztD:Fr:=⟨Tryz.prog,zC,zA,157,Tryz.f157,[(1000,⟨0,0,[],false⟩)]⟩
abbrev zlE:Fr:=⟨Tryz.prog,zC,zA,158,Tryz.f158,[(1002,⟨0,0,[],false⟩)]⟩
abbrev zoX:Fr:=⟨Tryz.prog,zC,zA,159,Tryz.f159,[(1004,⟨0,0,[],false⟩)]⟩
abbrev zeB:Fr:=⟨Tryz.prog,zC,zA,166,Tryz.f166,[]⟩
abbrev zy0:Fr:=⟨Tryz.prog,zC,zA,167,Tryz.f167,[]⟩
abbrev ztj:Fr:=⟨Tryz.prog,zC,zA,168,Tryz.f168,[]⟩
abbrev zrP:Fr:=⟨Tryz.prog,zC,zA,169,Tryz.f169,[]⟩
abbrev zuh:Fr:=⟨Tryz.prog,zC,zA,170,Tryz.f170,[]⟩
abbrev zep:Fr:=⟨Tryz.prog,zC,zA,171,Tryz.f171,[(1000,⟨0,0,[],false⟩)]⟩
abbrev zkE:Fr:=⟨Tryz.prog,zC,zA,172,Tryz.f172,[(1002,⟨0,0,[],false⟩)]⟩
abbrev znh:Fr:=⟨Tryz.prog,zC,zA,173,Tryz.f173,[(1004,⟨0,0,[],false⟩)]⟩
abbrev zu9:Fr:=⟨Tryz.prog,zC,zA,174,Tryz.f174,[]⟩
abbrev zoY:Fr:=⟨Tryz.prog,zC,zA,175,Tryz.f175,[(1003,⟨0,0,[],false⟩)]⟩
abbrev zoD:Fr:=⟨Tryz.prog,zC,zA,177,Tryz.f177,[]⟩
abbrev zni:Fr:=⟨Tryz.prog,zC,zA,178,Tryz.f178,[(1003,⟨0,0,[],false⟩)]⟩
abbrev zq6:Fr:=⟨Tryz.prog,zC,zA,71,Tryz.f71,[]⟩
abbrev cw:zbV:=callw Tryz.prog zC zA
abbrev zP:Program:=Tryz.prog
theorem ke_117 (x y:zaB):keyEq zP 117 (.agg (zbq x)) (.agg (zbq y))=some (decide (y=x)):=by
 have h1:eqV zP 20 117 [(.int .i64 x.script:Value),(.int .i64 x.part:Value)] [(.int .i64 y.script:Value),(.int .i64 y.part:Value)]=some (x.script == y.script && (x.part == y.part && true)):=by kernel_rfl
 have h2:bitsL [(.int .i64 x.script:Value),(.int .i64 x.part:Value)] [(.int .i64 y.script:Value),(.int .i64 y.part:Value)]=some (x.script == y.script && (x.part == y.part && true)):=by kernel_rfl
 have h:keyEq zP 117 (.agg (zbq x)) (.agg (zbq y))=agree (eqV zP 20 117 [(.int .i64 x.script:Value),(.int .i64 x.part:Value)] [(.int .i64 y.script:Value),(.int .i64 y.part:Value)]) (bitsL [(.int .i64 x.script:Value),(.int .i64 x.part:Value)] [(.int .i64 y.script:Value),(.int .i64 y.part:Value)]):=by kernel_rfl
 rw [h,h1,h2]; have ha:∀ b:Bool,agree (some b) (some b)=some b:=fun b=>by simp [agree]
 rw [ha]; refine congrArg some ?_; by_cases e:y=x
 · rw [decide_eq_true e,e]; simp
 · rw [decide_eq_false e,Bool.eq_false_iff]; intro q; simp only [zb5,beq_iff_eq,and_true] at q; refine e (zeD.inj ?_); show [I (y.script),I (y.part)]=[I (x.script),I (x.part)]; simp only [q]
theorem zkY {β:Type} (z:zaW) (key:zaB) (l:List (zaB×zaW)) (k:zaW→Bool→Option β):mapD zP 117 true zpp (.agg (zcl z)) (List.map zav l) (.agg (zbq key)) k=k ((mfind key l).getD z) (mfind key l).isSome:=
 zvS (agg:=true) (D:=zpp) (kenc:=fun x=>.agg (zbq x)) (venc:=fun x=>.agg (zcl x)) ke_117 (show ∀ x:zaW,avDec true zpp (.agg (zcl x))=some x from fun x=>zpp.de x) z key l k
theorem zp9 {β:Type} (key:zaB) (v:zaW) (l:List (zaB×zaW)) (k:List (List AV)→Option β):msetD zP 117 49 (.agg (zbq key)) (.agg (zcl v)) (List.map zav l) k=k (List.map zav (mput key v l)):=
 ztx (kenc:=fun x=>.agg (zbq x)) (venc:=fun x=>.agg (zcl x)) ke_117 key v l k
theorem zoj {β:Type} (z:Int) (key:zaB) (l:List (zaB×Int)) (k:Int→Bool→Option β):mapD zP 117 false zbg (I z) (List.map zaA l) (.agg (zbq key)) k=k ((mfind key l).getD z) (mfind key l).isSome:=
 zvS (agg:=false) (D:=zbg) (kenc:=fun x=>.agg (zbq x)) (venc:=fun x=>I x) ke_117 (show ∀ x:Int,avDec false zbg (I x)=some x from fun x=>zbg.de x) z key l k
theorem ztg {β:Type} (key:zaB) (v:Int) (l:List (zaB×Int)) (k:List (List AV)→Option β):msetD zP 117 3 (.agg (zbq key)) (I v) (List.map zaA l) k=k (List.map zaA (mput key v l)):=
 ztx (kenc:=fun x=>.agg (zbq x)) (venc:=fun x=>I x) ke_117 key v l k
theorem zoN {β:Type} (z:zab) (key:zaB) (l:List (zaB×zab)) (k:zab→Bool→Option β):mapD zP 117 true zai (.agg (zaa z)) (List.map zbZ l) (.agg (zbq key)) k=k ((mfind key l).getD z) (mfind key l).isSome:=
 zvS (agg:=true) (D:=zai) (kenc:=fun x=>.agg (zbq x)) (venc:=fun x=>.agg (zaa x)) ke_117 (show ∀ x:zab,avDec true zai (.agg (zaa x))=some x from fun x=>zai.de x) z key l k
theorem zoO {β:Type} (key:zaB) (v:zab) (l:List (zaB×zab)) (k:List (List AV)→Option β):msetD zP 117 64 (.agg (zbq key)) (.agg (zaa v)) (List.map zbZ l) k=k (List.map zbZ (mput key v l)):=
 ztx (kenc:=fun x=>.agg (zbq x)) (venc:=fun x=>.agg (zaa x)) ke_117 key v l k
theorem ke_151 (x y:Int×Int):keyEq zP 151 (.agg (zd8 x)) (.agg (zd8 y))=some (decide (y=x)):=by
 have h1:eqV zP 20 151 [(.int .i64 x.1:Value),(.int .i64 x.2:Value)] [(.int .i64 y.1:Value),(.int .i64 y.2:Value)]=some (x.1 == y.1 && (x.2 == y.2 && true)):=by kernel_rfl
 have h2:bitsL [(.int .i64 x.1:Value),(.int .i64 x.2:Value)] [(.int .i64 y.1:Value),(.int .i64 y.2:Value)]=some (x.1 == y.1 && (x.2 == y.2 && true)):=by kernel_rfl
 have h:keyEq zP 151 (.agg (zd8 x)) (.agg (zd8 y))=agree (eqV zP 20 151 [(.int .i64 x.1:Value),(.int .i64 x.2:Value)] [(.int .i64 y.1:Value),(.int .i64 y.2:Value)]) (bitsL [(.int .i64 x.1:Value),(.int .i64 x.2:Value)] [(.int .i64 y.1:Value),(.int .i64 y.2:Value)]):=by kernel_rfl
 rw [h,h1,h2]; have ha:∀ b:Bool,agree (some b) (some b)=some b:=fun b=>by simp [agree]
 rw [ha]; refine congrArg some ?_; by_cases e:y=x
 · rw [decide_eq_true e,e]; simp
 · rw [decide_eq_false e,Bool.eq_false_iff]; intro q; simp only [zb5,beq_iff_eq,and_true] at q; refine e (zgA.inj ?_); show [I (y.1),I (y.2)]=[I (x.1),I (x.2)]; simp only [q]
theorem zm3 {β:Type} (z:zbk) (key:Int×Int) (l:List ((Int×Int)×zbk)) (k:zbk→Bool→Option β):mapD zP 151 true zgf (.agg (zb0 z)) (List.map zbW l) (.agg (zd8 key)) k=k ((mfind key l).getD z) (mfind key l).isSome:=
 zvS (agg:=true) (D:=zgf) (kenc:=fun x=>.agg (zd8 x)) (venc:=fun x=>.agg (zb0 x)) ke_151 (show ∀ x:zbk,avDec true zgf (.agg (zb0 x))=some x from fun x=>zgf.de x) z key l k
theorem zeS {β:Type} (key:Int×Int) (v:zbk) (l:List ((Int×Int)×zbk)) (k:List (List AV)→Option β):msetD zP 151 153 (.agg (zd8 key)) (.agg (zb0 v)) (List.map zbW l) k=k (List.map zbW (mput key v l)):=
 ztx (kenc:=fun x=>.agg (zd8 x)) (venc:=fun x=>.agg (zb0 x)) ke_151 key v l k
@[simp] theorem zar {β:Type} (v:Bool) (k:Bool→Option β):callD zag (some (zaw v)) k=k v:=zbm (D:=zag) k
@[simp] theorem zAr {β:Type} (v:zak) (k:zak→Option β):callD zq0 (some (zt4 v)) k=k v:=zbm (D:=zq0) k
@[simp] theorem zuE {β:Type} (v:zaI×zak) (k:(zaI×zak)→Option β):callD zk6 (some (zk5 v)) k=k v:=zbm (D:=zk6) k
@[simp] theorem zvB {β:Type} (v:((List zab))×zak) (k:(((List zab))×zak)→Option β):callD ziR (some (zkp v)) k=k v:=zbm (D:=ziR) k
@[simp] theorem zEj {β:Type} (v:(zbX×Int)×(List zab)) (k:((zbX×Int)×(List zab))→Option β):callD zcS (some (zqN v)) k=k v:=zbm (D:=zcS) k
@[simp] theorem ztP {β:Type} (v:(List Int)×Bool) (k:((List Int)×Bool)→Option β):callD zkz (some (zkt v)) k=k v:=zbm (D:=zkz) k
@[simp] theorem zbx {β:Type} (v:Int×zak) (k:(Int×zak)→Option β):callD zbb (some (zlX v)) k=k v:=zbm (D:=zbb) k
@[simp] theorem zih {β:Type} (v:zab) (k:zab→Option β):callD zhH (some (zn8 v)) k=k v:=zbm (D:=zhH) k
@[simp] theorem zoq {β:Type} (v:zaI) (k:zaI→Option β):callD zj3 (some (zrC v)) k=k v:=zbm (D:=zj3) k
@[simp] theorem zDJ {β:Type} (v:((List GTask)×Int)×(List zab)) (k:(((List GTask)×Int)×(List zab))→Option β):callD ziT (some (znH v)) k=k v:=zbm (D:=ziT) k
@[simp] theorem zoI {β:Type} (v:(List zaf)) (k:((List zaf))→Option β):callD ziS (some (zkr v)) k=k v:=zbm (D:=ziS) k
@[simp] theorem ztL {β:Type} (v:((List zaP)×(List zbM))×zak) (k:(((List zaP)×(List zbM))×zak)→Option β):callD zkv (some (ziQ v)) k=k v:=zbm (D:=zkv) k
@[simp] theorem ztb {β:Type} (v:((List za3))×zak) (k:(((List za3))×zak)→Option β):callD zjS (some (zjQ v)) k=k v:=zbm (D:=zjS) k
@[simp] theorem ztd {β:Type} (v:((List zaX))×zak) (k:(((List zaX))×zak)→Option β):callD zjU (some (zjR v)) k=k v:=zbm (D:=zjU) k
@[simp] theorem ztc {β:Type} (v:zbe×zak) (k:(zbe×zak)→Option β):callD zjT (some (zmM v)) k=k v:=zbm (D:=zjT) k
@[simp] theorem zdr {β:Type} (v:Bool×zak) (k:(Bool×zak)→Option β):callD zf6 (some (zpc v)) k=k v:=zbm (D:=zf6) k
@[simp] theorem zvC {β:Type} (v:GSeed×zak) (k:(GSeed×zak)→Option β):callD zl0 (some (zlY v)) k=k v:=zbm (D:=zl0) k
@[simp] theorem zsJ {β:Type} (v:zaP) (k:zaP→Option β):callD znI (some (zpY v)) k=k v:=zbm (D:=znI) k
@[simp] theorem zbc {β:Type} (v:Int) (k:Int→Option β):callD zau (some (zbu v)) k=k v:=zbm (D:=zau) k
@[simp] theorem zof {β:Type} (v:((List zab)×Int)×(List zab)) (k:(((List zab)×Int)×(List zab))→Option β):callD zic (some (zfO v)) k=k v:=zbm (D:=zic) k
@[simp] theorem zra {β:Type} (v:List (Option zal)×List (zaB×zaW)) (k:(List (Option zal)×List (zaB×zaW))→Option β):callD zlj (some (zlh v)) k=k v:=zbm (D:=zlj) k
@[simp] theorem zlv {β:Type} (v:(List (zaB×zab))) (k:((List (zaB×zab)))→Option β):callD zgp (some (zez v)) k=k v:=zbm (D:=zgp) k
@[simp] theorem zlq {β:Type} (v:(List zaf)) (k:((List zaf))→Option β):callD zap (some (zf0 v)) k=k v:=zbm (D:=zap) k
@[simp] theorem zsL {β:Type} (v:za3×Bool) (k:(za3×Bool)→Option β):callD zlk (some (zli v)) k=k v:=zbm (D:=zlk) k
@[simp] theorem zme {β:Type} (v:(List GTask)) (k:((List GTask))→Option β):callD zbI (some (zgj v)) k=k v:=zbm (D:=zbI) k
@[simp] theorem zmE {β:Type} (v:Nat×(List GTask)) (k:(Nat×(List GTask))→Option β):callD zeZ (some (zgy v)) k=k v:=zbm (D:=zeZ) k
@[simp] theorem ziZ {β:Type} (v:zaP×zak) (k:(zaP×zak)→Option β):callD zgz (some (zox v)) k=k v:=zbm (D:=zgz) k
@[simp] theorem ztM {β:Type} (v:zbM×zak) (k:(zbM×zak)→Option β):callD zkw (some (znG v)) k=k v:=zbm (D:=zkw) k
@[simp] theorem ztN {β:Type} (v:zaX×zak) (k:(zaX×zak)→Option β):callD zkx (some (zkq v)) k=k v:=zbm (D:=zkx) k
@[simp] theorem zvE {β:Type} (v:((List ((Int×Int)×zbk)))×(List zab)) (k:(((List ((Int×Int)×zbk)))×(List zab))→Option β):callD zl2 (some (zf5 v)) k=k v:=zbm (D:=zl2) k
@[simp] theorem zjs {β:Type} (v:(List zab)) (k:((List zab))→Option β):callD zaj (some (zeI v)) k=k v:=zbm (D:=zaj) k
@[simp] theorem zii {β:Type} (v:zal) (k:zal→Option β):callD zdC (some (zcp v)) k=k v:=zbm (D:=zdC) k
@[simp] theorem zsK {β:Type} (v:Int×(Option Addr)) (k:(Int×(Option Addr))→Option β):callD zjk (some (zhE v)) k=k v:=zbm (D:=zjk) k
@[simp] theorem zvD {β:Type} (v:GSeed×Bool) (k:(GSeed×Bool)→Option β):callD zl1 (some (zjE v)) k=k v:=zbm (D:=zl1) k
@[simp] theorem zpl {β:Type} (v:Int×Bool) (k:(Int×Bool)→Option β):callD zgY (some (zml v)) k=k v:=zbm (D:=zgY) k
@[simp] theorem zEi {β:Type} (v:(List Int)×Int) (k:((List Int)×Int)→Option β):callD zm7 (some (zhF v)) k=k v:=zbm (D:=zm7) k
@[simp] theorem zoJ {β:Type} (v:(Int×Int)) (k:((Int×Int))→Option β):callD ziU (some (zks v)) k=k v:=zbm (D:=ziU) k
@[simp] theorem zmd {β:Type} (v:(List Int)) (k:((List Int))→Option β):callD zgQ (some (zkQ v)) k=k v:=zbm (D:=zgQ) k
@[simp] theorem zkG {β:Type} (v:zaX×Bool) (k:(zaX×Bool)→Option β):callD ziq (some (zoa v)) k=k v:=zbm (D:=ziq) k
@[simp] theorem zw8 {β:Type} (v:ze2×Int) (k:(ze2×Int)→Option β):callD zob (some (zn9 v)) k=k v:=zbm (D:=zob) k
@[simp] theorem zu6 {β:Type} (v:Int×Int) (k:(Int×Int)→Option β):callD zbf (some (ziu v)) k=k v:=zbm (D:=zbf) k
@[simp] theorem zrS {β:Type} (v:Bool×(List zaf)) (k:(Bool×(List zaf))→Option β):callD zbz (some (zgo v)) k=k v:=zbm (D:=zbz) k
@[simp] theorem ztQ {β:Type} (v:Int×(List zaf)) (k:(Int×(List zaf))→Option β):callD zcw (some (zhG v)) k=k v:=zbm (D:=zcw) k
@[simp] theorem zwk {β:Type} (v:(Int×Bool)×(List zaf)) (k:((Int×Bool)×(List zaf))→Option β):callD zdO (some (zi2 v)) k=k v:=zbm (D:=zdO) k
@[simp] theorem zrb {β:Type} (v:Bool×(List zab)) (k:(Bool×(List zab))→Option β):callD zbr (some (zfU v)) k=k v:=zbm (D:=zbr) k
@[simp] theorem zsM {β:Type} (v:Int×(List zab)) (k:(Int×(List zab))→Option β):callD zcf (some (zgP v)) k=k v:=zbm (D:=zcf) k
@[simp] theorem zt9 {β:Type} (v:(Int×Bool)×(List zab)) (k:((Int×Bool)×(List zab))→Option β):callD zc5 (some (zh2 v)) k=k v:=zbm (D:=zc5) k
@[simp] theorem zqx {β:Type} (v:(List Bool)) (k:((List Bool))→Option β):callD zhI (some (zjF v)) k=k v:=zbm (D:=zhI) k
@[simp] theorem zBB {β:Type} (v:Int) (k:Int→Option β):callD zeA (some (zol v)) k=k v:=zbm (D:=zeA) k
@[simp] theorem zrR {β:Type} (v:(List zab)×Int) (k:((List zab)×Int)→Option β):callD zjd (some (zhW v)) k=k v:=zbm (D:=zjd) k
@[simp] theorem ztO {β:Type} (v:(List ((Int×Int)×zbk))) (k:((List ((Int×Int)×zbk)))→Option β):callD zky (some (zfg v)) k=k v:=zbm (D:=zky) k
theorem ptT {y:AV×Mem} (cut:List Nat) {R:Fr} {j:Nat} {st:St} {x:Option (AV×Mem)} (h:x=some y) (hx:tGo R zT cut 100000 (decide (j≠0)) (ptS R.fn j) st=x:=by kernel_rfl):pt R j st=some y:=pt_of zT cut hx h
theorem cwT {y:AV×Mem} (R:Fr) (cut:List Nat) {args:List AV} {ms:Mem} {x:Option (AV×Mem)} (h:x=some y) (ho:R.C.orc R.f args ms=none:=by rfl) (hf:R.P.funcs[R.f]?=some R.fn:=by kernel_rfl) (he:enters R.P R.f=true:=by kernel_rfl)
  (hN:decide (R.fn.ntmps≤1000∧args.length≤R.fn.ntmps)=true:=by kernel_rfl) (hm:R.ms=Go.Ab.blank ms:=by kernel_rfl)
  (hx:tGo R zT cut 100000 false (ptK R.fn 0) { t:=argTab 0 args,m:=ms }=x:=by kernel_rfl):callw R.P R.C R.F R.f args ms=some y:=callw_tree R zT cut ho hf he hN hm hx h
end Go.Proofs.YtikogkgdkdmljaaGreat
end
