/- Annotations of the seat's functions: what lives behind each region, which slots own rows, which arguments are written; how results read. -/
import Derived.Test.YtikogkgdkdmljaaGreatXTy
import Derived.Test.YtikogkgdkdmljaaGreatProg
import Derived.Test.YtikogkgdkdmljaaGreatXSp
set_option linter.unusedSimpArgs false
set_option linter.unusedVariables false
noncomputable section
namespace Go.Proofs.YtikogkgdkdmljaaGreat
open Go.Ab
abbrev LL:=List (List AV)
def zC:Cfg:={ wrt:=atReg [(12,[0]),(13,[0]),(14,[0]),(15,[1]),(16,[0,1]),(26,[0]),(31,[1]),(33,[0]),(34,[0]),(35,[0]),(36,[0]),(37,[0]),(38,[0]),(39,[0]),(42,[0]),(45,[0]),(56,[0]),(60,[0]),(61,[0]),(62,[0]),(63,[0]),(64,[0]),(71,[0]),(72,[0]),(80,[0]),(86,[0]),(100,[0]),(109,[0]),(110,[0]),(111,[0]),(113,[0]),(114,[0]),(115,[0]),(116,[0]),(123,[0]),(124,[0]),(125,[0]),(127,[0]),(128,[0]),(129,[0]),(130,[0]),(139,[0]),(140,[0]),(141,[0]),(143,[0]),(144,[0]),(145,[0]),(146,[0]),(155,[0]),(157,[0]),(158,[2]),(159,[4]),(163,[0]),(164,[2]),(165,[4]),(171,[0]),(172,[2]),(173,[4]),(175,[3]),(176,[3]),(178,[3])],orc:=zOrc,dp:=fun f=>(atReg [(108,[0]),(75,[0]),(78,[0])] f).head? }
def zqE:zar→Mem:=fun x=>[(1000,⟨14,zbl,[[I x.level,.row 900 10 0 (List.map zef.enc x.marks).length,I x.period,I x.started.Time,I x.started.Source,I x.started.Seq,.map 901,.sl 1 (List.map dBool.enc x.watch.Last),B x.watch.Suspended,I x.good.Time,I x.good.Source,I x.good.Seq,B x.some,.row 902 12 0 (List.map zde.enc x.suspensions).length]],true⟩),(900,⟨10,133,List.map zef.enc x.marks,false⟩),(901,⟨0,108,List.map zfo.enc x.noted,false⟩),(902,⟨12,61,List.map zde.enc x.suspensions,false⟩)]
abbrev znp:MD:=⟨zar,zqE,by
 intro x y h; simp only [zqE,zbA,zaS,Ent.mk.injEq,AV.v.injEq,AV.row.injEq,AV.sl.injEq,Value.int.injEq,Value.bool.injEq,Value.string.injEq,true_and,and_true,and_assoc,TyD.minj dBool,TyD.minj zfo,TyD.minj zde,TyD.minj zef] at h
 exact (zar.eqOf (h.1) (h.2.2.2.2.2.2.2.2.2.2.2.2.2.1) (h.2.2.1) (zaW.eqOf (h.2.2.2.1) (h.2.2.2.2.1) (h.2.2.2.2.2.1)) (h.2.2.2.2.2.2.2.2.2.2.2.2.2.2.1) (zfi.eqOf (h.2.2.2.2.2.2.1) (h.2.2.2.2.2.2.2.1)) (zaW.eqOf (h.2.2.2.2.2.2.2.2.1) (h.2.2.2.2.2.2.2.2.2.1) (h.2.2.2.2.2.2.2.2.2.2.1)) (h.2.2.2.2.2.2.2.2.2.2.2.1) (h.2.2.2.2.2.2.2.2.2.2.2.2.2.2.2))⟩
def anK (l:List Nat) (v:List (List Nat)) (o:List (Nat×List (Nat×Nat×TypeId))):Ann:={ lits:=l,live:=fun i=>v[i]?,own:=atReg o }
def zvM:Ann:={ anK [] [[0],[0,14],[2],[3],[3,4],[3,4,5],[3,4,5,6,7],[4,5,6,7,8,9],[6,7,8,9,10,11],[2]] [(5,[(5,9,64)])] with fz:=atReg [(7,[5])] }
def zwU:Ann:=anK [] [[0],[0,23],[2],[3],[3,4],[4,5],[4,5,6,7],[4,5,6,43],[2],[4,6,8],[4,6,8,47,48,49],[4,6,8,47,48,49,50],[4,6,8,9,10,47,48,49],[4,6,8,9,10,11,12,47,48,49],[4,6,8,9,10,11,12,14,47,48,49],[4,6,8,9,10,11,47,48,49,91],[2],[4,6,8,9,10,11,47,48,49,93],[4,6,8,10,11,15,47,48,49],[4,6,8,10,11,47,48,49,132],[2],[4,6,8,10,11,47,48,49,134,135,136],[4,6,8,10,11,47,48,49,134,135,136,137],[4,6,8,10,11,17,47,48,49,134,135,136],[4,6,8,10,11,47,48,49,134,135,136,164],[2],[4,6,8,10,11,47,48,49,134,135,136],[4,6,8,10,11,18,47,48,49],[4,6,8,10,11,18,47,48,49,166,167,168],[4,6,8,10,11,18,47,48,49,166,167,168,169],[4,6,8,10,11,18,20,47,48,49,166,167,168],[4,6,8,10,11,18,47,48,49,166,167,168],[4,6,8,10,11,18,47,48,49,166,167,168],[4,6,8,47,48,49,215],[2],[4,6,8,47,48,49],[2]] [(5,[(5,9,64)])]
def zvL:Ann:=anK [] [[0],[0,23],[2],[3],[3,4],[4,5],[4,5,6,7],[4,5,6,44],[2],[4,5,6,46,47,48],[4,5,6,46,47,48,49],[4,5,6,9,46,47,48],[4,5,6,9,10,46,47,48],[4,5,6,9,10,46,47,48,52,53,54],[4,5,6,9,10,46,47,48,52,53,54,55],[4,5,6,9,10,12,46,47,48,52,53,54],[4,5,6,9,10,12,46,47,48,52,53,54,68],[4,5,6,9,10,46,47,48,52,53,54],[4,5,6,9,10,46,47,48,52,53,54],[4,5,6,9,13,14,46,47,48],[4,5,6,9,13,14,15,46,47,48],[4,5,6,9,13,14,15,16,46,47,48],[4,5,6,9,13,14,15,16,46,47,48,81,82,83],[4,5,6,9,13,14,15,16,46,47,48,81,82,83,84],[4,5,6,9,13,14,15,16,18,46,47,48,81,82,83],[4,5,6,9,13,14,15,16,18,46,47,48,81,82,83,91],[4,5,6,9,13,14,15,16,46,47,48,81,82,83],[4,5,6,9,13,14,15,16,46,47,48,81,82,83],[4,5,6,9,13,14,15,16,46,47,48,98,99,100],[4,5,6,9,13,14,15,16,46,47,48,98,99,100,101],[4,5,6,9,13,14,15,16,20,46,47,48,98,99,100],[4,5,6,9,13,14,15,16,20,46,47,48,98,99,100,108],[4,5,6,9,13,14,15,16,46,47,48,98,99,100],[4,5,6,9,13,14,15,16,46,47,48,98,99,100],[4,5,6,46,47,48,123],[2],[4,5,6,46,47,48],[2]] [(12,[(10,9,64)]),(17,[(10,9,64)]),(20,[(15,8,51)]),(21,[(16,12,61)]),(26,[(15,8,51)]),(32,[(16,12,61)])]
def zvN:Ann:=anK [] [[0],[0,27],[2],[3],[3,4],[4,5],[4,5,6,7],[4,5,6,7,41,42,43],[4,5,6,7,41,42,43,44],[4,5,6,7,9,41,42,43],[4,5,6,7,9,11,41,42,43],[4,5,6,7,9,41,42,43,60],[4,5,6,7,9,41,42,43],[4,5,6,7,9,41,42,43,67],[4,5,6,7,41,42,43],[4,5,6,7,41,42,43],[4,6,7,12,13],[4,7,12,13,14,15],[4,7,12,13,14,15],[4,7,12,13,14,15,16,17],[4,7,16,117],[2],[4,7,16,18],[4,16,18,119,120,121],[4,16,18,119,120,121,122],[4,16,18,20,119,120,121],[4,16,18,20,119,120,121,127],[4,16,18,119,120,121],[4,16,18,119,120,121],[16,18,145],[2],[18,147,148,149],[18,147,148,149,150],[18,22,147,148,149],[18,22,23,24,147,148,149],[18,147,148,149,172],[2],[18,147,148,149],[2]] [(6,[(6,9,64),(7,9,64)]),(12,[(6,9,64)]),(14,[(7,9,64)])]
def zt4:Ann:=anK [] [[0,1],[0,1,19],[4],[1,5],[1,5,6],[1,5,6,7],[1,5,6,7,31],[4],[5,6,7,8],[6,7,8,9],[6,7,8,9,10,11],[8,9,10,11,12,13],[8,9,10,11,12,13,14],[8,9,10,11,12,13,14,67,68,69],[8,9,10,11,12,13,14,67,68,69,70],[8,9,10,11,12,13,14,16,67,68,69],[8,9,10,11,12,13,14,16,67,68,69,88],[8,9,10,11,12,13,14,67,68,69],[8,9,10,11,12,13,14,67,68,69],[4]] [(12,[(14,8,51)]),(17,[(14,8,51)])]
def zsm:Ann:=anK [] [[0,1],[0,1,29],[4],[1,5],[1,5,6],[1,6,7],[1,6,7,8,9],[6,7,8,9,10],[6,7,8,9,10,11],[6,7,8,9,10,11,12],[6,7,8,9,10,11,12,13,14],[6,7,8,9,10,11,13,14,15,16],[6,7,8,10,11,13,113],[4],[6,7,10,11,13,17],[6,7,10,11,17,129],[4],[6,7,10,11,17,131,132,133],[6,7,10,11,17,131,132,133,134],[6,7,10,11,17,19,131,132,133],[6,7,10,11,17,19,21,131,132,133],[6,7,10,11,17,19,131,132,133,153],[6,7,10,11,17,19,22,131,132,133],[6,7,10,11,17,19,22,23,24,131,132,133],[6,7,10,11,17,19,23,24,25,26,131,132,133],[6,7,10,11,17,131,132,133,205],[4],[6,7,10,11,17,131,132,133],[4]] []
def zgS:Ann:=anK [] [[0],[2]] []
def zDf:Ann:=anK [13] [[],[1],[1,2,3],[1,2,3,4,5],[1,2,3,4,5],[2,3,4,5,6,7],[0]] [(1,[(1,9,64)]),(4,[(1,9,64)])]
def zyt:Ann:={ anK [] [[0,2],[0,2,3,4],[0,2,3,5],[0,2,3,5,6],[0,2,3,5,6,26],[0,2,3,5,6],[0,2,3,5,6,30],[0,2,3,5,6],[2]] [] with cel:=fun _=>[(5,4,900,2,90)] }
def zxf:Ann:=anK [] [[0,2,4],[0,2,4,7],[0,2,4,7,8],[0,2,4,7,8,13],[0,2,4,7,8],[0,2,4,7,8,9],[0,2,4,7,8,9,22],[0,2,4,7,8],[0,2,4,7,8,9,22,31],[0,2,4,7,8],[0,2,4,7,8,9,22,50],[0,2,4,7,8,9,55],[0,2,4,7,8],[0,2,4,7,8,9,22,76],[0,2,4,7,8,80],[0,2,4,7,8],[0,2,4,7,8,9,91],[0,2,4,7,8,95],[0,2,4,7,8,10],[0,2,4,7,8,10],[0,2,4,7,8],[6]] [(1,[(7,9,64)]),(7,[(7,9,64)]),(9,[(7,9,64)]),(12,[(7,9,64)]),(15,[(7,9,64)]),(20,[(7,9,64)])]
def zzG:Ann:=anK [] [[0,2,4],[0,2,4,7],[0,2,4,7,8],[0,2,4,7,8,17],[0,2,4,7,8],[0,2,4,7,8,9],[0,2,4,7,8,9,10],[0,2,4,7,8,9,10,32],[0,2,4,7,8,9,10],[0,2,4,7,8,9,10,11],[0,2,4,7,8,9,10,11,39],[0,2,4,7,8,9,10,11],[0,2,4,7,8,9,10,11,53],[0,2,4,7,8,9,10,11,12],[0,2,4,7,8,9,10,11],[6]] [(1,[(7,9,64)]),(14,[(7,9,64)])]
def zBv:Ann:={ anK [] [[1,2,4],[1,2,4,17],[4,5],[2,4,6,7],[2,4,6,7,25],[4,5],[4,8,9],[4,8,9,10],[4,9,10,34,35],[4,9,10,34,35,36],[4,9,10,11,12,34,35],[4,9,10,11,12,34,35,42],[4,9,10,11,12,34,35],[4,9,10,11,12,34,35,54],[4,9,10,11,12,34,35,54,56],[4,9,10,11,12,14,34,35,54],[4,9,10,11,12,34,35,54],[4,9,10,34,35],[4,10],[4,5]] [] with cel:=fun _=>[(10,0,301,8,51),(10,1,302,12,61)] }
def zvO:Ann:=anK [] [[0,1],[0,1,5],[0,1,5,6],[0,1,5,6,15],[0,1,5,6],[0,1,5,6,7],[0,1,5,6],[0,1,5,8],[0,1,5,8,39],[0,1,5,8],[0,1,5,8,43],[0,1,5,8],[4]] [(1,[(5,9,64)]),(11,[(5,9,64)])]
def zzF:Ann:={ anK [] [[0],[3],[2]] [] with frz:=true }
def zDm:Ann:=anK [] [[2,3],[2,3,22],[4],[2,3,5],[2,3,5,27],[2,3,5],[2,3,5,40],[4],[2,3,6],[2,3,6,45],[2,3,6],[2,3,6,58],[4],[4]] []
def zuW:Ann:=anK [] [[0,1,4],[0,1,4,6],[0,1,4,6,10],[0,1,4,6],[0,1,4,6,19],[4,5],[4,5]] []
def zxn:Ann:=anK [] [[0,1],[0,1,6],[0,1,6,10],[0,1,6],[0,1,6,19],[4,5],[4,5]] [(0,[(4,1,3)]),(5,[(4,1,3)]),(6,[(4,1,3)])]
def zs8:Ann:=anK [] [[0,1,5],[5,7,8],[6]] []
def zwY:Ann:=anK [] [[3,4,5],[6]] []
def zDi:Ann:=anK [] [[2,3],[2,3,5],[4],[2,3,16],[4],[4]] []
def zyA:Ann:=anK [] [[0,1],[0,1,10],[4],[0,1,5],[0,1,5,14],[0,1,5],[0,1,5,25],[4],[4]] []
def zDk:Ann:=anK [] [[2,3],[2,3,5,6],[2,3,5,33],[4],[2,3,5,7],[4]] []
def zzI:Ann:=anK [] [[0,1],[0,1,19],[4],[0,1,5],[1,5],[1,5,40],[5],[4]] []
def zwI:Ann:=anK [] [[0,1],[0,1,10],[4],[0,1,12,13],[0,1,12,13,14],[0,1,5,12,13],[0,1,12,13,24],[4],[0,1,12,13],[4]] []
def zBt:Ann:=anK [] [[1,2,3],[1,11,12,13],[1,11,12,13,14],[1,8,11,12,13],[1,11,12,13,26],[6],[1,11,12,13],[6]] []
def a_law29_at:Ann:=anK [] [[0,1,2,6],[6]] []
def zCy:Ann:={ anK [12,13] [[0],[0,1],[0,1],[0,1,2],[0,1,2,18],[0,1,2],[0,1,2],[0,1],[0]] [] with cel:=fun _=>[(1,1,900,7,53)] }
def zxk:Ann:=anK [] [[1,2],[1,2,20],[4,5],[2,6,7],[2,6,7,27],[4,5],[8,9],[8,9,10],[9,10,35,36],[9,10,35,36,37],[9,10,11,12,35,36],[9,10,11,12,35,36,43],[9,10,11,12,13,35,36],[9,10,11,13,35,36,50,51,52],[9,10,11,13,35,36,50,51,52,53],[9,10,11,13,15,35,36,50,51,52],[9,10,11,13,15,17,35,36,50,51,52],[9,10,11,13,15,35,36,50,51,52,73],[9,10,11,13,35,36,50,51,52],[9,10,11,13,35,36,50,51,52],[9,10,35,36],[10],[4,5]] [(7,[(10,2,136)]),(18,[(10,2,136)])]
def zxj:Ann:=anK [] [[1,2,3],[1,2,3,7],[1,2,7,11,12,13],[1,2,7,11,12,13,14],[1,2,7,9,11,12,13],[1,2,7,9,11,12,13,26],[1,2,7,11,12,13],[1,2,7,11,12,13],[6]] [(1,[(7,8,51)]),(6,[(7,8,51)])]
def zxg:Ann:=anK [9] [[0],[0,4],[0,4,11],[0,4],[0,4,18],[0,4],[0,4,5],[0,4,5,6],[0,4,5,6,27],[0,4,5,6],[0,4,5,6],[2,3]] [(1,[(4,3,95)]),(3,[(4,3,95)]),(5,[(4,3,95)]),(6,[(5,2,131)]),(10,[(5,2,131)])]
def zwV:Ann:=anK [] [[0],[0,3],[0,3,4],[0,3,4,5],[0,3,4,5,10],[0,3,4,5],[0,3,4,5],[0,3,4,5],[2]] [(1,[(3,5,67)]),(7,[(3,5,67)])]
def zwX:Ann:=anK [] [[0,1,2],[0,1,2,7],[0,1,2,7,8],[0,1,2,7,8,13],[0,1,2,7,8],[0,1,2,7,8,9],[0,1,2,7,8,9,10],[0,1,2,7,8,9,10,19],[0,1,2,7,8,9,10],[0,1,2,7,8,9,10,28],[0,1,2,7,8,9,10],[0,1,2,7,8,9,11],[0,1,2,7,8,9,11,43],[0,1,2,7,8,9,11],[0,1,2,7,8,9,11,48],[0,1,2,7,8,9,11],[6]] [(1,[(7,7,53)]),(5,[(9,3,95)]),(10,[(9,3,95)]),(15,[(7,7,53)])]
def zwW:Ann:=anK [] [[0,2],[0,2,3],[2]] []
def zit:Ann:=anK [] [[0,1],[4]] []
def zzJ:Ann:={ anK [] [[0,1,5,6],[0,1,5,6,7],[0,6,7,8],[0,6,7,8,9],[0,6,7,8,9,20],[0,6,7,8,9],[0,6,7,8,9],[6]] [] with cel:=fun _=>[(7,1,900,1,3)] }
def zzH:Ann:={ anK [] [[0,2,3,5,8],[0,2,3,5,8,9],[0,5,8,10],[0,5,8,10,31],[8],[0,5,8,10,11],[0,8,10,11,12],[0,8,10,11,12],[0,8,10,11],[0,8,10],[8,10,72],[8,10],[8]] [] with cel:=fun _=>[(10,8,900,1,3)] }
def zDg:Ann:=anK [] [[0,3,4],[0,3,4,5],[0,3,4,5,9],[0,3,4,5],[0,3,4,5,29],[4],[4]] []
def zAw:Ann:=anK [] [[1],[33],[2],[2]] []
def zw0:Ann:=anK [] [[0],[0,4],[0,4,10],[0,4,10,12],[0,4,6,10],[0,4,6,10,17],[0,4,10],[4,28],[2,3],[4],[4,32,33],[4,32,33,34],[4,7,32,33],[4,32,33],[4,32,33],[2,3]] [(1,[(4,9,64)]),(6,[(4,9,64)])]
def zBw:Ann:={ anK [] [[1,2],[1,2,6],[1,2,6,20,21,22],[1,2,6,20,21,22,23],[1,2,6,8,20,21,22],[1,2,6,20,21,22],[1,2,6,20,21,22],[1,2,6,9],[2,6,9,38,39,40],[2,6,9,38,39,40,41],[2,6,9,11,38,39,40],[2,6,9,11,38,39,40,45],[2,6,9,11,38,39,40,45,46],[2,6,9,11,12,38,39,40],[2,6,9,11,12,38,39,40,55],[2,6,9,38,39,40],[2,6,9,11,38,39,40,45,60],[2,6,9,38,39,40],[2,6,9,11,38,39,40,70],[2,6,9,11,13,14,38,39,40],[2,6,9,11,13,14,38,39,40,80],[2,6,9,11,13,14,15,16,38,39,40],[2,6,9,11,13,14,15,38,39,40,88],[2,6,9,38,39,40],[2,6,9,38,39,40],[2,6,9,38,39,40],[4,5]] [] with cel:=fun _=>[(33,1,301,10,133),(33,6,302,1,0),(33,7,1000,1,0),(33,13,303,12,61)] }
def ztC:Ann:=anK [] [[0,1],[0,1,5],[0,1,5,12,13,14],[0,1,5,12,13,14,15],[0,1,5,7,12,13,14],[0,1,5,7,12,13,14,32],[0,1,5,12,13,14],[0,1,5,12,13,14],[4]] []
def zf3:Ann:=anK [] [[0,1,4],[]] []
def zdr:Ann:=anK [] [[2,3],[4]] []
def zyz:Ann:={ anK [] [[0],[0,4,5],[0,4,5,6],[0,4,5,6,7],[0,4,5,6,7,20],[0,4,5,6,7],[0,4,5,6,7,8],[0,4,5,6,7,8,9,10],[0,4,5,6,7,53],[0,4,5,6,7,11],[0,4,5,6,7,11],[0,4,5,6,7],[6,68],[2,3],[2,3]] [(2,[(6,9,64)]),(11,[(6,9,64)])] with fz:=atReg [(10,[60])],cel:=fun _=>[(11,8,900,1,3)] }
def zDh:Ann:=anK [] [[2,3],[2,3,5],[2,3,5,10],[2,3,5],[2,3,5,20],[4],[4]] []
def zuU:Ann:=anK [] [[1,2,3],[4]] []
def zCB:Ann:=anK [] [[0,3],[0,3,6],[0,3,6,10],[0,3,6],[0,3,6,30],[4,5],[4,5]] []
def zDl:Ann:=anK [] [[1,2],[4]] []
def zyy:Ann:=anK [] [[2,3,4,5],[2,3,4,24],[8],[2,3,4,9],[3,9,37],[8],[8]] []
def zDe:Ann:=anK [] [[0],[0,3],[3,6,7,8],[3,6,7,8,9],[3,5,6,7,8],[3,5,6,7,8,14],[2],[3,6,7,8],[2]] []
def zyq:Ann:=anK [] [[0,1],[0,1,5],[0,1,5,6],[0,1,6,11],[12],[4],[4],[0,1,13],[4],[0,1,16],[4],[19],[4],[4]] []
def zoF:Ann:=anK [] [[0],[0,8],[2],[0,3],[0,3,13],[0,3],[0,3,25],[0,3,4],[0,3,4,5],[0,3,4,5,32],[0,3,4,5],[0,3,4,5,44],[0,3,4,5],[0,3,4,5],[0,3],[2],[2]] []
def zys:Ann:={ anK [14] [[0,1,2,6],[0,6,7],[0,6,7,18],[0,6,7],[0,6,7,32],[6,7],[6]] [] with cel:=fun _=>[(7,2,900,6,98)] }
def zxh:Ann:=anK [] [[0,3,4],[0,3,4,5],[0,3,4,5,16],[4,5],[4]] []
def zxi:Ann:={ anK [30] [[0,2,4,6],[0,4,6,7],[0,4,6,7,8],[0,4,6,7,8,36],[0,4,6,7,8],[0,4,6,7,8,9],[0,4,6,7,8,9,45],[0,4,6,7,8,9],[0,4,6,7,8],[6]] [] with cel:=fun _=>[(7,6,900,1,3)] }
def zBu:Ann:=anK [] [[0],[0,7],[2],[0,8,9,10],[0,8,9,10,11],[0,3,4,8,9,10],[0,3,4,8,9,10,17],[2],[0,8,9,10,36],[2],[0,8,9,10],[2]] []
def zuT:Ann:=anK [] [[0],[0,7],[2],[0,8,9,10],[0,8,9,10,11],[0,3,4,8,9,10],[0,3,4,8,9,10,48],[2],[0,3,4,8,9,10,63],[2],[0,8,9,10,76],[2],[0,8,9,10],[2]] []
def zuV:Ann:=anK [] [[1],[1,17],[2],[1,19,20,21],[1,19,20,21,22],[1,3,4,19,20,21],[1,19,20,21,33],[2],[1,19,20,21],[2]] []
def zt6:Ann:=anK [] [[1],[1,10,11,12],[1,10,11,12,13],[1,4,10,11,12],[1,4,5,6,10,11,12],[1,4,5,10,11,12,23],[2],[1,8,10,11,12],[1,10,11,12,41],[2],[1,10,11,12],[2]] []
def zvT:Ann:=anK [] [[1],[1,10],[2],[1,12,13,14],[1,12,13,14,15],[1,3,4,12,13,14],[1,4,12,13,14,32],[2],[1,4,5,6,12,13,14],[1,12,13,14,52],[2],[1,12,13,14],[2]] []
def zAz:Ann:=anK [] [[1],[34],[2],[2]] []
def zzK:Ann:=anK [] [[0],[0,3],[0,3,10,11,12],[0,3,10,11,12,13],[0,3,4,5,10,11,12],[0,3,4,5,10,11,12,19],[0,3,4,5,6,10,11,12],[0,3,4,5,6,7,8,10,11,12],[0,3,4,5,6,7,10,11,12,29],[0,3,6,7,10,11,12],[0,3,6,7,10,11,12,39],[0,3,6,7,10,11,12],[0,3,10,11,12],[0,3,10,11,12],[2]] []
def zAy:Ann:=anK [] [[1,2],[1,2],[2]] []
def zs6:Ann:={ anK [] [[0,3],[0,3,10],[0,3,4],[0,3],[0,3],[0],[0],[0],[]] [] with cel:=fun _=>[(1000,1,900,10,133),(1000,6,901,1,0),(1000,7,1000,1,0),(1000,13,902,12,61)] }
def zvQ:Ann:=anK [] [[0,4,5],[4,5,7],[4,5,7,8,9],[4,5,7,8,39],[6,7],[4,5,6,7,8,9],[4,5,6,7,8,78],[6,7],[5,6,7,8,99],[6,7],[6,7,105],[6,7],[6,7]] []
def zs7:Ann:=anK [] [[1,2,4],[1,4,9,10,11],[1,4,9,10,11,12],[1,4,7,9,10,11],[1,4,7,9,10,11,18],[4,5],[1,4,9,10,11],[4,5]] []
def zwZ:Ann:={ anK [] [[0,6,7,8,9],[0,6,7,8,9,10],[0,6,7,8,9,10,12],[0,6,7,8,9,10,36],[0,6,7,8,9],[0,6,7,8,9,13,14],[0,6,8,9,13,14,45,46,47],[0,6,8,9,13,14,45,46,47,48],[0,6,8,9,13,14,15,16,45,46,47],[0,6,8,9,13,14,15,45,46,47,54],[0,6,8,9,13,14,15,17,18,45,46,47],[0,6,8,9,13,14,15,17,45,46,47,68],[0,6,8,9,13,14,17,45,46,47],[0,6,8,9,13,14,45,46,47],[0,6,8,9,13,14,45,46,47],[0,6,9,19],[0,9,19,20,21],[0,9,19,20,99],[0,9,19,20],[0,9,19,104],[],[0,9,114],[]] [(5,[(13,1,3),(14,1,3)]),(12,[(13,1,3)]),(13,[(14,1,3)])] with cel:=fun _=>[(1000,1,900,10,133),(1000,6,901,1,0),(1000,7,1000,1,0),(1000,13,902,12,61)] }
def zvR:Ann:=anK [] [[0,3],[0,3,11,12,13],[0,3,11,12,13,14],[0,3,6,11,12,13],[0,3,7,8,11,12,13],[0,3,11,12,13,33],[4],[0,3,11,12,13],[4]] []
def zgT:Ann:=anK [] [[0,1,2,3,4,10],[0,1,2,3,4,10,11],[0,1,2,3,4,10,11,12],[0,1,2,3,4,10,11,12,25],[],[0,1,2,3,4,10,11,12,32],[],[0,1,2,3,4,10,11,12,39],[0,1,2,3,4,10,11,12],[0,1,2,3,4,10,11,12],[0,1,2,3,4,10,11,12,13,14],[0,1,2,3,4,10,11,12,13,14,56],[0,1,2,3,4,10,11,12,13],[0,1,2,3,4,10,11,12,13],[0,1,2,3,4,10,11,12,13,14],[0,1,2,3,4,10,11,12,13,75],[0,1,2,3,4,10,11,12,13,80],[0,1,2,3,4,10,11,12,13,97],[0,2,3,4,10,11,15],[0,1,2,3,4,10,11],[0,1,2,3,4,12,16,17],[0,1,2,3,4,11,12,16],[0,1,2,3,4,11,12,16,18,19],[0,1,2,3,4,11,16,18,19,20],[0,1,2,3,4,11,16,18,19,20,125],[0,1,2,3,4,10,11,16],[0,2,3,4,10,11,16],[0,1,2,3,4,10,11],[0,1,2,3,4,10,11,16],[0,1,3,4,10,11,16],[0,1,2,3,4,10,11]] []
def a_bits_Len:Ann:=anK [] [[0],[2],[2]] []
def zzL:Ann:=anK [] [[0],[0,4,5],[0,4,5,6],[0,4,5,6,15],[0,4,5,6],[0,4,5,6,23],[0,4,5,6,7],[0,4,5,6,7,8,9],[0,4,5,6,7,8,44],[0,4,5,6],[0,4,5,6,7,57],[0,4,5,6],[2,3]] []
def zDj:Ann:=anK [] [[0],[0,10],[2],[3,4],[3,4,5],[3,4,5,6,7],[3,4,5,6,7,34],[3,4,5,6,7,56],[3,4,5,6,7],[3,4,5,6,7],[3,4,5,6,7],[3,4,5,6,7],[2]] [(0,[(2,9,64)]),(2,[(2,9,64)]),(4,[(5,9,64)]),(8,[(5,9,64)]),(10,[(5,9,64)]),(12,[(2,9,64)])]
def zel:Ann:=anK [] [[0,1],[0,1,7,8],[0,1,7,8,9],[0,1,5,7,8],[0,1,5,7,8,16],[4],[0,1,7,8],[4]] []
def zCA:Ann:=anK [] [[2,3],[2,3,5],[2,3,5,27],[4],[2,3,5,6],[2,3,5,6,30],[2,3,5,6],[2,3,5,6,46],[4],[2,3,5,6,7],[2,3,5,6,7,54],[2,3,5,6,7],[2,3,5,6,7,106],[4],[4]] []
def zvP:Ann:=anK [] [[1],[1,40],[2],[2]] []
def zAv:Ann:=anK [] [[0],[0,3],[0,3,7],[0,3],[0,3,19],[2],[2]] []
def zBz:Ann:=anK [] [[2,3],[2,3,27],[4],[3,29,30,31],[3,29,30,31,32],[3,5,6,29,30,31],[3,29,30,31,52],[4],[3,29,30,31],[4]] []
def zyv:Ann:=anK [] [[2,3],[3,9,10,11],[3,9,10,11,12],[3,6,7,9,10,11],[3,6,9,10,11,27],[4,5],[3,9,10,11],[4,5]] []
def zAA:Ann:=anK [] [[2,3,4],[2,3,4,17],[6,7],[2,3,4,23],[6,7],[2,3,4,25,26,27],[2,3,4,25,26,27,28],[2,3,4,8,9,25,26,27],[2,3,4,9,10,25,26,27],[2,3,4,25,26,27,56],[6,7],[2,3,4,25,26,27],[2,3,4,11],[2,4,11,63,64,65],[2,4,11,63,64,65,66],[2,4,11,12,13,63,64,65],[2,4,11,12,13,63,64,65,70],[2,4,11,63,64,65],[2,4,11,12,13,63,64,65,77],[2,4,11,63,64,65],[2,4,11,12,63,64,65,94],[2,4,11,63,64,65],[2,4,11,63,64,65],[6,7]] []
def zyu:Ann:=anK [] [[1,2],[2,6,7],[2,6,15],[4,5],[4,5]] []
def zvS:Ann:=anK [] [[1,2],[1,2,12],[4],[1,14,15,16],[1,14,15,16,17],[1,5,6,14,15,16],[1,14,15,16,34],[4],[1,14,15,16],[4]] []
def zAx:Ann:=anK [] [[1],[1,16],[2],[1,18],[1,18,19],[2],[1,18,23],[2],[1,60],[2],[2]] []
def zxl:Ann:=anK [] [[1,2],[2]] []
def zt7:Ann:=anK [5] [[0],[0,4],[2],[2]] [(0,[(2,1,3)]),(2,[(2,1,3)]),(3,[(2,1,3)])]
def zxo:Ann:=anK [] [[2,3,4,5],[8]] []
def zBx:Ann:=anK [] [[1,2,3],[1,2,3,29],[6],[1,2,3,7,8],[1,2,3,7,8,31,32],[1,2,3,7,8,31,32,33],[1,2,3,7,8,9,31,32],[1,2,3,7,8,10,11,31,32],[1,2,3,7,8,10,11,31,32,50],[6],[1,2,3,7,8,31,32],[1,2,3,7,8,31,32],[6]] []
def zBy:Ann:=anK [] [[2,3,4,6],[2,3,4,6,12],[6,7],[2,3,4,6,15],[6,7],[3,6,8],[3,6,8,27],[3,6,8],[6,7]] [(5,[(8,1,4)]),(7,[(8,1,4)])]
def zt5:Ann:={ anK [] [[0,1,5],[0,6],[0,6,19],[0,6],[0,6],[0,6,7],[0,6,7,46],[0,6,7],[0,6,7,65],[0,6,7]] [] with cel:=fun _=>[(1000,1,900,10,133),(1000,6,901,1,0),(1000,7,1000,1,0),(1000,13,902,12,61)] }
def zfB:Ann:=anK [] [[0,1,2,3,8],[0,1,2,3,8,14],[0,1,2,3,8],[0,1,2,3,8,9],[0,1,2,3,8,9,34],[0,1,2,3,8,9],[0,1,2,3,8,9]] []
def zgB:Ann:=anK [] [[0,1,2,3,8],[0,1,2,3,8,9],[0,3,8,9,10],[0,3,8,9,10,11],[0,3,8,9,10,11,21],[0,3,8,9,10,11],[0,3,8,9,10,11],[0,3,8,9,12],[0,3,8,9,12,33],[0,3,8,9,12],[0,3,8,9,12],[0,3,8,9,12]] []
def zfA:Ann:=anK [] [[0,1,8],[0,1,8,17],[0,1,8,9],[0,1,8,9,10],[0,1,8,9,10,11],[0,1,8,9,10,11,35],[0,1,8,9,10,11],[0,1,8,9,10,11,12],[0,1,8,9,10,11,12,45],[0,1,8,9,10,11,12],[0,1,8,9,10,11]] []
def zf4:Ann:=anK [] [[0,1,2,3],[0,1,3,10],[0,1,3,10,11],[0,1,3,10,11,12],[0,1,3,10,11,12,13],[0,3,10,11,12,13,14],[0,3,10,11,12,13,14,34],[0,3,11,12,13,14,36],[0,3,11,12,13,14],[0,3,11,12,13,14],[0,3,11,12,13,14],[11,13],[13,55],[8,9],[13,55,57],[8,9],[13,60],[8,9]] []
def zfR:Ann:=anK [] [[0,2,8],[0,8,9],[0,8,9,15],[0,8,9],[0,8,9],[0,8,9]] []
def zeB:Ann:=anK [] [[0,1,2,3],[0,1,2,3,9],[0,1,2,3,9,10],[0,1,2,3,9,10,16],[0,1,2,3,9,10],[0,1,2,3,9,10,36],[0,1,2,3,9,10],[0,1,2,3,9,10,41],[8],[0,1,2,3,9,10,45],[8],[0,1,2,3,9,10],[0,1,2,3,9,10,65],[0,1,2,3,9,10,11],[0,1,2,3,9,10,11,69],[0,1,2,3,9,10,11],[0,1,2,3,9,10,11,84],[0,1,2,3,9,10,11],[0,1,2,3,9,10,104],[0,1,2,3,9,10,12],[0,1,2,3,9,10,12,109],[0,1,2,3,9,10,12],[0,1,2,3,9,10,12,124],[0,1,2,3,9,10,12],[8]] []
def zfs:Ann:=anK [] [[0,1,2,3,4],[0,1,2,4],[0,1,4,11,12],[0,1,4,11,12,47],[0,1,4,11,12],[0,1,4,11,12,65],[0,1,4,11,12],[0,1,4,11,12,70],[0,1,4,11,12],[0,1,4,11,12],[0,1,4,11,12],[10]] []
def zgl:Ann:=anK [] [[0,1,2,3,4],[0,1,2,4],[0,1,4,12,13],[0,1,4,12,13,47],[0,1,4,12,13],[0,1,4,12,13,66],[0,1,4,12,13],[0,1,4,12,13,71],[13],[10,11],[0,1,4,12,13],[0,1,4,12,13],[0,1,4,12,13],[0,1,4,12,13,120],[0,1,4,12,13],[0,1,4,12,13,139],[0,1,4,12,13],[0,1,4,12,13,144],[0,1,4,12,13],[0,1,4,12,13],[0,1,4,12,13],[13],[10,11]] []
def zDc:Ann:=anK [] [[0,2],[0,2,4],[0],[0,2],[0,2,8],[0,2],[0,2],[2]] []
def zDd:Ann:=anK [] [[0,2],[0,2,4],[0],[0,2],[0,2,8],[0,2],[0,2],[0,2,14],[0,2],[0,2],[2]] []
def zCC:Ann:=anK [] [[1],[1,19],[2],[1,3],[1,3,24],[1,3],[1,3,33],[2],[1,35],[1,35,36],[2],[1,35,57],[2],[1,89],[2],[2]] []
def zxm:Ann:=anK [] [[1],[1,34],[2],[1,3],[1,3,4],[1,3,4,39],[1,3,4],[1,3,4,48],[2],[1,3,4],[2]] []
def zyr:Ann:=anK [] [[1],[1,22],[2],[1,32],[2],[1,34,35,36],[1,34,35,36,37],[1,4,34,35,36],[1,34,35,36,42],[2],[1,34,35,36],[2]] []
def zxq:Ann:=anK [] [[1,2],[1,2,9],[4],[1,2,13,14,15],[1,2,13,14,15,16],[1,2,5,6,13,14,15],[1,2,13,14,15,40],[4],[1,2,13,14,15],[4]] []
def zAB:Ann:=anK [] [[0],[3],[3,4],[3,4],[4],[2],[2]] []
def zzM:Ann:=anK [] [[1,2,3],[1,2,3,9],[6],[6]] []
def zwJ:Ann:=anK [] [[1],[2]] []
def zw1:Ann:=anK [] [[1],[1,37],[2],[2]] []
def zCz:Ann:=anK [] [[0,1,4],[1,4,8,9,10],[1,4,8,9,10,11],[1,4,7,8,9,10],[1,4,7,8,9,10,17],[4,7],[4,5],[1,4,8,9,10],[4,5]] []
def zxp:Ann:=anK [] [[1,2],[1,2,6],[4],[1,2,9],[4],[4]] []
def zs9:Ann:=anK [5] [[0],[0,4],[2],[2]] [(0,[(2,1,4)]),(2,[(2,1,4)]),(3,[(2,1,4)])]
def zyw:Ann:=anK [] [[1,2],[1,2,5],[2,5,8,9,10],[2,5,8,9,10,11],[2,5,7,8,9,10],[2,5,8,9,10,15],[2,5,8,9,10],[2,5,8,9,10],[4]] []
def zgC:Ann:=anK [] [[0,2,3,4,10],[0,2,3,4,10,11],[0,2,3,4,10,11,18],[0,2,3,4,10,11,40],[0,2,3,4,10,11],[0,2,3,4,10,11,58],[0,2,3,4,11],[0,2,3,4,10]] []
def zt8:Ann:=anK [] [[0],[0],[0],[0],[2]] []
def zfr:Ann:=anK [] [[0,1,2,3],[8]] []
def zhd:Ann:=anK [] [[0,1,2,3,4,5],[0,1,2,3,4,5],[0,1,2,4,5],[2],[12]] []
def a_ref28_in:Ann:=anK [] [[0,1,2],[6]] []
def zyx:Ann:=anK [] [[1],[1,30],[2],[1,33],[2],[2]] []
def zzE:Ann:=anK [] [[1],[1,30],[2],[1,32],[1,32,33],[2],[1,43],[2],[2]] []
def zAu:Ann:=anK [] [[0],[0,3],[3,6,7,8],[3,6,7,8,9],[3,5,6,7,8],[3,6,7,8],[3,6,7,8],[2]] []
def zhe:Ann:=anK [] [[0,1,2,3,4],[1,2,3,22],[1,2],[10,11],[10,11]] []
def aNone:Ann:={ lits:=[],live:=fun _=>none,own:=fun _=>[] }
def annTab:List Ann:=[aNone,aNone,aNone,zvM,zwU,zvL,zvN,zt4,zsm,zgS,zDf,zgS,zyt,zxf,zzG,zBv,zvO,zzF,zDm,zuW,zxn,zs8,zwY,zDi,zyA,zDk,zzI,zwI,zBt,a_law29_at,zCy,zxk,zxj,zxg,zwV,zwX,zwW,zit,zzJ,zzH,zDg,zAw,zw0,zBw,ztC,zf3,zdr,zyz,zuW,zDh,zit,zuU,zdr,zCB,zDl,zyy,zf3,zdr,zDe,zyq,zoF,zys,zxh,zit,zxi,zBu,zuT,zuV,zt6,zvT,zAz,zzK,zf3,zdr,zAy,zs6,zvQ,zs7,zwZ,zvR,zgT,a_bits_Len,zzL,zDj,zel,zCA,zgT,zgS,zvP,zAv,zgS,zBz,zyv,zAA,zyu,zvS,zgS,zAx,zxl,zdr,zgT,zt7,zs7,zs8,zxo,zwI,zBx,zBy,zt5,zfB,zgB,zfA,zf4,zfR,zeB,zfs,zgl,zDc,zDd,zCC,zdr,zdr,zxm,zfB,zgB,zfA,zf4,zfR,zeB,zfs,zgl,zit,zgS,zyr,zxq,zAB,zzM,zwJ,zw1,zfB,zgB,zfA,zf4,zfR,zeB,zfs,zgl,zCz,zdr,zxp,zgS,zit,zdr,zs9,zyw,zgC,zgS,zt8,zfr,zhd,zwJ,a_ref28_in,zyx,zgC,zfr,zhd,zel,zzE,zAu,zit,zgS,zgC,zfr,zhd,zgS,zhe,zhe,zel,zhe,aNone,aNone,aNone,aNone,aNone,aNone,aNone,aNone,aNone,aNone,aNone,aNone,aNone,aNone,aNone,aNone]
def zA:AnnF:=fun f=>annTab.getD f aNone
def zat:Bool→AV×Mem:=(r1 vBool).enc
abbrev zae:RD:={ α:=Bool,enc:=zat,dec:=(r1 vBool).dec,ok:=(r1 vBool).ok,de:=(r1 vBool).de }
def zuu:zai→AV×Mem:=(r1 (vNewp 2 zak za6)).enc
abbrev zrs:RD:={ α:=zai,enc:=zuu,dec:=(r1 (vNewp 2 zak za6)).dec,ok:=(r1 (vNewp 2 zak za6)).ok,de:=(r1 (vNewp 2 zak za6)).de }
def zlf:(zaM×zai)→AV×Mem:=(r1M (vAgg zkb) (mBox 1000 2 zak za6)).enc
abbrev zlg:RD:={ α:=zaM×zai,enc:=zlf,dec:=(r1M (vAgg zkb) (mBox 1000 2 zak za6)).dec,ok:=(r1M (vAgg zkb) (mBox 1000 2 zak za6)).ok,de:=(r1M (vAgg zkb) (mBox 1000 2 zak za6)).de }
def zgc:(((List zab))×zai)→AV×Mem:=(r1M (vNew 9 zac zaj) (mBox 1000 2 zak za6)).enc
abbrev zhr:RD:={ α:=((List zab))×zai,enc:=zgc,dec:=(r1M (vNew 9 zac zaj) (mBox 1000 2 zak za6)).dec,ok:=(r1M (vNew 9 zac zaj) (mBox 1000 2 zak za6)).ok,de:=(r1M (vNew 9 zac zaj) (mBox 1000 2 zak za6)).de }
def zrj:((zcl×Int)×(List zab))→AV×Mem:=(rTM (lCons (vAgg zkh) (lOne (vI .i64))) (mRow 1001 9 zac zaj)).enc
abbrev zfd:RD:={ α:=(zcl×Int)×(List zab),enc:=zrj,dec:=(rTM (lCons (vAgg zkh) (lOne (vI .i64))) (mRow 1001 9 zac zaj)).dec,ok:=(rTM (lCons (vAgg zkh) (lOne (vI .i64))) (mRow 1001 9 zac zaj)).ok,de:=(rTM (lCons (vAgg zkh) (lOne (vI .i64))) (mRow 1001 9 zac zaj)).de }
def zjq:(((List zab))×zai×(List zab))→AV×Mem:=(r1M (vNew 9 zac zaj) (mApp (mBox 1000 2 zak za6) (mRow 1001 9 zac zaj) (fun _ _=>rfl))).enc
abbrev zhS:RD:={ α:=((List zab))×zai×(List zab),enc:=zjq,dec:=(r1M (vNew 9 zac zaj) (mApp (mBox 1000 2 zak za6) (mRow 1001 9 zac zaj) (fun _ _=>rfl))).dec,ok:=(r1M (vNew 9 zac zaj) (mApp (mBox 1000 2 zak za6) (mRow 1001 9 zac zaj) (fun _ _=>rfl))).ok,de:=(r1M (vNew 9 zac zaj) (mApp (mBox 1000 2 zak za6) (mRow 1001 9 zac zaj) (fun _ _=>rfl))).de }
def zpy:((List zab))→AV×Mem:=(r1 (vSl 9 zaj)).enc
abbrev zmf:RD:={ α:=(List zab),enc:=zpy,dec:=(r1 (vSl 9 zaj)).dec,ok:=(r1 (vSl 9 zaj)).ok,de:=(r1 (vSl 9 zaj)).de }
def zop:(za0×Bool)→AV×Mem:=(rT (lCons (vAgg zcY) (lOne vBool))).enc
abbrev ziB:RD:={ α:=za0×Bool,enc:=zop,dec:=(rT (lCons (vAgg zcY) (lOne vBool))).dec,ok:=(rT (lCons (vAgg zcY) (lOne vBool))).ok,de:=(rT (lCons (vAgg zcY) (lOne vBool))).de }
def zx3:((List Int)×Bool)→AV×Mem:=(rT (lCons (vSl 1 zbc) (lOne vBool))).enc
abbrev zx4:RD:={ α:=(List Int)×Bool,enc:=zx3,dec:=(rT (lCons (vSl 1 zbc) (lOne vBool))).dec,ok:=(rT (lCons (vSl 1 zbc) (lOne vBool))).ok,de:=(rT (lCons (vSl 1 zbc) (lOne vBool))).de }
def zmc:(Int×zai)→AV×Mem:=(r1M (vI .i64) (mBox 1000 2 zak za6)).enc
abbrev zaX:RD:={ α:=Int×zai,enc:=zmc,dec:=(r1M (vI .i64) (mBox 1000 2 zak za6)).dec,ok:=(r1M (vI .i64) (mBox 1000 2 zak za6)).ok,de:=(r1M (vI .i64) (mBox 1000 2 zak za6)).de }
def zon:zab→AV×Mem:=(r1 (vAgg zaj)).enc
abbrev zhR:RD:={ α:=zab,enc:=zon,dec:=(r1 (vAgg zaj)).dec,ok:=(r1 (vAgg zaj)).ok,de:=(r1 (vAgg zaj)).de }
def zr5:zaM→AV×Mem:=(r1 (vAgg zkb)).enc
abbrev zkd:RD:={ α:=zaM,enc:=zr5,dec:=(r1 (vAgg zkb)).dec,ok:=(r1 (vAgg zkb)).ok,de:=(r1 (vAgg zkb)).de }
def znW:(((List GTask)×Int)×(List zab))→AV×Mem:=(rTM (lCons (vSl 2 zfa) (lOne (vI .i64))) (mRow 1001 9 zac zaj)).enc
abbrev zi1:RD:={ α:=((List GTask)×Int)×(List zab),enc:=znW,dec:=(rTM (lCons (vSl 2 zfa) (lOne (vI .i64))) (mRow 1001 9 zac zaj)).dec,ok:=(rTM (lCons (vSl 2 zfa) (lOne (vI .i64))) (mRow 1001 9 zac zaj)).ok,de:=(rTM (lCons (vSl 2 zfa) (lOne (vI .i64))) (mRow 1001 9 zac zaj)).de }
def zkz:((List zag))→AV×Mem:=(r1 (vNew 8 zao zaL)).enc
abbrev zkF:RD:={ α:=(List zag),enc:=zkz,dec:=(r1 (vNew 8 zao zaL)).dec,ok:=(r1 (vNew 8 zao zaL)).ok,de:=(r1 (vNew 8 zao zaL)).de }
def zi0:(((List zaQ)×(List zbP))×zai)→AV×Mem:=(rTM (lCons (vSl 3 zcW) (lOne (vSl 2 zfS))) (mBox 1000 2 zak za6)).enc
abbrev zkC:RD:={ α:=((List zaQ)×(List zbP))×zai,enc:=zi0,dec:=(rTM (lCons (vSl 3 zcW) (lOne (vSl 2 zfS))) (mBox 1000 2 zak za6)).dec,ok:=(rTM (lCons (vSl 3 zcW) (lOne (vSl 2 zfS))) (mBox 1000 2 zak za6)).ok,de:=(rTM (lCons (vSl 3 zcW) (lOne (vSl 2 zfS))) (mBox 1000 2 zak za6)).de }
def zj0:(((List zbh))×zai)→AV×Mem:=(r1M (vNew 5 zgj zeC) (mBox 1000 2 zak za6)).enc
abbrev zj2:RD:={ α:=((List zbh))×zai,enc:=zj0,dec:=(r1M (vNew 5 zgj zeC) (mBox 1000 2 zak za6)).dec,ok:=(r1M (vNew 5 zgj zeC) (mBox 1000 2 zak za6)).ok,de:=(r1M (vNew 5 zgj zeC) (mBox 1000 2 zak za6)).de }
def zj1:(((List za0))×zai)→AV×Mem:=(r1M (vNew 7 zdR zcY) (mBox 1000 2 zak za6)).enc
abbrev zj4:RD:={ α:=((List za0))×zai,enc:=zj1,dec:=(r1M (vNew 7 zdR zcY) (mBox 1000 2 zak za6)).dec,ok:=(r1M (vNew 7 zdR zcY) (mBox 1000 2 zak za6)).ok,de:=(r1M (vNew 7 zdR zcY) (mBox 1000 2 zak za6)).de }
def zm2:(zbf×zai)→AV×Mem:=(r1M (vAgg zmx) (mBox 1000 2 zak za6)).enc
abbrev zj3:RD:={ α:=zbf×zai,enc:=zm2,dec:=(r1M (vAgg zmx) (mBox 1000 2 zak za6)).dec,ok:=(r1M (vAgg zmx) (mBox 1000 2 zak za6)).ok,de:=(r1M (vAgg zmx) (mBox 1000 2 zak za6)).de }
def zpz:(Bool×zai)→AV×Mem:=(r1M vBool (mBox 1000 2 zak za6)).enc
abbrev zeS:RD:={ α:=Bool×zai,enc:=zpz,dec:=(r1M vBool (mBox 1000 2 zak za6)).dec,ok:=(r1M vBool (mBox 1000 2 zak za6)).ok,de:=(r1M vBool (mBox 1000 2 zak za6)).de }
def zmd:(GSeed×zai)→AV×Mem:=(r1M (vAgg zik) (mBox 1000 2 zak za6)).enc
abbrev zmh:RD:={ α:=GSeed×zai,enc:=zmd,dec:=(r1M (vAgg zik) (mBox 1000 2 zak za6)).dec,ok:=(r1M (vAgg zik) (mBox 1000 2 zak za6)).ok,de:=(r1M (vAgg zik) (mBox 1000 2 zak za6)).de }
def zpA:(zab×zai)→AV×Mem:=(r1M (vAgg zaj) (mBox 1000 2 zak za6)).enc
abbrev zmg:RD:={ α:=zab×zai,enc:=zpA,dec:=(r1M (vAgg zaj) (mBox 1000 2 zak za6)).dec,ok:=(r1M (vAgg zaj) (mBox 1000 2 zak za6)).ok,de:=(r1M (vAgg zaj) (mBox 1000 2 zak za6)).de }
def zqs:zaQ→AV×Mem:=(r1 (vAgg zcW)).enc
abbrev zlr:RD:={ α:=zaQ,enc:=zqs,dec:=(r1 (vAgg zcW)).dec,ok:=(r1 (vAgg zcW)).ok,de:=(r1 (vAgg zcW)).de }
def zbv:Int→AV×Mem:=(r1 (vI .i64)).enc
abbrev zau:RD:={ α:=Int,enc:=zbv,dec:=(r1 (vI .i64)).dec,ok:=(r1 (vI .i64)).ok,de:=(r1 (vI .i64)).de }
def zfV:(((List zab)×Int)×(List zab))→AV×Mem:=(rTM (lCons (vSl 9 zaj) (lOne (vI .i64))) (mRow 1000 9 zac zaj)).enc
abbrev zio:RD:={ α:=((List zab)×Int)×(List zab),enc:=zfV,dec:=(rTM (lCons (vSl 9 zaj) (lOne (vI .i64))) (mRow 1000 9 zac zaj)).dec,ok:=(rTM (lCons (vSl 9 zaj) (lOne (vI .i64))) (mRow 1000 9 zac zaj)).ok,de:=(rTM (lCons (vSl 9 zaj) (lOne (vI .i64))) (mRow 1000 9 zac zaj)).de }
def zeD:((List (zaG×zab)))→AV×Mem:=(r1 (vNewm zcn zed)).enc
abbrev zgx:RD:={ α:=(List (zaG×zab)),enc:=zeD,dec:=(r1 (vNewm zcn zed)).dec,ok:=(r1 (vNewm zcn zed)).ok,de:=(r1 (vNewm zcn zed)).de }
def zf6:((List zag))→AV×Mem:=(r0M (mRow 1000 8 zao zaL)).enc
abbrev zap:RD:={ α:=(List zag),enc:=zf6,dec:=(r0M (mRow 1000 8 zao zaL)).dec,ok:=(r0M (mRow 1000 8 zao zaL)).ok,de:=(r0M (mRow 1000 8 zao zaL)).de }
def zev:((List zab)×Int)→AV×Mem:=(rT (lCons (vSl 9 zaj) (lOne (vI .i64)))).enc
abbrev zh6:RD:={ α:=(List zab)×Int,enc:=zev,dec:=(rT (lCons (vSl 9 zaj) (lOne (vI .i64)))).dec,ok:=(rT (lCons (vSl 9 zaj) (lOne (vI .i64)))).ok,de:=(rT (lCons (vSl 9 zaj) (lOne (vI .i64)))).de }
def zqt:(zbh×Bool)→AV×Mem:=(rT (lCons (vAgg zeC) (lOne vBool))).enc
abbrev znX:RD:={ α:=zbh×Bool,enc:=zqt,dec:=(rT (lCons (vAgg zeC) (lOne vBool))).dec,ok:=(rT (lCons (vAgg zeC) (lOne vBool))).ok,de:=(rT (lCons (vAgg zeC) (lOne vBool))).de }
def zmC:(Int×Bool)→AV×Mem:=(rT (lCons (vI .i64) (lOne vBool))).enc
abbrev zg7:RD:={ α:=Int×Bool,enc:=zmC,dec:=(rT (lCons (vI .i64) (lOne vBool))).dec,ok:=(rT (lCons (vI .i64) (lOne vBool))).ok,de:=(rT (lCons (vI .i64) (lOne vBool))).de }
def zgq:((List GTask))→AV×Mem:=(r0M (mRow 1000 2 zb8 zfa)).enc
abbrev zbK:RD:={ α:=(List GTask),enc:=zgq,dec:=(r0M (mRow 1000 2 zb8 zfa)).dec,ok:=(r0M (mRow 1000 2 zb8 zfa)).ok,de:=(r0M (mRow 1000 2 zb8 zfa)).de }
def zgG:(Nat×(List GTask))→AV×Mem:=(r1M (vRow 1000 2) (mRow 1000 2 zb8 zfa)).enc
abbrev ze4:RD:={ α:=Nat×(List GTask),enc:=zgG,dec:=(r1M (vRow 1000 2) (mRow 1000 2 zb8 zfa)).dec,ok:=(r1M (vRow 1000 2) (mRow 1000 2 zb8 zfa)).ok,de:=(r1M (vRow 1000 2) (mRow 1000 2 zb8 zfa)).de }
def zoO:(zaQ×zai)→AV×Mem:=(r1M (vAgg zcW) (mBox 1000 2 zak za6)).enc
abbrev zgH:RD:={ α:=zaQ×zai,enc:=zoO,dec:=(r1M (vAgg zcW) (mBox 1000 2 zak za6)).dec,ok:=(r1M (vAgg zcW) (mBox 1000 2 zak za6)).ok,de:=(r1M (vAgg zcW) (mBox 1000 2 zak za6)).de }
def znV:(zbP×zai)→AV×Mem:=(r1M (vAgg zfS) (mBox 1000 2 zak za6)).enc
abbrev zkD:RD:={ α:=zbP×zai,enc:=znV,dec:=(r1M (vAgg zfS) (mBox 1000 2 zak za6)).dec,ok:=(r1M (vAgg zfS) (mBox 1000 2 zak za6)).ok,de:=(r1M (vAgg zfS) (mBox 1000 2 zak za6)).de }
def zky:(za0×zai)→AV×Mem:=(r1M (vAgg zcY) (mBox 1000 2 zak za6)).enc
abbrev zkE:RD:={ α:=za0×zai,enc:=zky,dec:=(r1M (vAgg zcY) (mBox 1000 2 zak za6)).dec,ok:=(r1M (vAgg zcY) (mBox 1000 2 zak za6)).ok,de:=(r1M (vAgg zcY) (mBox 1000 2 zak za6)).de }
def zgd:(((List ((Int×Int)×zbd)))×(List zab))→AV×Mem:=(r1M (vNewm zbE zcD) (mRow 1000 9 zac zaj)).enc
abbrev zmk:RD:={ α:=((List ((Int×Int)×zbd)))×(List zab),enc:=zgd,dec:=(r1M (vNewm zbE zcD) (mRow 1000 9 zac zaj)).dec,ok:=(r1M (vNewm zbE zcD) (mRow 1000 9 zac zaj)).ok,de:=(r1M (vNewm zbE zcD) (mRow 1000 9 zac zaj)).de }
def zeN:((List zab))→AV×Mem:=(r0M (mRow 1000 9 zac zaj)).enc
abbrev zal:RD:={ α:=(List zab),enc:=zeN,dec:=(r0M (mRow 1000 9 zac zaj)).dec,ok:=(r0M (mRow 1000 9 zac zaj)).ok,de:=(r0M (mRow 1000 9 zac zaj)).de }
def zcs:zar→AV×Mem:=(r0M znp).enc
abbrev zdE:RD:={ α:=zar,enc:=zcs,dec:=(r0M znp).dec,ok:=(r0M znp).ok,de:=(r0M znp).de }
def zhO:(Int×(Option Addr))→AV×Mem:=(rT (lCons (vI .i64) (lOne vPtr))).enc
abbrev zjr:RD:={ α:=Int×(Option Addr),enc:=zhO,dec:=(rT (lCons (vI .i64) (lOne vPtr))).dec,ok:=(rT (lCons (vI .i64) (lOne vPtr))).ok,de:=(rT (lCons (vI .i64) (lOne vPtr))).de }
def zjL:(GSeed×Bool)→AV×Mem:=(rT (lCons (vAgg zik) (lOne vBool))).enc
abbrev zmj:RD:={ α:=GSeed×Bool,enc:=zjL,dec:=(rT (lCons (vAgg zik) (lOne vBool))).dec,ok:=(rT (lCons (vAgg zik) (lOne vBool))).ok,de:=(rT (lCons (vAgg zik) (lOne vBool))).de }
def zjN:((List ((Int×Int)×Int))×(List ((Int×Int)×Bool)))→AV×Mem:=(rT (lCons (vMp zh5) (lOne (vMp zix)))).enc
abbrev zml:RD:={ α:=(List ((Int×Int)×Int))×(List ((Int×Int)×Bool)),enc:=zjN,dec:=(rT (lCons (vMp zh5) (lOne (vMp zix)))).dec,ok:=(rT (lCons (vMp zh5) (lOne (vMp zix)))).ok,de:=(rT (lCons (vMp zh5) (lOne (vMp zix)))).de }
def zjM:((List zab))→AV×Mem:=(r1 (vNew 9 zac zaj)).enc
abbrev zlt:RD:={ α:=(List zab),enc:=zjM,dec:=(r1 (vNew 9 zac zaj)).dec,ok:=(r1 (vNew 9 zac zaj)).ok,de:=(r1 (vNew 9 zac zaj)).de }
def zhP:((List Int)×Int)→AV×Mem:=(rT (lCons (vSl 1 zbc) (lOne (vI .i64)))).enc
abbrev znm:RD:={ α:=(List Int)×Int,enc:=zhP,dec:=(rT (lCons (vSl 1 zbc) (lOne (vI .i64)))).dec,ok:=(rT (lCons (vSl 1 zbc) (lOne (vI .i64)))).ok,de:=(rT (lCons (vSl 1 zbc) (lOne (vI .i64)))).de }
def zkA:((Int×Int))→AV×Mem:=(r1 (vAgg zgI)).enc
abbrev zi2:RD:={ α:=(Int×Int),enc:=zkA,dec:=(r1 (vAgg zgI)).dec,ok:=(r1 (vAgg zgI)).ok,de:=(r1 (vAgg zgI)).de }
def zkW:((List Int))→AV×Mem:=(r1 (vNew 1 za9 zbc)).enc
abbrev zg0:RD:={ α:=(List Int),enc:=zkW,dec:=(r1 (vNew 1 za9 zbc)).dec,ok:=(r1 (vNew 1 za9 zbc)).ok,de:=(r1 (vNew 1 za9 zbc)).de }
def zoo:(zfi×Int)→AV×Mem:=(rT (lCons (vAgg zu5) (lOne (vI .i64)))).enc
abbrev zoq:RD:={ α:=zfi×Int,enc:=zoo,dec:=(rT (lCons (vAgg zu5) (lOne (vI .i64)))).dec,ok:=(rT (lCons (vAgg zu5) (lOne (vI .i64)))).ok,de:=(rT (lCons (vAgg zu5) (lOne (vI .i64)))).de }
def ziF:(Int×Int)→AV×Mem:=(rT (lCons (vI .i64) (lOne (vI .i64)))).enc
abbrev zbk:RD:={ α:=Int×Int,enc:=ziF,dec:=(rT (lCons (vI .i64) (lOne (vI .i64)))).dec,ok:=(rT (lCons (vI .i64) (lOne (vI .i64)))).ok,de:=(rT (lCons (vI .i64) (lOne (vI .i64)))).de }
def zgw:(Bool×(List zag))→AV×Mem:=(r1M vBool (mRow 1000 8 zao zaL)).enc
abbrev zbz:RD:={ α:=Bool×(List zag),enc:=zgw,dec:=(r1M vBool (mRow 1000 8 zao zaL)).dec,ok:=(r1M vBool (mRow 1000 8 zao zaL)).ok,de:=(r1M vBool (mRow 1000 8 zao zaL)).de }
def zhQ:(Int×(List zag))→AV×Mem:=(r1M (vI .i64) (mRow 1000 8 zao zaL)).enc
abbrev zcB:RD:={ α:=Int×(List zag),enc:=zhQ,dec:=(r1M (vI .i64) (mRow 1000 8 zao zaL)).dec,ok:=(r1M (vI .i64) (mRow 1000 8 zao zaL)).ok,de:=(r1M (vI .i64) (mRow 1000 8 zao zaL)).de }
def zjc:((Int×Bool)×(List zag))→AV×Mem:=(rTM (lCons (vI .i64) (lOne vBool)) (mRow 1000 8 zao zaL)).enc
abbrev zdP:RD:={ α:=(Int×Bool)×(List zag),enc:=zjc,dec:=(rTM (lCons (vI .i64) (lOne vBool)) (mRow 1000 8 zao zaL)).dec,ok:=(rTM (lCons (vI .i64) (lOne vBool)) (mRow 1000 8 zao zaL)).ok,de:=(rTM (lCons (vI .i64) (lOne vBool)) (mRow 1000 8 zao zaL)).de }
def zkB:(Bool×(List GTask))→AV×Mem:=(r1M vBool (mRow 1000 2 zb8 zfa)).enc
abbrev zkH:RD:={ α:=Bool×(List GTask),enc:=zkB,dec:=(r1M vBool (mRow 1000 2 zb8 zfa)).dec,ok:=(r1M vBool (mRow 1000 2 zb8 zfa)).ok,de:=(r1M vBool (mRow 1000 2 zb8 zfa)).de }
def zmD:(Int×(List GTask))→AV×Mem:=(r1M (vI .i64) (mRow 1000 2 zb8 zfa)).enc
abbrev zmE:RD:={ α:=Int×(List GTask),enc:=zmD,dec:=(r1M (vI .i64) (mRow 1000 2 zb8 zfa)).dec,ok:=(r1M (vI .i64) (mRow 1000 2 zb8 zfa)).ok,de:=(r1M (vI .i64) (mRow 1000 2 zb8 zfa)).de }
def zoP:((Int×Bool)×(List GTask))→AV×Mem:=(rTM (lCons (vI .i64) (lOne vBool)) (mRow 1000 2 zb8 zfa)).enc
abbrev zoQ:RD:={ α:=(Int×Bool)×(List GTask),enc:=zoP,dec:=(rTM (lCons (vI .i64) (lOne vBool)) (mRow 1000 2 zb8 zfa)).dec,ok:=(rTM (lCons (vI .i64) (lOne vBool)) (mRow 1000 2 zb8 zfa)).ok,de:=(rTM (lCons (vI .i64) (lOne vBool)) (mRow 1000 2 zb8 zfa)).de }
def zf0:(Bool×(List zab))→AV×Mem:=(r1M vBool (mRow 1000 9 zac zaj)).enc
abbrev zbs:RD:={ α:=Bool×(List zab),enc:=zf0,dec:=(r1M vBool (mRow 1000 9 zac zaj)).dec,ok:=(r1M vBool (mRow 1000 9 zac zaj)).ok,de:=(r1M vBool (mRow 1000 9 zac zaj)).de }
def zgZ:(Int×(List zab))→AV×Mem:=(r1M (vI .i64) (mRow 1000 9 zac zaj)).enc
abbrev zch:RD:={ α:=Int×(List zab),enc:=zgZ,dec:=(r1M (vI .i64) (mRow 1000 9 zac zaj)).dec,ok:=(r1M (vI .i64) (mRow 1000 9 zac zaj)).ok,de:=(r1M (vI .i64) (mRow 1000 9 zac zaj)).de }
def zid:((Int×Bool)×(List zab))→AV×Mem:=(rTM (lCons (vI .i64) (lOne vBool)) (mRow 1000 9 zac zaj)).enc
abbrev zc7:RD:={ α:=(Int×Bool)×(List zab),enc:=zid,dec:=(rTM (lCons (vI .i64) (lOne vBool)) (mRow 1000 9 zac zaj)).dec,ok:=(rTM (lCons (vI .i64) (lOne vBool)) (mRow 1000 9 zac zaj)).ok,de:=(rTM (lCons (vI .i64) (lOne vBool)) (mRow 1000 9 zac zaj)).de }
def zjO:((List Bool))→AV×Mem:=(r1 (vNew 1 ziE dBool)).enc
abbrev zhT:RD:={ α:=(List Bool),enc:=zjO,dec:=(r1 (vNew 1 ziE dBool)).dec,ok:=(r1 (vNew 1 ziE dBool)).ok,de:=(r1 (vNew 1 ziE dBool)).de }
def zoB:Int→AV×Mem:=(r1 (vI .u64)).enc
abbrev zeE:RD:={ α:=Int,enc:=zoB,dec:=(r1 (vI .u64)).dec,ok:=(r1 (vI .u64)).ok,de:=(r1 (vI .u64)).de }
def zuv:(Int×Int)→AV×Mem:=(r1M (vI .u64) (mBox 1000 1 zck zrG)).enc
abbrev zg1:RD:={ α:=Int×Int,enc:=zuv,dec:=(r1M (vI .u64) (mBox 1000 1 zck zrG)).dec,ok:=(r1M (vI .u64) (mBox 1000 1 zck zrG)).ok,de:=(r1M (vI .u64) (mBox 1000 1 zck zrG)).de }
def zme:(Int×Int)→AV×Mem:=(r1M (vI .i64) (mBox 1002 1 za9 zbc)).enc
abbrev zbn:RD:={ α:=Int×Int,enc:=zme,dec:=(r1M (vI .i64) (mBox 1002 1 za9 zbc)).dec,ok:=(r1M (vI .i64) (mBox 1002 1 za9 zbc)).ok,de:=(r1M (vI .i64) (mBox 1002 1 za9 zbc)).de }
def zpC:(Int×Int)→AV×Mem:=(r1M (vI .i64) (mBox 1004 1 za9 zbc)).enc
abbrev zbM:RD:={ α:=Int×Int,enc:=zpC,dec:=(r1M (vI .i64) (mBox 1004 1 za9 zbc)).dec,ok:=(r1M (vI .i64) (mBox 1004 1 za9 zbc)).ok,de:=(r1M (vI .i64) (mBox 1004 1 za9 zbc)).de }
def zpD:((Int×Int)×Int)→AV×Mem:=(rTM (lCons (vI .i64) (lOne (vI .i64))) (mBox 1003 1 za9 zbc)).enc
abbrev zbN:RD:={ α:=(Int×Int)×Int,enc:=zpD,dec:=(rTM (lCons (vI .i64) (lOne (vI .i64))) (mBox 1003 1 za9 zbc)).dec,ok:=(rTM (lCons (vI .i64) (lOne (vI .i64))) (mBox 1003 1 za9 zbc)).ok,de:=(rTM (lCons (vI .i64) (lOne (vI .i64))) (mBox 1003 1 za9 zbc)).de }
def resTab:List RD:=[rRaw,rRaw,rRaw,zae,zae,zae,zae,zae,zae,zae,zae,zrs,zlg,zhr,zhr,zfd,zhS,zmf,zae,ziB,zx4,zae,zae,zae,zae,zae,zaX,zae,zae,zhR,zkd,zi1,zkF,zkC,zj2,zj4,zj3,zeS,zmh,zmg,zlr,zau,zio,zls,zgx,zap,zau,zh6,znX,zae,zae,zae,zau,zg7,zae,zae,zbK,zau,zau,zau,ze4,zgH,zkD,zaX,zkE,zau,zau,zae,zae,zae,zau,zmk,zal,zau,zhR,zdE,zjr,zmj,zdE,zae,zap,zau,zml,zlt,zau,zae,zbK,zae,zae,zae,zae,zae,zg7,znm,zg7,zae,zae,zae,zi2,zae,zal,zg0,ziB,zae,zae,zae,zae,zoq,zdE,zap,zap,zap,zbk,zap,zbz,zcB,zdP,zau,zau,zae,zae,zae,zae,zbK,zbK,zbK,zbk,zbK,zkH,zmE,zoQ,zae,zae,zae,zae,zae,zae,zae,zae,zal,zal,zal,zbk,zal,zbs,zch,zc7,znX,zae,zae,zae,zau,zae,zhT,zae,zap,zeE,zg1,zbn,zbM,zae,zae,zae,zbK,zbn,zbM,zau,zae,zau,zae,zae,zal,zbn,zbM,zae,zbN,zbN,zau,zbN,rRaw,rRaw,rRaw,rRaw,rRaw,rRaw,rRaw,rRaw,rRaw,rRaw,rRaw,rRaw,rRaw,rRaw,rRaw,rRaw]
def zpB:(zcl×Int)→AV×Mem:=(rT (lCons (vAgg zkh) (lOne (vI .i64)))).enc
abbrev zmi:RD:={ α:=zcl×Int,enc:=zpB,dec:=(rT (lCons (vAgg zkh) (lOne (vI .i64)))).dec,ok:=(rT (lCons (vAgg zkh) (lOne (vI .i64)))).ok,de:=(rT (lCons (vAgg zkh) (lOne (vI .i64)))).de }
def zfl:((List ((Int×Int)×zbd)))→AV×Mem:=(r1 (vNewm zbE zcD)).enc
abbrev zkG:RD:={ α:=(List ((Int×Int)×zbd)),enc:=zfl,dec:=(r1 (vNewm zbE zcD)).dec,ok:=(r1 (vNewm zbE zcD)).ok,de:=(r1 (vNewm zbE zcD)).de }
def zT:Dic:=Dic.of tyTab resTab [(15,zmi),(42,zh6),(71,zkG)]
abbrev zvy:Fr:=⟨Tryz.prog,zC,zA,3,Tryz.f3,[]⟩
abbrev zCY:Fr:=⟨Tryz.prog,zC,zA,9,Tryz.f9,[]⟩
abbrev zCX:Fr:=⟨Tryz.prog,zC,zA,10,Tryz.f10,[]⟩
abbrev zDW:Fr:=⟨Tryz.prog,zC,zA,11,Tryz.f11,[]⟩
abbrev zsa:Fr:=⟨Tryz.prog,zC,zA,12,Tryz.f12,[(1000,⟨0,0,[],false⟩)]⟩
abbrev zrv:Fr:=⟨Tryz.prog,zC,zA,13,Tryz.f13,[(1000,⟨0,0,[],false⟩)]⟩
abbrev zlM:Fr:=⟨Tryz.prog,zC,zA,14,Tryz.f14,[(1000,⟨0,0,[],false⟩)]⟩
abbrev za1:Fr:=⟨Tryz.prog,zC,zA,15,Tryz.f15,[(1001,⟨0,0,[],false⟩)]⟩
abbrev zhD:Fr:=⟨Tryz.prog,zC,zA,16,Tryz.f16,[(1000,⟨0,0,[],false⟩),(1001,⟨0,0,[],false⟩)]⟩
abbrev zzs:Fr:=⟨Tryz.prog,zC,zA,17,Tryz.f17,[]⟩
abbrev zs0:Fr:=⟨Tryz.prog,zC,zA,18,Tryz.f18,[]⟩
abbrev zwS:Fr:=⟨Tryz.prog,zC,zA,22,Tryz.f22,[]⟩
abbrev zCZ:Fr:=⟨Tryz.prog,zC,zA,23,Tryz.f23,[]⟩
abbrev zse:Fr:=⟨Tryz.prog,zC,zA,24,Tryz.f24,[]⟩
abbrev zzu:Fr:=⟨Tryz.prog,zC,zA,26,Tryz.f26,[(1000,⟨0,0,[],false⟩)]⟩
abbrev R_law29_at:Fr:=⟨Tryz.prog,zC,zA,29,Tryz.f29,[]⟩
abbrev zhi:Fr:=⟨Tryz.prog,zC,zA,31,Tryz.f31,[(1001,⟨0,0,[],false⟩)]⟩
abbrev zrx:Fr:=⟨Tryz.prog,zC,zA,32,Tryz.f32,[]⟩
abbrev zke:Fr:=⟨Tryz.prog,zC,zA,33,Tryz.f33,[(1000,⟨0,0,[],false⟩)]⟩
abbrev zqI:Fr:=⟨Tryz.prog,zC,zA,34,Tryz.f34,[(1000,⟨0,0,[],false⟩)]⟩
abbrev zjV:Fr:=⟨Tryz.prog,zC,zA,35,Tryz.f35,[(1000,⟨0,0,[],false⟩)]⟩
abbrev zwR:Fr:=⟨Tryz.prog,zC,zA,36,Tryz.f36,[(1000,⟨0,0,[],false⟩)]⟩
abbrev zzt:Fr:=⟨Tryz.prog,zC,zA,37,Tryz.f37,[(1000,⟨0,0,[],false⟩)]⟩
abbrev zsV:Fr:=⟨Tryz.prog,zC,zA,38,Tryz.f38,[(1000,⟨0,0,[],false⟩)]⟩
abbrev zpe:Fr:=⟨Tryz.prog,zC,zA,39,Tryz.f39,[(1000,⟨0,0,[],false⟩)]⟩
abbrev zw9:Fr:=⟨Tryz.prog,zC,zA,40,Tryz.f40,[]⟩
abbrev zAl:Fr:=⟨Tryz.prog,zC,zA,41,Tryz.f41,[]⟩
abbrev zaT:Fr:=⟨Tryz.prog,zC,zA,42,Tryz.f42,[(1000,⟨0,0,[],false⟩)]⟩
abbrev zaP:Fr:=⟨Tryz.prog,zC,zA,43,Tryz.f43,[]⟩
abbrev zot:Fr:=⟨Tryz.prog,zC,zA,44,Tryz.f44,[]⟩
abbrev znq:Fr:=⟨Tryz.prog,zC,zA,45,Tryz.f45,[(1000,⟨0,0,[],false⟩)]⟩
abbrev zt2:Fr:=⟨Tryz.prog,zC,zA,46,Tryz.f46,[]⟩
abbrev zsd:Fr:=⟨Tryz.prog,zC,zA,47,Tryz.f47,[]⟩
abbrev zjh:Fr:=⟨Tryz.prog,zC,zA,50,Tryz.f50,[]⟩
abbrev zuE:Fr:=⟨Tryz.prog,zC,zA,51,Tryz.f51,[]⟩
abbrev zAr:Fr:=⟨Tryz.prog,zC,zA,52,Tryz.f52,[]⟩
abbrev zw8:Fr:=⟨Tryz.prog,zC,zA,58,Tryz.f58,[]⟩
abbrev zyl:Fr:=⟨Tryz.prog,zC,zA,59,Tryz.f59,[]⟩
abbrev zoE:Fr:=⟨Tryz.prog,zC,zA,61,Tryz.f61,[(1000,⟨0,0,[],false⟩)]⟩
abbrev znv:Fr:=⟨Tryz.prog,zC,zA,62,Tryz.f62,[(1000,⟨0,0,[],false⟩)]⟩
abbrev zzv:Fr:=⟨Tryz.prog,zC,zA,63,Tryz.f63,[(1000,⟨0,0,[],false⟩)]⟩
abbrev zrw:Fr:=⟨Tryz.prog,zC,zA,64,Tryz.f64,[(1000,⟨0,0,[],false⟩)]⟩
abbrev zuD:Fr:=⟨Tryz.prog,zC,zA,65,Tryz.f65,[]⟩
abbrev zpG:Fr:=⟨Tryz.prog,zC,zA,66,Tryz.f66,[]⟩
abbrev zpH:Fr:=⟨Tryz.prog,zC,zA,67,Tryz.f67,[]⟩
abbrev zoS:Fr:=⟨Tryz.prog,zC,zA,68,Tryz.f68,[]⟩
abbrev zlN:Fr:=⟨Tryz.prog,zC,zA,69,Tryz.f69,[]⟩
abbrev zAo:Fr:=⟨Tryz.prog,zC,zA,70,Tryz.f70,[]⟩
abbrev zsY:Fr:=⟨Tryz.prog,zC,zA,71,Tryz.f71,[(1000,⟨0,0,[],false⟩)]⟩
abbrev zkf:Fr:=⟨Tryz.prog,zC,zA,72,Tryz.f72,[(1000,⟨0,0,[],false⟩)]⟩
abbrev zuF:Fr:=⟨Tryz.prog,zC,zA,73,Tryz.f73,[]⟩
abbrev zAn:Fr:=⟨Tryz.prog,zC,zA,74,Tryz.f74,[]⟩
abbrev zsW:Fr:=⟨Tryz.prog,zC,zA,75,Tryz.f75,[(1000,⟨0,0,[],false⟩),(900,⟨0,0,[],false⟩),(901,⟨0,0,[],false⟩),(902,⟨0,0,[],false⟩)]⟩
abbrev zhE:Fr:=⟨Tryz.prog,zC,zA,76,Tryz.f76,[]⟩
abbrev zsX:Fr:=⟨Tryz.prog,zC,zA,77,Tryz.f77,[]⟩
abbrev zqJ:Fr:=⟨Tryz.prog,zC,zA,78,Tryz.f78,[(1000,⟨0,0,[],false⟩),(900,⟨0,0,[],false⟩),(901,⟨0,0,[],false⟩),(902,⟨0,0,[],false⟩)]⟩
abbrev zp4:Fr:=⟨Tryz.prog,zC,zA,79,Tryz.f79,[]⟩
abbrev zb7:Fr:=⟨Tryz.prog,zC,zA,80,Tryz.f80,[(1000,⟨0,0,[],false⟩)]⟩
abbrev zsZ:Fr:=⟨Tryz.prog,zC,zA,82,Tryz.f82,[]⟩
abbrev znw:Fr:=⟨Tryz.prog,zC,zA,83,Tryz.f83,[]⟩
abbrev zf8:Fr:=⟨Tryz.prog,zC,zA,84,Tryz.f84,[]⟩
abbrev zAk:Fr:=⟨Tryz.prog,zC,zA,87,Tryz.f87,[]⟩
abbrev zvz:Fr:=⟨Tryz.prog,zC,zA,88,Tryz.f88,[]⟩
abbrev ztN:Fr:=⟨Tryz.prog,zC,zA,89,Tryz.f89,[]⟩
abbrev zzw:Fr:=⟨Tryz.prog,zC,zA,90,Tryz.f90,[]⟩
abbrev zuJ:Fr:=⟨Tryz.prog,zC,zA,91,Tryz.f91,[]⟩
abbrev zsb:Fr:=⟨Tryz.prog,zC,zA,92,Tryz.f92,[]⟩
abbrev zp6:Fr:=⟨Tryz.prog,zC,zA,93,Tryz.f93,[]⟩
abbrev zyn:Fr:=⟨Tryz.prog,zC,zA,94,Tryz.f94,[]⟩
abbrev zp5:Fr:=⟨Tryz.prog,zC,zA,95,Tryz.f95,[]⟩
abbrev zyo:Fr:=⟨Tryz.prog,zC,zA,96,Tryz.f96,[]⟩
abbrev zAm:Fr:=⟨Tryz.prog,zC,zA,97,Tryz.f97,[]⟩
abbrev zxa:Fr:=⟨Tryz.prog,zC,zA,98,Tryz.f98,[]⟩
abbrev zBr:Fr:=⟨Tryz.prog,zC,zA,99,Tryz.f99,[]⟩
abbrev zbQ:Fr:=⟨Tryz.prog,zC,zA,100,Tryz.f100,[(1000,⟨0,0,[],false⟩)]⟩
abbrev zbO:Fr:=⟨Tryz.prog,zC,zA,101,Tryz.f101,[]⟩
abbrev zry:Fr:=⟨Tryz.prog,zC,zA,102,Tryz.f102,[]⟩
abbrev zym:Fr:=⟨Tryz.prog,zC,zA,103,Tryz.f103,[]⟩
abbrev zxd:Fr:=⟨Tryz.prog,zC,zA,104,Tryz.f104,[]⟩
abbrev zoT:Fr:=⟨Tryz.prog,zC,zA,105,Tryz.f105,[]⟩
abbrev zuH:Fr:=⟨Tryz.prog,zC,zA,106,Tryz.f106,[]⟩
abbrev zuI:Fr:=⟨Tryz.prog,zC,zA,107,Tryz.f107,[]⟩
abbrev zgR:Fr:=⟨Tryz.prog,zC,zA,108,Tryz.f108,[(1000,⟨0,0,[],false⟩),(900,⟨0,0,[],false⟩),(901,⟨0,0,[],false⟩),(902,⟨0,0,[],false⟩)]⟩
abbrev zfz:Fr:=⟨Tryz.prog,zC,zA,109,Tryz.f109,[(1000,⟨0,0,[],false⟩)]⟩
abbrev zgA:Fr:=⟨Tryz.prog,zC,zA,110,Tryz.f110,[(1000,⟨0,0,[],false⟩)]⟩
abbrev zee:Fr:=⟨Tryz.prog,zC,zA,111,Tryz.f111,[(1000,⟨0,0,[],false⟩)]⟩
abbrev zf2:Fr:=⟨Tryz.prog,zC,zA,112,Tryz.f112,[]⟩
abbrev zij:Fr:=⟨Tryz.prog,zC,zA,113,Tryz.f113,[(1000,⟨0,0,[],false⟩)]⟩
abbrev zbR:Fr:=⟨Tryz.prog,zC,zA,114,Tryz.f114,[(1000,⟨0,0,[],false⟩)]⟩
abbrev zcw:Fr:=⟨Tryz.prog,zC,zA,115,Tryz.f115,[(1000,⟨0,0,[],false⟩)]⟩
abbrev zbJ:Fr:=⟨Tryz.prog,zC,zA,116,Tryz.f116,[(1000,⟨0,0,[],false⟩)]⟩
abbrev zwH:Fr:=⟨Tryz.prog,zC,zA,119,Tryz.f119,[]⟩
abbrev zC0:Fr:=⟨Tryz.prog,zC,zA,120,Tryz.f120,[]⟩
abbrev zBs:Fr:=⟨Tryz.prog,zC,zA,121,Tryz.f121,[]⟩
abbrev zih:Fr:=⟨Tryz.prog,zC,zA,131,Tryz.f131,[]⟩
abbrev zt1:Fr:=⟨Tryz.prog,zC,zA,132,Tryz.f132,[]⟩
abbrev zr9:Fr:=⟨Tryz.prog,zC,zA,133,Tryz.f133,[]⟩
abbrev zrA:Fr:=⟨Tryz.prog,zC,zA,134,Tryz.f134,[]⟩
abbrev zAq:Fr:=⟨Tryz.prog,zC,zA,135,Tryz.f135,[]⟩
abbrev zzy:Fr:=⟨Tryz.prog,zC,zA,136,Tryz.f136,[]⟩
abbrev zCw:Fr:=⟨Tryz.prog,zC,zA,137,Tryz.f137,[]⟩
abbrev zwT:Fr:=⟨Tryz.prog,zC,zA,138,Tryz.f138,[]⟩
abbrev zeZ:Fr:=⟨Tryz.prog,zC,zA,139,Tryz.f139,[(1000,⟨0,0,[],false⟩)]⟩
abbrev zfQ:Fr:=⟨Tryz.prog,zC,zA,140,Tryz.f140,[(1000,⟨0,0,[],false⟩)]⟩
abbrev zdG:Fr:=⟨Tryz.prog,zC,zA,141,Tryz.f141,[(1000,⟨0,0,[],false⟩)]⟩
abbrev zfg:Fr:=⟨Tryz.prog,zC,zA,142,Tryz.f142,[]⟩
abbrev zhj:Fr:=⟨Tryz.prog,zC,zA,143,Tryz.f143,[(1000,⟨0,0,[],false⟩)]⟩
abbrev zbD:Fr:=⟨Tryz.prog,zC,zA,144,Tryz.f144,[(1000,⟨0,0,[],false⟩)]⟩
abbrev zcg:Fr:=⟨Tryz.prog,zC,zA,145,Tryz.f145,[(1000,⟨0,0,[],false⟩)]⟩
abbrev zbx:Fr:=⟨Tryz.prog,zC,zA,146,Tryz.f146,[(1000,⟨0,0,[],false⟩)]⟩
abbrev zwG:Fr:=⟨Tryz.prog,zC,zA,147,Tryz.f147,[]⟩
abbrev zzx:Fr:=⟨Tryz.prog,zC,zA,148,Tryz.f148,[]⟩
abbrev zxe:Fr:=⟨Tryz.prog,zC,zA,149,Tryz.f149,[]⟩
abbrev zxc:Fr:=⟨Tryz.prog,zC,zA,150,Tryz.f150,[]⟩
abbrev zxb:Fr:=⟨Tryz.prog,zC,zA,151,Tryz.f151,[]⟩
abbrev zAp:Fr:=⟨Tryz.prog,zC,zA,152,Tryz.f152,[]⟩
abbrev zbB:Fr:=⟨Tryz.prog,zC,zA,153,Tryz.f153,[]⟩
abbrev zsc:Fr:=⟨Tryz.prog,zC,zA,154,Tryz.f154,[]⟩
abbrev ze3:Fr:=⟨Tryz.prog,zC,zA,155,Tryz.f155,[(1000,⟨0,0,[],false⟩)]⟩
abbrev ztB:Fr:=⟨Tryz.prog,zC,zA,156,Tryz.f156,[]⟩
abbrev zt3:Fr:=⟨Tryz.prog,zC,zA,157,Tryz.f157,[(1000,⟨0,0,[],false⟩)]⟩
abbrev zlO:Fr:=⟨Tryz.prog,zC,zA,158,Tryz.f158,[(1002,⟨0,0,[],false⟩)]⟩
abbrev zpf:Fr:=⟨Tryz.prog,zC,zA,159,Tryz.f159,[(1004,⟨0,0,[],false⟩)]⟩
abbrev zCv:Fr:=⟨Tryz.prog,zC,zA,160,Tryz.f160,[]⟩
abbrev R_ref28_in:Fr:=⟨Tryz.prog,zC,zA,161,Tryz.f161,[]⟩
abbrev zeF:Fr:=⟨Tryz.prog,zC,zA,166,Tryz.f166,[]⟩
abbrev zzr:Fr:=⟨Tryz.prog,zC,zA,167,Tryz.f167,[]⟩
abbrev ztM:Fr:=⟨Tryz.prog,zC,zA,168,Tryz.f168,[]⟩
abbrev zsl:Fr:=⟨Tryz.prog,zC,zA,169,Tryz.f169,[]⟩
abbrev zuG:Fr:=⟨Tryz.prog,zC,zA,170,Tryz.f170,[]⟩
abbrev zer:Fr:=⟨Tryz.prog,zC,zA,171,Tryz.f171,[(1000,⟨0,0,[],false⟩)]⟩
abbrev zkL:Fr:=⟨Tryz.prog,zC,zA,172,Tryz.f172,[(1002,⟨0,0,[],false⟩)]⟩
abbrev znx:Fr:=⟨Tryz.prog,zC,zA,173,Tryz.f173,[(1004,⟨0,0,[],false⟩)]⟩
abbrev zvA:Fr:=⟨Tryz.prog,zC,zA,174,Tryz.f174,[]⟩
abbrev zpg:Fr:=⟨Tryz.prog,zC,zA,175,Tryz.f175,[(1003,⟨0,0,[],false⟩)]⟩
abbrev zoU:Fr:=⟨Tryz.prog,zC,zA,177,Tryz.f177,[]⟩
abbrev zny:Fr:=⟨Tryz.prog,zC,zA,178,Tryz.f178,[(1003,⟨0,0,[],false⟩)]⟩
abbrev zrz:Fr:=⟨Tryz.prog,zC,zA,71,Tryz.f71,[]⟩
abbrev cw:zbZ:=callw Tryz.prog zC zA
abbrev zP:Program:=Tryz.prog
theorem ke_117 (x y:zaG):keyEq zP 117 (.agg (zbr x)) (.agg (zbr y))=some (decide (y=x)):=by
 have h1:eqV zP 20 117 [(.int .i64 x.script:Value),(.int .i64 x.part:Value)] [(.int .i64 y.script:Value),(.int .i64 y.part:Value)]=some (x.script == y.script && (x.part == y.part && true)):=by kernel_rfl
 have h2:bitsL [(.int .i64 x.script:Value),(.int .i64 x.part:Value)] [(.int .i64 y.script:Value),(.int .i64 y.part:Value)]=some (x.script == y.script && (x.part == y.part && true)):=by kernel_rfl
 have h:keyEq zP 117 (.agg (zbr x)) (.agg (zbr y))=agree (eqV zP 20 117 [(.int .i64 x.script:Value),(.int .i64 x.part:Value)] [(.int .i64 y.script:Value),(.int .i64 y.part:Value)]) (bitsL [(.int .i64 x.script:Value),(.int .i64 x.part:Value)] [(.int .i64 y.script:Value),(.int .i64 y.part:Value)]):=by kernel_rfl
 rw [h,h1,h2]; have ha:∀ b:Bool,agree (some b) (some b)=some b:=fun b=>by simp [agree]
 rw [ha]; refine congrArg some ?_; by_cases e:y=x
 · rw [decide_eq_true e,e]; simp
 · rw [decide_eq_false e,Bool.eq_false_iff]; intro q; simp only [zcm,beq_iff_eq,and_true] at q; refine e (zeI.inj ?_); show [I (y.script),I (y.part)]=[I (x.script),I (x.part)]; simp only [q]
theorem zk4 {β:Type} (z:zaW) (key:zaG) (l:List (zaG×zaW)) (k:zaW→Bool→Option β):mapD zP 117 true zpO (.agg (zb5 z)) (List.map zaw l) (.agg (zbr key)) k=k ((mfind key l).getD z) (mfind key l).isSome:=
 zre (agg:=true) (D:=zpO) (kenc:=fun x=>.agg (zbr x)) (venc:=fun x=>.agg (zb5 x)) ke_117 (show ∀ x:zaW,avDec true zpO (.agg (zb5 x))=some x from fun x=>zpO.de x) z key l k
theorem zqG {β:Type} (key:zaG) (v:zaW) (l:List (zaG×zaW)) (k:List (List AV)→Option β):msetD zP 117 49 (.agg (zbr key)) (.agg (zb5 v)) (List.map zaw l) k=k (List.map zaw (mput key v l)):=
 zpV (kenc:=fun x=>.agg (zbr x)) (venc:=fun x=>.agg (zb5 x)) ke_117 key v l k
theorem zoz {β:Type} (z:Int) (key:zaG) (l:List (zaG×Int)) (k:Int→Bool→Option β):mapD zP 117 false zbc (I z) (List.map zaB l) (.agg (zbr key)) k=k ((mfind key l).getD z) (mfind key l).isSome:=
 zre (agg:=false) (D:=zbc) (kenc:=fun x=>.agg (zbr x)) (venc:=fun x=>I x) ke_117 (show ∀ x:Int,avDec false zbc (I x)=some x from fun x=>zbc.de x) z key l k
theorem ztI {β:Type} (key:zaG) (v:Int) (l:List (zaG×Int)) (k:List (List AV)→Option β):msetD zP 117 3 (.agg (zbr key)) (I v) (List.map zaB l) k=k (List.map zaB (mput key v l)):=
 zpV (kenc:=fun x=>.agg (zbr x)) (venc:=fun x=>I x) ke_117 key v l k
theorem zo3 {β:Type} (z:zab) (key:zaG) (l:List (zaG×zab)) (k:zab→Bool→Option β):mapD zP 117 true zaj (.agg (zaa z)) (List.map zb4 l) (.agg (zbr key)) k=k ((mfind key l).getD z) (mfind key l).isSome:=
 zre (agg:=true) (D:=zaj) (kenc:=fun x=>.agg (zbr x)) (venc:=fun x=>.agg (zaa x)) ke_117 (show ∀ x:zab,avDec true zaj (.agg (zaa x))=some x from fun x=>zaj.de x) z key l k
theorem zo4 {β:Type} (key:zaG) (v:zab) (l:List (zaG×zab)) (k:List (List AV)→Option β):msetD zP 117 64 (.agg (zbr key)) (.agg (zaa v)) (List.map zb4 l) k=k (List.map zb4 (mput key v l)):=
 zpV (kenc:=fun x=>.agg (zbr x)) (venc:=fun x=>.agg (zaa x)) ke_117 key v l k
theorem ke_151 (x y:Int×Int):keyEq zP 151 (.agg (zce x)) (.agg (zce y))=some (decide (y=x)):=by
 have h1:eqV zP 20 151 [(.int .i64 x.1:Value),(.int .i64 x.2:Value)] [(.int .i64 y.1:Value),(.int .i64 y.2:Value)]=some (x.1 == y.1 && (x.2 == y.2 && true)):=by kernel_rfl
 have h2:bitsL [(.int .i64 x.1:Value),(.int .i64 x.2:Value)] [(.int .i64 y.1:Value),(.int .i64 y.2:Value)]=some (x.1 == y.1 && (x.2 == y.2 && true)):=by kernel_rfl
 have h:keyEq zP 151 (.agg (zce x)) (.agg (zce y))=agree (eqV zP 20 151 [(.int .i64 x.1:Value),(.int .i64 x.2:Value)] [(.int .i64 y.1:Value),(.int .i64 y.2:Value)]) (bitsL [(.int .i64 x.1:Value),(.int .i64 x.2:Value)] [(.int .i64 y.1:Value),(.int .i64 y.2:Value)]):=by kernel_rfl
 rw [h,h1,h2]; have ha:∀ b:Bool,agree (some b) (some b)=some b:=fun b=>by simp [agree]
 rw [ha]; refine congrArg some ?_; by_cases e:y=x
 · rw [decide_eq_true e,e]; simp
 · rw [decide_eq_false e,Bool.eq_false_iff]; intro q; simp only [zcm,beq_iff_eq,and_true] at q; refine e (zgI.inj ?_); show [I (y.1),I (y.2)]=[I (x.1),I (x.2)]; simp only [q]
theorem znj {β:Type} (z:zbd) (key:Int×Int) (l:List ((Int×Int)×zbd)) (k:zbd→Bool→Option β):mapD zP 151 true zgm (.agg (zb6 z)) (List.map zb0 l) (.agg (zce key)) k=k ((mfind key l).getD z) (mfind key l).isSome:=
 zre (agg:=true) (D:=zgm) (kenc:=fun x=>.agg (zce x)) (venc:=fun x=>.agg (zb6 x)) ke_151 (show ∀ x:zbd,avDec true zgm (.agg (zb6 x))=some x from fun x=>zgm.de x) z key l k
theorem zeX {β:Type} (key:Int×Int) (v:zbd) (l:List ((Int×Int)×zbd)) (k:List (List AV)→Option β):msetD zP 151 153 (.agg (zce key)) (.agg (zb6 v)) (List.map zb0 l) k=k (List.map zb0 (mput key v l)):=
 zpV (kenc:=fun x=>.agg (zce x)) (venc:=fun x=>.agg (zb6 x)) ke_151 key v l k
theorem ztW {β:Type} (z:Int) (key:Int×Int) (l:List ((Int×Int)×Int)) (k:Int→Bool→Option β):mapD zP 151 false zbc (I z) (List.map zfP l) (.agg (zce key)) k=k ((mfind key l).getD z) (mfind key l).isSome:=
 zre (agg:=false) (D:=zbc) (kenc:=fun x=>.agg (zce x)) (venc:=fun x=>I x) ke_151 (show ∀ x:Int,avDec false zbc (I x)=some x from fun x=>zbc.de x) z key l k
theorem zBn {β:Type} (key:Int×Int) (v:Int) (l:List ((Int×Int)×Int)) (k:List (List AV)→Option β):msetD zP 151 3 (.agg (zce key)) (I v) (List.map zfP l) k=k (List.map zfP (mput key v l)):=
 zpV (kenc:=fun x=>.agg (zce x)) (venc:=fun x=>I x) ke_151 key v l k
theorem zAa {β:Type} (z:Bool) (key:Int×Int) (l:List ((Int×Int)×Bool)) (k:Bool→Bool→Option β):mapD zP 151 false dBool (B z) (List.map zgb l) (.agg (zce key)) k=k ((mfind key l).getD z) (mfind key l).isSome:=
 zre (agg:=false) (D:=dBool) (kenc:=fun x=>.agg (zce x)) (venc:=fun x=>B x) ke_151 (show ∀ x:Bool,avDec false dBool (B x)=some x from fun x=>dBool.de x) z key l k
theorem zAh {β:Type} (key:Int×Int) (v:Bool) (l:List ((Int×Int)×Bool)) (k:List (List AV)→Option β):msetD zP 151 4 (.agg (zce key)) (B v) (List.map zgb l) k=k (List.map zgb (mput key v l)):=
 zpV (kenc:=fun x=>.agg (zce x)) (venc:=fun x=>B x) ke_151 key v l k
@[simp] theorem zaN {β:Type} (v:Bool) (k:Bool→Option β):callD zae (some (zat v)) k=k v:=zbi (D:=zae) k
@[simp] theorem zAK {β:Type} (v:zai) (k:zai→Option β):callD zrs (some (zuu v)) k=k v:=zbi (D:=zrs) k
@[simp] theorem zu3 {β:Type} (v:zaM×zai) (k:(zaM×zai)→Option β):callD zlg (some (zlf v)) k=k v:=zbi (D:=zlg) k
@[simp] theorem zoY {β:Type} (v:((List zab))×zai) (k:(((List zab))×zai)→Option β):callD zhr (some (zgc v)) k=k v:=zbi (D:=zhr) k
@[simp] theorem zEP {β:Type} (v:(zcl×Int)×(List zab)) (k:((zcl×Int)×(List zab))→Option β):callD zfd (some (zrj v)) k=k v:=zbi (D:=zfd) k
@[simp] theorem zDy {β:Type} (v:((List zab))×zai×(List zab)) (k:(((List zab))×zai×(List zab))→Option β):callD zhS (some (zjq v)) k=k v:=zbi (D:=zhS) k
@[simp] theorem zv1 {β:Type} (v:(List zab)) (k:((List zab))→Option β):callD zmf (some (zpy v)) k=k v:=zbi (D:=zmf) k
@[simp] theorem za2 {β:Type} (v:Int×zai) (k:(Int×zai)→Option β):callD zaX (some (zmc v)) k=k v:=zbi (D:=zaX) k
@[simp] theorem ziu {β:Type} (v:zab) (k:zab→Option β):callD zhR (some (zon v)) k=k v:=zbi (D:=zhR) k
@[simp] theorem zoG {β:Type} (v:zaM) (k:zaM→Option β):callD zkd (some (zr5 v)) k=k v:=zbi (D:=zkd) k
@[simp] theorem zEf {β:Type} (v:((List GTask)×Int)×(List zab)) (k:(((List GTask)×Int)×(List zab))→Option β):callD zi1 (some (znW v)) k=k v:=zbi (D:=zi1) k
@[simp] theorem zue {β:Type} (v:(List zag)) (k:((List zag))→Option β):callD zkF (some (zkz v)) k=k v:=zbi (D:=zkF) k
@[simp] theorem zub {β:Type} (v:((List zaQ)×(List zbP))×zai) (k:(((List zaQ)×(List zbP))×zai)→Option β):callD zkC (some (zi0 v)) k=k v:=zbi (D:=zkC) k
@[simp] theorem ztD {β:Type} (v:((List zbh))×zai) (k:(((List zbh))×zai)→Option β):callD zj2 (some (zj0 v)) k=k v:=zbi (D:=zj2) k
@[simp] theorem ztF {β:Type} (v:((List za0))×zai) (k:(((List za0))×zai)→Option β):callD zj4 (some (zj1 v)) k=k v:=zbi (D:=zj4) k
@[simp] theorem ztE {β:Type} (v:zbf×zai) (k:(zbf×zai)→Option β):callD zj3 (some (zm2 v)) k=k v:=zbi (D:=zj3) k
@[simp] theorem zcx {β:Type} (v:Bool×zai) (k:(Bool×zai)→Option β):callD zeS (some (zpz v)) k=k v:=zbi (D:=zeS) k
@[simp] theorem zv3 {β:Type} (v:GSeed×zai) (k:(GSeed×zai)→Option β):callD zmh (some (zmd v)) k=k v:=zbi (D:=zmh) k
@[simp] theorem zv2 {β:Type} (v:zab×zai) (k:(zab×zai)→Option β):callD zmg (some (zpA v)) k=k v:=zbi (D:=zmg) k
@[simp] theorem zlT {β:Type} (v:zaQ) (k:zaQ→Option β):callD zlr (some (zqs v)) k=k v:=zbi (D:=zlr) k
@[simp] theorem zbe {β:Type} (v:Int) (k:Int→Option β):callD zau (some (zbv v)) k=k v:=zbi (D:=zau) k
@[simp] theorem zou {β:Type} (v:((List zab)×Int)×(List zab)) (k:(((List zab)×Int)×(List zab))→Option β):callD zio (some (zfV v)) k=k v:=zbi (D:=zio) k
@[simp] theorem zrC {β:Type} (v:List (Option zar)×List (zaG×zaW)) (k:(List (Option zar)×List (zaG×zaW))→Option β):callD zls (some (zlq v)) k=k v:=zbi (D:=zls) k
@[simp] theorem zlE {β:Type} (v:(List (zaG×zab))) (k:((List (zaG×zab)))→Option β):callD zgx (some (zeD v)) k=k v:=zbi (D:=zgx) k
@[simp] theorem zlz {β:Type} (v:(List zag)) (k:((List zag))→Option β):callD zap (some (zf6 v)) k=k v:=zbi (D:=zap) k
@[simp] theorem zpM {β:Type} (v:(List zab)×Int) (k:((List zab)×Int)→Option β):callD zh6 (some (zev v)) k=k v:=zbi (D:=zh6) k
@[simp] theorem zmw {β:Type} (v:(List GTask)) (k:((List GTask))→Option β):callD zbK (some (zgq v)) k=k v:=zbi (D:=zbK) k
@[simp] theorem zmU {β:Type} (v:Nat×(List GTask)) (k:(Nat×(List GTask))→Option β):callD ze4 (some (zgG v)) k=k v:=zbi (D:=ze4) k
@[simp] theorem zi8 {β:Type} (v:zaQ×zai) (k:(zaQ×zai)→Option β):callD zgH (some (zoO v)) k=k v:=zbi (D:=zgH) k
@[simp] theorem zuc {β:Type} (v:zbP×zai) (k:(zbP×zai)→Option β):callD zkD (some (znV v)) k=k v:=zbi (D:=zkD) k
@[simp] theorem zud {β:Type} (v:za0×zai) (k:(za0×zai)→Option β):callD zkE (some (zky v)) k=k v:=zbi (D:=zkE) k
@[simp] theorem zv6 {β:Type} (v:((List ((Int×Int)×zbd)))×(List zab)) (k:(((List ((Int×Int)×zbd)))×(List zab))→Option β):callD zmk (some (zgd v)) k=k v:=zbi (D:=zmk) k
@[simp] theorem zjA {β:Type} (v:(List zab)) (k:((List zab))→Option β):callD zal (some (zeN v)) k=k v:=zbi (D:=zal) k
@[simp] theorem ziv {β:Type} (v:zar) (k:zar→Option β):callD zdE (some (zcs v)) k=k v:=zbi (D:=zdE) k
@[simp] theorem ztd {β:Type} (v:Int×(Option Addr)) (k:(Int×(Option Addr))→Option β):callD zjr (some (zhO v)) k=k v:=zbi (D:=zjr) k
@[simp] theorem zv5 {β:Type} (v:GSeed×Bool) (k:(GSeed×Bool)→Option β):callD zmj (some (zjL v)) k=k v:=zbi (D:=zmj) k
@[simp] theorem zv7 {β:Type} (v:(List ((Int×Int)×Int))×(List ((Int×Int)×Bool))) (k:((List ((Int×Int)×Int))×(List ((Int×Int)×Bool)))→Option β):callD zml (some (zjN v)) k=k v:=zbi (D:=zml) k
@[simp] theorem zte {β:Type} (v:(List zab)) (k:((List zab))→Option β):callD zlt (some (zjM v)) k=k v:=zbi (D:=zlt) k
@[simp] theorem zpL {β:Type} (v:Int×Bool) (k:(Int×Bool)→Option β):callD zg7 (some (zmC v)) k=k v:=zbi (D:=zg7) k
@[simp] theorem zEO {β:Type} (v:(List Int)×Int) (k:((List Int)×Int)→Option β):callD znm (some (zhP v)) k=k v:=zbi (D:=znm) k
@[simp] theorem zoZ {β:Type} (v:(Int×Int)) (k:((Int×Int))→Option β):callD zi2 (some (zkA v)) k=k v:=zbi (D:=zi2) k
@[simp] theorem zmv {β:Type} (v:(List Int)) (k:((List Int))→Option β):callD zg0 (some (zkW v)) k=k v:=zbi (D:=zg0) k
@[simp] theorem zkM {β:Type} (v:za0×Bool) (k:(za0×Bool)→Option β):callD ziB (some (zop v)) k=k v:=zbi (D:=ziB) k
@[simp] theorem zxw {β:Type} (v:zfi×Int) (k:(zfi×Int)→Option β):callD zoq (some (zoo v)) k=k v:=zbi (D:=zoq) k
@[simp] theorem zvv {β:Type} (v:Int×Int) (k:(Int×Int)→Option β):callD zbk (some (ziF v)) k=k v:=zbi (D:=zbk) k
@[simp] theorem zso {β:Type} (v:Bool×(List zag)) (k:(Bool×(List zag))→Option β):callD zbz (some (zgw v)) k=k v:=zbi (D:=zbz) k
@[simp] theorem zug {β:Type} (v:Int×(List zag)) (k:(Int×(List zag))→Option β):callD zcB (some (zhQ v)) k=k v:=zbi (D:=zcB) k
@[simp] theorem zwM {β:Type} (v:(Int×Bool)×(List zag)) (k:((Int×Bool)×(List zag))→Option β):callD zdP (some (zjc v)) k=k v:=zbi (D:=zdP) k
@[simp] theorem zrD {β:Type} (v:Bool×(List zab)) (k:(Bool×(List zab))→Option β):callD zbs (some (zf0 v)) k=k v:=zbi (D:=zbs) k
@[simp] theorem ztf {β:Type} (v:Int×(List zab)) (k:(Int×(List zab))→Option β):callD zch (some (zgZ v)) k=k v:=zbi (D:=zch) k
@[simp] theorem zuz {β:Type} (v:(Int×Bool)×(List zab)) (k:((Int×Bool)×(List zab))→Option β):callD zc7 (some (zid v)) k=k v:=zbi (D:=zc7) k
@[simp] theorem zyC {β:Type} (v:zbh×Bool) (k:(zbh×Bool)→Option β):callD znX (some (zqt v)) k=k v:=zbi (D:=znX) k
@[simp] theorem zq2 {β:Type} (v:(List Bool)) (k:((List Bool))→Option β):callD zhT (some (zjO v)) k=k v:=zbi (D:=zhT) k
@[simp] theorem zBW {β:Type} (v:Int) (k:Int→Option β):callD zeE (some (zoB v)) k=k v:=zbi (D:=zeE) k
@[simp] theorem zv4 {β:Type} (v:zcl×Int) (k:(zcl×Int)→Option β):callD zmi (some (zpB v)) k=k v:=zbi (D:=zmi) k
@[simp] theorem zuf {β:Type} (v:(List ((Int×Int)×zbd))) (k:((List ((Int×Int)×zbd)))→Option β):callD zkG (some (zfl v)) k=k v:=zbi (D:=zkG) k
theorem ptT {y:AV×Mem} (cut:List Nat) {R:Fr} {j:Nat} {st:St} {x:Option (AV×Mem)} (h:x=some y) (hx:tGo R zT cut 100000 (decide (j≠0)) (ptS R.fn j) st=x:=by kernel_rfl):pt R j st=some y:=pt_of zT cut hx h
theorem cwT {y:AV×Mem} (R:Fr) (cut:List Nat) {args:List AV} {ms:Mem} {x:Option (AV×Mem)} (h:x=some y) (ho:R.C.orc R.f args ms=none:=by rfl) (hf:R.P.funcs[R.f]?=some R.fn:=by kernel_rfl) (he:enters R.P R.f=true:=by kernel_rfl)
  (hN:decide (R.fn.ntmps≤1000∧args.length≤R.fn.ntmps)=true:=by kernel_rfl) (hm:R.ms=Go.Ab.blank ms:=by kernel_rfl)
  (hx:tGo R zT cut 100000 false (ptK R.fn 0) { t:=argTab 0 args,m:=ms }=x:=by kernel_rfl):callw R.P R.C R.F R.f args ms=some y:=callw_tree R zT cut ho hf he hN hm hx h
end Go.Proofs.YtikogkgdkdmljaaGreat
end
