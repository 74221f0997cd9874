/- Annotations of the seat's functions: what lives behind each region, which slots own rows, which arguments are written; how results read. -/
import Derived.Test.YtikogkgdkdmljaaGreatXTy
import Derived.Test.YtikogkgdkdmljaaGreatProg
import Derived.Test.YtikogkgdkdmljaaGreatXSp
set_option linter.unusedSimpArgs false
set_option linter.unusedVariables false
noncomputable section
namespace Go.Proofs.YtikogkgdkdmljaaGreat
open Go.Ab
abbrev LL:=List (List AV)
def zC:Cfg:={ wrt:=atReg [(12,[0]),(13,[0]),(14,[0]),(15,[1]),(16,[0,1]),(26,[0]),(31,[1]),(33,[0]),(34,[0]),(35,[0]),(36,[0]),(37,[0]),(38,[0]),(39,[0]),(42,[0]),(45,[0]),(56,[0]),(60,[0]),(61,[0]),(62,[0]),(63,[0]),(64,[0]),(71,[0]),(72,[0]),(80,[0]),(86,[0]),(100,[0]),(109,[0]),(110,[0]),(111,[0]),(113,[0]),(114,[0]),(115,[0]),(116,[0]),(123,[0]),(124,[0]),(125,[0]),(127,[0]),(128,[0]),(129,[0]),(130,[0]),(139,[0]),(140,[0]),(141,[0]),(143,[0]),(144,[0]),(145,[0]),(146,[0]),(155,[0]),(157,[0]),(158,[2]),(159,[4]),(163,[0]),(164,[2]),(165,[4]),(171,[0]),(172,[2]),(173,[4]),(175,[3]),(176,[3]),(178,[3])],orc:=zOrc,dp:=fun f=>(atReg [(108,[0]),(75,[0]),(78,[0])] f).head? }
def znw:zai→Mem:=fun x=>[(1000,⟨14,za9,[[I x.level,.row 900 10 0 (List.map zcD.enc x.marks).length,I x.period,I x.started.Time,I x.started.Source,I x.started.Seq,.map 901,.sl 1 (List.map dBool.enc x.watch.Last),B x.watch.Suspended,I x.good.Time,I x.good.Source,I x.good.Seq,B x.some,.row 902 12 0 (List.map zch.enc x.suspensions).length]],true⟩),(900,⟨10,133,List.map zcD.enc x.marks,false⟩),(901,⟨0,108,List.map zdk.enc x.noted,false⟩),(902,⟨12,61,List.map zch.enc x.suspensions,false⟩)]
abbrev zj2:MD:=⟨zai,znw,by
 intro x y h; simp only [znw,zbn,zaK,Ent.mk.injEq,AV.v.injEq,AV.row.injEq,AV.sl.injEq,Value.int.injEq,Value.bool.injEq,Value.string.injEq,true_and,and_true,and_assoc,TyD.minj dBool,TyD.minj zdk,TyD.minj zch,TyD.minj zcD] at h
 exact (zai.eqOf (h.1) (h.2.2.2.2.2.2.2.2.2.2.2.2.2.1) (h.2.2.1) (zaQ.eqOf (h.2.2.2.1) (h.2.2.2.2.1) (h.2.2.2.2.2.1)) (h.2.2.2.2.2.2.2.2.2.2.2.2.2.2.1) (zc6.eqOf (h.2.2.2.2.2.2.1) (h.2.2.2.2.2.2.2.1)) (zaQ.eqOf (h.2.2.2.2.2.2.2.2.1) (h.2.2.2.2.2.2.2.2.2.1) (h.2.2.2.2.2.2.2.2.2.2.1)) (h.2.2.2.2.2.2.2.2.2.2.2.1) (h.2.2.2.2.2.2.2.2.2.2.2.2.2.2.2))⟩
def anK (l:List Nat) (v:List (List Nat)) (o:List (Nat×List (Nat×Nat×TypeId))):Ann:={ lits:=l,live:=fun i=>v[i]?,own:=atReg o }
def zs1:Ann:={ anK [] [[0],[0,14],[2],[3],[3,4],[3,4,5],[3,4,5,6,7],[4,5,6,7,8,9],[6,7,8,9,10,11],[2]] [(5,[(5,9,64)])] with fz:=atReg [(7,[5])] }
def zuj:Ann:=anK [] [[0],[0,23],[2],[3],[3,4],[4,5],[4,5,6,7],[4,5,6,43],[2],[4,6,8],[4,6,8,47,48,49],[4,6,8,47,48,49,50],[4,6,8,9,10,47,48,49],[4,6,8,9,10,11,12,47,48,49],[4,6,8,9,10,11,12,14,47,48,49],[4,6,8,9,10,11,47,48,49,91],[2],[4,6,8,9,10,11,47,48,49,93],[4,6,8,10,11,15,47,48,49],[4,6,8,10,11,47,48,49,132],[2],[4,6,8,10,11,47,48,49,134,135,136],[4,6,8,10,11,47,48,49,134,135,136,137],[4,6,8,10,11,17,47,48,49,134,135,136],[4,6,8,10,11,47,48,49,134,135,136,164],[2],[4,6,8,10,11,47,48,49,134,135,136],[4,6,8,10,11,18,47,48,49],[4,6,8,10,11,18,47,48,49,166,167,168],[4,6,8,10,11,18,47,48,49,166,167,168,169],[4,6,8,10,11,18,20,47,48,49,166,167,168],[4,6,8,10,11,18,47,48,49,166,167,168],[4,6,8,10,11,18,47,48,49,166,167,168],[4,6,8,47,48,49,215],[2],[4,6,8,47,48,49],[2]] [(5,[(5,9,64)])]
def zs0:Ann:=anK [] [[0],[0,23],[2],[3],[3,4],[4,5],[4,5,6,7],[4,5,6,44],[2],[4,5,6,46,47,48],[4,5,6,46,47,48,49],[4,5,6,9,46,47,48],[4,5,6,9,10,46,47,48],[4,5,6,9,10,46,47,48,52,53,54],[4,5,6,9,10,46,47,48,52,53,54,55],[4,5,6,9,10,12,46,47,48,52,53,54],[4,5,6,9,10,12,46,47,48,52,53,54,68],[4,5,6,9,10,46,47,48,52,53,54],[4,5,6,9,10,46,47,48,52,53,54],[4,5,6,9,13,14,46,47,48],[4,5,6,9,13,14,15,46,47,48],[4,5,6,9,13,14,15,16,46,47,48],[4,5,6,9,13,14,15,16,46,47,48,81,82,83],[4,5,6,9,13,14,15,16,46,47,48,81,82,83,84],[4,5,6,9,13,14,15,16,18,46,47,48,81,82,83],[4,5,6,9,13,14,15,16,18,46,47,48,81,82,83,91],[4,5,6,9,13,14,15,16,46,47,48,81,82,83],[4,5,6,9,13,14,15,16,46,47,48,81,82,83],[4,5,6,9,13,14,15,16,46,47,48,98,99,100],[4,5,6,9,13,14,15,16,46,47,48,98,99,100,101],[4,5,6,9,13,14,15,16,20,46,47,48,98,99,100],[4,5,6,9,13,14,15,16,20,46,47,48,98,99,100,108],[4,5,6,9,13,14,15,16,46,47,48,98,99,100],[4,5,6,9,13,14,15,16,46,47,48,98,99,100],[4,5,6,46,47,48,123],[2],[4,5,6,46,47,48],[2]] [(12,[(10,9,64)]),(17,[(10,9,64)]),(20,[(15,8,51)]),(21,[(16,12,61)]),(26,[(15,8,51)]),(32,[(16,12,61)])]
def zs2:Ann:=anK [] [[0],[0,27],[2],[3],[3,4],[4,5],[4,5,6,7],[4,5,6,7,41,42,43],[4,5,6,7,41,42,43,44],[4,5,6,7,9,41,42,43],[4,5,6,7,9,11,41,42,43],[4,5,6,7,9,41,42,43,60],[4,5,6,7,9,41,42,43],[4,5,6,7,9,41,42,43,67],[4,5,6,7,41,42,43],[4,5,6,7,41,42,43],[4,6,7,12,13],[4,7,12,13,14,15],[4,7,12,13,14,15],[4,7,12,13,14,15,16,17],[4,7,16,117],[2],[4,7,16,18],[4,16,18,119,120,121],[4,16,18,119,120,121,122],[4,16,18,20,119,120,121],[4,16,18,20,119,120,121,127],[4,16,18,119,120,121],[4,16,18,119,120,121],[16,18,145],[2],[18,147,148,149],[18,147,148,149,150],[18,22,147,148,149],[18,22,23,24,147,148,149],[18,147,148,149,172],[2],[18,147,148,149],[2]] [(6,[(6,9,64),(7,9,64)]),(12,[(6,9,64)]),(14,[(7,9,64)])]
def zrq:Ann:=anK [] [[0,1],[0,1,19],[4],[1,5],[1,5,6],[1,5,6,7],[1,5,6,7,31],[4],[5,6,7,8],[6,7,8,9],[6,7,8,9,10,11],[8,9,10,11,12,13],[8,9,10,11,12,13,14],[8,9,10,11,12,13,14,67,68,69],[8,9,10,11,12,13,14,67,68,69,70],[8,9,10,11,12,13,14,16,67,68,69],[8,9,10,11,12,13,14,16,67,68,69,88],[8,9,10,11,12,13,14,67,68,69],[8,9,10,11,12,13,14,67,68,69],[4]] [(12,[(14,8,51)]),(17,[(14,8,51)])]
def zpv:Ann:=anK [] [[0,1],[0,1,29],[4],[1,5],[1,5,6],[1,6,7],[1,6,7,8,9],[6,7,8,9,10],[6,7,8,9,10,11],[6,7,8,9,10,11,12],[6,7,8,9,10,11,12,13,14],[6,7,8,9,10,11,13,14,15,16],[6,7,8,10,11,13,113],[4],[6,7,10,11,13,17],[6,7,10,11,17,129],[4],[6,7,10,11,17,131,132,133],[6,7,10,11,17,131,132,133,134],[6,7,10,11,17,19,131,132,133],[6,7,10,11,17,19,21,131,132,133],[6,7,10,11,17,19,131,132,133,153],[6,7,10,11,17,19,22,131,132,133],[6,7,10,11,17,19,22,23,24,131,132,133],[6,7,10,11,17,19,23,24,25,26,131,132,133],[6,7,10,11,17,131,132,133,205],[4],[6,7,10,11,17,131,132,133],[4]] []
def zet:Ann:=anK [] [[0],[2]] []
def zBc:Ann:=anK [13] [[],[1],[1,2,3],[1,2,3,4,5],[1,2,3,4,5],[2,3,4,5,6,7],[0]] [(1,[(1,9,64)]),(4,[(1,9,64)])]
def zv3:Ann:={ anK [] [[0,2],[0,2,3,4],[0,2,3,5],[0,2,3,5,6],[0,2,3,5,6,26],[0,2,3,5,6],[0,2,3,5,6,30],[0,2,3,5,6],[2]] [] with cel:=fun _=>[(5,4,900,2,90)] }
def zuG:Ann:=anK [] [[0,2,4],[0,2,4,7],[0,2,4,7,8],[0,2,4,7,8,13],[0,2,4,7,8],[0,2,4,7,8,9],[0,2,4,7,8,9,22],[0,2,4,7,8],[0,2,4,7,8,9,22,31],[0,2,4,7,8],[0,2,4,7,8,9,22,50],[0,2,4,7,8,9,55],[0,2,4,7,8],[0,2,4,7,8,9,22,76],[0,2,4,7,8,80],[0,2,4,7,8],[0,2,4,7,8,9,91],[0,2,4,7,8,95],[0,2,4,7,8,10],[0,2,4,7,8,10],[0,2,4,7,8],[6]] [(1,[(7,9,64)]),(7,[(7,9,64)]),(9,[(7,9,64)]),(12,[(7,9,64)]),(15,[(7,9,64)]),(20,[(7,9,64)])]
def zxl:Ann:=anK [] [[0,2,4],[0,2,4,7],[0,2,4,7,8],[0,2,4,7,8,17],[0,2,4,7,8],[0,2,4,7,8,9],[0,2,4,7,8,9,10],[0,2,4,7,8,9,10,32],[0,2,4,7,8,9,10],[0,2,4,7,8,9,10,11],[0,2,4,7,8,9,10,11,39],[0,2,4,7,8,9,10,11],[0,2,4,7,8,9,10,11,53],[0,2,4,7,8,9,10,11,12],[0,2,4,7,8,9,10,11],[6]] [(1,[(7,9,64)]),(14,[(7,9,64)])]
def zzg:Ann:={ anK [] [[1,2,4],[1,2,4,17],[4,5],[2,4,6,7],[2,4,6,7,25],[4,5],[4,8,9],[4,8,9,10],[4,9,10,34,35],[4,9,10,34,35,36],[4,9,10,11,12,34,35],[4,9,10,11,12,34,35,42],[4,9,10,11,12,34,35],[4,9,10,11,12,34,35,54],[4,9,10,11,12,34,35,54,56],[4,9,10,11,12,14,34,35,54],[4,9,10,11,12,34,35,54],[4,9,10,34,35],[4,10],[4,5]] [] with cel:=fun _=>[(10,0,301,8,51),(10,1,302,12,61)] }
def zs3:Ann:=anK [] [[0,1],[0,1,5],[0,1,5,6],[0,1,5,6,15],[0,1,5,6],[0,1,5,6,7],[0,1,5,6],[0,1,5,8],[0,1,5,8,39],[0,1,5,8],[0,1,5,8,43],[0,1,5,8],[4]] [(1,[(5,9,64)]),(11,[(5,9,64)])]
def zxk:Ann:={ anK [] [[0],[3],[2]] [] with frz:=true }
def zBj:Ann:=anK [] [[2,3],[2,3,22],[4],[2,3,5],[2,3,5,27],[2,3,5],[2,3,5,40],[4],[2,3,6],[2,3,6,45],[2,3,6],[2,3,6,58],[4],[4]] []
def zsg:Ann:=anK [] [[0,1,4],[0,1,4,6],[0,1,4,6,10],[0,1,4,6],[0,1,4,6,19],[4,5],[4,5]] []
def zuO:Ann:=anK [] [[0,1],[0,1,6],[0,1,6,10],[0,1,6],[0,1,6,19],[4,5],[4,5]] [(0,[(4,1,3)]),(5,[(4,1,3)]),(6,[(4,1,3)])]
def zql:Ann:=anK [] [[0,1,5],[5,7,8],[6]] []
def zun:Ann:=anK [] [[3,4,5],[6]] []
def zBf:Ann:=anK [] [[2,3],[2,3,5],[4],[2,3,16],[4],[4]] []
def zwa:Ann:=anK [] [[0,1],[0,1,10],[4],[0,1,5],[0,1,5,14],[0,1,5],[0,1,5,25],[4],[4]] []
def zBh:Ann:=anK [] [[2,3],[2,3,5,6],[2,3,5,33],[4],[2,3,5,7],[4]] []
def zxn:Ann:=anK [] [[0,1],[0,1,19],[4],[0,1,5],[1,5],[1,5,40],[5],[4]] []
def zt5:Ann:=anK [] [[0,1],[0,1,10],[4],[0,1,12,13],[0,1,12,13,14],[0,1,5,12,13],[0,1,12,13,24],[4],[0,1,12,13],[4]] []
def zze:Ann:=anK [] [[1,2,3],[1,11,12,13],[1,11,12,13,14],[1,8,11,12,13],[1,11,12,13,26],[6],[1,11,12,13],[6]] []
def a_law29_at:Ann:=anK [] [[0,1,2,6],[6]] []
def zAp:Ann:={ anK [12,13] [[0],[0,1],[0,1],[0,1,2],[0,1,2,18],[0,1,2],[0,1,2],[0,1],[0]] [] with cel:=fun _=>[(1,1,900,7,53)] }
def zuL:Ann:=anK [] [[1,2],[1,2,20],[4,5],[2,6,7],[2,6,7,27],[4,5],[8,9],[8,9,10],[9,10,35,36],[9,10,35,36,37],[9,10,11,12,35,36],[9,10,11,12,35,36,43],[9,10,11,12,13,35,36],[9,10,11,13,35,36,50,51,52],[9,10,11,13,35,36,50,51,52,53],[9,10,11,13,15,35,36,50,51,52],[9,10,11,13,15,17,35,36,50,51,52],[9,10,11,13,15,35,36,50,51,52,73],[9,10,11,13,35,36,50,51,52],[9,10,11,13,35,36,50,51,52],[9,10,35,36],[10],[4,5]] [(7,[(10,2,136)]),(18,[(10,2,136)])]
def zuK:Ann:=anK [] [[1,2,3],[1,2,3,7],[1,2,7,11,12,13],[1,2,7,11,12,13,14],[1,2,7,9,11,12,13],[1,2,7,9,11,12,13,26],[1,2,7,11,12,13],[1,2,7,11,12,13],[6]] [(1,[(7,8,51)]),(6,[(7,8,51)])]
def zuH:Ann:=anK [9] [[0],[0,4],[0,4,11],[0,4],[0,4,18],[0,4],[0,4,5],[0,4,5,6],[0,4,5,6,27],[0,4,5,6],[0,4,5,6],[2,3]] [(1,[(4,3,95)]),(3,[(4,3,95)]),(5,[(4,3,95)]),(6,[(5,2,131)]),(10,[(5,2,131)])]
def zuk:Ann:=anK [] [[0],[0,3],[0,3,4],[0,3,4,5],[0,3,4,5,10],[0,3,4,5],[0,3,4,5],[0,3,4,5],[2]] [(1,[(3,5,67)]),(7,[(3,5,67)])]
def zum:Ann:=anK [] [[0,1,2],[0,1,2,7],[0,1,2,7,8],[0,1,2,7,8,13],[0,1,2,7,8],[0,1,2,7,8,9],[0,1,2,7,8,9,10],[0,1,2,7,8,9,10,19],[0,1,2,7,8,9,10],[0,1,2,7,8,9,10,28],[0,1,2,7,8,9,10],[0,1,2,7,8,9,11],[0,1,2,7,8,9,11,43],[0,1,2,7,8,9,11],[0,1,2,7,8,9,11,48],[0,1,2,7,8,9,11],[6]] [(1,[(7,7,53)]),(5,[(9,3,95)]),(10,[(9,3,95)]),(15,[(7,7,53)])]
def zul:Ann:=anK [] [[0,2],[0,2,3],[2]] []
def zfA:Ann:=anK [] [[0,1],[4]] []
def zxo:Ann:={ anK [] [[0,1,5,6],[0,1,5,6,7],[0,6,7,8],[0,6,7,8,9],[0,6,7,8,9,20],[0,6,7,8,9],[0,6,7,8,9],[6]] [] with cel:=fun _=>[(7,1,900,1,3)] }
def zxm:Ann:={ anK [] [[0,2,3,5,8],[0,2,3,5,8,9],[0,5,8,10],[0,5,8,10,31],[8],[0,5,8,10,11],[0,8,10,11,12],[0,8,10,11,12],[0,8,10,11],[0,8,10],[8,10,72],[8,10],[8]] [] with cel:=fun _=>[(10,8,900,1,3)] }
def zBd:Ann:=anK [] [[0,3,4],[0,3,4,5],[0,3,4,5,9],[0,3,4,5],[0,3,4,5,29],[4],[4]] []
def zx9:Ann:=anK [] [[1],[33],[2],[2]] []
def zup:Ann:=anK [] [[0],[0,4],[0,4,10],[0,4,10,12],[0,4,6,10],[0,4,6,10,17],[0,4,10],[4,28],[2,3],[4],[4,32,33],[4,32,33,34],[4,7,32,33],[4,32,33],[4,32,33],[2,3]] [(1,[(4,9,64)]),(6,[(4,9,64)])]
def zzh:Ann:={ anK [] [[1,2],[1,2,6],[1,2,6,20,21,22],[1,2,6,20,21,22,23],[1,2,6,8,20,21,22],[1,2,6,20,21,22],[1,2,6,20,21,22],[1,2,6,9],[2,6,9,38,39,40],[2,6,9,38,39,40,41],[2,6,9,11,38,39,40],[2,6,9,11,38,39,40,45],[2,6,9,11,38,39,40,45,46],[2,6,9,11,12,38,39,40],[2,6,9,11,12,38,39,40,55],[2,6,9,38,39,40],[2,6,9,11,38,39,40,45,60],[2,6,9,38,39,40],[2,6,9,11,38,39,40,70],[2,6,9,11,13,14,38,39,40],[2,6,9,11,13,14,38,39,40,80],[2,6,9,11,13,14,15,16,38,39,40],[2,6,9,11,13,14,15,38,39,40,88],[2,6,9,38,39,40],[2,6,9,38,39,40],[2,6,9,38,39,40],[4,5]] [] with cel:=fun _=>[(33,1,301,10,133),(33,6,302,1,0),(33,7,1000,1,0),(33,13,303,12,61)] }
def zqT:Ann:=anK [] [[0,1],[0,1,5],[0,1,5,12,13,14],[0,1,5,12,13,14,15],[0,1,5,7,12,13,14],[0,1,5,7,12,13,14,32],[0,1,5,12,13,14],[0,1,5,12,13,14],[4]] []
def zdO:Ann:=anK [] [[0,1,4],[]] []
def zcn:Ann:=anK [] [[2,3],[4]] []
def zv9:Ann:={ anK [] [[0],[0,4,5],[0,4,5,6],[0,4,5,6,7],[0,4,5,6,7,20],[0,4,5,6,7],[0,4,5,6,7,8],[0,4,5,6,7,8,9,10],[0,4,5,6,7,53],[0,4,5,6,7,11],[0,4,5,6,7,11],[0,4,5,6,7],[6,68],[2,3],[2,3]] [(2,[(6,9,64)]),(11,[(6,9,64)])] with fz:=atReg [(10,[60])],cel:=fun _=>[(11,8,900,1,3)] }
def zBe:Ann:=anK [] [[2,3],[2,3,5],[2,3,5,10],[2,3,5],[2,3,5,20],[4],[4]] []
def zse:Ann:=anK [] [[1,2,3],[4]] []
def zAs:Ann:=anK [] [[0,3],[0,3,6],[0,3,6,10],[0,3,6],[0,3,6,30],[4,5],[4,5]] []
def zBi:Ann:=anK [] [[1,2],[4]] []
def zv8:Ann:=anK [] [[2,3,4,5],[2,3,4,24],[8],[2,3,4,9],[3,9,37],[8],[8]] []
def zBb:Ann:=anK [] [[0],[0,3],[3,6,7,8],[3,6,7,8,9],[3,5,6,7,8],[3,5,6,7,8,14],[2],[3,6,7,8],[2]] []
def zv0:Ann:=anK [] [[0,1],[0,1,5],[0,1,5,6],[0,1,6,11],[12],[4],[4],[0,1,13],[4],[0,1,16],[4],[19],[4],[4]] []
def zlq:Ann:=anK [] [[0],[0,8],[2],[0,3],[0,3,13],[0,3],[0,3,25],[0,3,4],[0,3,4,5],[0,3,4,5,32],[0,3,4,5],[0,3,4,5,44],[0,3,4,5],[0,3,4,5],[0,3],[2],[2]] []
def zv2:Ann:={ anK [14] [[0,1,2,6],[0,6,7],[0,6,7,18],[0,6,7],[0,6,7,32],[6,7],[6]] [] with cel:=fun _=>[(7,2,900,6,98)] }
def zuI:Ann:=anK [] [[0,3,4],[0,3,4,5],[0,3,4,5,16],[4,5],[4]] []
def zuJ:Ann:={ anK [30] [[0,2,4,6],[0,4,6,7],[0,4,6,7,8],[0,4,6,7,8,36],[0,4,6,7,8],[0,4,6,7,8,9],[0,4,6,7,8,9,45],[0,4,6,7,8,9],[0,4,6,7,8],[6]] [] with cel:=fun _=>[(7,6,900,1,3)] }
def zzf:Ann:=anK [] [[0],[0,7],[2],[0,8,9,10],[0,8,9,10,11],[0,3,4,8,9,10],[0,3,4,8,9,10,17],[2],[0,8,9,10,36],[2],[0,8,9,10],[2]] []
def zsd:Ann:=anK [] [[0],[0,7],[2],[0,8,9,10],[0,8,9,10,11],[0,3,4,8,9,10],[0,3,4,8,9,10,48],[2],[0,3,4,8,9,10,63],[2],[0,8,9,10,76],[2],[0,8,9,10],[2]] []
def zsf:Ann:=anK [] [[1],[1,17],[2],[1,19,20,21],[1,19,20,21,22],[1,3,4,19,20,21],[1,19,20,21,33],[2],[1,19,20,21],[2]] []
def zrs:Ann:=anK [] [[1],[1,10,11,12],[1,10,11,12,13],[1,4,10,11,12],[1,4,5,6,10,11,12],[1,4,5,10,11,12,23],[2],[1,8,10,11,12],[1,10,11,12,41],[2],[1,10,11,12],[2]] []
def zs8:Ann:=anK [] [[1],[1,10],[2],[1,12,13,14],[1,12,13,14,15],[1,3,4,12,13,14],[1,4,12,13,14,32],[2],[1,4,5,6,12,13,14],[1,12,13,14,52],[2],[1,12,13,14],[2]] []
def zyc:Ann:=anK [] [[1],[34],[2],[2]] []
def zxp:Ann:=anK [] [[0],[0,3],[0,3,10,11,12],[0,3,10,11,12,13],[0,3,4,5,10,11,12],[0,3,4,5,10,11,12,19],[0,3,4,5,6,10,11,12],[0,3,4,5,6,7,8,10,11,12],[0,3,4,5,6,7,10,11,12,29],[0,3,6,7,10,11,12],[0,3,6,7,10,11,12,39],[0,3,6,7,10,11,12],[0,3,10,11,12],[0,3,10,11,12],[2]] []
def zyb:Ann:=anK [] [[1,2],[1,2],[2]] []
def zqj:Ann:={ anK [] [[0,3],[0,3,10],[0,3,4],[0,3],[0,3],[0],[0],[0],[]] [] with cel:=fun _=>[(1000,1,900,10,133),(1000,6,901,1,0),(1000,7,1000,1,0),(1000,13,902,12,61)] }
def zs5:Ann:=anK [] [[0,4,5],[4,5,7],[4,5,7,8,9],[4,5,7,8,39],[6,7],[4,5,6,7,8,9],[4,5,6,7,8,78],[6,7],[5,6,7,8,99],[6,7],[6,7,105],[6,7],[6,7]] []
def zqk:Ann:=anK [] [[1,2,4],[1,4,9,10,11],[1,4,9,10,11,12],[1,4,7,9,10,11],[1,4,7,9,10,11,18],[4,5],[1,4,9,10,11],[4,5]] []
def zuo:Ann:={ anK [] [[0,6,7,8,9],[0,6,7,8,9,10],[0,6,7,8,9,10,12],[0,6,7,8,9,10,36],[0,6,7,8,9],[0,6,7,8,9,13,14],[0,6,8,9,13,14,45,46,47],[0,6,8,9,13,14,45,46,47,48],[0,6,8,9,13,14,15,16,45,46,47],[0,6,8,9,13,14,15,45,46,47,54],[0,6,8,9,13,14,15,17,18,45,46,47],[0,6,8,9,13,14,15,17,45,46,47,68],[0,6,8,9,13,14,17,45,46,47],[0,6,8,9,13,14,45,46,47],[0,6,8,9,13,14,45,46,47],[0,6,9,19],[0,9,19,20,21],[0,9,19,20,99],[0,9,19,20],[0,9,19,104],[],[0,9,114],[]] [(5,[(13,1,3),(14,1,3)]),(12,[(13,1,3)]),(13,[(14,1,3)])] with cel:=fun _=>[(1000,1,900,10,133),(1000,6,901,1,0),(1000,7,1000,1,0),(1000,13,902,12,61)] }
def zs6:Ann:=anK [] [[0,3],[0,3,11,12,13],[0,3,11,12,13,14],[0,3,6,11,12,13],[0,3,7,8,11,12,13],[0,3,11,12,13,33],[4],[0,3,11,12,13],[4]] []
def zeu:Ann:=anK [] [[0,1,2,3,4,10],[0,1,2,3,4,10,11],[0,1,2,3,4,10,11,12],[0,1,2,3,4,10,11,12,25],[],[0,1,2,3,4,10,11,12,32],[],[0,1,2,3,4,10,11,12,39],[0,1,2,3,4,10,11,12],[0,1,2,3,4,10,11,12],[0,1,2,3,4,10,11,12,13,14],[0,1,2,3,4,10,11,12,13,14,56],[0,1,2,3,4,10,11,12,13],[0,1,2,3,4,10,11,12,13],[0,1,2,3,4,10,11,12,13,14],[0,1,2,3,4,10,11,12,13,75],[0,1,2,3,4,10,11,12,13,80],[0,1,2,3,4,10,11,12,13,97],[0,2,3,4,10,11,15],[0,1,2,3,4,10,11],[0,1,2,3,4,12,16,17],[0,1,2,3,4,11,12,16],[0,1,2,3,4,11,12,16,18,19],[0,1,2,3,4,11,16,18,19,20],[0,1,2,3,4,11,16,18,19,20,125],[0,1,2,3,4,10,11,16],[0,2,3,4,10,11,16],[0,1,2,3,4,10,11],[0,1,2,3,4,10,11,16],[0,1,3,4,10,11,16],[0,1,2,3,4,10,11]] []
def a_bits_Len:Ann:=anK [] [[0],[2],[2]] []
def zxq:Ann:=anK [] [[0],[0,4,5],[0,4,5,6],[0,4,5,6,15],[0,4,5,6],[0,4,5,6,23],[0,4,5,6,7],[0,4,5,6,7,8,9],[0,4,5,6,7,8,44],[0,4,5,6],[0,4,5,6,7,57],[0,4,5,6],[2,3]] []
def zBg:Ann:=anK [] [[0],[0,10],[2],[3,4],[3,4,5],[3,4,5,6,7],[3,4,5,6,7,34],[3,4,5,6,7,56],[3,4,5,6,7],[3,4,5,6,7],[3,4,5,6,7],[3,4,5,6,7],[2]] [(0,[(2,9,64)]),(2,[(2,9,64)]),(4,[(5,9,64)]),(8,[(5,9,64)]),(10,[(5,9,64)]),(12,[(2,9,64)])]
def zcF:Ann:=anK [] [[0,1],[0,1,7,8],[0,1,7,8,9],[0,1,5,7,8],[0,1,5,7,8,16],[4],[0,1,7,8],[4]] []
def zAr:Ann:=anK [] [[2,3],[2,3,5],[2,3,5,27],[4],[2,3,5,6],[2,3,5,6,30],[2,3,5,6],[2,3,5,6,46],[4],[2,3,5,6,7],[2,3,5,6,7,54],[2,3,5,6,7],[2,3,5,6,7,106],[4],[4]] []
def zs4:Ann:=anK [] [[1],[1,40],[2],[2]] []
def zx8:Ann:=anK [] [[0],[0,3],[0,3,7],[0,3],[0,3,19],[2],[2]] []
def zzk:Ann:=anK [] [[2,3],[2,3,27],[4],[3,29,30,31],[3,29,30,31,32],[3,5,6,29,30,31],[3,29,30,31,52],[4],[3,29,30,31],[4]] []
def zv5:Ann:=anK [] [[2,3],[3,9,10,11],[3,9,10,11,12],[3,6,7,9,10,11],[3,6,9,10,11,27],[4,5],[3,9,10,11],[4,5]] []
def zyd:Ann:=anK [] [[2,3,4],[2,3,4,17],[6,7],[2,3,4,23],[6,7],[2,3,4,25,26,27],[2,3,4,25,26,27,28],[2,3,4,8,9,25,26,27],[2,3,4,9,10,25,26,27],[2,3,4,25,26,27,56],[6,7],[2,3,4,25,26,27],[2,3,4,11],[2,4,11,63,64,65],[2,4,11,63,64,65,66],[2,4,11,12,13,63,64,65],[2,4,11,12,13,63,64,65,70],[2,4,11,63,64,65],[2,4,11,12,13,63,64,65,77],[2,4,11,63,64,65],[2,4,11,12,63,64,65,94],[2,4,11,63,64,65],[2,4,11,63,64,65],[6,7]] []
def zv4:Ann:=anK [] [[1,2],[2,6,7],[2,6,15],[4,5],[4,5]] []
def zs7:Ann:=anK [] [[1,2],[1,2,12],[4],[1,14,15,16],[1,14,15,16,17],[1,5,6,14,15,16],[1,14,15,16,34],[4],[1,14,15,16],[4]] []
def zya:Ann:=anK [] [[1],[1,16],[2],[1,18],[1,18,19],[2],[1,18,23],[2],[1,60],[2],[2]] []
def zuM:Ann:=anK [] [[1,2],[2]] []
def zrt:Ann:=anK [5] [[0],[0,4],[2],[2]] [(0,[(2,1,3)]),(2,[(2,1,3)]),(3,[(2,1,3)])]
def zuP:Ann:=anK [] [[2,3,4,5],[8]] []
def zzi:Ann:=anK [] [[1,2,3],[1,2,3,29],[6],[1,2,3,7,8],[1,2,3,7,8,31,32],[1,2,3,7,8,31,32,33],[1,2,3,7,8,9,31,32],[1,2,3,7,8,10,11,31,32],[1,2,3,7,8,10,11,31,32,50],[6],[1,2,3,7,8,31,32],[1,2,3,7,8,31,32],[6]] []
def zzj:Ann:=anK [] [[2,3,4,6],[2,3,4,6,12],[6,7],[2,3,4,6,15],[6,7],[3,6,8],[3,6,8,27],[3,6,8],[6,7]] [(5,[(8,1,4)]),(7,[(8,1,4)])]
def zrr:Ann:={ anK [] [[0,1,5],[0,6],[0,6,19],[0,6],[0,6],[0,6,7],[0,6,7,46],[0,6,7],[0,6,7,65],[0,6,7]] [] with cel:=fun _=>[(1000,1,900,10,133),(1000,6,901,1,0),(1000,7,1000,1,0),(1000,13,902,12,61)] }
def zdw:Ann:=anK [] [[0,1,2,3,8],[0,1,2,3,8,14],[0,1,2,3,8],[0,1,2,3,8,9],[0,1,2,3,8,9,34],[0,1,2,3,8,9],[0,1,2,3,8,9]] []
def zef:Ann:=anK [] [[0,1,2,3,8],[0,1,2,3,8,9],[0,3,8,9,10],[0,3,8,9,10,11],[0,3,8,9,10,11,21],[0,3,8,9,10,11],[0,3,8,9,10,11],[0,3,8,9,12],[0,3,8,9,12,33],[0,3,8,9,12],[0,3,8,9,12],[0,3,8,9,12]] []
def zdv:Ann:=anK [] [[0,1,8],[0,1,8,17],[0,1,8,9],[0,1,8,9,10],[0,1,8,9,10,11],[0,1,8,9,10,11,35],[0,1,8,9,10,11],[0,1,8,9,10,11,12],[0,1,8,9,10,11,12,45],[0,1,8,9,10,11,12],[0,1,8,9,10,11]] []
def zdP:Ann:=anK [] [[0,1,2,3],[0,1,3,10],[0,1,3,10,11],[0,1,3,10,11,12],[0,1,3,10,11,12,13],[0,3,10,11,12,13,14],[0,3,10,11,12,13,14,34],[0,3,11,12,13,14,36],[0,3,11,12,13,14],[0,3,11,12,13,14],[0,3,11,12,13,14],[11,13],[13,55],[8,9],[13,55,57],[8,9],[13,60],[8,9]] []
def zdH:Ann:=anK [] [[0,2,8],[0,8,9],[0,8,9,15],[0,8,9],[0,8,9],[0,8,9]] []
def zcK:Ann:=anK [] [[0,1,2,3],[0,1,2,3,9],[0,1,2,3,9,10],[0,1,2,3,9,10,16],[0,1,2,3,9,10],[0,1,2,3,9,10,36],[0,1,2,3,9,10],[0,1,2,3,9,10,41],[8],[0,1,2,3,9,10,45],[8],[0,1,2,3,9,10],[0,1,2,3,9,10,65],[0,1,2,3,9,10,11],[0,1,2,3,9,10,11,69],[0,1,2,3,9,10,11],[0,1,2,3,9,10,11,84],[0,1,2,3,9,10,11],[0,1,2,3,9,10,104],[0,1,2,3,9,10,12],[0,1,2,3,9,10,12,109],[0,1,2,3,9,10,12],[0,1,2,3,9,10,12,124],[0,1,2,3,9,10,12],[8]] []
def zdp:Ann:=anK [] [[0,1,2,3,4],[0,1,2,4],[0,1,4,11,12],[0,1,4,11,12,47],[0,1,4,11,12],[0,1,4,11,12,65],[0,1,4,11,12],[0,1,4,11,12,70],[0,1,4,11,12],[0,1,4,11,12],[0,1,4,11,12],[10]] []
def zd4:Ann:=anK [] [[0,1,2,3,4],[0,1,2,4],[0,1,4,12,13],[0,1,4,12,13,47],[0,1,4,12,13],[0,1,4,12,13,66],[0,1,4,12,13],[0,1,4,12,13,71],[13],[10,11],[0,1,4,12,13],[0,1,4,12,13],[0,1,4,12,13],[0,1,4,12,13,120],[0,1,4,12,13],[0,1,4,12,13,139],[0,1,4,12,13],[0,1,4,12,13,144],[0,1,4,12,13],[0,1,4,12,13],[0,1,4,12,13],[13],[10,11]] []
def zA9:Ann:=anK [] [[0,2],[0,2,4],[0],[0,2],[0,2,8],[0,2],[0,2],[2]] []
def zBa:Ann:=anK [] [[0,2],[0,2,4],[0],[0,2],[0,2,8],[0,2],[0,2],[0,2,14],[0,2],[0,2],[2]] []
def zAt:Ann:=anK [] [[1],[1,19],[2],[1,3],[1,3,24],[1,3],[1,3,33],[2],[1,35],[1,35,36],[2],[1,35,57],[2],[1,89],[2],[2]] []
def zuN:Ann:=anK [] [[1],[1,34],[2],[1,3],[1,3,4],[1,3,4,39],[1,3,4],[1,3,4,48],[2],[1,3,4],[2]] []
def zv1:Ann:=anK [] [[1],[1,22],[2],[1,32],[2],[1,34,35,36],[1,34,35,36,37],[1,4,34,35,36],[1,34,35,36,42],[2],[1,34,35,36],[2]] []
def zuR:Ann:=anK [] [[1,2],[1,2,9],[4],[1,2,13,14,15],[1,2,13,14,15,16],[1,2,5,6,13,14,15],[1,2,13,14,15,40],[4],[1,2,13,14,15],[4]] []
def zye:Ann:=anK [] [[0],[3],[3,4],[3,4],[4],[2],[2]] []
def zxr:Ann:=anK [] [[1,2,3],[1,2,3,9],[6],[6]] []
def zt6:Ann:=anK [] [[1],[2]] []
def zuq:Ann:=anK [] [[1],[1,37],[2],[2]] []
def zAq:Ann:=anK [] [[0,1,4],[1,4,8,9,10],[1,4,8,9,10,11],[1,4,7,8,9,10],[1,4,7,8,9,10,17],[4,7],[4,5],[1,4,8,9,10],[4,5]] []
def zuQ:Ann:=anK [] [[1,2],[1,2,6],[4],[1,2,9],[4],[4]] []
def zqm:Ann:=anK [5] [[0],[0,4],[2],[2]] [(0,[(2,1,4)]),(2,[(2,1,4)]),(3,[(2,1,4)])]
def zv6:Ann:=anK [] [[1,2],[1,2,5],[2,5,8,9,10],[2,5,8,9,10,11],[2,5,7,8,9,10],[2,5,8,9,10,15],[2,5,8,9,10],[2,5,8,9,10],[4]] []
def zeg:Ann:=anK [] [[0,2,3,4,10],[0,2,3,4,10,11],[0,2,3,4,10,11,18],[0,2,3,4,10,11,40],[0,2,3,4,10,11],[0,2,3,4,10,11,58],[0,2,3,4,11],[0,2,3,4,10]] []
def zru:Ann:=anK [] [[0],[0],[0],[0],[2]] []
def zdo:Ann:=anK [] [[0,1,2,3],[8]] []
def zeB:Ann:=anK [] [[0,1,2,3,4,5],[0,1,2,3,4,5],[0,1,2,4,5],[2],[12]] []
def a_ref28_in:Ann:=anK [] [[0,1,2],[6]] []
def zv7:Ann:=anK [] [[1],[1,30],[2],[1,33],[2],[2]] []
def zxj:Ann:=anK [] [[1],[1,30],[2],[1,32],[1,32,33],[2],[1,43],[2],[2]] []
def zx7:Ann:=anK [] [[0],[0,3],[3,6,7,8],[3,6,7,8,9],[3,5,6,7,8],[3,6,7,8],[3,6,7,8],[2]] []
def zeC:Ann:=anK [] [[0,1,2,3,4],[1,2,3,22],[1,2],[10,11],[10,11]] []
def aNone:Ann:={ lits:=[],live:=fun _=>none,own:=fun _=>[] }
def annTab:List Ann:=[aNone,aNone,aNone,zs1,zuj,zs0,zs2,zrq,zpv,zet,zBc,zet,zv3,zuG,zxl,zzg,zs3,zxk,zBj,zsg,zuO,zql,zun,zBf,zwa,zBh,zxn,zt5,zze,a_law29_at,zAp,zuL,zuK,zuH,zuk,zum,zul,zfA,zxo,zxm,zBd,zx9,zup,zzh,zqT,zdO,zcn,zv9,zsg,zBe,zfA,zse,zcn,zAs,zBi,zv8,zdO,zcn,zBb,zv0,zlq,zv2,zuI,zfA,zuJ,zzf,zsd,zsf,zrs,zs8,zyc,zxp,zdO,zcn,zyb,zqj,zs5,zqk,zuo,zs6,zeu,a_bits_Len,zxq,zBg,zcF,zAr,zeu,zet,zs4,zx8,zet,zzk,zv5,zyd,zv4,zs7,zet,zya,zuM,zcn,zeu,zrt,zqk,zql,zuP,zt5,zzi,zzj,zrr,zdw,zef,zdv,zdP,zdH,zcK,zdp,zd4,zA9,zBa,zAt,zcn,zcn,zuN,zdw,zef,zdv,zdP,zdH,zcK,zdp,zd4,zfA,zet,zv1,zuR,zye,zxr,zt6,zuq,zdw,zef,zdv,zdP,zdH,zcK,zdp,zd4,zAq,zcn,zuQ,zet,zfA,zcn,zqm,zv6,zeg,zet,zru,zdo,zeB,zt6,a_ref28_in,zv7,zeg,zdo,zeB,zcF,zxj,zx7,zfA,zet,zeg,zdo,zeB,zet,zeC,zeC,zcF,zeC,aNone,aNone,aNone,aNone,aNone,aNone,aNone,aNone,aNone,aNone,aNone,aNone,aNone,aNone,aNone,aNone]
def zA:AnnF:=fun f=>annTab.getD f aNone
def zag:Bool→AV×Mem:=(r1 vBool).enc
abbrev zad:RD:={ α:=Bool,enc:=zag,dec:=(r1 vBool).dec,ok:=(r1 vBool).ok,de:=(r1 vBool).de }
def zrR:zae→AV×Mem:=(r1 (vNewp 2 zaf za1)).enc
abbrev zou:RD:={ α:=zae,enc:=zrR,dec:=(r1 (vNewp 2 zaf za1)).dec,ok:=(r1 (vNewp 2 zaf za1)).ok,de:=(r1 (vNewp 2 zaf za1)).de }
def zh2:(zay×zae)→AV×Mem:=(r1M (vAgg zgY) (mBox 1000 2 zaf za1)).enc
abbrev zh3:RD:={ α:=zay×zae,enc:=zh2,dec:=(r1M (vAgg zgY) (mBox 1000 2 zaf za1)).dec,ok:=(r1M (vAgg zgY) (mBox 1000 2 zaf za1)).ok,de:=(r1M (vAgg zgY) (mBox 1000 2 zaf za1)).de }
def zdX:(((List zab))×zae)→AV×Mem:=(r1M (vNew 9 zac zax) (mBox 1000 2 zaf za1)).enc
abbrev zeQ:RD:={ α:=((List zab))×zae,enc:=zdX,dec:=(r1M (vNew 9 zac zax) (mBox 1000 2 zaf za1)).dec,ok:=(r1M (vNew 9 zac zax) (mBox 1000 2 zaf za1)).ok,de:=(r1M (vNew 9 zac zax) (mBox 1000 2 zaf za1)).de }
def zoe:((zbz×Int)×(List zab))→AV×Mem:=(rTM (lCons (vAgg zg5) (lOne (vI .i64))) (mRow 1001 9 zac zax)).enc
abbrev zdd:RD:={ α:=(zbz×Int)×(List zab),enc:=zoe,dec:=(rTM (lCons (vAgg zg5) (lOne (vI .i64))) (mRow 1001 9 zac zax)).dec,ok:=(rTM (lCons (vAgg zg5) (lOne (vI .i64))) (mRow 1001 9 zac zax)).ok,de:=(rTM (lCons (vAgg zg5) (lOne (vI .i64))) (mRow 1001 9 zac zax)).de }
def ztU:(((List zab))×zae×(List zab))→AV×Mem:=(r1M (vNew 9 zac zax) (mApp (mBox 1000 2 zaf za1) (mRow 1001 9 zac zax) (fun _ _=>rfl))).enc
abbrev ztV:RD:={ α:=((List zab))×zae×(List zab),enc:=ztU,dec:=(r1M (vNew 9 zac zax) (mApp (mBox 1000 2 zaf za1) (mRow 1001 9 zac zax) (fun _ _=>rfl))).dec,ok:=(r1M (vNew 9 zac zax) (mApp (mBox 1000 2 zaf za1) (mRow 1001 9 zac zax) (fun _ _=>rfl))).ok,de:=(r1M (vNew 9 zac zax) (mApp (mBox 1000 2 zaf za1) (mRow 1001 9 zac zax) (fun _ _=>rfl))).de }
def zml:((List zab))→AV×Mem:=(r1 (vSl 9 zax)).enc
abbrev ziU:RD:={ α:=(List zab),enc:=zml,dec:=(r1 (vSl 9 zax)).dec,ok:=(r1 (vSl 9 zax)).ok,de:=(r1 (vSl 9 zax)).de }
def zgv:(zaJ×Bool)→AV×Mem:=(rT (lCons (vAgg zb5) (lOne vBool))).enc
abbrev zeR:RD:={ α:=zaJ×Bool,enc:=zgv,dec:=(rT (lCons (vAgg zb5) (lOne vBool))).dec,ok:=(rT (lCons (vAgg zb5) (lOne vBool))).ok,de:=(rT (lCons (vAgg zb5) (lOne vBool))).de }
def zhr:((List Int)×Bool)→AV×Mem:=(rT (lCons (vSl 1 zaS) (lOne vBool))).enc
abbrev zhy:RD:={ α:=(List Int)×Bool,enc:=zhr,dec:=(rT (lCons (vSl 1 zaS) (lOne vBool))).dec,ok:=(rT (lCons (vSl 1 zaS) (lOne vBool))).ok,de:=(rT (lCons (vSl 1 zaS) (lOne vBool))).de }
def ziQ:(Int×zae)→AV×Mem:=(r1M (vI .i64) (mBox 1000 2 zaf za1)).enc
abbrev zaR:RD:={ α:=Int×zae,enc:=ziQ,dec:=(r1M (vI .i64) (mBox 1000 2 zaf za1)).dec,ok:=(r1M (vI .i64) (mBox 1000 2 zaf za1)).ok,de:=(r1M (vI .i64) (mBox 1000 2 zaf za1)).de }
def zk6:zab→AV×Mem:=(r1 (vAgg zax)).enc
abbrev zfa:RD:={ α:=zab,enc:=zk6,dec:=(r1 (vAgg zax)).dec,ok:=(r1 (vAgg zax)).ok,de:=(r1 (vAgg zax)).de }
def zpd:zay→AV×Mem:=(r1 (vAgg zgY)).enc
abbrev zg0:RD:={ α:=zay,enc:=zpd,dec:=(r1 (vAgg zgY)).dec,ok:=(r1 (vAgg zgY)).ok,de:=(r1 (vAgg zgY)).de }
def zkJ:(((List GTask)×Int)×(List zab))→AV×Mem:=(rTM (lCons (vSl 2 zdb) (lOne (vI .i64))) (mRow 1001 9 zac zax)).enc
abbrev zfZ:RD:={ α:=((List GTask)×Int)×(List zab),enc:=zkJ,dec:=(rTM (lCons (vSl 2 zdb) (lOne (vI .i64))) (mRow 1001 9 zac zax)).dec,ok:=(rTM (lCons (vSl 2 zdb) (lOne (vI .i64))) (mRow 1001 9 zac zax)).ok,de:=(rTM (lCons (vSl 2 zdb) (lOne (vI .i64))) (mRow 1001 9 zac zax)).de }
def zhp:((List zbI))→AV×Mem:=(r1 (vNew 8 zaT zcd)).enc
abbrev zhw:RD:={ α:=(List zbI),enc:=zhp,dec:=(r1 (vNew 8 zaT zcd)).dec,ok:=(r1 (vNew 8 zaT zcd)).ok,de:=(r1 (vNew 8 zaT zcd)).de }
def zfY:(((List zaE)×(List zbl))×zae)→AV×Mem:=(rTM (lCons (vSl 3 zbZ) (lOne (vSl 2 zdq))) (mBox 1000 2 zaf za1)).enc
abbrev zht:RD:={ α:=((List zaE)×(List zbl))×zae,enc:=zfY,dec:=(rTM (lCons (vSl 3 zbZ) (lOne (vSl 2 zdq))) (mBox 1000 2 zaf za1)).dec,ok:=(rTM (lCons (vSl 3 zbZ) (lOne (vSl 2 zdq))) (mBox 1000 2 zaf za1)).ok,de:=(rTM (lCons (vSl 3 zbZ) (lOne (vSl 2 zdq))) (mBox 1000 2 zaf za1)).de }
def zgN:(((List zaW))×zae)→AV×Mem:=(r1M (vNew 5 zc5 zcx) (mBox 1000 2 zaf za1)).enc
abbrev zgP:RD:={ α:=((List zaW))×zae,enc:=zgN,dec:=(r1M (vNew 5 zc5 zcx) (mBox 1000 2 zaf za1)).dec,ok:=(r1M (vNew 5 zc5 zcx) (mBox 1000 2 zaf za1)).ok,de:=(r1M (vNew 5 zc5 zcx) (mBox 1000 2 zaf za1)).de }
def zgO:(((List zaJ))×zae)→AV×Mem:=(r1M (vNew 7 zcb zb5) (mBox 1000 2 zaf za1)).enc
abbrev zgR:RD:={ α:=((List zaJ))×zae,enc:=zgO,dec:=(r1M (vNew 7 zcb zb5) (mBox 1000 2 zaf za1)).dec,ok:=(r1M (vNew 7 zcb zb5) (mBox 1000 2 zaf za1)).ok,de:=(r1M (vNew 7 zcb zb5) (mBox 1000 2 zaf za1)).de }
def zjH:(za8×zae)→AV×Mem:=(r1M (vAgg zje) (mBox 1000 2 zaf za1)).enc
abbrev zgQ:RD:={ α:=za8×zae,enc:=zjH,dec:=(r1M (vAgg zje) (mBox 1000 2 zaf za1)).dec,ok:=(r1M (vAgg zje) (mBox 1000 2 zaf za1)).ok,de:=(r1M (vAgg zje) (mBox 1000 2 zaf za1)).de }
def zmm:(Bool×zae)→AV×Mem:=(r1M vBool (mBox 1000 2 zaf za1)).enc
abbrev zdt:RD:={ α:=Bool×zae,enc:=zmm,dec:=(r1M vBool (mBox 1000 2 zaf za1)).dec,ok:=(r1M vBool (mBox 1000 2 zaf za1)).ok,de:=(r1M vBool (mBox 1000 2 zaf za1)).de }
def ziR:(GSeed×zae)→AV×Mem:=(r1M (vAgg zeK) (mBox 1000 2 zaf za1)).enc
abbrev ziW:RD:={ α:=GSeed×zae,enc:=ziR,dec:=(r1M (vAgg zeK) (mBox 1000 2 zaf za1)).dec,ok:=(r1M (vAgg zeK) (mBox 1000 2 zaf za1)).ok,de:=(r1M (vAgg zeK) (mBox 1000 2 zaf za1)).de }
def zmn:(zab×zae)→AV×Mem:=(r1M (vAgg zax) (mBox 1000 2 zaf za1)).enc
abbrev ziV:RD:={ α:=zab×zae,enc:=zmn,dec:=(r1M (vAgg zax) (mBox 1000 2 zaf za1)).dec,ok:=(r1M (vAgg zax) (mBox 1000 2 zaf za1)).ok,de:=(r1M (vAgg zax) (mBox 1000 2 zaf za1)).de }
def zni:zaE→AV×Mem:=(r1 (vAgg zbZ)).enc
abbrev zif:RD:={ α:=zaE,enc:=zni,dec:=(r1 (vAgg zbZ)).dec,ok:=(r1 (vAgg zbZ)).ok,de:=(r1 (vAgg zbZ)).de }
def zbk:Int→AV×Mem:=(r1 (vI .i64)).enc
abbrev zaP:RD:={ α:=Int,enc:=zbk,dec:=(r1 (vI .i64)).dec,ok:=(r1 (vI .i64)).ok,de:=(r1 (vI .i64)).de }
def zdI:(((List zab)×Int)×(List zab))→AV×Mem:=(rTM (lCons (vSl 9 zax) (lOne (vI .i64))) (mRow 1000 9 zac zax)).enc
abbrev zfx:RD:={ α:=((List zab)×Int)×(List zab),enc:=zdI,dec:=(rTM (lCons (vSl 9 zax) (lOne (vI .i64))) (mRow 1000 9 zac zax)).dec,ok:=(rTM (lCons (vSl 9 zax) (lOne (vI .i64))) (mRow 1000 9 zac zax)).ok,de:=(rTM (lCons (vSl 9 zax) (lOne (vI .i64))) (mRow 1000 9 zac zax)).de }
def zcL:((List (zat×zab)))→AV×Mem:=(r1 (vNewm zbP zcC)).enc
abbrev zec:RD:={ α:=(List (zat×zab)),enc:=zcL,dec:=(r1 (vNewm zbP zcC)).dec,ok:=(r1 (vNewm zbP zcC)).ok,de:=(r1 (vNewm zbP zcC)).de }
def zdQ:((List zbI))→AV×Mem:=(r0M (mRow 1000 8 zaT zcd)).enc
abbrev zbq:RD:={ α:=(List zbI),enc:=zdQ,dec:=(r0M (mRow 1000 8 zaT zcd)).dec,ok:=(r0M (mRow 1000 8 zaT zcd)).ok,de:=(r0M (mRow 1000 8 zaT zcd)).de }
def zcJ:((List zab)×Int)→AV×Mem:=(rT (lCons (vSl 9 zax) (lOne (vI .i64)))).enc
abbrev zfm:RD:={ α:=(List zab)×Int,enc:=zcJ,dec:=(rT (lCons (vSl 9 zax) (lOne (vI .i64)))).dec,ok:=(rT (lCons (vSl 9 zax) (lOne (vI .i64)))).ok,de:=(rT (lCons (vSl 9 zax) (lOne (vI .i64)))).de }
def zie:(zaW×Bool)→AV×Mem:=(rT (lCons (vAgg zcx) (lOne vBool))).enc
abbrev zih:RD:={ α:=zaW×Bool,enc:=zie,dec:=(rT (lCons (vAgg zcx) (lOne vBool))).dec,ok:=(rT (lCons (vAgg zcx) (lOne vBool))).ok,de:=(rT (lCons (vAgg zcx) (lOne vBool))).de }
def zf7:(Int×Bool)→AV×Mem:=(rT (lCons (vI .i64) (lOne vBool))).enc
abbrev zd1:RD:={ α:=Int×Bool,enc:=zf7,dec:=(rT (lCons (vI .i64) (lOne vBool))).dec,ok:=(rT (lCons (vI .i64) (lOne vBool))).ok,de:=(rT (lCons (vI .i64) (lOne vBool))).de }
def zd9:((List GTask))→AV×Mem:=(r0M (mRow 1000 2 zbJ zdb)).enc
abbrev zbs:RD:={ α:=(List GTask),enc:=zd9,dec:=(r0M (mRow 1000 2 zbJ zdb)).dec,ok:=(r0M (mRow 1000 2 zbJ zdb)).ok,de:=(r0M (mRow 1000 2 zbJ zdb)).de }
def zel:(Nat×(List GTask))→AV×Mem:=(r1M (vRow 1000 2) (mRow 1000 2 zbJ zdb)).enc
abbrev zc3:RD:={ α:=Nat×(List GTask),enc:=zel,dec:=(r1M (vRow 1000 2) (mRow 1000 2 zbJ zdb)).dec,ok:=(r1M (vRow 1000 2) (mRow 1000 2 zbJ zdb)).ok,de:=(r1M (vRow 1000 2) (mRow 1000 2 zbJ zdb)).de }
def zlz:(zaE×zae)→AV×Mem:=(r1M (vAgg zbZ) (mBox 1000 2 zaf za1)).enc
abbrev zem:RD:={ α:=zaE×zae,enc:=zlz,dec:=(r1M (vAgg zbZ) (mBox 1000 2 zaf za1)).dec,ok:=(r1M (vAgg zbZ) (mBox 1000 2 zaf za1)).ok,de:=(r1M (vAgg zbZ) (mBox 1000 2 zaf za1)).de }
def zkI:(zbl×zae)→AV×Mem:=(r1M (vAgg zdq) (mBox 1000 2 zaf za1)).enc
abbrev zhu:RD:={ α:=zbl×zae,enc:=zkI,dec:=(r1M (vAgg zdq) (mBox 1000 2 zaf za1)).dec,ok:=(r1M (vAgg zdq) (mBox 1000 2 zaf za1)).ok,de:=(r1M (vAgg zdq) (mBox 1000 2 zaf za1)).de }
def zho:(zaJ×zae)→AV×Mem:=(r1M (vAgg zb5) (mBox 1000 2 zaf za1)).enc
abbrev zhv:RD:={ α:=zaJ×zae,enc:=zho,dec:=(r1M (vAgg zb5) (mBox 1000 2 zaf za1)).dec,ok:=(r1M (vAgg zb5) (mBox 1000 2 zaf za1)).ok,de:=(r1M (vAgg zb5) (mBox 1000 2 zaf za1)).de }
def zdY:(((List ((Int×Int)×za4)))×(List zab))→AV×Mem:=(r1M (vNewm zbr zbY) (mRow 1000 9 zac zax)).enc
abbrev ziZ:RD:={ α:=((List ((Int×Int)×za4)))×(List zab),enc:=zdY,dec:=(r1M (vNewm zbr zbY) (mRow 1000 9 zac zax)).dec,ok:=(r1M (vNewm zbr zbY) (mRow 1000 9 zac zax)).ok,de:=(r1M (vNewm zbr zbY) (mRow 1000 9 zac zax)).de }
def zcU:((List zab))→AV×Mem:=(r0M (mRow 1000 9 zac zax)).enc
abbrev zbb:RD:={ α:=(List zab),enc:=zcU,dec:=(r0M (mRow 1000 9 zac zax)).dec,ok:=(r0M (mRow 1000 9 zac zax)).ok,de:=(r0M (mRow 1000 9 zac zax)).de }
def zbT:zai→AV×Mem:=(r0M zj2).enc
abbrev zct:RD:={ α:=zai,enc:=zbT,dec:=(r0M zj2).dec,ok:=(r0M zj2).ok,de:=(r0M zj2).de }
def ze8:(Int×(Option Addr))→AV×Mem:=(rT (lCons (vI .i64) (lOne vPtr))).enc
abbrev zgl:RD:={ α:=Int×(Option Addr),enc:=ze8,dec:=(rT (lCons (vI .i64) (lOne vPtr))).dec,ok:=(rT (lCons (vI .i64) (lOne vPtr))).ok,de:=(rT (lCons (vI .i64) (lOne vPtr))).de }
def zgB:(GSeed×Bool)→AV×Mem:=(rT (lCons (vAgg zeK) (lOne vBool))).enc
abbrev ziY:RD:={ α:=GSeed×Bool,enc:=zgB,dec:=(rT (lCons (vAgg zeK) (lOne vBool))).dec,ok:=(rT (lCons (vAgg zeK) (lOne vBool))).ok,de:=(rT (lCons (vAgg zeK) (lOne vBool))).de }
def zgD:((List ((Int×Int)×Int))×(List ((Int×Int)×Bool)))→AV×Mem:=(rT (lCons (vMp zfi) (lOne (vMp zfE)))).enc
abbrev zi0:RD:={ α:=(List ((Int×Int)×Int))×(List ((Int×Int)×Bool)),enc:=zgD,dec:=(rT (lCons (vMp zfi) (lOne (vMp zfE)))).dec,ok:=(rT (lCons (vMp zfi) (lOne (vMp zfE)))).ok,de:=(rT (lCons (vMp zfi) (lOne (vMp zfE)))).de }
def zgC:((List zab))→AV×Mem:=(r1 (vNew 9 zac zax)).enc
abbrev zii:RD:={ α:=(List zab),enc:=zgC,dec:=(r1 (vNew 9 zac zax)).dec,ok:=(r1 (vNew 9 zac zax)).ok,de:=(r1 (vNew 9 zac zax)).de }
def ze9:((List Int)×Int)→AV×Mem:=(rT (lCons (vSl 1 zaS) (lOne (vI .i64)))).enc
abbrev zjY:RD:={ α:=(List Int)×Int,enc:=ze9,dec:=(rT (lCons (vSl 1 zaS) (lOne (vI .i64)))).dec,ok:=(rT (lCons (vSl 1 zaS) (lOne (vI .i64)))).ok,de:=(rT (lCons (vSl 1 zaS) (lOne (vI .i64)))).de }
def zhq:((Int×Int))→AV×Mem:=(r1 (vAgg zen)).enc
abbrev zf0:RD:={ α:=(Int×Int),enc:=zhq,dec:=(r1 (vAgg zen)).dec,ok:=(r1 (vAgg zen)).ok,de:=(r1 (vAgg zen)).de }
def zhM:((List Int))→AV×Mem:=(r1 (vNew 1 za7 zaS)).enc
abbrev zez:RD:={ α:=(List Int),enc:=zhM,dec:=(r1 (vNew 1 za7 zaS)).dec,ok:=(r1 (vNew 1 za7 zaS)).ok,de:=(r1 (vNew 1 za7 zaS)).de }
def zk7:(zc6×Int)→AV×Mem:=(rT (lCons (vAgg zsp) (lOne (vI .i64)))).enc
abbrev zk9:RD:={ α:=zc6×Int,enc:=zk7,dec:=(rT (lCons (vAgg zsp) (lOne (vI .i64)))).dec,ok:=(rT (lCons (vAgg zsp) (lOne (vI .i64)))).ok,de:=(rT (lCons (vAgg zsp) (lOne (vI .i64)))).de }
def zj6:(Int×Int)→AV×Mem:=(rT (lCons (vI .i64) (lOne (vI .i64)))).enc
abbrev zdR:RD:={ α:=Int×Int,enc:=zj6,dec:=(rT (lCons (vI .i64) (lOne (vI .i64)))).dec,ok:=(rT (lCons (vI .i64) (lOne (vI .i64)))).ok,de:=(rT (lCons (vI .i64) (lOne (vI .i64)))).de }
def zgV:(Bool×(List zbI))→AV×Mem:=(r1M vBool (mRow 1000 8 zaT zcd)).enc
abbrev zgW:RD:={ α:=Bool×(List zbI),enc:=zgV,dec:=(r1M vBool (mRow 1000 8 zaT zcd)).dec,ok:=(r1M vBool (mRow 1000 8 zaT zcd)).ok,de:=(r1M vBool (mRow 1000 8 zaT zcd)).de }
def ziT:(Int×(List zbI))→AV×Mem:=(r1M (vI .i64) (mRow 1000 8 zaT zcd)).enc
abbrev zi1:RD:={ α:=Int×(List zbI),enc:=ziT,dec:=(r1M (vI .i64) (mRow 1000 8 zaT zcd)).dec,ok:=(r1M (vI .i64) (mRow 1000 8 zaT zcd)).ok,de:=(r1M (vI .i64) (mRow 1000 8 zaT zcd)).de }
def zk8:((Int×Bool)×(List zbI))→AV×Mem:=(rTM (lCons (vI .i64) (lOne vBool)) (mRow 1000 8 zaT zcd)).enc
abbrev zla:RD:={ α:=(Int×Bool)×(List zbI),enc:=zk8,dec:=(rTM (lCons (vI .i64) (lOne vBool)) (mRow 1000 8 zaT zcd)).dec,ok:=(rTM (lCons (vI .i64) (lOne vBool)) (mRow 1000 8 zaT zcd)).ok,de:=(rTM (lCons (vI .i64) (lOne vBool)) (mRow 1000 8 zaT zcd)).de }
def zhs:(Bool×(List GTask))→AV×Mem:=(r1M vBool (mRow 1000 2 zbJ zdb)).enc
abbrev zhz:RD:={ α:=Bool×(List GTask),enc:=zhs,dec:=(r1M vBool (mRow 1000 2 zbJ zdb)).dec,ok:=(r1M vBool (mRow 1000 2 zbJ zdb)).ok,de:=(r1M vBool (mRow 1000 2 zbJ zdb)).de }
def zji:(Int×(List GTask))→AV×Mem:=(r1M (vI .i64) (mRow 1000 2 zbJ zdb)).enc
abbrev zjk:RD:={ α:=Int×(List GTask),enc:=zji,dec:=(r1M (vI .i64) (mRow 1000 2 zbJ zdb)).dec,ok:=(r1M (vI .i64) (mRow 1000 2 zbJ zdb)).ok,de:=(r1M (vI .i64) (mRow 1000 2 zbJ zdb)).de }
def zlA:((Int×Bool)×(List GTask))→AV×Mem:=(rTM (lCons (vI .i64) (lOne vBool)) (mRow 1000 2 zbJ zdb)).enc
abbrev zlB:RD:={ α:=(Int×Bool)×(List GTask),enc:=zlA,dec:=(rTM (lCons (vI .i64) (lOne vBool)) (mRow 1000 2 zbJ zdb)).dec,ok:=(rTM (lCons (vI .i64) (lOne vBool)) (mRow 1000 2 zbJ zdb)).ok,de:=(rTM (lCons (vI .i64) (lOne vBool)) (mRow 1000 2 zbJ zdb)).de }
def zgk:(Bool×(List zab))→AV×Mem:=(r1M vBool (mRow 1000 9 zac zax)).enc
abbrev zgm:RD:={ α:=Bool×(List zab),enc:=zgk,dec:=(r1M vBool (mRow 1000 9 zac zax)).dec,ok:=(r1M vBool (mRow 1000 9 zac zax)).ok,de:=(r1M vBool (mRow 1000 9 zac zax)).de }
def zhN:(Int×(List zab))→AV×Mem:=(r1M (vI .i64) (mRow 1000 9 zac zax)).enc
abbrev zhO:RD:={ α:=Int×(List zab),enc:=zhN,dec:=(r1M (vI .i64) (mRow 1000 9 zac zax)).dec,ok:=(r1M (vI .i64) (mRow 1000 9 zac zax)).ok,de:=(r1M (vI .i64) (mRow 1000 9 zac zax)).de }
def zjh:((Int×Bool)×(List zab))→AV×Mem:=(rTM (lCons (vI .i64) (lOne vBool)) (mRow 1000 9 zac zax)).enc
abbrev zjj:RD:={ α:=(Int×Bool)×(List zab),enc:=zjh,dec:=(rTM (lCons (vI .i64) (lOne vBool)) (mRow 1000 9 zac zax)).dec,ok:=(rTM (lCons (vI .i64) (lOne vBool)) (mRow 1000 9 zac zax)).ok,de:=(rTM (lCons (vI .i64) (lOne vBool)) (mRow 1000 9 zac zax)).de }
def zgE:((List Bool))→AV×Mem:=(r1 (vNew 1 zfL dBool)).enc
abbrev zfb:RD:={ α:=(List Bool),enc:=zgE,dec:=(r1 (vNew 1 zfL dBool)).dec,ok:=(r1 (vNew 1 zfL dBool)).ok,de:=(r1 (vNew 1 zfL dBool)).de }
def zlk:Int→AV×Mem:=(r1 (vI .u64)).enc
abbrev zed:RD:={ α:=Int,enc:=zlk,dec:=(r1 (vI .u64)).dec,ok:=(r1 (vI .u64)).ok,de:=(r1 (vI .u64)).de }
def zlO:(Int×Int)→AV×Mem:=(r1M (vI .u64) (mBox 1000 1 zcu zoJ)).enc
abbrev zeA:RD:={ α:=Int×Int,enc:=zlO,dec:=(r1M (vI .u64) (mBox 1000 1 zcu zoJ)).dec,ok:=(r1M (vI .u64) (mBox 1000 1 zcu zoJ)).ok,de:=(r1M (vI .u64) (mBox 1000 1 zcu zoJ)).de }
def ziS:(Int×Int)→AV×Mem:=(r1M (vI .i64) (mBox 1002 1 za7 zaS)).enc
abbrev zdu:RD:={ α:=Int×Int,enc:=ziS,dec:=(r1M (vI .i64) (mBox 1002 1 za7 zaS)).dec,ok:=(r1M (vI .i64) (mBox 1002 1 za7 zaS)).ok,de:=(r1M (vI .i64) (mBox 1002 1 za7 zaS)).de }
def zmp:(Int×Int)→AV×Mem:=(r1M (vI .i64) (mBox 1004 1 za7 zaS)).enc
abbrev zeF:RD:={ α:=Int×Int,enc:=zmp,dec:=(r1M (vI .i64) (mBox 1004 1 za7 zaS)).dec,ok:=(r1M (vI .i64) (mBox 1004 1 za7 zaS)).ok,de:=(r1M (vI .i64) (mBox 1004 1 za7 zaS)).de }
def zmq:((Int×Int)×Int)→AV×Mem:=(rTM (lCons (vI .i64) (lOne (vI .i64))) (mBox 1003 1 za7 zaS)).enc
abbrev zeG:RD:={ α:=(Int×Int)×Int,enc:=zmq,dec:=(rTM (lCons (vI .i64) (lOne (vI .i64))) (mBox 1003 1 za7 zaS)).dec,ok:=(rTM (lCons (vI .i64) (lOne (vI .i64))) (mBox 1003 1 za7 zaS)).ok,de:=(rTM (lCons (vI .i64) (lOne (vI .i64))) (mBox 1003 1 za7 zaS)).de }
def resTab:List RD:=[rRaw,rRaw,rRaw,zad,zad,zad,zad,zad,zad,zad,zad,zou,zh3,zeQ,zeQ,zdd,ztV,ziU,zad,zeR,zhy,zad,zad,zad,zad,zad,zaR,zad,zad,zfa,zg0,zfZ,zhw,zht,zgP,zgR,zgQ,zdt,ziW,ziV,zif,zaP,zfx,zig,zec,zbq,zaP,zfm,zih,zad,zad,zad,zaP,zd1,zad,zad,zbs,zaP,zaP,zaP,zc3,zem,zhu,zaR,zhv,zaP,zaP,zad,zad,zad,zaP,ziZ,zbb,zaP,zfa,zct,zgl,ziY,zct,zad,zbq,zaP,zi0,zii,zaP,zad,zbs,zad,zad,zad,zad,zad,zd1,zjY,zd1,zad,zad,zad,zf0,zad,zbb,zez,zeR,zad,zad,zad,zad,zk9,zct,zbq,zbq,zbq,zdR,zbq,zgW,zi1,zla,zaP,zaP,zad,zad,zad,zad,zbs,zbs,zbs,zdR,zbs,zhz,zjk,zlB,zad,zad,zad,zad,zad,zad,zad,zad,zbb,zbb,zbb,zdR,zbb,zgm,zhO,zjj,zih,zad,zad,zad,zaP,zad,zfb,zad,zbq,zed,zeA,zdu,zeF,zad,zad,zad,zbs,zdu,zeF,zaP,zad,zaP,zad,zad,zbb,zdu,zeF,zad,zeG,zeG,zaP,zeG,rRaw,rRaw,rRaw,rRaw,rRaw,rRaw,rRaw,rRaw,rRaw,rRaw,rRaw,rRaw,rRaw,rRaw,rRaw,rRaw]
def zmo:(zbz×Int)→AV×Mem:=(rT (lCons (vAgg zg5) (lOne (vI .i64)))).enc
abbrev ziX:RD:={ α:=zbz×Int,enc:=zmo,dec:=(rT (lCons (vAgg zg5) (lOne (vI .i64)))).dec,ok:=(rT (lCons (vAgg zg5) (lOne (vI .i64)))).ok,de:=(rT (lCons (vAgg zg5) (lOne (vI .i64)))).de }
def zdh:((List ((Int×Int)×za4)))→AV×Mem:=(r1 (vNewm zbr zbY)).enc
abbrev zhx:RD:={ α:=(List ((Int×Int)×za4)),enc:=zdh,dec:=(r1 (vNewm zbr zbY)).dec,ok:=(r1 (vNewm zbr zbY)).ok,de:=(r1 (vNewm zbr zbY)).de }
def zT:Dic:=Dic.of tyTab resTab [(15,ziX),(42,zfm),(71,zhx)]
abbrev zeW:Fr:=⟨Tryz.prog,zC,zA,6,Tryz.f6,[]⟩
abbrev zAT:Fr:=⟨Tryz.prog,zC,zA,9,Tryz.f9,[]⟩
abbrev zAS:Fr:=⟨Tryz.prog,zC,zA,10,Tryz.f10,[]⟩
abbrev zBZ:Fr:=⟨Tryz.prog,zC,zA,11,Tryz.f11,[]⟩
abbrev zpi:Fr:=⟨Tryz.prog,zC,zA,12,Tryz.f12,[(1000,⟨0,0,[],false⟩)]⟩
abbrev zoz:Fr:=⟨Tryz.prog,zC,zA,13,Tryz.f13,[(1000,⟨0,0,[],false⟩)]⟩
abbrev ziu:Fr:=⟨Tryz.prog,zC,zA,14,Tryz.f14,[(1000,⟨0,0,[],false⟩)]⟩
abbrev zaU:Fr:=⟨Tryz.prog,zC,zA,15,Tryz.f15,[(1001,⟨0,0,[],false⟩)]⟩
abbrev zw2:Fr:=⟨Tryz.prog,zC,zA,17,Tryz.f17,[]⟩
abbrev zp9:Fr:=⟨Tryz.prog,zC,zA,18,Tryz.f18,[]⟩
abbrev zr5:Fr:=⟨Tryz.prog,zC,zA,19,Tryz.f19,[]⟩
abbrev zoF:Fr:=⟨Tryz.prog,zC,zA,20,Tryz.f20,[]⟩
abbrev zw8:Fr:=⟨Tryz.prog,zC,zA,21,Tryz.f21,[]⟩
abbrev zuh:Fr:=⟨Tryz.prog,zC,zA,22,Tryz.f22,[]⟩
abbrev zAU:Fr:=⟨Tryz.prog,zC,zA,23,Tryz.f23,[]⟩
abbrev zpm:Fr:=⟨Tryz.prog,zC,zA,24,Tryz.f24,[]⟩
abbrev zAW:Fr:=⟨Tryz.prog,zC,zA,25,Tryz.f25,[]⟩
abbrev zw4:Fr:=⟨Tryz.prog,zC,zA,26,Tryz.f26,[(1000,⟨0,0,[],false⟩)]⟩
abbrev R_law29_at:Fr:=⟨Tryz.prog,zC,zA,29,Tryz.f29,[]⟩
abbrev zeI:Fr:=⟨Tryz.prog,zC,zA,31,Tryz.f31,[(1001,⟨0,0,[],false⟩)]⟩
abbrev zoB:Fr:=⟨Tryz.prog,zC,zA,32,Tryz.f32,[]⟩
abbrev zg1:Fr:=⟨Tryz.prog,zC,zA,33,Tryz.f33,[(1000,⟨0,0,[],false⟩)]⟩
abbrev znA:Fr:=⟨Tryz.prog,zC,zA,34,Tryz.f34,[(1000,⟨0,0,[],false⟩)]⟩
abbrev zgI:Fr:=⟨Tryz.prog,zC,zA,35,Tryz.f35,[(1000,⟨0,0,[],false⟩)]⟩
abbrev zug:Fr:=⟨Tryz.prog,zC,zA,36,Tryz.f36,[(1000,⟨0,0,[],false⟩)]⟩
abbrev zw3:Fr:=⟨Tryz.prog,zC,zA,37,Tryz.f37,[(1000,⟨0,0,[],false⟩)]⟩
abbrev zp4:Fr:=⟨Tryz.prog,zC,zA,38,Tryz.f38,[(1000,⟨0,0,[],false⟩)]⟩
abbrev zl2:Fr:=⟨Tryz.prog,zC,zA,39,Tryz.f39,[(1000,⟨0,0,[],false⟩)]⟩
abbrev zuy:Fr:=⟨Tryz.prog,zC,zA,40,Tryz.f40,[]⟩
abbrev zxY:Fr:=⟨Tryz.prog,zC,zA,41,Tryz.f41,[]⟩
abbrev zaM:Fr:=⟨Tryz.prog,zC,zA,42,Tryz.f42,[(1000,⟨0,0,[],false⟩)]⟩
abbrev zaH:Fr:=⟨Tryz.prog,zC,zA,43,Tryz.f43,[]⟩
abbrev zld:Fr:=⟨Tryz.prog,zC,zA,44,Tryz.f44,[]⟩
abbrev zj3:Fr:=⟨Tryz.prog,zC,zA,45,Tryz.f45,[(1000,⟨0,0,[],false⟩)]⟩
abbrev zro:Fr:=⟨Tryz.prog,zC,zA,46,Tryz.f46,[]⟩
abbrev zpl:Fr:=⟨Tryz.prog,zC,zA,47,Tryz.f47,[]⟩
abbrev zuC:Fr:=⟨Tryz.prog,zC,zA,48,Tryz.f48,[]⟩
abbrev zuD:Fr:=⟨Tryz.prog,zC,zA,49,Tryz.f49,[]⟩
abbrev zf9:Fr:=⟨Tryz.prog,zC,zA,50,Tryz.f50,[]⟩
abbrev zr0:Fr:=⟨Tryz.prog,zC,zA,51,Tryz.f51,[]⟩
abbrev zx4:Fr:=⟨Tryz.prog,zC,zA,52,Tryz.f52,[]⟩
abbrev zt3:Fr:=⟨Tryz.prog,zC,zA,53,Tryz.f53,[]⟩
abbrev zAX:Fr:=⟨Tryz.prog,zC,zA,54,Tryz.f54,[]⟩
abbrev zvY:Fr:=⟨Tryz.prog,zC,zA,55,Tryz.f55,[]⟩
abbrev zux:Fr:=⟨Tryz.prog,zC,zA,58,Tryz.f58,[]⟩
abbrev zvT:Fr:=⟨Tryz.prog,zC,zA,59,Tryz.f59,[]⟩
abbrev zln:Fr:=⟨Tryz.prog,zC,zA,61,Tryz.f61,[(1000,⟨0,0,[],false⟩)]⟩
abbrev zj7:Fr:=⟨Tryz.prog,zC,zA,62,Tryz.f62,[(1000,⟨0,0,[],false⟩)]⟩
abbrev zw5:Fr:=⟨Tryz.prog,zC,zA,63,Tryz.f63,[(1000,⟨0,0,[],false⟩)]⟩
abbrev zoA:Fr:=⟨Tryz.prog,zC,zA,64,Tryz.f64,[(1000,⟨0,0,[],false⟩)]⟩
abbrev zrZ:Fr:=⟨Tryz.prog,zC,zA,65,Tryz.f65,[]⟩
abbrev zmu:Fr:=⟨Tryz.prog,zC,zA,66,Tryz.f66,[]⟩
abbrev zmv:Fr:=⟨Tryz.prog,zC,zA,67,Tryz.f67,[]⟩
abbrev zlD:Fr:=⟨Tryz.prog,zC,zA,68,Tryz.f68,[]⟩
abbrev ziv:Fr:=⟨Tryz.prog,zC,zA,69,Tryz.f69,[]⟩
abbrev zx1:Fr:=⟨Tryz.prog,zC,zA,70,Tryz.f70,[]⟩
abbrev zp7:Fr:=⟨Tryz.prog,zC,zA,71,Tryz.f71,[(1000,⟨0,0,[],false⟩)]⟩
abbrev zg2:Fr:=⟨Tryz.prog,zC,zA,72,Tryz.f72,[(1000,⟨0,0,[],false⟩)]⟩
abbrev zr1:Fr:=⟨Tryz.prog,zC,zA,73,Tryz.f73,[]⟩
abbrev zx0:Fr:=⟨Tryz.prog,zC,zA,74,Tryz.f74,[]⟩
abbrev zp5:Fr:=⟨Tryz.prog,zC,zA,75,Tryz.f75,[(1000,⟨0,0,[],false⟩),(900,⟨0,0,[],false⟩),(901,⟨0,0,[],false⟩),(902,⟨0,0,[],false⟩)]⟩
abbrev zeX:Fr:=⟨Tryz.prog,zC,zA,76,Tryz.f76,[]⟩
abbrev zp6:Fr:=⟨Tryz.prog,zC,zA,77,Tryz.f77,[]⟩
abbrev znB:Fr:=⟨Tryz.prog,zC,zA,78,Tryz.f78,[(1000,⟨0,0,[],false⟩),(900,⟨0,0,[],false⟩),(901,⟨0,0,[],false⟩),(902,⟨0,0,[],false⟩)]⟩
abbrev zmV:Fr:=⟨Tryz.prog,zC,zA,79,Tryz.f79,[]⟩
abbrev zlG:Fr:=⟨Tryz.prog,zC,zA,80,Tryz.f80,[(1000,⟨0,0,[],false⟩)]⟩
abbrev zp8:Fr:=⟨Tryz.prog,zC,zA,82,Tryz.f82,[]⟩
abbrev zj8:Fr:=⟨Tryz.prog,zC,zA,83,Tryz.f83,[]⟩
abbrev zdT:Fr:=⟨Tryz.prog,zC,zA,84,Tryz.f84,[]⟩
abbrev zo2:Fr:=⟨Tryz.prog,zC,zA,85,Tryz.f85,[]⟩
abbrev zxX:Fr:=⟨Tryz.prog,zC,zA,87,Tryz.f87,[]⟩
abbrev zsS:Fr:=⟨Tryz.prog,zC,zA,88,Tryz.f88,[]⟩
abbrev zq5:Fr:=⟨Tryz.prog,zC,zA,89,Tryz.f89,[]⟩
abbrev zw6:Fr:=⟨Tryz.prog,zC,zA,90,Tryz.f90,[]⟩
abbrev zr6:Fr:=⟨Tryz.prog,zC,zA,91,Tryz.f91,[]⟩
abbrev zpj:Fr:=⟨Tryz.prog,zC,zA,92,Tryz.f92,[]⟩
abbrev zmX:Fr:=⟨Tryz.prog,zC,zA,93,Tryz.f93,[]⟩
abbrev zvV:Fr:=⟨Tryz.prog,zC,zA,94,Tryz.f94,[]⟩
abbrev zmW:Fr:=⟨Tryz.prog,zC,zA,95,Tryz.f95,[]⟩
abbrev zvW:Fr:=⟨Tryz.prog,zC,zA,96,Tryz.f96,[]⟩
abbrev zxZ:Fr:=⟨Tryz.prog,zC,zA,97,Tryz.f97,[]⟩
abbrev zuz:Fr:=⟨Tryz.prog,zC,zA,98,Tryz.f98,[]⟩
abbrev zzc:Fr:=⟨Tryz.prog,zC,zA,99,Tryz.f99,[]⟩
abbrev zj5:Fr:=⟨Tryz.prog,zC,zA,100,Tryz.f100,[(1000,⟨0,0,[],false⟩)]⟩
abbrev zbu:Fr:=⟨Tryz.prog,zC,zA,101,Tryz.f101,[]⟩
abbrev zoC:Fr:=⟨Tryz.prog,zC,zA,102,Tryz.f102,[]⟩
abbrev zvU:Fr:=⟨Tryz.prog,zC,zA,103,Tryz.f103,[]⟩
abbrev zuE:Fr:=⟨Tryz.prog,zC,zA,104,Tryz.f104,[]⟩
abbrev zlE:Fr:=⟨Tryz.prog,zC,zA,105,Tryz.f105,[]⟩
abbrev zr3:Fr:=⟨Tryz.prog,zC,zA,106,Tryz.f106,[]⟩
abbrev zr4:Fr:=⟨Tryz.prog,zC,zA,107,Tryz.f107,[]⟩
abbrev zes:Fr:=⟨Tryz.prog,zC,zA,108,Tryz.f108,[(1000,⟨0,0,[],false⟩),(900,⟨0,0,[],false⟩),(901,⟨0,0,[],false⟩),(902,⟨0,0,[],false⟩)]⟩
abbrev zi9:Fr:=⟨Tryz.prog,zC,zA,109,Tryz.f109,[(1000,⟨0,0,[],false⟩)]⟩
abbrev zlo:Fr:=⟨Tryz.prog,zC,zA,110,Tryz.f110,[(1000,⟨0,0,[],false⟩)]⟩
abbrev zi8:Fr:=⟨Tryz.prog,zC,zA,111,Tryz.f111,[(1000,⟨0,0,[],false⟩)]⟩
abbrev zj4:Fr:=⟨Tryz.prog,zC,zA,112,Tryz.f112,[]⟩
abbrev zjA:Fr:=⟨Tryz.prog,zC,zA,113,Tryz.f113,[(1000,⟨0,0,[],false⟩)]⟩
abbrev zgS:Fr:=⟨Tryz.prog,zC,zA,114,Tryz.f114,[(1000,⟨0,0,[],false⟩)]⟩
abbrev zix:Fr:=⟨Tryz.prog,zC,zA,115,Tryz.f115,[(1000,⟨0,0,[],false⟩)]⟩
abbrev zkR:Fr:=⟨Tryz.prog,zC,zA,116,Tryz.f116,[(1000,⟨0,0,[],false⟩)]⟩
abbrev zt4:Fr:=⟨Tryz.prog,zC,zA,119,Tryz.f119,[]⟩
abbrev zAV:Fr:=⟨Tryz.prog,zC,zA,120,Tryz.f120,[]⟩
abbrev zzd:Fr:=⟨Tryz.prog,zC,zA,121,Tryz.f121,[]⟩
abbrev zoE:Fr:=⟨Tryz.prog,zC,zA,122,Tryz.f122,[]⟩
abbrev zfs:Fr:=⟨Tryz.prog,zC,zA,131,Tryz.f131,[]⟩
abbrev zrn:Fr:=⟨Tryz.prog,zC,zA,132,Tryz.f132,[]⟩
abbrev zph:Fr:=⟨Tryz.prog,zC,zA,133,Tryz.f133,[]⟩
abbrev zoG:Fr:=⟨Tryz.prog,zC,zA,134,Tryz.f134,[]⟩
abbrev zx3:Fr:=⟨Tryz.prog,zC,zA,135,Tryz.f135,[]⟩
abbrev zw9:Fr:=⟨Tryz.prog,zC,zA,136,Tryz.f136,[]⟩
abbrev zAn:Fr:=⟨Tryz.prog,zC,zA,137,Tryz.f137,[]⟩
abbrev zui:Fr:=⟨Tryz.prog,zC,zA,138,Tryz.f138,[]⟩
abbrev zhT:Fr:=⟨Tryz.prog,zC,zA,139,Tryz.f139,[(1000,⟨0,0,[],false⟩)]⟩
abbrev zjz:Fr:=⟨Tryz.prog,zC,zA,140,Tryz.f140,[(1000,⟨0,0,[],false⟩)]⟩
abbrev zhS:Fr:=⟨Tryz.prog,zC,zA,141,Tryz.f141,[(1000,⟨0,0,[],false⟩)]⟩
abbrev zik:Fr:=⟨Tryz.prog,zC,zA,142,Tryz.f142,[]⟩
abbrev zh5:Fr:=⟨Tryz.prog,zC,zA,143,Tryz.f143,[(1000,⟨0,0,[],false⟩)]⟩
abbrev zge:Fr:=⟨Tryz.prog,zC,zA,144,Tryz.f144,[(1000,⟨0,0,[],false⟩)]⟩
abbrev zhC:Fr:=⟨Tryz.prog,zC,zA,145,Tryz.f145,[(1000,⟨0,0,[],false⟩)]⟩
abbrev zja:Fr:=⟨Tryz.prog,zC,zA,146,Tryz.f146,[(1000,⟨0,0,[],false⟩)]⟩
abbrev zt2:Fr:=⟨Tryz.prog,zC,zA,147,Tryz.f147,[]⟩
abbrev zw7:Fr:=⟨Tryz.prog,zC,zA,148,Tryz.f148,[]⟩
abbrev zuF:Fr:=⟨Tryz.prog,zC,zA,149,Tryz.f149,[]⟩
abbrev zuB:Fr:=⟨Tryz.prog,zC,zA,150,Tryz.f150,[]⟩
abbrev zuA:Fr:=⟨Tryz.prog,zC,zA,151,Tryz.f151,[]⟩
abbrev zx2:Fr:=⟨Tryz.prog,zC,zA,152,Tryz.f152,[]⟩
abbrev zbp:Fr:=⟨Tryz.prog,zC,zA,153,Tryz.f153,[]⟩
abbrev zpk:Fr:=⟨Tryz.prog,zC,zA,154,Tryz.f154,[]⟩
abbrev zlp:Fr:=⟨Tryz.prog,zC,zA,155,Tryz.f155,[(1000,⟨0,0,[],false⟩)]⟩
abbrev zqS:Fr:=⟨Tryz.prog,zC,zA,156,Tryz.f156,[]⟩
abbrev zrp:Fr:=⟨Tryz.prog,zC,zA,157,Tryz.f157,[(1000,⟨0,0,[],false⟩)]⟩
abbrev ziw:Fr:=⟨Tryz.prog,zC,zA,158,Tryz.f158,[(1002,⟨0,0,[],false⟩)]⟩
abbrev zl3:Fr:=⟨Tryz.prog,zC,zA,159,Tryz.f159,[(1004,⟨0,0,[],false⟩)]⟩
abbrev zAm:Fr:=⟨Tryz.prog,zC,zA,160,Tryz.f160,[]⟩
abbrev R_ref28_in:Fr:=⟨Tryz.prog,zC,zA,161,Tryz.f161,[]⟩
abbrev zvX:Fr:=⟨Tryz.prog,zC,zA,162,Tryz.f162,[]⟩
abbrev zcN:Fr:=⟨Tryz.prog,zC,zA,166,Tryz.f166,[]⟩
abbrev zw1:Fr:=⟨Tryz.prog,zC,zA,167,Tryz.f167,[]⟩
abbrev zq4:Fr:=⟨Tryz.prog,zC,zA,168,Tryz.f168,[]⟩
abbrev zpu:Fr:=⟨Tryz.prog,zC,zA,169,Tryz.f169,[]⟩
abbrev zr2:Fr:=⟨Tryz.prog,zC,zA,170,Tryz.f170,[]⟩
abbrev zjB:Fr:=⟨Tryz.prog,zC,zA,171,Tryz.f171,[(1000,⟨0,0,[],false⟩)]⟩
abbrev zhB:Fr:=⟨Tryz.prog,zC,zA,172,Tryz.f172,[(1002,⟨0,0,[],false⟩)]⟩
abbrev zj9:Fr:=⟨Tryz.prog,zC,zA,173,Tryz.f173,[(1004,⟨0,0,[],false⟩)]⟩
abbrev zsT:Fr:=⟨Tryz.prog,zC,zA,174,Tryz.f174,[]⟩
abbrev zl4:Fr:=⟨Tryz.prog,zC,zA,175,Tryz.f175,[(1003,⟨0,0,[],false⟩)]⟩
abbrev zlF:Fr:=⟨Tryz.prog,zC,zA,177,Tryz.f177,[]⟩
abbrev zka:Fr:=⟨Tryz.prog,zC,zA,178,Tryz.f178,[(1003,⟨0,0,[],false⟩)]⟩
abbrev zoD:Fr:=⟨Tryz.prog,zC,zA,71,Tryz.f71,[]⟩
abbrev cw:zbx:=callw Tryz.prog zC zA
abbrev zP:Program:=Tryz.prog
theorem ke_70 (x y:Int×Int×Int):keyEq zP 70 (.agg (zfq x)) (.agg (zfq y))=some (decide (y=x)):=by
 have h1:eqV zP 20 70 [(.int .i64 x.1:Value),(.int .i64 x.2.1:Value),(.int .i64 x.2.2:Value)] [(.int .i64 y.1:Value),(.int .i64 y.2.1:Value),(.int .i64 y.2.2:Value)]=some (x.1 == y.1 && (x.2.1 == y.2.1 && (x.2.2 == y.2.2 && true))):=by kernel_rfl
 have h2:bitsL [(.int .i64 x.1:Value),(.int .i64 x.2.1:Value),(.int .i64 x.2.2:Value)] [(.int .i64 y.1:Value),(.int .i64 y.2.1:Value),(.int .i64 y.2.2:Value)]=some (x.1 == y.1 && (x.2.1 == y.2.1 && (x.2.2 == y.2.2 && true))):=by kernel_rfl
 have h:keyEq zP 70 (.agg (zfq x)) (.agg (zfq y))=agree (eqV zP 20 70 [(.int .i64 x.1:Value),(.int .i64 x.2.1:Value),(.int .i64 x.2.2:Value)] [(.int .i64 y.1:Value),(.int .i64 y.2.1:Value),(.int .i64 y.2.2:Value)]) (bitsL [(.int .i64 x.1:Value),(.int .i64 x.2.1:Value),(.int .i64 x.2.2:Value)] [(.int .i64 y.1:Value),(.int .i64 y.2.1:Value),(.int .i64 y.2.2:Value)]):=by kernel_rfl
 rw [h,h1,h2]; have ha:∀ b:Bool,agree (some b) (some b)=some b:=fun b=>by simp [agree]
 rw [ha]; refine congrArg some ?_; by_cases e:y=x
 · rw [decide_eq_true e,e]; simp
 · rw [decide_eq_false e,zxd]; intro q; simp only [zbQ,beq_iff_eq,and_true] at q; refine e (zrb.inj ?_); show [I (y.1),I (y.2.1),I (y.2.2)]=[I (x.1),I (x.2.1),I (x.2.2)]; simp only [q]
theorem zyR {β:Type} (z:Int) (key:Int×Int×Int) (l:List ((Int×Int×Int)×Int)) (k:Int→Bool→Option β):mapD zP 70 false zaS (I z) (List.map zek l) (.agg (zfq key)) k=k ((mfind key l).getD z) (mfind key l).isSome:=
 zmi (agg:=false) (D:=zaS) (kenc:=fun x=>.agg (zfq x)) (venc:=fun x=>I x) ke_70 (show ∀ x:Int,avDec false zaS (I x)=some x from fun x=>zaS.de x) z key l k
theorem zy6 {β:Type} (key:Int×Int×Int) (v:Int) (l:List ((Int×Int×Int)×Int)) (k:List (List AV)→Option β):msetD zP 70 3 (.agg (zfq key)) (I v) (List.map zek l) k=k (List.map zek (mput key v l)):=
 zkG (kenc:=fun x=>.agg (zfq x)) (venc:=fun x=>I x) ke_70 key v l k
theorem ke_117 (x y:zat):keyEq zP 117 (.agg (zbg x)) (.agg (zbg y))=some (decide (y=x)):=by
 have h1:eqV zP 20 117 [(.int .i64 x.script:Value),(.int .i64 x.part:Value)] [(.int .i64 y.script:Value),(.int .i64 y.part:Value)]=some (x.script == y.script && (x.part == y.part && true)):=by kernel_rfl
 have h2:bitsL [(.int .i64 x.script:Value),(.int .i64 x.part:Value)] [(.int .i64 y.script:Value),(.int .i64 y.part:Value)]=some (x.script == y.script && (x.part == y.part && true)):=by kernel_rfl
 have h:keyEq zP 117 (.agg (zbg x)) (.agg (zbg y))=agree (eqV zP 20 117 [(.int .i64 x.script:Value),(.int .i64 x.part:Value)] [(.int .i64 y.script:Value),(.int .i64 y.part:Value)]) (bitsL [(.int .i64 x.script:Value),(.int .i64 x.part:Value)] [(.int .i64 y.script:Value),(.int .i64 y.part:Value)]):=by kernel_rfl
 rw [h,h1,h2]; have ha:∀ b:Bool,agree (some b) (some b)=some b:=fun b=>by simp [agree]
 rw [ha]; refine congrArg some ?_; by_cases e:y=x
 · rw [decide_eq_true e,e]; simp
 · rw [decide_eq_false e,zxd]; intro q; simp only [zbQ,beq_iff_eq,and_true] at q; refine e (zcR.inj ?_); show [I (y.script),I (y.part)]=[I (x.script),I (x.part)]; simp only [q]
theorem zhR {β:Type} (z:zaQ) (key:zat) (l:List (zat×zaQ)) (k:zaQ→Bool→Option β):mapD zP 117 true zmD (.agg (zbG z)) (List.map zao l) (.agg (zbg key)) k=k ((mfind key l).getD z) (mfind key l).isSome:=
 zmi (agg:=true) (D:=zmD) (kenc:=fun x=>.agg (zbg x)) (venc:=fun x=>.agg (zbG x)) ke_117 (show ∀ x:zaQ,avDec true zmD (.agg (zbG x))=some x from fun x=>zmD.de x) z key l k
theorem zny {β:Type} (key:zat) (v:zaQ) (l:List (zat×zaQ)) (k:List (List AV)→Option β):msetD zP 117 49 (.agg (zbg key)) (.agg (zbG v)) (List.map zao l) k=k (List.map zao (mput key v l)):=
 zkG (kenc:=fun x=>.agg (zbg x)) (venc:=fun x=>.agg (zbG x)) ke_117 key v l k
theorem zli {β:Type} (z:Int) (key:zat) (l:List (zat×Int)) (k:Int→Bool→Option β):mapD zP 117 false zaS (I z) (List.map zau l) (.agg (zbg key)) k=k ((mfind key l).getD z) (mfind key l).isSome:=
 zmi (agg:=false) (D:=zaS) (kenc:=fun x=>.agg (zbg x)) (venc:=fun x=>I x) ke_117 (show ∀ x:Int,avDec false zaS (I x)=some x from fun x=>zaS.de x) z key l k
theorem zq0 {β:Type} (key:zat) (v:Int) (l:List (zat×Int)) (k:List (List AV)→Option β):msetD zP 117 3 (.agg (zbg key)) (I v) (List.map zau l) k=k (List.map zau (mput key v l)):=
 zkG (kenc:=fun x=>.agg (zbg x)) (venc:=fun x=>I x) ke_117 key v l k
theorem zlN {β:Type} (z:zab) (key:zat) (l:List (zat×zab)) (k:zab→Bool→Option β):mapD zP 117 true zax (.agg (zaa z)) (List.map zbF l) (.agg (zbg key)) k=k ((mfind key l).getD z) (mfind key l).isSome:=
 zmi (agg:=true) (D:=zax) (kenc:=fun x=>.agg (zbg x)) (venc:=fun x=>.agg (zaa x)) ke_117 (show ∀ x:zab,avDec true zax (.agg (zaa x))=some x from fun x=>zax.de x) z key l k
theorem zlP {β:Type} (key:zat) (v:zab) (l:List (zat×zab)) (k:List (List AV)→Option β):msetD zP 117 64 (.agg (zbg key)) (.agg (zaa v)) (List.map zbF l) k=k (List.map zbF (mput key v l)):=
 zkG (kenc:=fun x=>.agg (zbg x)) (venc:=fun x=>.agg (zaa x)) ke_117 key v l k
theorem ke_151 (x y:Int×Int):keyEq zP 151 (.agg (zbM x)) (.agg (zbM y))=some (decide (y=x)):=by
 have h1:eqV zP 20 151 [(.int .i64 x.1:Value),(.int .i64 x.2:Value)] [(.int .i64 y.1:Value),(.int .i64 y.2:Value)]=some (x.1 == y.1 && (x.2 == y.2 && true)):=by kernel_rfl
 have h2:bitsL [(.int .i64 x.1:Value),(.int .i64 x.2:Value)] [(.int .i64 y.1:Value),(.int .i64 y.2:Value)]=some (x.1 == y.1 && (x.2 == y.2 && true)):=by kernel_rfl
 have h:keyEq zP 151 (.agg (zbM x)) (.agg (zbM y))=agree (eqV zP 20 151 [(.int .i64 x.1:Value),(.int .i64 x.2:Value)] [(.int .i64 y.1:Value),(.int .i64 y.2:Value)]) (bitsL [(.int .i64 x.1:Value),(.int .i64 x.2:Value)] [(.int .i64 y.1:Value),(.int .i64 y.2:Value)]):=by kernel_rfl
 rw [h,h1,h2]; have ha:∀ b:Bool,agree (some b) (some b)=some b:=fun b=>by simp [agree]
 rw [ha]; refine congrArg some ?_; by_cases e:y=x
 · rw [decide_eq_true e,e]; simp
 · rw [decide_eq_false e,zxd]; intro q; simp only [zbQ,beq_iff_eq,and_true] at q; refine e (zen.inj ?_); show [I (y.1),I (y.2)]=[I (x.1),I (x.2)]; simp only [q]
theorem zjV {β:Type} (z:za4) (key:Int×Int) (l:List ((Int×Int)×za4)) (k:za4→Bool→Option β):mapD zP 151 true zd5 (.agg (zbH z)) (List.map zby l) (.agg (zbM key)) k=k ((mfind key l).getD z) (mfind key l).isSome:=
 zmi (agg:=true) (D:=zd5) (kenc:=fun x=>.agg (zbM x)) (venc:=fun x=>.agg (zbH x)) ke_151 (show ∀ x:za4,avDec true zd5 (.agg (zbH x))=some x from fun x=>zd5.de x) z key l k
theorem zc0 {β:Type} (key:Int×Int) (v:za4) (l:List ((Int×Int)×za4)) (k:List (List AV)→Option β):msetD zP 151 153 (.agg (zbM key)) (.agg (zbH v)) (List.map zby l) k=k (List.map zby (mput key v l)):=
 zkG (kenc:=fun x=>.agg (zbM x)) (venc:=fun x=>.agg (zbH x)) ke_151 key v l k
theorem zrg {β:Type} (z:Int) (key:Int×Int) (l:List ((Int×Int)×Int)) (k:Int→Bool→Option β):mapD zP 151 false zaS (I z) (List.map zdG l) (.agg (zbM key)) k=k ((mfind key l).getD z) (mfind key l).isSome:=
 zmi (agg:=false) (D:=zaS) (kenc:=fun x=>.agg (zbM x)) (venc:=fun x=>I x) ke_151 (show ∀ x:Int,avDec false zaS (I x)=some x from fun x=>zaS.de x) z key l k
theorem zy5 {β:Type} (key:Int×Int) (v:Int) (l:List ((Int×Int)×Int)) (k:List (List AV)→Option β):msetD zP 151 3 (.agg (zbM key)) (I v) (List.map zdG l) k=k (List.map zdG (mput key v l)):=
 zkG (kenc:=fun x=>.agg (zbM x)) (venc:=fun x=>I x) ke_151 key v l k
theorem zxP {β:Type} (z:Bool) (key:Int×Int) (l:List ((Int×Int)×Bool)) (k:Bool→Bool→Option β):mapD zP 151 false dBool (B z) (List.map zdW l) (.agg (zbM key)) k=k ((mfind key l).getD z) (mfind key l).isSome:=
 zmi (agg:=false) (D:=dBool) (kenc:=fun x=>.agg (zbM x)) (venc:=fun x=>B x) ke_151 (show ∀ x:Bool,avDec false dBool (B x)=some x from fun x=>dBool.de x) z key l k
theorem zxU {β:Type} (key:Int×Int) (v:Bool) (l:List ((Int×Int)×Bool)) (k:List (List AV)→Option β):msetD zP 151 4 (.agg (zbM key)) (B v) (List.map zdW l) k=k (List.map zdW (mput key v l)):=
 zkG (kenc:=fun x=>.agg (zbM x)) (venc:=fun x=>B x) ke_151 key v l k
@[simp] theorem zam {β:Type} (v:Bool) (k:Bool→Option β):callD zad (some (zag v)) k=k v:=zbd (D:=zad) k
@[simp] theorem zyo {β:Type} (v:zae) (k:zae→Option β):callD zou (some (zrR v)) k=k v:=zbd (D:=zou) k
@[simp] theorem zsn {β:Type} (v:zay×zae) (k:(zay×zae)→Option β):callD zh3 (some (zh2 v)) k=k v:=zbd (D:=zh3) k
@[simp] theorem zlJ {β:Type} (v:((List zab))×zae) (k:(((List zab))×zae)→Option β):callD zeQ (some (zdX v)) k=k v:=zbd (D:=zeQ) k
@[simp] theorem zCW {β:Type} (v:(zbz×Int)×(List zab)) (k:((zbz×Int)×(List zab))→Option β):callD zdd (some (zoe v)) k=k v:=zbd (D:=zdd) k
@[simp] theorem ztf {β:Type} (v:(List zab)) (k:((List zab))→Option β):callD ziU (some (zml v)) k=k v:=zbd (D:=ziU) k
@[simp] theorem zg4 {β:Type} (v:zaJ×Bool) (k:(zaJ×Bool)→Option β):callD zeR (some (zgv v)) k=k v:=zbd (D:=zeR) k
@[simp] theorem zrA {β:Type} (v:(List Int)×Bool) (k:((List Int)×Bool)→Option β):callD zhy (some (zhr v)) k=k v:=zbd (D:=zhy) k
@[simp] theorem zaY {β:Type} (v:Int×zae) (k:(Int×zae)→Option β):callD zaR (some (ziQ v)) k=k v:=zbd (D:=zaR) k
@[simp] theorem zfB {β:Type} (v:zab) (k:zab→Option β):callD zfa (some (zk6 v)) k=k v:=zbd (D:=zfa) k
@[simp] theorem zlr {β:Type} (v:zay) (k:zay→Option β):callD zg0 (some (zpd v)) k=k v:=zbd (D:=zg0) k
@[simp] theorem zCj {β:Type} (v:((List GTask)×Int)×(List zab)) (k:(((List GTask)×Int)×(List zab))→Option β):callD zfZ (some (zkJ v)) k=k v:=zbd (D:=zfZ) k
@[simp] theorem zry {β:Type} (v:(List zbI)) (k:((List zbI))→Option β):callD zhw (some (zhp v)) k=k v:=zbd (D:=zhw) k
@[simp] theorem zrv {β:Type} (v:((List zaE)×(List zbl))×zae) (k:(((List zaE)×(List zbl))×zae)→Option β):callD zht (some (zfY v)) k=k v:=zbd (D:=zht) k
@[simp] theorem zqU {β:Type} (v:((List zaW))×zae) (k:(((List zaW))×zae)→Option β):callD zgP (some (zgN v)) k=k v:=zbd (D:=zgP) k
@[simp] theorem zqW {β:Type} (v:((List zaJ))×zae) (k:(((List zaJ))×zae)→Option β):callD zgR (some (zgO v)) k=k v:=zbd (D:=zgR) k
@[simp] theorem zqV {β:Type} (v:za8×zae) (k:(za8×zae)→Option β):callD zgQ (some (zjH v)) k=k v:=zbd (D:=zgQ) k
@[simp] theorem zb1 {β:Type} (v:Bool×zae) (k:(Bool×zae)→Option β):callD zdt (some (zmm v)) k=k v:=zbd (D:=zdt) k
@[simp] theorem zth {β:Type} (v:GSeed×zae) (k:(GSeed×zae)→Option β):callD ziW (some (ziR v)) k=k v:=zbd (D:=ziW) k
@[simp] theorem ztg {β:Type} (v:zab×zae) (k:(zab×zae)→Option β):callD ziV (some (zmn v)) k=k v:=zbd (D:=ziV) k
@[simp] theorem ziC {β:Type} (v:zaE) (k:zaE→Option β):callD zif (some (zni v)) k=k v:=zbd (D:=zif) k
@[simp] theorem za5 {β:Type} (v:Int) (k:Int→Option β):callD zaP (some (zbk v)) k=k v:=zbd (D:=zaP) k
@[simp] theorem zle {β:Type} (v:((List zab)×Int)×(List zab)) (k:(((List zab)×Int)×(List zab))→Option β):callD zfx (some (zdI v)) k=k v:=zbd (D:=zfx) k
@[simp] theorem zoH {β:Type} (v:List (Option zai)×List (zat×zaQ)) (k:(List (Option zai)×List (zat×zaQ))→Option β):callD zig (some (zid v)) k=k v:=zbd (D:=zig) k
@[simp] theorem zin {β:Type} (v:(List (zat×zab))) (k:((List (zat×zab)))→Option β):callD zec (some (zcL v)) k=k v:=zbd (D:=zec) k
@[simp] theorem zil {β:Type} (v:(List zbI)) (k:((List zbI))→Option β):callD zbq (some (zdQ v)) k=k v:=zbd (D:=zbq) k
@[simp] theorem zmA {β:Type} (v:(List zab)×Int) (k:((List zab)×Int)→Option β):callD zfm (some (zcJ v)) k=k v:=zbd (D:=zfm) k
@[simp] theorem zqr {β:Type} (v:zaW×Bool) (k:(zaW×Bool)→Option β):callD zih (some (zie v)) k=k v:=zbd (D:=zih) k
@[simp] theorem zls {β:Type} (v:Int×Bool) (k:(Int×Bool)→Option β):callD zd1 (some (zf7 v)) k=k v:=zbd (D:=zd1) k
@[simp] theorem zjd {β:Type} (v:(List GTask)) (k:((List GTask))→Option β):callD zbs (some (zd9 v)) k=k v:=zbd (D:=zbs) k
@[simp] theorem zjC {β:Type} (v:Nat×(List GTask)) (k:(Nat×(List GTask))→Option β):callD zc3 (some (zel v)) k=k v:=zbd (D:=zc3) k
@[simp] theorem zf3 {β:Type} (v:zaE×zae) (k:(zaE×zae)→Option β):callD zem (some (zlz v)) k=k v:=zbd (D:=zem) k
@[simp] theorem zrw {β:Type} (v:zbl×zae) (k:(zbl×zae)→Option β):callD zhu (some (zkI v)) k=k v:=zbd (D:=zhu) k
@[simp] theorem zrx {β:Type} (v:zaJ×zae) (k:(zaJ×zae)→Option β):callD zhv (some (zho v)) k=k v:=zbd (D:=zhv) k
@[simp] theorem ztk {β:Type} (v:((List ((Int×Int)×za4)))×(List zab)) (k:(((List ((Int×Int)×za4)))×(List zab))→Option β):callD ziZ (some (zdY v)) k=k v:=zbd (D:=ziZ) k
@[simp] theorem zgt {β:Type} (v:(List zab)) (k:((List zab))→Option β):callD zbb (some (zcU v)) k=k v:=zbd (D:=zbb) k
@[simp] theorem zfC {β:Type} (v:zai) (k:zai→Option β):callD zct (some (zbT v)) k=k v:=zbd (D:=zct) k
@[simp] theorem zqq {β:Type} (v:Int×(Option Addr)) (k:(Int×(Option Addr))→Option β):callD zgl (some (ze8 v)) k=k v:=zbd (D:=zgl) k
@[simp] theorem ztj {β:Type} (v:GSeed×Bool) (k:(GSeed×Bool)→Option β):callD ziY (some (zgB v)) k=k v:=zbd (D:=ziY) k
@[simp] theorem ztl {β:Type} (v:(List ((Int×Int)×Int))×(List ((Int×Int)×Bool))) (k:((List ((Int×Int)×Int))×(List ((Int×Int)×Bool)))→Option β):callD zi0 (some (zgD v)) k=k v:=zbd (D:=zi0) k
@[simp] theorem zqs {β:Type} (v:(List zab)) (k:((List zab))→Option β):callD zii (some (zgC v)) k=k v:=zbd (D:=zii) k
@[simp] theorem zCV {β:Type} (v:(List Int)×Int) (k:((List Int)×Int)→Option β):callD zjY (some (ze9 v)) k=k v:=zbd (D:=zjY) k
@[simp] theorem zlK {β:Type} (v:(Int×Int)) (k:((Int×Int))→Option β):callD zf0 (some (zhq v)) k=k v:=zbd (D:=zf0) k
@[simp] theorem zjc {β:Type} (v:(List Int)) (k:((List Int))→Option β):callD zez (some (zhM v)) k=k v:=zbd (D:=zez) k
@[simp] theorem zuY {β:Type} (v:zc6×Int) (k:(zc6×Int)→Option β):callD zk9 (some (zk7 v)) k=k v:=zbd (D:=zk9) k
@[simp] theorem znW {β:Type} (v:(List Bool)) (k:((List Bool))→Option β):callD zfb (some (zgE v)) k=k v:=zbd (D:=zfb) k
@[simp] theorem zzK {β:Type} (v:Int) (k:Int→Option β):callD zed (some (zlk v)) k=k v:=zbd (D:=zed) k
@[simp] theorem zAB {β:Type} (v:Int×Int) (k:(Int×Int)→Option β):callD zeA (some (zlO v)) k=k v:=zbd (D:=zeA) k
@[simp] theorem zti {β:Type} (v:zbz×Int) (k:(zbz×Int)→Option β):callD ziX (some (zmo v)) k=k v:=zbd (D:=ziX) k
@[simp] theorem zrz {β:Type} (v:(List ((Int×Int)×za4))) (k:((List ((Int×Int)×za4)))→Option β):callD zhx (some (zdh v)) k=k v:=zbd (D:=zhx) k
theorem ptT {y:AV×Mem} (cut:List Nat) {R:Fr} {j:Nat} {st:St} {x:Option (AV×Mem)} (h:x=some y) (hx:tGo R zT cut 100000 (decide (j≠0)) (ptS R.fn j) st=x:=by kernel_rfl):pt R j st=some y:=pt_of zT cut hx h
theorem cwT {y:AV×Mem} (R:Fr) (cut:List Nat) {args:List AV} {ms:Mem} {x:Option (AV×Mem)} (h:x=some y) (ho:R.C.orc R.f args ms=none:=by rfl) (hf:R.P.funcs[R.f]?=some R.fn:=by kernel_rfl) (he:enters R.P R.f=true:=by kernel_rfl)
  (hN:decide (R.fn.ntmps≤1000∧args.length≤R.fn.ntmps)=true:=by kernel_rfl) (hm:R.ms=Go.Ab.blank ms:=by kernel_rfl)
  (hx:tGo R zT cut 100000 false (ptK R.fn 0) { t:=argTab 0 args,m:=ms }=x:=by kernel_rfl):callw R.P R.C R.F R.f args ms=some y:=zyq R zT cut ho hf he hN hm hx h
end Go.Proofs.YtikogkgdkdmljaaGreat
end
