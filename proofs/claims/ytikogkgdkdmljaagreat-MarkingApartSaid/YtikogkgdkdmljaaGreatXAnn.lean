/- Annotations of the seat's functions: what lives behind each region, which slots own rows, which arguments are written; how results read. -/
import Derived.Test.YtikogkgdkdmljaaGreatXTy
import Derived.Test.YtikogkgdkdmljaaGreatProg
import Derived.Test.YtikogkgdkdmljaaGreatXSp
set_option linter.unusedSimpArgs false
set_option linter.unusedVariables false
noncomputable section
namespace Go.Proofs.YtikogkgdkdmljaaGreat
open Go.Ab
abbrev LL:=List (List AV)
def zC:Cfg:={ wrt:=atReg [(12,[0]),(13,[0]),(14,[0]),(15,[1]),(16,[0,1]),(26,[0]),(31,[1]),(33,[0]),(34,[0]),(35,[0]),(36,[0]),(37,[0]),(38,[0]),(39,[0]),(42,[0]),(45,[0]),(56,[0]),(60,[0]),(61,[0]),(62,[0]),(63,[0]),(64,[0]),(71,[0]),(72,[0]),(80,[0]),(86,[0]),(100,[0]),(109,[0]),(110,[0]),(111,[0]),(113,[0]),(114,[0]),(115,[0]),(116,[0]),(123,[0]),(124,[0]),(125,[0]),(127,[0]),(128,[0]),(129,[0]),(130,[0]),(139,[0]),(140,[0]),(141,[0]),(143,[0]),(144,[0]),(145,[0]),(146,[0]),(155,[0]),(157,[0]),(158,[2]),(159,[4]),(163,[0]),(164,[2]),(165,[4]),(171,[0]),(172,[2]),(173,[4]),(175,[3]),(176,[3]),(178,[3])],orc:=zOrc,dp:=fun f=>(atReg [(108,[0]),(75,[0]),(78,[0])] f).head? }
def zm5:zah→Mem:=fun x=>[(1000,⟨14,za8,[[I x.level,.row 900 10 0 (List.map zcB.enc x.marks).length,I x.period,I x.started.Time,I x.started.Source,I x.started.Seq,.map 901,.sl 1 (List.map dBool.enc x.watch.Last),B x.watch.Suspended,I x.good.Time,I x.good.Source,I x.good.Seq,B x.some,.row 902 12 0 (List.map zb9.enc x.suspensions).length]],true⟩),(900,⟨10,133,List.map zcB.enc x.marks,false⟩),(901,⟨0,108,List.map zdg.enc x.noted,false⟩),(902,⟨12,61,List.map zb9.enc x.suspensions,false⟩)]
abbrev zjJ:MD:=⟨zah,zm5,by
 intro x y h; simp only [zm5,zbm,zaH,Ent.mk.injEq,AV.v.injEq,AV.row.injEq,AV.sl.injEq,Value.int.injEq,Value.bool.injEq,Value.string.injEq,true_and,and_true,and_assoc,TyD.minj dBool,TyD.minj zdg,TyD.minj zb9,TyD.minj zcB] at h
 exact (zah.eqOf (h.1) (h.2.2.2.2.2.2.2.2.2.2.2.2.2.1) (h.2.2.1) (zaM.eqOf (h.2.2.2.1) (h.2.2.2.2.1) (h.2.2.2.2.2.1)) (h.2.2.2.2.2.2.2.2.2.2.2.2.2.2.1) (zc2.eqOf (h.2.2.2.2.2.2.1) (h.2.2.2.2.2.2.2.1)) (zaM.eqOf (h.2.2.2.2.2.2.2.2.1) (h.2.2.2.2.2.2.2.2.2.1) (h.2.2.2.2.2.2.2.2.2.2.1)) (h.2.2.2.2.2.2.2.2.2.2.2.1) (h.2.2.2.2.2.2.2.2.2.2.2.2.2.2.2))⟩
def anK (l:List Nat) (v:List (List Nat)) (o:List (Nat×List (Nat×Nat×TypeId))):Ann:={ lits:=l,live:=fun i=>v[i]?,own:=atReg o }
def zsf:Ann:={ anK [] [[0],[0,14],[2],[3],[3,4],[3,4,5],[3,4,5,6,7],[4,5,6,7,8,9],[6,7,8,9,10,11],[2]] [(5,[(5,9,64)])] with fz:=atReg [(7,[5])] }
def ztu:Ann:=anK [] [[0],[0,23],[2],[3],[3,4],[4,5],[4,5,6,7],[4,5,6,43],[2],[4,6,8],[4,6,8,47,48,49],[4,6,8,47,48,49,50],[4,6,8,9,10,47,48,49],[4,6,8,9,10,11,12,47,48,49],[4,6,8,9,10,11,12,14,47,48,49],[4,6,8,9,10,11,47,48,49,91],[2],[4,6,8,9,10,11,47,48,49,93],[4,6,8,10,11,15,47,48,49],[4,6,8,10,11,47,48,49,132],[2],[4,6,8,10,11,47,48,49,134,135,136],[4,6,8,10,11,47,48,49,134,135,136,137],[4,6,8,10,11,17,47,48,49,134,135,136],[4,6,8,10,11,47,48,49,134,135,136,164],[2],[4,6,8,10,11,47,48,49,134,135,136],[4,6,8,10,11,18,47,48,49],[4,6,8,10,11,18,47,48,49,166,167,168],[4,6,8,10,11,18,47,48,49,166,167,168,169],[4,6,8,10,11,18,20,47,48,49,166,167,168],[4,6,8,10,11,18,47,48,49,166,167,168],[4,6,8,10,11,18,47,48,49,166,167,168],[4,6,8,47,48,49,215],[2],[4,6,8,47,48,49],[2]] [(5,[(5,9,64)])]
def zse:Ann:=anK [] [[0],[0,23],[2],[3],[3,4],[4,5],[4,5,6,7],[4,5,6,44],[2],[4,5,6,46,47,48],[4,5,6,46,47,48,49],[4,5,6,9,46,47,48],[4,5,6,9,10,46,47,48],[4,5,6,9,10,46,47,48,52,53,54],[4,5,6,9,10,46,47,48,52,53,54,55],[4,5,6,9,10,12,46,47,48,52,53,54],[4,5,6,9,10,12,46,47,48,52,53,54,68],[4,5,6,9,10,46,47,48,52,53,54],[4,5,6,9,10,46,47,48,52,53,54],[4,5,6,9,13,14,46,47,48],[4,5,6,9,13,14,15,46,47,48],[4,5,6,9,13,14,15,16,46,47,48],[4,5,6,9,13,14,15,16,46,47,48,81,82,83],[4,5,6,9,13,14,15,16,46,47,48,81,82,83,84],[4,5,6,9,13,14,15,16,18,46,47,48,81,82,83],[4,5,6,9,13,14,15,16,18,46,47,48,81,82,83,91],[4,5,6,9,13,14,15,16,46,47,48,81,82,83],[4,5,6,9,13,14,15,16,46,47,48,81,82,83],[4,5,6,9,13,14,15,16,46,47,48,98,99,100],[4,5,6,9,13,14,15,16,46,47,48,98,99,100,101],[4,5,6,9,13,14,15,16,20,46,47,48,98,99,100],[4,5,6,9,13,14,15,16,20,46,47,48,98,99,100,108],[4,5,6,9,13,14,15,16,46,47,48,98,99,100],[4,5,6,9,13,14,15,16,46,47,48,98,99,100],[4,5,6,46,47,48,123],[2],[4,5,6,46,47,48],[2]] [(12,[(10,9,64)]),(17,[(10,9,64)]),(20,[(15,8,51)]),(21,[(16,12,61)]),(26,[(15,8,51)]),(32,[(16,12,61)])]
def zsg:Ann:=anK [] [[0],[0,27],[2],[3],[3,4],[4,5],[4,5,6,7],[4,5,6,7,41,42,43],[4,5,6,7,41,42,43,44],[4,5,6,7,9,41,42,43],[4,5,6,7,9,11,41,42,43],[4,5,6,7,9,41,42,43,60],[4,5,6,7,9,41,42,43],[4,5,6,7,9,41,42,43,67],[4,5,6,7,41,42,43],[4,5,6,7,41,42,43],[4,6,7,12,13],[4,7,12,13,14,15],[4,7,12,13,14,15],[4,7,12,13,14,15,16,17],[4,7,16,117],[2],[4,7,16,18],[4,16,18,119,120,121],[4,16,18,119,120,121,122],[4,16,18,20,119,120,121],[4,16,18,20,119,120,121,127],[4,16,18,119,120,121],[4,16,18,119,120,121],[16,18,145],[2],[18,147,148,149],[18,147,148,149,150],[18,22,147,148,149],[18,22,23,24,147,148,149],[18,147,148,149,172],[2],[18,147,148,149],[2]] [(6,[(6,9,64),(7,9,64)]),(12,[(6,9,64)]),(14,[(7,9,64)])]
def zqH:Ann:=anK [] [[0,1],[0,1,19],[4],[1,5],[1,5,6],[1,5,6,7],[1,5,6,7,31],[4],[5,6,7,8],[6,7,8,9],[6,7,8,9,10,11],[8,9,10,11,12,13],[8,9,10,11,12,13,14],[8,9,10,11,12,13,14,67,68,69],[8,9,10,11,12,13,14,67,68,69,70],[8,9,10,11,12,13,14,16,67,68,69],[8,9,10,11,12,13,14,16,67,68,69,88],[8,9,10,11,12,13,14,67,68,69],[8,9,10,11,12,13,14,67,68,69],[4]] [(12,[(14,8,51)]),(17,[(14,8,51)])]
def zoU:Ann:=anK [] [[0,1],[0,1,29],[4],[1,5],[1,5,6],[1,6,7],[1,6,7,8,9],[6,7,8,9,10],[6,7,8,9,10,11],[6,7,8,9,10,11,12],[6,7,8,9,10,11,12,13,14],[6,7,8,9,10,11,13,14,15,16],[6,7,8,10,11,13,113],[4],[6,7,10,11,13,17],[6,7,10,11,17,129],[4],[6,7,10,11,17,131,132,133],[6,7,10,11,17,131,132,133,134],[6,7,10,11,17,19,131,132,133],[6,7,10,11,17,19,21,131,132,133],[6,7,10,11,17,19,131,132,133,153],[6,7,10,11,17,19,22,131,132,133],[6,7,10,11,17,19,22,23,24,131,132,133],[6,7,10,11,17,19,23,24,25,26,131,132,133],[6,7,10,11,17,131,132,133,205],[4],[6,7,10,11,17,131,132,133],[4]] []
def zel:Ann:=anK [] [[0],[2]] []
def zz5:Ann:=anK [13] [[],[1],[1,2,3],[1,2,3,4,5],[1,2,3,4,5],[2,3,4,5,6,7],[0]] [(1,[(1,9,64)]),(4,[(1,9,64)])]
def zu7:Ann:={ anK [] [[0,2],[0,2,3,4],[0,2,3,5],[0,2,3,5,6],[0,2,3,5,6,26],[0,2,3,5,6],[0,2,3,5,6,30],[0,2,3,5,6],[2]] [] with cel:=fun _=>[(5,4,900,2,90)] }
def ztP:Ann:=anK [] [[0,2,4],[0,2,4,7],[0,2,4,7,8],[0,2,4,7,8,13],[0,2,4,7,8],[0,2,4,7,8,9],[0,2,4,7,8,9,22],[0,2,4,7,8],[0,2,4,7,8,9,22,31],[0,2,4,7,8],[0,2,4,7,8,9,22,50],[0,2,4,7,8,9,55],[0,2,4,7,8],[0,2,4,7,8,9,22,76],[0,2,4,7,8,80],[0,2,4,7,8],[0,2,4,7,8,9,91],[0,2,4,7,8,95],[0,2,4,7,8,10],[0,2,4,7,8,10],[0,2,4,7,8],[6]] [(1,[(7,9,64)]),(7,[(7,9,64)]),(9,[(7,9,64)]),(12,[(7,9,64)]),(15,[(7,9,64)]),(20,[(7,9,64)])]
def zwn:Ann:=anK [] [[0,2,4],[0,2,4,7],[0,2,4,7,8],[0,2,4,7,8,17],[0,2,4,7,8],[0,2,4,7,8,9],[0,2,4,7,8,9,10],[0,2,4,7,8,9,10,32],[0,2,4,7,8,9,10],[0,2,4,7,8,9,10,11],[0,2,4,7,8,9,10,11,39],[0,2,4,7,8,9,10,11],[0,2,4,7,8,9,10,11,53],[0,2,4,7,8,9,10,11,12],[0,2,4,7,8,9,10,11],[6]] [(1,[(7,9,64)]),(14,[(7,9,64)])]
def zye:Ann:={ anK [] [[1,2,4],[1,2,4,17],[4,5],[2,4,6,7],[2,4,6,7,25],[4,5],[4,8,9],[4,8,9,10],[4,9,10,34,35],[4,9,10,34,35,36],[4,9,10,11,12,34,35],[4,9,10,11,12,34,35,42],[4,9,10,11,12,34,35],[4,9,10,11,12,34,35,54],[4,9,10,11,12,34,35,54,56],[4,9,10,11,12,14,34,35,54],[4,9,10,11,12,34,35,54],[4,9,10,34,35],[4,10],[4,5]] [] with cel:=fun _=>[(10,0,301,8,51),(10,1,302,12,61)] }
def zsh:Ann:=anK [] [[0,1],[0,1,5],[0,1,5,6],[0,1,5,6,15],[0,1,5,6],[0,1,5,6,7],[0,1,5,6],[0,1,5,8],[0,1,5,8,39],[0,1,5,8],[0,1,5,8,43],[0,1,5,8],[4]] [(1,[(5,9,64)]),(11,[(5,9,64)])]
def zwm:Ann:={ anK [] [[0],[3],[2]] [] with frz:=true }
def zAc:Ann:=anK [] [[2,3],[2,3,22],[4],[2,3,5],[2,3,5,27],[2,3,5],[2,3,5,40],[4],[2,3,6],[2,3,6,45],[2,3,6],[2,3,6,58],[4],[4]] []
def zrv:Ann:=anK [] [[0,1,4],[0,1,4,6],[0,1,4,6,10],[0,1,4,6],[0,1,4,6,19],[4,5],[4,5]] []
def ztX:Ann:=anK [] [[0,1],[0,1,6],[0,1,6,10],[0,1,6],[0,1,6,19],[4,5],[4,5]] [(0,[(4,1,3)]),(5,[(4,1,3)]),(6,[(4,1,3)])]
def zpL:Ann:=anK [] [[0,1,5],[5,7,8],[6]] []
def zty:Ann:=anK [] [[3,4,5],[6]] []
def zz8:Ann:=anK [] [[2,3],[2,3,5],[4],[2,3,16],[4],[4]] []
def zve:Ann:=anK [] [[0,1],[0,1,10],[4],[0,1,5],[0,1,5,14],[0,1,5],[0,1,5,25],[4],[4]] []
def zAa:Ann:=anK [] [[2,3],[2,3,5,6],[2,3,5,33],[4],[2,3,5,7],[4]] []
def zwp:Ann:=anK [] [[0,1],[0,1,19],[4],[0,1,5],[1,5],[1,5,40],[5],[4]] []
def zth:Ann:=anK [] [[0,1],[0,1,10],[4],[0,1,12,13],[0,1,12,13,14],[0,1,5,12,13],[0,1,12,13,24],[4],[0,1,12,13],[4]] []
def zyc:Ann:=anK [] [[1,2,3],[1,11,12,13],[1,11,12,13,14],[1,8,11,12,13],[1,11,12,13,26],[6],[1,11,12,13],[6]] []
def a_law29_at:Ann:=anK [] [[0,1,2,6],[6]] []
def zzo:Ann:={ anK [12,13] [[0],[0,1],[0,1],[0,1,2],[0,1,2,18],[0,1,2],[0,1,2],[0,1],[0]] [] with cel:=fun _=>[(1,1,900,7,53)] }
def ztU:Ann:=anK [] [[1,2],[1,2,20],[4,5],[2,6,7],[2,6,7,27],[4,5],[8,9],[8,9,10],[9,10,35,36],[9,10,35,36,37],[9,10,11,12,35,36],[9,10,11,12,35,36,43],[9,10,11,12,13,35,36],[9,10,11,13,35,36,50,51,52],[9,10,11,13,35,36,50,51,52,53],[9,10,11,13,15,35,36,50,51,52],[9,10,11,13,15,17,35,36,50,51,52],[9,10,11,13,15,35,36,50,51,52,73],[9,10,11,13,35,36,50,51,52],[9,10,11,13,35,36,50,51,52],[9,10,35,36],[10],[4,5]] [(7,[(10,2,136)]),(18,[(10,2,136)])]
def ztT:Ann:=anK [] [[1,2,3],[1,2,3,7],[1,2,7,11,12,13],[1,2,7,11,12,13,14],[1,2,7,9,11,12,13],[1,2,7,9,11,12,13,26],[1,2,7,11,12,13],[1,2,7,11,12,13],[6]] [(1,[(7,8,51)]),(6,[(7,8,51)])]
def ztQ:Ann:=anK [9] [[0],[0,4],[0,4,11],[0,4],[0,4,18],[0,4],[0,4,5],[0,4,5,6],[0,4,5,6,27],[0,4,5,6],[0,4,5,6],[2,3]] [(1,[(4,3,95)]),(3,[(4,3,95)]),(5,[(4,3,95)]),(6,[(5,2,131)]),(10,[(5,2,131)])]
def ztv:Ann:=anK [] [[0],[0,3],[0,3,4],[0,3,4,5],[0,3,4,5,10],[0,3,4,5],[0,3,4,5],[0,3,4,5],[2]] [(1,[(3,5,67)]),(7,[(3,5,67)])]
def ztx:Ann:=anK [] [[0,1,2],[0,1,2,7],[0,1,2,7,8],[0,1,2,7,8,13],[0,1,2,7,8],[0,1,2,7,8,9],[0,1,2,7,8,9,10],[0,1,2,7,8,9,10,19],[0,1,2,7,8,9,10],[0,1,2,7,8,9,10,28],[0,1,2,7,8,9,10],[0,1,2,7,8,9,11],[0,1,2,7,8,9,11,43],[0,1,2,7,8,9,11],[0,1,2,7,8,9,11,48],[0,1,2,7,8,9,11],[6]] [(1,[(7,7,53)]),(5,[(9,3,95)]),(10,[(9,3,95)]),(15,[(7,7,53)])]
def ztw:Ann:=anK [] [[0,2],[0,2,3],[2]] []
def zfl:Ann:=anK [] [[0,1],[4]] []
def zwq:Ann:={ anK [] [[0,1,5,6],[0,1,5,6,7],[0,6,7,8],[0,6,7,8,9],[0,6,7,8,9,20],[0,6,7,8,9],[0,6,7,8,9],[6]] [] with cel:=fun _=>[(7,1,900,1,3)] }
def zwo:Ann:={ anK [] [[0,2,3,5,8],[0,2,3,5,8,9],[0,5,8,10],[0,5,8,10,31],[8],[0,5,8,10,11],[0,8,10,11,12],[0,8,10,11,12],[0,8,10,11],[0,8,10],[8,10,72],[8,10],[8]] [] with cel:=fun _=>[(10,8,900,1,3)] }
def zz6:Ann:=anK [] [[0,3,4],[0,3,4,5],[0,3,4,5,9],[0,3,4,5],[0,3,4,5,29],[4],[4]] []
def zxb:Ann:=anK [] [[1],[33],[2],[2]] []
def ztA:Ann:=anK [] [[0],[0,4],[0,4,10],[0,4,10,12],[0,4,6,10],[0,4,6,10,17],[0,4,10],[4,28],[2,3],[4],[4,32,33],[4,32,33,34],[4,7,32,33],[4,32,33],[4,32,33],[2,3]] [(1,[(4,9,64)]),(6,[(4,9,64)])]
def zyf:Ann:={ anK [] [[1,2],[1,2,6],[1,2,6,20,21,22],[1,2,6,20,21,22,23],[1,2,6,8,20,21,22],[1,2,6,20,21,22],[1,2,6,20,21,22],[1,2,6,9],[2,6,9,38,39,40],[2,6,9,38,39,40,41],[2,6,9,11,38,39,40],[2,6,9,11,38,39,40,45],[2,6,9,11,38,39,40,45,46],[2,6,9,11,12,38,39,40],[2,6,9,11,12,38,39,40,55],[2,6,9,38,39,40],[2,6,9,11,38,39,40,45,60],[2,6,9,38,39,40],[2,6,9,11,38,39,40,70],[2,6,9,11,13,14,38,39,40],[2,6,9,11,13,14,38,39,40,80],[2,6,9,11,13,14,15,16,38,39,40],[2,6,9,11,13,14,15,38,39,40,88],[2,6,9,38,39,40],[2,6,9,38,39,40],[2,6,9,38,39,40],[4,5]] [] with cel:=fun _=>[(33,1,301,10,133),(33,6,302,1,0),(33,7,1000,1,0),(33,13,303,12,61)] }
def zqc:Ann:=anK [] [[0,1],[0,1,5],[0,1,5,12,13,14],[0,1,5,12,13,14,15],[0,1,5,7,12,13,14],[0,1,5,7,12,13,14,32],[0,1,5,12,13,14],[0,1,5,12,13,14],[4]] []
def zdM:Ann:=anK [] [[0,1,4],[]] []
def zcj:Ann:=anK [] [[2,3],[4]] []
def zvd:Ann:={ anK [] [[0],[0,4,5],[0,4,5,6],[0,4,5,6,7],[0,4,5,6,7,20],[0,4,5,6,7],[0,4,5,6,7,8],[0,4,5,6,7,8,9,10],[0,4,5,6,7,53],[0,4,5,6,7,11],[0,4,5,6,7,11],[0,4,5,6,7],[6,68],[2,3],[2,3]] [(2,[(6,9,64)]),(11,[(6,9,64)])] with fz:=atReg [(10,[60])],cel:=fun _=>[(11,8,900,1,3)] }
def zz7:Ann:=anK [] [[2,3],[2,3,5],[2,3,5,10],[2,3,5],[2,3,5,20],[4],[4]] []
def zrt:Ann:=anK [] [[1,2,3],[4]] []
def zzr:Ann:=anK [] [[0,3],[0,3,6],[0,3,6,10],[0,3,6],[0,3,6,30],[4,5],[4,5]] []
def zAb:Ann:=anK [] [[1,2],[4]] []
def zvc:Ann:=anK [] [[2,3,4,5],[2,3,4,24],[8],[2,3,4,9],[3,9,37],[8],[8]] []
def zz4:Ann:=anK [] [[0],[0,3],[3,6,7,8],[3,6,7,8,9],[3,5,6,7,8],[3,5,6,7,8,14],[2],[3,6,7,8],[2]] []
def zu4:Ann:=anK [] [[0,1],[0,1,5],[0,1,5,6],[0,1,6,11],[12],[4],[4],[0,1,13],[4],[0,1,16],[4],[19],[4],[4]] []
def zk6:Ann:=anK [] [[0],[0,8],[2],[0,3],[0,3,13],[0,3],[0,3,25],[0,3,4],[0,3,4,5],[0,3,4,5,32],[0,3,4,5],[0,3,4,5,44],[0,3,4,5],[0,3,4,5],[0,3],[2],[2]] []
def zu6:Ann:={ anK [14] [[0,1,2,6],[0,6,7],[0,6,7,18],[0,6,7],[0,6,7,32],[6,7],[6]] [] with cel:=fun _=>[(7,2,900,6,98)] }
def ztR:Ann:=anK [] [[0,3,4],[0,3,4,5],[0,3,4,5,16],[4,5],[4]] []
def ztS:Ann:={ anK [30] [[0,2,4,6],[0,4,6,7],[0,4,6,7,8],[0,4,6,7,8,36],[0,4,6,7,8],[0,4,6,7,8,9],[0,4,6,7,8,9,45],[0,4,6,7,8,9],[0,4,6,7,8],[6]] [] with cel:=fun _=>[(7,6,900,1,3)] }
def zyd:Ann:=anK [] [[0],[0,7],[2],[0,8,9,10],[0,8,9,10,11],[0,3,4,8,9,10],[0,3,4,8,9,10,17],[2],[0,8,9,10,36],[2],[0,8,9,10],[2]] []
def zrs:Ann:=anK [] [[0],[0,7],[2],[0,8,9,10],[0,8,9,10,11],[0,3,4,8,9,10],[0,3,4,8,9,10,48],[2],[0,3,4,8,9,10,63],[2],[0,8,9,10,76],[2],[0,8,9,10],[2]] []
def zru:Ann:=anK [] [[1],[1,17],[2],[1,19,20,21],[1,19,20,21,22],[1,3,4,19,20,21],[1,19,20,21,33],[2],[1,19,20,21],[2]] []
def zqJ:Ann:=anK [] [[1],[1,10,11,12],[1,10,11,12,13],[1,4,10,11,12],[1,4,5,6,10,11,12],[1,4,5,10,11,12,23],[2],[1,8,10,11,12],[1,10,11,12,41],[2],[1,10,11,12],[2]] []
def zsm:Ann:=anK [] [[1],[1,10],[2],[1,12,13,14],[1,12,13,14,15],[1,3,4,12,13,14],[1,4,12,13,14,32],[2],[1,4,5,6,12,13,14],[1,12,13,14,52],[2],[1,12,13,14],[2]] []
def zxe:Ann:=anK [] [[1],[34],[2],[2]] []
def zwr:Ann:=anK [] [[0],[0,3],[0,3,10,11,12],[0,3,10,11,12,13],[0,3,4,5,10,11,12],[0,3,4,5,10,11,12,19],[0,3,4,5,6,10,11,12],[0,3,4,5,6,7,8,10,11,12],[0,3,4,5,6,7,10,11,12,29],[0,3,6,7,10,11,12],[0,3,6,7,10,11,12,39],[0,3,6,7,10,11,12],[0,3,10,11,12],[0,3,10,11,12],[2]] []
def zxd:Ann:=anK [] [[1,2],[1,2],[2]] []
def zpJ:Ann:={ anK [] [[0,3],[0,3,10],[0,3,4],[0,3],[0,3],[0],[0],[0],[]] [] with cel:=fun _=>[(1000,1,900,10,133),(1000,6,901,1,0),(1000,7,1000,1,0),(1000,13,902,12,61)] }
def zsj:Ann:=anK [] [[0,4,5],[4,5,7],[4,5,7,8,9],[4,5,7,8,39],[6,7],[4,5,6,7,8,9],[4,5,6,7,8,78],[6,7],[5,6,7,8,99],[6,7],[6,7,105],[6,7],[6,7]] []
def zpK:Ann:=anK [] [[1,2,4],[1,4,9,10,11],[1,4,9,10,11,12],[1,4,7,9,10,11],[1,4,7,9,10,11,18],[4,5],[1,4,9,10,11],[4,5]] []
def ztz:Ann:={ anK [] [[0,6,7,8,9],[0,6,7,8,9,10],[0,6,7,8,9,10,12],[0,6,7,8,9,10,36],[0,6,7,8,9],[0,6,7,8,9,13,14],[0,6,8,9,13,14,45,46,47],[0,6,8,9,13,14,45,46,47,48],[0,6,8,9,13,14,15,16,45,46,47],[0,6,8,9,13,14,15,45,46,47,54],[0,6,8,9,13,14,15,17,18,45,46,47],[0,6,8,9,13,14,15,17,45,46,47,68],[0,6,8,9,13,14,17,45,46,47],[0,6,8,9,13,14,45,46,47],[0,6,8,9,13,14,45,46,47],[0,6,9,19],[0,9,19,20,21],[0,9,19,20,99],[0,9,19,20],[0,9,19,104],[],[0,9,114],[]] [(5,[(13,1,3),(14,1,3)]),(12,[(13,1,3)]),(13,[(14,1,3)])] with cel:=fun _=>[(1000,1,900,10,133),(1000,6,901,1,0),(1000,7,1000,1,0),(1000,13,902,12,61)] }
def zsk:Ann:=anK [] [[0,3],[0,3,11,12,13],[0,3,11,12,13,14],[0,3,6,11,12,13],[0,3,7,8,11,12,13],[0,3,11,12,13,33],[4],[0,3,11,12,13],[4]] []
def zem:Ann:=anK [] [[0,1,2,3,4,10],[0,1,2,3,4,10,11],[0,1,2,3,4,10,11,12],[0,1,2,3,4,10,11,12,25],[],[0,1,2,3,4,10,11,12,32],[],[0,1,2,3,4,10,11,12,39],[0,1,2,3,4,10,11,12],[0,1,2,3,4,10,11,12],[0,1,2,3,4,10,11,12,13,14],[0,1,2,3,4,10,11,12,13,14,56],[0,1,2,3,4,10,11,12,13],[0,1,2,3,4,10,11,12,13],[0,1,2,3,4,10,11,12,13,14],[0,1,2,3,4,10,11,12,13,75],[0,1,2,3,4,10,11,12,13,80],[0,1,2,3,4,10,11,12,13,97],[0,2,3,4,10,11,15],[0,1,2,3,4,10,11],[0,1,2,3,4,12,16,17],[0,1,2,3,4,11,12,16],[0,1,2,3,4,11,12,16,18,19],[0,1,2,3,4,11,16,18,19,20],[0,1,2,3,4,11,16,18,19,20,125],[0,1,2,3,4,10,11,16],[0,2,3,4,10,11,16],[0,1,2,3,4,10,11],[0,1,2,3,4,10,11,16],[0,1,3,4,10,11,16],[0,1,2,3,4,10,11]] []
def a_bits_Len:Ann:=anK [] [[0],[2],[2]] []
def zws:Ann:=anK [] [[0],[0,4,5],[0,4,5,6],[0,4,5,6,15],[0,4,5,6],[0,4,5,6,23],[0,4,5,6,7],[0,4,5,6,7,8,9],[0,4,5,6,7,8,44],[0,4,5,6],[0,4,5,6,7,57],[0,4,5,6],[2,3]] []
def zz9:Ann:=anK [] [[0],[0,10],[2],[3,4],[3,4,5],[3,4,5,6,7],[3,4,5,6,7,34],[3,4,5,6,7,56],[3,4,5,6,7],[3,4,5,6,7],[3,4,5,6,7],[3,4,5,6,7],[2]] [(0,[(2,9,64)]),(2,[(2,9,64)]),(4,[(5,9,64)]),(8,[(5,9,64)]),(10,[(5,9,64)]),(12,[(2,9,64)])]
def zcE:Ann:=anK [] [[0,1],[0,1,7,8],[0,1,7,8,9],[0,1,5,7,8],[0,1,5,7,8,16],[4],[0,1,7,8],[4]] []
def zzq:Ann:=anK [] [[2,3],[2,3,5],[2,3,5,27],[4],[2,3,5,6],[2,3,5,6,30],[2,3,5,6],[2,3,5,6,46],[4],[2,3,5,6,7],[2,3,5,6,7,54],[2,3,5,6,7],[2,3,5,6,7,106],[4],[4]] []
def zsi:Ann:=anK [] [[1],[1,40],[2],[2]] []
def zxa:Ann:=anK [] [[0],[0,3],[0,3,7],[0,3],[0,3,19],[2],[2]] []
def zyi:Ann:=anK [] [[2,3],[2,3,27],[4],[3,29,30,31],[3,29,30,31,32],[3,5,6,29,30,31],[3,29,30,31,52],[4],[3,29,30,31],[4]] []
def zu9:Ann:=anK [] [[2,3],[3,9,10,11],[3,9,10,11,12],[3,6,7,9,10,11],[3,6,9,10,11,27],[4,5],[3,9,10,11],[4,5]] []
def zxf:Ann:=anK [] [[2,3,4],[2,3,4,17],[6,7],[2,3,4,23],[6,7],[2,3,4,25,26,27],[2,3,4,25,26,27,28],[2,3,4,8,9,25,26,27],[2,3,4,9,10,25,26,27],[2,3,4,25,26,27,56],[6,7],[2,3,4,25,26,27],[2,3,4,11],[2,4,11,63,64,65],[2,4,11,63,64,65,66],[2,4,11,12,13,63,64,65],[2,4,11,12,13,63,64,65,70],[2,4,11,63,64,65],[2,4,11,12,13,63,64,65,77],[2,4,11,63,64,65],[2,4,11,12,63,64,65,94],[2,4,11,63,64,65],[2,4,11,63,64,65],[6,7]] []
def zu8:Ann:=anK [] [[1,2],[2,6,7],[2,6,15],[4,5],[4,5]] []
def zsl:Ann:=anK [] [[1,2],[1,2,12],[4],[1,14,15,16],[1,14,15,16,17],[1,5,6,14,15,16],[1,14,15,16,34],[4],[1,14,15,16],[4]] []
def zxc:Ann:=anK [] [[1],[1,16],[2],[1,18],[1,18,19],[2],[1,18,23],[2],[1,60],[2],[2]] []
def ztV:Ann:=anK [] [[1,2],[2]] []
def zqK:Ann:=anK [5] [[0],[0,4],[2],[2]] [(0,[(2,1,3)]),(2,[(2,1,3)]),(3,[(2,1,3)])]
def ztY:Ann:=anK [] [[2,3,4,5],[8]] []
def zyg:Ann:=anK [] [[1,2,3],[1,2,3,29],[6],[1,2,3,7,8],[1,2,3,7,8,31,32],[1,2,3,7,8,31,32,33],[1,2,3,7,8,9,31,32],[1,2,3,7,8,10,11,31,32],[1,2,3,7,8,10,11,31,32,50],[6],[1,2,3,7,8,31,32],[1,2,3,7,8,31,32],[6]] []
def zyh:Ann:=anK [] [[2,3,4,6],[2,3,4,6,12],[6,7],[2,3,4,6,15],[6,7],[3,6,8],[3,6,8,27],[3,6,8],[6,7]] [(5,[(8,1,4)]),(7,[(8,1,4)])]
def zqI:Ann:={ anK [] [[0,1,5],[0,6],[0,6,19],[0,6],[0,6],[0,6,7],[0,6,7,46],[0,6,7],[0,6,7,65],[0,6,7]] [] with cel:=fun _=>[(1000,1,900,10,133),(1000,6,901,1,0),(1000,7,1000,1,0),(1000,13,902,12,61)] }
def zdr:Ann:=anK [] [[0,1,2,3,8],[0,1,2,3,8,14],[0,1,2,3,8],[0,1,2,3,8,9],[0,1,2,3,8,9,34],[0,1,2,3,8,9],[0,1,2,3,8,9]] []
def zd9:Ann:=anK [] [[0,1,2,3,8],[0,1,2,3,8,9],[0,3,8,9,10],[0,3,8,9,10,11],[0,3,8,9,10,11,21],[0,3,8,9,10,11],[0,3,8,9,10,11],[0,3,8,9,12],[0,3,8,9,12,33],[0,3,8,9,12],[0,3,8,9,12],[0,3,8,9,12]] []
def zdq:Ann:=anK [] [[0,1,8],[0,1,8,17],[0,1,8,9],[0,1,8,9,10],[0,1,8,9,10,11],[0,1,8,9,10,11,35],[0,1,8,9,10,11],[0,1,8,9,10,11,12],[0,1,8,9,10,11,12,45],[0,1,8,9,10,11,12],[0,1,8,9,10,11]] []
def zdN:Ann:=anK [] [[0,1,2,3],[0,1,3,10],[0,1,3,10,11],[0,1,3,10,11,12],[0,1,3,10,11,12,13],[0,3,10,11,12,13,14],[0,3,10,11,12,13,14,34],[0,3,11,12,13,14,36],[0,3,11,12,13,14],[0,3,11,12,13,14],[0,3,11,12,13,14],[11,13],[13,55],[8,9],[13,55,57],[8,9],[13,60],[8,9]] []
def zdG:Ann:=anK [] [[0,2,8],[0,8,9],[0,8,9,15],[0,8,9],[0,8,9],[0,8,9]] []
def zcK:Ann:=anK [] [[0,1,2,3],[0,1,2,3,9],[0,1,2,3,9,10],[0,1,2,3,9,10,16],[0,1,2,3,9,10],[0,1,2,3,9,10,36],[0,1,2,3,9,10],[0,1,2,3,9,10,41],[8],[0,1,2,3,9,10,45],[8],[0,1,2,3,9,10],[0,1,2,3,9,10,65],[0,1,2,3,9,10,11],[0,1,2,3,9,10,11,69],[0,1,2,3,9,10,11],[0,1,2,3,9,10,11,84],[0,1,2,3,9,10,11],[0,1,2,3,9,10,104],[0,1,2,3,9,10,12],[0,1,2,3,9,10,12,109],[0,1,2,3,9,10,12],[0,1,2,3,9,10,12,124],[0,1,2,3,9,10,12],[8]] []
def zdk:Ann:=anK [] [[0,1,2,3,4],[0,1,2,4],[0,1,4,11,12],[0,1,4,11,12,47],[0,1,4,11,12],[0,1,4,11,12,65],[0,1,4,11,12],[0,1,4,11,12,70],[0,1,4,11,12],[0,1,4,11,12],[0,1,4,11,12],[10]] []
def zdY:Ann:=anK [] [[0,1,2,3,4],[0,1,2,4],[0,1,4,12,13],[0,1,4,12,13,47],[0,1,4,12,13],[0,1,4,12,13,66],[0,1,4,12,13],[0,1,4,12,13,71],[13],[10,11],[0,1,4,12,13],[0,1,4,12,13],[0,1,4,12,13],[0,1,4,12,13,120],[0,1,4,12,13],[0,1,4,12,13,139],[0,1,4,12,13],[0,1,4,12,13,144],[0,1,4,12,13],[0,1,4,12,13],[0,1,4,12,13],[13],[10,11]] []
def zz2:Ann:=anK [] [[0,2],[0,2,4],[0],[0,2],[0,2,8],[0,2],[0,2],[2]] []
def zz3:Ann:=anK [] [[0,2],[0,2,4],[0],[0,2],[0,2,8],[0,2],[0,2],[0,2,14],[0,2],[0,2],[2]] []
def zzs:Ann:=anK [] [[1],[1,19],[2],[1,3],[1,3,24],[1,3],[1,3,33],[2],[1,35],[1,35,36],[2],[1,35,57],[2],[1,89],[2],[2]] []
def ztW:Ann:=anK [] [[1],[1,34],[2],[1,3],[1,3,4],[1,3,4,39],[1,3,4],[1,3,4,48],[2],[1,3,4],[2]] []
def zu5:Ann:=anK [] [[1],[1,22],[2],[1,32],[2],[1,34,35,36],[1,34,35,36,37],[1,4,34,35,36],[1,34,35,36,42],[2],[1,34,35,36],[2]] []
def zt0:Ann:=anK [] [[1,2],[1,2,9],[4],[1,2,13,14,15],[1,2,13,14,15,16],[1,2,5,6,13,14,15],[1,2,13,14,15,40],[4],[1,2,13,14,15],[4]] []
def zxg:Ann:=anK [] [[0],[3],[3,4],[3,4],[4],[2],[2]] []
def zwt:Ann:=anK [] [[1,2,3],[1,2,3,9],[6],[6]] []
def zti:Ann:=anK [] [[1],[2]] []
def ztB:Ann:=anK [] [[1],[1,37],[2],[2]] []
def zzp:Ann:=anK [] [[0,1,4],[1,4,8,9,10],[1,4,8,9,10,11],[1,4,7,8,9,10],[1,4,7,8,9,10,17],[4,7],[4,5],[1,4,8,9,10],[4,5]] []
def ztZ:Ann:=anK [] [[1,2],[1,2,6],[4],[1,2,9],[4],[4]] []
def zpM:Ann:=anK [5] [[0],[0,4],[2],[2]] [(0,[(2,1,4)]),(2,[(2,1,4)]),(3,[(2,1,4)])]
def zva:Ann:=anK [] [[1,2],[1,2,5],[2,5,8,9,10],[2,5,8,9,10,11],[2,5,7,8,9,10],[2,5,8,9,10,15],[2,5,8,9,10],[2,5,8,9,10],[4]] []
def zea:Ann:=anK [] [[0,2,3,4,10],[0,2,3,4,10,11],[0,2,3,4,10,11,18],[0,2,3,4,10,11,40],[0,2,3,4,10,11],[0,2,3,4,10,11,58],[0,2,3,4,11],[0,2,3,4,10]] []
def zqL:Ann:=anK [] [[0],[0],[0],[0],[2]] []
def zdj:Ann:=anK [] [[0,1,2,3],[8]] []
def zeu:Ann:=anK [] [[0,1,2,3,4,5],[0,1,2,3,4,5],[0,1,2,4,5],[2],[12]] []
def a_ref28_in:Ann:=anK [] [[0,1,2],[6]] []
def zvb:Ann:=anK [] [[1],[1,30],[2],[1,33],[2],[2]] []
def zwl:Ann:=anK [] [[1],[1,30],[2],[1,32],[1,32,33],[2],[1,43],[2],[2]] []
def zw9:Ann:=anK [] [[0],[0,3],[3,6,7,8],[3,6,7,8,9],[3,5,6,7,8],[3,6,7,8],[3,6,7,8],[2]] []
def zev:Ann:=anK [] [[0,1,2,3,4],[1,2,3,22],[1,2],[10,11],[10,11]] []
def aNone:Ann:={ lits:=[],live:=fun _=>none,own:=fun _=>[] }
def annTab:List Ann:=[aNone,aNone,aNone,zsf,ztu,zse,zsg,zqH,zoU,zel,zz5,zel,zu7,ztP,zwn,zye,zsh,zwm,zAc,zrv,ztX,zpL,zty,zz8,zve,zAa,zwp,zth,zyc,a_law29_at,zzo,ztU,ztT,ztQ,ztv,ztx,ztw,zfl,zwq,zwo,zz6,zxb,ztA,zyf,zqc,zdM,zcj,zvd,zrv,zz7,zfl,zrt,zcj,zzr,zAb,zvc,zdM,zcj,zz4,zu4,zk6,zu6,ztR,zfl,ztS,zyd,zrs,zru,zqJ,zsm,zxe,zwr,zdM,zcj,zxd,zpJ,zsj,zpK,ztz,zsk,zem,a_bits_Len,zws,zz9,zcE,zzq,zem,zel,zsi,zxa,zel,zyi,zu9,zxf,zu8,zsl,zel,zxc,ztV,zcj,zem,zqK,zpK,zpL,ztY,zth,zyg,zyh,zqI,zdr,zd9,zdq,zdN,zdG,zcK,zdk,zdY,zz2,zz3,zzs,zcj,zcj,ztW,zdr,zd9,zdq,zdN,zdG,zcK,zdk,zdY,zfl,zel,zu5,zt0,zxg,zwt,zti,ztB,zdr,zd9,zdq,zdN,zdG,zcK,zdk,zdY,zzp,zcj,ztZ,zel,zfl,zcj,zpM,zva,zea,zel,zqL,zdj,zeu,zti,a_ref28_in,zvb,zea,zdj,zeu,zcE,zwl,zw9,zfl,zel,zea,zdj,zeu,zel,zev,zev,zcE,zev,aNone,aNone,aNone,aNone,aNone,aNone,aNone,aNone,aNone,aNone,aNone,aNone,aNone,aNone,aNone,aNone]
def zA:AnnF:=fun f=>annTab.getD f aNone
def zai:Bool→AV×Mem:=(r1 vBool).enc
abbrev zad:RD:={ α:=Bool,enc:=zai,dec:=(r1 vBool).dec,ok:=(r1 vBool).ok,de:=(r1 vBool).de }
def zq7:zae→AV×Mem:=(r1 (vNewp 2 zaf zaZ)).enc
abbrev zn1:RD:={ α:=zae,enc:=zq7,dec:=(r1 (vNewp 2 zaf zaZ)).dec,ok:=(r1 (vNewp 2 zaf zaZ)).ok,de:=(r1 (vNewp 2 zaf zaZ)).de }
def zhI:(zaz×zae)→AV×Mem:=(r1M (vAgg zgL) (mBox 1000 2 zaf zaZ)).enc
abbrev zhJ:RD:={ α:=zaz×zae,enc:=zhI,dec:=(r1M (vAgg zgL) (mBox 1000 2 zaf zaZ)).dec,ok:=(r1M (vAgg zgL) (mBox 1000 2 zaf zaZ)).ok,de:=(r1M (vAgg zgL) (mBox 1000 2 zaf zaZ)).de }
def zdT:(((List zab))×zae)→AV×Mem:=(r1M (vNew 9 zac zaw) (mBox 1000 2 zaf zaZ)).enc
abbrev zeI:RD:={ α:=((List zab))×zae,enc:=zdT,dec:=(r1M (vNew 9 zac zaw) (mBox 1000 2 zaf zaZ)).dec,ok:=(r1M (vNew 9 zac zaw) (mBox 1000 2 zaf zaZ)).ok,de:=(r1M (vNew 9 zac zaw) (mBox 1000 2 zaf zaZ)).de }
def znP:((zbk×Int)×(List zab))→AV×Mem:=(rTM (lCons (vAgg zgR) (lOne (vI .i64))) (mRow 1001 9 zac zaw)).enc
abbrev zd4:RD:={ α:=(zbk×Int)×(List zab),enc:=znP,dec:=(rTM (lCons (vAgg zgR) (lOne (vI .i64))) (mRow 1001 9 zac zaw)).dec,ok:=(rTM (lCons (vAgg zgR) (lOne (vI .i64))) (mRow 1001 9 zac zaw)).ok,de:=(rTM (lCons (vAgg zgR) (lOne (vI .i64))) (mRow 1001 9 zac zaw)).de }
def zs7:(((List zab))×zae×(List zab))→AV×Mem:=(r1M (vNew 9 zac zaw) (mApp (mBox 1000 2 zaf zaZ) (mRow 1001 9 zac zaw) (fun _ _=>rfl))).enc
abbrev zs8:RD:={ α:=((List zab))×zae×(List zab),enc:=zs7,dec:=(r1M (vNew 9 zac zaw) (mApp (mBox 1000 2 zaf zaZ) (mRow 1001 9 zac zaw) (fun _ _=>rfl))).dec,ok:=(r1M (vNew 9 zac zaw) (mApp (mBox 1000 2 zaf zaZ) (mRow 1001 9 zac zaw) (fun _ _=>rfl))).ok,de:=(r1M (vNew 9 zac zaw) (mApp (mBox 1000 2 zaf zaZ) (mRow 1001 9 zac zaw) (fun _ _=>rfl))).de }
def zlW:((List zab))→AV×Mem:=(r1 (vSl 9 zaw)).enc
abbrev ziB:RD:={ α:=(List zab),enc:=zlW,dec:=(r1 (vSl 9 zaw)).dec,ok:=(r1 (vSl 9 zaw)).ok,de:=(r1 (vSl 9 zaw)).de }
def zkN:(zaR×Bool)→AV×Mem:=(rT (lCons (vAgg zb8) (lOne vBool))).enc
abbrev zft:RD:={ α:=zaR×Bool,enc:=zkN,dec:=(rT (lCons (vAgg zb8) (lOne vBool))).dec,ok:=(rT (lCons (vAgg zb8) (lOne vBool))).ok,de:=(rT (lCons (vAgg zb8) (lOne vBool))).de }
def zuD:((List Int)×Bool)→AV×Mem:=(rT (lCons (vSl 1 zaW) (lOne vBool))).enc
abbrev zuE:RD:={ α:=(List Int)×Bool,enc:=zuD,dec:=(rT (lCons (vSl 1 zaW) (lOne vBool))).dec,ok:=(rT (lCons (vSl 1 zaW) (lOne vBool))).ok,de:=(rT (lCons (vSl 1 zaW) (lOne vBool))).de }
def zix:(Int×zae)→AV×Mem:=(r1M (vI .i64) (mBox 1000 2 zaf zaZ)).enc
abbrev zaN:RD:={ α:=Int×zae,enc:=zix,dec:=(r1M (vI .i64) (mBox 1000 2 zaf zaZ)).dec,ok:=(r1M (vI .i64) (mBox 1000 2 zaf zaZ)).ok,de:=(r1M (vI .i64) (mBox 1000 2 zaf zaZ)).de }
def zkL:zab→AV×Mem:=(r1 (vAgg zaw)).enc
abbrev zeZ:RD:={ α:=zab,enc:=zkL,dec:=(r1 (vAgg zaw)).dec,ok:=(r1 (vAgg zaw)).ok,de:=(r1 (vAgg zaw)).de }
def zoE:zaz→AV×Mem:=(r1 (vAgg zgL)).enc
abbrev zgN:RD:={ α:=zaz,enc:=zoE,dec:=(r1 (vAgg zgL)).dec,ok:=(r1 (vAgg zgL)).ok,de:=(r1 (vAgg zgL)).de }
def zko:(((List GTask)×Int)×(List zab))→AV×Mem:=(rTM (lCons (vSl 2 zc8) (lOne (vI .i64))) (mRow 1001 9 zac zaw)).enc
abbrev zfN:RD:={ α:=((List GTask)×Int)×(List zab),enc:=zko,dec:=(rTM (lCons (vSl 2 zc8) (lOne (vI .i64))) (mRow 1001 9 zac zaw)).dec,ok:=(rTM (lCons (vSl 2 zc8) (lOne (vI .i64))) (mRow 1001 9 zac zaw)).ok,de:=(rTM (lCons (vSl 2 zc8) (lOne (vI .i64))) (mRow 1001 9 zac zaw)).de }
def zg7:((List zbv))→AV×Mem:=(r1 (vNew 8 zaP zca)).enc
abbrev zhd:RD:={ α:=(List zbv),enc:=zg7,dec:=(r1 (vNew 8 zaP zca)).dec,ok:=(r1 (vNew 8 zaP zca)).ok,de:=(r1 (vNew 8 zaP zca)).de }
def zfM:(((List zaG)×(List zbt))×zae)→AV×Mem:=(rTM (lCons (vSl 3 zb6) (lOne (vSl 2 zdH))) (mBox 1000 2 zaf zaZ)).enc
abbrev zha:RD:={ α:=((List zaG)×(List zbt))×zae,enc:=zfM,dec:=(rTM (lCons (vSl 3 zb6) (lOne (vSl 2 zdH))) (mBox 1000 2 zaf zaZ)).dec,ok:=(rTM (lCons (vSl 3 zb6) (lOne (vSl 2 zdH))) (mBox 1000 2 zaf zaZ)).ok,de:=(rTM (lCons (vSl 3 zb6) (lOne (vSl 2 zdH))) (mBox 1000 2 zaf zaZ)).de }
def zgA:(((List za1))×zae)→AV×Mem:=(r1M (vNew 5 zcC zcF) (mBox 1000 2 zaf zaZ)).enc
abbrev zgC:RD:={ α:=((List za1))×zae,enc:=zgA,dec:=(r1M (vNew 5 zcC zcF) (mBox 1000 2 zaf zaZ)).dec,ok:=(r1M (vNew 5 zcC zcF) (mBox 1000 2 zaf zaZ)).ok,de:=(r1M (vNew 5 zcC zcF) (mBox 1000 2 zaf zaZ)).de }
def zgB:(((List zaR))×zae)→AV×Mem:=(r1M (vNew 7 zct zb8) (mBox 1000 2 zaf zaZ)).enc
abbrev zgE:RD:={ α:=((List zaR))×zae,enc:=zgB,dec:=(r1M (vNew 7 zct zb8) (mBox 1000 2 zaf zaZ)).dec,ok:=(r1M (vNew 7 zct zb8) (mBox 1000 2 zaf zaZ)).ok,de:=(r1M (vNew 7 zct zb8) (mBox 1000 2 zaf zaZ)).de }
def zjp:(za6×zae)→AV×Mem:=(r1M (vAgg ziU) (mBox 1000 2 zaf zaZ)).enc
abbrev zgD:RD:={ α:=za6×zae,enc:=zjp,dec:=(r1M (vAgg ziU) (mBox 1000 2 zaf zaZ)).dec,ok:=(r1M (vAgg ziU) (mBox 1000 2 zaf zaZ)).ok,de:=(r1M (vAgg ziU) (mBox 1000 2 zaf zaZ)).de }
def zlX:(Bool×zae)→AV×Mem:=(r1M vBool (mBox 1000 2 zaf zaZ)).enc
abbrev zdo:RD:={ α:=Bool×zae,enc:=zlX,dec:=(r1M vBool (mBox 1000 2 zaf zaZ)).dec,ok:=(r1M vBool (mBox 1000 2 zaf zaZ)).ok,de:=(r1M vBool (mBox 1000 2 zaf zaZ)).de }
def ziy:(GSeed×zae)→AV×Mem:=(r1M (vAgg zfd) (mBox 1000 2 zaf zaZ)).enc
abbrev ziD:RD:={ α:=GSeed×zae,enc:=ziy,dec:=(r1M (vAgg zfd) (mBox 1000 2 zaf zaZ)).dec,ok:=(r1M (vAgg zfd) (mBox 1000 2 zaf zaZ)).ok,de:=(r1M (vAgg zfd) (mBox 1000 2 zaf zaZ)).de }
def zlY:(zab×zae)→AV×Mem:=(r1M (vAgg zaw) (mBox 1000 2 zaf zaZ)).enc
abbrev ziC:RD:={ α:=zab×zae,enc:=zlY,dec:=(r1M (vAgg zaw) (mBox 1000 2 zaf zaZ)).dec,ok:=(r1M (vAgg zaw) (mBox 1000 2 zaf zaZ)).ok,de:=(r1M (vAgg zaw) (mBox 1000 2 zaf zaZ)).de }
def zmT:zaG→AV×Mem:=(r1 (vAgg zb6)).enc
abbrev zhU:RD:={ α:=zaG,enc:=zmT,dec:=(r1 (vAgg zb6)).dec,ok:=(r1 (vAgg zb6)).ok,de:=(r1 (vAgg zb6)).de }
def zbh:Int→AV×Mem:=(r1 (vI .i64)).enc
abbrev zaL:RD:={ α:=Int,enc:=zbh,dec:=(r1 (vI .i64)).dec,ok:=(r1 (vI .i64)).ok,de:=(r1 (vI .i64)).de }
def zdI:(((List zab)×Int)×(List zab))→AV×Mem:=(rTM (lCons (vSl 9 zaw) (lOne (vI .i64))) (mRow 1000 9 zac zaw)).enc
abbrev zfh:RD:={ α:=((List zab)×Int)×(List zab),enc:=zdI,dec:=(rTM (lCons (vSl 9 zaw) (lOne (vI .i64))) (mRow 1000 9 zac zaw)).dec,ok:=(rTM (lCons (vSl 9 zaw) (lOne (vI .i64))) (mRow 1000 9 zac zaw)).ok,de:=(rTM (lCons (vSl 9 zaw) (lOne (vI .i64))) (mRow 1000 9 zac zaw)).de }
def zcL:((List (zay×zab)))→AV×Mem:=(r1 (vNewm zbN zcA)).enc
abbrev zd7:RD:={ α:=(List (zay×zab)),enc:=zcL,dec:=(r1 (vNewm zbN zcA)).dec,ok:=(r1 (vNewm zbN zcA)).ok,de:=(r1 (vNewm zbN zcA)).de }
def zdO:((List zbv))→AV×Mem:=(r0M (mRow 1000 8 zaP zca)).enc
abbrev zbo:RD:={ α:=(List zbv),enc:=zdO,dec:=(r0M (mRow 1000 8 zaP zca)).dec,ok:=(r0M (mRow 1000 8 zaP zca)).ok,de:=(r0M (mRow 1000 8 zaP zca)).de }
def zcJ:((List zab)×Int)→AV×Mem:=(rT (lCons (vSl 9 zaw) (lOne (vI .i64)))).enc
abbrev ze6:RD:={ α:=(List zab)×Int,enc:=zcJ,dec:=(rT (lCons (vSl 9 zaw) (lOne (vI .i64)))).dec,ok:=(rT (lCons (vSl 9 zaw) (lOne (vI .i64)))).ok,de:=(rT (lCons (vSl 9 zaw) (lOne (vI .i64)))).de }
def zmU:(za1×Bool)→AV×Mem:=(rT (lCons (vAgg zcF) (lOne vBool))).enc
abbrev zkp:RD:={ α:=za1×Bool,enc:=zmU,dec:=(rT (lCons (vAgg zcF) (lOne vBool))).dec,ok:=(rT (lCons (vAgg zcF) (lOne vBool))).ok,de:=(rT (lCons (vAgg zcF) (lOne vBool))).de }
def ziX:(Int×Bool)→AV×Mem:=(rT (lCons (vI .i64) (lOne vBool))).enc
abbrev zet:RD:={ α:=Int×Bool,enc:=ziX,dec:=(rT (lCons (vI .i64) (lOne vBool))).dec,ok:=(rT (lCons (vI .i64) (lOne vBool))).ok,de:=(rT (lCons (vI .i64) (lOne vBool))).de }
def zd3:((List GTask))→AV×Mem:=(r0M (mRow 1000 2 zbF zc8)).enc
abbrev zbr:RD:={ α:=(List GTask),enc:=zd3,dec:=(r0M (mRow 1000 2 zbF zc8)).dec,ok:=(r0M (mRow 1000 2 zbF zc8)).ok,de:=(r0M (mRow 1000 2 zbF zc8)).de }
def zec:(Nat×(List GTask))→AV×Mem:=(r1M (vRow 1000 2) (mRow 1000 2 zbF zc8)).enc
abbrev zc0:RD:={ α:=Nat×(List GTask),enc:=zec,dec:=(r1M (vRow 1000 2) (mRow 1000 2 zbF zc8)).dec,ok:=(r1M (vRow 1000 2) (mRow 1000 2 zbF zc8)).ok,de:=(r1M (vRow 1000 2) (mRow 1000 2 zbF zc8)).de }
def zld:(zaG×zae)→AV×Mem:=(r1M (vAgg zb6) (mBox 1000 2 zaf zaZ)).enc
abbrev zed:RD:={ α:=zaG×zae,enc:=zld,dec:=(r1M (vAgg zb6) (mBox 1000 2 zaf zaZ)).dec,ok:=(r1M (vAgg zb6) (mBox 1000 2 zaf zaZ)).ok,de:=(r1M (vAgg zb6) (mBox 1000 2 zaf zaZ)).de }
def zkn:(zbt×zae)→AV×Mem:=(r1M (vAgg zdH) (mBox 1000 2 zaf zaZ)).enc
abbrev zhb:RD:={ α:=zbt×zae,enc:=zkn,dec:=(r1M (vAgg zdH) (mBox 1000 2 zaf zaZ)).dec,ok:=(r1M (vAgg zdH) (mBox 1000 2 zaf zaZ)).ok,de:=(r1M (vAgg zdH) (mBox 1000 2 zaf zaZ)).de }
def zg6:(zaR×zae)→AV×Mem:=(r1M (vAgg zb8) (mBox 1000 2 zaf zaZ)).enc
abbrev zhc:RD:={ α:=zaR×zae,enc:=zg6,dec:=(r1M (vAgg zb8) (mBox 1000 2 zaf zaZ)).dec,ok:=(r1M (vAgg zb8) (mBox 1000 2 zaf zaZ)).ok,de:=(r1M (vAgg zb8) (mBox 1000 2 zaf zaZ)).de }
def zdU:(((List ((Int×Int)×za3)))×(List zab))→AV×Mem:=(r1M (vNewm zbp zbT) (mRow 1000 9 zac zaw)).enc
abbrev ziG:RD:={ α:=((List ((Int×Int)×za3)))×(List zab),enc:=zdU,dec:=(r1M (vNewm zbp zbT) (mRow 1000 9 zac zaw)).dec,ok:=(r1M (vNewm zbp zbT) (mRow 1000 9 zac zaw)).ok,de:=(r1M (vNewm zbp zbT) (mRow 1000 9 zac zaw)).de }
def zcS:((List zab))→AV×Mem:=(r0M (mRow 1000 9 zac zaw)).enc
abbrev zbb:RD:={ α:=(List zab),enc:=zcS,dec:=(r0M (mRow 1000 9 zac zaw)).dec,ok:=(r0M (mRow 1000 9 zac zaw)).ok,de:=(r0M (mRow 1000 9 zac zaw)).de }
def zbQ:zah→AV×Mem:=(r0M zjJ).enc
abbrev zcn:RD:={ α:=zah,enc:=zbQ,dec:=(r0M zjJ).dec,ok:=(r0M zjJ).ok,de:=(r0M zjJ).de }
def zeX:(Int×(Option Addr))→AV×Mem:=(rT (lCons (vI .i64) (lOne vPtr))).enc
abbrev zf7:RD:={ α:=Int×(Option Addr),enc:=zeX,dec:=(rT (lCons (vI .i64) (lOne vPtr))).dec,ok:=(rT (lCons (vI .i64) (lOne vPtr))).ok,de:=(rT (lCons (vI .i64) (lOne vPtr))).de }
def zgo:(GSeed×Bool)→AV×Mem:=(rT (lCons (vAgg zfd) (lOne vBool))).enc
abbrev ziF:RD:={ α:=GSeed×Bool,enc:=zgo,dec:=(rT (lCons (vAgg zfd) (lOne vBool))).dec,ok:=(rT (lCons (vAgg zfd) (lOne vBool))).ok,de:=(rT (lCons (vAgg zfd) (lOne vBool))).de }
def zgq:((List ((Int×Int)×Int))×(List ((Int×Int)×Bool)))→AV×Mem:=(rT (lCons (vMp ze5) (lOne (vMp zfp)))).enc
abbrev ziH:RD:={ α:=(List ((Int×Int)×Int))×(List ((Int×Int)×Bool)),enc:=zgq,dec:=(rT (lCons (vMp ze5) (lOne (vMp zfp)))).dec,ok:=(rT (lCons (vMp ze5) (lOne (vMp zfp)))).ok,de:=(rT (lCons (vMp ze5) (lOne (vMp zfp)))).de }
def zgp:((List zab))→AV×Mem:=(r1 (vNew 9 zac zaw)).enc
abbrev zhW:RD:={ α:=(List zab),enc:=zgp,dec:=(r1 (vNew 9 zac zaw)).dec,ok:=(r1 (vNew 9 zac zaw)).ok,de:=(r1 (vNew 9 zac zaw)).de }
def zeY:((List Int)×Int)→AV×Mem:=(rT (lCons (vSl 1 zaW) (lOne (vI .i64)))).enc
abbrev zjG:RD:={ α:=(List Int)×Int,enc:=zeY,dec:=(rT (lCons (vSl 1 zaW) (lOne (vI .i64)))).dec,ok:=(rT (lCons (vSl 1 zaW) (lOne (vI .i64)))).ok,de:=(rT (lCons (vSl 1 zaW) (lOne (vI .i64)))).de }
def zg8:((Int×Int))→AV×Mem:=(r1 (vAgg zee)).enc
abbrev zfO:RD:={ α:=(Int×Int),enc:=zg8,dec:=(r1 (vAgg zee)).dec,ok:=(r1 (vAgg zee)).ok,de:=(r1 (vAgg zee)).de }
def zhr:((List Int))→AV×Mem:=(r1 (vNew 1 za5 zaW)).enc
abbrev zeq:RD:={ α:=(List Int),enc:=zhr,dec:=(r1 (vNew 1 za5 zaW)).dec,ok:=(r1 (vNew 1 za5 zaW)).ok,de:=(r1 (vNew 1 za5 zaW)).de }
def zkM:(zc2×Int)→AV×Mem:=(rT (lCons (vAgg zrE) (lOne (vI .i64)))).enc
abbrev zkP:RD:={ α:=zc2×Int,enc:=zkM,dec:=(rT (lCons (vAgg zrE) (lOne (vI .i64)))).dec,ok:=(rT (lCons (vAgg zrE) (lOne (vI .i64)))).ok,de:=(rT (lCons (vAgg zrE) (lOne (vI .i64)))).de }
def zjN:(Int×Int)→AV×Mem:=(rT (lCons (vI .i64) (lOne (vI .i64)))).enc
abbrev zdP:RD:={ α:=Int×Int,enc:=zjN,dec:=(rT (lCons (vI .i64) (lOne (vI .i64)))).dec,ok:=(rT (lCons (vI .i64) (lOne (vI .i64)))).ok,de:=(rT (lCons (vI .i64) (lOne (vI .i64)))).de }
def zgI:(Bool×(List zbv))→AV×Mem:=(r1M vBool (mRow 1000 8 zaP zca)).enc
abbrev zgJ:RD:={ α:=Bool×(List zbv),enc:=zgI,dec:=(r1M vBool (mRow 1000 8 zaP zca)).dec,ok:=(r1M vBool (mRow 1000 8 zaP zca)).ok,de:=(r1M vBool (mRow 1000 8 zaP zca)).de }
def ziA:(Int×(List zbv))→AV×Mem:=(r1M (vI .i64) (mRow 1000 8 zaP zca)).enc
abbrev ziI:RD:={ α:=Int×(List zbv),enc:=ziA,dec:=(r1M (vI .i64) (mRow 1000 8 zaP zca)).dec,ok:=(r1M (vI .i64) (mRow 1000 8 zaP zca)).ok,de:=(r1M (vI .i64) (mRow 1000 8 zaP zca)).de }
def zkO:((Int×Bool)×(List zbv))→AV×Mem:=(rTM (lCons (vI .i64) (lOne vBool)) (mRow 1000 8 zaP zca)).enc
abbrev zkQ:RD:={ α:=(Int×Bool)×(List zbv),enc:=zkO,dec:=(rTM (lCons (vI .i64) (lOne vBool)) (mRow 1000 8 zaP zca)).dec,ok:=(rTM (lCons (vI .i64) (lOne vBool)) (mRow 1000 8 zaP zca)).ok,de:=(rTM (lCons (vI .i64) (lOne vBool)) (mRow 1000 8 zaP zca)).de }
def zg9:(Bool×(List GTask))→AV×Mem:=(r1M vBool (mRow 1000 2 zbF zc8)).enc
abbrev zhf:RD:={ α:=Bool×(List GTask),enc:=zg9,dec:=(r1M vBool (mRow 1000 2 zbF zc8)).dec,ok:=(r1M vBool (mRow 1000 2 zbF zc8)).ok,de:=(r1M vBool (mRow 1000 2 zbF zc8)).de }
def ziZ:(Int×(List GTask))→AV×Mem:=(r1M (vI .i64) (mRow 1000 2 zbF zc8)).enc
abbrev zi1:RD:={ α:=Int×(List GTask),enc:=ziZ,dec:=(r1M (vI .i64) (mRow 1000 2 zbF zc8)).dec,ok:=(r1M (vI .i64) (mRow 1000 2 zbF zc8)).ok,de:=(r1M (vI .i64) (mRow 1000 2 zbF zc8)).de }
def zle:((Int×Bool)×(List GTask))→AV×Mem:=(rTM (lCons (vI .i64) (lOne vBool)) (mRow 1000 2 zbF zc8)).enc
abbrev zlf:RD:={ α:=(Int×Bool)×(List GTask),enc:=zle,dec:=(rTM (lCons (vI .i64) (lOne vBool)) (mRow 1000 2 zbF zc8)).dec,ok:=(rTM (lCons (vI .i64) (lOne vBool)) (mRow 1000 2 zbF zc8)).ok,de:=(rTM (lCons (vI .i64) (lOne vBool)) (mRow 1000 2 zbF zc8)).de }
def zf6:(Bool×(List zab))→AV×Mem:=(r1M vBool (mRow 1000 9 zac zaw)).enc
abbrev zf8:RD:={ α:=Bool×(List zab),enc:=zf6,dec:=(r1M vBool (mRow 1000 9 zac zaw)).dec,ok:=(r1M vBool (mRow 1000 9 zac zaw)).ok,de:=(r1M vBool (mRow 1000 9 zac zaw)).de }
def zhs:(Int×(List zab))→AV×Mem:=(r1M (vI .i64) (mRow 1000 9 zac zaw)).enc
abbrev zht:RD:={ α:=Int×(List zab),enc:=zhs,dec:=(r1M (vI .i64) (mRow 1000 9 zac zaw)).dec,ok:=(r1M (vI .i64) (mRow 1000 9 zac zaw)).ok,de:=(r1M (vI .i64) (mRow 1000 9 zac zaw)).de }
def ziY:((Int×Bool)×(List zab))→AV×Mem:=(rTM (lCons (vI .i64) (lOne vBool)) (mRow 1000 9 zac zaw)).enc
abbrev zi0:RD:={ α:=(Int×Bool)×(List zab),enc:=ziY,dec:=(rTM (lCons (vI .i64) (lOne vBool)) (mRow 1000 9 zac zaw)).dec,ok:=(rTM (lCons (vI .i64) (lOne vBool)) (mRow 1000 9 zac zaw)).ok,de:=(rTM (lCons (vI .i64) (lOne vBool)) (mRow 1000 9 zac zaw)).de }
def zgr:((List Bool))→AV×Mem:=(r1 (vNew 1 zfw dBool)).enc
abbrev ze0:RD:={ α:=(List Bool),enc:=zgr,dec:=(r1 (vNew 1 zfw dBool)).dec,ok:=(r1 (vNew 1 zfw dBool)).ok,de:=(r1 (vNew 1 zfw dBool)).de }
def zk0:Int→AV×Mem:=(r1 (vI .u64)).enc
abbrev zd8:RD:={ α:=Int,enc:=zk0,dec:=(r1 (vI .u64)).dec,ok:=(r1 (vI .u64)).ok,de:=(r1 (vI .u64)).de }
def zlq:(Int×Int)→AV×Mem:=(r1M (vI .u64) (mBox 1000 1 zcp zoe)).enc
abbrev zer:RD:={ α:=Int×Int,enc:=zlq,dec:=(r1M (vI .u64) (mBox 1000 1 zcp zoe)).dec,ok:=(r1M (vI .u64) (mBox 1000 1 zcp zoe)).ok,de:=(r1M (vI .u64) (mBox 1000 1 zcp zoe)).de }
def ziz:(Int×Int)→AV×Mem:=(r1M (vI .i64) (mBox 1002 1 za5 zaW)).enc
abbrev zdp:RD:={ α:=Int×Int,enc:=ziz,dec:=(r1M (vI .i64) (mBox 1002 1 za5 zaW)).dec,ok:=(r1M (vI .i64) (mBox 1002 1 za5 zaW)).ok,de:=(r1M (vI .i64) (mBox 1002 1 za5 zaW)).de }
def zl0:(Int×Int)→AV×Mem:=(r1M (vI .i64) (mBox 1004 1 za5 zaW)).enc
abbrev zey:RD:={ α:=Int×Int,enc:=zl0,dec:=(r1M (vI .i64) (mBox 1004 1 za5 zaW)).dec,ok:=(r1M (vI .i64) (mBox 1004 1 za5 zaW)).ok,de:=(r1M (vI .i64) (mBox 1004 1 za5 zaW)).de }
def zl1:((Int×Int)×Int)→AV×Mem:=(rTM (lCons (vI .i64) (lOne (vI .i64))) (mBox 1003 1 za5 zaW)).enc
abbrev zez:RD:={ α:=(Int×Int)×Int,enc:=zl1,dec:=(rTM (lCons (vI .i64) (lOne (vI .i64))) (mBox 1003 1 za5 zaW)).dec,ok:=(rTM (lCons (vI .i64) (lOne (vI .i64))) (mBox 1003 1 za5 zaW)).ok,de:=(rTM (lCons (vI .i64) (lOne (vI .i64))) (mBox 1003 1 za5 zaW)).de }
def resTab:List RD:=[rRaw,rRaw,rRaw,zad,zad,zad,zad,zad,zad,zad,zad,zn1,zhJ,zeI,zeI,zd4,zs8,ziB,zad,zft,zuE,zad,zad,zad,zad,zad,zaN,zad,zad,zeZ,zgN,zfN,zhd,zha,zgC,zgE,zgD,zdo,ziD,ziC,zhU,zaL,zfh,zhV,zd7,zbo,zaL,ze6,zkp,zad,zad,zad,zaL,zet,zad,zad,zbr,zaL,zaL,zaL,zc0,zed,zhb,zaN,zhc,zaL,zaL,zad,zad,zad,zaL,ziG,zbb,zaL,zeZ,zcn,zf7,ziF,zcn,zad,zbo,zaL,ziH,zhW,zaL,zad,zbr,zad,zad,zad,zad,zad,zet,zjG,zet,zad,zad,zad,zfO,zad,zbb,zeq,zft,zad,zad,zad,zad,zkP,zcn,zbo,zbo,zbo,zdP,zbo,zgJ,ziI,zkQ,zaL,zaL,zad,zad,zad,zad,zbr,zbr,zbr,zdP,zbr,zhf,zi1,zlf,zad,zad,zad,zad,zad,zad,zad,zad,zbb,zbb,zbb,zdP,zbb,zf8,zht,zi0,zkp,zad,zad,zad,zaL,zad,ze0,zad,zbo,zd8,zer,zdp,zey,zad,zad,zad,zbr,zdp,zey,zaL,zad,zaL,zad,zad,zbb,zdp,zey,zad,zez,zez,zaL,zez,rRaw,rRaw,rRaw,rRaw,rRaw,rRaw,rRaw,rRaw,rRaw,rRaw,rRaw,rRaw,rRaw,rRaw,rRaw,rRaw]
def zlZ:(zbk×Int)→AV×Mem:=(rT (lCons (vAgg zgR) (lOne (vI .i64)))).enc
abbrev ziE:RD:={ α:=zbk×Int,enc:=zlZ,dec:=(rT (lCons (vAgg zgR) (lOne (vI .i64)))).dec,ok:=(rT (lCons (vAgg zgR) (lOne (vI .i64)))).ok,de:=(rT (lCons (vAgg zgR) (lOne (vI .i64)))).de }
def zdd:((List ((Int×Int)×za3)))→AV×Mem:=(r1 (vNewm zbp zbT)).enc
abbrev zhe:RD:={ α:=(List ((Int×Int)×za3)),enc:=zdd,dec:=(r1 (vNewm zbp zbT)).dec,ok:=(r1 (vNewm zbp zbT)).ok,de:=(r1 (vNewm zbp zbT)).de }
def zT:Dic:=Dic.of tyTab resTab [(15,ziE),(42,ze6),(71,zhe)]
abbrev zdX:Fr:=⟨Tryz.prog,zC,zA,5,Tryz.f5,[]⟩
abbrev zzO:Fr:=⟨Tryz.prog,zC,zA,9,Tryz.f9,[]⟩
abbrev zzN:Fr:=⟨Tryz.prog,zC,zA,10,Tryz.f10,[]⟩
abbrev zAM:Fr:=⟨Tryz.prog,zC,zA,11,Tryz.f11,[]⟩
abbrev zoI:Fr:=⟨Tryz.prog,zC,zA,12,Tryz.f12,[(1000,⟨0,0,[],false⟩)]⟩
abbrev zn6:Fr:=⟨Tryz.prog,zC,zA,13,Tryz.f13,[(1000,⟨0,0,[],false⟩)]⟩
abbrev zh8:Fr:=⟨Tryz.prog,zC,zA,14,Tryz.f14,[(1000,⟨0,0,[],false⟩)]⟩
abbrev zaS:Fr:=⟨Tryz.prog,zC,zA,15,Tryz.f15,[(1001,⟨0,0,[],false⟩)]⟩
abbrev zv9:Fr:=⟨Tryz.prog,zC,zA,17,Tryz.f17,[]⟩
abbrev zpx:Fr:=⟨Tryz.prog,zC,zA,18,Tryz.f18,[]⟩
abbrev zts:Fr:=⟨Tryz.prog,zC,zA,22,Tryz.f22,[]⟩
abbrev zzP:Fr:=⟨Tryz.prog,zC,zA,23,Tryz.f23,[]⟩
abbrev zoM:Fr:=⟨Tryz.prog,zC,zA,24,Tryz.f24,[]⟩
abbrev zwb:Fr:=⟨Tryz.prog,zC,zA,26,Tryz.f26,[(1000,⟨0,0,[],false⟩)]⟩
abbrev R_law29_at:Fr:=⟨Tryz.prog,zC,zA,29,Tryz.f29,[]⟩
abbrev zeA:Fr:=⟨Tryz.prog,zC,zA,31,Tryz.f31,[(1001,⟨0,0,[],false⟩)]⟩
abbrev zn8:Fr:=⟨Tryz.prog,zC,zA,32,Tryz.f32,[]⟩
abbrev zgO:Fr:=⟨Tryz.prog,zC,zA,33,Tryz.f33,[(1000,⟨0,0,[],false⟩)]⟩
abbrev zm9:Fr:=⟨Tryz.prog,zC,zA,34,Tryz.f34,[(1000,⟨0,0,[],false⟩)]⟩
abbrev zgv:Fr:=⟨Tryz.prog,zC,zA,35,Tryz.f35,[(1000,⟨0,0,[],false⟩)]⟩
abbrev ztr:Fr:=⟨Tryz.prog,zC,zA,36,Tryz.f36,[(1000,⟨0,0,[],false⟩)]⟩
abbrev zwa:Fr:=⟨Tryz.prog,zC,zA,37,Tryz.f37,[(1000,⟨0,0,[],false⟩)]⟩
abbrev zps:Fr:=⟨Tryz.prog,zC,zA,38,Tryz.f38,[(1000,⟨0,0,[],false⟩)]⟩
abbrev zlG:Fr:=⟨Tryz.prog,zC,zA,39,Tryz.f39,[(1000,⟨0,0,[],false⟩)]⟩
abbrev ztJ:Fr:=⟨Tryz.prog,zC,zA,40,Tryz.f40,[]⟩
abbrev zw0:Fr:=⟨Tryz.prog,zC,zA,41,Tryz.f41,[]⟩
abbrev zaI:Fr:=⟨Tryz.prog,zC,zA,42,Tryz.f42,[(1000,⟨0,0,[],false⟩)]⟩
abbrev zaE:Fr:=⟨Tryz.prog,zC,zA,43,Tryz.f43,[]⟩
abbrev zkT:Fr:=⟨Tryz.prog,zC,zA,44,Tryz.f44,[]⟩
abbrev zjK:Fr:=⟨Tryz.prog,zC,zA,45,Tryz.f45,[(1000,⟨0,0,[],false⟩)]⟩
abbrev zqF:Fr:=⟨Tryz.prog,zC,zA,46,Tryz.f46,[]⟩
abbrev zoL:Fr:=⟨Tryz.prog,zC,zA,47,Tryz.f47,[]⟩
abbrev zfY:Fr:=⟨Tryz.prog,zC,zA,50,Tryz.f50,[]⟩
abbrev zrg:Fr:=⟨Tryz.prog,zC,zA,51,Tryz.f51,[]⟩
abbrev zw6:Fr:=⟨Tryz.prog,zC,zA,52,Tryz.f52,[]⟩
abbrev ztI:Fr:=⟨Tryz.prog,zC,zA,58,Tryz.f58,[]⟩
abbrev zuZ:Fr:=⟨Tryz.prog,zC,zA,59,Tryz.f59,[]⟩
abbrev zk3:Fr:=⟨Tryz.prog,zC,zA,61,Tryz.f61,[(1000,⟨0,0,[],false⟩)]⟩
abbrev zjO:Fr:=⟨Tryz.prog,zC,zA,62,Tryz.f62,[(1000,⟨0,0,[],false⟩)]⟩
abbrev zwc:Fr:=⟨Tryz.prog,zC,zA,63,Tryz.f63,[(1000,⟨0,0,[],false⟩)]⟩
abbrev zn7:Fr:=⟨Tryz.prog,zC,zA,64,Tryz.f64,[(1000,⟨0,0,[],false⟩)]⟩
abbrev zrf:Fr:=⟨Tryz.prog,zC,zA,65,Tryz.f65,[]⟩
abbrev zl4:Fr:=⟨Tryz.prog,zC,zA,66,Tryz.f66,[]⟩
abbrev zl5:Fr:=⟨Tryz.prog,zC,zA,67,Tryz.f67,[]⟩
abbrev zlh:Fr:=⟨Tryz.prog,zC,zA,68,Tryz.f68,[]⟩
abbrev zh9:Fr:=⟨Tryz.prog,zC,zA,69,Tryz.f69,[]⟩
abbrev zw3:Fr:=⟨Tryz.prog,zC,zA,70,Tryz.f70,[]⟩
abbrev zpv:Fr:=⟨Tryz.prog,zC,zA,71,Tryz.f71,[(1000,⟨0,0,[],false⟩)]⟩
abbrev zgP:Fr:=⟨Tryz.prog,zC,zA,72,Tryz.f72,[(1000,⟨0,0,[],false⟩)]⟩
abbrev zrh:Fr:=⟨Tryz.prog,zC,zA,73,Tryz.f73,[]⟩
abbrev zw2:Fr:=⟨Tryz.prog,zC,zA,74,Tryz.f74,[]⟩
abbrev zpt:Fr:=⟨Tryz.prog,zC,zA,75,Tryz.f75,[(1000,⟨0,0,[],false⟩),(900,⟨0,0,[],false⟩),(901,⟨0,0,[],false⟩),(902,⟨0,0,[],false⟩)]⟩
abbrev zeN:Fr:=⟨Tryz.prog,zC,zA,76,Tryz.f76,[]⟩
abbrev zpu:Fr:=⟨Tryz.prog,zC,zA,77,Tryz.f77,[]⟩
abbrev zna:Fr:=⟨Tryz.prog,zC,zA,78,Tryz.f78,[(1000,⟨0,0,[],false⟩),(900,⟨0,0,[],false⟩),(901,⟨0,0,[],false⟩),(902,⟨0,0,[],false⟩)]⟩
abbrev zmv:Fr:=⟨Tryz.prog,zC,zA,79,Tryz.f79,[]⟩
abbrev zlk:Fr:=⟨Tryz.prog,zC,zA,80,Tryz.f80,[(1000,⟨0,0,[],false⟩)]⟩
abbrev zpw:Fr:=⟨Tryz.prog,zC,zA,82,Tryz.f82,[]⟩
abbrev zjP:Fr:=⟨Tryz.prog,zC,zA,83,Tryz.f83,[]⟩
abbrev zdQ:Fr:=⟨Tryz.prog,zC,zA,84,Tryz.f84,[]⟩
abbrev zwZ:Fr:=⟨Tryz.prog,zC,zA,87,Tryz.f87,[]⟩
abbrev zr6:Fr:=⟨Tryz.prog,zC,zA,88,Tryz.f88,[]⟩
abbrev zqo:Fr:=⟨Tryz.prog,zC,zA,89,Tryz.f89,[]⟩
abbrev zwd:Fr:=⟨Tryz.prog,zC,zA,90,Tryz.f90,[]⟩
abbrev zrl:Fr:=⟨Tryz.prog,zC,zA,91,Tryz.f91,[]⟩
abbrev zoJ:Fr:=⟨Tryz.prog,zC,zA,92,Tryz.f92,[]⟩
abbrev zmx:Fr:=⟨Tryz.prog,zC,zA,93,Tryz.f93,[]⟩
abbrev zu1:Fr:=⟨Tryz.prog,zC,zA,94,Tryz.f94,[]⟩
abbrev zmw:Fr:=⟨Tryz.prog,zC,zA,95,Tryz.f95,[]⟩
abbrev zu2:Fr:=⟨Tryz.prog,zC,zA,96,Tryz.f96,[]⟩
abbrev zw1:Fr:=⟨Tryz.prog,zC,zA,97,Tryz.f97,[]⟩
abbrev ztK:Fr:=⟨Tryz.prog,zC,zA,98,Tryz.f98,[]⟩
abbrev zya:Fr:=⟨Tryz.prog,zC,zA,99,Tryz.f99,[]⟩
abbrev zjM:Fr:=⟨Tryz.prog,zC,zA,100,Tryz.f100,[(1000,⟨0,0,[],false⟩)]⟩
abbrev zbs:Fr:=⟨Tryz.prog,zC,zA,101,Tryz.f101,[]⟩
abbrev zn9:Fr:=⟨Tryz.prog,zC,zA,102,Tryz.f102,[]⟩
abbrev zu0:Fr:=⟨Tryz.prog,zC,zA,103,Tryz.f103,[]⟩
abbrev ztN:Fr:=⟨Tryz.prog,zC,zA,104,Tryz.f104,[]⟩
abbrev zli:Fr:=⟨Tryz.prog,zC,zA,105,Tryz.f105,[]⟩
abbrev zrj:Fr:=⟨Tryz.prog,zC,zA,106,Tryz.f106,[]⟩
abbrev zrk:Fr:=⟨Tryz.prog,zC,zA,107,Tryz.f107,[]⟩
abbrev zek:Fr:=⟨Tryz.prog,zC,zA,108,Tryz.f108,[(1000,⟨0,0,[],false⟩),(900,⟨0,0,[],false⟩),(901,⟨0,0,[],false⟩),(902,⟨0,0,[],false⟩)]⟩
abbrev ziP:Fr:=⟨Tryz.prog,zC,zA,109,Tryz.f109,[(1000,⟨0,0,[],false⟩)]⟩
abbrev zk4:Fr:=⟨Tryz.prog,zC,zA,110,Tryz.f110,[(1000,⟨0,0,[],false⟩)]⟩
abbrev ziO:Fr:=⟨Tryz.prog,zC,zA,111,Tryz.f111,[(1000,⟨0,0,[],false⟩)]⟩
abbrev zjL:Fr:=⟨Tryz.prog,zC,zA,112,Tryz.f112,[]⟩
abbrev zji:Fr:=⟨Tryz.prog,zC,zA,113,Tryz.f113,[(1000,⟨0,0,[],false⟩)]⟩
abbrev zgF:Fr:=⟨Tryz.prog,zC,zA,114,Tryz.f114,[(1000,⟨0,0,[],false⟩)]⟩
abbrev zib:Fr:=⟨Tryz.prog,zC,zA,115,Tryz.f115,[(1000,⟨0,0,[],false⟩)]⟩
abbrev zkx:Fr:=⟨Tryz.prog,zC,zA,116,Tryz.f116,[(1000,⟨0,0,[],false⟩)]⟩
abbrev ztg:Fr:=⟨Tryz.prog,zC,zA,119,Tryz.f119,[]⟩
abbrev zzQ:Fr:=⟨Tryz.prog,zC,zA,120,Tryz.f120,[]⟩
abbrev zyb:Fr:=⟨Tryz.prog,zC,zA,121,Tryz.f121,[]⟩
abbrev zfb:Fr:=⟨Tryz.prog,zC,zA,131,Tryz.f131,[]⟩
abbrev zqE:Fr:=⟨Tryz.prog,zC,zA,132,Tryz.f132,[]⟩
abbrev zoH:Fr:=⟨Tryz.prog,zC,zA,133,Tryz.f133,[]⟩
abbrev zob:Fr:=⟨Tryz.prog,zC,zA,134,Tryz.f134,[]⟩
abbrev zw5:Fr:=⟨Tryz.prog,zC,zA,135,Tryz.f135,[]⟩
abbrev zwf:Fr:=⟨Tryz.prog,zC,zA,136,Tryz.f136,[]⟩
abbrev zzm:Fr:=⟨Tryz.prog,zC,zA,137,Tryz.f137,[]⟩
abbrev ztt:Fr:=⟨Tryz.prog,zC,zA,138,Tryz.f138,[]⟩
abbrev zhz:Fr:=⟨Tryz.prog,zC,zA,139,Tryz.f139,[(1000,⟨0,0,[],false⟩)]⟩
abbrev zjh:Fr:=⟨Tryz.prog,zC,zA,140,Tryz.f140,[(1000,⟨0,0,[],false⟩)]⟩
abbrev zhy:Fr:=⟨Tryz.prog,zC,zA,141,Tryz.f141,[(1000,⟨0,0,[],false⟩)]⟩
abbrev zhY:Fr:=⟨Tryz.prog,zC,zA,142,Tryz.f142,[]⟩
abbrev zhL:Fr:=⟨Tryz.prog,zC,zA,143,Tryz.f143,[(1000,⟨0,0,[],false⟩)]⟩
abbrev zf2:Fr:=⟨Tryz.prog,zC,zA,144,Tryz.f144,[(1000,⟨0,0,[],false⟩)]⟩
abbrev zhi:Fr:=⟨Tryz.prog,zC,zA,145,Tryz.f145,[(1000,⟨0,0,[],false⟩)]⟩
abbrev ziQ:Fr:=⟨Tryz.prog,zC,zA,146,Tryz.f146,[(1000,⟨0,0,[],false⟩)]⟩
abbrev ztf:Fr:=⟨Tryz.prog,zC,zA,147,Tryz.f147,[]⟩
abbrev zwe:Fr:=⟨Tryz.prog,zC,zA,148,Tryz.f148,[]⟩
abbrev ztO:Fr:=⟨Tryz.prog,zC,zA,149,Tryz.f149,[]⟩
abbrev ztM:Fr:=⟨Tryz.prog,zC,zA,150,Tryz.f150,[]⟩
abbrev ztL:Fr:=⟨Tryz.prog,zC,zA,151,Tryz.f151,[]⟩
abbrev zw4:Fr:=⟨Tryz.prog,zC,zA,152,Tryz.f152,[]⟩
abbrev zbn:Fr:=⟨Tryz.prog,zC,zA,153,Tryz.f153,[]⟩
abbrev zoK:Fr:=⟨Tryz.prog,zC,zA,154,Tryz.f154,[]⟩
abbrev zk5:Fr:=⟨Tryz.prog,zC,zA,155,Tryz.f155,[(1000,⟨0,0,[],false⟩)]⟩
abbrev zqb:Fr:=⟨Tryz.prog,zC,zA,156,Tryz.f156,[]⟩
abbrev zqG:Fr:=⟨Tryz.prog,zC,zA,157,Tryz.f157,[(1000,⟨0,0,[],false⟩)]⟩
abbrev zia:Fr:=⟨Tryz.prog,zC,zA,158,Tryz.f158,[(1002,⟨0,0,[],false⟩)]⟩
abbrev zlH:Fr:=⟨Tryz.prog,zC,zA,159,Tryz.f159,[(1004,⟨0,0,[],false⟩)]⟩
abbrev zzl:Fr:=⟨Tryz.prog,zC,zA,160,Tryz.f160,[]⟩
abbrev R_ref28_in:Fr:=⟨Tryz.prog,zC,zA,161,Tryz.f161,[]⟩
abbrev zcM:Fr:=⟨Tryz.prog,zC,zA,166,Tryz.f166,[]⟩
abbrev zv8:Fr:=⟨Tryz.prog,zC,zA,167,Tryz.f167,[]⟩
abbrev zqn:Fr:=⟨Tryz.prog,zC,zA,168,Tryz.f168,[]⟩
abbrev zoT:Fr:=⟨Tryz.prog,zC,zA,169,Tryz.f169,[]⟩
abbrev zri:Fr:=⟨Tryz.prog,zC,zA,170,Tryz.f170,[]⟩
abbrev zjj:Fr:=⟨Tryz.prog,zC,zA,171,Tryz.f171,[(1000,⟨0,0,[],false⟩)]⟩
abbrev zhh:Fr:=⟨Tryz.prog,zC,zA,172,Tryz.f172,[(1002,⟨0,0,[],false⟩)]⟩
abbrev zjQ:Fr:=⟨Tryz.prog,zC,zA,173,Tryz.f173,[(1004,⟨0,0,[],false⟩)]⟩
abbrev zr7:Fr:=⟨Tryz.prog,zC,zA,174,Tryz.f174,[]⟩
abbrev zlI:Fr:=⟨Tryz.prog,zC,zA,175,Tryz.f175,[(1003,⟨0,0,[],false⟩)]⟩
abbrev zlj:Fr:=⟨Tryz.prog,zC,zA,177,Tryz.f177,[]⟩
abbrev zjR:Fr:=⟨Tryz.prog,zC,zA,178,Tryz.f178,[(1003,⟨0,0,[],false⟩)]⟩
abbrev zoa:Fr:=⟨Tryz.prog,zC,zA,71,Tryz.f71,[]⟩
abbrev cw:zby:=callw Tryz.prog zC zA
abbrev zP:Program:=Tryz.prog
theorem ke_117 (x y:zay):keyEq zP 117 (.agg (zbe x)) (.agg (zbe y))=some (decide (y=x)):=by
 have h1:eqV zP 20 117 [(.int .i64 x.script:Value),(.int .i64 x.part:Value)] [(.int .i64 y.script:Value),(.int .i64 y.part:Value)]=some (x.script == y.script && (x.part == y.part && true)):=by kernel_rfl
 have h2:bitsL [(.int .i64 x.script:Value),(.int .i64 x.part:Value)] [(.int .i64 y.script:Value),(.int .i64 y.part:Value)]=some (x.script == y.script && (x.part == y.part && true)):=by kernel_rfl
 have h:keyEq zP 117 (.agg (zbe x)) (.agg (zbe y))=agree (eqV zP 20 117 [(.int .i64 x.script:Value),(.int .i64 x.part:Value)] [(.int .i64 y.script:Value),(.int .i64 y.part:Value)]) (bitsL [(.int .i64 x.script:Value),(.int .i64 x.part:Value)] [(.int .i64 y.script:Value),(.int .i64 y.part:Value)]):=by kernel_rfl
 rw [h,h1,h2]; have ha:∀ b:Bool,agree (some b) (some b)=some b:=fun b=>by simp [agree]
 rw [ha]; refine congrArg some ?_; by_cases e:y=x
 · rw [decide_eq_true e,e]; simp
 · rw [decide_eq_false e,Bool.eq_false_iff]; intro q; simp only [zbX,beq_iff_eq,and_true] at q; refine e (zcP.inj ?_); show [I (y.script),I (y.part)]=[I (x.script),I (x.part)]; simp only [q]
theorem zhx {β:Type} (z:zaM) (key:zay) (l:List (zay×zaM)) (k:zaM→Bool→Option β):mapD zP 117 true zmc (.agg (zbD z)) (List.map zal l) (.agg (zbe key)) k=k ((mfind key l).getD z) (mfind key l).isSome:=
 znK (agg:=true) (D:=zmc) (kenc:=fun x=>.agg (zbe x)) (venc:=fun x=>.agg (zbD x)) ke_117 (show ∀ x:zaM,avDec true zmc (.agg (zbD x))=some x from fun x=>zmc.de x) z key l k
theorem zm7 {β:Type} (key:zay) (v:zaM) (l:List (zay×zaM)) (k:List (List AV)→Option β):msetD zP 117 49 (.agg (zbe key)) (.agg (zbD v)) (List.map zal l) k=k (List.map zal (mput key v l)):=
 zml (kenc:=fun x=>.agg (zbe x)) (venc:=fun x=>.agg (zbD x)) ke_117 key v l k
theorem zkY {β:Type} (z:Int) (key:zay) (l:List (zay×Int)) (k:Int→Bool→Option β):mapD zP 117 false zaW (I z) (List.map zau l) (.agg (zbe key)) k=k ((mfind key l).getD z) (mfind key l).isSome:=
 znK (agg:=false) (D:=zaW) (kenc:=fun x=>.agg (zbe x)) (venc:=fun x=>I x) ke_117 (show ∀ x:Int,avDec false zaW (I x)=some x from fun x=>zaW.de x) z key l k
theorem zqj {β:Type} (key:zay) (v:Int) (l:List (zay×Int)) (k:List (List AV)→Option β):msetD zP 117 3 (.agg (zbe key)) (I v) (List.map zau l) k=k (List.map zau (mput key v l)):=
 zml (kenc:=fun x=>.agg (zbe x)) (venc:=fun x=>I x) ke_117 key v l k
theorem zlp {β:Type} (z:zab) (key:zay) (l:List (zay×zab)) (k:zab→Bool→Option β):mapD zP 117 true zaw (.agg (zaa z)) (List.map zbC l) (.agg (zbe key)) k=k ((mfind key l).getD z) (mfind key l).isSome:=
 znK (agg:=true) (D:=zaw) (kenc:=fun x=>.agg (zbe x)) (venc:=fun x=>.agg (zaa x)) ke_117 (show ∀ x:zab,avDec true zaw (.agg (zaa x))=some x from fun x=>zaw.de x) z key l k
theorem zlr {β:Type} (key:zay) (v:zab) (l:List (zay×zab)) (k:List (List AV)→Option β):msetD zP 117 64 (.agg (zbe key)) (.agg (zaa v)) (List.map zbC l) k=k (List.map zbC (mput key v l)):=
 zml (kenc:=fun x=>.agg (zbe x)) (venc:=fun x=>.agg (zaa x)) ke_117 key v l k
theorem ke_151 (x y:Int×Int):keyEq zP 151 (.agg (zbK x)) (.agg (zbK y))=some (decide (y=x)):=by
 have h1:eqV zP 20 151 [(.int .i64 x.1:Value),(.int .i64 x.2:Value)] [(.int .i64 y.1:Value),(.int .i64 y.2:Value)]=some (x.1 == y.1 && (x.2 == y.2 && true)):=by kernel_rfl
 have h2:bitsL [(.int .i64 x.1:Value),(.int .i64 x.2:Value)] [(.int .i64 y.1:Value),(.int .i64 y.2:Value)]=some (x.1 == y.1 && (x.2 == y.2 && true)):=by kernel_rfl
 have h:keyEq zP 151 (.agg (zbK x)) (.agg (zbK y))=agree (eqV zP 20 151 [(.int .i64 x.1:Value),(.int .i64 x.2:Value)] [(.int .i64 y.1:Value),(.int .i64 y.2:Value)]) (bitsL [(.int .i64 x.1:Value),(.int .i64 x.2:Value)] [(.int .i64 y.1:Value),(.int .i64 y.2:Value)]):=by kernel_rfl
 rw [h,h1,h2]; have ha:∀ b:Bool,agree (some b) (some b)=some b:=fun b=>by simp [agree]
 rw [ha]; refine congrArg some ?_; by_cases e:y=x
 · rw [decide_eq_true e,e]; simp
 · rw [decide_eq_false e,Bool.eq_false_iff]; intro q; simp only [zbX,beq_iff_eq,and_true] at q; refine e (zee.inj ?_); show [I (y.1),I (y.2)]=[I (x.1),I (x.2)]; simp only [q]
theorem zjD {β:Type} (z:za3) (key:Int×Int) (l:List ((Int×Int)×za3)) (k:za3→Bool→Option β):mapD zP 151 true zdZ (.agg (zbE z)) (List.map zbz l) (.agg (zbK key)) k=k ((mfind key l).getD z) (mfind key l).isSome:=
 znK (agg:=true) (D:=zdZ) (kenc:=fun x=>.agg (zbK x)) (venc:=fun x=>.agg (zbE x)) ke_151 (show ∀ x:za3,avDec true zdZ (.agg (zbE x))=some x from fun x=>zdZ.de x) z key l k
theorem zcY {β:Type} (key:Int×Int) (v:za3) (l:List ((Int×Int)×za3)) (k:List (List AV)→Option β):msetD zP 151 153 (.agg (zbK key)) (.agg (zbE v)) (List.map zbz l) k=k (List.map zbz (mput key v l)):=
 zml (kenc:=fun x=>.agg (zbK x)) (venc:=fun x=>.agg (zbE x)) ke_151 key v l k
theorem zqy {β:Type} (z:Int) (key:Int×Int) (l:List ((Int×Int)×Int)) (k:Int→Bool→Option β):mapD zP 151 false zaW (I z) (List.map zdF l) (.agg (zbK key)) k=k ((mfind key l).getD z) (mfind key l).isSome:=
 znK (agg:=false) (D:=zaW) (kenc:=fun x=>.agg (zbK x)) (venc:=fun x=>I x) ke_151 (show ∀ x:Int,avDec false zaW (I x)=some x from fun x=>zaW.de x) z key l k
theorem zx5 {β:Type} (key:Int×Int) (v:Int) (l:List ((Int×Int)×Int)) (k:List (List AV)→Option β):msetD zP 151 3 (.agg (zbK key)) (I v) (List.map zdF l) k=k (List.map zdF (mput key v l)):=
 zml (kenc:=fun x=>.agg (zbK x)) (venc:=fun x=>I x) ke_151 key v l k
theorem zwQ {β:Type} (z:Bool) (key:Int×Int) (l:List ((Int×Int)×Bool)) (k:Bool→Bool→Option β):mapD zP 151 false dBool (B z) (List.map zdS l) (.agg (zbK key)) k=k ((mfind key l).getD z) (mfind key l).isSome:=
 znK (agg:=false) (D:=dBool) (kenc:=fun x=>.agg (zbK x)) (venc:=fun x=>B x) ke_151 (show ∀ x:Bool,avDec false dBool (B x)=some x from fun x=>dBool.de x) z key l k
theorem zwW {β:Type} (key:Int×Int) (v:Bool) (l:List ((Int×Int)×Bool)) (k:List (List AV)→Option β):msetD zP 151 4 (.agg (zbK key)) (B v) (List.map zdS l) k=k (List.map zdS (mput key v l)):=
 zml (kenc:=fun x=>.agg (zbK x)) (venc:=fun x=>B x) ke_151 key v l k
@[simp] theorem zao {β:Type} (v:Bool) (k:Bool→Option β):callD zad (some (zai v)) k=k v:=zbc (D:=zad) k
@[simp] theorem zxq {β:Type} (v:zae) (k:zae→Option β):callD zn1 (some (zq7 v)) k=k v:=zbc (D:=zn1) k
@[simp] theorem zrC {β:Type} (v:zaz×zae) (k:(zaz×zae)→Option β):callD zhJ (some (zhI v)) k=k v:=zbc (D:=zhJ) k
@[simp] theorem zlm {β:Type} (v:((List zab))×zae) (k:(((List zab))×zae)→Option β):callD zeI (some (zdT v)) k=k v:=zbc (D:=zeI) k
@[simp] theorem zBI {β:Type} (v:(zbk×Int)×(List zab)) (k:((zbk×Int)×(List zab))→Option β):callD zd4 (some (znP v)) k=k v:=zbc (D:=zd4) k
@[simp] theorem zst {β:Type} (v:(List zab)) (k:((List zab))→Option β):callD ziB (some (zlW v)) k=k v:=zbc (D:=ziB) k
@[simp] theorem zaU {β:Type} (v:Int×zae) (k:(Int×zae)→Option β):callD zaN (some (zix v)) k=k v:=zbc (D:=zaN) k
@[simp] theorem zfm {β:Type} (v:zab) (k:zab→Option β):callD zeZ (some (zkL v)) k=k v:=zbc (D:=zeZ) k
@[simp] theorem zk7 {β:Type} (v:zaz) (k:zaz→Option β):callD zgN (some (zoE v)) k=k v:=zbc (D:=zgN) k
@[simp] theorem zA7 {β:Type} (v:((List GTask)×Int)×(List zab)) (k:(((List GTask)×Int)×(List zab))→Option β):callD zfN (some (zko v)) k=k v:=zbc (D:=zfN) k
@[simp] theorem zqP {β:Type} (v:(List zbv)) (k:((List zbv))→Option β):callD zhd (some (zg7 v)) k=k v:=zbc (D:=zhd) k
@[simp] theorem zqM {β:Type} (v:((List zaG)×(List zbt))×zae) (k:(((List zaG)×(List zbt))×zae)→Option β):callD zha (some (zfM v)) k=k v:=zbc (D:=zha) k
@[simp] theorem zqd {β:Type} (v:((List za1))×zae) (k:(((List za1))×zae)→Option β):callD zgC (some (zgA v)) k=k v:=zbc (D:=zgC) k
@[simp] theorem zqf {β:Type} (v:((List zaR))×zae) (k:(((List zaR))×zae)→Option β):callD zgE (some (zgB v)) k=k v:=zbc (D:=zgE) k
@[simp] theorem zqe {β:Type} (v:za6×zae) (k:(za6×zae)→Option β):callD zgD (some (zjp v)) k=k v:=zbc (D:=zgD) k
@[simp] theorem zbZ {β:Type} (v:Bool×zae) (k:(Bool×zae)→Option β):callD zdo (some (zlX v)) k=k v:=zbc (D:=zdo) k
@[simp] theorem zsv {β:Type} (v:GSeed×zae) (k:(GSeed×zae)→Option β):callD ziD (some (ziy v)) k=k v:=zbc (D:=ziD) k
@[simp] theorem zsu {β:Type} (v:zab×zae) (k:(zab×zae)→Option β):callD ziC (some (zlY v)) k=k v:=zbc (D:=ziC) k
@[simp] theorem zig {β:Type} (v:zaG) (k:zaG→Option β):callD zhU (some (zmT v)) k=k v:=zbc (D:=zhU) k
@[simp] theorem za4 {β:Type} (v:Int) (k:Int→Option β):callD zaL (some (zbh v)) k=k v:=zbc (D:=zaL) k
@[simp] theorem zkU {β:Type} (v:((List zab)×Int)×(List zab)) (k:(((List zab)×Int)×(List zab))→Option β):callD zfh (some (zdI v)) k=k v:=zbc (D:=zfh) k
@[simp] theorem zoc {β:Type} (v:List (Option zah)×List (zay×zaM)) (k:(List (Option zah)×List (zay×zaM))→Option β):callD zhV (some (zhT v)) k=k v:=zbc (D:=zhV) k
@[simp] theorem zh1 {β:Type} (v:(List (zay×zab))) (k:((List (zay×zab)))→Option β):callD zd7 (some (zcL v)) k=k v:=zbc (D:=zd7) k
@[simp] theorem zhZ {β:Type} (v:(List zbv)) (k:((List zbv))→Option β):callD zbo (some (zdO v)) k=k v:=zbc (D:=zbo) k
@[simp] theorem zl9 {β:Type} (v:(List zab)×Int) (k:((List zab)×Int)→Option β):callD ze6 (some (zcJ v)) k=k v:=zbc (D:=ze6) k
@[simp] theorem ziT {β:Type} (v:(List GTask)) (k:((List GTask))→Option β):callD zbr (some (zd3 v)) k=k v:=zbc (D:=zbr) k
@[simp] theorem zjk {β:Type} (v:Nat×(List GTask)) (k:(Nat×(List GTask))→Option β):callD zc0 (some (zec v)) k=k v:=zbc (D:=zc0) k
@[simp] theorem zfR {β:Type} (v:zaG×zae) (k:(zaG×zae)→Option β):callD zed (some (zld v)) k=k v:=zbc (D:=zed) k
@[simp] theorem zqN {β:Type} (v:zbt×zae) (k:(zbt×zae)→Option β):callD zhb (some (zkn v)) k=k v:=zbc (D:=zhb) k
@[simp] theorem zqO {β:Type} (v:zaR×zae) (k:(zaR×zae)→Option β):callD zhc (some (zg6 v)) k=k v:=zbc (D:=zhc) k
@[simp] theorem zsy {β:Type} (v:((List ((Int×Int)×za3)))×(List zab)) (k:(((List ((Int×Int)×za3)))×(List zab))→Option β):callD ziG (some (zdU v)) k=k v:=zbc (D:=ziG) k
@[simp] theorem zgg {β:Type} (v:(List zab)) (k:((List zab))→Option β):callD zbb (some (zcS v)) k=k v:=zbc (D:=zbb) k
@[simp] theorem zfn {β:Type} (v:zah) (k:zah→Option β):callD zcn (some (zbQ v)) k=k v:=zbc (D:=zcn) k
@[simp] theorem zpQ {β:Type} (v:Int×(Option Addr)) (k:(Int×(Option Addr))→Option β):callD zf7 (some (zeX v)) k=k v:=zbc (D:=zf7) k
@[simp] theorem zsx {β:Type} (v:GSeed×Bool) (k:(GSeed×Bool)→Option β):callD ziF (some (zgo v)) k=k v:=zbc (D:=ziF) k
@[simp] theorem zsz {β:Type} (v:(List ((Int×Int)×Int))×(List ((Int×Int)×Bool))) (k:((List ((Int×Int)×Int))×(List ((Int×Int)×Bool)))→Option β):callD ziH (some (zgq v)) k=k v:=zbc (D:=ziH) k
@[simp] theorem zpR {β:Type} (v:(List zab)) (k:((List zab))→Option β):callD zhW (some (zgp v)) k=k v:=zbc (D:=zhW) k
@[simp] theorem zl8 {β:Type} (v:Int×Bool) (k:(Int×Bool)→Option β):callD zet (some (ziX v)) k=k v:=zbc (D:=zet) k
@[simp] theorem zBH {β:Type} (v:(List Int)×Int) (k:((List Int)×Int)→Option β):callD zjG (some (zeY v)) k=k v:=zbc (D:=zjG) k
@[simp] theorem zln {β:Type} (v:(Int×Int)) (k:((Int×Int))→Option β):callD zfO (some (zg8 v)) k=k v:=zbc (D:=zfO) k
@[simp] theorem ziS {β:Type} (v:(List Int)) (k:((List Int))→Option β):callD zeq (some (zhr v)) k=k v:=zbc (D:=zeq) k
@[simp] theorem zhj {β:Type} (v:zaR×Bool) (k:(zaR×Bool)→Option β):callD zft (some (zkN v)) k=k v:=zbc (D:=zft) k
@[simp] theorem zt6 {β:Type} (v:zc2×Int) (k:(zc2×Int)→Option β):callD zkP (some (zkM v)) k=k v:=zbc (D:=zkP) k
@[simp] theorem zvg {β:Type} (v:za1×Bool) (k:(za1×Bool)→Option β):callD zkp (some (zmU v)) k=k v:=zbc (D:=zkp) k
@[simp] theorem znx {β:Type} (v:(List Bool)) (k:((List Bool))→Option β):callD ze0 (some (zgr v)) k=k v:=zbc (D:=ze0) k
@[simp] theorem zyG {β:Type} (v:Int) (k:Int→Option β):callD zd8 (some (zk0 v)) k=k v:=zbc (D:=zd8) k
@[simp] theorem zzy {β:Type} (v:Int×Int) (k:(Int×Int)→Option β):callD zer (some (zlq v)) k=k v:=zbc (D:=zer) k
@[simp] theorem zsw {β:Type} (v:zbk×Int) (k:(zbk×Int)→Option β):callD ziE (some (zlZ v)) k=k v:=zbc (D:=ziE) k
@[simp] theorem zqQ {β:Type} (v:(List ((Int×Int)×za3))) (k:((List ((Int×Int)×za3)))→Option β):callD zhe (some (zdd v)) k=k v:=zbc (D:=zhe) k
theorem ptT {y:AV×Mem} (cut:List Nat) {R:Fr} {j:Nat} {st:St} {x:Option (AV×Mem)} (h:x=some y) (hx:tGo R zT cut 100000 (decide (j≠0)) (ptS R.fn j) st=x:=by kernel_rfl):pt R j st=some y:=pt_of zT cut hx h
theorem cwT {y:AV×Mem} (R:Fr) (cut:List Nat) {args:List AV} {ms:Mem} {x:Option (AV×Mem)} (h:x=some y) (ho:R.C.orc R.f args ms=none:=by rfl) (hf:R.P.funcs[R.f]?=some R.fn:=by kernel_rfl) (he:enters R.P R.f=true:=by kernel_rfl)
  (hN:decide (R.fn.ntmps≤1000∧args.length≤R.fn.ntmps)=true:=by kernel_rfl) (hm:R.ms=Go.Ab.blank ms:=by kernel_rfl)
  (hx:tGo R zT cut 100000 false (ptK R.fn 0) { t:=argTab 0 args,m:=ms }=x:=by kernel_rfl):callw R.P R.C R.F R.f args ms=some y:=zxs R zT cut ho hf he hN hm hx h
end Go.Proofs.YtikogkgdkdmljaaGreat
end
