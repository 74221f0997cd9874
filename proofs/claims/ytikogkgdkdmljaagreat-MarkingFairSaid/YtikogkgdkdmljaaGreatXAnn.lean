/- Annotations of the seat's functions: what lives behind each region, which slots own rows, which arguments are written; how results read. -/
import Derived.Test.YtikogkgdkdmljaaGreatXTy
import Derived.Test.YtikogkgdkdmljaaGreatProg
import Derived.Test.YtikogkgdkdmljaaGreatXSp
set_option linter.unusedSimpArgs false
set_option linter.unusedVariables false
noncomputable section
namespace Go.Proofs.YtikogkgdkdmljaaGreat
open Go.Ab
abbrev LL:=List (List AV)
def zC:Cfg:={ wrt:=atReg [(12,[0]),(13,[0]),(14,[0]),(15,[1]),(16,[0,1]),(26,[0]),(31,[1]),(33,[0]),(34,[0]),(35,[0]),(36,[0]),(37,[0]),(38,[0]),(39,[0]),(42,[0]),(45,[0]),(56,[0]),(60,[0]),(61,[0]),(62,[0]),(63,[0]),(64,[0]),(71,[0]),(72,[0]),(80,[0]),(86,[0]),(100,[0]),(109,[0]),(110,[0]),(111,[0]),(113,[0]),(114,[0]),(115,[0]),(116,[0]),(123,[0]),(124,[0]),(125,[0]),(127,[0]),(128,[0]),(129,[0]),(130,[0]),(139,[0]),(140,[0]),(141,[0]),(143,[0]),(144,[0]),(145,[0]),(146,[0]),(155,[0]),(157,[0]),(158,[2]),(159,[4]),(163,[0]),(164,[2]),(165,[4]),(171,[0]),(172,[2]),(173,[4]),(175,[3]),(176,[3]),(178,[3])],orc:=zOrc,dp:=fun f=>(atReg [(108,[0]),(75,[0]),(78,[0])] f).head? }
def zm3:zah→Mem:=fun x=>[(1000,⟨14,za8,[[I x.level,.row 900 10 0 (List.map zcC.enc x.marks).length,I x.period,I x.started.Time,I x.started.Source,I x.started.Seq,.map 901,.sl 1 (List.map dBool.enc x.watch.Last),B x.watch.Suspended,I x.good.Time,I x.good.Source,I x.good.Seq,B x.some,.row 902 12 0 (List.map zco.enc x.suspensions).length]],true⟩),(900,⟨10,133,List.map zcC.enc x.marks,false⟩),(901,⟨0,108,List.map zdh.enc x.noted,false⟩),(902,⟨12,61,List.map zco.enc x.suspensions,false⟩)]
abbrev zjQ:MD:=⟨zah,zm3,by
 intro x y h; simp only [zm3,zbn,zaI,Ent.mk.injEq,AV.v.injEq,AV.row.injEq,AV.sl.injEq,Value.int.injEq,Value.bool.injEq,Value.string.injEq,true_and,and_true,and_assoc,TyD.minj dBool,TyD.minj zdh,TyD.minj zco,TyD.minj zcC] at h
 exact (zah.eqOf (h.1) (h.2.2.2.2.2.2.2.2.2.2.2.2.2.1) (h.2.2.1) (zaN.eqOf (h.2.2.2.1) (h.2.2.2.2.1) (h.2.2.2.2.2.1)) (h.2.2.2.2.2.2.2.2.2.2.2.2.2.2.1) (zc3.eqOf (h.2.2.2.2.2.2.1) (h.2.2.2.2.2.2.2.1)) (zaN.eqOf (h.2.2.2.2.2.2.2.2.1) (h.2.2.2.2.2.2.2.2.2.1) (h.2.2.2.2.2.2.2.2.2.2.1)) (h.2.2.2.2.2.2.2.2.2.2.2.1) (h.2.2.2.2.2.2.2.2.2.2.2.2.2.2.2))⟩
def anK (l:List Nat) (v:List (List Nat)) (o:List (Nat×List (Nat×Nat×TypeId))):Ann:={ lits:=l,live:=fun i=>v[i]?,own:=atReg o }
def zsj:Ann:={ anK [] [[0],[0,14],[2],[3],[3,4],[3,4,5],[3,4,5,6,7],[4,5,6,7,8,9],[6,7,8,9,10,11],[2]] [(5,[(5,9,64)])] with fz:=atReg [(7,[5])] }
def ztt:Ann:=anK [] [[0],[0,23],[2],[3],[3,4],[4,5],[4,5,6,7],[4,5,6,43],[2],[4,6,8],[4,6,8,47,48,49],[4,6,8,47,48,49,50],[4,6,8,9,10,47,48,49],[4,6,8,9,10,11,12,47,48,49],[4,6,8,9,10,11,12,14,47,48,49],[4,6,8,9,10,11,47,48,49,91],[2],[4,6,8,9,10,11,47,48,49,93],[4,6,8,10,11,15,47,48,49],[4,6,8,10,11,47,48,49,132],[2],[4,6,8,10,11,47,48,49,134,135,136],[4,6,8,10,11,47,48,49,134,135,136,137],[4,6,8,10,11,17,47,48,49,134,135,136],[4,6,8,10,11,47,48,49,134,135,136,164],[2],[4,6,8,10,11,47,48,49,134,135,136],[4,6,8,10,11,18,47,48,49],[4,6,8,10,11,18,47,48,49,166,167,168],[4,6,8,10,11,18,47,48,49,166,167,168,169],[4,6,8,10,11,18,20,47,48,49,166,167,168],[4,6,8,10,11,18,47,48,49,166,167,168],[4,6,8,10,11,18,47,48,49,166,167,168],[4,6,8,47,48,49,215],[2],[4,6,8,47,48,49],[2]] [(5,[(5,9,64)])]
def zsi:Ann:=anK [] [[0],[0,23],[2],[3],[3,4],[4,5],[4,5,6,7],[4,5,6,44],[2],[4,5,6,46,47,48],[4,5,6,46,47,48,49],[4,5,6,9,46,47,48],[4,5,6,9,10,46,47,48],[4,5,6,9,10,46,47,48,52,53,54],[4,5,6,9,10,46,47,48,52,53,54,55],[4,5,6,9,10,12,46,47,48,52,53,54],[4,5,6,9,10,12,46,47,48,52,53,54,68],[4,5,6,9,10,46,47,48,52,53,54],[4,5,6,9,10,46,47,48,52,53,54],[4,5,6,9,13,14,46,47,48],[4,5,6,9,13,14,15,46,47,48],[4,5,6,9,13,14,15,16,46,47,48],[4,5,6,9,13,14,15,16,46,47,48,81,82,83],[4,5,6,9,13,14,15,16,46,47,48,81,82,83,84],[4,5,6,9,13,14,15,16,18,46,47,48,81,82,83],[4,5,6,9,13,14,15,16,18,46,47,48,81,82,83,91],[4,5,6,9,13,14,15,16,46,47,48,81,82,83],[4,5,6,9,13,14,15,16,46,47,48,81,82,83],[4,5,6,9,13,14,15,16,46,47,48,98,99,100],[4,5,6,9,13,14,15,16,46,47,48,98,99,100,101],[4,5,6,9,13,14,15,16,20,46,47,48,98,99,100],[4,5,6,9,13,14,15,16,20,46,47,48,98,99,100,108],[4,5,6,9,13,14,15,16,46,47,48,98,99,100],[4,5,6,9,13,14,15,16,46,47,48,98,99,100],[4,5,6,46,47,48,123],[2],[4,5,6,46,47,48],[2]] [(12,[(10,9,64)]),(17,[(10,9,64)]),(20,[(15,8,51)]),(21,[(16,12,61)]),(26,[(15,8,51)]),(32,[(16,12,61)])]
def zsk:Ann:=anK [] [[0],[0,27],[2],[3],[3,4],[4,5],[4,5,6,7],[4,5,6,7,41,42,43],[4,5,6,7,41,42,43,44],[4,5,6,7,9,41,42,43],[4,5,6,7,9,11,41,42,43],[4,5,6,7,9,41,42,43,60],[4,5,6,7,9,41,42,43],[4,5,6,7,9,41,42,43,67],[4,5,6,7,41,42,43],[4,5,6,7,41,42,43],[4,6,7,12,13],[4,7,12,13,14,15],[4,7,12,13,14,15],[4,7,12,13,14,15,16,17],[4,7,16,117],[2],[4,7,16,18],[4,16,18,119,120,121],[4,16,18,119,120,121,122],[4,16,18,20,119,120,121],[4,16,18,20,119,120,121,127],[4,16,18,119,120,121],[4,16,18,119,120,121],[16,18,145],[2],[18,147,148,149],[18,147,148,149,150],[18,22,147,148,149],[18,22,23,24,147,148,149],[18,147,148,149,172],[2],[18,147,148,149],[2]] [(6,[(6,9,64),(7,9,64)]),(12,[(6,9,64)]),(14,[(7,9,64)])]
def zqK:Ann:=anK [] [[0,1],[0,1,19],[4],[1,5],[1,5,6],[1,5,6,7],[1,5,6,7,31],[4],[5,6,7,8],[6,7,8,9],[6,7,8,9,10,11],[8,9,10,11,12,13],[8,9,10,11,12,13,14],[8,9,10,11,12,13,14,67,68,69],[8,9,10,11,12,13,14,67,68,69,70],[8,9,10,11,12,13,14,16,67,68,69],[8,9,10,11,12,13,14,16,67,68,69,88],[8,9,10,11,12,13,14,67,68,69],[8,9,10,11,12,13,14,67,68,69],[4]] [(12,[(14,8,51)]),(17,[(14,8,51)])]
def zoV:Ann:=anK [] [[0,1],[0,1,29],[4],[1,5],[1,5,6],[1,6,7],[1,6,7,8,9],[6,7,8,9,10],[6,7,8,9,10,11],[6,7,8,9,10,11,12],[6,7,8,9,10,11,12,13,14],[6,7,8,9,10,11,13,14,15,16],[6,7,8,10,11,13,113],[4],[6,7,10,11,13,17],[6,7,10,11,17,129],[4],[6,7,10,11,17,131,132,133],[6,7,10,11,17,131,132,133,134],[6,7,10,11,17,19,131,132,133],[6,7,10,11,17,19,21,131,132,133],[6,7,10,11,17,19,131,132,133,153],[6,7,10,11,17,19,22,131,132,133],[6,7,10,11,17,19,22,23,24,131,132,133],[6,7,10,11,17,19,23,24,25,26,131,132,133],[6,7,10,11,17,131,132,133,205],[4],[6,7,10,11,17,131,132,133],[4]] []
def zek:Ann:=anK [] [[0],[2]] []
def zAf:Ann:=anK [13] [[],[1],[1,2,3],[1,2,3,4,5],[1,2,3,4,5],[2,3,4,5,6,7],[0]] [(1,[(1,9,64)]),(4,[(1,9,64)])]
def zvd:Ann:={ anK [] [[0,2],[0,2,3,4],[0,2,3,5],[0,2,3,5,6],[0,2,3,5,6,26],[0,2,3,5,6],[0,2,3,5,6,30],[0,2,3,5,6],[2]] [] with cel:=fun _=>[(5,4,900,2,90)] }
def ztR:Ann:=anK [] [[0,2,4],[0,2,4,7],[0,2,4,7,8],[0,2,4,7,8,13],[0,2,4,7,8],[0,2,4,7,8,9],[0,2,4,7,8,9,22],[0,2,4,7,8],[0,2,4,7,8,9,22,31],[0,2,4,7,8],[0,2,4,7,8,9,22,50],[0,2,4,7,8,9,55],[0,2,4,7,8],[0,2,4,7,8,9,22,76],[0,2,4,7,8,80],[0,2,4,7,8],[0,2,4,7,8,9,91],[0,2,4,7,8,95],[0,2,4,7,8,10],[0,2,4,7,8,10],[0,2,4,7,8],[6]] [(1,[(7,9,64)]),(7,[(7,9,64)]),(9,[(7,9,64)]),(12,[(7,9,64)]),(15,[(7,9,64)]),(20,[(7,9,64)])]
def zwu:Ann:=anK [] [[0,2,4],[0,2,4,7],[0,2,4,7,8],[0,2,4,7,8,17],[0,2,4,7,8],[0,2,4,7,8,9],[0,2,4,7,8,9,10],[0,2,4,7,8,9,10,32],[0,2,4,7,8,9,10],[0,2,4,7,8,9,10,11],[0,2,4,7,8,9,10,11,39],[0,2,4,7,8,9,10,11],[0,2,4,7,8,9,10,11,53],[0,2,4,7,8,9,10,11,12],[0,2,4,7,8,9,10,11],[6]] [(1,[(7,9,64)]),(14,[(7,9,64)])]
def zyo:Ann:={ anK [] [[1,2,4],[1,2,4,17],[4,5],[2,4,6,7],[2,4,6,7,25],[4,5],[4,8,9],[4,8,9,10],[4,9,10,34,35],[4,9,10,34,35,36],[4,9,10,11,12,34,35],[4,9,10,11,12,34,35,42],[4,9,10,11,12,34,35],[4,9,10,11,12,34,35,54],[4,9,10,11,12,34,35,54,56],[4,9,10,11,12,14,34,35,54],[4,9,10,11,12,34,35,54],[4,9,10,34,35],[4,10],[4,5]] [] with cel:=fun _=>[(10,0,301,8,51),(10,1,302,12,61)] }
def zsl:Ann:=anK [] [[0,1],[0,1,5],[0,1,5,6],[0,1,5,6,15],[0,1,5,6],[0,1,5,6,7],[0,1,5,6],[0,1,5,8],[0,1,5,8,39],[0,1,5,8],[0,1,5,8,43],[0,1,5,8],[4]] [(1,[(5,9,64)]),(11,[(5,9,64)])]
def zwt:Ann:={ anK [] [[0],[3],[2]] [] with frz:=true }
def zAm:Ann:=anK [] [[2,3],[2,3,22],[4],[2,3,5],[2,3,5,27],[2,3,5],[2,3,5,40],[4],[2,3,6],[2,3,6,45],[2,3,6],[2,3,6,58],[4],[4]] []
def zrA:Ann:=anK [] [[0,1,4],[0,1,4,6],[0,1,4,6,10],[0,1,4,6],[0,1,4,6,19],[4,5],[4,5]] []
def ztZ:Ann:=anK [] [[0,1],[0,1,6],[0,1,6,10],[0,1,6],[0,1,6,19],[4,5],[4,5]] [(0,[(4,1,3)]),(5,[(4,1,3)]),(6,[(4,1,3)])]
def zpJ:Ann:=anK [] [[0,1,5],[5,7,8],[6]] []
def ztx:Ann:=anK [] [[3,4,5],[6]] []
def zAi:Ann:=anK [] [[2,3],[2,3,5],[4],[2,3,16],[4],[4]] []
def zvk:Ann:=anK [] [[0,1],[0,1,10],[4],[0,1,5],[0,1,5,14],[0,1,5],[0,1,5,25],[4],[4]] []
def zAk:Ann:=anK [] [[2,3],[2,3,5,6],[2,3,5,33],[4],[2,3,5,7],[4]] []
def zww:Ann:=anK [] [[0,1],[0,1,19],[4],[0,1,5],[1,5],[1,5,40],[5],[4]] []
def ztf:Ann:=anK [] [[0,1],[0,1,10],[4],[0,1,12,13],[0,1,12,13,14],[0,1,5,12,13],[0,1,12,13,24],[4],[0,1,12,13],[4]] []
def zym:Ann:=anK [] [[1,2,3],[1,11,12,13],[1,11,12,13,14],[1,8,11,12,13],[1,11,12,13,26],[6],[1,11,12,13],[6]] []
def a_law29_at:Ann:=anK [] [[0,1,2,6],[6]] []
def zzy:Ann:={ anK [12,13] [[0],[0,1],[0,1],[0,1,2],[0,1,2,18],[0,1,2],[0,1,2],[0,1],[0]] [] with cel:=fun _=>[(1,1,900,7,53)] }
def ztW:Ann:=anK [] [[1,2],[1,2,20],[4,5],[2,6,7],[2,6,7,27],[4,5],[8,9],[8,9,10],[9,10,35,36],[9,10,35,36,37],[9,10,11,12,35,36],[9,10,11,12,35,36,43],[9,10,11,12,13,35,36],[9,10,11,13,35,36,50,51,52],[9,10,11,13,35,36,50,51,52,53],[9,10,11,13,15,35,36,50,51,52],[9,10,11,13,15,17,35,36,50,51,52],[9,10,11,13,15,35,36,50,51,52,73],[9,10,11,13,35,36,50,51,52],[9,10,11,13,35,36,50,51,52],[9,10,35,36],[10],[4,5]] [(7,[(10,2,136)]),(18,[(10,2,136)])]
def ztV:Ann:=anK [] [[1,2,3],[1,2,3,7],[1,2,7,11,12,13],[1,2,7,11,12,13,14],[1,2,7,9,11,12,13],[1,2,7,9,11,12,13,26],[1,2,7,11,12,13],[1,2,7,11,12,13],[6]] [(1,[(7,8,51)]),(6,[(7,8,51)])]
def ztS:Ann:=anK [9] [[0],[0,4],[0,4,11],[0,4],[0,4,18],[0,4],[0,4,5],[0,4,5,6],[0,4,5,6,27],[0,4,5,6],[0,4,5,6],[2,3]] [(1,[(4,3,95)]),(3,[(4,3,95)]),(5,[(4,3,95)]),(6,[(5,2,131)]),(10,[(5,2,131)])]
def ztu:Ann:=anK [] [[0],[0,3],[0,3,4],[0,3,4,5],[0,3,4,5,10],[0,3,4,5],[0,3,4,5],[0,3,4,5],[2]] [(1,[(3,5,67)]),(7,[(3,5,67)])]
def ztw:Ann:=anK [] [[0,1,2],[0,1,2,7],[0,1,2,7,8],[0,1,2,7,8,13],[0,1,2,7,8],[0,1,2,7,8,9],[0,1,2,7,8,9,10],[0,1,2,7,8,9,10,19],[0,1,2,7,8,9,10],[0,1,2,7,8,9,10,28],[0,1,2,7,8,9,10],[0,1,2,7,8,9,11],[0,1,2,7,8,9,11,43],[0,1,2,7,8,9,11],[0,1,2,7,8,9,11,48],[0,1,2,7,8,9,11],[6]] [(1,[(7,7,53)]),(5,[(9,3,95)]),(10,[(9,3,95)]),(15,[(7,7,53)])]
def ztv:Ann:=anK [] [[0,2],[0,2,3],[2]] []
def zfl:Ann:=anK [] [[0,1],[4]] []
def zwx:Ann:={ anK [] [[0,1,5,6],[0,1,5,6,7],[0,6,7,8],[0,6,7,8,9],[0,6,7,8,9,20],[0,6,7,8,9],[0,6,7,8,9],[6]] [] with cel:=fun _=>[(7,1,900,1,3)] }
def zwv:Ann:={ anK [] [[0,2,3,5,8],[0,2,3,5,8,9],[0,5,8,10],[0,5,8,10,31],[8],[0,5,8,10,11],[0,8,10,11,12],[0,8,10,11,12],[0,8,10,11],[0,8,10],[8,10,72],[8,10],[8]] [] with cel:=fun _=>[(10,8,900,1,3)] }
def zAg:Ann:=anK [] [[0,3,4],[0,3,4,5],[0,3,4,5,9],[0,3,4,5],[0,3,4,5,29],[4],[4]] []
def zxl:Ann:=anK [] [[1],[33],[2],[2]] []
def ztz:Ann:=anK [] [[0],[0,4],[0,4,10],[0,4,10,12],[0,4,6,10],[0,4,6,10,17],[0,4,10],[4,28],[2,3],[4],[4,32,33],[4,32,33,34],[4,7,32,33],[4,32,33],[4,32,33],[2,3]] [(1,[(4,9,64)]),(6,[(4,9,64)])]
def zyp:Ann:={ anK [] [[1,2],[1,2,6],[1,2,6,20,21,22],[1,2,6,20,21,22,23],[1,2,6,8,20,21,22],[1,2,6,20,21,22],[1,2,6,20,21,22],[1,2,6,9],[2,6,9,38,39,40],[2,6,9,38,39,40,41],[2,6,9,11,38,39,40],[2,6,9,11,38,39,40,45],[2,6,9,11,38,39,40,45,46],[2,6,9,11,12,38,39,40],[2,6,9,11,12,38,39,40,55],[2,6,9,38,39,40],[2,6,9,11,38,39,40,45,60],[2,6,9,38,39,40],[2,6,9,11,38,39,40,70],[2,6,9,11,13,14,38,39,40],[2,6,9,11,13,14,38,39,40,80],[2,6,9,11,13,14,15,16,38,39,40],[2,6,9,11,13,14,15,38,39,40,88],[2,6,9,38,39,40],[2,6,9,38,39,40],[2,6,9,38,39,40],[4,5]] [] with cel:=fun _=>[(33,1,301,10,133),(33,6,302,1,0),(33,7,1000,1,0),(33,13,303,12,61)] }
def zqc:Ann:=anK [] [[0,1],[0,1,5],[0,1,5,12,13,14],[0,1,5,12,13,14,15],[0,1,5,7,12,13,14],[0,1,5,7,12,13,14,32],[0,1,5,12,13,14],[0,1,5,12,13,14],[4]] []
def zdI:Ann:=anK [] [[0,1,4],[]] []
def zcj:Ann:=anK [] [[2,3],[4]] []
def zvj:Ann:={ anK [] [[0],[0,4,5],[0,4,5,6],[0,4,5,6,7],[0,4,5,6,7,20],[0,4,5,6,7],[0,4,5,6,7,8],[0,4,5,6,7,8,9,10],[0,4,5,6,7,53],[0,4,5,6,7,11],[0,4,5,6,7,11],[0,4,5,6,7],[6,68],[2,3],[2,3]] [(2,[(6,9,64)]),(11,[(6,9,64)])] with fz:=atReg [(10,[60])],cel:=fun _=>[(11,8,900,1,3)] }
def zAh:Ann:=anK [] [[2,3],[2,3,5],[2,3,5,10],[2,3,5],[2,3,5,20],[4],[4]] []
def zry:Ann:=anK [] [[1,2,3],[4]] []
def zzB:Ann:=anK [] [[0,3],[0,3,6],[0,3,6,10],[0,3,6],[0,3,6,30],[4,5],[4,5]] []
def zAl:Ann:=anK [] [[1,2],[4]] []
def zvi:Ann:=anK [] [[2,3,4,5],[2,3,4,24],[8],[2,3,4,9],[3,9,37],[8],[8]] []
def zAe:Ann:=anK [] [[0],[0,3],[3,6,7,8],[3,6,7,8,9],[3,5,6,7,8],[3,5,6,7,8,14],[2],[3,6,7,8],[2]] []
def zva:Ann:=anK [] [[0,1],[0,1,5],[0,1,5,6],[0,1,6,11],[12],[4],[4],[0,1,13],[4],[0,1,16],[4],[19],[4],[4]] []
def zla:Ann:=anK [] [[0],[0,8],[2],[0,3],[0,3,13],[0,3],[0,3,25],[0,3,4],[0,3,4,5],[0,3,4,5,32],[0,3,4,5],[0,3,4,5,44],[0,3,4,5],[0,3,4,5],[0,3],[2],[2]] []
def zvc:Ann:={ anK [14] [[0,1,2,6],[0,6,7],[0,6,7,18],[0,6,7],[0,6,7,32],[6,7],[6]] [] with cel:=fun _=>[(7,2,900,6,98)] }
def ztT:Ann:=anK [] [[0,3,4],[0,3,4,5],[0,3,4,5,16],[4,5],[4]] []
def ztU:Ann:={ anK [30] [[0,2,4,6],[0,4,6,7],[0,4,6,7,8],[0,4,6,7,8,36],[0,4,6,7,8],[0,4,6,7,8,9],[0,4,6,7,8,9,45],[0,4,6,7,8,9],[0,4,6,7,8],[6]] [] with cel:=fun _=>[(7,6,900,1,3)] }
def zyn:Ann:=anK [] [[0],[0,7],[2],[0,8,9,10],[0,8,9,10,11],[0,3,4,8,9,10],[0,3,4,8,9,10,17],[2],[0,8,9,10,36],[2],[0,8,9,10],[2]] []
def zrx:Ann:=anK [] [[0],[0,7],[2],[0,8,9,10],[0,8,9,10,11],[0,3,4,8,9,10],[0,3,4,8,9,10,48],[2],[0,3,4,8,9,10,63],[2],[0,8,9,10,76],[2],[0,8,9,10],[2]] []
def zrz:Ann:=anK [] [[1],[1,17],[2],[1,19,20,21],[1,19,20,21,22],[1,3,4,19,20,21],[1,19,20,21,33],[2],[1,19,20,21],[2]] []
def zqM:Ann:=anK [] [[1],[1,10,11,12],[1,10,11,12,13],[1,4,10,11,12],[1,4,5,6,10,11,12],[1,4,5,10,11,12,23],[2],[1,8,10,11,12],[1,10,11,12,41],[2],[1,10,11,12],[2]] []
def zsq:Ann:=anK [] [[1],[1,10],[2],[1,12,13,14],[1,12,13,14,15],[1,3,4,12,13,14],[1,4,12,13,14,32],[2],[1,4,5,6,12,13,14],[1,12,13,14,52],[2],[1,12,13,14],[2]] []
def zxo:Ann:=anK [] [[1],[34],[2],[2]] []
def zwy:Ann:=anK [] [[0],[0,3],[0,3,10,11,12],[0,3,10,11,12,13],[0,3,4,5,10,11,12],[0,3,4,5,10,11,12,19],[0,3,4,5,6,10,11,12],[0,3,4,5,6,7,8,10,11,12],[0,3,4,5,6,7,10,11,12,29],[0,3,6,7,10,11,12],[0,3,6,7,10,11,12,39],[0,3,6,7,10,11,12],[0,3,10,11,12],[0,3,10,11,12],[2]] []
def zxn:Ann:=anK [] [[1,2],[1,2],[2]] []
def zpH:Ann:={ anK [] [[0,3],[0,3,10],[0,3,4],[0,3],[0,3],[0],[0],[0],[]] [] with cel:=fun _=>[(1000,1,900,10,133),(1000,6,901,1,0),(1000,7,1000,1,0),(1000,13,902,12,61)] }
def zsn:Ann:=anK [] [[0,4,5],[4,5,7],[4,5,7,8,9],[4,5,7,8,39],[6,7],[4,5,6,7,8,9],[4,5,6,7,8,78],[6,7],[5,6,7,8,99],[6,7],[6,7,105],[6,7],[6,7]] []
def zpI:Ann:=anK [] [[1,2,4],[1,4,9,10,11],[1,4,9,10,11,12],[1,4,7,9,10,11],[1,4,7,9,10,11,18],[4,5],[1,4,9,10,11],[4,5]] []
def zty:Ann:={ anK [] [[0,6,7,8,9],[0,6,7,8,9,10],[0,6,7,8,9,10,12],[0,6,7,8,9,10,36],[0,6,7,8,9],[0,6,7,8,9,13,14],[0,6,8,9,13,14,45,46,47],[0,6,8,9,13,14,45,46,47,48],[0,6,8,9,13,14,15,16,45,46,47],[0,6,8,9,13,14,15,45,46,47,54],[0,6,8,9,13,14,15,17,18,45,46,47],[0,6,8,9,13,14,15,17,45,46,47,68],[0,6,8,9,13,14,17,45,46,47],[0,6,8,9,13,14,45,46,47],[0,6,8,9,13,14,45,46,47],[0,6,9,19],[0,9,19,20,21],[0,9,19,20,99],[0,9,19,20],[0,9,19,104],[],[0,9,114],[]] [(5,[(13,1,3),(14,1,3)]),(12,[(13,1,3)]),(13,[(14,1,3)])] with cel:=fun _=>[(1000,1,900,10,133),(1000,6,901,1,0),(1000,7,1000,1,0),(1000,13,902,12,61)] }
def zso:Ann:=anK [] [[0,3],[0,3,11,12,13],[0,3,11,12,13,14],[0,3,6,11,12,13],[0,3,7,8,11,12,13],[0,3,11,12,13,33],[4],[0,3,11,12,13],[4]] []
def zel:Ann:=anK [] [[0,1,2,3,4,10],[0,1,2,3,4,10,11],[0,1,2,3,4,10,11,12],[0,1,2,3,4,10,11,12,25],[],[0,1,2,3,4,10,11,12,32],[],[0,1,2,3,4,10,11,12,39],[0,1,2,3,4,10,11,12],[0,1,2,3,4,10,11,12],[0,1,2,3,4,10,11,12,13,14],[0,1,2,3,4,10,11,12,13,14,56],[0,1,2,3,4,10,11,12,13],[0,1,2,3,4,10,11,12,13],[0,1,2,3,4,10,11,12,13,14],[0,1,2,3,4,10,11,12,13,75],[0,1,2,3,4,10,11,12,13,80],[0,1,2,3,4,10,11,12,13,97],[0,2,3,4,10,11,15],[0,1,2,3,4,10,11],[0,1,2,3,4,12,16,17],[0,1,2,3,4,11,12,16],[0,1,2,3,4,11,12,16,18,19],[0,1,2,3,4,11,16,18,19,20],[0,1,2,3,4,11,16,18,19,20,125],[0,1,2,3,4,10,11,16],[0,2,3,4,10,11,16],[0,1,2,3,4,10,11],[0,1,2,3,4,10,11,16],[0,1,3,4,10,11,16],[0,1,2,3,4,10,11]] []
def a_bits_Len:Ann:=anK [] [[0],[2],[2]] []
def zwz:Ann:=anK [] [[0],[0,4,5],[0,4,5,6],[0,4,5,6,15],[0,4,5,6],[0,4,5,6,23],[0,4,5,6,7],[0,4,5,6,7,8,9],[0,4,5,6,7,8,44],[0,4,5,6],[0,4,5,6,7,57],[0,4,5,6],[2,3]] []
def zAj:Ann:=anK [] [[0],[0,10],[2],[3,4],[3,4,5],[3,4,5,6,7],[3,4,5,6,7,34],[3,4,5,6,7,56],[3,4,5,6,7],[3,4,5,6,7],[3,4,5,6,7],[3,4,5,6,7],[2]] [(0,[(2,9,64)]),(2,[(2,9,64)]),(4,[(5,9,64)]),(8,[(5,9,64)]),(10,[(5,9,64)]),(12,[(2,9,64)])]
def zcE:Ann:=anK [] [[0,1],[0,1,7,8],[0,1,7,8,9],[0,1,5,7,8],[0,1,5,7,8,16],[4],[0,1,7,8],[4]] []
def zzA:Ann:=anK [] [[2,3],[2,3,5],[2,3,5,27],[4],[2,3,5,6],[2,3,5,6,30],[2,3,5,6],[2,3,5,6,46],[4],[2,3,5,6,7],[2,3,5,6,7,54],[2,3,5,6,7],[2,3,5,6,7,106],[4],[4]] []
def zsm:Ann:=anK [] [[1],[1,40],[2],[2]] []
def zxk:Ann:=anK [] [[0],[0,3],[0,3,7],[0,3],[0,3,19],[2],[2]] []
def zys:Ann:=anK [] [[2,3],[2,3,27],[4],[3,29,30,31],[3,29,30,31,32],[3,5,6,29,30,31],[3,29,30,31,52],[4],[3,29,30,31],[4]] []
def zvf:Ann:=anK [] [[2,3],[3,9,10,11],[3,9,10,11,12],[3,6,7,9,10,11],[3,6,9,10,11,27],[4,5],[3,9,10,11],[4,5]] []
def zxp:Ann:=anK [] [[2,3,4],[2,3,4,17],[6,7],[2,3,4,23],[6,7],[2,3,4,25,26,27],[2,3,4,25,26,27,28],[2,3,4,8,9,25,26,27],[2,3,4,9,10,25,26,27],[2,3,4,25,26,27,56],[6,7],[2,3,4,25,26,27],[2,3,4,11],[2,4,11,63,64,65],[2,4,11,63,64,65,66],[2,4,11,12,13,63,64,65],[2,4,11,12,13,63,64,65,70],[2,4,11,63,64,65],[2,4,11,12,13,63,64,65,77],[2,4,11,63,64,65],[2,4,11,12,63,64,65,94],[2,4,11,63,64,65],[2,4,11,63,64,65],[6,7]] []
def zve:Ann:=anK [] [[1,2],[2,6,7],[2,6,15],[4,5],[4,5]] []
def zsp:Ann:=anK [] [[1,2],[1,2,12],[4],[1,14,15,16],[1,14,15,16,17],[1,5,6,14,15,16],[1,14,15,16,34],[4],[1,14,15,16],[4]] []
def zxm:Ann:=anK [] [[1],[1,16],[2],[1,18],[1,18,19],[2],[1,18,23],[2],[1,60],[2],[2]] []
def ztX:Ann:=anK [] [[1,2],[2]] []
def zqN:Ann:=anK [5] [[0],[0,4],[2],[2]] [(0,[(2,1,3)]),(2,[(2,1,3)]),(3,[(2,1,3)])]
def zt0:Ann:=anK [] [[2,3,4,5],[8]] []
def zyq:Ann:=anK [] [[1,2,3],[1,2,3,29],[6],[1,2,3,7,8],[1,2,3,7,8,31,32],[1,2,3,7,8,31,32,33],[1,2,3,7,8,9,31,32],[1,2,3,7,8,10,11,31,32],[1,2,3,7,8,10,11,31,32,50],[6],[1,2,3,7,8,31,32],[1,2,3,7,8,31,32],[6]] []
def zyr:Ann:=anK [] [[2,3,4,6],[2,3,4,6,12],[6,7],[2,3,4,6,15],[6,7],[3,6,8],[3,6,8,27],[3,6,8],[6,7]] [(5,[(8,1,4)]),(7,[(8,1,4)])]
def zqL:Ann:={ anK [] [[0,1,5],[0,6],[0,6,19],[0,6],[0,6],[0,6,7],[0,6,7,46],[0,6,7],[0,6,7,65],[0,6,7]] [] with cel:=fun _=>[(1000,1,900,10,133),(1000,6,901,1,0),(1000,7,1000,1,0),(1000,13,902,12,61)] }
def zdr:Ann:=anK [] [[0,1,2,3,8],[0,1,2,3,8,14],[0,1,2,3,8],[0,1,2,3,8,9],[0,1,2,3,8,9,34],[0,1,2,3,8,9],[0,1,2,3,8,9]] []
def zd7:Ann:=anK [] [[0,1,2,3,8],[0,1,2,3,8,9],[0,3,8,9,10],[0,3,8,9,10,11],[0,3,8,9,10,11,21],[0,3,8,9,10,11],[0,3,8,9,10,11],[0,3,8,9,12],[0,3,8,9,12,33],[0,3,8,9,12],[0,3,8,9,12],[0,3,8,9,12]] []
def zdq:Ann:=anK [] [[0,1,8],[0,1,8,17],[0,1,8,9],[0,1,8,9,10],[0,1,8,9,10,11],[0,1,8,9,10,11,35],[0,1,8,9,10,11],[0,1,8,9,10,11,12],[0,1,8,9,10,11,12,45],[0,1,8,9,10,11,12],[0,1,8,9,10,11]] []
def zdJ:Ann:=anK [] [[0,1,2,3],[0,1,3,10],[0,1,3,10,11],[0,1,3,10,11,12],[0,1,3,10,11,12,13],[0,3,10,11,12,13,14],[0,3,10,11,12,13,14,34],[0,3,11,12,13,14,36],[0,3,11,12,13,14],[0,3,11,12,13,14],[0,3,11,12,13,14],[11,13],[13,55],[8,9],[13,55,57],[8,9],[13,60],[8,9]] []
def zdD:Ann:=anK [] [[0,2,8],[0,8,9],[0,8,9,15],[0,8,9],[0,8,9],[0,8,9]] []
def zcK:Ann:=anK [] [[0,1,2,3],[0,1,2,3,9],[0,1,2,3,9,10],[0,1,2,3,9,10,16],[0,1,2,3,9,10],[0,1,2,3,9,10,36],[0,1,2,3,9,10],[0,1,2,3,9,10,41],[8],[0,1,2,3,9,10,45],[8],[0,1,2,3,9,10],[0,1,2,3,9,10,65],[0,1,2,3,9,10,11],[0,1,2,3,9,10,11,69],[0,1,2,3,9,10,11],[0,1,2,3,9,10,11,84],[0,1,2,3,9,10,11],[0,1,2,3,9,10,104],[0,1,2,3,9,10,12],[0,1,2,3,9,10,12,109],[0,1,2,3,9,10,12],[0,1,2,3,9,10,12,124],[0,1,2,3,9,10,12],[8]] []
def zdl:Ann:=anK [] [[0,1,2,3,4],[0,1,2,4],[0,1,4,11,12],[0,1,4,11,12,47],[0,1,4,11,12],[0,1,4,11,12,65],[0,1,4,11,12],[0,1,4,11,12,70],[0,1,4,11,12],[0,1,4,11,12],[0,1,4,11,12],[10]] []
def zdV:Ann:=anK [] [[0,1,2,3,4],[0,1,2,4],[0,1,4,12,13],[0,1,4,12,13,47],[0,1,4,12,13],[0,1,4,12,13,66],[0,1,4,12,13],[0,1,4,12,13,71],[13],[10,11],[0,1,4,12,13],[0,1,4,12,13],[0,1,4,12,13],[0,1,4,12,13,120],[0,1,4,12,13],[0,1,4,12,13,139],[0,1,4,12,13],[0,1,4,12,13,144],[0,1,4,12,13],[0,1,4,12,13],[0,1,4,12,13],[13],[10,11]] []
def zAc:Ann:=anK [] [[0,2],[0,2,4],[0],[0,2],[0,2,8],[0,2],[0,2],[2]] []
def zAd:Ann:=anK [] [[0,2],[0,2,4],[0],[0,2],[0,2,8],[0,2],[0,2],[0,2,14],[0,2],[0,2],[2]] []
def zzC:Ann:=anK [] [[1],[1,19],[2],[1,3],[1,3,24],[1,3],[1,3,33],[2],[1,35],[1,35,36],[2],[1,35,57],[2],[1,89],[2],[2]] []
def ztY:Ann:=anK [] [[1],[1,34],[2],[1,3],[1,3,4],[1,3,4,39],[1,3,4],[1,3,4,48],[2],[1,3,4],[2]] []
def zvb:Ann:=anK [] [[1],[1,22],[2],[1,32],[2],[1,34,35,36],[1,34,35,36,37],[1,4,34,35,36],[1,34,35,36,42],[2],[1,34,35,36],[2]] []
def zt2:Ann:=anK [] [[1,2],[1,2,9],[4],[1,2,13,14,15],[1,2,13,14,15,16],[1,2,5,6,13,14,15],[1,2,13,14,15,40],[4],[1,2,13,14,15],[4]] []
def zxq:Ann:=anK [] [[0],[3],[3,4],[3,4],[4],[2],[2]] []
def zwA:Ann:=anK [] [[1,2,3],[1,2,3,9],[6],[6]] []
def ztg:Ann:=anK [] [[1],[2]] []
def ztA:Ann:=anK [] [[1],[1,37],[2],[2]] []
def zzz:Ann:=anK [] [[0,1,4],[1,4,8,9,10],[1,4,8,9,10,11],[1,4,7,8,9,10],[1,4,7,8,9,10,17],[4,7],[4,5],[1,4,8,9,10],[4,5]] []
def zt1:Ann:=anK [] [[1,2],[1,2,6],[4],[1,2,9],[4],[4]] []
def zpK:Ann:=anK [5] [[0],[0,4],[2],[2]] [(0,[(2,1,4)]),(2,[(2,1,4)]),(3,[(2,1,4)])]
def zvg:Ann:=anK [] [[1,2],[1,2,5],[2,5,8,9,10],[2,5,8,9,10,11],[2,5,7,8,9,10],[2,5,8,9,10,15],[2,5,8,9,10],[2,5,8,9,10],[4]] []
def zd8:Ann:=anK [] [[0,2,3,4,10],[0,2,3,4,10,11],[0,2,3,4,10,11,18],[0,2,3,4,10,11,40],[0,2,3,4,10,11],[0,2,3,4,10,11,58],[0,2,3,4,11],[0,2,3,4,10]] []
def zqO:Ann:=anK [] [[0],[0],[0],[0],[2]] []
def zdk:Ann:=anK [] [[0,1,2,3],[8]] []
def zes:Ann:=anK [] [[0,1,2,3,4,5],[0,1,2,3,4,5],[0,1,2,4,5],[2],[12]] []
def a_ref28_in:Ann:=anK [] [[0,1,2],[6]] []
def zvh:Ann:=anK [] [[1],[1,30],[2],[1,33],[2],[2]] []
def zws:Ann:=anK [] [[1],[1,30],[2],[1,32],[1,32,33],[2],[1,43],[2],[2]] []
def zxj:Ann:=anK [] [[0],[0,3],[3,6,7,8],[3,6,7,8,9],[3,5,6,7,8],[3,6,7,8],[3,6,7,8],[2]] []
def zet:Ann:=anK [] [[0,1,2,3,4],[1,2,3,22],[1,2],[10,11],[10,11]] []
def aNone:Ann:={ lits:=[],live:=fun _=>none,own:=fun _=>[] }
def annTab:List Ann:=[aNone,aNone,aNone,zsj,ztt,zsi,zsk,zqK,zoV,zek,zAf,zek,zvd,ztR,zwu,zyo,zsl,zwt,zAm,zrA,ztZ,zpJ,ztx,zAi,zvk,zAk,zww,ztf,zym,a_law29_at,zzy,ztW,ztV,ztS,ztu,ztw,ztv,zfl,zwx,zwv,zAg,zxl,ztz,zyp,zqc,zdI,zcj,zvj,zrA,zAh,zfl,zry,zcj,zzB,zAl,zvi,zdI,zcj,zAe,zva,zla,zvc,ztT,zfl,ztU,zyn,zrx,zrz,zqM,zsq,zxo,zwy,zdI,zcj,zxn,zpH,zsn,zpI,zty,zso,zel,a_bits_Len,zwz,zAj,zcE,zzA,zel,zek,zsm,zxk,zek,zys,zvf,zxp,zve,zsp,zek,zxm,ztX,zcj,zel,zqN,zpI,zpJ,zt0,ztf,zyq,zyr,zqL,zdr,zd7,zdq,zdJ,zdD,zcK,zdl,zdV,zAc,zAd,zzC,zcj,zcj,ztY,zdr,zd7,zdq,zdJ,zdD,zcK,zdl,zdV,zfl,zek,zvb,zt2,zxq,zwA,ztg,ztA,zdr,zd7,zdq,zdJ,zdD,zcK,zdl,zdV,zzz,zcj,zt1,zek,zfl,zcj,zpK,zvg,zd8,zek,zqO,zdk,zes,ztg,a_ref28_in,zvh,zd8,zdk,zes,zcE,zws,zxj,zfl,zek,zd8,zdk,zes,zek,zet,zet,zcE,zet,aNone,aNone,aNone,aNone,aNone,aNone,aNone,aNone,aNone,aNone,aNone,aNone,aNone,aNone,aNone,aNone]
def zA:AnnF:=fun f=>annTab.getD f aNone
def zaj:Bool→AV×Mem:=(r1 vBool).enc
abbrev zad:RD:={ α:=Bool,enc:=zaj,dec:=(r1 vBool).dec,ok:=(r1 vBool).ok,de:=(r1 vBool).de }
def zrc:zae→AV×Mem:=(r1 (vNewp 2 zaf za1)).enc
abbrev zn0:RD:={ α:=zae,enc:=zrc,dec:=(r1 (vNewp 2 zaf za1)).dec,ok:=(r1 (vNewp 2 zaf za1)).ok,de:=(r1 (vNewp 2 zaf za1)).de }
def zhM:(zay×zae)→AV×Mem:=(r1M (vAgg zhR) (mBox 1000 2 zaf za1)).enc
abbrev zhN:RD:={ α:=zay×zae,enc:=zhM,dec:=(r1M (vAgg zhR) (mBox 1000 2 zaf za1)).dec,ok:=(r1M (vAgg zhR) (mBox 1000 2 zaf za1)).ok,de:=(r1M (vAgg zhR) (mBox 1000 2 zaf za1)).de }
def zdP:(((List zab))×zae)→AV×Mem:=(r1M (vNew 9 zac zav) (mBox 1000 2 zaf za1)).enc
abbrev zeH:RD:={ α:=((List zab))×zae,enc:=zdP,dec:=(r1M (vNew 9 zac zav) (mBox 1000 2 zaf za1)).dec,ok:=(r1M (vNew 9 zac zav) (mBox 1000 2 zaf za1)).ok,de:=(r1M (vNew 9 zac zav) (mBox 1000 2 zaf za1)).de }
def znM:((zbX×Int)×(List zab))→AV×Mem:=(rTM (lCons (vAgg zgR) (lOne (vI .i64))) (mRow 1001 9 zac zav)).enc
abbrev zd2:RD:={ α:=(zbX×Int)×(List zab),enc:=znM,dec:=(rTM (lCons (vAgg zgR) (lOne (vI .i64))) (mRow 1001 9 zac zav)).dec,ok:=(rTM (lCons (vAgg zgR) (lOne (vI .i64))) (mRow 1001 9 zac zav)).ok,de:=(rTM (lCons (vAgg zgR) (lOne (vI .i64))) (mRow 1001 9 zac zav)).de }
def zs5:(((List zab))×zae×(List zab))→AV×Mem:=(r1M (vNew 9 zac zav) (mApp (mBox 1000 2 zaf za1) (mRow 1001 9 zac zav) (fun _ _=>rfl))).enc
abbrev zs6:RD:={ α:=((List zab))×zae×(List zab),enc:=zs5,dec:=(r1M (vNew 9 zac zav) (mApp (mBox 1000 2 zaf za1) (mRow 1001 9 zac zav) (fun _ _=>rfl))).dec,ok:=(r1M (vNew 9 zac zav) (mApp (mBox 1000 2 zaf za1) (mRow 1001 9 zac zav) (fun _ _=>rfl))).ok,de:=(r1M (vNew 9 zac zav) (mApp (mBox 1000 2 zaf za1) (mRow 1001 9 zac zav) (fun _ _=>rfl))).de }
def zlW:((List zab))→AV×Mem:=(r1 (vSl 9 zav)).enc
abbrev ziI:RD:={ α:=(List zab),enc:=zlW,dec:=(r1 (vSl 9 zav)).dec,ok:=(r1 (vSl 9 zav)).ok,de:=(r1 (vSl 9 zav)).de }
def zgi:(zaH×Bool)→AV×Mem:=(rT (lCons (vAgg zb5) (lOne vBool))).enc
abbrev zeI:RD:={ α:=zaH×Bool,enc:=zgi,dec:=(rT (lCons (vAgg zb5) (lOne vBool))).dec,ok:=(rT (lCons (vAgg zb5) (lOne vBool))).ok,de:=(rT (lCons (vAgg zb5) (lOne vBool))).de }
def zhb:((List Int)×Bool)→AV×Mem:=(rT (lCons (vSl 1 zaW) (lOne vBool))).enc
abbrev zhi:RD:={ α:=(List Int)×Bool,enc:=zhb,dec:=(rT (lCons (vSl 1 zaW) (lOne vBool))).dec,ok:=(rT (lCons (vSl 1 zaW) (lOne vBool))).ok,de:=(rT (lCons (vSl 1 zaW) (lOne vBool))).de }
def ziE:(Int×zae)→AV×Mem:=(r1M (vI .i64) (mBox 1000 2 zaf za1)).enc
abbrev zaP:RD:={ α:=Int×zae,enc:=ziE,dec:=(r1M (vI .i64) (mBox 1000 2 zaf za1)).dec,ok:=(r1M (vI .i64) (mBox 1000 2 zaf za1)).ok,de:=(r1M (vI .i64) (mBox 1000 2 zaf za1)).de }
def zkQ:zab→AV×Mem:=(r1 (vAgg zav)).enc
abbrev zeY:RD:={ α:=zab,enc:=zkQ,dec:=(r1 (vAgg zav)).dec,ok:=(r1 (vAgg zav)).ok,de:=(r1 (vAgg zav)).de }
def zoE:zay→AV×Mem:=(r1 (vAgg zhR)).enc
abbrev zgM:RD:={ α:=zay,enc:=zoE,dec:=(r1 (vAgg zhR)).dec,ok:=(r1 (vAgg zhR)).ok,de:=(r1 (vAgg zhR)).de }
def zku:(((List GTask)×Int)×(List zab))→AV×Mem:=(rTM (lCons (vSl 2 zc8) (lOne (vI .i64))) (mRow 1001 9 zac zav)).enc
abbrev zfK:RD:={ α:=((List GTask)×Int)×(List zab),enc:=zku,dec:=(rTM (lCons (vSl 2 zc8) (lOne (vI .i64))) (mRow 1001 9 zac zav)).dec,ok:=(rTM (lCons (vSl 2 zc8) (lOne (vI .i64))) (mRow 1001 9 zac zav)).ok,de:=(rTM (lCons (vSl 2 zc8) (lOne (vI .i64))) (mRow 1001 9 zac zav)).de }
def zg9:((List zbv))→AV×Mem:=(r1 (vNew 8 zaR zcd)).enc
abbrev zhg:RD:={ α:=(List zbv),enc:=zg9,dec:=(r1 (vNew 8 zaR zcd)).dec,ok:=(r1 (vNew 8 zaR zcd)).ok,de:=(r1 (vNew 8 zaR zcd)).de }
def zfJ:(((List zaG)×(List zbt))×zae)→AV×Mem:=(rTM (lCons (vSl 3 zca) (lOne (vSl 2 zdE))) (mBox 1000 2 zaf za1)).enc
abbrev zhd:RD:={ α:=((List zaG)×(List zbt))×zae,enc:=zfJ,dec:=(rTM (lCons (vSl 3 zca) (lOne (vSl 2 zdE))) (mBox 1000 2 zaf za1)).dec,ok:=(rTM (lCons (vSl 3 zca) (lOne (vSl 2 zdE))) (mBox 1000 2 zaf za1)).ok,de:=(rTM (lCons (vSl 3 zca) (lOne (vSl 2 zdE))) (mBox 1000 2 zaf za1)).de }
def zgA:(((List zaZ))×zae)→AV×Mem:=(r1M (vNew 5 zc2 zcw) (mBox 1000 2 zaf za1)).enc
abbrev zgC:RD:={ α:=((List zaZ))×zae,enc:=zgA,dec:=(r1M (vNew 5 zc2 zcw) (mBox 1000 2 zaf za1)).dec,ok:=(r1M (vNew 5 zc2 zcw) (mBox 1000 2 zaf za1)).ok,de:=(r1M (vNew 5 zc2 zcw) (mBox 1000 2 zaf za1)).de }
def zgB:(((List zaH))×zae)→AV×Mem:=(r1M (vNew 7 zb3 zb5) (mBox 1000 2 zaf za1)).enc
abbrev zgE:RD:={ α:=((List zaH))×zae,enc:=zgB,dec:=(r1M (vNew 7 zb3 zb5) (mBox 1000 2 zaf za1)).dec,ok:=(r1M (vNew 7 zb3 zb5) (mBox 1000 2 zaf za1)).ok,de:=(r1M (vNew 7 zb3 zb5) (mBox 1000 2 zaf za1)).de }
def zjw:(za7×zae)→AV×Mem:=(r1M (vAgg zi1) (mBox 1000 2 zaf za1)).enc
abbrev zgD:RD:={ α:=za7×zae,enc:=zjw,dec:=(r1M (vAgg zi1) (mBox 1000 2 zaf za1)).dec,ok:=(r1M (vAgg zi1) (mBox 1000 2 zaf za1)).ok,de:=(r1M (vAgg zi1) (mBox 1000 2 zaf za1)).de }
def zlX:(Bool×zae)→AV×Mem:=(r1M vBool (mBox 1000 2 zaf za1)).enc
abbrev zdo:RD:={ α:=Bool×zae,enc:=zlX,dec:=(r1M vBool (mBox 1000 2 zaf za1)).dec,ok:=(r1M vBool (mBox 1000 2 zaf za1)).ok,de:=(r1M vBool (mBox 1000 2 zaf za1)).de }
def ziF:(GSeed×zae)→AV×Mem:=(r1M (vAgg zeB) (mBox 1000 2 zaf za1)).enc
abbrev ziK:RD:={ α:=GSeed×zae,enc:=ziF,dec:=(r1M (vAgg zeB) (mBox 1000 2 zaf za1)).dec,ok:=(r1M (vAgg zeB) (mBox 1000 2 zaf za1)).ok,de:=(r1M (vAgg zeB) (mBox 1000 2 zaf za1)).de }
def zlY:(zab×zae)→AV×Mem:=(r1M (vAgg zav) (mBox 1000 2 zaf za1)).enc
abbrev ziJ:RD:={ α:=zab×zae,enc:=zlY,dec:=(r1M (vAgg zav) (mBox 1000 2 zaf za1)).dec,ok:=(r1M (vAgg zav) (mBox 1000 2 zaf za1)).ok,de:=(r1M (vAgg zav) (mBox 1000 2 zaf za1)).de }
def zmT:zaG→AV×Mem:=(r1 (vAgg zca)).enc
abbrev zh0:RD:={ α:=zaG,enc:=zmT,dec:=(r1 (vAgg zca)).dec,ok:=(r1 (vAgg zca)).ok,de:=(r1 (vAgg zca)).de }
def zbi:Int→AV×Mem:=(r1 (vI .i64)).enc
abbrev zaM:RD:={ α:=Int,enc:=zbi,dec:=(r1 (vI .i64)).dec,ok:=(r1 (vI .i64)).ok,de:=(r1 (vI .i64)).de }
def zdF:(((List zab)×Int)×(List zab))→AV×Mem:=(rTM (lCons (vSl 9 zav) (lOne (vI .i64))) (mRow 1000 9 zac zav)).enc
abbrev zfh:RD:={ α:=((List zab)×Int)×(List zab),enc:=zdF,dec:=(rTM (lCons (vSl 9 zav) (lOne (vI .i64))) (mRow 1000 9 zac zav)).dec,ok:=(rTM (lCons (vSl 9 zav) (lOne (vI .i64))) (mRow 1000 9 zac zav)).ok,de:=(rTM (lCons (vSl 9 zav) (lOne (vI .i64))) (mRow 1000 9 zac zav)).de }
def zcL:((List (zax×zab)))→AV×Mem:=(r1 (vNewm zbL zcB)).enc
abbrev zd5:RD:={ α:=(List (zax×zab)),enc:=zcL,dec:=(r1 (vNewm zbL zcB)).dec,ok:=(r1 (vNewm zbL zcB)).ok,de:=(r1 (vNewm zbL zcB)).de }
def zdK:((List zbv))→AV×Mem:=(r0M (mRow 1000 8 zaR zcd)).enc
abbrev zbm:RD:={ α:=(List zbv),enc:=zdK,dec:=(r0M (mRow 1000 8 zaR zcd)).dec,ok:=(r0M (mRow 1000 8 zaR zcd)).ok,de:=(r0M (mRow 1000 8 zaR zcd)).de }
def zcJ:((List zab)×Int)→AV×Mem:=(rT (lCons (vSl 9 zav) (lOne (vI .i64)))).enc
abbrev ze6:RD:={ α:=(List zab)×Int,enc:=zcJ,dec:=(rT (lCons (vSl 9 zav) (lOne (vI .i64)))).dec,ok:=(rT (lCons (vSl 9 zav) (lOne (vI .i64)))).ok,de:=(rT (lCons (vSl 9 zav) (lOne (vI .i64)))).de }
def zhZ:(zaZ×Bool)→AV×Mem:=(rT (lCons (vAgg zcw) (lOne vBool))).enc
abbrev zh2:RD:={ α:=zaZ×Bool,enc:=zhZ,dec:=(rT (lCons (vAgg zcw) (lOne vBool))).dec,ok:=(rT (lCons (vAgg zcw) (lOne vBool))).ok,de:=(rT (lCons (vAgg zcw) (lOne vBool))).de }
def zi4:(Int×Bool)→AV×Mem:=(rT (lCons (vI .i64) (lOne vBool))).enc
abbrev zer:RD:={ α:=Int×Bool,enc:=zi4,dec:=(rT (lCons (vI .i64) (lOne vBool))).dec,ok:=(rT (lCons (vI .i64) (lOne vBool))).ok,de:=(rT (lCons (vI .i64) (lOne vBool))).de }
def zd1:((List GTask))→AV×Mem:=(r0M (mRow 1000 2 zbF zc8)).enc
abbrev zbq:RD:={ α:=(List GTask),enc:=zd1,dec:=(r0M (mRow 1000 2 zbF zc8)).dec,ok:=(r0M (mRow 1000 2 zbF zc8)).ok,de:=(r0M (mRow 1000 2 zbF zc8)).de }
def zea:(Nat×(List GTask))→AV×Mem:=(r1M (vRow 1000 2) (mRow 1000 2 zbF zc8)).enc
abbrev zc0:RD:={ α:=Nat×(List GTask),enc:=zea,dec:=(r1M (vRow 1000 2) (mRow 1000 2 zbF zc8)).dec,ok:=(r1M (vRow 1000 2) (mRow 1000 2 zbF zc8)).ok,de:=(r1M (vRow 1000 2) (mRow 1000 2 zbF zc8)).de }
def zlg:(zaG×zae)→AV×Mem:=(r1M (vAgg zca) (mBox 1000 2 zaf za1)).enc
abbrev zeb:RD:={ α:=zaG×zae,enc:=zlg,dec:=(r1M (vAgg zca) (mBox 1000 2 zaf za1)).dec,ok:=(r1M (vAgg zca) (mBox 1000 2 zaf za1)).ok,de:=(r1M (vAgg zca) (mBox 1000 2 zaf za1)).de }
def zkt:(zbt×zae)→AV×Mem:=(r1M (vAgg zdE) (mBox 1000 2 zaf za1)).enc
abbrev zhe:RD:={ α:=zbt×zae,enc:=zkt,dec:=(r1M (vAgg zdE) (mBox 1000 2 zaf za1)).dec,ok:=(r1M (vAgg zdE) (mBox 1000 2 zaf za1)).ok,de:=(r1M (vAgg zdE) (mBox 1000 2 zaf za1)).de }
def zg8:(zaH×zae)→AV×Mem:=(r1M (vAgg zb5) (mBox 1000 2 zaf za1)).enc
abbrev zhf:RD:={ α:=zaH×zae,enc:=zg8,dec:=(r1M (vAgg zb5) (mBox 1000 2 zaf za1)).dec,ok:=(r1M (vAgg zb5) (mBox 1000 2 zaf za1)).ok,de:=(r1M (vAgg zb5) (mBox 1000 2 zaf za1)).de }
def zdQ:(((List ((Int×Int)×za3)))×(List zab))→AV×Mem:=(r1M (vNewm zbo zbV) (mRow 1000 9 zac zav)).enc
abbrev ziM:RD:={ α:=((List ((Int×Int)×za3)))×(List zab),enc:=zdQ,dec:=(r1M (vNewm zbo zbV) (mRow 1000 9 zac zav)).dec,ok:=(r1M (vNewm zbo zbV) (mRow 1000 9 zac zav)).ok,de:=(r1M (vNewm zbo zbV) (mRow 1000 9 zac zav)).de }
def zcS:((List zab))→AV×Mem:=(r0M (mRow 1000 9 zac zav)).enc
abbrev zba:RD:={ α:=(List zab),enc:=zcS,dec:=(r0M (mRow 1000 9 zac zav)).dec,ok:=(r0M (mRow 1000 9 zac zav)).ok,de:=(r0M (mRow 1000 9 zac zav)).de }
def zbQ:zah→AV×Mem:=(r0M zjQ).enc
abbrev zcq:RD:={ α:=zah,enc:=zbQ,dec:=(r0M zjQ).dec,ok:=(r0M zjQ).ok,de:=(r0M zjQ).de }
def zeW:(Int×(Option Addr))→AV×Mem:=(rT (lCons (vI .i64) (lOne vPtr))).enc
abbrev zf8:RD:={ α:=Int×(Option Addr),enc:=zeW,dec:=(rT (lCons (vI .i64) (lOne vPtr))).dec,ok:=(rT (lCons (vI .i64) (lOne vPtr))).ok,de:=(rT (lCons (vI .i64) (lOne vPtr))).de }
def zgo:(GSeed×Bool)→AV×Mem:=(rT (lCons (vAgg zeB) (lOne vBool))).enc
abbrev ziL:RD:={ α:=GSeed×Bool,enc:=zgo,dec:=(rT (lCons (vAgg zeB) (lOne vBool))).dec,ok:=(rT (lCons (vAgg zeB) (lOne vBool))).ok,de:=(rT (lCons (vAgg zeB) (lOne vBool))).de }
def zgq:((List ((Int×Int)×Int))×(List ((Int×Int)×Bool)))→AV×Mem:=(rT (lCons (vMp ze4) (lOne (vMp zfp)))).enc
abbrev ziN:RD:={ α:=(List ((Int×Int)×Int))×(List ((Int×Int)×Bool)),enc:=zgq,dec:=(rT (lCons (vMp ze4) (lOne (vMp zfp)))).dec,ok:=(rT (lCons (vMp ze4) (lOne (vMp zfp)))).ok,de:=(rT (lCons (vMp ze4) (lOne (vMp zfp)))).de }
def zgp:((List zab))→AV×Mem:=(r1 (vNew 9 zac zav)).enc
abbrev zh3:RD:={ α:=(List zab),enc:=zgp,dec:=(r1 (vNew 9 zac zav)).dec,ok:=(r1 (vNew 9 zac zav)).ok,de:=(r1 (vNew 9 zac zav)).de }
def zeX:((List Int)×Int)→AV×Mem:=(rT (lCons (vSl 1 zaW) (lOne (vI .i64)))).enc
abbrev zjN:RD:={ α:=(List Int)×Int,enc:=zeX,dec:=(rT (lCons (vSl 1 zaW) (lOne (vI .i64)))).dec,ok:=(rT (lCons (vSl 1 zaW) (lOne (vI .i64)))).ok,de:=(rT (lCons (vSl 1 zaW) (lOne (vI .i64)))).de }
def zha:((Int×Int))→AV×Mem:=(r1 (vAgg zec)).enc
abbrev zfL:RD:={ α:=(Int×Int),enc:=zha,dec:=(r1 (vAgg zec)).dec,ok:=(r1 (vAgg zec)).ok,de:=(r1 (vAgg zec)).de }
def zhv:((List Int))→AV×Mem:=(r1 (vNew 1 za5 zaW)).enc
abbrev zep:RD:={ α:=(List Int),enc:=zhv,dec:=(r1 (vNew 1 za5 zaW)).dec,ok:=(r1 (vNew 1 za5 zaW)).ok,de:=(r1 (vNew 1 za5 zaW)).de }
def zkR:(zc3×Int)→AV×Mem:=(rT (lCons (vAgg zrJ) (lOne (vI .i64)))).enc
abbrev zkT:RD:={ α:=zc3×Int,enc:=zkR,dec:=(rT (lCons (vAgg zrJ) (lOne (vI .i64)))).dec,ok:=(rT (lCons (vAgg zrJ) (lOne (vI .i64)))).ok,de:=(rT (lCons (vAgg zrJ) (lOne (vI .i64)))).de }
def zjU:(Int×Int)→AV×Mem:=(rT (lCons (vI .i64) (lOne (vI .i64)))).enc
abbrev zdL:RD:={ α:=Int×Int,enc:=zjU,dec:=(rT (lCons (vI .i64) (lOne (vI .i64)))).dec,ok:=(rT (lCons (vI .i64) (lOne (vI .i64)))).ok,de:=(rT (lCons (vI .i64) (lOne (vI .i64)))).de }
def zgI:(Bool×(List zbv))→AV×Mem:=(r1M vBool (mRow 1000 8 zaR zcd)).enc
abbrev zgJ:RD:={ α:=Bool×(List zbv),enc:=zgI,dec:=(r1M vBool (mRow 1000 8 zaR zcd)).dec,ok:=(r1M vBool (mRow 1000 8 zaR zcd)).ok,de:=(r1M vBool (mRow 1000 8 zaR zcd)).de }
def ziH:(Int×(List zbv))→AV×Mem:=(r1M (vI .i64) (mRow 1000 8 zaR zcd)).enc
abbrev ziO:RD:={ α:=Int×(List zbv),enc:=ziH,dec:=(r1M (vI .i64) (mRow 1000 8 zaR zcd)).dec,ok:=(r1M (vI .i64) (mRow 1000 8 zaR zcd)).ok,de:=(r1M (vI .i64) (mRow 1000 8 zaR zcd)).de }
def zkS:((Int×Bool)×(List zbv))→AV×Mem:=(rTM (lCons (vI .i64) (lOne vBool)) (mRow 1000 8 zaR zcd)).enc
abbrev zkU:RD:={ α:=(Int×Bool)×(List zbv),enc:=zkS,dec:=(rTM (lCons (vI .i64) (lOne vBool)) (mRow 1000 8 zaR zcd)).dec,ok:=(rTM (lCons (vI .i64) (lOne vBool)) (mRow 1000 8 zaR zcd)).ok,de:=(rTM (lCons (vI .i64) (lOne vBool)) (mRow 1000 8 zaR zcd)).de }
def zhc:(Bool×(List GTask))→AV×Mem:=(r1M vBool (mRow 1000 2 zbF zc8)).enc
abbrev zhj:RD:={ α:=Bool×(List GTask),enc:=zhc,dec:=(r1M vBool (mRow 1000 2 zbF zc8)).dec,ok:=(r1M vBool (mRow 1000 2 zbF zc8)).ok,de:=(r1M vBool (mRow 1000 2 zbF zc8)).de }
def zi6:(Int×(List GTask))→AV×Mem:=(r1M (vI .i64) (mRow 1000 2 zbF zc8)).enc
abbrev zi8:RD:={ α:=Int×(List GTask),enc:=zi6,dec:=(r1M (vI .i64) (mRow 1000 2 zbF zc8)).dec,ok:=(r1M (vI .i64) (mRow 1000 2 zbF zc8)).ok,de:=(r1M (vI .i64) (mRow 1000 2 zbF zc8)).de }
def zlh:((Int×Bool)×(List GTask))→AV×Mem:=(rTM (lCons (vI .i64) (lOne vBool)) (mRow 1000 2 zbF zc8)).enc
abbrev zli:RD:={ α:=(Int×Bool)×(List GTask),enc:=zlh,dec:=(rTM (lCons (vI .i64) (lOne vBool)) (mRow 1000 2 zbF zc8)).dec,ok:=(rTM (lCons (vI .i64) (lOne vBool)) (mRow 1000 2 zbF zc8)).ok,de:=(rTM (lCons (vI .i64) (lOne vBool)) (mRow 1000 2 zbF zc8)).de }
def zf7:(Bool×(List zab))→AV×Mem:=(r1M vBool (mRow 1000 9 zac zav)).enc
abbrev zf9:RD:={ α:=Bool×(List zab),enc:=zf7,dec:=(r1M vBool (mRow 1000 9 zac zav)).dec,ok:=(r1M vBool (mRow 1000 9 zac zav)).ok,de:=(r1M vBool (mRow 1000 9 zac zav)).de }
def zhw:(Int×(List zab))→AV×Mem:=(r1M (vI .i64) (mRow 1000 9 zac zav)).enc
abbrev zhx:RD:={ α:=Int×(List zab),enc:=zhw,dec:=(r1M (vI .i64) (mRow 1000 9 zac zav)).dec,ok:=(r1M (vI .i64) (mRow 1000 9 zac zav)).ok,de:=(r1M (vI .i64) (mRow 1000 9 zac zav)).de }
def zi5:((Int×Bool)×(List zab))→AV×Mem:=(rTM (lCons (vI .i64) (lOne vBool)) (mRow 1000 9 zac zav)).enc
abbrev zi7:RD:={ α:=(Int×Bool)×(List zab),enc:=zi5,dec:=(rTM (lCons (vI .i64) (lOne vBool)) (mRow 1000 9 zac zav)).dec,ok:=(rTM (lCons (vI .i64) (lOne vBool)) (mRow 1000 9 zac zav)).ok,de:=(rTM (lCons (vI .i64) (lOne vBool)) (mRow 1000 9 zac zav)).de }
def zgr:((List Bool))→AV×Mem:=(r1 (vNew 1 zfv dBool)).enc
abbrev zeZ:RD:={ α:=(List Bool),enc:=zgr,dec:=(r1 (vNew 1 zfv dBool)).dec,ok:=(r1 (vNew 1 zfv dBool)).ok,de:=(r1 (vNew 1 zfv dBool)).de }
def zk4:Int→AV×Mem:=(r1 (vI .u64)).enc
abbrev zd6:RD:={ α:=Int,enc:=zk4,dec:=(r1 (vI .u64)).dec,ok:=(r1 (vI .u64)).ok,de:=(r1 (vI .u64)).de }
def zlv:(Int×Int)→AV×Mem:=(r1M (vI .u64) (mBox 1000 1 zcs zoe)).enc
abbrev zeq:RD:={ α:=Int×Int,enc:=zlv,dec:=(r1M (vI .u64) (mBox 1000 1 zcs zoe)).dec,ok:=(r1M (vI .u64) (mBox 1000 1 zcs zoe)).ok,de:=(r1M (vI .u64) (mBox 1000 1 zcs zoe)).de }
def ziG:(Int×Int)→AV×Mem:=(r1M (vI .i64) (mBox 1002 1 za5 zaW)).enc
abbrev zdp:RD:={ α:=Int×Int,enc:=ziG,dec:=(r1M (vI .i64) (mBox 1002 1 za5 zaW)).dec,ok:=(r1M (vI .i64) (mBox 1002 1 za5 zaW)).ok,de:=(r1M (vI .i64) (mBox 1002 1 za5 zaW)).de }
def zlZ:(Int×Int)→AV×Mem:=(r1M (vI .i64) (mBox 1004 1 za5 zaW)).enc
abbrev zew:RD:={ α:=Int×Int,enc:=zlZ,dec:=(r1M (vI .i64) (mBox 1004 1 za5 zaW)).dec,ok:=(r1M (vI .i64) (mBox 1004 1 za5 zaW)).ok,de:=(r1M (vI .i64) (mBox 1004 1 za5 zaW)).de }
def zl0:((Int×Int)×Int)→AV×Mem:=(rTM (lCons (vI .i64) (lOne (vI .i64))) (mBox 1003 1 za5 zaW)).enc
abbrev zex:RD:={ α:=(Int×Int)×Int,enc:=zl0,dec:=(rTM (lCons (vI .i64) (lOne (vI .i64))) (mBox 1003 1 za5 zaW)).dec,ok:=(rTM (lCons (vI .i64) (lOne (vI .i64))) (mBox 1003 1 za5 zaW)).ok,de:=(rTM (lCons (vI .i64) (lOne (vI .i64))) (mBox 1003 1 za5 zaW)).de }
def resTab:List RD:=[rRaw,rRaw,rRaw,zad,zad,zad,zad,zad,zad,zad,zad,zn0,zhN,zeH,zeH,zd2,zs6,ziI,zad,zeI,zhi,zad,zad,zad,zad,zad,zaP,zad,zad,zeY,zgM,zfK,zhg,zhd,zgC,zgE,zgD,zdo,ziK,ziJ,zh0,zaM,zfh,zh1,zd5,zbm,zaM,ze6,zh2,zad,zad,zad,zaM,zer,zad,zad,zbq,zaM,zaM,zaM,zc0,zeb,zhe,zaP,zhf,zaM,zaM,zad,zad,zad,zaM,ziM,zba,zaM,zeY,zcq,zf8,ziL,zcq,zad,zbm,zaM,ziN,zh3,zaM,zad,zbq,zad,zad,zad,zad,zad,zer,zjN,zer,zad,zad,zad,zfL,zad,zba,zep,zeI,zad,zad,zad,zad,zkT,zcq,zbm,zbm,zbm,zdL,zbm,zgJ,ziO,zkU,zaM,zaM,zad,zad,zad,zad,zbq,zbq,zbq,zdL,zbq,zhj,zi8,zli,zad,zad,zad,zad,zad,zad,zad,zad,zba,zba,zba,zdL,zba,zf9,zhx,zi7,zh2,zad,zad,zad,zaM,zad,zeZ,zad,zbm,zd6,zeq,zdp,zew,zad,zad,zad,zbq,zdp,zew,zaM,zad,zaM,zad,zad,zba,zdp,zew,zad,zex,zex,zaM,zex,rRaw,rRaw,rRaw,rRaw,rRaw,rRaw,rRaw,rRaw,rRaw,rRaw,rRaw,rRaw,rRaw,rRaw,rRaw,rRaw]
def zw3:(zbX×Int)→AV×Mem:=(rT (lCons (vAgg zgR) (lOne (vI .i64)))).enc
abbrev zw4:RD:={ α:=zbX×Int,enc:=zw3,dec:=(rT (lCons (vAgg zgR) (lOne (vI .i64)))).dec,ok:=(rT (lCons (vAgg zgR) (lOne (vI .i64)))).ok,de:=(rT (lCons (vAgg zgR) (lOne (vI .i64)))).de }
def zde:((List ((Int×Int)×za3)))→AV×Mem:=(r1 (vNewm zbo zbV)).enc
abbrev zhh:RD:={ α:=(List ((Int×Int)×za3)),enc:=zde,dec:=(r1 (vNewm zbo zbV)).dec,ok:=(r1 (vNewm zbo zbV)).ok,de:=(r1 (vNewm zbo zbV)).de }
def zT:Dic:=Dic.of tyTab resTab [(15,zw4),(42,ze6),(71,zhh)]
abbrev zgv:Fr:=⟨Tryz.prog,zC,zA,4,Tryz.f4,[]⟩
abbrev zzY:Fr:=⟨Tryz.prog,zC,zA,9,Tryz.f9,[]⟩
abbrev zzX:Fr:=⟨Tryz.prog,zC,zA,10,Tryz.f10,[]⟩
abbrev zAW:Fr:=⟨Tryz.prog,zC,zA,11,Tryz.f11,[]⟩
abbrev zoJ:Fr:=⟨Tryz.prog,zC,zA,12,Tryz.f12,[(1000,⟨0,0,[],false⟩)]⟩
abbrev zn5:Fr:=⟨Tryz.prog,zC,zA,13,Tryz.f13,[(1000,⟨0,0,[],false⟩)]⟩
abbrev zif:Fr:=⟨Tryz.prog,zC,zA,14,Tryz.f14,[(1000,⟨0,0,[],false⟩)]⟩
abbrev zaT:Fr:=⟨Tryz.prog,zC,zA,15,Tryz.f15,[(1001,⟨0,0,[],false⟩)]⟩
abbrev zwa:Fr:=⟨Tryz.prog,zC,zA,17,Tryz.f17,[]⟩
abbrev zrp:Fr:=⟨Tryz.prog,zC,zA,19,Tryz.f19,[]⟩
abbrev zoa:Fr:=⟨Tryz.prog,zC,zA,20,Tryz.f20,[]⟩
abbrev zwg:Fr:=⟨Tryz.prog,zC,zA,21,Tryz.f21,[]⟩
abbrev ztr:Fr:=⟨Tryz.prog,zC,zA,22,Tryz.f22,[]⟩
abbrev zzZ:Fr:=⟨Tryz.prog,zC,zA,23,Tryz.f23,[]⟩
abbrev zoN:Fr:=⟨Tryz.prog,zC,zA,24,Tryz.f24,[]⟩
abbrev zwc:Fr:=⟨Tryz.prog,zC,zA,26,Tryz.f26,[(1000,⟨0,0,[],false⟩)]⟩
abbrev R_law29_at:Fr:=⟨Tryz.prog,zC,zA,29,Tryz.f29,[]⟩
abbrev zey:Fr:=⟨Tryz.prog,zC,zA,31,Tryz.f31,[(1001,⟨0,0,[],false⟩)]⟩
abbrev zn7:Fr:=⟨Tryz.prog,zC,zA,32,Tryz.f32,[]⟩
abbrev zgN:Fr:=⟨Tryz.prog,zC,zA,33,Tryz.f33,[(1000,⟨0,0,[],false⟩)]⟩
abbrev zm7:Fr:=⟨Tryz.prog,zC,zA,34,Tryz.f34,[(1000,⟨0,0,[],false⟩)]⟩
abbrev zgw:Fr:=⟨Tryz.prog,zC,zA,35,Tryz.f35,[(1000,⟨0,0,[],false⟩)]⟩
abbrev ztq:Fr:=⟨Tryz.prog,zC,zA,36,Tryz.f36,[(1000,⟨0,0,[],false⟩)]⟩
abbrev zwb:Fr:=⟨Tryz.prog,zC,zA,37,Tryz.f37,[(1000,⟨0,0,[],false⟩)]⟩
abbrev zpu:Fr:=⟨Tryz.prog,zC,zA,38,Tryz.f38,[(1000,⟨0,0,[],false⟩)]⟩
abbrev zlG:Fr:=⟨Tryz.prog,zC,zA,39,Tryz.f39,[(1000,⟨0,0,[],false⟩)]⟩
abbrev ztJ:Fr:=⟨Tryz.prog,zC,zA,40,Tryz.f40,[]⟩
abbrev zxa:Fr:=⟨Tryz.prog,zC,zA,41,Tryz.f41,[]⟩
abbrev zaJ:Fr:=⟨Tryz.prog,zC,zA,42,Tryz.f42,[(1000,⟨0,0,[],false⟩)]⟩
abbrev zaF:Fr:=⟨Tryz.prog,zC,zA,43,Tryz.f43,[]⟩
abbrev zkX:Fr:=⟨Tryz.prog,zC,zA,44,Tryz.f44,[]⟩
abbrev zjR:Fr:=⟨Tryz.prog,zC,zA,45,Tryz.f45,[(1000,⟨0,0,[],false⟩)]⟩
abbrev zqI:Fr:=⟨Tryz.prog,zC,zA,46,Tryz.f46,[]⟩
abbrev zoM:Fr:=⟨Tryz.prog,zC,zA,47,Tryz.f47,[]⟩
abbrev ztN:Fr:=⟨Tryz.prog,zC,zA,48,Tryz.f48,[]⟩
abbrev ztO:Fr:=⟨Tryz.prog,zC,zA,49,Tryz.f49,[]⟩
abbrev zfY:Fr:=⟨Tryz.prog,zC,zA,50,Tryz.f50,[]⟩
abbrev zrk:Fr:=⟨Tryz.prog,zC,zA,51,Tryz.f51,[]⟩
abbrev zxg:Fr:=⟨Tryz.prog,zC,zA,52,Tryz.f52,[]⟩
abbrev ztI:Fr:=⟨Tryz.prog,zC,zA,58,Tryz.f58,[]⟩
abbrev zu5:Fr:=⟨Tryz.prog,zC,zA,59,Tryz.f59,[]⟩
abbrev zk7:Fr:=⟨Tryz.prog,zC,zA,61,Tryz.f61,[(1000,⟨0,0,[],false⟩)]⟩
abbrev zjV:Fr:=⟨Tryz.prog,zC,zA,62,Tryz.f62,[(1000,⟨0,0,[],false⟩)]⟩
abbrev zwd:Fr:=⟨Tryz.prog,zC,zA,63,Tryz.f63,[(1000,⟨0,0,[],false⟩)]⟩
abbrev zn6:Fr:=⟨Tryz.prog,zC,zA,64,Tryz.f64,[(1000,⟨0,0,[],false⟩)]⟩
abbrev zrj:Fr:=⟨Tryz.prog,zC,zA,65,Tryz.f65,[]⟩
abbrev zl4:Fr:=⟨Tryz.prog,zC,zA,66,Tryz.f66,[]⟩
abbrev zl5:Fr:=⟨Tryz.prog,zC,zA,67,Tryz.f67,[]⟩
abbrev zlk:Fr:=⟨Tryz.prog,zC,zA,68,Tryz.f68,[]⟩
abbrev zig:Fr:=⟨Tryz.prog,zC,zA,69,Tryz.f69,[]⟩
abbrev zxd:Fr:=⟨Tryz.prog,zC,zA,70,Tryz.f70,[]⟩
abbrev zpx:Fr:=⟨Tryz.prog,zC,zA,71,Tryz.f71,[(1000,⟨0,0,[],false⟩)]⟩
abbrev zgO:Fr:=⟨Tryz.prog,zC,zA,72,Tryz.f72,[(1000,⟨0,0,[],false⟩)]⟩
abbrev zrl:Fr:=⟨Tryz.prog,zC,zA,73,Tryz.f73,[]⟩
abbrev zxc:Fr:=⟨Tryz.prog,zC,zA,74,Tryz.f74,[]⟩
abbrev zpv:Fr:=⟨Tryz.prog,zC,zA,75,Tryz.f75,[(1000,⟨0,0,[],false⟩),(900,⟨0,0,[],false⟩),(901,⟨0,0,[],false⟩),(902,⟨0,0,[],false⟩)]⟩
abbrev zeM:Fr:=⟨Tryz.prog,zC,zA,76,Tryz.f76,[]⟩
abbrev zpw:Fr:=⟨Tryz.prog,zC,zA,77,Tryz.f77,[]⟩
abbrev zm8:Fr:=⟨Tryz.prog,zC,zA,78,Tryz.f78,[(1000,⟨0,0,[],false⟩),(900,⟨0,0,[],false⟩),(901,⟨0,0,[],false⟩),(902,⟨0,0,[],false⟩)]⟩
abbrev zmy:Fr:=⟨Tryz.prog,zC,zA,79,Tryz.f79,[]⟩
abbrev zln:Fr:=⟨Tryz.prog,zC,zA,80,Tryz.f80,[(1000,⟨0,0,[],false⟩)]⟩
abbrev zpy:Fr:=⟨Tryz.prog,zC,zA,82,Tryz.f82,[]⟩
abbrev zjW:Fr:=⟨Tryz.prog,zC,zA,83,Tryz.f83,[]⟩
abbrev zdM:Fr:=⟨Tryz.prog,zC,zA,84,Tryz.f84,[]⟩
abbrev zw9:Fr:=⟨Tryz.prog,zC,zA,87,Tryz.f87,[]⟩
abbrev zsb:Fr:=⟨Tryz.prog,zC,zA,88,Tryz.f88,[]⟩
abbrev zqo:Fr:=⟨Tryz.prog,zC,zA,89,Tryz.f89,[]⟩
abbrev zwe:Fr:=⟨Tryz.prog,zC,zA,90,Tryz.f90,[]⟩
abbrev zrq:Fr:=⟨Tryz.prog,zC,zA,91,Tryz.f91,[]⟩
abbrev zoK:Fr:=⟨Tryz.prog,zC,zA,92,Tryz.f92,[]⟩
abbrev zmA:Fr:=⟨Tryz.prog,zC,zA,93,Tryz.f93,[]⟩
abbrev zu7:Fr:=⟨Tryz.prog,zC,zA,94,Tryz.f94,[]⟩
abbrev zmz:Fr:=⟨Tryz.prog,zC,zA,95,Tryz.f95,[]⟩
abbrev zu8:Fr:=⟨Tryz.prog,zC,zA,96,Tryz.f96,[]⟩
abbrev zxb:Fr:=⟨Tryz.prog,zC,zA,97,Tryz.f97,[]⟩
abbrev ztK:Fr:=⟨Tryz.prog,zC,zA,98,Tryz.f98,[]⟩
abbrev zyk:Fr:=⟨Tryz.prog,zC,zA,99,Tryz.f99,[]⟩
abbrev zjT:Fr:=⟨Tryz.prog,zC,zA,100,Tryz.f100,[(1000,⟨0,0,[],false⟩)]⟩
abbrev zbs:Fr:=⟨Tryz.prog,zC,zA,101,Tryz.f101,[]⟩
abbrev zn8:Fr:=⟨Tryz.prog,zC,zA,102,Tryz.f102,[]⟩
abbrev zu6:Fr:=⟨Tryz.prog,zC,zA,103,Tryz.f103,[]⟩
abbrev ztP:Fr:=⟨Tryz.prog,zC,zA,104,Tryz.f104,[]⟩
abbrev zll:Fr:=⟨Tryz.prog,zC,zA,105,Tryz.f105,[]⟩
abbrev zrn:Fr:=⟨Tryz.prog,zC,zA,106,Tryz.f106,[]⟩
abbrev zro:Fr:=⟨Tryz.prog,zC,zA,107,Tryz.f107,[]⟩
abbrev zej:Fr:=⟨Tryz.prog,zC,zA,108,Tryz.f108,[(1000,⟨0,0,[],false⟩),(900,⟨0,0,[],false⟩),(901,⟨0,0,[],false⟩),(902,⟨0,0,[],false⟩)]⟩
abbrev ziW:Fr:=⟨Tryz.prog,zC,zA,109,Tryz.f109,[(1000,⟨0,0,[],false⟩)]⟩
abbrev zk8:Fr:=⟨Tryz.prog,zC,zA,110,Tryz.f110,[(1000,⟨0,0,[],false⟩)]⟩
abbrev ziV:Fr:=⟨Tryz.prog,zC,zA,111,Tryz.f111,[(1000,⟨0,0,[],false⟩)]⟩
abbrev zjS:Fr:=⟨Tryz.prog,zC,zA,112,Tryz.f112,[]⟩
abbrev zjp:Fr:=⟨Tryz.prog,zC,zA,113,Tryz.f113,[(1000,⟨0,0,[],false⟩)]⟩
abbrev zgF:Fr:=⟨Tryz.prog,zC,zA,114,Tryz.f114,[(1000,⟨0,0,[],false⟩)]⟩
abbrev zii:Fr:=⟨Tryz.prog,zC,zA,115,Tryz.f115,[(1000,⟨0,0,[],false⟩)]⟩
abbrev zkC:Fr:=⟨Tryz.prog,zC,zA,116,Tryz.f116,[(1000,⟨0,0,[],false⟩)]⟩
abbrev zte:Fr:=⟨Tryz.prog,zC,zA,119,Tryz.f119,[]⟩
abbrev zz0:Fr:=⟨Tryz.prog,zC,zA,120,Tryz.f120,[]⟩
abbrev zyl:Fr:=⟨Tryz.prog,zC,zA,121,Tryz.f121,[]⟩
abbrev zfb:Fr:=⟨Tryz.prog,zC,zA,131,Tryz.f131,[]⟩
abbrev zqH:Fr:=⟨Tryz.prog,zC,zA,132,Tryz.f132,[]⟩
abbrev zoI:Fr:=⟨Tryz.prog,zC,zA,133,Tryz.f133,[]⟩
abbrev zob:Fr:=⟨Tryz.prog,zC,zA,134,Tryz.f134,[]⟩
abbrev zxf:Fr:=⟨Tryz.prog,zC,zA,135,Tryz.f135,[]⟩
abbrev zwh:Fr:=⟨Tryz.prog,zC,zA,136,Tryz.f136,[]⟩
abbrev zzw:Fr:=⟨Tryz.prog,zC,zA,137,Tryz.f137,[]⟩
abbrev zts:Fr:=⟨Tryz.prog,zC,zA,138,Tryz.f138,[]⟩
abbrev zhC:Fr:=⟨Tryz.prog,zC,zA,139,Tryz.f139,[(1000,⟨0,0,[],false⟩)]⟩
abbrev zjo:Fr:=⟨Tryz.prog,zC,zA,140,Tryz.f140,[(1000,⟨0,0,[],false⟩)]⟩
abbrev zhB:Fr:=⟨Tryz.prog,zC,zA,141,Tryz.f141,[(1000,⟨0,0,[],false⟩)]⟩
abbrev zh5:Fr:=⟨Tryz.prog,zC,zA,142,Tryz.f142,[]⟩
abbrev zhP:Fr:=⟨Tryz.prog,zC,zA,143,Tryz.f143,[(1000,⟨0,0,[],false⟩)]⟩
abbrev zf2:Fr:=⟨Tryz.prog,zC,zA,144,Tryz.f144,[(1000,⟨0,0,[],false⟩)]⟩
abbrev zhn:Fr:=⟨Tryz.prog,zC,zA,145,Tryz.f145,[(1000,⟨0,0,[],false⟩)]⟩
abbrev ziX:Fr:=⟨Tryz.prog,zC,zA,146,Tryz.f146,[(1000,⟨0,0,[],false⟩)]⟩
abbrev ztd:Fr:=⟨Tryz.prog,zC,zA,147,Tryz.f147,[]⟩
abbrev zwf:Fr:=⟨Tryz.prog,zC,zA,148,Tryz.f148,[]⟩
abbrev ztQ:Fr:=⟨Tryz.prog,zC,zA,149,Tryz.f149,[]⟩
abbrev ztM:Fr:=⟨Tryz.prog,zC,zA,150,Tryz.f150,[]⟩
abbrev ztL:Fr:=⟨Tryz.prog,zC,zA,151,Tryz.f151,[]⟩
abbrev zxe:Fr:=⟨Tryz.prog,zC,zA,152,Tryz.f152,[]⟩
abbrev zbl:Fr:=⟨Tryz.prog,zC,zA,153,Tryz.f153,[]⟩
abbrev zoL:Fr:=⟨Tryz.prog,zC,zA,154,Tryz.f154,[]⟩
abbrev zk9:Fr:=⟨Tryz.prog,zC,zA,155,Tryz.f155,[(1000,⟨0,0,[],false⟩)]⟩
abbrev zqb:Fr:=⟨Tryz.prog,zC,zA,156,Tryz.f156,[]⟩
abbrev zqJ:Fr:=⟨Tryz.prog,zC,zA,157,Tryz.f157,[(1000,⟨0,0,[],false⟩)]⟩
abbrev zih:Fr:=⟨Tryz.prog,zC,zA,158,Tryz.f158,[(1002,⟨0,0,[],false⟩)]⟩
abbrev zlH:Fr:=⟨Tryz.prog,zC,zA,159,Tryz.f159,[(1004,⟨0,0,[],false⟩)]⟩
abbrev zzv:Fr:=⟨Tryz.prog,zC,zA,160,Tryz.f160,[]⟩
abbrev R_ref28_in:Fr:=⟨Tryz.prog,zC,zA,161,Tryz.f161,[]⟩
abbrev zcM:Fr:=⟨Tryz.prog,zC,zA,166,Tryz.f166,[]⟩
abbrev zv9:Fr:=⟨Tryz.prog,zC,zA,167,Tryz.f167,[]⟩
abbrev zqn:Fr:=⟨Tryz.prog,zC,zA,168,Tryz.f168,[]⟩
abbrev zoU:Fr:=⟨Tryz.prog,zC,zA,169,Tryz.f169,[]⟩
abbrev zrm:Fr:=⟨Tryz.prog,zC,zA,170,Tryz.f170,[]⟩
abbrev zjq:Fr:=⟨Tryz.prog,zC,zA,171,Tryz.f171,[(1000,⟨0,0,[],false⟩)]⟩
abbrev zhm:Fr:=⟨Tryz.prog,zC,zA,172,Tryz.f172,[(1002,⟨0,0,[],false⟩)]⟩
abbrev zjX:Fr:=⟨Tryz.prog,zC,zA,173,Tryz.f173,[(1004,⟨0,0,[],false⟩)]⟩
abbrev zsc:Fr:=⟨Tryz.prog,zC,zA,174,Tryz.f174,[]⟩
abbrev zlI:Fr:=⟨Tryz.prog,zC,zA,175,Tryz.f175,[(1003,⟨0,0,[],false⟩)]⟩
abbrev zlm:Fr:=⟨Tryz.prog,zC,zA,177,Tryz.f177,[]⟩
abbrev zjY:Fr:=⟨Tryz.prog,zC,zA,178,Tryz.f178,[(1003,⟨0,0,[],false⟩)]⟩
abbrev zn9:Fr:=⟨Tryz.prog,zC,zA,71,Tryz.f71,[]⟩
abbrev cw:zby:=callw Tryz.prog zC zA
abbrev zP:Program:=Tryz.prog
theorem ke_117 (x y:zax):keyEq zP 117 (.agg (zbg x)) (.agg (zbg y))=some (decide (y=x)):=by
 have h1:eqV zP 20 117 [(.int .i64 x.script:Value),(.int .i64 x.part:Value)] [(.int .i64 y.script:Value),(.int .i64 y.part:Value)]=some (x.script == y.script && (x.part == y.part && true)):=by kernel_rfl
 have h2:bitsL [(.int .i64 x.script:Value),(.int .i64 x.part:Value)] [(.int .i64 y.script:Value),(.int .i64 y.part:Value)]=some (x.script == y.script && (x.part == y.part && true)):=by kernel_rfl
 have h:keyEq zP 117 (.agg (zbg x)) (.agg (zbg y))=agree (eqV zP 20 117 [(.int .i64 x.script:Value),(.int .i64 x.part:Value)] [(.int .i64 y.script:Value),(.int .i64 y.part:Value)]) (bitsL [(.int .i64 x.script:Value),(.int .i64 x.part:Value)] [(.int .i64 y.script:Value),(.int .i64 y.part:Value)]):=by kernel_rfl
 rw [h,h1,h2]; have ha:∀ b:Bool,agree (some b) (some b)=some b:=fun b=>by simp [agree]
 rw [ha]; refine congrArg some ?_; by_cases e:y=x
 · rw [decide_eq_true e,e]; simp
 · rw [decide_eq_false e,Bool.eq_false_iff]; intro q; simp only [zbS,beq_iff_eq,and_true] at q; refine e (zcP.inj ?_); show [I (y.script),I (y.part)]=[I (x.script),I (x.part)]; simp only [q]
theorem zhA {β:Type} (z:zaN) (key:zax) (l:List (zax×zaN)) (k:zaN→Bool→Option β):mapD zP 117 true zmc (.agg (zbu z)) (List.map zal l) (.agg (zbg key)) k=k ((mfind key l).getD z) (mfind key l).isSome:=
 znG (agg:=true) (D:=zmc) (kenc:=fun x=>.agg (zbg x)) (venc:=fun x=>.agg (zbu x)) ke_117 (show ∀ x:zaN,avDec true zmc (.agg (zbu x))=some x from fun x=>zmc.de x) z key l k
theorem zm5 {β:Type} (key:zax) (v:zaN) (l:List (zax×zaN)) (k:List (List AV)→Option β):msetD zP 117 49 (.agg (zbg key)) (.agg (zbu v)) (List.map zal l) k=k (List.map zal (mput key v l)):=
 zml (kenc:=fun x=>.agg (zbg x)) (venc:=fun x=>.agg (zbu x)) ke_117 key v l k
theorem zk2 {β:Type} (z:Int) (key:zax) (l:List (zax×Int)) (k:Int→Bool→Option β):mapD zP 117 false zaW (I z) (List.map zat l) (.agg (zbg key)) k=k ((mfind key l).getD z) (mfind key l).isSome:=
 znG (agg:=false) (D:=zaW) (kenc:=fun x=>.agg (zbg x)) (venc:=fun x=>I x) ke_117 (show ∀ x:Int,avDec false zaW (I x)=some x from fun x=>zaW.de x) z key l k
theorem zqj {β:Type} (key:zax) (v:Int) (l:List (zax×Int)) (k:List (List AV)→Option β):msetD zP 117 3 (.agg (zbg key)) (I v) (List.map zat l) k=k (List.map zat (mput key v l)):=
 zml (kenc:=fun x=>.agg (zbg x)) (venc:=fun x=>I x) ke_117 key v l k
theorem zlu {β:Type} (z:zab) (key:zax) (l:List (zax×zab)) (k:zab→Bool→Option β):mapD zP 117 true zav (.agg (zaa z)) (List.map zbD l) (.agg (zbg key)) k=k ((mfind key l).getD z) (mfind key l).isSome:=
 znG (agg:=true) (D:=zav) (kenc:=fun x=>.agg (zbg x)) (venc:=fun x=>.agg (zaa x)) ke_117 (show ∀ x:zab,avDec true zav (.agg (zaa x))=some x from fun x=>zav.de x) z key l k
theorem zlw {β:Type} (key:zax) (v:zab) (l:List (zax×zab)) (k:List (List AV)→Option β):msetD zP 117 64 (.agg (zbg key)) (.agg (zaa v)) (List.map zbD l) k=k (List.map zbD (mput key v l)):=
 zml (kenc:=fun x=>.agg (zbg x)) (venc:=fun x=>.agg (zaa x)) ke_117 key v l k
theorem ke_151 (x y:Int×Int):keyEq zP 151 (.agg (zbI x)) (.agg (zbI y))=some (decide (y=x)):=by
 have h1:eqV zP 20 151 [(.int .i64 x.1:Value),(.int .i64 x.2:Value)] [(.int .i64 y.1:Value),(.int .i64 y.2:Value)]=some (x.1 == y.1 && (x.2 == y.2 && true)):=by kernel_rfl
 have h2:bitsL [(.int .i64 x.1:Value),(.int .i64 x.2:Value)] [(.int .i64 y.1:Value),(.int .i64 y.2:Value)]=some (x.1 == y.1 && (x.2 == y.2 && true)):=by kernel_rfl
 have h:keyEq zP 151 (.agg (zbI x)) (.agg (zbI y))=agree (eqV zP 20 151 [(.int .i64 x.1:Value),(.int .i64 x.2:Value)] [(.int .i64 y.1:Value),(.int .i64 y.2:Value)]) (bitsL [(.int .i64 x.1:Value),(.int .i64 x.2:Value)] [(.int .i64 y.1:Value),(.int .i64 y.2:Value)]):=by kernel_rfl
 rw [h,h1,h2]; have ha:∀ b:Bool,agree (some b) (some b)=some b:=fun b=>by simp [agree]
 rw [ha]; refine congrArg some ?_; by_cases e:y=x
 · rw [decide_eq_true e,e]; simp
 · rw [decide_eq_false e,Bool.eq_false_iff]; intro q; simp only [zbS,beq_iff_eq,and_true] at q; refine e (zec.inj ?_); show [I (y.1),I (y.2)]=[I (x.1),I (x.2)]; simp only [q]
theorem zjK {β:Type} (z:za3) (key:Int×Int) (l:List ((Int×Int)×za3)) (k:za3→Bool→Option β):mapD zP 151 true zdX (.agg (zbE z)) (List.map zbz l) (.agg (zbI key)) k=k ((mfind key l).getD z) (mfind key l).isSome:=
 znG (agg:=true) (D:=zdX) (kenc:=fun x=>.agg (zbI x)) (venc:=fun x=>.agg (zbE x)) ke_151 (show ∀ x:za3,avDec true zdX (.agg (zbE x))=some x from fun x=>zdX.de x) z key l k
theorem zcY {β:Type} (key:Int×Int) (v:za3) (l:List ((Int×Int)×za3)) (k:List (List AV)→Option β):msetD zP 151 153 (.agg (zbI key)) (.agg (zbE v)) (List.map zbz l) k=k (List.map zbz (mput key v l)):=
 zml (kenc:=fun x=>.agg (zbI x)) (venc:=fun x=>.agg (zbE x)) ke_151 key v l k
theorem zqB {β:Type} (z:Int) (key:Int×Int) (l:List ((Int×Int)×Int)) (k:Int→Bool→Option β):mapD zP 151 false zaW (I z) (List.map zdA l) (.agg (zbI key)) k=k ((mfind key l).getD z) (mfind key l).isSome:=
 znG (agg:=false) (D:=zaW) (kenc:=fun x=>.agg (zbI x)) (venc:=fun x=>I x) ke_151 (show ∀ x:Int,avDec false zaW (I x)=some x from fun x=>zaW.de x) z key l k
theorem zyf {β:Type} (key:Int×Int) (v:Int) (l:List ((Int×Int)×Int)) (k:List (List AV)→Option β):msetD zP 151 3 (.agg (zbI key)) (I v) (List.map zdA l) k=k (List.map zdA (mput key v l)):=
 zml (kenc:=fun x=>.agg (zbI x)) (venc:=fun x=>I x) ke_151 key v l k
theorem zwZ {β:Type} (z:Bool) (key:Int×Int) (l:List ((Int×Int)×Bool)) (k:Bool→Bool→Option β):mapD zP 151 false dBool (B z) (List.map zdO l) (.agg (zbI key)) k=k ((mfind key l).getD z) (mfind key l).isSome:=
 znG (agg:=false) (D:=dBool) (kenc:=fun x=>.agg (zbI x)) (venc:=fun x=>B x) ke_151 (show ∀ x:Bool,avDec false dBool (B x)=some x from fun x=>dBool.de x) z key l k
theorem zw6 {β:Type} (key:Int×Int) (v:Bool) (l:List ((Int×Int)×Bool)) (k:List (List AV)→Option β):msetD zP 151 4 (.agg (zbI key)) (B v) (List.map zdO l) k=k (List.map zdO (mput key v l)):=
 zml (kenc:=fun x=>.agg (zbI x)) (venc:=fun x=>B x) ke_151 key v l k
@[simp] theorem zam {β:Type} (v:Bool) (k:Bool→Option β):callD zad (some (zaj v)) k=k v:=zbe (D:=zad) k
@[simp] theorem zxA {β:Type} (v:zae) (k:zae→Option β):callD zn0 (some (zrc v)) k=k v:=zbe (D:=zn0) k
@[simp] theorem zrH {β:Type} (v:zay×zae) (k:(zay×zae)→Option β):callD zhN (some (zhM v)) k=k v:=zbe (D:=zhN) k
@[simp] theorem zlq {β:Type} (v:((List zab))×zae) (k:(((List zab))×zae)→Option β):callD zeH (some (zdP v)) k=k v:=zbe (D:=zeH) k
@[simp] theorem zBP {β:Type} (v:(zbX×Int)×(List zab)) (k:((zbX×Int)×(List zab))→Option β):callD zd2 (some (znM v)) k=k v:=zbe (D:=zd2) k
@[simp] theorem zsx {β:Type} (v:(List zab)) (k:((List zab))→Option β):callD ziI (some (zlW v)) k=k v:=zbe (D:=ziI) k
@[simp] theorem zgQ {β:Type} (v:zaH×Bool) (k:(zaH×Bool)→Option β):callD zeI (some (zgi v)) k=k v:=zbe (D:=zeI) k
@[simp] theorem zqV {β:Type} (v:(List Int)×Bool) (k:((List Int)×Bool)→Option β):callD zhi (some (zhb v)) k=k v:=zbe (D:=zhi) k
@[simp] theorem zaX {β:Type} (v:Int×zae) (k:(Int×zae)→Option β):callD zaP (some (ziE v)) k=k v:=zbe (D:=zaP) k
@[simp] theorem zfm {β:Type} (v:zab) (k:zab→Option β):callD zeY (some (zkQ v)) k=k v:=zbe (D:=zeY) k
@[simp] theorem zlb {β:Type} (v:zay) (k:zay→Option β):callD zgM (some (zoE v)) k=k v:=zbe (D:=zgM) k
@[simp] theorem zBg {β:Type} (v:((List GTask)×Int)×(List zab)) (k:(((List GTask)×Int)×(List zab))→Option β):callD zfK (some (zku v)) k=k v:=zbe (D:=zfK) k
@[simp] theorem zqT {β:Type} (v:(List zbv)) (k:((List zbv))→Option β):callD zhg (some (zg9 v)) k=k v:=zbe (D:=zhg) k
@[simp] theorem zqQ {β:Type} (v:((List zaG)×(List zbt))×zae) (k:(((List zaG)×(List zbt))×zae)→Option β):callD zhd (some (zfJ v)) k=k v:=zbe (D:=zhd) k
@[simp] theorem zqd {β:Type} (v:((List zaZ))×zae) (k:(((List zaZ))×zae)→Option β):callD zgC (some (zgA v)) k=k v:=zbe (D:=zgC) k
@[simp] theorem zqf {β:Type} (v:((List zaH))×zae) (k:(((List zaH))×zae)→Option β):callD zgE (some (zgB v)) k=k v:=zbe (D:=zgE) k
@[simp] theorem zqe {β:Type} (v:za7×zae) (k:(za7×zae)→Option β):callD zgD (some (zjw v)) k=k v:=zbe (D:=zgD) k
@[simp] theorem zb1 {β:Type} (v:Bool×zae) (k:(Bool×zae)→Option β):callD zdo (some (zlX v)) k=k v:=zbe (D:=zdo) k
@[simp] theorem zsz {β:Type} (v:GSeed×zae) (k:(GSeed×zae)→Option β):callD ziK (some (ziF v)) k=k v:=zbe (D:=ziK) k
@[simp] theorem zsy {β:Type} (v:zab×zae) (k:(zab×zae)→Option β):callD ziJ (some (zlY v)) k=k v:=zbe (D:=ziJ) k
@[simp] theorem zio {β:Type} (v:zaG) (k:zaG→Option β):callD zh0 (some (zmT v)) k=k v:=zbe (D:=zh0) k
@[simp] theorem za4 {β:Type} (v:Int) (k:Int→Option β):callD zaM (some (zbi v)) k=k v:=zbe (D:=zaM) k
@[simp] theorem zkY {β:Type} (v:((List zab)×Int)×(List zab)) (k:(((List zab)×Int)×(List zab))→Option β):callD zfh (some (zdF v)) k=k v:=zbe (D:=zfh) k
@[simp] theorem zoc {β:Type} (v:List (Option zah)×List (zax×zaN)) (k:(List (Option zah)×List (zax×zaN))→Option β):callD zh1 (some (zhY v)) k=k v:=zbe (D:=zh1) k
@[simp] theorem zh8 {β:Type} (v:(List (zax×zab))) (k:((List (zax×zab)))→Option β):callD zd5 (some (zcL v)) k=k v:=zbe (D:=zd5) k
@[simp] theorem zh6 {β:Type} (v:(List zbv)) (k:((List zbv))→Option β):callD zbm (some (zdK v)) k=k v:=zbe (D:=zbm) k
@[simp] theorem zma {β:Type} (v:(List zab)×Int) (k:((List zab)×Int)→Option β):callD ze6 (some (zcJ v)) k=k v:=zbe (D:=ze6) k
@[simp] theorem zpQ {β:Type} (v:zaZ×Bool) (k:(zaZ×Bool)→Option β):callD zh2 (some (zhZ v)) k=k v:=zbe (D:=zh2) k
@[simp] theorem zi0 {β:Type} (v:(List GTask)) (k:((List GTask))→Option β):callD zbq (some (zd1 v)) k=k v:=zbe (D:=zbq) k
@[simp] theorem zjr {β:Type} (v:Nat×(List GTask)) (k:(Nat×(List GTask))→Option β):callD zc0 (some (zea v)) k=k v:=zbe (D:=zc0) k
@[simp] theorem zfO {β:Type} (v:zaG×zae) (k:(zaG×zae)→Option β):callD zeb (some (zlg v)) k=k v:=zbe (D:=zeb) k
@[simp] theorem zqR {β:Type} (v:zbt×zae) (k:(zbt×zae)→Option β):callD zhe (some (zkt v)) k=k v:=zbe (D:=zhe) k
@[simp] theorem zqS {β:Type} (v:zaH×zae) (k:(zaH×zae)→Option β):callD zhf (some (zg8 v)) k=k v:=zbe (D:=zhf) k
@[simp] theorem zsB {β:Type} (v:((List ((Int×Int)×za3)))×(List zab)) (k:(((List ((Int×Int)×za3)))×(List zab))→Option β):callD ziM (some (zdQ v)) k=k v:=zbe (D:=ziM) k
@[simp] theorem zgg {β:Type} (v:(List zab)) (k:((List zab))→Option β):callD zba (some (zcS v)) k=k v:=zbe (D:=zba) k
@[simp] theorem zfn {β:Type} (v:zah) (k:zah→Option β):callD zcq (some (zbQ v)) k=k v:=zbe (D:=zcq) k
@[simp] theorem zpP {β:Type} (v:Int×(Option Addr)) (k:(Int×(Option Addr))→Option β):callD zf8 (some (zeW v)) k=k v:=zbe (D:=zf8) k
@[simp] theorem zsA {β:Type} (v:GSeed×Bool) (k:(GSeed×Bool)→Option β):callD ziL (some (zgo v)) k=k v:=zbe (D:=ziL) k
@[simp] theorem zsC {β:Type} (v:(List ((Int×Int)×Int))×(List ((Int×Int)×Bool))) (k:((List ((Int×Int)×Int))×(List ((Int×Int)×Bool)))→Option β):callD ziN (some (zgq v)) k=k v:=zbe (D:=ziN) k
@[simp] theorem zpR {β:Type} (v:(List zab)) (k:((List zab))→Option β):callD zh3 (some (zgp v)) k=k v:=zbe (D:=zh3) k
@[simp] theorem zl9 {β:Type} (v:Int×Bool) (k:(Int×Bool)→Option β):callD zer (some (zi4 v)) k=k v:=zbe (D:=zer) k
@[simp] theorem zBO {β:Type} (v:(List Int)×Int) (k:((List Int)×Int)→Option β):callD zjN (some (zeX v)) k=k v:=zbe (D:=zjN) k
@[simp] theorem zlr {β:Type} (v:(Int×Int)) (k:((Int×Int))→Option β):callD zfL (some (zha v)) k=k v:=zbe (D:=zfL) k
@[simp] theorem ziZ {β:Type} (v:(List Int)) (k:((List Int))→Option β):callD zep (some (zhv v)) k=k v:=zbe (D:=zep) k
@[simp] theorem zt8 {β:Type} (v:zc3×Int) (k:(zc3×Int)→Option β):callD zkT (some (zkR v)) k=k v:=zbe (D:=zkT) k
@[simp] theorem zns {β:Type} (v:(List Bool)) (k:((List Bool))→Option β):callD zeZ (some (zgr v)) k=k v:=zbe (D:=zeZ) k
@[simp] theorem zyS {β:Type} (v:Int) (k:Int→Option β):callD zd6 (some (zk4 v)) k=k v:=zbe (D:=zd6) k
@[simp] theorem zzI {β:Type} (v:Int×Int) (k:(Int×Int)→Option β):callD zeq (some (zlv v)) k=k v:=zbe (D:=zeq) k
@[simp] theorem zqU {β:Type} (v:(List ((Int×Int)×za3))) (k:((List ((Int×Int)×za3)))→Option β):callD zhh (some (zde v)) k=k v:=zbe (D:=zhh) k
theorem ptT {y:AV×Mem} (cut:List Nat) {R:Fr} {j:Nat} {st:St} {x:Option (AV×Mem)} (h:x=some y) (hx:tGo R zT cut 100000 (decide (j≠0)) (ptS R.fn j) st=x:=by kernel_rfl):pt R j st=some y:=pt_of zT cut hx h
theorem cwT {y:AV×Mem} (R:Fr) (cut:List Nat) {args:List AV} {ms:Mem} {x:Option (AV×Mem)} (h:x=some y) (ho:R.C.orc R.f args ms=none:=by rfl) (hf:R.P.funcs[R.f]?=some R.fn:=by kernel_rfl) (he:enters R.P R.f=true:=by kernel_rfl)
  (hN:decide (R.fn.ntmps≤1000∧args.length≤R.fn.ntmps)=true:=by kernel_rfl) (hm:R.ms=Go.Ab.blank ms:=by kernel_rfl)
  (hx:tGo R zT cut 100000 false (ptK R.fn 0) { t:=argTab 0 args,m:=ms }=x:=by kernel_rfl):callw R.P R.C R.F R.f args ms=some y:=zxC R zT cut ho hf he hN hm hx h
end Go.Proofs.YtikogkgdkdmljaaGreat
end
