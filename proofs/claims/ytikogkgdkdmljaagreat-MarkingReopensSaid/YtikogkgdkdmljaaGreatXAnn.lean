/- Annotations of the seat's functions: what lives behind each region, which slots own rows, which arguments are written; how results read. -/
import Derived.Test.YtikogkgdkdmljaaGreatXTy
import Derived.Test.YtikogkgdkdmljaaGreatProg
import Derived.Test.YtikogkgdkdmljaaGreatXSp
set_option linter.unusedSimpArgs false
set_option linter.unusedVariables false
noncomputable section
namespace Go.Proofs.YtikogkgdkdmljaaGreat
open Go.Ab
abbrev LL:=List (List AV)
def zC:Cfg:={ wrt:=atReg [(12,[0]),(13,[0]),(14,[0]),(15,[1]),(16,[0,1]),(26,[0]),(31,[1]),(33,[0]),(34,[0]),(35,[0]),(36,[0]),(37,[0]),(38,[0]),(39,[0]),(42,[0]),(45,[0]),(56,[0]),(60,[0]),(61,[0]),(62,[0]),(63,[0]),(64,[0]),(71,[0]),(72,[0]),(80,[0]),(86,[0]),(100,[0]),(109,[0]),(110,[0]),(111,[0]),(113,[0]),(114,[0]),(115,[0]),(116,[0]),(123,[0]),(124,[0]),(125,[0]),(127,[0]),(128,[0]),(129,[0]),(130,[0]),(139,[0]),(140,[0]),(141,[0]),(143,[0]),(144,[0]),(145,[0]),(146,[0]),(155,[0]),(157,[0]),(158,[2]),(159,[4]),(163,[0]),(164,[2]),(165,[4]),(171,[0]),(172,[2]),(173,[4]),(175,[3]),(176,[3]),(178,[3])],orc:=zOrc,dp:=fun f=>(atReg [(108,[0]),(75,[0]),(78,[0])] f).head? }
def zmh:zah→Mem:=fun x=>[(1000,⟨14,za2,[[I x.level,.row 900 10 0 (List.map zct.enc x.marks).length,I x.period,I x.started.Time,I x.started.Source,I x.started.Seq,.map 901,.sl 1 (List.map dBool.enc x.watch.Last),B x.watch.Suspended,I x.good.Time,I x.good.Source,I x.good.Seq,B x.some,.row 902 12 0 (List.map zcm.enc x.suspensions).length]],true⟩),(900,⟨10,133,List.map zct.enc x.marks,false⟩),(901,⟨0,108,List.map zc7.enc x.noted,false⟩),(902,⟨12,61,List.map zcm.enc x.suspensions,false⟩)]
abbrev zjg:MD:=⟨zah,zmh,by
 intro x y h; simp only [zmh,zbl,zaF,Ent.mk.injEq,AV.v.injEq,AV.row.injEq,AV.sl.injEq,Value.int.injEq,Value.bool.injEq,Value.string.injEq,true_and,and_true,and_assoc,TyD.minj dBool,TyD.minj zc7,TyD.minj zcm,TyD.minj zct] at h
 exact (zah.eqOf (h.1) (h.2.2.2.2.2.2.2.2.2.2.2.2.2.1) (h.2.2.1) (zaL.eqOf (h.2.2.2.1) (h.2.2.2.2.1) (h.2.2.2.2.2.1)) (h.2.2.2.2.2.2.2.2.2.2.2.2.2.2.1) (zcR.eqOf (h.2.2.2.2.2.2.1) (h.2.2.2.2.2.2.2.1)) (zaL.eqOf (h.2.2.2.2.2.2.2.2.1) (h.2.2.2.2.2.2.2.2.2.1) (h.2.2.2.2.2.2.2.2.2.2.1)) (h.2.2.2.2.2.2.2.2.2.2.2.1) (h.2.2.2.2.2.2.2.2.2.2.2.2.2.2.2))⟩
def anK (l:List Nat) (v:List (List Nat)) (o:List (Nat×List (Nat×Nat×TypeId))):Ann:={ lits:=l,live:=fun i=>v[i]?,own:=atReg o }
def zq3:Ann:={ anK [] [[0],[0,14],[2],[3],[3,4],[3,4,5],[3,4,5,6,7],[4,5,6,7,8,9],[6,7,8,9,10,11],[2]] [(5,[(5,9,64)])] with fz:=atReg [(7,[5])] }
def zsc:Ann:=anK [] [[0],[0,23],[2],[3],[3,4],[4,5],[4,5,6,7],[4,5,6,43],[2],[4,6,8],[4,6,8,47,48,49],[4,6,8,47,48,49,50],[4,6,8,9,10,47,48,49],[4,6,8,9,10,11,12,47,48,49],[4,6,8,9,10,11,12,14,47,48,49],[4,6,8,9,10,11,47,48,49,91],[2],[4,6,8,9,10,11,47,48,49,93],[4,6,8,10,11,15,47,48,49],[4,6,8,10,11,47,48,49,132],[2],[4,6,8,10,11,47,48,49,134,135,136],[4,6,8,10,11,47,48,49,134,135,136,137],[4,6,8,10,11,17,47,48,49,134,135,136],[4,6,8,10,11,47,48,49,134,135,136,164],[2],[4,6,8,10,11,47,48,49,134,135,136],[4,6,8,10,11,18,47,48,49],[4,6,8,10,11,18,47,48,49,166,167,168],[4,6,8,10,11,18,47,48,49,166,167,168,169],[4,6,8,10,11,18,20,47,48,49,166,167,168],[4,6,8,10,11,18,47,48,49,166,167,168],[4,6,8,10,11,18,47,48,49,166,167,168],[4,6,8,47,48,49,215],[2],[4,6,8,47,48,49],[2]] [(5,[(5,9,64)])]
def zq2:Ann:=anK [] [[0],[0,23],[2],[3],[3,4],[4,5],[4,5,6,7],[4,5,6,44],[2],[4,5,6,46,47,48],[4,5,6,46,47,48,49],[4,5,6,9,46,47,48],[4,5,6,9,10,46,47,48],[4,5,6,9,10,46,47,48,52,53,54],[4,5,6,9,10,46,47,48,52,53,54,55],[4,5,6,9,10,12,46,47,48,52,53,54],[4,5,6,9,10,12,46,47,48,52,53,54,68],[4,5,6,9,10,46,47,48,52,53,54],[4,5,6,9,10,46,47,48,52,53,54],[4,5,6,9,13,14,46,47,48],[4,5,6,9,13,14,15,46,47,48],[4,5,6,9,13,14,15,16,46,47,48],[4,5,6,9,13,14,15,16,46,47,48,81,82,83],[4,5,6,9,13,14,15,16,46,47,48,81,82,83,84],[4,5,6,9,13,14,15,16,18,46,47,48,81,82,83],[4,5,6,9,13,14,15,16,18,46,47,48,81,82,83,91],[4,5,6,9,13,14,15,16,46,47,48,81,82,83],[4,5,6,9,13,14,15,16,46,47,48,81,82,83],[4,5,6,9,13,14,15,16,46,47,48,98,99,100],[4,5,6,9,13,14,15,16,46,47,48,98,99,100,101],[4,5,6,9,13,14,15,16,20,46,47,48,98,99,100],[4,5,6,9,13,14,15,16,20,46,47,48,98,99,100,108],[4,5,6,9,13,14,15,16,46,47,48,98,99,100],[4,5,6,9,13,14,15,16,46,47,48,98,99,100],[4,5,6,46,47,48,123],[2],[4,5,6,46,47,48],[2]] [(12,[(10,9,64)]),(17,[(10,9,64)]),(20,[(15,8,51)]),(21,[(16,12,61)]),(26,[(15,8,51)]),(32,[(16,12,61)])]
def zq4:Ann:=anK [] [[0],[0,27],[2],[3],[3,4],[4,5],[4,5,6,7],[4,5,6,7,41,42,43],[4,5,6,7,41,42,43,44],[4,5,6,7,9,41,42,43],[4,5,6,7,9,11,41,42,43],[4,5,6,7,9,41,42,43,60],[4,5,6,7,9,41,42,43],[4,5,6,7,9,41,42,43,67],[4,5,6,7,41,42,43],[4,5,6,7,41,42,43],[4,6,7,12,13],[4,7,12,13,14,15],[4,7,12,13,14,15],[4,7,12,13,14,15,16,17],[4,7,16,117],[2],[4,7,16,18],[4,16,18,119,120,121],[4,16,18,119,120,121,122],[4,16,18,20,119,120,121],[4,16,18,20,119,120,121,127],[4,16,18,119,120,121],[4,16,18,119,120,121],[16,18,145],[2],[18,147,148,149],[18,147,148,149,150],[18,22,147,148,149],[18,22,23,24,147,148,149],[18,147,148,149,172],[2],[18,147,148,149],[2]] [(6,[(6,9,64),(7,9,64)]),(12,[(6,9,64)]),(14,[(7,9,64)])]
def zpx:Ann:=anK [] [[0,1],[0,1,19],[4],[1,5],[1,5,6],[1,5,6,7],[1,5,6,7,31],[4],[5,6,7,8],[6,7,8,9],[6,7,8,9,10,11],[8,9,10,11,12,13],[8,9,10,11,12,13,14],[8,9,10,11,12,13,14,67,68,69],[8,9,10,11,12,13,14,67,68,69,70],[8,9,10,11,12,13,14,16,67,68,69],[8,9,10,11,12,13,14,16,67,68,69,88],[8,9,10,11,12,13,14,67,68,69],[8,9,10,11,12,13,14,67,68,69],[4]] [(12,[(14,8,51)]),(17,[(14,8,51)])]
def znQ:Ann:=anK [] [[0,1],[0,1,29],[4],[1,5],[1,5,6],[1,6,7],[1,6,7,8,9],[6,7,8,9,10],[6,7,8,9,10,11],[6,7,8,9,10,11,12],[6,7,8,9,10,11,12,13,14],[6,7,8,9,10,11,13,14,15,16],[6,7,8,10,11,13,113],[4],[6,7,10,11,13,17],[6,7,10,11,17,129],[4],[6,7,10,11,17,131,132,133],[6,7,10,11,17,131,132,133,134],[6,7,10,11,17,19,131,132,133],[6,7,10,11,17,19,21,131,132,133],[6,7,10,11,17,19,131,132,133,153],[6,7,10,11,17,19,22,131,132,133],[6,7,10,11,17,19,22,23,24,131,132,133],[6,7,10,11,17,19,23,24,25,26,131,132,133],[6,7,10,11,17,131,132,133,205],[4],[6,7,10,11,17,131,132,133],[4]] []
def zd9:Ann:=anK [] [[0],[2]] []
def zyE:Ann:=anK [13] [[],[1],[1,2,3],[1,2,3,4,5],[1,2,3,4,5],[2,3,4,5,6,7],[0]] [(1,[(1,9,64)]),(4,[(1,9,64)])]
def ztQ:Ann:={ anK [] [[0,2],[0,2,3,4],[0,2,3,5],[0,2,3,5,6],[0,2,3,5,6,26],[0,2,3,5,6],[0,2,3,5,6,30],[0,2,3,5,6],[2]] [] with cel:=fun _=>[(5,4,900,2,90)] }
def zsx:Ann:=anK [] [[0,2,4],[0,2,4,7],[0,2,4,7,8],[0,2,4,7,8,13],[0,2,4,7,8],[0,2,4,7,8,9],[0,2,4,7,8,9,22],[0,2,4,7,8],[0,2,4,7,8,9,22,31],[0,2,4,7,8],[0,2,4,7,8,9,22,50],[0,2,4,7,8,9,55],[0,2,4,7,8],[0,2,4,7,8,9,22,76],[0,2,4,7,8,80],[0,2,4,7,8],[0,2,4,7,8,9,91],[0,2,4,7,8,95],[0,2,4,7,8,10],[0,2,4,7,8,10],[0,2,4,7,8],[6]] [(1,[(7,9,64)]),(7,[(7,9,64)]),(9,[(7,9,64)]),(12,[(7,9,64)]),(15,[(7,9,64)]),(20,[(7,9,64)])]
def zu5:Ann:=anK [] [[0,2,4],[0,2,4,7],[0,2,4,7,8],[0,2,4,7,8,17],[0,2,4,7,8],[0,2,4,7,8,9],[0,2,4,7,8,9,10],[0,2,4,7,8,9,10,32],[0,2,4,7,8,9,10],[0,2,4,7,8,9,10,11],[0,2,4,7,8,9,10,11,39],[0,2,4,7,8,9,10,11],[0,2,4,7,8,9,10,11,53],[0,2,4,7,8,9,10,11,12],[0,2,4,7,8,9,10,11],[6]] [(1,[(7,9,64)]),(14,[(7,9,64)])]
def zwV:Ann:={ anK [] [[1,2,4],[1,2,4,17],[4,5],[2,4,6,7],[2,4,6,7,25],[4,5],[4,8,9],[4,8,9,10],[4,9,10,34,35],[4,9,10,34,35,36],[4,9,10,11,12,34,35],[4,9,10,11,12,34,35,42],[4,9,10,11,12,34,35],[4,9,10,11,12,34,35,54],[4,9,10,11,12,34,35,54,56],[4,9,10,11,12,14,34,35,54],[4,9,10,11,12,34,35,54],[4,9,10,34,35],[4,10],[4,5]] [] with cel:=fun _=>[(10,0,301,8,51),(10,1,302,12,61)] }
def zq5:Ann:=anK [] [[0,1],[0,1,5],[0,1,5,6],[0,1,5,6,15],[0,1,5,6],[0,1,5,6,7],[0,1,5,6],[0,1,5,8],[0,1,5,8,39],[0,1,5,8],[0,1,5,8,43],[0,1,5,8],[4]] [(1,[(5,9,64)]),(11,[(5,9,64)])]
def zu4:Ann:={ anK [] [[0],[3],[2]] [] with frz:=true }
def zyL:Ann:=anK [] [[2,3],[2,3,22],[4],[2,3,5],[2,3,5,27],[2,3,5],[2,3,5,40],[4],[2,3,6],[2,3,6,45],[2,3,6],[2,3,6,58],[4],[4]] []
def zqm:Ann:=anK [] [[0,1,4],[0,1,4,6],[0,1,4,6,10],[0,1,4,6],[0,1,4,6,19],[4,5],[4,5]] []
def zsF:Ann:=anK [] [[0,1],[0,1,6],[0,1,6,10],[0,1,6],[0,1,6,19],[4,5],[4,5]] [(0,[(4,1,3)]),(5,[(4,1,3)]),(6,[(4,1,3)])]
def zoB:Ann:=anK [] [[0,1,5],[5,7,8],[6]] []
def zsg:Ann:=anK [] [[3,4,5],[6]] []
def zyH:Ann:=anK [] [[2,3],[2,3,5],[4],[2,3,16],[4],[4]] []
def ztX:Ann:=anK [] [[0,1],[0,1,10],[4],[0,1,5],[0,1,5,14],[0,1,5],[0,1,5,25],[4],[4]] []
def zyJ:Ann:=anK [] [[2,3],[2,3,5,6],[2,3,5,33],[4],[2,3,5,7],[4]] []
def zu7:Ann:=anK [] [[0,1],[0,1,19],[4],[0,1,5],[1,5],[1,5,40],[5],[4]] []
def zr0:Ann:=anK [] [[0,1],[0,1,10],[4],[0,1,12,13],[0,1,12,13,14],[0,1,5,12,13],[0,1,12,13,24],[4],[0,1,12,13],[4]] []
def zwT:Ann:=anK [] [[1,2,3],[1,11,12,13],[1,11,12,13,14],[1,8,11,12,13],[1,11,12,13,26],[6],[1,11,12,13],[6]] []
def a_law29_at:Ann:=anK [] [[0,1,2,6],[6]] []
def zx1:Ann:={ anK [12,13] [[0],[0,1],[0,1],[0,1,2],[0,1,2,18],[0,1,2],[0,1,2],[0,1],[0]] [] with cel:=fun _=>[(1,1,900,7,53)] }
def zsC:Ann:=anK [] [[1,2],[1,2,20],[4,5],[2,6,7],[2,6,7,27],[4,5],[8,9],[8,9,10],[9,10,35,36],[9,10,35,36,37],[9,10,11,12,35,36],[9,10,11,12,35,36,43],[9,10,11,12,13,35,36],[9,10,11,13,35,36,50,51,52],[9,10,11,13,35,36,50,51,52,53],[9,10,11,13,15,35,36,50,51,52],[9,10,11,13,15,17,35,36,50,51,52],[9,10,11,13,15,35,36,50,51,52,73],[9,10,11,13,35,36,50,51,52],[9,10,11,13,35,36,50,51,52],[9,10,35,36],[10],[4,5]] [(7,[(10,2,136)]),(18,[(10,2,136)])]
def zsB:Ann:=anK [] [[1,2,3],[1,2,3,7],[1,2,7,11,12,13],[1,2,7,11,12,13,14],[1,2,7,9,11,12,13],[1,2,7,9,11,12,13,26],[1,2,7,11,12,13],[1,2,7,11,12,13],[6]] [(1,[(7,8,51)]),(6,[(7,8,51)])]
def zsy:Ann:=anK [9] [[0],[0,4],[0,4,11],[0,4],[0,4,18],[0,4],[0,4,5],[0,4,5,6],[0,4,5,6,27],[0,4,5,6],[0,4,5,6],[2,3]] [(1,[(4,3,95)]),(3,[(4,3,95)]),(5,[(4,3,95)]),(6,[(5,2,131)]),(10,[(5,2,131)])]
def zsd:Ann:=anK [] [[0],[0,3],[0,3,4],[0,3,4,5],[0,3,4,5,10],[0,3,4,5],[0,3,4,5],[0,3,4,5],[2]] [(1,[(3,5,67)]),(7,[(3,5,67)])]
def zsf:Ann:=anK [] [[0,1,2],[0,1,2,7],[0,1,2,7,8],[0,1,2,7,8,13],[0,1,2,7,8],[0,1,2,7,8,9],[0,1,2,7,8,9,10],[0,1,2,7,8,9,10,19],[0,1,2,7,8,9,10],[0,1,2,7,8,9,10,28],[0,1,2,7,8,9,10],[0,1,2,7,8,9,11],[0,1,2,7,8,9,11,43],[0,1,2,7,8,9,11],[0,1,2,7,8,9,11,48],[0,1,2,7,8,9,11],[6]] [(1,[(7,7,53)]),(5,[(9,3,95)]),(10,[(9,3,95)]),(15,[(7,7,53)])]
def zse:Ann:=anK [] [[0,2],[0,2,3],[2]] []
def ze4:Ann:=anK [] [[0,1],[4]] []
def zu8:Ann:={ anK [] [[0,1,5,6],[0,1,5,6,7],[0,6,7,8],[0,6,7,8,9],[0,6,7,8,9,20],[0,6,7,8,9],[0,6,7,8,9],[6]] [] with cel:=fun _=>[(7,1,900,1,3)] }
def zu6:Ann:={ anK [] [[0,2,3,5,8],[0,2,3,5,8,9],[0,5,8,10],[0,5,8,10,31],[8],[0,5,8,10,11],[0,8,10,11,12],[0,8,10,11,12],[0,8,10,11],[0,8,10],[8,10,72],[8,10],[8]] [] with cel:=fun _=>[(10,8,900,1,3)] }
def zyF:Ann:=anK [] [[0,3,4],[0,3,4,5],[0,3,4,5,9],[0,3,4,5],[0,3,4,5,29],[4],[4]] []
def zvW:Ann:=anK [] [[1],[33],[2],[2]] []
def zsi:Ann:=anK [] [[0],[0,4],[0,4,10],[0,4,10,12],[0,4,6,10],[0,4,6,10,17],[0,4,10],[4,28],[2,3],[4],[4,32,33],[4,32,33,34],[4,7,32,33],[4,32,33],[4,32,33],[2,3]] [(1,[(4,9,64)]),(6,[(4,9,64)])]
def zwW:Ann:={ anK [] [[1,2],[1,2,6],[1,2,6,20,21,22],[1,2,6,20,21,22,23],[1,2,6,8,20,21,22],[1,2,6,20,21,22],[1,2,6,20,21,22],[1,2,6,9],[2,6,9,38,39,40],[2,6,9,38,39,40,41],[2,6,9,11,38,39,40],[2,6,9,11,38,39,40,45],[2,6,9,11,38,39,40,45,46],[2,6,9,11,12,38,39,40],[2,6,9,11,12,38,39,40,55],[2,6,9,38,39,40],[2,6,9,11,38,39,40,45,60],[2,6,9,38,39,40],[2,6,9,11,38,39,40,70],[2,6,9,11,13,14,38,39,40],[2,6,9,11,13,14,38,39,40,80],[2,6,9,11,13,14,15,16,38,39,40],[2,6,9,11,13,14,15,38,39,40,88],[2,6,9,38,39,40],[2,6,9,38,39,40],[2,6,9,38,39,40],[4,5]] [] with cel:=fun _=>[(33,1,301,10,133),(33,6,302,1,0),(33,7,1000,1,0),(33,13,303,12,61)] }
def zo2:Ann:=anK [] [[0,1],[0,1,5],[0,1,5,12,13,14],[0,1,5,12,13,14,15],[0,1,5,7,12,13,14],[0,1,5,7,12,13,14,32],[0,1,5,12,13,14],[0,1,5,12,13,14],[4]] []
def zdA:Ann:=anK [] [[0,1,4],[]] []
def zcb:Ann:=anK [] [[2,3],[4]] []
def ztW:Ann:={ anK [] [[0],[0,4,5],[0,4,5,6],[0,4,5,6,7],[0,4,5,6,7,20],[0,4,5,6,7],[0,4,5,6,7,8],[0,4,5,6,7,8,9,10],[0,4,5,6,7,53],[0,4,5,6,7,11],[0,4,5,6,7,11],[0,4,5,6,7],[6,68],[2,3],[2,3]] [(2,[(6,9,64)]),(11,[(6,9,64)])] with fz:=atReg [(10,[60])],cel:=fun _=>[(11,8,900,1,3)] }
def zyG:Ann:=anK [] [[2,3],[2,3,5],[2,3,5,10],[2,3,5],[2,3,5,20],[4],[4]] []
def zqk:Ann:=anK [] [[1,2,3],[4]] []
def zx4:Ann:=anK [] [[0,3],[0,3,6],[0,3,6,10],[0,3,6],[0,3,6,30],[4,5],[4,5]] []
def zyK:Ann:=anK [] [[1,2],[4]] []
def ztV:Ann:=anK [] [[2,3,4,5],[2,3,4,24],[8],[2,3,4,9],[3,9,37],[8],[8]] []
def zyD:Ann:=anK [] [[0],[0,3],[3,6,7,8],[3,6,7,8,9],[3,5,6,7,8],[3,5,6,7,8,14],[2],[3,6,7,8],[2]] []
def ztN:Ann:=anK [] [[0,1],[0,1,5],[0,1,5,6],[0,1,6,11],[12],[4],[4],[0,1,13],[4],[0,1,16],[4],[19],[4],[4]] []
def zkB:Ann:=anK [] [[0],[0,8],[2],[0,3],[0,3,13],[0,3],[0,3,25],[0,3,4],[0,3,4,5],[0,3,4,5,32],[0,3,4,5],[0,3,4,5,44],[0,3,4,5],[0,3,4,5],[0,3],[2],[2]] []
def ztP:Ann:={ anK [14] [[0,1,2,6],[0,6,7],[0,6,7,18],[0,6,7],[0,6,7,32],[6,7],[6]] [] with cel:=fun _=>[(7,2,900,6,98)] }
def zsz:Ann:=anK [] [[0,3,4],[0,3,4,5],[0,3,4,5,16],[4,5],[4]] []
def zsA:Ann:={ anK [30] [[0,2,4,6],[0,4,6,7],[0,4,6,7,8],[0,4,6,7,8,36],[0,4,6,7,8],[0,4,6,7,8,9],[0,4,6,7,8,9,45],[0,4,6,7,8,9],[0,4,6,7,8],[6]] [] with cel:=fun _=>[(7,6,900,1,3)] }
def zwU:Ann:=anK [] [[0],[0,7],[2],[0,8,9,10],[0,8,9,10,11],[0,3,4,8,9,10],[0,3,4,8,9,10,17],[2],[0,8,9,10,36],[2],[0,8,9,10],[2]] []
def zqj:Ann:=anK [] [[0],[0,7],[2],[0,8,9,10],[0,8,9,10,11],[0,3,4,8,9,10],[0,3,4,8,9,10,48],[2],[0,3,4,8,9,10,63],[2],[0,8,9,10,76],[2],[0,8,9,10],[2]] []
def zql:Ann:=anK [] [[1],[1,17],[2],[1,19,20,21],[1,19,20,21,22],[1,3,4,19,20,21],[1,19,20,21,33],[2],[1,19,20,21],[2]] []
def zpz:Ann:=anK [] [[1],[1,10,11,12],[1,10,11,12,13],[1,4,10,11,12],[1,4,5,6,10,11,12],[1,4,5,10,11,12,23],[2],[1,8,10,11,12],[1,10,11,12,41],[2],[1,10,11,12],[2]] []
def zra:Ann:=anK [] [[1],[1,10],[2],[1,12,13,14],[1,12,13,14,15],[1,3,4,12,13,14],[1,4,12,13,14,32],[2],[1,4,5,6,12,13,14],[1,12,13,14,52],[2],[1,12,13,14],[2]] []
def zvZ:Ann:=anK [] [[1],[34],[2],[2]] []
def zu9:Ann:=anK [] [[0],[0,3],[0,3,10,11,12],[0,3,10,11,12,13],[0,3,4,5,10,11,12],[0,3,4,5,10,11,12,19],[0,3,4,5,6,10,11,12],[0,3,4,5,6,7,8,10,11,12],[0,3,4,5,6,7,10,11,12,29],[0,3,6,7,10,11,12],[0,3,6,7,10,11,12,39],[0,3,6,7,10,11,12],[0,3,10,11,12],[0,3,10,11,12],[2]] []
def zvY:Ann:=anK [] [[1,2],[1,2],[2]] []
def zoz:Ann:={ anK [] [[0,3],[0,3,10],[0,3,4],[0,3],[0,3],[0],[0],[0],[]] [] with cel:=fun _=>[(1000,1,900,10,133),(1000,6,901,1,0),(1000,7,1000,1,0),(1000,13,902,12,61)] }
def zq7:Ann:=anK [] [[0,4,5],[4,5,7],[4,5,7,8,9],[4,5,7,8,39],[6,7],[4,5,6,7,8,9],[4,5,6,7,8,78],[6,7],[5,6,7,8,99],[6,7],[6,7,105],[6,7],[6,7]] []
def zoA:Ann:=anK [] [[1,2,4],[1,4,9,10,11],[1,4,9,10,11,12],[1,4,7,9,10,11],[1,4,7,9,10,11,18],[4,5],[1,4,9,10,11],[4,5]] []
def zsh:Ann:={ anK [] [[0,6,7,8,9],[0,6,7,8,9,10],[0,6,7,8,9,10,12],[0,6,7,8,9,10,36],[0,6,7,8,9],[0,6,7,8,9,13,14],[0,6,8,9,13,14,45,46,47],[0,6,8,9,13,14,45,46,47,48],[0,6,8,9,13,14,15,16,45,46,47],[0,6,8,9,13,14,15,45,46,47,54],[0,6,8,9,13,14,15,17,18,45,46,47],[0,6,8,9,13,14,15,17,45,46,47,68],[0,6,8,9,13,14,17,45,46,47],[0,6,8,9,13,14,45,46,47],[0,6,8,9,13,14,45,46,47],[0,6,9,19],[0,9,19,20,21],[0,9,19,20,99],[0,9,19,20],[0,9,19,104],[],[0,9,114],[]] [(5,[(13,1,3),(14,1,3)]),(12,[(13,1,3)]),(13,[(14,1,3)])] with cel:=fun _=>[(1000,1,900,10,133),(1000,6,901,1,0),(1000,7,1000,1,0),(1000,13,902,12,61)] }
def zq8:Ann:=anK [] [[0,3],[0,3,11,12,13],[0,3,11,12,13,14],[0,3,6,11,12,13],[0,3,7,8,11,12,13],[0,3,11,12,13,33],[4],[0,3,11,12,13],[4]] []
def zea:Ann:=anK [] [[0,1,2,3,4,10],[0,1,2,3,4,10,11],[0,1,2,3,4,10,11,12],[0,1,2,3,4,10,11,12,25],[],[0,1,2,3,4,10,11,12,32],[],[0,1,2,3,4,10,11,12,39],[0,1,2,3,4,10,11,12],[0,1,2,3,4,10,11,12],[0,1,2,3,4,10,11,12,13,14],[0,1,2,3,4,10,11,12,13,14,56],[0,1,2,3,4,10,11,12,13],[0,1,2,3,4,10,11,12,13],[0,1,2,3,4,10,11,12,13,14],[0,1,2,3,4,10,11,12,13,75],[0,1,2,3,4,10,11,12,13,80],[0,1,2,3,4,10,11,12,13,97],[0,2,3,4,10,11,15],[0,1,2,3,4,10,11],[0,1,2,3,4,12,16,17],[0,1,2,3,4,11,12,16],[0,1,2,3,4,11,12,16,18,19],[0,1,2,3,4,11,16,18,19,20],[0,1,2,3,4,11,16,18,19,20,125],[0,1,2,3,4,10,11,16],[0,2,3,4,10,11,16],[0,1,2,3,4,10,11],[0,1,2,3,4,10,11,16],[0,1,3,4,10,11,16],[0,1,2,3,4,10,11]] []
def a_bits_Len:Ann:=anK [] [[0],[2],[2]] []
def zva:Ann:=anK [] [[0],[0,4,5],[0,4,5,6],[0,4,5,6,15],[0,4,5,6],[0,4,5,6,23],[0,4,5,6,7],[0,4,5,6,7,8,9],[0,4,5,6,7,8,44],[0,4,5,6],[0,4,5,6,7,57],[0,4,5,6],[2,3]] []
def zyI:Ann:=anK [] [[0],[0,10],[2],[3,4],[3,4,5],[3,4,5,6,7],[3,4,5,6,7,34],[3,4,5,6,7,56],[3,4,5,6,7],[3,4,5,6,7],[3,4,5,6,7],[3,4,5,6,7],[2]] [(0,[(2,9,64)]),(2,[(2,9,64)]),(4,[(5,9,64)]),(8,[(5,9,64)]),(10,[(5,9,64)]),(12,[(2,9,64)])]
def zcv:Ann:=anK [] [[0,1],[0,1,7,8],[0,1,7,8,9],[0,1,5,7,8],[0,1,5,7,8,16],[4],[0,1,7,8],[4]] []
def zx3:Ann:=anK [] [[2,3],[2,3,5],[2,3,5,27],[4],[2,3,5,6],[2,3,5,6,30],[2,3,5,6],[2,3,5,6,46],[4],[2,3,5,6,7],[2,3,5,6,7,54],[2,3,5,6,7],[2,3,5,6,7,106],[4],[4]] []
def zq6:Ann:=anK [] [[1],[1,40],[2],[2]] []
def zvV:Ann:=anK [] [[0],[0,3],[0,3,7],[0,3],[0,3,19],[2],[2]] []
def zwZ:Ann:=anK [] [[2,3],[2,3,27],[4],[3,29,30,31],[3,29,30,31,32],[3,5,6,29,30,31],[3,29,30,31,52],[4],[3,29,30,31],[4]] []
def ztS:Ann:=anK [] [[2,3],[3,9,10,11],[3,9,10,11,12],[3,6,7,9,10,11],[3,6,9,10,11,27],[4,5],[3,9,10,11],[4,5]] []
def zv0:Ann:=anK [] [[2,3,4],[2,3,4,17],[6,7],[2,3,4,23],[6,7],[2,3,4,25,26,27],[2,3,4,25,26,27,28],[2,3,4,8,9,25,26,27],[2,3,4,9,10,25,26,27],[2,3,4,25,26,27,56],[6,7],[2,3,4,25,26,27],[2,3,4,11],[2,4,11,63,64,65],[2,4,11,63,64,65,66],[2,4,11,12,13,63,64,65],[2,4,11,12,13,63,64,65,70],[2,4,11,63,64,65],[2,4,11,12,13,63,64,65,77],[2,4,11,63,64,65],[2,4,11,12,63,64,65,94],[2,4,11,63,64,65],[2,4,11,63,64,65],[6,7]] []
def ztR:Ann:=anK [] [[1,2],[2,6,7],[2,6,15],[4,5],[4,5]] []
def zq9:Ann:=anK [] [[1,2],[1,2,12],[4],[1,14,15,16],[1,14,15,16,17],[1,5,6,14,15,16],[1,14,15,16,34],[4],[1,14,15,16],[4]] []
def zvX:Ann:=anK [] [[1],[1,16],[2],[1,18],[1,18,19],[2],[1,18,23],[2],[1,60],[2],[2]] []
def zsD:Ann:=anK [] [[1,2],[2]] []
def zpA:Ann:=anK [5] [[0],[0,4],[2],[2]] [(0,[(2,1,3)]),(2,[(2,1,3)]),(3,[(2,1,3)])]
def zsG:Ann:=anK [] [[2,3,4,5],[8]] []
def zwX:Ann:=anK [] [[1,2,3],[1,2,3,29],[6],[1,2,3,7,8],[1,2,3,7,8,31,32],[1,2,3,7,8,31,32,33],[1,2,3,7,8,9,31,32],[1,2,3,7,8,10,11,31,32],[1,2,3,7,8,10,11,31,32,50],[6],[1,2,3,7,8,31,32],[1,2,3,7,8,31,32],[6]] []
def zwY:Ann:=anK [] [[2,3,4,6],[2,3,4,6,12],[6,7],[2,3,4,6,15],[6,7],[3,6,8],[3,6,8,27],[3,6,8],[6,7]] [(5,[(8,1,4)]),(7,[(8,1,4)])]
def zpy:Ann:={ anK [] [[0,1,5],[0,6],[0,6,19],[0,6],[0,6],[0,6,7],[0,6,7,46],[0,6,7],[0,6,7,65],[0,6,7]] [] with cel:=fun _=>[(1000,1,900,10,133),(1000,6,901,1,0),(1000,7,1000,1,0),(1000,13,902,12,61)] }
def zdj:Ann:=anK [] [[0,1,2,3,8],[0,1,2,3,8,14],[0,1,2,3,8],[0,1,2,3,8,9],[0,1,2,3,8,9,34],[0,1,2,3,8,9],[0,1,2,3,8,9]] []
def zdW:Ann:=anK [] [[0,1,2,3,8],[0,1,2,3,8,9],[0,3,8,9,10],[0,3,8,9,10,11],[0,3,8,9,10,11,21],[0,3,8,9,10,11],[0,3,8,9,10,11],[0,3,8,9,12],[0,3,8,9,12,33],[0,3,8,9,12],[0,3,8,9,12],[0,3,8,9,12]] []
def zdi:Ann:=anK [] [[0,1,8],[0,1,8,17],[0,1,8,9],[0,1,8,9,10],[0,1,8,9,10,11],[0,1,8,9,10,11,35],[0,1,8,9,10,11],[0,1,8,9,10,11,12],[0,1,8,9,10,11,12,45],[0,1,8,9,10,11,12],[0,1,8,9,10,11]] []
def zdB:Ann:=anK [] [[0,1,2,3],[0,1,3,10],[0,1,3,10,11],[0,1,3,10,11,12],[0,1,3,10,11,12,13],[0,3,10,11,12,13,14],[0,3,10,11,12,13,14,34],[0,3,11,12,13,14,36],[0,3,11,12,13,14],[0,3,11,12,13,14],[0,3,11,12,13,14],[11,13],[13,55],[8,9],[13,55,57],[8,9],[13,60],[8,9]] []
def zds:Ann:=anK [] [[0,2,8],[0,8,9],[0,8,9,15],[0,8,9],[0,8,9],[0,8,9]] []
def zcy:Ann:=anK [] [[0,1,2,3],[0,1,2,3,9],[0,1,2,3,9,10],[0,1,2,3,9,10,16],[0,1,2,3,9,10],[0,1,2,3,9,10,36],[0,1,2,3,9,10],[0,1,2,3,9,10,41],[8],[0,1,2,3,9,10,45],[8],[0,1,2,3,9,10],[0,1,2,3,9,10,65],[0,1,2,3,9,10,11],[0,1,2,3,9,10,11,69],[0,1,2,3,9,10,11],[0,1,2,3,9,10,11,84],[0,1,2,3,9,10,11],[0,1,2,3,9,10,104],[0,1,2,3,9,10,12],[0,1,2,3,9,10,12,109],[0,1,2,3,9,10,12],[0,1,2,3,9,10,12,124],[0,1,2,3,9,10,12],[8]] []
def zdc:Ann:=anK [] [[0,1,2,3,4],[0,1,2,4],[0,1,4,11,12],[0,1,4,11,12,47],[0,1,4,11,12],[0,1,4,11,12,65],[0,1,4,11,12],[0,1,4,11,12,70],[0,1,4,11,12],[0,1,4,11,12],[0,1,4,11,12],[10]] []
def zdN:Ann:=anK [] [[0,1,2,3,4],[0,1,2,4],[0,1,4,12,13],[0,1,4,12,13,47],[0,1,4,12,13],[0,1,4,12,13,66],[0,1,4,12,13],[0,1,4,12,13,71],[13],[10,11],[0,1,4,12,13],[0,1,4,12,13],[0,1,4,12,13],[0,1,4,12,13,120],[0,1,4,12,13],[0,1,4,12,13,139],[0,1,4,12,13],[0,1,4,12,13,144],[0,1,4,12,13],[0,1,4,12,13],[0,1,4,12,13],[13],[10,11]] []
def zyB:Ann:=anK [] [[0,2],[0,2,4],[0],[0,2],[0,2,8],[0,2],[0,2],[2]] []
def zyC:Ann:=anK [] [[0,2],[0,2,4],[0],[0,2],[0,2,8],[0,2],[0,2],[0,2,14],[0,2],[0,2],[2]] []
def zx5:Ann:=anK [] [[1],[1,19],[2],[1,3],[1,3,24],[1,3],[1,3,33],[2],[1,35],[1,35,36],[2],[1,35,57],[2],[1,89],[2],[2]] []
def zsE:Ann:=anK [] [[1],[1,34],[2],[1,3],[1,3,4],[1,3,4,39],[1,3,4],[1,3,4,48],[2],[1,3,4],[2]] []
def ztO:Ann:=anK [] [[1],[1,22],[2],[1,32],[2],[1,34,35,36],[1,34,35,36,37],[1,4,34,35,36],[1,34,35,36,42],[2],[1,34,35,36],[2]] []
def zsI:Ann:=anK [] [[1,2],[1,2,9],[4],[1,2,13,14,15],[1,2,13,14,15,16],[1,2,5,6,13,14,15],[1,2,13,14,15,40],[4],[1,2,13,14,15],[4]] []
def zv1:Ann:=anK [] [[0],[3],[3,4],[3,4],[4],[2],[2]] []
def zvb:Ann:=anK [] [[1,2,3],[1,2,3,9],[6],[6]] []
def zr1:Ann:=anK [] [[1],[2]] []
def zsj:Ann:=anK [] [[1],[1,37],[2],[2]] []
def zx2:Ann:=anK [] [[0,1,4],[1,4,8,9,10],[1,4,8,9,10,11],[1,4,7,8,9,10],[1,4,7,8,9,10,17],[4,7],[4,5],[1,4,8,9,10],[4,5]] []
def zsH:Ann:=anK [] [[1,2],[1,2,6],[4],[1,2,9],[4],[4]] []
def zoC:Ann:=anK [5] [[0],[0,4],[2],[2]] [(0,[(2,1,4)]),(2,[(2,1,4)]),(3,[(2,1,4)])]
def ztT:Ann:=anK [] [[1,2],[1,2,5],[2,5,8,9,10],[2,5,8,9,10,11],[2,5,7,8,9,10],[2,5,8,9,10,15],[2,5,8,9,10],[2,5,8,9,10],[4]] []
def zdX:Ann:=anK [] [[0,2,3,4,10],[0,2,3,4,10,11],[0,2,3,4,10,11,18],[0,2,3,4,10,11,40],[0,2,3,4,10,11],[0,2,3,4,10,11,58],[0,2,3,4,11],[0,2,3,4,10]] []
def zpB:Ann:=anK [] [[0],[0],[0],[0],[2]] []
def zdb:Ann:=anK [] [[0,1,2,3],[8]] []
def zei:Ann:=anK [] [[0,1,2,3,4,5],[0,1,2,3,4,5],[0,1,2,4,5],[2],[12]] []
def a_ref28_in:Ann:=anK [] [[0,1,2],[6]] []
def ztU:Ann:=anK [] [[1],[1,30],[2],[1,33],[2],[2]] []
def zu3:Ann:=anK [] [[1],[1,30],[2],[1,32],[1,32,33],[2],[1,43],[2],[2]] []
def zvU:Ann:=anK [] [[0],[0,3],[3,6,7,8],[3,6,7,8,9],[3,5,6,7,8],[3,6,7,8],[3,6,7,8],[2]] []
def zej:Ann:=anK [] [[0,1,2,3,4],[1,2,3,22],[1,2],[10,11],[10,11]] []
def aNone:Ann:={ lits:=[],live:=fun _=>none,own:=fun _=>[] }
def annTab:List Ann:=[aNone,aNone,aNone,zq3,zsc,zq2,zq4,zpx,znQ,zd9,zyE,zd9,ztQ,zsx,zu5,zwV,zq5,zu4,zyL,zqm,zsF,zoB,zsg,zyH,ztX,zyJ,zu7,zr0,zwT,a_law29_at,zx1,zsC,zsB,zsy,zsd,zsf,zse,ze4,zu8,zu6,zyF,zvW,zsi,zwW,zo2,zdA,zcb,ztW,zqm,zyG,ze4,zqk,zcb,zx4,zyK,ztV,zdA,zcb,zyD,ztN,zkB,ztP,zsz,ze4,zsA,zwU,zqj,zql,zpz,zra,zvZ,zu9,zdA,zcb,zvY,zoz,zq7,zoA,zsh,zq8,zea,a_bits_Len,zva,zyI,zcv,zx3,zea,zd9,zq6,zvV,zd9,zwZ,ztS,zv0,ztR,zq9,zd9,zvX,zsD,zcb,zea,zpA,zoA,zoB,zsG,zr0,zwX,zwY,zpy,zdj,zdW,zdi,zdB,zds,zcy,zdc,zdN,zyB,zyC,zx5,zcb,zcb,zsE,zdj,zdW,zdi,zdB,zds,zcy,zdc,zdN,ze4,zd9,ztO,zsI,zv1,zvb,zr1,zsj,zdj,zdW,zdi,zdB,zds,zcy,zdc,zdN,zx2,zcb,zsH,zd9,ze4,zcb,zoC,ztT,zdX,zd9,zpB,zdb,zei,zr1,a_ref28_in,ztU,zdX,zdb,zei,zcv,zu3,zvU,ze4,zd9,zdX,zdb,zei,zd9,zej,zej,zcv,zej,aNone,aNone,aNone,aNone,aNone,aNone,aNone,aNone,aNone,aNone,aNone,aNone,aNone,aNone,aNone,aNone]
def zA:AnnF:=fun f=>annTab.getD f aNone
def zan:Bool→AV×Mem:=(r1 vBool).enc
abbrev zad:RD:={ α:=Bool,enc:=zan,dec:=(r1 vBool).dec,ok:=(r1 vBool).ok,de:=(r1 vBool).de }
def zpY:zae→AV×Mem:=(r1 (vNewp 2 zaf zaS)).enc
abbrev zmZ:RD:={ α:=zae,enc:=zpY,dec:=(r1 (vNewp 2 zaf zaS)).dec,ok:=(r1 (vNewp 2 zaf zaS)).ok,de:=(r1 (vNewp 2 zaf zaS)).de }
def zhn:(zaA×zae)→AV×Mem:=(r1M (vAgg zhu) (mBox 1000 2 zaf zaS)).enc
abbrev zho:RD:={ α:=zaA×zae,enc:=zhn,dec:=(r1M (vAgg zhu) (mBox 1000 2 zaf zaS)).dec,ok:=(r1M (vAgg zhu) (mBox 1000 2 zaf zaS)).ok,de:=(r1M (vAgg zhu) (mBox 1000 2 zaf zaS)).de }
def zgM:(((List zab))×zae)→AV×Mem:=(r1M (vNew 9 zac zaz) (mBox 1000 2 zaf zaS)).enc
abbrev zfv:RD:={ α:=((List zab))×zae,enc:=zgM,dec:=(r1M (vNew 9 zac zaz) (mBox 1000 2 zaf zaS)).dec,ok:=(r1M (vNew 9 zac zaz) (mBox 1000 2 zaf zaS)).ok,de:=(r1M (vNew 9 zac zaz) (mBox 1000 2 zaf zaS)).de }
def zmR:((zbU×Int)×(List zab))→AV×Mem:=(rTM (lCons (vAgg zgy) (lOne (vI .i64))) (mRow 1001 9 zac zaz)).enc
abbrev zc0:RD:={ α:=(zbU×Int)×(List zab),enc:=zmR,dec:=(rTM (lCons (vAgg zgy) (lOne (vI .i64))) (mRow 1001 9 zac zaz)).dec,ok:=(rTM (lCons (vAgg zgy) (lOne (vI .i64))) (mRow 1001 9 zac zaz)).ok,de:=(rTM (lCons (vAgg zgy) (lOne (vI .i64))) (mRow 1001 9 zac zaz)).de }
def zrO:(((List zab))×zae×(List zab))→AV×Mem:=(r1M (vNew 9 zac zaz) (mApp (mBox 1000 2 zaf zaS) (mRow 1001 9 zac zaz) (fun _ _=>rfl))).enc
abbrev zrP:RD:={ α:=((List zab))×zae×(List zab),enc:=zrO,dec:=(r1M (vNew 9 zac zaz) (mApp (mBox 1000 2 zaf zaS) (mRow 1001 9 zac zaz) (fun _ _=>rfl))).dec,ok:=(r1M (vNew 9 zac zaz) (mApp (mBox 1000 2 zaf zaS) (mRow 1001 9 zac zaz) (fun _ _=>rfl))).ok,de:=(r1M (vNew 9 zac zaz) (mApp (mBox 1000 2 zaf zaS) (mRow 1001 9 zac zaz) (fun _ _=>rfl))).de }
def zvA:((List zab))→AV×Mem:=(r1 (vSl 9 zaz)).enc
abbrev zvE:RD:={ α:=(List zab),enc:=zvA,dec:=(r1 (vSl 9 zaz)).dec,ok:=(r1 (vSl 9 zaz)).ok,de:=(r1 (vSl 9 zaz)).de }
def zkj:(zaP×Bool)→AV×Mem:=(rT (lCons (vAgg zb5) (lOne vBool))).enc
abbrev zfc:RD:={ α:=zaP×Bool,enc:=zkj,dec:=(rT (lCons (vAgg zb5) (lOne vBool))).dec,ok:=(rT (lCons (vAgg zb5) (lOne vBool))).ok,de:=(rT (lCons (vAgg zb5) (lOne vBool))).de }
def ztl:((List Int)×Bool)→AV×Mem:=(rT (lCons (vSl 1 zaV) (lOne vBool))).enc
abbrev ztm:RD:={ α:=(List Int)×Bool,enc:=ztl,dec:=(rT (lCons (vSl 1 zaV) (lOne vBool))).dec,ok:=(rT (lCons (vSl 1 zaV) (lOne vBool))).ok,de:=(rT (lCons (vSl 1 zaV) (lOne vBool))).de }
def zh6:(Int×zae)→AV×Mem:=(r1M (vI .i64) (mBox 1000 2 zaf zaS)).enc
abbrev zaW:RD:={ α:=Int×zae,enc:=zh6,dec:=(r1M (vI .i64) (mBox 1000 2 zaf zaS)).dec,ok:=(r1M (vI .i64) (mBox 1000 2 zaf zaS)).ok,de:=(r1M (vI .i64) (mBox 1000 2 zaf zaS)).de }
def zkh:zab→AV×Mem:=(r1 (vAgg zaz)).enc
abbrev zeJ:RD:={ α:=zab,enc:=zkh,dec:=(r1 (vAgg zaz)).dec,ok:=(r1 (vAgg zaz)).ok,de:=(r1 (vAgg zaz)).de }
def znC:zaA→AV×Mem:=(r1 (vAgg zhu)).enc
abbrev zgt:RD:={ α:=zaA,enc:=znC,dec:=(r1 (vAgg zhu)).dec,ok:=(r1 (vAgg zhu)).ok,de:=(r1 (vAgg zhu)).de }
def zjT:(((List GTask)×Int)×(List zab))→AV×Mem:=(rTM (lCons (vSl 2 zcY) (lOne (vI .i64))) (mRow 1001 9 zac zaz)).enc
abbrev zfw:RD:={ α:=((List GTask)×Int)×(List zab),enc:=zjT,dec:=(rTM (lCons (vSl 2 zcY) (lOne (vI .i64))) (mRow 1001 9 zac zaz)).dec,ok:=(rTM (lCons (vSl 2 zcY) (lOne (vI .i64))) (mRow 1001 9 zac zaz)).ok,de:=(rTM (lCons (vSl 2 zcY) (lOne (vI .i64))) (mRow 1001 9 zac zaz)).de }
def zgO:((List zbp))→AV×Mem:=(r1 (vNew 8 zaN zb3)).enc
abbrev zgU:RD:={ α:=(List zbp),enc:=zgO,dec:=(r1 (vNew 8 zaN zb3)).dec,ok:=(r1 (vNew 8 zaN zb3)).ok,de:=(r1 (vNew 8 zaN zb3)).de }
def zfu:(((List zaD)×(List zbr))×zae)→AV×Mem:=(rTM (lCons (vSl 3 zb1) (lOne (vSl 2 zdt))) (mBox 1000 2 zaf zaS)).enc
abbrev zgR:RD:={ α:=((List zaD)×(List zbr))×zae,enc:=zfu,dec:=(rTM (lCons (vSl 3 zb1) (lOne (vSl 2 zdt))) (mBox 1000 2 zaf zaS)).dec,ok:=(rTM (lCons (vSl 3 zb1) (lOne (vSl 2 zdt))) (mBox 1000 2 zaf zaS)).ok,de:=(rTM (lCons (vSl 3 zb1) (lOne (vSl 2 zdt))) (mBox 1000 2 zaf zaS)).de }
def zgi:(((List za6))×zae)→AV×Mem:=(r1M (vNew 5 zdK zcX) (mBox 1000 2 zaf zaS)).enc
abbrev zgk:RD:={ α:=((List za6))×zae,enc:=zgi,dec:=(r1M (vNew 5 zdK zcX) (mBox 1000 2 zaf zaS)).dec,ok:=(r1M (vNew 5 zdK zcX) (mBox 1000 2 zaf zaS)).ok,de:=(r1M (vNew 5 zdK zcX) (mBox 1000 2 zaf zaS)).de }
def zgj:(((List zaP))×zae)→AV×Mem:=(r1M (vNew 7 zb4 zb5) (mBox 1000 2 zaf zaS)).enc
abbrev zgm:RD:={ α:=((List zaP))×zae,enc:=zgj,dec:=(r1M (vNew 7 zb4 zb5) (mBox 1000 2 zaf zaS)).dec,ok:=(r1M (vNew 7 zb4 zb5) (mBox 1000 2 zaf zaS)).ok,de:=(r1M (vNew 7 zb4 zb5) (mBox 1000 2 zaf zaS)).de }
def ziW:(zaY×zae)→AV×Mem:=(r1M (vAgg ziq) (mBox 1000 2 zaf zaS)).enc
abbrev zgl:RD:={ α:=zaY×zae,enc:=ziW,dec:=(r1M (vAgg ziq) (mBox 1000 2 zaf zaS)).dec,ok:=(r1M (vAgg ziq) (mBox 1000 2 zaf zaS)).ok,de:=(r1M (vAgg ziq) (mBox 1000 2 zaf zaS)).de }
def zll:(Bool×zae)→AV×Mem:=(r1M vBool (mBox 1000 2 zaf zaS)).enc
abbrev zdI:RD:={ α:=Bool×zae,enc:=zll,dec:=(r1M vBool (mBox 1000 2 zaf zaS)).dec,ok:=(r1M vBool (mBox 1000 2 zaf zaS)).ok,de:=(r1M vBool (mBox 1000 2 zaf zaS)).de }
def zh7:(GSeed×zae)→AV×Mem:=(r1M (vAgg zeX) (mBox 1000 2 zaf zaS)).enc
abbrev zia:RD:={ α:=GSeed×zae,enc:=zh7,dec:=(r1M (vAgg zeX) (mBox 1000 2 zaf zaS)).dec,ok:=(r1M (vAgg zeX) (mBox 1000 2 zaf zaS)).ok,de:=(r1M (vAgg zeX) (mBox 1000 2 zaf zaS)).de }
def zvB:(zab×zae)→AV×Mem:=(r1M (vAgg zaz) (mBox 1000 2 zaf zaS)).enc
abbrev zvF:RD:={ α:=zab×zae,enc:=zvB,dec:=(r1M (vAgg zaz) (mBox 1000 2 zaf zaS)).dec,ok:=(r1M (vAgg zaz) (mBox 1000 2 zaf zaS)).ok,de:=(r1M (vAgg zaz) (mBox 1000 2 zaf zaS)).de }
def zl6:zaD→AV×Mem:=(r1 (vAgg zb1)).enc
abbrev zjU:RD:={ α:=zaD,enc:=zl6,dec:=(r1 (vAgg zb1)).dec,ok:=(r1 (vAgg zb1)).ok,de:=(r1 (vAgg zb1)).de }
def zbe:Int→AV×Mem:=(r1 (vI .i64)).enc
abbrev zaJ:RD:={ α:=Int,enc:=zbe,dec:=(r1 (vI .i64)).dec,ok:=(r1 (vI .i64)).ok,de:=(r1 (vI .i64)).de }
def zdu:(((List zab)×Int)×(List zab))→AV×Mem:=(rTM (lCons (vSl 9 zaz) (lOne (vI .i64))) (mRow 1000 9 zac zaz)).enc
abbrev ze1:RD:={ α:=((List zab)×Int)×(List zab),enc:=zdu,dec:=(rTM (lCons (vSl 9 zaz) (lOne (vI .i64))) (mRow 1000 9 zac zaz)).dec,ok:=(rTM (lCons (vSl 9 zaz) (lOne (vI .i64))) (mRow 1000 9 zac zaz)).ok,de:=(rTM (lCons (vSl 9 zaz) (lOne (vI .i64))) (mRow 1000 9 zac zaz)).de }
def zcz:((List (zao×zab)))→AV×Mem:=(r1 (vNewm zbF zcs)).enc
abbrev zdU:RD:={ α:=(List (zao×zab)),enc:=zcz,dec:=(r1 (vNewm zbF zcs)).dec,ok:=(r1 (vNewm zbF zcs)).ok,de:=(r1 (vNewm zbF zcs)).de }
def zdC:((List zbp))→AV×Mem:=(r0M (mRow 1000 8 zaN zb3)).enc
abbrev zbk:RD:={ α:=(List zbp),enc:=zdC,dec:=(r0M (mRow 1000 8 zaN zb3)).dec,ok:=(r0M (mRow 1000 8 zaN zb3)).ok,de:=(r0M (mRow 1000 8 zaN zb3)).de }
def zeQ:((List zab)×Int)→AV×Mem:=(rT (lCons (vSl 9 zaz) (lOne (vI .i64)))).enc
abbrev zfN:RD:={ α:=(List zab)×Int,enc:=zeQ,dec:=(rT (lCons (vSl 9 zaz) (lOne (vI .i64)))).dec,ok:=(rT (lCons (vSl 9 zaz) (lOne (vI .i64)))).ok,de:=(rT (lCons (vSl 9 zaz) (lOne (vI .i64)))).de }
def zl7:(za6×Bool)→AV×Mem:=(rT (lCons (vAgg zcX) (lOne vBool))).enc
abbrev zjV:RD:={ α:=za6×Bool,enc:=zl7,dec:=(rT (lCons (vAgg zcX) (lOne vBool))).dec,ok:=(rT (lCons (vAgg zcX) (lOne vBool))).ok,de:=(rT (lCons (vAgg zcX) (lOne vBool))).de }
def zit:(Int×Bool)→AV×Mem:=(rT (lCons (vI .i64) (lOne vBool))).enc
abbrev zeh:RD:={ α:=Int×Bool,enc:=zit,dec:=(rT (lCons (vI .i64) (lOne vBool))).dec,ok:=(rT (lCons (vI .i64) (lOne vBool))).ok,de:=(rT (lCons (vI .i64) (lOne vBool))).de }
def zdS:((List GTask))→AV×Mem:=(r0M (mRow 1000 2 zbA zcY)).enc
abbrev zbo:RD:={ α:=(List GTask),enc:=zdS,dec:=(r0M (mRow 1000 2 zbA zcY)).dec,ok:=(r0M (mRow 1000 2 zbA zcY)).ok,de:=(r0M (mRow 1000 2 zbA zcY)).de }
def zdZ:(Nat×(List GTask))→AV×Mem:=(r1M (vRow 1000 2) (mRow 1000 2 zbA zcY)).enc
abbrev zcP:RD:={ α:=Nat×(List GTask),enc:=zdZ,dec:=(r1M (vRow 1000 2) (mRow 1000 2 zbA zcY)).dec,ok:=(r1M (vRow 1000 2) (mRow 1000 2 zbA zcY)).ok,de:=(r1M (vRow 1000 2) (mRow 1000 2 zbA zcY)).de }
def zkH:(zaD×zae)→AV×Mem:=(r1M (vAgg zb1) (mBox 1000 2 zaf zaS)).enc
abbrev zd0:RD:={ α:=zaD×zae,enc:=zkH,dec:=(r1M (vAgg zb1) (mBox 1000 2 zaf zaS)).dec,ok:=(r1M (vAgg zb1) (mBox 1000 2 zaf zaS)).ok,de:=(r1M (vAgg zb1) (mBox 1000 2 zaf zaS)).de }
def zjS:(zbr×zae)→AV×Mem:=(r1M (vAgg zdt) (mBox 1000 2 zaf zaS)).enc
abbrev zgS:RD:={ α:=zbr×zae,enc:=zjS,dec:=(r1M (vAgg zdt) (mBox 1000 2 zaf zaS)).dec,ok:=(r1M (vAgg zdt) (mBox 1000 2 zaf zaS)).ok,de:=(r1M (vAgg zdt) (mBox 1000 2 zaf zaS)).de }
def zgN:(zaP×zae)→AV×Mem:=(r1M (vAgg zb5) (mBox 1000 2 zaf zaS)).enc
abbrev zgT:RD:={ α:=zaP×zae,enc:=zgN,dec:=(r1M (vAgg zb5) (mBox 1000 2 zaf zaS)).dec,ok:=(r1M (vAgg zb5) (mBox 1000 2 zaf zaS)).ok,de:=(r1M (vAgg zb5) (mBox 1000 2 zaf zaS)).de }
def zdH:(((List ((Int×Int)×za7)))×(List zab))→AV×Mem:=(r1M (vNewm zbm zbK) (mRow 1000 9 zac zaz)).enc
abbrev zic:RD:={ α:=((List ((Int×Int)×za7)))×(List zab),enc:=zdH,dec:=(r1M (vNewm zbm zbK) (mRow 1000 9 zac zaz)).dec,ok:=(r1M (vNewm zbm zbK) (mRow 1000 9 zac zaz)).ok,de:=(r1M (vNewm zbm zbK) (mRow 1000 9 zac zaz)).de }
def zcG:((List zab))→AV×Mem:=(r0M (mRow 1000 9 zac zaz)).enc
abbrev za4:RD:={ α:=(List zab),enc:=zcG,dec:=(r0M (mRow 1000 9 zac zaz)).dec,ok:=(r0M (mRow 1000 9 zac zaz)).ok,de:=(r0M (mRow 1000 9 zac zaz)).de }
def zbI:zah→AV×Mem:=(r0M zjg).enc
abbrev zcf:RD:={ α:=zah,enc:=zbI,dec:=(r0M zjg).dec,ok:=(r0M zjg).ok,de:=(r0M zjg).de }
def zeH:(Int×(Option Addr))→AV×Mem:=(rT (lCons (vI .i64) (lOne vPtr))).enc
abbrev zfT:RD:={ α:=Int×(Option Addr),enc:=zeH,dec:=(rT (lCons (vI .i64) (lOne vPtr))).dec,ok:=(rT (lCons (vI .i64) (lOne vPtr))).ok,de:=(rT (lCons (vI .i64) (lOne vPtr))).de }
def zf9:(GSeed×Bool)→AV×Mem:=(rT (lCons (vAgg zeX) (lOne vBool))).enc
abbrev zib:RD:={ α:=GSeed×Bool,enc:=zf9,dec:=(rT (lCons (vAgg zeX) (lOne vBool))).dec,ok:=(rT (lCons (vAgg zeX) (lOne vBool))).ok,de:=(rT (lCons (vAgg zeX) (lOne vBool))).de }
def zvD:((List ((Int×Int)×Int))×(List ((Int×Int)×Bool)))→AV×Mem:=(rT (lCons (vMp zeP) (lOne (vMp ze8)))).enc
abbrev zvH:RD:={ α:=(List ((Int×Int)×Int))×(List ((Int×Int)×Bool)),enc:=zvD,dec:=(rT (lCons (vMp zeP) (lOne (vMp ze8)))).dec,ok:=(rT (lCons (vMp zeP) (lOne (vMp ze8)))).ok,de:=(rT (lCons (vMp zeP) (lOne (vMp ze8)))).de }
def zza:((List zab))→AV×Mem:=(r1 (vNew 9 zac zaz)).enc
abbrev zzb:RD:={ α:=(List zab),enc:=zza,dec:=(r1 (vNew 9 zac zaz)).dec,ok:=(r1 (vNew 9 zac zaz)).ok,de:=(r1 (vNew 9 zac zaz)).de }
def zeI:((List Int)×Int)→AV×Mem:=(rT (lCons (vSl 1 zaV) (lOne (vI .i64)))).enc
abbrev zjd:RD:={ α:=(List Int)×Int,enc:=zeI,dec:=(rT (lCons (vSl 1 zaV) (lOne (vI .i64)))).dec,ok:=(rT (lCons (vSl 1 zaV) (lOne (vI .i64)))).ok,de:=(rT (lCons (vSl 1 zaV) (lOne (vI .i64)))).de }
def zgP:((Int×Int))→AV×Mem:=(r1 (vAgg zd1)).enc
abbrev zfx:RD:={ α:=(Int×Int),enc:=zgP,dec:=(r1 (vAgg zd1)).dec,ok:=(r1 (vAgg zd1)).ok,de:=(r1 (vAgg zd1)).de }
def zha:((List Int))→AV×Mem:=(r1 (vNew 1 za0 zaV)).enc
abbrev zee:RD:={ α:=(List Int),enc:=zha,dec:=(r1 (vNew 1 za0 zaV)).dec,ok:=(r1 (vNew 1 za0 zaV)).ok,de:=(r1 (vNew 1 za0 zaV)).de }
def zki:(zcR×Int)→AV×Mem:=(rT (lCons (vAgg zqu) (lOne (vI .i64)))).enc
abbrev zkl:RD:={ α:=zcR×Int,enc:=zki,dec:=(rT (lCons (vAgg zqu) (lOne (vI .i64)))).dec,ok:=(rT (lCons (vAgg zqu) (lOne (vI .i64)))).ok,de:=(rT (lCons (vAgg zqu) (lOne (vI .i64)))).de }
def zjk:(Int×Int)→AV×Mem:=(rT (lCons (vI .i64) (lOne (vI .i64)))).enc
abbrev zdD:RD:={ α:=Int×Int,enc:=zjk,dec:=(rT (lCons (vI .i64) (lOne (vI .i64)))).dec,ok:=(rT (lCons (vI .i64) (lOne (vI .i64)))).ok,de:=(rT (lCons (vI .i64) (lOne (vI .i64)))).de }
def zgq:(Bool×(List zbp))→AV×Mem:=(r1M vBool (mRow 1000 8 zaN zb3)).enc
abbrev zgr:RD:={ α:=Bool×(List zbp),enc:=zgq,dec:=(r1M vBool (mRow 1000 8 zaN zb3)).dec,ok:=(r1M vBool (mRow 1000 8 zaN zb3)).ok,de:=(r1M vBool (mRow 1000 8 zaN zb3)).de }
def zh9:(Int×(List zbp))→AV×Mem:=(r1M (vI .i64) (mRow 1000 8 zaN zb3)).enc
abbrev zid:RD:={ α:=Int×(List zbp),enc:=zh9,dec:=(r1M (vI .i64) (mRow 1000 8 zaN zb3)).dec,ok:=(r1M (vI .i64) (mRow 1000 8 zaN zb3)).ok,de:=(r1M (vI .i64) (mRow 1000 8 zaN zb3)).de }
def zkk:((Int×Bool)×(List zbp))→AV×Mem:=(rTM (lCons (vI .i64) (lOne vBool)) (mRow 1000 8 zaN zb3)).enc
abbrev zkm:RD:={ α:=(Int×Bool)×(List zbp),enc:=zkk,dec:=(rTM (lCons (vI .i64) (lOne vBool)) (mRow 1000 8 zaN zb3)).dec,ok:=(rTM (lCons (vI .i64) (lOne vBool)) (mRow 1000 8 zaN zb3)).ok,de:=(rTM (lCons (vI .i64) (lOne vBool)) (mRow 1000 8 zaN zb3)).de }
def zgQ:(Bool×(List GTask))→AV×Mem:=(r1M vBool (mRow 1000 2 zbA zcY)).enc
abbrev zgW:RD:={ α:=Bool×(List GTask),enc:=zgQ,dec:=(r1M vBool (mRow 1000 2 zbA zcY)).dec,ok:=(r1M vBool (mRow 1000 2 zbA zcY)).ok,de:=(r1M vBool (mRow 1000 2 zbA zcY)).de }
def ziv:(Int×(List GTask))→AV×Mem:=(r1M (vI .i64) (mRow 1000 2 zbA zcY)).enc
abbrev zix:RD:={ α:=Int×(List GTask),enc:=ziv,dec:=(r1M (vI .i64) (mRow 1000 2 zbA zcY)).dec,ok:=(r1M (vI .i64) (mRow 1000 2 zbA zcY)).ok,de:=(r1M (vI .i64) (mRow 1000 2 zbA zcY)).de }
def zkI:((Int×Bool)×(List GTask))→AV×Mem:=(rTM (lCons (vI .i64) (lOne vBool)) (mRow 1000 2 zbA zcY)).enc
abbrev zkJ:RD:={ α:=(Int×Bool)×(List GTask),enc:=zkI,dec:=(rTM (lCons (vI .i64) (lOne vBool)) (mRow 1000 2 zbA zcY)).dec,ok:=(rTM (lCons (vI .i64) (lOne vBool)) (mRow 1000 2 zbA zcY)).ok,de:=(rTM (lCons (vI .i64) (lOne vBool)) (mRow 1000 2 zbA zcY)).de }
def zfS:(Bool×(List zab))→AV×Mem:=(r1M vBool (mRow 1000 9 zac zaz)).enc
abbrev zfU:RD:={ α:=Bool×(List zab),enc:=zfS,dec:=(r1M vBool (mRow 1000 9 zac zaz)).dec,ok:=(r1M vBool (mRow 1000 9 zac zaz)).ok,de:=(r1M vBool (mRow 1000 9 zac zaz)).de }
def zhb:(Int×(List zab))→AV×Mem:=(r1M (vI .i64) (mRow 1000 9 zac zaz)).enc
abbrev zhc:RD:={ α:=Int×(List zab),enc:=zhb,dec:=(r1M (vI .i64) (mRow 1000 9 zac zaz)).dec,ok:=(r1M (vI .i64) (mRow 1000 9 zac zaz)).ok,de:=(r1M (vI .i64) (mRow 1000 9 zac zaz)).de }
def ziu:((Int×Bool)×(List zab))→AV×Mem:=(rTM (lCons (vI .i64) (lOne vBool)) (mRow 1000 9 zac zaz)).enc
abbrev ziw:RD:={ α:=(Int×Bool)×(List zab),enc:=ziu,dec:=(rTM (lCons (vI .i64) (lOne vBool)) (mRow 1000 9 zac zaz)).dec,ok:=(rTM (lCons (vI .i64) (lOne vBool)) (mRow 1000 9 zac zaz)).ok,de:=(rTM (lCons (vI .i64) (lOne vBool)) (mRow 1000 9 zac zaz)).de }
def zga:((List Bool))→AV×Mem:=(r1 (vNew 1 zff dBool)).enc
abbrev zeK:RD:={ α:=(List Bool),enc:=zga,dec:=(r1 (vNew 1 zff dBool)).dec,ok:=(r1 (vNew 1 zff dBool)).ok,de:=(r1 (vNew 1 zff dBool)).de }
def zkv:Int→AV×Mem:=(r1 (vI .u64)).enc
abbrev zdV:RD:={ α:=Int,enc:=zkv,dec:=(r1 (vI .u64)).dec,ok:=(r1 (vI .u64)).ok,de:=(r1 (vI .u64)).de }
def zkV:(Int×Int)→AV×Mem:=(r1M (vI .u64) (mBox 1000 1 zch znb)).enc
abbrev zef:RD:={ α:=Int×Int,enc:=zkV,dec:=(r1M (vI .u64) (mBox 1000 1 zch znb)).dec,ok:=(r1M (vI .u64) (mBox 1000 1 zch znb)).ok,de:=(r1M (vI .u64) (mBox 1000 1 zch znb)).de }
def zh8:(Int×Int)→AV×Mem:=(r1M (vI .i64) (mBox 1002 1 za0 zaV)).enc
abbrev zdh:RD:={ α:=Int×Int,enc:=zh8,dec:=(r1M (vI .i64) (mBox 1002 1 za0 zaV)).dec,ok:=(r1M (vI .i64) (mBox 1002 1 za0 zaV)).ok,de:=(r1M (vI .i64) (mBox 1002 1 za0 zaV)).de }
def zlm:(Int×Int)→AV×Mem:=(r1M (vI .i64) (mBox 1004 1 za0 zaV)).enc
abbrev zem:RD:={ α:=Int×Int,enc:=zlm,dec:=(r1M (vI .i64) (mBox 1004 1 za0 zaV)).dec,ok:=(r1M (vI .i64) (mBox 1004 1 za0 zaV)).ok,de:=(r1M (vI .i64) (mBox 1004 1 za0 zaV)).de }
def zln:((Int×Int)×Int)→AV×Mem:=(rTM (lCons (vI .i64) (lOne (vI .i64))) (mBox 1003 1 za0 zaV)).enc
abbrev zen:RD:={ α:=(Int×Int)×Int,enc:=zln,dec:=(rTM (lCons (vI .i64) (lOne (vI .i64))) (mBox 1003 1 za0 zaV)).dec,ok:=(rTM (lCons (vI .i64) (lOne (vI .i64))) (mBox 1003 1 za0 zaV)).ok,de:=(rTM (lCons (vI .i64) (lOne (vI .i64))) (mBox 1003 1 za0 zaV)).de }
def resTab:List RD:=[rRaw,rRaw,rRaw,zad,zad,zad,zad,zad,zad,zad,zad,zmZ,zho,zfv,zfv,zc0,zrP,zvE,zad,zfc,ztm,zad,zad,zad,zad,zad,zaW,zad,zad,zeJ,zgt,zfw,zgU,zgR,zgk,zgm,zgl,zdI,zia,zvF,zjU,zaJ,ze1,zhB,zdU,zbk,zaJ,zfN,zjV,zad,zad,zad,zaJ,zeh,zad,zad,zbo,zaJ,zaJ,zaJ,zcP,zd0,zgS,zaW,zgT,zaJ,zaJ,zad,zad,zad,zaJ,zic,za4,zaJ,zeJ,zcf,zfT,zib,zcf,zad,zbk,zaJ,zvH,zzb,zaJ,zad,zbo,zad,zad,zad,zad,zad,zeh,zjd,zeh,zad,zad,zad,zfx,zad,za4,zee,zfc,zad,zad,zad,zad,zkl,zcf,zbk,zbk,zbk,zdD,zbk,zgr,zid,zkm,zaJ,zaJ,zad,zad,zad,zad,zbo,zbo,zbo,zdD,zbo,zgW,zix,zkJ,zad,zad,zad,zad,zad,zad,zad,zad,za4,za4,za4,zdD,za4,zfU,zhc,ziw,zjV,zad,zad,zad,zaJ,zad,zeK,zad,zbk,zdV,zef,zdh,zem,zad,zad,zad,zbo,zdh,zem,zaJ,zad,zaJ,zad,zad,za4,zdh,zem,zad,zen,zen,zaJ,zen,rRaw,rRaw,rRaw,rRaw,rRaw,rRaw,rRaw,rRaw,rRaw,rRaw,rRaw,rRaw,rRaw,rRaw,rRaw,rRaw]
def zvC:(zbU×Int)→AV×Mem:=(rT (lCons (vAgg zgy) (lOne (vI .i64)))).enc
abbrev zvG:RD:={ α:=zbU×Int,enc:=zvC,dec:=(rT (lCons (vAgg zgy) (lOne (vI .i64)))).dec,ok:=(rT (lCons (vAgg zgy) (lOne (vI .i64)))).ok,de:=(rT (lCons (vAgg zgy) (lOne (vI .i64)))).de }
def zc5:((List ((Int×Int)×za7)))→AV×Mem:=(r1 (vNewm zbm zbK)).enc
abbrev zgV:RD:={ α:=(List ((Int×Int)×za7)),enc:=zc5,dec:=(r1 (vNewm zbm zbK)).dec,ok:=(r1 (vNewm zbm zbK)).ok,de:=(r1 (vNewm zbm zbK)).de }
def zT:Dic:=Dic.of tyTab resTab [(15,zvG),(42,zfN),(71,zgV)]
abbrev zgY:Fr:=⟨Tryz.prog,zC,zA,7,Tryz.f7,[]⟩
abbrev zyo:Fr:=⟨Tryz.prog,zC,zA,9,Tryz.f9,[]⟩
abbrev zyn:Fr:=⟨Tryz.prog,zC,zA,10,Tryz.f10,[]⟩
abbrev zzj:Fr:=⟨Tryz.prog,zC,zA,11,Tryz.f11,[]⟩
abbrev znG:Fr:=⟨Tryz.prog,zC,zA,12,Tryz.f12,[(1000,⟨0,0,[],false⟩)]⟩
abbrev zhM:Fr:=⟨Tryz.prog,zC,zA,14,Tryz.f14,[(1000,⟨0,0,[],false⟩)]⟩
abbrev zaQ:Fr:=⟨Tryz.prog,zC,zA,15,Tryz.f15,[(1001,⟨0,0,[],false⟩)]⟩
abbrev zsa:Fr:=⟨Tryz.prog,zC,zA,22,Tryz.f22,[]⟩
abbrev zyp:Fr:=⟨Tryz.prog,zC,zA,23,Tryz.f23,[]⟩
abbrev zuN:Fr:=⟨Tryz.prog,zC,zA,26,Tryz.f26,[(1000,⟨0,0,[],false⟩)]⟩
abbrev zrY:Fr:=⟨Tryz.prog,zC,zA,27,Tryz.f27,[]⟩
abbrev R_law29_at:Fr:=⟨Tryz.prog,zC,zA,29,Tryz.f29,[]⟩
abbrev zeo:Fr:=⟨Tryz.prog,zC,zA,31,Tryz.f31,[(1001,⟨0,0,[],false⟩)]⟩
abbrev zm5:Fr:=⟨Tryz.prog,zC,zA,32,Tryz.f32,[]⟩
abbrev zgv:Fr:=⟨Tryz.prog,zC,zA,33,Tryz.f33,[(1000,⟨0,0,[],false⟩)]⟩
abbrev zml:Fr:=⟨Tryz.prog,zC,zA,34,Tryz.f34,[(1000,⟨0,0,[],false⟩)]⟩
abbrev zge:Fr:=⟨Tryz.prog,zC,zA,35,Tryz.f35,[(1000,⟨0,0,[],false⟩)]⟩
abbrev zr9:Fr:=⟨Tryz.prog,zC,zA,36,Tryz.f36,[(1000,⟨0,0,[],false⟩)]⟩
abbrev zuM:Fr:=⟨Tryz.prog,zC,zA,37,Tryz.f37,[(1000,⟨0,0,[],false⟩)]⟩
abbrev zoo:Fr:=⟨Tryz.prog,zC,zA,38,Tryz.f38,[(1000,⟨0,0,[],false⟩)]⟩
abbrev zsr:Fr:=⟨Tryz.prog,zC,zA,40,Tryz.f40,[]⟩
abbrev zvL:Fr:=⟨Tryz.prog,zC,zA,41,Tryz.f41,[]⟩
abbrev zaG:Fr:=⟨Tryz.prog,zC,zA,42,Tryz.f42,[(1000,⟨0,0,[],false⟩)]⟩
abbrev zaC:Fr:=⟨Tryz.prog,zC,zA,43,Tryz.f43,[]⟩
abbrev zkp:Fr:=⟨Tryz.prog,zC,zA,44,Tryz.f44,[]⟩
abbrev zjh:Fr:=⟨Tryz.prog,zC,zA,45,Tryz.f45,[(1000,⟨0,0,[],false⟩)]⟩
abbrev zpv:Fr:=⟨Tryz.prog,zC,zA,46,Tryz.f46,[]⟩
abbrev zfI:Fr:=⟨Tryz.prog,zC,zA,50,Tryz.f50,[]⟩
abbrev zp6:Fr:=⟨Tryz.prog,zC,zA,51,Tryz.f51,[]⟩
abbrev zvR:Fr:=⟨Tryz.prog,zC,zA,52,Tryz.f52,[]⟩
abbrev zsq:Fr:=⟨Tryz.prog,zC,zA,58,Tryz.f58,[]⟩
abbrev ztI:Fr:=⟨Tryz.prog,zC,zA,59,Tryz.f59,[]⟩
abbrev zky:Fr:=⟨Tryz.prog,zC,zA,61,Tryz.f61,[(1000,⟨0,0,[],false⟩)]⟩
abbrev zjl:Fr:=⟨Tryz.prog,zC,zA,62,Tryz.f62,[(1000,⟨0,0,[],false⟩)]⟩
abbrev zuO:Fr:=⟨Tryz.prog,zC,zA,63,Tryz.f63,[(1000,⟨0,0,[],false⟩)]⟩
abbrev zm4:Fr:=⟨Tryz.prog,zC,zA,64,Tryz.f64,[(1000,⟨0,0,[],false⟩)]⟩
abbrev zp5:Fr:=⟨Tryz.prog,zC,zA,65,Tryz.f65,[]⟩
abbrev zlp:Fr:=⟨Tryz.prog,zC,zA,66,Tryz.f66,[]⟩
abbrev zlq:Fr:=⟨Tryz.prog,zC,zA,67,Tryz.f67,[]⟩
abbrev zkL:Fr:=⟨Tryz.prog,zC,zA,68,Tryz.f68,[]⟩
abbrev zhN:Fr:=⟨Tryz.prog,zC,zA,69,Tryz.f69,[]⟩
abbrev zvO:Fr:=⟨Tryz.prog,zC,zA,70,Tryz.f70,[]⟩
abbrev zor:Fr:=⟨Tryz.prog,zC,zA,71,Tryz.f71,[(1000,⟨0,0,[],false⟩)]⟩
abbrev zgw:Fr:=⟨Tryz.prog,zC,zA,72,Tryz.f72,[(1000,⟨0,0,[],false⟩)]⟩
abbrev zp7:Fr:=⟨Tryz.prog,zC,zA,73,Tryz.f73,[]⟩
abbrev zvN:Fr:=⟨Tryz.prog,zC,zA,74,Tryz.f74,[]⟩
abbrev zop:Fr:=⟨Tryz.prog,zC,zA,75,Tryz.f75,[(1000,⟨0,0,[],false⟩),(900,⟨0,0,[],false⟩),(901,⟨0,0,[],false⟩),(902,⟨0,0,[],false⟩)]⟩
abbrev zex:Fr:=⟨Tryz.prog,zC,zA,76,Tryz.f76,[]⟩
abbrev zoq:Fr:=⟨Tryz.prog,zC,zA,77,Tryz.f77,[]⟩
abbrev zmm:Fr:=⟨Tryz.prog,zC,zA,78,Tryz.f78,[(1000,⟨0,0,[],false⟩),(900,⟨0,0,[],false⟩),(901,⟨0,0,[],false⟩),(902,⟨0,0,[],false⟩)]⟩
abbrev zlO:Fr:=⟨Tryz.prog,zC,zA,79,Tryz.f79,[]⟩
abbrev zkO:Fr:=⟨Tryz.prog,zC,zA,80,Tryz.f80,[(1000,⟨0,0,[],false⟩)]⟩
abbrev zdE:Fr:=⟨Tryz.prog,zC,zA,84,Tryz.f84,[]⟩
abbrev zvK:Fr:=⟨Tryz.prog,zC,zA,87,Tryz.f87,[]⟩
abbrev zqS:Fr:=⟨Tryz.prog,zC,zA,88,Tryz.f88,[]⟩
abbrev zpd:Fr:=⟨Tryz.prog,zC,zA,89,Tryz.f89,[]⟩
abbrev zuP:Fr:=⟨Tryz.prog,zC,zA,90,Tryz.f90,[]⟩
abbrev zqb:Fr:=⟨Tryz.prog,zC,zA,91,Tryz.f91,[]⟩
abbrev znH:Fr:=⟨Tryz.prog,zC,zA,92,Tryz.f92,[]⟩
abbrev zlQ:Fr:=⟨Tryz.prog,zC,zA,93,Tryz.f93,[]⟩
abbrev ztK:Fr:=⟨Tryz.prog,zC,zA,94,Tryz.f94,[]⟩
abbrev zlP:Fr:=⟨Tryz.prog,zC,zA,95,Tryz.f95,[]⟩
abbrev ztL:Fr:=⟨Tryz.prog,zC,zA,96,Tryz.f96,[]⟩
abbrev zvM:Fr:=⟨Tryz.prog,zC,zA,97,Tryz.f97,[]⟩
abbrev zss:Fr:=⟨Tryz.prog,zC,zA,98,Tryz.f98,[]⟩
abbrev zwS:Fr:=⟨Tryz.prog,zC,zA,99,Tryz.f99,[]⟩
abbrev zjj:Fr:=⟨Tryz.prog,zC,zA,100,Tryz.f100,[(1000,⟨0,0,[],false⟩)]⟩
abbrev zbq:Fr:=⟨Tryz.prog,zC,zA,101,Tryz.f101,[]⟩
abbrev zm6:Fr:=⟨Tryz.prog,zC,zA,102,Tryz.f102,[]⟩
abbrev ztJ:Fr:=⟨Tryz.prog,zC,zA,103,Tryz.f103,[]⟩
abbrev zsv:Fr:=⟨Tryz.prog,zC,zA,104,Tryz.f104,[]⟩
abbrev zkM:Fr:=⟨Tryz.prog,zC,zA,105,Tryz.f105,[]⟩
abbrev zp9:Fr:=⟨Tryz.prog,zC,zA,106,Tryz.f106,[]⟩
abbrev zqa:Fr:=⟨Tryz.prog,zC,zA,107,Tryz.f107,[]⟩
abbrev zd8:Fr:=⟨Tryz.prog,zC,zA,108,Tryz.f108,[(1000,⟨0,0,[],false⟩),(900,⟨0,0,[],false⟩),(901,⟨0,0,[],false⟩),(902,⟨0,0,[],false⟩)]⟩
abbrev zik:Fr:=⟨Tryz.prog,zC,zA,109,Tryz.f109,[(1000,⟨0,0,[],false⟩)]⟩
abbrev zkz:Fr:=⟨Tryz.prog,zC,zA,110,Tryz.f110,[(1000,⟨0,0,[],false⟩)]⟩
abbrev zij:Fr:=⟨Tryz.prog,zC,zA,111,Tryz.f111,[(1000,⟨0,0,[],false⟩)]⟩
abbrev zji:Fr:=⟨Tryz.prog,zC,zA,112,Tryz.f112,[]⟩
abbrev ziP:Fr:=⟨Tryz.prog,zC,zA,113,Tryz.f113,[(1000,⟨0,0,[],false⟩)]⟩
abbrev zgn:Fr:=⟨Tryz.prog,zC,zA,114,Tryz.f114,[(1000,⟨0,0,[],false⟩)]⟩
abbrev zhP:Fr:=⟨Tryz.prog,zC,zA,115,Tryz.f115,[(1000,⟨0,0,[],false⟩)]⟩
abbrev zj4:Fr:=⟨Tryz.prog,zC,zA,116,Tryz.f116,[(1000,⟨0,0,[],false⟩)]⟩
abbrev zeV:Fr:=⟨Tryz.prog,zC,zA,131,Tryz.f131,[]⟩
abbrev zpu:Fr:=⟨Tryz.prog,zC,zA,132,Tryz.f132,[]⟩
abbrev znF:Fr:=⟨Tryz.prog,zC,zA,133,Tryz.f133,[]⟩
abbrev zm8:Fr:=⟨Tryz.prog,zC,zA,134,Tryz.f134,[]⟩
abbrev zvQ:Fr:=⟨Tryz.prog,zC,zA,135,Tryz.f135,[]⟩
abbrev zuR:Fr:=⟨Tryz.prog,zC,zA,136,Tryz.f136,[]⟩
abbrev zxZ:Fr:=⟨Tryz.prog,zC,zA,137,Tryz.f137,[]⟩
abbrev zsb:Fr:=⟨Tryz.prog,zC,zA,138,Tryz.f138,[]⟩
abbrev zhi:Fr:=⟨Tryz.prog,zC,zA,139,Tryz.f139,[(1000,⟨0,0,[],false⟩)]⟩
abbrev ziO:Fr:=⟨Tryz.prog,zC,zA,140,Tryz.f140,[(1000,⟨0,0,[],false⟩)]⟩
abbrev zhh:Fr:=⟨Tryz.prog,zC,zA,141,Tryz.f141,[(1000,⟨0,0,[],false⟩)]⟩
abbrev zhD:Fr:=⟨Tryz.prog,zC,zA,142,Tryz.f142,[]⟩
abbrev zhq:Fr:=⟨Tryz.prog,zC,zA,143,Tryz.f143,[(1000,⟨0,0,[],false⟩)]⟩
abbrev zfO:Fr:=⟨Tryz.prog,zC,zA,144,Tryz.f144,[(1000,⟨0,0,[],false⟩)]⟩
abbrev zg0:Fr:=⟨Tryz.prog,zC,zA,145,Tryz.f145,[(1000,⟨0,0,[],false⟩)]⟩
abbrev zil:Fr:=⟨Tryz.prog,zC,zA,146,Tryz.f146,[(1000,⟨0,0,[],false⟩)]⟩
abbrev zrZ:Fr:=⟨Tryz.prog,zC,zA,147,Tryz.f147,[]⟩
abbrev zuQ:Fr:=⟨Tryz.prog,zC,zA,148,Tryz.f148,[]⟩
abbrev zsw:Fr:=⟨Tryz.prog,zC,zA,149,Tryz.f149,[]⟩
abbrev zsu:Fr:=⟨Tryz.prog,zC,zA,150,Tryz.f150,[]⟩
abbrev zst:Fr:=⟨Tryz.prog,zC,zA,151,Tryz.f151,[]⟩
abbrev zvP:Fr:=⟨Tryz.prog,zC,zA,152,Tryz.f152,[]⟩
abbrev zbj:Fr:=⟨Tryz.prog,zC,zA,153,Tryz.f153,[]⟩
abbrev znI:Fr:=⟨Tryz.prog,zC,zA,154,Tryz.f154,[]⟩
abbrev zkA:Fr:=⟨Tryz.prog,zC,zA,155,Tryz.f155,[(1000,⟨0,0,[],false⟩)]⟩
abbrev zo1:Fr:=⟨Tryz.prog,zC,zA,156,Tryz.f156,[]⟩
abbrev zpw:Fr:=⟨Tryz.prog,zC,zA,157,Tryz.f157,[(1000,⟨0,0,[],false⟩)]⟩
abbrev zhO:Fr:=⟨Tryz.prog,zC,zA,158,Tryz.f158,[(1002,⟨0,0,[],false⟩)]⟩
abbrev zk8:Fr:=⟨Tryz.prog,zC,zA,159,Tryz.f159,[(1004,⟨0,0,[],false⟩)]⟩
abbrev zcA:Fr:=⟨Tryz.prog,zC,zA,166,Tryz.f166,[]⟩
abbrev zuL:Fr:=⟨Tryz.prog,zC,zA,167,Tryz.f167,[]⟩
abbrev zpc:Fr:=⟨Tryz.prog,zC,zA,168,Tryz.f168,[]⟩
abbrev znP:Fr:=⟨Tryz.prog,zC,zA,169,Tryz.f169,[]⟩
abbrev zp8:Fr:=⟨Tryz.prog,zC,zA,170,Tryz.f170,[]⟩
abbrev ziQ:Fr:=⟨Tryz.prog,zC,zA,171,Tryz.f171,[(1000,⟨0,0,[],false⟩)]⟩
abbrev zgZ:Fr:=⟨Tryz.prog,zC,zA,172,Tryz.f172,[(1002,⟨0,0,[],false⟩)]⟩
abbrev zjm:Fr:=⟨Tryz.prog,zC,zA,173,Tryz.f173,[(1004,⟨0,0,[],false⟩)]⟩
abbrev zqT:Fr:=⟨Tryz.prog,zC,zA,174,Tryz.f174,[]⟩
abbrev zk9:Fr:=⟨Tryz.prog,zC,zA,175,Tryz.f175,[(1003,⟨0,0,[],false⟩)]⟩
abbrev zkN:Fr:=⟨Tryz.prog,zC,zA,177,Tryz.f177,[]⟩
abbrev zjn:Fr:=⟨Tryz.prog,zC,zA,178,Tryz.f178,[(1003,⟨0,0,[],false⟩)]⟩
abbrev zm7:Fr:=⟨Tryz.prog,zC,zA,71,Tryz.f71,[]⟩
abbrev cw:zbu:=callw Tryz.prog zC zA
abbrev zP:Program:=Tryz.prog
theorem ke_117 (x y:zao):keyEq zP 117 (.agg (zbb x)) (.agg (zbb y))=some (decide (y=x)):=by
 have h1:eqV zP 20 117 [(.int .i64 x.script:Value),(.int .i64 x.part:Value)] [(.int .i64 y.script:Value),(.int .i64 y.part:Value)]=some (x.script == y.script && (x.part == y.part && true)):=by kernel_rfl
 have h2:bitsL [(.int .i64 x.script:Value),(.int .i64 x.part:Value)] [(.int .i64 y.script:Value),(.int .i64 y.part:Value)]=some (x.script == y.script && (x.part == y.part && true)):=by kernel_rfl
 have h:keyEq zP 117 (.agg (zbb x)) (.agg (zbb y))=agree (eqV zP 20 117 [(.int .i64 x.script:Value),(.int .i64 x.part:Value)] [(.int .i64 y.script:Value),(.int .i64 y.part:Value)]) (bitsL [(.int .i64 x.script:Value),(.int .i64 x.part:Value)] [(.int .i64 y.script:Value),(.int .i64 y.part:Value)]):=by kernel_rfl
 rw [h,h1,h2]; have ha:∀ b:Bool,agree (some b) (some b)=some b:=fun b=>by simp [agree]
 rw [ha]; refine congrArg some ?_; by_cases e:y=x
 · rw [decide_eq_true e,e]; simp
 · rw [decide_eq_false e,Bool.eq_false_iff]; intro q; simp only [zbZ,beq_iff_eq,and_true] at q; refine e (zcD.inj ?_); show [I (y.script),I (y.part)]=[I (x.script),I (x.part)]; simp only [q]
theorem zhg {β:Type} (z:zaL) (key:zao) (l:List (zao×zaL)) (k:zaL→Bool→Option β):mapD zP 117 true zlx (.agg (zbB z)) (List.map zaj l) (.agg (zbb key)) k=k ((mfind key l).getD z) (mfind key l).isSome:=
 zrB (agg:=true) (D:=zlx) (kenc:=fun x=>.agg (zbb x)) (venc:=fun x=>.agg (zbB x)) ke_117 (show ∀ x:zaL,avDec true zlx (.agg (zbB x))=some x from fun x=>zlx.de x) z key l k
theorem zmj {β:Type} (key:zao) (v:zaL) (l:List (zao×zaL)) (k:List (List AV)→Option β):msetD zP 117 49 (.agg (zbb key)) (.agg (zbB v)) (List.map zaj l) k=k (List.map zaj (mput key v l)):=
 zpp (kenc:=fun x=>.agg (zbb x)) (venc:=fun x=>.agg (zbB x)) ke_117 key v l k
theorem zkt {β:Type} (z:Int) (key:zao) (l:List (zao×Int)) (k:Int→Bool→Option β):mapD zP 117 false zaV (I z) (List.map zaq l) (.agg (zbb key)) k=k ((mfind key l).getD z) (mfind key l).isSome:=
 zrB (agg:=false) (D:=zaV) (kenc:=fun x=>.agg (zbb x)) (venc:=fun x=>I x) ke_117 (show ∀ x:Int,avDec false zaV (I x)=some x from fun x=>zaV.de x) z key l k
theorem zo9 {β:Type} (key:zao) (v:Int) (l:List (zao×Int)) (k:List (List AV)→Option β):msetD zP 117 3 (.agg (zbb key)) (I v) (List.map zaq l) k=k (List.map zaq (mput key v l)):=
 zpp (kenc:=fun x=>.agg (zbb x)) (venc:=fun x=>I x) ke_117 key v l k
theorem zkU {β:Type} (z:zab) (key:zao) (l:List (zao×zab)) (k:zab→Bool→Option β):mapD zP 117 true zaz (.agg (zaa z)) (List.map zby l) (.agg (zbb key)) k=k ((mfind key l).getD z) (mfind key l).isSome:=
 zrB (agg:=true) (D:=zaz) (kenc:=fun x=>.agg (zbb x)) (venc:=fun x=>.agg (zaa x)) ke_117 (show ∀ x:zab,avDec true zaz (.agg (zaa x))=some x from fun x=>zaz.de x) z key l k
theorem zkW {β:Type} (key:zao) (v:zab) (l:List (zao×zab)) (k:List (List AV)→Option β):msetD zP 117 64 (.agg (zbb key)) (.agg (zaa v)) (List.map zby l) k=k (List.map zby (mput key v l)):=
 zpp (kenc:=fun x=>.agg (zbb x)) (venc:=fun x=>.agg (zaa x)) ke_117 key v l k
theorem ke_151 (x y:Int×Int):keyEq zP 151 (.agg (zcr x)) (.agg (zcr y))=some (decide (y=x)):=by
 have h1:eqV zP 20 151 [(.int .i64 x.1:Value),(.int .i64 x.2:Value)] [(.int .i64 y.1:Value),(.int .i64 y.2:Value)]=some (x.1 == y.1 && (x.2 == y.2 && true)):=by kernel_rfl
 have h2:bitsL [(.int .i64 x.1:Value),(.int .i64 x.2:Value)] [(.int .i64 y.1:Value),(.int .i64 y.2:Value)]=some (x.1 == y.1 && (x.2 == y.2 && true)):=by kernel_rfl
 have h:keyEq zP 151 (.agg (zcr x)) (.agg (zcr y))=agree (eqV zP 20 151 [(.int .i64 x.1:Value),(.int .i64 x.2:Value)] [(.int .i64 y.1:Value),(.int .i64 y.2:Value)]) (bitsL [(.int .i64 x.1:Value),(.int .i64 x.2:Value)] [(.int .i64 y.1:Value),(.int .i64 y.2:Value)]):=by kernel_rfl
 rw [h,h1,h2]; have ha:∀ b:Bool,agree (some b) (some b)=some b:=fun b=>by simp [agree]
 rw [ha]; refine congrArg some ?_; by_cases e:y=x
 · rw [decide_eq_true e,e]; simp
 · rw [decide_eq_false e,Bool.eq_false_iff]; intro q; simp only [zbZ,beq_iff_eq,and_true] at q; refine e (zd1.inj ?_); show [I (y.1),I (y.2)]=[I (x.1),I (x.2)]; simp only [q]
theorem zi9 {β:Type} (z:za7) (key:Int×Int) (l:List ((Int×Int)×za7)) (k:za7→Bool→Option β):mapD zP 151 true zdO (.agg (zbz z)) (List.map zbv l) (.agg (zcr key)) k=k ((mfind key l).getD z) (mfind key l).isSome:=
 zrB (agg:=true) (D:=zdO) (kenc:=fun x=>.agg (zcr x)) (venc:=fun x=>.agg (zbz x)) ke_151 (show ∀ x:za7,avDec true zdO (.agg (zbz x))=some x from fun x=>zdO.de x) z key l k
theorem zcN {β:Type} (key:Int×Int) (v:za7) (l:List ((Int×Int)×za7)) (k:List (List AV)→Option β):msetD zP 151 153 (.agg (zcr key)) (.agg (zbz v)) (List.map zbv l) k=k (List.map zbv (mput key v l)):=
 zpp (kenc:=fun x=>.agg (zcr x)) (venc:=fun x=>.agg (zbz x)) ke_151 key v l k
@[simp] theorem zam {β:Type} (v:Bool) (k:Bool→Option β):callD zad (some (zan v)) k=k v:=zbi (D:=zad) k
@[simp] theorem zwb {β:Type} (v:zae) (k:zae→Option β):callD zmZ (some (zpY v)) k=k v:=zbi (D:=zmZ) k
@[simp] theorem zqs {β:Type} (v:zaA×zae) (k:(zaA×zae)→Option β):callD zho (some (zhn v)) k=k v:=zbi (D:=zho) k
@[simp] theorem zrg {β:Type} (v:((List zab))×zae) (k:(((List zab))×zae)→Option β):callD zfv (some (zgM v)) k=k v:=zbi (D:=zfv) k
@[simp] theorem zAc {β:Type} (v:(zbU×Int)×(List zab)) (k:((zbU×Int)×(List zab))→Option β):callD zc0 (some (zmR v)) k=k v:=zbi (D:=zc0) k
@[simp] theorem zbc {β:Type} (v:Int×zae) (k:(Int×zae)→Option β):callD zaW (some (zh6 v)) k=k v:=zbi (D:=zaW) k
@[simp] theorem ze5 {β:Type} (v:zab) (k:zab→Option β):callD zeJ (some (zkh v)) k=k v:=zbi (D:=zeJ) k
@[simp] theorem zkC {β:Type} (v:zaA) (k:zaA→Option β):callD zgt (some (znC v)) k=k v:=zbi (D:=zgt) k
@[simp] theorem zzC {β:Type} (v:((List GTask)×Int)×(List zab)) (k:(((List GTask)×Int)×(List zab))→Option β):callD zfw (some (zjT v)) k=k v:=zbi (D:=zfw) k
@[simp] theorem zpF {β:Type} (v:(List zbp)) (k:((List zbp))→Option β):callD zgU (some (zgO v)) k=k v:=zbi (D:=zgU) k
@[simp] theorem zpC {β:Type} (v:((List zaD)×(List zbr))×zae) (k:(((List zaD)×(List zbr))×zae)→Option β):callD zgR (some (zfu v)) k=k v:=zbi (D:=zgR) k
@[simp] theorem zo3 {β:Type} (v:((List za6))×zae) (k:(((List za6))×zae)→Option β):callD zgk (some (zgi v)) k=k v:=zbi (D:=zgk) k
@[simp] theorem zo5 {β:Type} (v:((List zaP))×zae) (k:(((List zaP))×zae)→Option β):callD zgm (some (zgj v)) k=k v:=zbi (D:=zgm) k
@[simp] theorem zo4 {β:Type} (v:zaY×zae) (k:(zaY×zae)→Option β):callD zgl (some (ziW v)) k=k v:=zbi (D:=zgl) k
@[simp] theorem zcc {β:Type} (v:Bool×zae) (k:(Bool×zae)→Option β):callD zdI (some (zll v)) k=k v:=zbi (D:=zdI) k
@[simp] theorem zrh {β:Type} (v:GSeed×zae) (k:(GSeed×zae)→Option β):callD zia (some (zh7 v)) k=k v:=zbi (D:=zia) k
@[simp] theorem zoH {β:Type} (v:zaD) (k:zaD→Option β):callD zjU (some (zl6 v)) k=k v:=zbi (D:=zjU) k
@[simp] theorem zaX {β:Type} (v:Int) (k:Int→Option β):callD zaJ (some (zbe v)) k=k v:=zbi (D:=zaJ) k
@[simp] theorem zkq {β:Type} (v:((List zab)×Int)×(List zab)) (k:(((List zab)×Int)×(List zab))→Option β):callD ze1 (some (zdu v)) k=k v:=zbi (D:=ze1) k
@[simp] theorem zm9 {β:Type} (v:List (Option zah)×List (zao×zaL)) (k:(List (Option zah)×List (zao×zaL))→Option β):callD zhB (some (zhA v)) k=k v:=zbi (D:=zhB) k
@[simp] theorem zhG {β:Type} (v:(List (zao×zab))) (k:((List (zao×zab)))→Option β):callD zdU (some (zcz v)) k=k v:=zbi (D:=zdU) k
@[simp] theorem zhE {β:Type} (v:(List zbp)) (k:((List zbp))→Option β):callD zbk (some (zdC v)) k=k v:=zbi (D:=zbk) k
@[simp] theorem zio {β:Type} (v:(List GTask)) (k:((List GTask))→Option β):callD zbo (some (zdS v)) k=k v:=zbi (D:=zbo) k
@[simp] theorem ziR {β:Type} (v:Nat×(List GTask)) (k:(Nat×(List GTask))→Option β):callD zcP (some (zdZ v)) k=k v:=zbi (D:=zcP) k
@[simp] theorem zfA {β:Type} (v:zaD×zae) (k:(zaD×zae)→Option β):callD zd0 (some (zkH v)) k=k v:=zbi (D:=zd0) k
@[simp] theorem zpD {β:Type} (v:zbr×zae) (k:(zbr×zae)→Option β):callD zgS (some (zjS v)) k=k v:=zbi (D:=zgS) k
@[simp] theorem zpE {β:Type} (v:zaP×zae) (k:(zaP×zae)→Option β):callD zgT (some (zgN v)) k=k v:=zbi (D:=zgT) k
@[simp] theorem zrj {β:Type} (v:((List ((Int×Int)×za7)))×(List zab)) (k:(((List ((Int×Int)×za7)))×(List zab))→Option β):callD zic (some (zdH v)) k=k v:=zbi (D:=zic) k
@[simp] theorem zf2 {β:Type} (v:(List zab)) (k:((List zab))→Option β):callD za4 (some (zcG v)) k=k v:=zbi (D:=za4) k
@[simp] theorem ze6 {β:Type} (v:zah) (k:zah→Option β):callD zcf (some (zbI v)) k=k v:=zbi (D:=zcf) k
@[simp] theorem zoI {β:Type} (v:Int×(Option Addr)) (k:(Int×(Option Addr))→Option β):callD zfT (some (zeH v)) k=k v:=zbi (D:=zfT) k
@[simp] theorem zri {β:Type} (v:GSeed×Bool) (k:(GSeed×Bool)→Option β):callD zib (some (zf9 v)) k=k v:=zbi (D:=zib) k
@[simp] theorem zlv {β:Type} (v:Int×Bool) (k:(Int×Bool)→Option β):callD zeh (some (zit v)) k=k v:=zbi (D:=zeh) k
@[simp] theorem zAb {β:Type} (v:(List Int)×Int) (k:((List Int)×Int)→Option β):callD zjd (some (zeI v)) k=k v:=zbi (D:=zjd) k
@[simp] theorem zkQ {β:Type} (v:(Int×Int)) (k:((Int×Int))→Option β):callD zfx (some (zgP v)) k=k v:=zbi (D:=zfx) k
@[simp] theorem zin {β:Type} (v:(List Int)) (k:((List Int))→Option β):callD zee (some (zha v)) k=k v:=zbi (D:=zee) k
@[simp] theorem zg1 {β:Type} (v:zaP×Bool) (k:(zaP×Bool)→Option β):callD zfc (some (zkj v)) k=k v:=zbi (D:=zfc) k
@[simp] theorem zsO {β:Type} (v:zcR×Int) (k:(zcR×Int)→Option β):callD zkl (some (zki v)) k=k v:=zbi (D:=zkl) k
@[simp] theorem ztZ {β:Type} (v:za6×Bool) (k:(za6×Bool)→Option β):callD zjV (some (zl7 v)) k=k v:=zbi (D:=zjV) k
@[simp] theorem zmB {β:Type} (v:(List Bool)) (k:((List Bool))→Option β):callD zeK (some (zga v)) k=k v:=zbi (D:=zeK) k
@[simp] theorem zxl {β:Type} (v:Int) (k:Int→Option β):callD zdV (some (zkv v)) k=k v:=zbi (D:=zdV) k
@[simp] theorem zx9 {β:Type} (v:Int×Int) (k:(Int×Int)→Option β):callD zef (some (zkV v)) k=k v:=zbi (D:=zef) k
@[simp] theorem znR {β:Type} (v:(List zab)×Int) (k:((List zab)×Int)→Option β):callD zfN (some (zeQ v)) k=k v:=zbi (D:=zfN) k
@[simp] theorem zpG {β:Type} (v:(List ((Int×Int)×za7))) (k:((List ((Int×Int)×za7)))→Option β):callD zgV (some (zc5 v)) k=k v:=zbi (D:=zgV) k
theorem ptT {y:AV×Mem} (cut:List Nat) {R:Fr} {j:Nat} {st:St} {x:Option (AV×Mem)} (h:x=some y) (hx:tGo R zT cut 100000 (decide (j≠0)) (ptS R.fn j) st=x:=by kernel_rfl):pt R j st=some y:=pt_of zT cut hx h
theorem cwT {y:AV×Mem} (R:Fr) (cut:List Nat) {args:List AV} {ms:Mem} {x:Option (AV×Mem)} (h:x=some y) (ho:R.C.orc R.f args ms=none:=by rfl) (hf:R.P.funcs[R.f]?=some R.fn:=by kernel_rfl) (he:enters R.P R.f=true:=by kernel_rfl)
  (hN:decide (R.fn.ntmps≤1000∧args.length≤R.fn.ntmps)=true:=by kernel_rfl) (hm:R.ms=Go.Ab.blank ms:=by kernel_rfl)
  (hx:tGo R zT cut 100000 false (ptK R.fn 0) { t:=argTab 0 args,m:=ms }=x:=by kernel_rfl):callw R.P R.C R.F R.f args ms=some y:=zwd R zT cut ho hf he hN hm hx h
end Go.Proofs.YtikogkgdkdmljaaGreat
end
