/- Annotations of the seat's functions: what lives behind each region, which slots own rows, which arguments are written; how results read. -/
import Derived.Test.YtikogkgdkdmljaaGreatXTy
import Derived.Test.YtikogkgdkdmljaaGreatProg
import Derived.Test.YtikogkgdkdmljaaGreatXSp
set_option linter.unusedSimpArgs false
set_option linter.unusedVariables false
noncomputable section
namespace Go.Proofs.YtikogkgdkdmljaaGreat
open Go.Ab
abbrev LL:=List (List AV)
def zC:Cfg:={ wrt:=atReg [(12,[0]),(13,[0]),(14,[0]),(15,[1]),(16,[0,1]),(26,[0]),(31,[1]),(33,[0]),(34,[0]),(35,[0]),(36,[0]),(37,[0]),(38,[0]),(39,[0]),(42,[0]),(45,[0]),(56,[0]),(60,[0]),(61,[0]),(62,[0]),(63,[0]),(64,[0]),(71,[0]),(72,[0]),(80,[0]),(86,[0]),(100,[0]),(109,[0]),(110,[0]),(111,[0]),(113,[0]),(114,[0]),(115,[0]),(116,[0]),(123,[0]),(124,[0]),(125,[0]),(127,[0]),(128,[0]),(129,[0]),(130,[0]),(139,[0]),(140,[0]),(141,[0]),(143,[0]),(144,[0]),(145,[0]),(146,[0]),(155,[0]),(157,[0]),(158,[2]),(159,[4]),(163,[0]),(164,[2]),(165,[4]),(171,[0]),(172,[2]),(173,[4]),(175,[3]),(176,[3]),(178,[3])],orc:=zOrc,dp:=fun f=>(atReg [(108,[0]),(75,[0]),(78,[0])] f).head? }
def zm0:zai→Mem:=fun x=>[(1000,⟨14,za8,[[I x.level,.row 900 10 0 (List.map zcB.enc x.marks).length,I x.period,I x.started.Time,I x.started.Source,I x.started.Seq,.map 901,.sl 1 (List.map dBool.enc x.watch.Last),B x.watch.Suspended,I x.good.Time,I x.good.Source,I x.good.Seq,B x.some,.row 902 12 0 (List.map zcc.enc x.suspensions).length]],true⟩),(900,⟨10,133,List.map zcB.enc x.marks,false⟩),(901,⟨0,108,List.map zdf.enc x.noted,false⟩),(902,⟨12,61,List.map zcc.enc x.suspensions,false⟩)]
abbrev zjK:MD:=⟨zai,zm0,by
 intro x y h; simp only [zm0,zbj,zaH,Ent.mk.injEq,AV.v.injEq,AV.row.injEq,AV.sl.injEq,Value.int.injEq,Value.bool.injEq,Value.string.injEq,true_and,and_true,and_assoc,TyD.minj dBool,TyD.minj zdf,TyD.minj zcc,TyD.minj zcB] at h
 exact (zai.eqOf (h.1) (h.2.2.2.2.2.2.2.2.2.2.2.2.2.1) (h.2.2.1) (zaM.eqOf (h.2.2.2.1) (h.2.2.2.2.1) (h.2.2.2.2.2.1)) (h.2.2.2.2.2.2.2.2.2.2.2.2.2.2.1) (zda.eqOf (h.2.2.2.2.2.2.1) (h.2.2.2.2.2.2.2.1)) (zaM.eqOf (h.2.2.2.2.2.2.2.2.1) (h.2.2.2.2.2.2.2.2.2.1) (h.2.2.2.2.2.2.2.2.2.2.1)) (h.2.2.2.2.2.2.2.2.2.2.2.1) (h.2.2.2.2.2.2.2.2.2.2.2.2.2.2.2))⟩
def anK (l:List Nat) (v:List (List Nat)) (o:List (Nat×List (Nat×Nat×TypeId))):Ann:={ lits:=l,live:=fun i=>v[i]?,own:=atReg o }
def zr4:Ann:={ anK [] [[0],[0,14],[2],[3],[3,4],[3,4,5],[3,4,5,6,7],[4,5,6,7,8,9],[6,7,8,9,10,11],[2]] [(5,[(5,9,64)])] with fz:=atReg [(7,[5])] }
def zte:Ann:=anK [] [[0],[0,23],[2],[3],[3,4],[4,5],[4,5,6,7],[4,5,6,43],[2],[4,6,8],[4,6,8,47,48,49],[4,6,8,47,48,49,50],[4,6,8,9,10,47,48,49],[4,6,8,9,10,11,12,47,48,49],[4,6,8,9,10,11,12,14,47,48,49],[4,6,8,9,10,11,47,48,49,91],[2],[4,6,8,9,10,11,47,48,49,93],[4,6,8,10,11,15,47,48,49],[4,6,8,10,11,47,48,49,132],[2],[4,6,8,10,11,47,48,49,134,135,136],[4,6,8,10,11,47,48,49,134,135,136,137],[4,6,8,10,11,17,47,48,49,134,135,136],[4,6,8,10,11,47,48,49,134,135,136,164],[2],[4,6,8,10,11,47,48,49,134,135,136],[4,6,8,10,11,18,47,48,49],[4,6,8,10,11,18,47,48,49,166,167,168],[4,6,8,10,11,18,47,48,49,166,167,168,169],[4,6,8,10,11,18,20,47,48,49,166,167,168],[4,6,8,10,11,18,47,48,49,166,167,168],[4,6,8,10,11,18,47,48,49,166,167,168],[4,6,8,47,48,49,215],[2],[4,6,8,47,48,49],[2]] [(5,[(5,9,64)])]
def zr3:Ann:=anK [] [[0],[0,23],[2],[3],[3,4],[4,5],[4,5,6,7],[4,5,6,44],[2],[4,5,6,46,47,48],[4,5,6,46,47,48,49],[4,5,6,9,46,47,48],[4,5,6,9,10,46,47,48],[4,5,6,9,10,46,47,48,52,53,54],[4,5,6,9,10,46,47,48,52,53,54,55],[4,5,6,9,10,12,46,47,48,52,53,54],[4,5,6,9,10,12,46,47,48,52,53,54,68],[4,5,6,9,10,46,47,48,52,53,54],[4,5,6,9,10,46,47,48,52,53,54],[4,5,6,9,13,14,46,47,48],[4,5,6,9,13,14,15,46,47,48],[4,5,6,9,13,14,15,16,46,47,48],[4,5,6,9,13,14,15,16,46,47,48,81,82,83],[4,5,6,9,13,14,15,16,46,47,48,81,82,83,84],[4,5,6,9,13,14,15,16,18,46,47,48,81,82,83],[4,5,6,9,13,14,15,16,18,46,47,48,81,82,83,91],[4,5,6,9,13,14,15,16,46,47,48,81,82,83],[4,5,6,9,13,14,15,16,46,47,48,81,82,83],[4,5,6,9,13,14,15,16,46,47,48,98,99,100],[4,5,6,9,13,14,15,16,46,47,48,98,99,100,101],[4,5,6,9,13,14,15,16,20,46,47,48,98,99,100],[4,5,6,9,13,14,15,16,20,46,47,48,98,99,100,108],[4,5,6,9,13,14,15,16,46,47,48,98,99,100],[4,5,6,9,13,14,15,16,46,47,48,98,99,100],[4,5,6,46,47,48,123],[2],[4,5,6,46,47,48],[2]] [(12,[(10,9,64)]),(17,[(10,9,64)]),(20,[(15,8,51)]),(21,[(16,12,61)]),(26,[(15,8,51)]),(32,[(16,12,61)])]
def zr5:Ann:=anK [] [[0],[0,27],[2],[3],[3,4],[4,5],[4,5,6,7],[4,5,6,7,41,42,43],[4,5,6,7,41,42,43,44],[4,5,6,7,9,41,42,43],[4,5,6,7,9,11,41,42,43],[4,5,6,7,9,41,42,43,60],[4,5,6,7,9,41,42,43],[4,5,6,7,9,41,42,43,67],[4,5,6,7,41,42,43],[4,5,6,7,41,42,43],[4,6,7,12,13],[4,7,12,13,14,15],[4,7,12,13,14,15],[4,7,12,13,14,15,16,17],[4,7,16,117],[2],[4,7,16,18],[4,16,18,119,120,121],[4,16,18,119,120,121,122],[4,16,18,20,119,120,121],[4,16,18,20,119,120,121,127],[4,16,18,119,120,121],[4,16,18,119,120,121],[16,18,145],[2],[18,147,148,149],[18,147,148,149,150],[18,22,147,148,149],[18,22,23,24,147,148,149],[18,147,148,149,172],[2],[18,147,148,149],[2]] [(6,[(6,9,64),(7,9,64)]),(12,[(6,9,64)]),(14,[(7,9,64)])]
def zqv:Ann:=anK [] [[0,1],[0,1,19],[4],[1,5],[1,5,6],[1,5,6,7],[1,5,6,7,31],[4],[5,6,7,8],[6,7,8,9],[6,7,8,9,10,11],[8,9,10,11,12,13],[8,9,10,11,12,13,14],[8,9,10,11,12,13,14,67,68,69],[8,9,10,11,12,13,14,67,68,69,70],[8,9,10,11,12,13,14,16,67,68,69],[8,9,10,11,12,13,14,16,67,68,69,88],[8,9,10,11,12,13,14,67,68,69],[8,9,10,11,12,13,14,67,68,69],[4]] [(12,[(14,8,51)]),(17,[(14,8,51)])]
def zoL:Ann:=anK [] [[0,1],[0,1,29],[4],[1,5],[1,5,6],[1,6,7],[1,6,7,8,9],[6,7,8,9,10],[6,7,8,9,10,11],[6,7,8,9,10,11,12],[6,7,8,9,10,11,12,13,14],[6,7,8,9,10,11,13,14,15,16],[6,7,8,10,11,13,113],[4],[6,7,10,11,13,17],[6,7,10,11,17,129],[4],[6,7,10,11,17,131,132,133],[6,7,10,11,17,131,132,133,134],[6,7,10,11,17,19,131,132,133],[6,7,10,11,17,19,21,131,132,133],[6,7,10,11,17,19,131,132,133,153],[6,7,10,11,17,19,22,131,132,133],[6,7,10,11,17,19,22,23,24,131,132,133],[6,7,10,11,17,19,23,24,25,26,131,132,133],[6,7,10,11,17,131,132,133,205],[4],[6,7,10,11,17,131,132,133],[4]] []
def zeg:Ann:=anK [] [[0],[2]] []
def zzN:Ann:=anK [13] [[],[1],[1,2,3],[1,2,3,4,5],[1,2,3,4,5],[2,3,4,5,6,7],[0]] [(1,[(1,9,64)]),(4,[(1,9,64)])]
def zuS:Ann:={ anK [] [[0,2],[0,2,3,4],[0,2,3,5],[0,2,3,5,6],[0,2,3,5,6,26],[0,2,3,5,6],[0,2,3,5,6,30],[0,2,3,5,6],[2]] [] with cel:=fun _=>[(5,4,900,2,90)] }
def ztz:Ann:=anK [] [[0,2,4],[0,2,4,7],[0,2,4,7,8],[0,2,4,7,8,13],[0,2,4,7,8],[0,2,4,7,8,9],[0,2,4,7,8,9,22],[0,2,4,7,8],[0,2,4,7,8,9,22,31],[0,2,4,7,8],[0,2,4,7,8,9,22,50],[0,2,4,7,8,9,55],[0,2,4,7,8],[0,2,4,7,8,9,22,76],[0,2,4,7,8,80],[0,2,4,7,8],[0,2,4,7,8,9,91],[0,2,4,7,8,95],[0,2,4,7,8,10],[0,2,4,7,8,10],[0,2,4,7,8],[6]] [(1,[(7,9,64)]),(7,[(7,9,64)]),(9,[(7,9,64)]),(12,[(7,9,64)]),(15,[(7,9,64)]),(20,[(7,9,64)])]
def zv7:Ann:=anK [] [[0,2,4],[0,2,4,7],[0,2,4,7,8],[0,2,4,7,8,17],[0,2,4,7,8],[0,2,4,7,8,9],[0,2,4,7,8,9,10],[0,2,4,7,8,9,10,32],[0,2,4,7,8,9,10],[0,2,4,7,8,9,10,11],[0,2,4,7,8,9,10,11,39],[0,2,4,7,8,9,10,11],[0,2,4,7,8,9,10,11,53],[0,2,4,7,8,9,10,11,12],[0,2,4,7,8,9,10,11],[6]] [(1,[(7,9,64)]),(14,[(7,9,64)])]
def zxY:Ann:={ anK [] [[1,2,4],[1,2,4,17],[4,5],[2,4,6,7],[2,4,6,7,25],[4,5],[4,8,9],[4,8,9,10],[4,9,10,34,35],[4,9,10,34,35,36],[4,9,10,11,12,34,35],[4,9,10,11,12,34,35,42],[4,9,10,11,12,34,35],[4,9,10,11,12,34,35,54],[4,9,10,11,12,34,35,54,56],[4,9,10,11,12,14,34,35,54],[4,9,10,11,12,34,35,54],[4,9,10,34,35],[4,10],[4,5]] [] with cel:=fun _=>[(10,0,301,8,51),(10,1,302,12,61)] }
def zr6:Ann:=anK [] [[0,1],[0,1,5],[0,1,5,6],[0,1,5,6,15],[0,1,5,6],[0,1,5,6,7],[0,1,5,6],[0,1,5,8],[0,1,5,8,39],[0,1,5,8],[0,1,5,8,43],[0,1,5,8],[4]] [(1,[(5,9,64)]),(11,[(5,9,64)])]
def zv6:Ann:={ anK [] [[0],[3],[2]] [] with frz:=true }
def zzU:Ann:=anK [] [[2,3],[2,3,22],[4],[2,3,5],[2,3,5,27],[2,3,5],[2,3,5,40],[4],[2,3,6],[2,3,6,45],[2,3,6],[2,3,6,58],[4],[4]] []
def zri:Ann:=anK [] [[0,1,4],[0,1,4,6],[0,1,4,6,10],[0,1,4,6],[0,1,4,6,19],[4,5],[4,5]] []
def ztH:Ann:=anK [] [[0,1],[0,1,6],[0,1,6,10],[0,1,6],[0,1,6,19],[4,5],[4,5]] [(0,[(4,1,3)]),(5,[(4,1,3)]),(6,[(4,1,3)])]
def zpy:Ann:=anK [] [[0,1,5],[5,7,8],[6]] []
def zti:Ann:=anK [] [[3,4,5],[6]] []
def zzQ:Ann:=anK [] [[2,3],[2,3,5],[4],[2,3,16],[4],[4]] []
def zuZ:Ann:=anK [] [[0,1],[0,1,10],[4],[0,1,5],[0,1,5,14],[0,1,5],[0,1,5,25],[4],[4]] []
def zzS:Ann:=anK [] [[2,3],[2,3,5,6],[2,3,5,33],[4],[2,3,5,7],[4]] []
def zv9:Ann:=anK [] [[0,1],[0,1,19],[4],[0,1,5],[1,5],[1,5,40],[5],[4]] []
def zs2:Ann:=anK [] [[0,1],[0,1,10],[4],[0,1,12,13],[0,1,12,13,14],[0,1,5,12,13],[0,1,12,13,24],[4],[0,1,12,13],[4]] []
def zxW:Ann:=anK [] [[1,2,3],[1,11,12,13],[1,11,12,13,14],[1,8,11,12,13],[1,11,12,13,26],[6],[1,11,12,13],[6]] []
def a_law29_at:Ann:=anK [] [[0,1,2,6],[6]] []
def zy5:Ann:={ anK [12,13] [[0],[0,1],[0,1],[0,1,2],[0,1,2,18],[0,1,2],[0,1,2],[0,1],[0]] [] with cel:=fun _=>[(1,1,900,7,53)] }
def ztE:Ann:=anK [] [[1,2],[1,2,20],[4,5],[2,6,7],[2,6,7,27],[4,5],[8,9],[8,9,10],[9,10,35,36],[9,10,35,36,37],[9,10,11,12,35,36],[9,10,11,12,35,36,43],[9,10,11,12,13,35,36],[9,10,11,13,35,36,50,51,52],[9,10,11,13,35,36,50,51,52,53],[9,10,11,13,15,35,36,50,51,52],[9,10,11,13,15,17,35,36,50,51,52],[9,10,11,13,15,35,36,50,51,52,73],[9,10,11,13,35,36,50,51,52],[9,10,11,13,35,36,50,51,52],[9,10,35,36],[10],[4,5]] [(7,[(10,2,136)]),(18,[(10,2,136)])]
def ztD:Ann:=anK [] [[1,2,3],[1,2,3,7],[1,2,7,11,12,13],[1,2,7,11,12,13,14],[1,2,7,9,11,12,13],[1,2,7,9,11,12,13,26],[1,2,7,11,12,13],[1,2,7,11,12,13],[6]] [(1,[(7,8,51)]),(6,[(7,8,51)])]
def ztA:Ann:=anK [9] [[0],[0,4],[0,4,11],[0,4],[0,4,18],[0,4],[0,4,5],[0,4,5,6],[0,4,5,6,27],[0,4,5,6],[0,4,5,6],[2,3]] [(1,[(4,3,95)]),(3,[(4,3,95)]),(5,[(4,3,95)]),(6,[(5,2,131)]),(10,[(5,2,131)])]
def ztf:Ann:=anK [] [[0],[0,3],[0,3,4],[0,3,4,5],[0,3,4,5,10],[0,3,4,5],[0,3,4,5],[0,3,4,5],[2]] [(1,[(3,5,67)]),(7,[(3,5,67)])]
def zth:Ann:=anK [] [[0,1,2],[0,1,2,7],[0,1,2,7,8],[0,1,2,7,8,13],[0,1,2,7,8],[0,1,2,7,8,9],[0,1,2,7,8,9,10],[0,1,2,7,8,9,10,19],[0,1,2,7,8,9,10],[0,1,2,7,8,9,10,28],[0,1,2,7,8,9,10],[0,1,2,7,8,9,11],[0,1,2,7,8,9,11,43],[0,1,2,7,8,9,11],[0,1,2,7,8,9,11,48],[0,1,2,7,8,9,11],[6]] [(1,[(7,7,53)]),(5,[(9,3,95)]),(10,[(9,3,95)]),(15,[(7,7,53)])]
def ztg:Ann:=anK [] [[0,2],[0,2,3],[2]] []
def zfi:Ann:=anK [] [[0,1],[4]] []
def zwa:Ann:={ anK [] [[0,1,5,6],[0,1,5,6,7],[0,6,7,8],[0,6,7,8,9],[0,6,7,8,9,20],[0,6,7,8,9],[0,6,7,8,9],[6]] [] with cel:=fun _=>[(7,1,900,1,3)] }
def zv8:Ann:={ anK [] [[0,2,3,5,8],[0,2,3,5,8,9],[0,5,8,10],[0,5,8,10,31],[8],[0,5,8,10,11],[0,8,10,11,12],[0,8,10,11,12],[0,8,10,11],[0,8,10],[8,10,72],[8,10],[8]] [] with cel:=fun _=>[(10,8,900,1,3)] }
def zzO:Ann:=anK [] [[0,3,4],[0,3,4,5],[0,3,4,5,9],[0,3,4,5],[0,3,4,5,29],[4],[4]] []
def zwX:Ann:=anK [] [[1],[33],[2],[2]] []
def ztk:Ann:=anK [] [[0],[0,4],[0,4,10],[0,4,10,12],[0,4,6,10],[0,4,6,10,17],[0,4,10],[4,28],[2,3],[4],[4,32,33],[4,32,33,34],[4,7,32,33],[4,32,33],[4,32,33],[2,3]] [(1,[(4,9,64)]),(6,[(4,9,64)])]
def zxZ:Ann:={ anK [] [[1,2],[1,2,6],[1,2,6,20,21,22],[1,2,6,20,21,22,23],[1,2,6,8,20,21,22],[1,2,6,20,21,22],[1,2,6,20,21,22],[1,2,6,9],[2,6,9,38,39,40],[2,6,9,38,39,40,41],[2,6,9,11,38,39,40],[2,6,9,11,38,39,40,45],[2,6,9,11,38,39,40,45,46],[2,6,9,11,12,38,39,40],[2,6,9,11,12,38,39,40,55],[2,6,9,38,39,40],[2,6,9,11,38,39,40,45,60],[2,6,9,38,39,40],[2,6,9,11,38,39,40,70],[2,6,9,11,13,14,38,39,40],[2,6,9,11,13,14,38,39,40,80],[2,6,9,11,13,14,15,16,38,39,40],[2,6,9,11,13,14,15,38,39,40,88],[2,6,9,38,39,40],[2,6,9,38,39,40],[2,6,9,38,39,40],[4,5]] [] with cel:=fun _=>[(33,1,301,10,133),(33,6,302,1,0),(33,7,1000,1,0),(33,13,303,12,61)] }
def zp0:Ann:=anK [] [[0,1],[0,1,5],[0,1,5,12,13,14],[0,1,5,12,13,14,15],[0,1,5,7,12,13,14],[0,1,5,7,12,13,14,32],[0,1,5,12,13,14],[0,1,5,12,13,14],[4]] []
def zdG:Ann:=anK [] [[0,1,4],[]] []
def zch:Ann:=anK [] [[2,3],[4]] []
def zuY:Ann:={ anK [] [[0],[0,4,5],[0,4,5,6],[0,4,5,6,7],[0,4,5,6,7,20],[0,4,5,6,7],[0,4,5,6,7,8],[0,4,5,6,7,8,9,10],[0,4,5,6,7,53],[0,4,5,6,7,11],[0,4,5,6,7,11],[0,4,5,6,7],[6,68],[2,3],[2,3]] [(2,[(6,9,64)]),(11,[(6,9,64)])] with fz:=atReg [(10,[60])],cel:=fun _=>[(11,8,900,1,3)] }
def zzP:Ann:=anK [] [[2,3],[2,3,5],[2,3,5,10],[2,3,5],[2,3,5,20],[4],[4]] []
def zrg:Ann:=anK [] [[1,2,3],[4]] []
def zy8:Ann:=anK [] [[0,3],[0,3,6],[0,3,6,10],[0,3,6],[0,3,6,30],[4,5],[4,5]] []
def zzT:Ann:=anK [] [[1,2],[4]] []
def zuX:Ann:=anK [] [[2,3,4,5],[2,3,4,24],[8],[2,3,4,9],[3,9,37],[8],[8]] []
def zzM:Ann:=anK [] [[0],[0,3],[3,6,7,8],[3,6,7,8,9],[3,5,6,7,8],[3,5,6,7,8,14],[2],[3,6,7,8],[2]] []
def zuP:Ann:=anK [] [[0,1],[0,1,5],[0,1,5,6],[0,1,6,11],[12],[4],[4],[0,1,13],[4],[0,1,16],[4],[19],[4],[4]] []
def zk3:Ann:=anK [] [[0],[0,8],[2],[0,3],[0,3,13],[0,3],[0,3,25],[0,3,4],[0,3,4,5],[0,3,4,5,32],[0,3,4,5],[0,3,4,5,44],[0,3,4,5],[0,3,4,5],[0,3],[2],[2]] []
def zuR:Ann:={ anK [14] [[0,1,2,6],[0,6,7],[0,6,7,18],[0,6,7],[0,6,7,32],[6,7],[6]] [] with cel:=fun _=>[(7,2,900,6,98)] }
def ztB:Ann:=anK [] [[0,3,4],[0,3,4,5],[0,3,4,5,16],[4,5],[4]] []
def ztC:Ann:={ anK [30] [[0,2,4,6],[0,4,6,7],[0,4,6,7,8],[0,4,6,7,8,36],[0,4,6,7,8],[0,4,6,7,8,9],[0,4,6,7,8,9,45],[0,4,6,7,8,9],[0,4,6,7,8],[6]] [] with cel:=fun _=>[(7,6,900,1,3)] }
def zxX:Ann:=anK [] [[0],[0,7],[2],[0,8,9,10],[0,8,9,10,11],[0,3,4,8,9,10],[0,3,4,8,9,10,17],[2],[0,8,9,10,36],[2],[0,8,9,10],[2]] []
def zrf:Ann:=anK [] [[0],[0,7],[2],[0,8,9,10],[0,8,9,10,11],[0,3,4,8,9,10],[0,3,4,8,9,10,48],[2],[0,3,4,8,9,10,63],[2],[0,8,9,10,76],[2],[0,8,9,10],[2]] []
def zrh:Ann:=anK [] [[1],[1,17],[2],[1,19,20,21],[1,19,20,21,22],[1,3,4,19,20,21],[1,19,20,21,33],[2],[1,19,20,21],[2]] []
def zqx:Ann:=anK [] [[1],[1,10,11,12],[1,10,11,12,13],[1,4,10,11,12],[1,4,5,6,10,11,12],[1,4,5,10,11,12,23],[2],[1,8,10,11,12],[1,10,11,12,41],[2],[1,10,11,12],[2]] []
def zsb:Ann:=anK [] [[1],[1,10],[2],[1,12,13,14],[1,12,13,14,15],[1,3,4,12,13,14],[1,4,12,13,14,32],[2],[1,4,5,6,12,13,14],[1,12,13,14,52],[2],[1,12,13,14],[2]] []
def zw0:Ann:=anK [] [[1],[34],[2],[2]] []
def zwb:Ann:=anK [] [[0],[0,3],[0,3,10,11,12],[0,3,10,11,12,13],[0,3,4,5,10,11,12],[0,3,4,5,10,11,12,19],[0,3,4,5,6,10,11,12],[0,3,4,5,6,7,8,10,11,12],[0,3,4,5,6,7,10,11,12,29],[0,3,6,7,10,11,12],[0,3,6,7,10,11,12,39],[0,3,6,7,10,11,12],[0,3,10,11,12],[0,3,10,11,12],[2]] []
def zwZ:Ann:=anK [] [[1,2],[1,2],[2]] []
def zpw:Ann:={ anK [] [[0,3],[0,3,10],[0,3,4],[0,3],[0,3],[0],[0],[0],[]] [] with cel:=fun _=>[(1000,1,900,10,133),(1000,6,901,1,0),(1000,7,1000,1,0),(1000,13,902,12,61)] }
def zr8:Ann:=anK [] [[0,4,5],[4,5,7],[4,5,7,8,9],[4,5,7,8,39],[6,7],[4,5,6,7,8,9],[4,5,6,7,8,78],[6,7],[5,6,7,8,99],[6,7],[6,7,105],[6,7],[6,7]] []
def zpx:Ann:=anK [] [[1,2,4],[1,4,9,10,11],[1,4,9,10,11,12],[1,4,7,9,10,11],[1,4,7,9,10,11,18],[4,5],[1,4,9,10,11],[4,5]] []
def ztj:Ann:={ anK [] [[0,6,7,8,9],[0,6,7,8,9,10],[0,6,7,8,9,10,12],[0,6,7,8,9,10,36],[0,6,7,8,9],[0,6,7,8,9,13,14],[0,6,8,9,13,14,45,46,47],[0,6,8,9,13,14,45,46,47,48],[0,6,8,9,13,14,15,16,45,46,47],[0,6,8,9,13,14,15,45,46,47,54],[0,6,8,9,13,14,15,17,18,45,46,47],[0,6,8,9,13,14,15,17,45,46,47,68],[0,6,8,9,13,14,17,45,46,47],[0,6,8,9,13,14,45,46,47],[0,6,8,9,13,14,45,46,47],[0,6,9,19],[0,9,19,20,21],[0,9,19,20,99],[0,9,19,20],[0,9,19,104],[],[0,9,114],[]] [(5,[(13,1,3),(14,1,3)]),(12,[(13,1,3)]),(13,[(14,1,3)])] with cel:=fun _=>[(1000,1,900,10,133),(1000,6,901,1,0),(1000,7,1000,1,0),(1000,13,902,12,61)] }
def zr9:Ann:=anK [] [[0,3],[0,3,11,12,13],[0,3,11,12,13,14],[0,3,6,11,12,13],[0,3,7,8,11,12,13],[0,3,11,12,13,33],[4],[0,3,11,12,13],[4]] []
def zeh:Ann:=anK [] [[0,1,2,3,4,10],[0,1,2,3,4,10,11],[0,1,2,3,4,10,11,12],[0,1,2,3,4,10,11,12,25],[],[0,1,2,3,4,10,11,12,32],[],[0,1,2,3,4,10,11,12,39],[0,1,2,3,4,10,11,12],[0,1,2,3,4,10,11,12],[0,1,2,3,4,10,11,12,13,14],[0,1,2,3,4,10,11,12,13,14,56],[0,1,2,3,4,10,11,12,13],[0,1,2,3,4,10,11,12,13],[0,1,2,3,4,10,11,12,13,14],[0,1,2,3,4,10,11,12,13,75],[0,1,2,3,4,10,11,12,13,80],[0,1,2,3,4,10,11,12,13,97],[0,2,3,4,10,11,15],[0,1,2,3,4,10,11],[0,1,2,3,4,12,16,17],[0,1,2,3,4,11,12,16],[0,1,2,3,4,11,12,16,18,19],[0,1,2,3,4,11,16,18,19,20],[0,1,2,3,4,11,16,18,19,20,125],[0,1,2,3,4,10,11,16],[0,2,3,4,10,11,16],[0,1,2,3,4,10,11],[0,1,2,3,4,10,11,16],[0,1,3,4,10,11,16],[0,1,2,3,4,10,11]] []
def a_bits_Len:Ann:=anK [] [[0],[2],[2]] []
def zwc:Ann:=anK [] [[0],[0,4,5],[0,4,5,6],[0,4,5,6,15],[0,4,5,6],[0,4,5,6,23],[0,4,5,6,7],[0,4,5,6,7,8,9],[0,4,5,6,7,8,44],[0,4,5,6],[0,4,5,6,7,57],[0,4,5,6],[2,3]] []
def zzR:Ann:=anK [] [[0],[0,10],[2],[3,4],[3,4,5],[3,4,5,6,7],[3,4,5,6,7,34],[3,4,5,6,7,56],[3,4,5,6,7],[3,4,5,6,7],[3,4,5,6,7],[3,4,5,6,7],[2]] [(0,[(2,9,64)]),(2,[(2,9,64)]),(4,[(5,9,64)]),(8,[(5,9,64)]),(10,[(5,9,64)]),(12,[(2,9,64)])]
def zcD:Ann:=anK [] [[0,1],[0,1,7,8],[0,1,7,8,9],[0,1,5,7,8],[0,1,5,7,8,16],[4],[0,1,7,8],[4]] []
def zy7:Ann:=anK [] [[2,3],[2,3,5],[2,3,5,27],[4],[2,3,5,6],[2,3,5,6,30],[2,3,5,6],[2,3,5,6,46],[4],[2,3,5,6,7],[2,3,5,6,7,54],[2,3,5,6,7],[2,3,5,6,7,106],[4],[4]] []
def zr7:Ann:=anK [] [[1],[1,40],[2],[2]] []
def zwW:Ann:=anK [] [[0],[0,3],[0,3,7],[0,3],[0,3,19],[2],[2]] []
def zx2:Ann:=anK [] [[2,3],[2,3,27],[4],[3,29,30,31],[3,29,30,31,32],[3,5,6,29,30,31],[3,29,30,31,52],[4],[3,29,30,31],[4]] []
def zuU:Ann:=anK [] [[2,3],[3,9,10,11],[3,9,10,11,12],[3,6,7,9,10,11],[3,6,9,10,11,27],[4,5],[3,9,10,11],[4,5]] []
def zw1:Ann:=anK [] [[2,3,4],[2,3,4,17],[6,7],[2,3,4,23],[6,7],[2,3,4,25,26,27],[2,3,4,25,26,27,28],[2,3,4,8,9,25,26,27],[2,3,4,9,10,25,26,27],[2,3,4,25,26,27,56],[6,7],[2,3,4,25,26,27],[2,3,4,11],[2,4,11,63,64,65],[2,4,11,63,64,65,66],[2,4,11,12,13,63,64,65],[2,4,11,12,13,63,64,65,70],[2,4,11,63,64,65],[2,4,11,12,13,63,64,65,77],[2,4,11,63,64,65],[2,4,11,12,63,64,65,94],[2,4,11,63,64,65],[2,4,11,63,64,65],[6,7]] []
def zuT:Ann:=anK [] [[1,2],[2,6,7],[2,6,15],[4,5],[4,5]] []
def zsa:Ann:=anK [] [[1,2],[1,2,12],[4],[1,14,15,16],[1,14,15,16,17],[1,5,6,14,15,16],[1,14,15,16,34],[4],[1,14,15,16],[4]] []
def zwY:Ann:=anK [] [[1],[1,16],[2],[1,18],[1,18,19],[2],[1,18,23],[2],[1,60],[2],[2]] []
def ztF:Ann:=anK [] [[1,2],[2]] []
def zqy:Ann:=anK [5] [[0],[0,4],[2],[2]] [(0,[(2,1,3)]),(2,[(2,1,3)]),(3,[(2,1,3)])]
def ztI:Ann:=anK [] [[2,3,4,5],[8]] []
def zx0:Ann:=anK [] [[1,2,3],[1,2,3,29],[6],[1,2,3,7,8],[1,2,3,7,8,31,32],[1,2,3,7,8,31,32,33],[1,2,3,7,8,9,31,32],[1,2,3,7,8,10,11,31,32],[1,2,3,7,8,10,11,31,32,50],[6],[1,2,3,7,8,31,32],[1,2,3,7,8,31,32],[6]] []
def zx1:Ann:=anK [] [[2,3,4,6],[2,3,4,6,12],[6,7],[2,3,4,6,15],[6,7],[3,6,8],[3,6,8,27],[3,6,8],[6,7]] [(5,[(8,1,4)]),(7,[(8,1,4)])]
def zqw:Ann:={ anK [] [[0,1,5],[0,6],[0,6,19],[0,6],[0,6],[0,6,7],[0,6,7,46],[0,6,7],[0,6,7,65],[0,6,7]] [] with cel:=fun _=>[(1000,1,900,10,133),(1000,6,901,1,0),(1000,7,1000,1,0),(1000,13,902,12,61)] }
def zdq:Ann:=anK [] [[0,1,2,3,8],[0,1,2,3,8,14],[0,1,2,3,8],[0,1,2,3,8,9],[0,1,2,3,8,9,34],[0,1,2,3,8,9],[0,1,2,3,8,9]] []
def zd2:Ann:=anK [] [[0,1,2,3,8],[0,1,2,3,8,9],[0,3,8,9,10],[0,3,8,9,10,11],[0,3,8,9,10,11,21],[0,3,8,9,10,11],[0,3,8,9,10,11],[0,3,8,9,12],[0,3,8,9,12,33],[0,3,8,9,12],[0,3,8,9,12],[0,3,8,9,12]] []
def zdp:Ann:=anK [] [[0,1,8],[0,1,8,17],[0,1,8,9],[0,1,8,9,10],[0,1,8,9,10,11],[0,1,8,9,10,11,35],[0,1,8,9,10,11],[0,1,8,9,10,11,12],[0,1,8,9,10,11,12,45],[0,1,8,9,10,11,12],[0,1,8,9,10,11]] []
def zdH:Ann:=anK [] [[0,1,2,3],[0,1,3,10],[0,1,3,10,11],[0,1,3,10,11,12],[0,1,3,10,11,12,13],[0,3,10,11,12,13,14],[0,3,10,11,12,13,14,34],[0,3,11,12,13,14,36],[0,3,11,12,13,14],[0,3,11,12,13,14],[0,3,11,12,13,14],[11,13],[13,55],[8,9],[13,55,57],[8,9],[13,60],[8,9]] []
def zdB:Ann:=anK [] [[0,2,8],[0,8,9],[0,8,9,15],[0,8,9],[0,8,9],[0,8,9]] []
def zcI:Ann:=anK [] [[0,1,2,3],[0,1,2,3,9],[0,1,2,3,9,10],[0,1,2,3,9,10,16],[0,1,2,3,9,10],[0,1,2,3,9,10,36],[0,1,2,3,9,10],[0,1,2,3,9,10,41],[8],[0,1,2,3,9,10,45],[8],[0,1,2,3,9,10],[0,1,2,3,9,10,65],[0,1,2,3,9,10,11],[0,1,2,3,9,10,11,69],[0,1,2,3,9,10,11],[0,1,2,3,9,10,11,84],[0,1,2,3,9,10,11],[0,1,2,3,9,10,104],[0,1,2,3,9,10,12],[0,1,2,3,9,10,12,109],[0,1,2,3,9,10,12],[0,1,2,3,9,10,12,124],[0,1,2,3,9,10,12],[8]] []
def zdj:Ann:=anK [] [[0,1,2,3,4],[0,1,2,4],[0,1,4,11,12],[0,1,4,11,12,47],[0,1,4,11,12],[0,1,4,11,12,65],[0,1,4,11,12],[0,1,4,11,12,70],[0,1,4,11,12],[0,1,4,11,12],[0,1,4,11,12],[10]] []
def zdS:Ann:=anK [] [[0,1,2,3,4],[0,1,2,4],[0,1,4,12,13],[0,1,4,12,13,47],[0,1,4,12,13],[0,1,4,12,13,66],[0,1,4,12,13],[0,1,4,12,13,71],[13],[10,11],[0,1,4,12,13],[0,1,4,12,13],[0,1,4,12,13],[0,1,4,12,13,120],[0,1,4,12,13],[0,1,4,12,13,139],[0,1,4,12,13],[0,1,4,12,13,144],[0,1,4,12,13],[0,1,4,12,13],[0,1,4,12,13],[13],[10,11]] []
def zzK:Ann:=anK [] [[0,2],[0,2,4],[0],[0,2],[0,2,8],[0,2],[0,2],[2]] []
def zzL:Ann:=anK [] [[0,2],[0,2,4],[0],[0,2],[0,2,8],[0,2],[0,2],[0,2,14],[0,2],[0,2],[2]] []
def zy9:Ann:=anK [] [[1],[1,19],[2],[1,3],[1,3,24],[1,3],[1,3,33],[2],[1,35],[1,35,36],[2],[1,35,57],[2],[1,89],[2],[2]] []
def ztG:Ann:=anK [] [[1],[1,34],[2],[1,3],[1,3,4],[1,3,4,39],[1,3,4],[1,3,4,48],[2],[1,3,4],[2]] []
def zuQ:Ann:=anK [] [[1],[1,22],[2],[1,32],[2],[1,34,35,36],[1,34,35,36,37],[1,4,34,35,36],[1,34,35,36,42],[2],[1,34,35,36],[2]] []
def ztK:Ann:=anK [] [[1,2],[1,2,9],[4],[1,2,13,14,15],[1,2,13,14,15,16],[1,2,5,6,13,14,15],[1,2,13,14,15,40],[4],[1,2,13,14,15],[4]] []
def zw2:Ann:=anK [] [[0],[3],[3,4],[3,4],[4],[2],[2]] []
def zwd:Ann:=anK [] [[1,2,3],[1,2,3,9],[6],[6]] []
def zs3:Ann:=anK [] [[1],[2]] []
def ztl:Ann:=anK [] [[1],[1,37],[2],[2]] []
def zy6:Ann:=anK [] [[0,1,4],[1,4,8,9,10],[1,4,8,9,10,11],[1,4,7,8,9,10],[1,4,7,8,9,10,17],[4,7],[4,5],[1,4,8,9,10],[4,5]] []
def ztJ:Ann:=anK [] [[1,2],[1,2,6],[4],[1,2,9],[4],[4]] []
def zpz:Ann:=anK [5] [[0],[0,4],[2],[2]] [(0,[(2,1,4)]),(2,[(2,1,4)]),(3,[(2,1,4)])]
def zuV:Ann:=anK [] [[1,2],[1,2,5],[2,5,8,9,10],[2,5,8,9,10,11],[2,5,7,8,9,10],[2,5,8,9,10,15],[2,5,8,9,10],[2,5,8,9,10],[4]] []
def zd3:Ann:=anK [] [[0,2,3,4,10],[0,2,3,4,10,11],[0,2,3,4,10,11,18],[0,2,3,4,10,11,40],[0,2,3,4,10,11],[0,2,3,4,10,11,58],[0,2,3,4,11],[0,2,3,4,10]] []
def zqz:Ann:=anK [] [[0],[0],[0],[0],[2]] []
def zdi:Ann:=anK [] [[0,1,2,3],[8]] []
def zep:Ann:=anK [] [[0,1,2,3,4,5],[0,1,2,3,4,5],[0,1,2,4,5],[2],[12]] []
def a_ref28_in:Ann:=anK [] [[0,1,2],[6]] []
def zuW:Ann:=anK [] [[1],[1,30],[2],[1,33],[2],[2]] []
def zv5:Ann:=anK [] [[1],[1,30],[2],[1,32],[1,32,33],[2],[1,43],[2],[2]] []
def zwV:Ann:=anK [] [[0],[0,3],[3,6,7,8],[3,6,7,8,9],[3,5,6,7,8],[3,6,7,8],[3,6,7,8],[2]] []
def zeq:Ann:=anK [] [[0,1,2,3,4],[1,2,3,22],[1,2],[10,11],[10,11]] []
def aNone:Ann:={ lits:=[],live:=fun _=>none,own:=fun _=>[] }
def annTab:List Ann:=[aNone,aNone,aNone,zr4,zte,zr3,zr5,zqv,zoL,zeg,zzN,zeg,zuS,ztz,zv7,zxY,zr6,zv6,zzU,zri,ztH,zpy,zti,zzQ,zuZ,zzS,zv9,zs2,zxW,a_law29_at,zy5,ztE,ztD,ztA,ztf,zth,ztg,zfi,zwa,zv8,zzO,zwX,ztk,zxZ,zp0,zdG,zch,zuY,zri,zzP,zfi,zrg,zch,zy8,zzT,zuX,zdG,zch,zzM,zuP,zk3,zuR,ztB,zfi,ztC,zxX,zrf,zrh,zqx,zsb,zw0,zwb,zdG,zch,zwZ,zpw,zr8,zpx,ztj,zr9,zeh,a_bits_Len,zwc,zzR,zcD,zy7,zeh,zeg,zr7,zwW,zeg,zx2,zuU,zw1,zuT,zsa,zeg,zwY,ztF,zch,zeh,zqy,zpx,zpy,ztI,zs2,zx0,zx1,zqw,zdq,zd2,zdp,zdH,zdB,zcI,zdj,zdS,zzK,zzL,zy9,zch,zch,ztG,zdq,zd2,zdp,zdH,zdB,zcI,zdj,zdS,zfi,zeg,zuQ,ztK,zw2,zwd,zs3,ztl,zdq,zd2,zdp,zdH,zdB,zcI,zdj,zdS,zy6,zch,ztJ,zeg,zfi,zch,zpz,zuV,zd3,zeg,zqz,zdi,zep,zs3,a_ref28_in,zuW,zd3,zdi,zep,zcD,zv5,zwV,zfi,zeg,zd3,zdi,zep,zeg,zeq,zeq,zcD,zeq,aNone,aNone,aNone,aNone,aNone,aNone,aNone,aNone,aNone,aNone,aNone,aNone,aNone,aNone,aNone,aNone]
def zA:AnnF:=fun f=>annTab.getD f aNone
def zak:Bool→AV×Mem:=(r1 vBool).enc
abbrev zad:RD:={ α:=Bool,enc:=zak,dec:=(r1 vBool).dec,ok:=(r1 vBool).ok,de:=(r1 vBool).de }
def zqU:zae→AV×Mem:=(r1 (vNewp 2 zaf zaY)).enc
abbrev znQ:RD:={ α:=zae,enc:=zqU,dec:=(r1 (vNewp 2 zaf zaY)).dec,ok:=(r1 (vNewp 2 zaf zaY)).ok,de:=(r1 (vNewp 2 zaf zaY)).de }
def zhI:(zaB×zae)→AV×Mem:=(r1M (vAgg zgK) (mBox 1000 2 zaf zaY)).enc
abbrev zhJ:RD:={ α:=zaB×zae,enc:=zhI,dec:=(r1M (vAgg zgK) (mBox 1000 2 zaf zaY)).dec,ok:=(r1M (vAgg zgK) (mBox 1000 2 zaf zaY)).ok,de:=(r1M (vAgg zgK) (mBox 1000 2 zaf zaY)).de }
def zdN:(((List zab))×zae)→AV×Mem:=(r1M (vNew 9 zac zar) (mBox 1000 2 zaf zaY)).enc
abbrev zeD:RD:={ α:=((List zab))×zae,enc:=zdN,dec:=(r1M (vNew 9 zac zar) (mBox 1000 2 zaf zaY)).dec,ok:=(r1M (vNew 9 zac zar) (mBox 1000 2 zaf zaY)).ok,de:=(r1M (vNew 9 zac zar) (mBox 1000 2 zaf zaY)).de }
def znF:((zbL×Int)×(List zab))→AV×Mem:=(rTM (lCons (vAgg zgQ) (lOne (vI .i64))) (mRow 1001 9 zac zar)).enc
abbrev zc8:RD:={ α:=(zbL×Int)×(List zab),enc:=znF,dec:=(rTM (lCons (vAgg zgQ) (lOne (vI .i64))) (mRow 1001 9 zac zar)).dec,ok:=(rTM (lCons (vAgg zgQ) (lOne (vI .i64))) (mRow 1001 9 zac zar)).ok,de:=(rTM (lCons (vAgg zgQ) (lOne (vI .i64))) (mRow 1001 9 zac zar)).de }
def zf2:(((List zab))×zae×(List zab))→AV×Mem:=(r1M (vNew 9 zac zar) (mApp (mBox 1000 2 zaf zaY) (mRow 1001 9 zac zar) (fun _ _=>rfl))).enc
abbrev zeV:RD:={ α:=((List zab))×zae×(List zab),enc:=zf2,dec:=(r1M (vNew 9 zac zar) (mApp (mBox 1000 2 zaf zaY) (mRow 1001 9 zac zar) (fun _ _=>rfl))).dec,ok:=(r1M (vNew 9 zac zar) (mApp (mBox 1000 2 zaf zaY) (mRow 1001 9 zac zar) (fun _ _=>rfl))).ok,de:=(r1M (vNew 9 zac zar) (mApp (mBox 1000 2 zaf zaY) (mRow 1001 9 zac zar) (fun _ _=>rfl))).de }
def zlS:((List zab))→AV×Mem:=(r1 (vSl 9 zar)).enc
abbrev ziC:RD:={ α:=(List zab),enc:=zlS,dec:=(r1 (vSl 9 zar)).dec,ok:=(r1 (vSl 9 zar)).ok,de:=(r1 (vSl 9 zar)).de }
def zkK:(zaQ×Bool)→AV×Mem:=(rT (lCons (vAgg zb4) (lOne vBool))).enc
abbrev zfq:RD:={ α:=zaQ×Bool,enc:=zkK,dec:=(rT (lCons (vAgg zb4) (lOne vBool))).dec,ok:=(rT (lCons (vAgg zb4) (lOne vBool))).ok,de:=(rT (lCons (vAgg zb4) (lOne vBool))).de }
def zuo:((List Int)×Bool)→AV×Mem:=(rT (lCons (vSl 1 zaW) (lOne vBool))).enc
abbrev zup:RD:={ α:=(List Int)×Bool,enc:=zuo,dec:=(rT (lCons (vSl 1 zaW) (lOne vBool))).dec,ok:=(rT (lCons (vSl 1 zaW) (lOne vBool))).ok,de:=(rT (lCons (vSl 1 zaW) (lOne vBool))).de }
def ziy:(Int×zae)→AV×Mem:=(r1M (vI .i64) (mBox 1000 2 zaf zaY)).enc
abbrev zaN:RD:={ α:=Int×zae,enc:=ziy,dec:=(r1M (vI .i64) (mBox 1000 2 zaf zaY)).dec,ok:=(r1M (vI .i64) (mBox 1000 2 zaf zaY)).ok,de:=(r1M (vI .i64) (mBox 1000 2 zaf zaY)).de }
def zkI:zab→AV×Mem:=(r1 (vAgg zar)).enc
abbrev zeU:RD:={ α:=zab,enc:=zkI,dec:=(r1 (vAgg zar)).dec,ok:=(r1 (vAgg zar)).ok,de:=(r1 (vAgg zar)).de }
def zou:zaB→AV×Mem:=(r1 (vAgg zgK)).enc
abbrev zgM:RD:={ α:=zaB,enc:=zou,dec:=(r1 (vAgg zgK)).dec,ok:=(r1 (vAgg zgK)).ok,de:=(r1 (vAgg zgK)).de }
def zkj:(((List GTask)×Int)×(List zab))→AV×Mem:=(rTM (lCons (vSl 2 zc6) (lOne (vI .i64))) (mRow 1001 9 zac zar)).enc
abbrev zfJ:RD:={ α:=((List GTask)×Int)×(List zab),enc:=zkj,dec:=(rTM (lCons (vSl 2 zc6) (lOne (vI .i64))) (mRow 1001 9 zac zar)).dec,ok:=(rTM (lCons (vSl 2 zc6) (lOne (vI .i64))) (mRow 1001 9 zac zar)).ok,de:=(rTM (lCons (vSl 2 zc6) (lOne (vI .i64))) (mRow 1001 9 zac zar)).de }
def zg6:((List zbH))→AV×Mem:=(r1 (vNew 8 zaR zb9)).enc
abbrev zhc:RD:={ α:=(List zbH),enc:=zg6,dec:=(r1 (vNew 8 zaR zb9)).dec,ok:=(r1 (vNew 8 zaR zb9)).ok,de:=(r1 (vNew 8 zaR zb9)).de }
def zfI:(((List zaG)×(List zbt))×zae)→AV×Mem:=(rTM (lCons (vSl 3 zb2) (lOne (vSl 2 zdC))) (mBox 1000 2 zaf zaY)).enc
abbrev zg9:RD:={ α:=((List zaG)×(List zbt))×zae,enc:=zfI,dec:=(rTM (lCons (vSl 3 zb2) (lOne (vSl 2 zdC))) (mBox 1000 2 zaf zaY)).dec,ok:=(rTM (lCons (vSl 3 zb2) (lOne (vSl 2 zdC))) (mBox 1000 2 zaf zaY)).ok,de:=(rTM (lCons (vSl 3 zb2) (lOne (vSl 2 zdC))) (mBox 1000 2 zaf zaY)).de }
def zgz:(((List za6))×zae)→AV×Mem:=(r1M (vNew 5 zdQ zcJ) (mBox 1000 2 zaf zaY)).enc
abbrev zgB:RD:={ α:=((List za6))×zae,enc:=zgz,dec:=(r1M (vNew 5 zdQ zcJ) (mBox 1000 2 zaf zaY)).dec,ok:=(r1M (vNew 5 zdQ zcJ) (mBox 1000 2 zaf zaY)).ok,de:=(r1M (vNew 5 zdQ zcJ) (mBox 1000 2 zaf zaY)).de }
def zgA:(((List zaQ))×zae)→AV×Mem:=(r1M (vNew 7 zcs zb4) (mBox 1000 2 zaf zaY)).enc
abbrev zgD:RD:={ α:=((List zaQ))×zae,enc:=zgA,dec:=(r1M (vNew 7 zcs zb4) (mBox 1000 2 zaf zaY)).dec,ok:=(r1M (vNew 7 zcs zb4) (mBox 1000 2 zaf zaY)).ok,de:=(r1M (vNew 7 zcs zb4) (mBox 1000 2 zaf zaY)).de }
def zjp:(za4×zae)→AV×Mem:=(r1M (vAgg ziV) (mBox 1000 2 zaf zaY)).enc
abbrev zgC:RD:={ α:=za4×zae,enc:=zjp,dec:=(r1M (vAgg ziV) (mBox 1000 2 zaf zaY)).dec,ok:=(r1M (vAgg ziV) (mBox 1000 2 zaf zaY)).ok,de:=(r1M (vAgg ziV) (mBox 1000 2 zaf zaY)).de }
def zlT:(Bool×zae)→AV×Mem:=(r1M vBool (mBox 1000 2 zaf zaY)).enc
abbrev zcV:RD:={ α:=Bool×zae,enc:=zlT,dec:=(r1M vBool (mBox 1000 2 zaf zaY)).dec,ok:=(r1M vBool (mBox 1000 2 zaf zaY)).ok,de:=(r1M vBool (mBox 1000 2 zaf zaY)).de }
def ziz:(GSeed×zae)→AV×Mem:=(r1M (vAgg zfb) (mBox 1000 2 zaf zaY)).enc
abbrev ziE:RD:={ α:=GSeed×zae,enc:=ziz,dec:=(r1M (vAgg zfb) (mBox 1000 2 zaf zaY)).dec,ok:=(r1M (vAgg zfb) (mBox 1000 2 zaf zaY)).ok,de:=(r1M (vAgg zfb) (mBox 1000 2 zaf zaY)).de }
def zlU:(zab×zae)→AV×Mem:=(r1M (vAgg zar) (mBox 1000 2 zaf zaY)).enc
abbrev ziD:RD:={ α:=zab×zae,enc:=zlU,dec:=(r1M (vAgg zar) (mBox 1000 2 zaf zaY)).dec,ok:=(r1M (vAgg zar) (mBox 1000 2 zaf zaY)).ok,de:=(r1M (vAgg zar) (mBox 1000 2 zaf zaY)).de }
def zmO:zaG→AV×Mem:=(r1 (vAgg zb2)).enc
abbrev zhU:RD:={ α:=zaG,enc:=zmO,dec:=(r1 (vAgg zb2)).dec,ok:=(r1 (vAgg zb2)).ok,de:=(r1 (vAgg zb2)).de }
def zbh:Int→AV×Mem:=(r1 (vI .i64)).enc
abbrev zaL:RD:={ α:=Int,enc:=zbh,dec:=(r1 (vI .i64)).dec,ok:=(r1 (vI .i64)).ok,de:=(r1 (vI .i64)).de }
def zdD:(((List zab)×Int)×(List zab))→AV×Mem:=(rTM (lCons (vSl 9 zar) (lOne (vI .i64))) (mRow 1000 9 zac zar)).enc
abbrev zff:RD:={ α:=((List zab)×Int)×(List zab),enc:=zdD,dec:=(rTM (lCons (vSl 9 zar) (lOne (vI .i64))) (mRow 1000 9 zac zar)).dec,ok:=(rTM (lCons (vSl 9 zar) (lOne (vI .i64))) (mRow 1000 9 zac zar)).ok,de:=(rTM (lCons (vSl 9 zar) (lOne (vI .i64))) (mRow 1000 9 zac zar)).de }
def zcK:((List (zaw×zab)))→AV×Mem:=(r1 (vNewm zbM zcA)).enc
abbrev zd0:RD:={ α:=(List (zaw×zab)),enc:=zcK,dec:=(r1 (vNewm zbM zcA)).dec,ok:=(r1 (vNewm zbM zcA)).ok,de:=(r1 (vNewm zbM zcA)).de }
def zdI:((List zbH))→AV×Mem:=(r0M (mRow 1000 8 zaR zb9)).enc
abbrev zbl:RD:={ α:=(List zbH),enc:=zdI,dec:=(r0M (mRow 1000 8 zaR zb9)).dec,ok:=(r0M (mRow 1000 8 zaR zb9)).ok,de:=(r0M (mRow 1000 8 zaR zb9)).de }
def zcH:((List zab)×Int)→AV×Mem:=(rT (lCons (vSl 9 zar) (lOne (vI .i64)))).enc
abbrev ze3:RD:={ α:=(List zab)×Int,enc:=zcH,dec:=(rT (lCons (vSl 9 zar) (lOne (vI .i64)))).dec,ok:=(rT (lCons (vSl 9 zar) (lOne (vI .i64)))).ok,de:=(rT (lCons (vSl 9 zar) (lOne (vI .i64)))).de }
def zmP:(za6×Bool)→AV×Mem:=(rT (lCons (vAgg zcJ) (lOne vBool))).enc
abbrev zkk:RD:={ α:=za6×Bool,enc:=zmP,dec:=(rT (lCons (vAgg zcJ) (lOne vBool))).dec,ok:=(rT (lCons (vAgg zcJ) (lOne vBool))).ok,de:=(rT (lCons (vAgg zcJ) (lOne vBool))).de }
def ziY:(Int×Bool)→AV×Mem:=(rT (lCons (vI .i64) (lOne vBool))).enc
abbrev zeo:RD:={ α:=Int×Bool,enc:=ziY,dec:=(rT (lCons (vI .i64) (lOne vBool))).dec,ok:=(rT (lCons (vI .i64) (lOne vBool))).ok,de:=(rT (lCons (vI .i64) (lOne vBool))).de }
def zdX:((List GTask))→AV×Mem:=(r0M (mRow 1000 2 zbD zc6)).enc
abbrev zbp:RD:={ α:=(List GTask),enc:=zdX,dec:=(r0M (mRow 1000 2 zbD zc6)).dec,ok:=(r0M (mRow 1000 2 zbD zc6)).ok,de:=(r0M (mRow 1000 2 zbD zc6)).de }
def zd6:(Nat×(List GTask))→AV×Mem:=(r1M (vRow 1000 2) (mRow 1000 2 zbD zc6)).enc
abbrev zc0:RD:={ α:=Nat×(List GTask),enc:=zd6,dec:=(r1M (vRow 1000 2) (mRow 1000 2 zbD zc6)).dec,ok:=(r1M (vRow 1000 2) (mRow 1000 2 zbD zc6)).ok,de:=(r1M (vRow 1000 2) (mRow 1000 2 zbD zc6)).de }
def zla:(zaG×zae)→AV×Mem:=(r1M (vAgg zb2) (mBox 1000 2 zaf zaY)).enc
abbrev zd7:RD:={ α:=zaG×zae,enc:=zla,dec:=(r1M (vAgg zb2) (mBox 1000 2 zaf zaY)).dec,ok:=(r1M (vAgg zb2) (mBox 1000 2 zaf zaY)).ok,de:=(r1M (vAgg zb2) (mBox 1000 2 zaf zaY)).de }
def zki:(zbt×zae)→AV×Mem:=(r1M (vAgg zdC) (mBox 1000 2 zaf zaY)).enc
abbrev zha:RD:={ α:=zbt×zae,enc:=zki,dec:=(r1M (vAgg zdC) (mBox 1000 2 zaf zaY)).dec,ok:=(r1M (vAgg zdC) (mBox 1000 2 zaf zaY)).ok,de:=(r1M (vAgg zdC) (mBox 1000 2 zaf zaY)).de }
def zg5:(zaQ×zae)→AV×Mem:=(r1M (vAgg zb4) (mBox 1000 2 zaf zaY)).enc
abbrev zhb:RD:={ α:=zaQ×zae,enc:=zg5,dec:=(r1M (vAgg zb4) (mBox 1000 2 zaf zaY)).dec,ok:=(r1M (vAgg zb4) (mBox 1000 2 zaf zaY)).ok,de:=(r1M (vAgg zb4) (mBox 1000 2 zaf zaY)).de }
def zdO:(((List ((Int×Int)×za0)))×(List zab))→AV×Mem:=(r1M (vNewm zbm zbV) (mRow 1000 9 zac zar)).enc
abbrev ziH:RD:={ α:=((List ((Int×Int)×za0)))×(List zab),enc:=zdO,dec:=(r1M (vNewm zbm zbV) (mRow 1000 9 zac zar)).dec,ok:=(r1M (vNewm zbm zbV) (mRow 1000 9 zac zar)).ok,de:=(r1M (vNewm zbm zbV) (mRow 1000 9 zac zar)).de }
def zcR:((List zab))→AV×Mem:=(r0M (mRow 1000 9 zac zar)).enc
abbrev zba:RD:={ α:=(List zab),enc:=zcR,dec:=(r0M (mRow 1000 9 zac zar)).dec,ok:=(r0M (mRow 1000 9 zac zar)).ok,de:=(r0M (mRow 1000 9 zac zar)).de }
def zbP:zai→AV×Mem:=(r0M zjK).enc
abbrev zcm:RD:={ α:=zai,enc:=zbP,dec:=(r0M zjK).dec,ok:=(r0M zjK).ok,de:=(r0M zjK).de }
def zeS:(Int×(Option Addr))→AV×Mem:=(rT (lCons (vI .i64) (lOne vPtr))).enc
abbrev zf4:RD:={ α:=Int×(Option Addr),enc:=zeS,dec:=(rT (lCons (vI .i64) (lOne vPtr))).dec,ok:=(rT (lCons (vI .i64) (lOne vPtr))).ok,de:=(rT (lCons (vI .i64) (lOne vPtr))).de }
def zgn:(GSeed×Bool)→AV×Mem:=(rT (lCons (vAgg zfb) (lOne vBool))).enc
abbrev ziG:RD:={ α:=GSeed×Bool,enc:=zgn,dec:=(rT (lCons (vAgg zfb) (lOne vBool))).dec,ok:=(rT (lCons (vAgg zfb) (lOne vBool))).ok,de:=(rT (lCons (vAgg zfb) (lOne vBool))).de }
def zgp:((List ((Int×Int)×Int))×(List ((Int×Int)×Bool)))→AV×Mem:=(rT (lCons (vMp ze2) (lOne (vMp zfm)))).enc
abbrev ziI:RD:={ α:=(List ((Int×Int)×Int))×(List ((Int×Int)×Bool)),enc:=zgp,dec:=(rT (lCons (vMp ze2) (lOne (vMp zfm)))).dec,ok:=(rT (lCons (vMp ze2) (lOne (vMp zfm)))).ok,de:=(rT (lCons (vMp ze2) (lOne (vMp zfm)))).de }
def zgo:((List zab))→AV×Mem:=(r1 (vNew 9 zac zar)).enc
abbrev zhW:RD:={ α:=(List zab),enc:=zgo,dec:=(r1 (vNew 9 zac zar)).dec,ok:=(r1 (vNew 9 zac zar)).ok,de:=(r1 (vNew 9 zac zar)).de }
def zeT:((List Int)×Int)→AV×Mem:=(rT (lCons (vSl 1 zaW) (lOne (vI .i64)))).enc
abbrev zjH:RD:={ α:=(List Int)×Int,enc:=zeT,dec:=(rT (lCons (vSl 1 zaW) (lOne (vI .i64)))).dec,ok:=(rT (lCons (vSl 1 zaW) (lOne (vI .i64)))).ok,de:=(rT (lCons (vSl 1 zaW) (lOne (vI .i64)))).de }
def zg7:((Int×Int))→AV×Mem:=(r1 (vAgg zd8)).enc
abbrev zfK:RD:={ α:=(Int×Int),enc:=zg7,dec:=(r1 (vAgg zd8)).dec,ok:=(r1 (vAgg zd8)).ok,de:=(r1 (vAgg zd8)).de }
def zhr:((List Int))→AV×Mem:=(r1 (vNew 1 za2 zaW)).enc
abbrev zem:RD:={ α:=(List Int),enc:=zhr,dec:=(r1 (vNew 1 za2 zaW)).dec,ok:=(r1 (vNew 1 za2 zaW)).ok,de:=(r1 (vNew 1 za2 zaW)).de }
def zkJ:(zda×Int)→AV×Mem:=(rT (lCons (vAgg zrq) (lOne (vI .i64)))).enc
abbrev zkM:RD:={ α:=zda×Int,enc:=zkJ,dec:=(rT (lCons (vAgg zrq) (lOne (vI .i64)))).dec,ok:=(rT (lCons (vAgg zrq) (lOne (vI .i64)))).ok,de:=(rT (lCons (vAgg zrq) (lOne (vI .i64)))).de }
def zjO:(Int×Int)→AV×Mem:=(rT (lCons (vI .i64) (lOne (vI .i64)))).enc
abbrev zdJ:RD:={ α:=Int×Int,enc:=zjO,dec:=(rT (lCons (vI .i64) (lOne (vI .i64)))).dec,ok:=(rT (lCons (vI .i64) (lOne (vI .i64)))).ok,de:=(rT (lCons (vI .i64) (lOne (vI .i64)))).de }
def zgH:(Bool×(List zbH))→AV×Mem:=(r1M vBool (mRow 1000 8 zaR zb9)).enc
abbrev zgI:RD:={ α:=Bool×(List zbH),enc:=zgH,dec:=(r1M vBool (mRow 1000 8 zaR zb9)).dec,ok:=(r1M vBool (mRow 1000 8 zaR zb9)).ok,de:=(r1M vBool (mRow 1000 8 zaR zb9)).de }
def ziB:(Int×(List zbH))→AV×Mem:=(r1M (vI .i64) (mRow 1000 8 zaR zb9)).enc
abbrev ziJ:RD:={ α:=Int×(List zbH),enc:=ziB,dec:=(r1M (vI .i64) (mRow 1000 8 zaR zb9)).dec,ok:=(r1M (vI .i64) (mRow 1000 8 zaR zb9)).ok,de:=(r1M (vI .i64) (mRow 1000 8 zaR zb9)).de }
def zkL:((Int×Bool)×(List zbH))→AV×Mem:=(rTM (lCons (vI .i64) (lOne vBool)) (mRow 1000 8 zaR zb9)).enc
abbrev zkN:RD:={ α:=(Int×Bool)×(List zbH),enc:=zkL,dec:=(rTM (lCons (vI .i64) (lOne vBool)) (mRow 1000 8 zaR zb9)).dec,ok:=(rTM (lCons (vI .i64) (lOne vBool)) (mRow 1000 8 zaR zb9)).ok,de:=(rTM (lCons (vI .i64) (lOne vBool)) (mRow 1000 8 zaR zb9)).de }
def zg8:(Bool×(List GTask))→AV×Mem:=(r1M vBool (mRow 1000 2 zbD zc6)).enc
abbrev zhe:RD:={ α:=Bool×(List GTask),enc:=zg8,dec:=(r1M vBool (mRow 1000 2 zbD zc6)).dec,ok:=(r1M vBool (mRow 1000 2 zbD zc6)).ok,de:=(r1M vBool (mRow 1000 2 zbD zc6)).de }
def zi0:(Int×(List GTask))→AV×Mem:=(r1M (vI .i64) (mRow 1000 2 zbD zc6)).enc
abbrev zi2:RD:={ α:=Int×(List GTask),enc:=zi0,dec:=(r1M (vI .i64) (mRow 1000 2 zbD zc6)).dec,ok:=(r1M (vI .i64) (mRow 1000 2 zbD zc6)).ok,de:=(r1M (vI .i64) (mRow 1000 2 zbD zc6)).de }
def zlb:((Int×Bool)×(List GTask))→AV×Mem:=(rTM (lCons (vI .i64) (lOne vBool)) (mRow 1000 2 zbD zc6)).enc
abbrev zlc:RD:={ α:=(Int×Bool)×(List GTask),enc:=zlb,dec:=(rTM (lCons (vI .i64) (lOne vBool)) (mRow 1000 2 zbD zc6)).dec,ok:=(rTM (lCons (vI .i64) (lOne vBool)) (mRow 1000 2 zbD zc6)).ok,de:=(rTM (lCons (vI .i64) (lOne vBool)) (mRow 1000 2 zbD zc6)).de }
def zf3:(Bool×(List zab))→AV×Mem:=(r1M vBool (mRow 1000 9 zac zar)).enc
abbrev zf5:RD:={ α:=Bool×(List zab),enc:=zf3,dec:=(r1M vBool (mRow 1000 9 zac zar)).dec,ok:=(r1M vBool (mRow 1000 9 zac zar)).ok,de:=(r1M vBool (mRow 1000 9 zac zar)).de }
def zhs:(Int×(List zab))→AV×Mem:=(r1M (vI .i64) (mRow 1000 9 zac zar)).enc
abbrev zht:RD:={ α:=Int×(List zab),enc:=zhs,dec:=(r1M (vI .i64) (mRow 1000 9 zac zar)).dec,ok:=(r1M (vI .i64) (mRow 1000 9 zac zar)).ok,de:=(r1M (vI .i64) (mRow 1000 9 zac zar)).de }
def ziZ:((Int×Bool)×(List zab))→AV×Mem:=(rTM (lCons (vI .i64) (lOne vBool)) (mRow 1000 9 zac zar)).enc
abbrev zi1:RD:={ α:=(Int×Bool)×(List zab),enc:=ziZ,dec:=(rTM (lCons (vI .i64) (lOne vBool)) (mRow 1000 9 zac zar)).dec,ok:=(rTM (lCons (vI .i64) (lOne vBool)) (mRow 1000 9 zac zar)).ok,de:=(rTM (lCons (vI .i64) (lOne vBool)) (mRow 1000 9 zac zar)).de }
def zgq:((List Bool))→AV×Mem:=(r1 (vNew 1 zft dBool)).enc
abbrev zeW:RD:={ α:=(List Bool),enc:=zgq,dec:=(r1 (vNew 1 zft dBool)).dec,ok:=(r1 (vNew 1 zft dBool)).ok,de:=(r1 (vNew 1 zft dBool)).de }
def zkX:Int→AV×Mem:=(r1 (vI .u64)).enc
abbrev zd1:RD:={ α:=Int,enc:=zkX,dec:=(r1 (vI .u64)).dec,ok:=(r1 (vI .u64)).ok,de:=(r1 (vI .u64)).de }
def zlo:(Int×Int)→AV×Mem:=(r1M (vI .u64) (mBox 1000 1 zco zn4)).enc
abbrev zen:RD:={ α:=Int×Int,enc:=zlo,dec:=(r1M (vI .u64) (mBox 1000 1 zco zn4)).dec,ok:=(r1M (vI .u64) (mBox 1000 1 zco zn4)).ok,de:=(r1M (vI .u64) (mBox 1000 1 zco zn4)).de }
def ziA:(Int×Int)→AV×Mem:=(r1M (vI .i64) (mBox 1002 1 za2 zaW)).enc
abbrev zdo:RD:={ α:=Int×Int,enc:=ziA,dec:=(r1M (vI .i64) (mBox 1002 1 za2 zaW)).dec,ok:=(r1M (vI .i64) (mBox 1002 1 za2 zaW)).ok,de:=(r1M (vI .i64) (mBox 1002 1 za2 zaW)).de }
def zlW:(Int×Int)→AV×Mem:=(r1M (vI .i64) (mBox 1004 1 za2 zaW)).enc
abbrev zet:RD:={ α:=Int×Int,enc:=zlW,dec:=(r1M (vI .i64) (mBox 1004 1 za2 zaW)).dec,ok:=(r1M (vI .i64) (mBox 1004 1 za2 zaW)).ok,de:=(r1M (vI .i64) (mBox 1004 1 za2 zaW)).de }
def zlX:((Int×Int)×Int)→AV×Mem:=(rTM (lCons (vI .i64) (lOne (vI .i64))) (mBox 1003 1 za2 zaW)).enc
abbrev zeu:RD:={ α:=(Int×Int)×Int,enc:=zlX,dec:=(rTM (lCons (vI .i64) (lOne (vI .i64))) (mBox 1003 1 za2 zaW)).dec,ok:=(rTM (lCons (vI .i64) (lOne (vI .i64))) (mBox 1003 1 za2 zaW)).ok,de:=(rTM (lCons (vI .i64) (lOne (vI .i64))) (mBox 1003 1 za2 zaW)).de }
def resTab:List RD:=[rRaw,rRaw,rRaw,zad,zad,zad,zad,zad,zad,zad,zad,znQ,zhJ,zeD,zeD,zc8,zeV,ziC,zad,zfq,zup,zad,zad,zad,zad,zad,zaN,zad,zad,zeU,zgM,zfJ,zhc,zg9,zgB,zgD,zgC,zcV,ziE,ziD,zhU,zaL,zff,zhV,zd0,zbl,zaL,ze3,zkk,zad,zad,zad,zaL,zeo,zad,zad,zbp,zaL,zaL,zaL,zc0,zd7,zha,zaN,zhb,zaL,zaL,zad,zad,zad,zaL,ziH,zba,zaL,zeU,zcm,zf4,ziG,zcm,zad,zbl,zaL,ziI,zhW,zaL,zad,zbp,zad,zad,zad,zad,zad,zeo,zjH,zeo,zad,zad,zad,zfK,zad,zba,zem,zfq,zad,zad,zad,zad,zkM,zcm,zbl,zbl,zbl,zdJ,zbl,zgI,ziJ,zkN,zaL,zaL,zad,zad,zad,zad,zbp,zbp,zbp,zdJ,zbp,zhe,zi2,zlc,zad,zad,zad,zad,zad,zad,zad,zad,zba,zba,zba,zdJ,zba,zf5,zht,zi1,zkk,zad,zad,zad,zaL,zad,zeW,zad,zbl,zd1,zen,zdo,zet,zad,zad,zad,zbp,zdo,zet,zaL,zad,zaL,zad,zad,zba,zdo,zet,zad,zeu,zeu,zaL,zeu,rRaw,rRaw,rRaw,rRaw,rRaw,rRaw,rRaw,rRaw,rRaw,rRaw,rRaw,rRaw,rRaw,rRaw,rRaw,rRaw]
def zlV:(zbL×Int)→AV×Mem:=(rT (lCons (vAgg zgQ) (lOne (vI .i64)))).enc
abbrev ziF:RD:={ α:=zbL×Int,enc:=zlV,dec:=(rT (lCons (vAgg zgQ) (lOne (vI .i64)))).dec,ok:=(rT (lCons (vAgg zgQ) (lOne (vI .i64)))).ok,de:=(rT (lCons (vAgg zgQ) (lOne (vI .i64)))).de }
def zdd:((List ((Int×Int)×za0)))→AV×Mem:=(r1 (vNewm zbm zbV)).enc
abbrev zhd:RD:={ α:=(List ((Int×Int)×za0)),enc:=zdd,dec:=(r1 (vNewm zbm zbV)).dec,ok:=(r1 (vNewm zbm zbV)).ok,de:=(r1 (vNewm zbm zbV)).de }
def zT:Dic:=Dic.of tyTab resTab [(15,ziF),(42,ze3),(71,zhd)]
abbrev zrT:Fr:=⟨Tryz.prog,zC,zA,3,Tryz.f3,[]⟩
abbrev zzw:Fr:=⟨Tryz.prog,zC,zA,9,Tryz.f9,[]⟩
abbrev zzv:Fr:=⟨Tryz.prog,zC,zA,10,Tryz.f10,[]⟩
abbrev zAu:Fr:=⟨Tryz.prog,zC,zA,11,Tryz.f11,[]⟩
abbrev zoz:Fr:=⟨Tryz.prog,zC,zA,12,Tryz.f12,[(1000,⟨0,0,[],false⟩)]⟩
abbrev znV:Fr:=⟨Tryz.prog,zC,zA,13,Tryz.f13,[(1000,⟨0,0,[],false⟩)]⟩
abbrev zh9:Fr:=⟨Tryz.prog,zC,zA,14,Tryz.f14,[(1000,⟨0,0,[],false⟩)]⟩
abbrev zaS:Fr:=⟨Tryz.prog,zC,zA,15,Tryz.f15,[(1001,⟨0,0,[],false⟩)]⟩
abbrev zeH:Fr:=⟨Tryz.prog,zC,zA,16,Tryz.f16,[(1000,⟨0,0,[],false⟩),(1001,⟨0,0,[],false⟩)]⟩
abbrev zvU:Fr:=⟨Tryz.prog,zC,zA,17,Tryz.f17,[]⟩
abbrev zpo:Fr:=⟨Tryz.prog,zC,zA,18,Tryz.f18,[]⟩
abbrev ztc:Fr:=⟨Tryz.prog,zC,zA,22,Tryz.f22,[]⟩
abbrev zzx:Fr:=⟨Tryz.prog,zC,zA,23,Tryz.f23,[]⟩
abbrev zoD:Fr:=⟨Tryz.prog,zC,zA,24,Tryz.f24,[]⟩
abbrev zvW:Fr:=⟨Tryz.prog,zC,zA,26,Tryz.f26,[(1000,⟨0,0,[],false⟩)]⟩
abbrev R_law29_at:Fr:=⟨Tryz.prog,zC,zA,29,Tryz.f29,[]⟩
abbrev zev:Fr:=⟨Tryz.prog,zC,zA,31,Tryz.f31,[(1001,⟨0,0,[],false⟩)]⟩
abbrev znX:Fr:=⟨Tryz.prog,zC,zA,32,Tryz.f32,[]⟩
abbrev zgN:Fr:=⟨Tryz.prog,zC,zA,33,Tryz.f33,[(1000,⟨0,0,[],false⟩)]⟩
abbrev zm4:Fr:=⟨Tryz.prog,zC,zA,34,Tryz.f34,[(1000,⟨0,0,[],false⟩)]⟩
abbrev zgu:Fr:=⟨Tryz.prog,zC,zA,35,Tryz.f35,[(1000,⟨0,0,[],false⟩)]⟩
abbrev ztb:Fr:=⟨Tryz.prog,zC,zA,36,Tryz.f36,[(1000,⟨0,0,[],false⟩)]⟩
abbrev zvV:Fr:=⟨Tryz.prog,zC,zA,37,Tryz.f37,[(1000,⟨0,0,[],false⟩)]⟩
abbrev zpj:Fr:=⟨Tryz.prog,zC,zA,38,Tryz.f38,[(1000,⟨0,0,[],false⟩)]⟩
abbrev zlB:Fr:=⟨Tryz.prog,zC,zA,39,Tryz.f39,[(1000,⟨0,0,[],false⟩)]⟩
abbrev ztt:Fr:=⟨Tryz.prog,zC,zA,40,Tryz.f40,[]⟩
abbrev zwM:Fr:=⟨Tryz.prog,zC,zA,41,Tryz.f41,[]⟩
abbrev zaI:Fr:=⟨Tryz.prog,zC,zA,42,Tryz.f42,[(1000,⟨0,0,[],false⟩)]⟩
abbrev zaE:Fr:=⟨Tryz.prog,zC,zA,43,Tryz.f43,[]⟩
abbrev zkQ:Fr:=⟨Tryz.prog,zC,zA,44,Tryz.f44,[]⟩
abbrev zjL:Fr:=⟨Tryz.prog,zC,zA,45,Tryz.f45,[(1000,⟨0,0,[],false⟩)]⟩
abbrev zqt:Fr:=⟨Tryz.prog,zC,zA,46,Tryz.f46,[]⟩
abbrev zoC:Fr:=⟨Tryz.prog,zC,zA,47,Tryz.f47,[]⟩
abbrev zfU:Fr:=⟨Tryz.prog,zC,zA,50,Tryz.f50,[]⟩
abbrev zq2:Fr:=⟨Tryz.prog,zC,zA,51,Tryz.f51,[]⟩
abbrev zwS:Fr:=⟨Tryz.prog,zC,zA,52,Tryz.f52,[]⟩
abbrev zts:Fr:=⟨Tryz.prog,zC,zA,58,Tryz.f58,[]⟩
abbrev zuK:Fr:=⟨Tryz.prog,zC,zA,59,Tryz.f59,[]⟩
abbrev zk0:Fr:=⟨Tryz.prog,zC,zA,61,Tryz.f61,[(1000,⟨0,0,[],false⟩)]⟩
abbrev zjP:Fr:=⟨Tryz.prog,zC,zA,62,Tryz.f62,[(1000,⟨0,0,[],false⟩)]⟩
abbrev zvX:Fr:=⟨Tryz.prog,zC,zA,63,Tryz.f63,[(1000,⟨0,0,[],false⟩)]⟩
abbrev znW:Fr:=⟨Tryz.prog,zC,zA,64,Tryz.f64,[(1000,⟨0,0,[],false⟩)]⟩
abbrev zq1:Fr:=⟨Tryz.prog,zC,zA,65,Tryz.f65,[]⟩
abbrev zl0:Fr:=⟨Tryz.prog,zC,zA,66,Tryz.f66,[]⟩
abbrev zl1:Fr:=⟨Tryz.prog,zC,zA,67,Tryz.f67,[]⟩
abbrev zle:Fr:=⟨Tryz.prog,zC,zA,68,Tryz.f68,[]⟩
abbrev zia:Fr:=⟨Tryz.prog,zC,zA,69,Tryz.f69,[]⟩
abbrev zwP:Fr:=⟨Tryz.prog,zC,zA,70,Tryz.f70,[]⟩
abbrev zpm:Fr:=⟨Tryz.prog,zC,zA,71,Tryz.f71,[(1000,⟨0,0,[],false⟩)]⟩
abbrev zgO:Fr:=⟨Tryz.prog,zC,zA,72,Tryz.f72,[(1000,⟨0,0,[],false⟩)]⟩
abbrev zq3:Fr:=⟨Tryz.prog,zC,zA,73,Tryz.f73,[]⟩
abbrev zwO:Fr:=⟨Tryz.prog,zC,zA,74,Tryz.f74,[]⟩
abbrev zpk:Fr:=⟨Tryz.prog,zC,zA,75,Tryz.f75,[(1000,⟨0,0,[],false⟩),(900,⟨0,0,[],false⟩),(901,⟨0,0,[],false⟩),(902,⟨0,0,[],false⟩)]⟩
abbrev zeI:Fr:=⟨Tryz.prog,zC,zA,76,Tryz.f76,[]⟩
abbrev zpl:Fr:=⟨Tryz.prog,zC,zA,77,Tryz.f77,[]⟩
abbrev zm5:Fr:=⟨Tryz.prog,zC,zA,78,Tryz.f78,[(1000,⟨0,0,[],false⟩),(900,⟨0,0,[],false⟩),(901,⟨0,0,[],false⟩),(902,⟨0,0,[],false⟩)]⟩
abbrev zmr:Fr:=⟨Tryz.prog,zC,zA,79,Tryz.f79,[]⟩
abbrev zlh:Fr:=⟨Tryz.prog,zC,zA,80,Tryz.f80,[(1000,⟨0,0,[],false⟩)]⟩
abbrev zpn:Fr:=⟨Tryz.prog,zC,zA,82,Tryz.f82,[]⟩
abbrev zjQ:Fr:=⟨Tryz.prog,zC,zA,83,Tryz.f83,[]⟩
abbrev zdK:Fr:=⟨Tryz.prog,zC,zA,84,Tryz.f84,[]⟩
abbrev zwL:Fr:=⟨Tryz.prog,zC,zA,87,Tryz.f87,[]⟩
abbrev zrU:Fr:=⟨Tryz.prog,zC,zA,88,Tryz.f88,[]⟩
abbrev zqc:Fr:=⟨Tryz.prog,zC,zA,89,Tryz.f89,[]⟩
abbrev zvY:Fr:=⟨Tryz.prog,zC,zA,90,Tryz.f90,[]⟩
abbrev zq7:Fr:=⟨Tryz.prog,zC,zA,91,Tryz.f91,[]⟩
abbrev zoA:Fr:=⟨Tryz.prog,zC,zA,92,Tryz.f92,[]⟩
abbrev zmt:Fr:=⟨Tryz.prog,zC,zA,93,Tryz.f93,[]⟩
abbrev zuM:Fr:=⟨Tryz.prog,zC,zA,94,Tryz.f94,[]⟩
abbrev zms:Fr:=⟨Tryz.prog,zC,zA,95,Tryz.f95,[]⟩
abbrev zuN:Fr:=⟨Tryz.prog,zC,zA,96,Tryz.f96,[]⟩
abbrev zwN:Fr:=⟨Tryz.prog,zC,zA,97,Tryz.f97,[]⟩
abbrev ztu:Fr:=⟨Tryz.prog,zC,zA,98,Tryz.f98,[]⟩
abbrev zxU:Fr:=⟨Tryz.prog,zC,zA,99,Tryz.f99,[]⟩
abbrev zjN:Fr:=⟨Tryz.prog,zC,zA,100,Tryz.f100,[(1000,⟨0,0,[],false⟩)]⟩
abbrev zbs:Fr:=⟨Tryz.prog,zC,zA,101,Tryz.f101,[]⟩
abbrev znY:Fr:=⟨Tryz.prog,zC,zA,102,Tryz.f102,[]⟩
abbrev zuL:Fr:=⟨Tryz.prog,zC,zA,103,Tryz.f103,[]⟩
abbrev ztx:Fr:=⟨Tryz.prog,zC,zA,104,Tryz.f104,[]⟩
abbrev zlf:Fr:=⟨Tryz.prog,zC,zA,105,Tryz.f105,[]⟩
abbrev zq5:Fr:=⟨Tryz.prog,zC,zA,106,Tryz.f106,[]⟩
abbrev zq6:Fr:=⟨Tryz.prog,zC,zA,107,Tryz.f107,[]⟩
abbrev zef:Fr:=⟨Tryz.prog,zC,zA,108,Tryz.f108,[(1000,⟨0,0,[],false⟩),(900,⟨0,0,[],false⟩),(901,⟨0,0,[],false⟩),(902,⟨0,0,[],false⟩)]⟩
abbrev ziQ:Fr:=⟨Tryz.prog,zC,zA,109,Tryz.f109,[(1000,⟨0,0,[],false⟩)]⟩
abbrev zk1:Fr:=⟨Tryz.prog,zC,zA,110,Tryz.f110,[(1000,⟨0,0,[],false⟩)]⟩
abbrev ziP:Fr:=⟨Tryz.prog,zC,zA,111,Tryz.f111,[(1000,⟨0,0,[],false⟩)]⟩
abbrev zjM:Fr:=⟨Tryz.prog,zC,zA,112,Tryz.f112,[]⟩
abbrev zji:Fr:=⟨Tryz.prog,zC,zA,113,Tryz.f113,[(1000,⟨0,0,[],false⟩)]⟩
abbrev zgE:Fr:=⟨Tryz.prog,zC,zA,114,Tryz.f114,[(1000,⟨0,0,[],false⟩)]⟩
abbrev zic:Fr:=⟨Tryz.prog,zC,zA,115,Tryz.f115,[(1000,⟨0,0,[],false⟩)]⟩
abbrev zks:Fr:=⟨Tryz.prog,zC,zA,116,Tryz.f116,[(1000,⟨0,0,[],false⟩)]⟩
abbrev zs1:Fr:=⟨Tryz.prog,zC,zA,119,Tryz.f119,[]⟩
abbrev zzy:Fr:=⟨Tryz.prog,zC,zA,120,Tryz.f120,[]⟩
abbrev zxV:Fr:=⟨Tryz.prog,zC,zA,121,Tryz.f121,[]⟩
abbrev ze9:Fr:=⟨Tryz.prog,zC,zA,131,Tryz.f131,[]⟩
abbrev zqs:Fr:=⟨Tryz.prog,zC,zA,132,Tryz.f132,[]⟩
abbrev zoy:Fr:=⟨Tryz.prog,zC,zA,133,Tryz.f133,[]⟩
abbrev zn0:Fr:=⟨Tryz.prog,zC,zA,134,Tryz.f134,[]⟩
abbrev zwR:Fr:=⟨Tryz.prog,zC,zA,135,Tryz.f135,[]⟩
abbrev zv0:Fr:=⟨Tryz.prog,zC,zA,136,Tryz.f136,[]⟩
abbrev zy3:Fr:=⟨Tryz.prog,zC,zA,137,Tryz.f137,[]⟩
abbrev ztd:Fr:=⟨Tryz.prog,zC,zA,138,Tryz.f138,[]⟩
abbrev zhz:Fr:=⟨Tryz.prog,zC,zA,139,Tryz.f139,[(1000,⟨0,0,[],false⟩)]⟩
abbrev zjh:Fr:=⟨Tryz.prog,zC,zA,140,Tryz.f140,[(1000,⟨0,0,[],false⟩)]⟩
abbrev zhy:Fr:=⟨Tryz.prog,zC,zA,141,Tryz.f141,[(1000,⟨0,0,[],false⟩)]⟩
abbrev zhY:Fr:=⟨Tryz.prog,zC,zA,142,Tryz.f142,[]⟩
abbrev zhL:Fr:=⟨Tryz.prog,zC,zA,143,Tryz.f143,[(1000,⟨0,0,[],false⟩)]⟩
abbrev zfY:Fr:=⟨Tryz.prog,zC,zA,144,Tryz.f144,[(1000,⟨0,0,[],false⟩)]⟩
abbrev zhh:Fr:=⟨Tryz.prog,zC,zA,145,Tryz.f145,[(1000,⟨0,0,[],false⟩)]⟩
abbrev ziR:Fr:=⟨Tryz.prog,zC,zA,146,Tryz.f146,[(1000,⟨0,0,[],false⟩)]⟩
abbrev zs0:Fr:=⟨Tryz.prog,zC,zA,147,Tryz.f147,[]⟩
abbrev zvZ:Fr:=⟨Tryz.prog,zC,zA,148,Tryz.f148,[]⟩
abbrev zty:Fr:=⟨Tryz.prog,zC,zA,149,Tryz.f149,[]⟩
abbrev ztw:Fr:=⟨Tryz.prog,zC,zA,150,Tryz.f150,[]⟩
abbrev ztv:Fr:=⟨Tryz.prog,zC,zA,151,Tryz.f151,[]⟩
abbrev zwQ:Fr:=⟨Tryz.prog,zC,zA,152,Tryz.f152,[]⟩
abbrev zbk:Fr:=⟨Tryz.prog,zC,zA,153,Tryz.f153,[]⟩
abbrev zoB:Fr:=⟨Tryz.prog,zC,zA,154,Tryz.f154,[]⟩
abbrev zk2:Fr:=⟨Tryz.prog,zC,zA,155,Tryz.f155,[(1000,⟨0,0,[],false⟩)]⟩
abbrev zpZ:Fr:=⟨Tryz.prog,zC,zA,156,Tryz.f156,[]⟩
abbrev zqu:Fr:=⟨Tryz.prog,zC,zA,157,Tryz.f157,[(1000,⟨0,0,[],false⟩)]⟩
abbrev zib:Fr:=⟨Tryz.prog,zC,zA,158,Tryz.f158,[(1002,⟨0,0,[],false⟩)]⟩
abbrev zlC:Fr:=⟨Tryz.prog,zC,zA,159,Tryz.f159,[(1004,⟨0,0,[],false⟩)]⟩
abbrev zy2:Fr:=⟨Tryz.prog,zC,zA,160,Tryz.f160,[]⟩
abbrev R_ref28_in:Fr:=⟨Tryz.prog,zC,zA,161,Tryz.f161,[]⟩
abbrev zcL:Fr:=⟨Tryz.prog,zC,zA,166,Tryz.f166,[]⟩
abbrev zvT:Fr:=⟨Tryz.prog,zC,zA,167,Tryz.f167,[]⟩
abbrev zqb:Fr:=⟨Tryz.prog,zC,zA,168,Tryz.f168,[]⟩
abbrev zoK:Fr:=⟨Tryz.prog,zC,zA,169,Tryz.f169,[]⟩
abbrev zq4:Fr:=⟨Tryz.prog,zC,zA,170,Tryz.f170,[]⟩
abbrev zjj:Fr:=⟨Tryz.prog,zC,zA,171,Tryz.f171,[(1000,⟨0,0,[],false⟩)]⟩
abbrev zhg:Fr:=⟨Tryz.prog,zC,zA,172,Tryz.f172,[(1002,⟨0,0,[],false⟩)]⟩
abbrev zjR:Fr:=⟨Tryz.prog,zC,zA,173,Tryz.f173,[(1004,⟨0,0,[],false⟩)]⟩
abbrev zrV:Fr:=⟨Tryz.prog,zC,zA,174,Tryz.f174,[]⟩
abbrev zlD:Fr:=⟨Tryz.prog,zC,zA,175,Tryz.f175,[(1003,⟨0,0,[],false⟩)]⟩
abbrev zlg:Fr:=⟨Tryz.prog,zC,zA,177,Tryz.f177,[]⟩
abbrev zjS:Fr:=⟨Tryz.prog,zC,zA,178,Tryz.f178,[(1003,⟨0,0,[],false⟩)]⟩
abbrev znZ:Fr:=⟨Tryz.prog,zC,zA,71,Tryz.f71,[]⟩
abbrev cw:zbx:=callw Tryz.prog zC zA
abbrev zP:Program:=Tryz.prog
theorem ke_117 (x y:zaw):keyEq zP 117 (.agg (zbe x)) (.agg (zbe y))=some (decide (y=x)):=by
 have h1:eqV zP 20 117 [(.int .i64 x.script:Value),(.int .i64 x.part:Value)] [(.int .i64 y.script:Value),(.int .i64 y.part:Value)]=some (x.script == y.script && (x.part == y.part && true)):=by kernel_rfl
 have h2:bitsL [(.int .i64 x.script:Value),(.int .i64 x.part:Value)] [(.int .i64 y.script:Value),(.int .i64 y.part:Value)]=some (x.script == y.script && (x.part == y.part && true)):=by kernel_rfl
 have h:keyEq zP 117 (.agg (zbe x)) (.agg (zbe y))=agree (eqV zP 20 117 [(.int .i64 x.script:Value),(.int .i64 x.part:Value)] [(.int .i64 y.script:Value),(.int .i64 y.part:Value)]) (bitsL [(.int .i64 x.script:Value),(.int .i64 x.part:Value)] [(.int .i64 y.script:Value),(.int .i64 y.part:Value)]):=by kernel_rfl
 rw [h,h1,h2]; have ha:∀ b:Bool,agree (some b) (some b)=some b:=fun b=>by simp [agree]
 rw [ha]; refine congrArg some ?_; by_cases e:y=x
 · rw [decide_eq_true e,e]; simp
 · rw [decide_eq_false e,Bool.eq_false_iff]; intro q; simp only [zbW,beq_iff_eq,and_true] at q; refine e (zcO.inj ?_); show [I (y.script),I (y.part)]=[I (x.script),I (x.part)]; simp only [q]
theorem zhx {β:Type} (z:zaM) (key:zaw) (l:List (zaw×zaM)) (k:zaM→Bool→Option β):mapD zP 117 true zl8 (.agg (zbB z)) (List.map zal l) (.agg (zbe key)) k=k ((mfind key l).getD z) (mfind key l).isSome:=
 znA (agg:=true) (D:=zl8) (kenc:=fun x=>.agg (zbe x)) (venc:=fun x=>.agg (zbB x)) ke_117 (show ∀ x:zaM,avDec true zl8 (.agg (zbB x))=some x from fun x=>zl8.de x) z key l k
theorem zm2 {β:Type} (key:zaw) (v:zaM) (l:List (zaw×zaM)) (k:List (List AV)→Option β):msetD zP 117 49 (.agg (zbe key)) (.agg (zbB v)) (List.map zal l) k=k (List.map zal (mput key v l)):=
 zmh (kenc:=fun x=>.agg (zbe x)) (venc:=fun x=>.agg (zbB x)) ke_117 key v l k
theorem zkV {β:Type} (z:Int) (key:zaw) (l:List (zaw×Int)) (k:Int→Bool→Option β):mapD zP 117 false zaW (I z) (List.map zas l) (.agg (zbe key)) k=k ((mfind key l).getD z) (mfind key l).isSome:=
 znA (agg:=false) (D:=zaW) (kenc:=fun x=>.agg (zbe x)) (venc:=fun x=>I x) ke_117 (show ∀ x:Int,avDec false zaW (I x)=some x from fun x=>zaW.de x) z key l k
theorem zp7 {β:Type} (key:zaw) (v:Int) (l:List (zaw×Int)) (k:List (List AV)→Option β):msetD zP 117 3 (.agg (zbe key)) (I v) (List.map zas l) k=k (List.map zas (mput key v l)):=
 zmh (kenc:=fun x=>.agg (zbe x)) (venc:=fun x=>I x) ke_117 key v l k
theorem zln {β:Type} (z:zab) (key:zaw) (l:List (zaw×zab)) (k:zab→Bool→Option β):mapD zP 117 true zar (.agg (zaa z)) (List.map zbA l) (.agg (zbe key)) k=k ((mfind key l).getD z) (mfind key l).isSome:=
 znA (agg:=true) (D:=zar) (kenc:=fun x=>.agg (zbe x)) (venc:=fun x=>.agg (zaa x)) ke_117 (show ∀ x:zab,avDec true zar (.agg (zaa x))=some x from fun x=>zar.de x) z key l k
theorem zlp {β:Type} (key:zaw) (v:zab) (l:List (zaw×zab)) (k:List (List AV)→Option β):msetD zP 117 64 (.agg (zbe key)) (.agg (zaa v)) (List.map zbA l) k=k (List.map zbA (mput key v l)):=
 zmh (kenc:=fun x=>.agg (zbe x)) (venc:=fun x=>.agg (zaa x)) ke_117 key v l k
theorem ke_151 (x y:Int×Int):keyEq zP 151 (.agg (zbK x)) (.agg (zbK y))=some (decide (y=x)):=by
 have h1:eqV zP 20 151 [(.int .i64 x.1:Value),(.int .i64 x.2:Value)] [(.int .i64 y.1:Value),(.int .i64 y.2:Value)]=some (x.1 == y.1 && (x.2 == y.2 && true)):=by kernel_rfl
 have h2:bitsL [(.int .i64 x.1:Value),(.int .i64 x.2:Value)] [(.int .i64 y.1:Value),(.int .i64 y.2:Value)]=some (x.1 == y.1 && (x.2 == y.2 && true)):=by kernel_rfl
 have h:keyEq zP 151 (.agg (zbK x)) (.agg (zbK y))=agree (eqV zP 20 151 [(.int .i64 x.1:Value),(.int .i64 x.2:Value)] [(.int .i64 y.1:Value),(.int .i64 y.2:Value)]) (bitsL [(.int .i64 x.1:Value),(.int .i64 x.2:Value)] [(.int .i64 y.1:Value),(.int .i64 y.2:Value)]):=by kernel_rfl
 rw [h,h1,h2]; have ha:∀ b:Bool,agree (some b) (some b)=some b:=fun b=>by simp [agree]
 rw [ha]; refine congrArg some ?_; by_cases e:y=x
 · rw [decide_eq_true e,e]; simp
 · rw [decide_eq_false e,Bool.eq_false_iff]; intro q; simp only [zbW,beq_iff_eq,and_true] at q; refine e (zd8.inj ?_); show [I (y.1),I (y.2)]=[I (x.1),I (x.2)]; simp only [q]
theorem zjE {β:Type} (z:za0) (key:Int×Int) (l:List ((Int×Int)×za0)) (k:za0→Bool→Option β):mapD zP 151 true zdT (.agg (zbC z)) (List.map zby l) (.agg (zbK key)) k=k ((mfind key l).getD z) (mfind key l).isSome:=
 znA (agg:=true) (D:=zdT) (kenc:=fun x=>.agg (zbK x)) (venc:=fun x=>.agg (zbC x)) ke_151 (show ∀ x:za0,avDec true zdT (.agg (zbC x))=some x from fun x=>zdT.de x) z key l k
theorem zcY {β:Type} (key:Int×Int) (v:za0) (l:List ((Int×Int)×za0)) (k:List (List AV)→Option β):msetD zP 151 153 (.agg (zbK key)) (.agg (zbC v)) (List.map zby l) k=k (List.map zby (mput key v l)):=
 zmh (kenc:=fun x=>.agg (zbK x)) (venc:=fun x=>.agg (zbC x)) ke_151 key v l k
theorem zqm {β:Type} (z:Int) (key:Int×Int) (l:List ((Int×Int)×Int)) (k:Int→Bool→Option β):mapD zP 151 false zaW (I z) (List.map zdA l) (.agg (zbK key)) k=k ((mfind key l).getD z) (mfind key l).isSome:=
 znA (agg:=false) (D:=zaW) (kenc:=fun x=>.agg (zbK x)) (venc:=fun x=>I x) ke_151 (show ∀ x:Int,avDec false zaW (I x)=some x from fun x=>zaW.de x) z key l k
theorem zxQ {β:Type} (key:Int×Int) (v:Int) (l:List ((Int×Int)×Int)) (k:List (List AV)→Option β):msetD zP 151 3 (.agg (zbK key)) (I v) (List.map zdA l) k=k (List.map zdA (mput key v l)):=
 zmh (kenc:=fun x=>.agg (zbK x)) (venc:=fun x=>I x) ke_151 key v l k
theorem zwB {β:Type} (z:Bool) (key:Int×Int) (l:List ((Int×Int)×Bool)) (k:Bool→Bool→Option β):mapD zP 151 false dBool (B z) (List.map zdM l) (.agg (zbK key)) k=k ((mfind key l).getD z) (mfind key l).isSome:=
 znA (agg:=false) (D:=dBool) (kenc:=fun x=>.agg (zbK x)) (venc:=fun x=>B x) ke_151 (show ∀ x:Bool,avDec false dBool (B x)=some x from fun x=>dBool.de x) z key l k
theorem zwI {β:Type} (key:Int×Int) (v:Bool) (l:List ((Int×Int)×Bool)) (k:List (List AV)→Option β):msetD zP 151 4 (.agg (zbK key)) (B v) (List.map zdM l) k=k (List.map zdM (mput key v l)):=
 zmh (kenc:=fun x=>.agg (zbK x)) (venc:=fun x=>B x) ke_151 key v l k
@[simp] theorem zaC {β:Type} (v:Bool) (k:Bool→Option β):callD zad (some (zak v)) k=k v:=zbb (D:=zad) k
@[simp] theorem zxc {β:Type} (v:zae) (k:zae→Option β):callD znQ (some (zqU v)) k=k v:=zbb (D:=znQ) k
@[simp] theorem zro {β:Type} (v:zaB×zae) (k:(zaB×zae)→Option β):callD zhJ (some (zhI v)) k=k v:=zbb (D:=zhJ) k
@[simp] theorem zlk {β:Type} (v:((List zab))×zae) (k:(((List zab))×zae)→Option β):callD zeD (some (zdN v)) k=k v:=zbb (D:=zeD) k
@[simp] theorem zBp {β:Type} (v:(zbL×Int)×(List zab)) (k:((zbL×Int)×(List zab))→Option β):callD zc8 (some (znF v)) k=k v:=zbb (D:=zc8) k
@[simp] theorem zz6 {β:Type} (v:((List zab))×zae×(List zab)) (k:(((List zab))×zae×(List zab))→Option β):callD zeV (some (zf2 v)) k=k v:=zbb (D:=zeV) k
@[simp] theorem zsi {β:Type} (v:(List zab)) (k:((List zab))→Option β):callD ziC (some (zlS v)) k=k v:=zbb (D:=ziC) k
@[simp] theorem zaT {β:Type} (v:Int×zae) (k:(Int×zae)→Option β):callD zaN (some (ziy v)) k=k v:=zbb (D:=zaN) k
@[simp] theorem zfj {β:Type} (v:zab) (k:zab→Option β):callD zeU (some (zkI v)) k=k v:=zbb (D:=zeU) k
@[simp] theorem zk4 {β:Type} (v:zaB) (k:zaB→Option β):callD zgM (some (zou v)) k=k v:=zbb (D:=zgM) k
@[simp] theorem zAP {β:Type} (v:((List GTask)×Int)×(List zab)) (k:(((List GTask)×Int)×(List zab))→Option β):callD zfJ (some (zkj v)) k=k v:=zbb (D:=zfJ) k
@[simp] theorem zqD {β:Type} (v:(List zbH)) (k:((List zbH))→Option β):callD zhc (some (zg6 v)) k=k v:=zbb (D:=zhc) k
@[simp] theorem zqA {β:Type} (v:((List zaG)×(List zbt))×zae) (k:(((List zaG)×(List zbt))×zae)→Option β):callD zg9 (some (zfI v)) k=k v:=zbb (D:=zg9) k
@[simp] theorem zp1 {β:Type} (v:((List za6))×zae) (k:(((List za6))×zae)→Option β):callD zgB (some (zgz v)) k=k v:=zbb (D:=zgB) k
@[simp] theorem zp3 {β:Type} (v:((List zaQ))×zae) (k:(((List zaQ))×zae)→Option β):callD zgD (some (zgA v)) k=k v:=zbb (D:=zgD) k
@[simp] theorem zp2 {β:Type} (v:za4×zae) (k:(za4×zae)→Option β):callD zgC (some (zjp v)) k=k v:=zbb (D:=zgC) k
@[simp] theorem zbS {β:Type} (v:Bool×zae) (k:(Bool×zae)→Option β):callD zcV (some (zlT v)) k=k v:=zbb (D:=zcV) k
@[simp] theorem zsk {β:Type} (v:GSeed×zae) (k:(GSeed×zae)→Option β):callD ziE (some (ziz v)) k=k v:=zbb (D:=ziE) k
@[simp] theorem zsj {β:Type} (v:zab×zae) (k:(zab×zae)→Option β):callD ziD (some (zlU v)) k=k v:=zbb (D:=ziD) k
@[simp] theorem zig {β:Type} (v:zaG) (k:zaG→Option β):callD zhU (some (zmO v)) k=k v:=zbb (D:=zhU) k
@[simp] theorem za1 {β:Type} (v:Int) (k:Int→Option β):callD zaL (some (zbh v)) k=k v:=zbb (D:=zaL) k
@[simp] theorem zkR {β:Type} (v:((List zab)×Int)×(List zab)) (k:(((List zab)×Int)×(List zab))→Option β):callD zff (some (zdD v)) k=k v:=zbb (D:=zff) k
@[simp] theorem zn1 {β:Type} (v:List (Option zai)×List (zaw×zaM)) (k:(List (Option zai)×List (zaw×zaM))→Option β):callD zhV (some (zhT v)) k=k v:=zbb (D:=zhV) k
@[simp] theorem zh1 {β:Type} (v:(List (zaw×zab))) (k:((List (zaw×zab)))→Option β):callD zd0 (some (zcK v)) k=k v:=zbb (D:=zd0) k
@[simp] theorem zhZ {β:Type} (v:(List zbH)) (k:((List zbH))→Option β):callD zbl (some (zdI v)) k=k v:=zbb (D:=zbl) k
@[simp] theorem zl6 {β:Type} (v:(List zab)×Int) (k:((List zab)×Int)→Option β):callD ze3 (some (zcH v)) k=k v:=zbb (D:=ze3) k
@[simp] theorem ziU {β:Type} (v:(List GTask)) (k:((List GTask))→Option β):callD zbp (some (zdX v)) k=k v:=zbb (D:=zbp) k
@[simp] theorem zjk {β:Type} (v:Nat×(List GTask)) (k:(Nat×(List GTask))→Option β):callD zc0 (some (zd6 v)) k=k v:=zbb (D:=zc0) k
@[simp] theorem zfN {β:Type} (v:zaG×zae) (k:(zaG×zae)→Option β):callD zd7 (some (zla v)) k=k v:=zbb (D:=zd7) k
@[simp] theorem zqB {β:Type} (v:zbt×zae) (k:(zbt×zae)→Option β):callD zha (some (zki v)) k=k v:=zbb (D:=zha) k
@[simp] theorem zqC {β:Type} (v:zaQ×zae) (k:(zaQ×zae)→Option β):callD zhb (some (zg5 v)) k=k v:=zbb (D:=zhb) k
@[simp] theorem zsn {β:Type} (v:((List ((Int×Int)×za0)))×(List zab)) (k:(((List ((Int×Int)×za0)))×(List zab))→Option β):callD ziH (some (zdO v)) k=k v:=zbb (D:=ziH) k
@[simp] theorem zge {β:Type} (v:(List zab)) (k:((List zab))→Option β):callD zba (some (zcR v)) k=k v:=zbb (D:=zba) k
@[simp] theorem zfk {β:Type} (v:zai) (k:zai→Option β):callD zcm (some (zbP v)) k=k v:=zbb (D:=zcm) k
@[simp] theorem zpE {β:Type} (v:Int×(Option Addr)) (k:(Int×(Option Addr))→Option β):callD zf4 (some (zeS v)) k=k v:=zbb (D:=zf4) k
@[simp] theorem zsm {β:Type} (v:GSeed×Bool) (k:(GSeed×Bool)→Option β):callD ziG (some (zgn v)) k=k v:=zbb (D:=ziG) k
@[simp] theorem zso {β:Type} (v:(List ((Int×Int)×Int))×(List ((Int×Int)×Bool))) (k:((List ((Int×Int)×Int))×(List ((Int×Int)×Bool)))→Option β):callD ziI (some (zgp v)) k=k v:=zbb (D:=ziI) k
@[simp] theorem zpF {β:Type} (v:(List zab)) (k:((List zab))→Option β):callD zhW (some (zgo v)) k=k v:=zbb (D:=zhW) k
@[simp] theorem zl5 {β:Type} (v:Int×Bool) (k:(Int×Bool)→Option β):callD zeo (some (ziY v)) k=k v:=zbb (D:=zeo) k
@[simp] theorem zBo {β:Type} (v:(List Int)×Int) (k:((List Int)×Int)→Option β):callD zjH (some (zeT v)) k=k v:=zbb (D:=zjH) k
@[simp] theorem zll {β:Type} (v:(Int×Int)) (k:((Int×Int))→Option β):callD zfK (some (zg7 v)) k=k v:=zbb (D:=zfK) k
@[simp] theorem ziT {β:Type} (v:(List Int)) (k:((List Int))→Option β):callD zem (some (zhr v)) k=k v:=zbb (D:=zem) k
@[simp] theorem zhi {β:Type} (v:zaQ×Bool) (k:(zaQ×Bool)→Option β):callD zfq (some (zkK v)) k=k v:=zbb (D:=zfq) k
@[simp] theorem ztP {β:Type} (v:zda×Int) (k:(zda×Int)→Option β):callD zkM (some (zkJ v)) k=k v:=zbb (D:=zkM) k
@[simp] theorem zu1 {β:Type} (v:za6×Bool) (k:(za6×Bool)→Option β):callD zkk (some (zmP v)) k=k v:=zbb (D:=zkk) k
@[simp] theorem zno {β:Type} (v:(List Bool)) (k:((List Bool))→Option β):callD zeW (some (zgq v)) k=k v:=zbb (D:=zeW) k
@[simp] theorem zyq {β:Type} (v:Int) (k:Int→Option β):callD zd1 (some (zkX v)) k=k v:=zbb (D:=zd1) k
@[simp] theorem zzf {β:Type} (v:Int×Int) (k:(Int×Int)→Option β):callD zen (some (zlo v)) k=k v:=zbb (D:=zen) k
@[simp] theorem zsl {β:Type} (v:zbL×Int) (k:(zbL×Int)→Option β):callD ziF (some (zlV v)) k=k v:=zbb (D:=ziF) k
@[simp] theorem zqE {β:Type} (v:(List ((Int×Int)×za0))) (k:((List ((Int×Int)×za0)))→Option β):callD zhd (some (zdd v)) k=k v:=zbb (D:=zhd) k
theorem ptT {y:AV×Mem} (cut:List Nat) {R:Fr} {j:Nat} {st:St} {x:Option (AV×Mem)} (h:x=some y) (hx:tGo R zT cut 100000 (decide (j≠0)) (ptS R.fn j) st=x:=by kernel_rfl):pt R j st=some y:=pt_of zT cut hx h
theorem cwT {y:AV×Mem} (R:Fr) (cut:List Nat) {args:List AV} {ms:Mem} {x:Option (AV×Mem)} (h:x=some y) (ho:R.C.orc R.f args ms=none:=by rfl) (hf:R.P.funcs[R.f]?=some R.fn:=by kernel_rfl) (he:enters R.P R.f=true:=by kernel_rfl)
  (hN:decide (R.fn.ntmps≤1000∧args.length≤R.fn.ntmps)=true:=by kernel_rfl) (hm:R.ms=Go.Ab.blank ms:=by kernel_rfl)
  (hx:tGo R zT cut 100000 false (ptK R.fn 0) { t:=argTab 0 args,m:=ms }=x:=by kernel_rfl):callw R.P R.C R.F R.f args ms=some y:=zxe R zT cut ho hf he hN hm hx h
end Go.Proofs.YtikogkgdkdmljaaGreat
end
