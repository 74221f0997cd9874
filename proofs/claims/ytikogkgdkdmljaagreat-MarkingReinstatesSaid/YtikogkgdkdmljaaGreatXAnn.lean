/- Annotations of the seat's functions: what lives behind each region, which slots own rows, which arguments are written; how results read. -/
import Derived.Test.YtikogkgdkdmljaaGreatXTy
import Derived.Test.YtikogkgdkdmljaaGreatProg
import Derived.Test.YtikogkgdkdmljaaGreatXSp
set_option linter.unusedSimpArgs false
set_option linter.unusedVariables false
noncomputable section
namespace Go.Proofs.YtikogkgdkdmljaaGreat
open Go.Ab
abbrev LL:=List (List AV)
def zC:Cfg:={ wrt:=atReg [(12,[0]),(13,[0]),(14,[0]),(15,[1]),(16,[0,1]),(26,[0]),(31,[1]),(33,[0]),(34,[0]),(35,[0]),(36,[0]),(37,[0]),(38,[0]),(39,[0]),(42,[0]),(45,[0]),(56,[0]),(60,[0]),(61,[0]),(62,[0]),(63,[0]),(64,[0]),(71,[0]),(72,[0]),(80,[0]),(86,[0]),(100,[0]),(109,[0]),(110,[0]),(111,[0]),(113,[0]),(114,[0]),(115,[0]),(116,[0]),(123,[0]),(124,[0]),(125,[0]),(127,[0]),(128,[0]),(129,[0]),(130,[0]),(139,[0]),(140,[0]),(141,[0]),(143,[0]),(144,[0]),(145,[0]),(146,[0]),(155,[0]),(157,[0]),(158,[2]),(159,[4]),(163,[0]),(164,[2]),(165,[4]),(171,[0]),(172,[2]),(173,[4]),(175,[3]),(176,[3]),(178,[3])],orc:=zOrc,dp:=fun f=>(atReg [(108,[0]),(75,[0]),(78,[0])] f).head? }
def zmu:zaf→Mem:=fun x=>[(1000,⟨14,za6,[[I x.level,.row 900 10 0 (List.map zcw.enc x.marks).length,I x.period,I x.started.Time,I x.started.Source,I x.started.Seq,.map 901,.sl 1 (List.map dBool.enc x.watch.Last),B x.watch.Suspended,I x.good.Time,I x.good.Source,I x.good.Seq,B x.some,.row 902 12 0 (List.map zcc.enc x.suspensions).length]],true⟩),(900,⟨10,133,List.map zcw.enc x.marks,false⟩),(901,⟨0,108,List.map zda.enc x.noted,false⟩),(902,⟨12,61,List.map zcc.enc x.suspensions,false⟩)]
abbrev zjw:MD:=⟨zaf,zmu,by
 intro x y h; simp only [zmu,zbm,zaG,Ent.mk.injEq,AV.v.injEq,AV.row.injEq,AV.sl.injEq,Value.int.injEq,Value.bool.injEq,Value.string.injEq,true_and,and_true,and_assoc,TyD.minj dBool,TyD.minj zda,TyD.minj zcc,TyD.minj zcw] at h
 exact (zaf.eqOf (h.1) (h.2.2.2.2.2.2.2.2.2.2.2.2.2.1) (h.2.2.1) (zaM.eqOf (h.2.2.2.1) (h.2.2.2.2.1) (h.2.2.2.2.2.1)) (h.2.2.2.2.2.2.2.2.2.2.2.2.2.2.1) (zcY.eqOf (h.2.2.2.2.2.2.1) (h.2.2.2.2.2.2.2.1)) (zaM.eqOf (h.2.2.2.2.2.2.2.2.1) (h.2.2.2.2.2.2.2.2.2.1) (h.2.2.2.2.2.2.2.2.2.2.1)) (h.2.2.2.2.2.2.2.2.2.2.2.1) (h.2.2.2.2.2.2.2.2.2.2.2.2.2.2.2))⟩
def anK (l:List Nat) (v:List (List Nat)) (o:List (Nat×List (Nat×Nat×TypeId))):Ann:={ lits:=l,live:=fun i=>v[i]?,own:=atReg o }
def zrE:Ann:={ anK [] [[0],[0,14],[2],[3],[3,4],[3,4,5],[3,4,5,6,7],[4,5,6,7,8,9],[6,7,8,9,10,11],[2]] [(5,[(5,9,64)])] with fz:=atReg [(7,[5])] }
def zsM:Ann:=anK [] [[0],[0,23],[2],[3],[3,4],[4,5],[4,5,6,7],[4,5,6,43],[2],[4,6,8],[4,6,8,47,48,49],[4,6,8,47,48,49,50],[4,6,8,9,10,47,48,49],[4,6,8,9,10,11,12,47,48,49],[4,6,8,9,10,11,12,14,47,48,49],[4,6,8,9,10,11,47,48,49,91],[2],[4,6,8,9,10,11,47,48,49,93],[4,6,8,10,11,15,47,48,49],[4,6,8,10,11,47,48,49,132],[2],[4,6,8,10,11,47,48,49,134,135,136],[4,6,8,10,11,47,48,49,134,135,136,137],[4,6,8,10,11,17,47,48,49,134,135,136],[4,6,8,10,11,47,48,49,134,135,136,164],[2],[4,6,8,10,11,47,48,49,134,135,136],[4,6,8,10,11,18,47,48,49],[4,6,8,10,11,18,47,48,49,166,167,168],[4,6,8,10,11,18,47,48,49,166,167,168,169],[4,6,8,10,11,18,20,47,48,49,166,167,168],[4,6,8,10,11,18,47,48,49,166,167,168],[4,6,8,10,11,18,47,48,49,166,167,168],[4,6,8,47,48,49,215],[2],[4,6,8,47,48,49],[2]] [(5,[(5,9,64)])]
def zrD:Ann:=anK [] [[0],[0,23],[2],[3],[3,4],[4,5],[4,5,6,7],[4,5,6,44],[2],[4,5,6,46,47,48],[4,5,6,46,47,48,49],[4,5,6,9,46,47,48],[4,5,6,9,10,46,47,48],[4,5,6,9,10,46,47,48,52,53,54],[4,5,6,9,10,46,47,48,52,53,54,55],[4,5,6,9,10,12,46,47,48,52,53,54],[4,5,6,9,10,12,46,47,48,52,53,54,68],[4,5,6,9,10,46,47,48,52,53,54],[4,5,6,9,10,46,47,48,52,53,54],[4,5,6,9,13,14,46,47,48],[4,5,6,9,13,14,15,46,47,48],[4,5,6,9,13,14,15,16,46,47,48],[4,5,6,9,13,14,15,16,46,47,48,81,82,83],[4,5,6,9,13,14,15,16,46,47,48,81,82,83,84],[4,5,6,9,13,14,15,16,18,46,47,48,81,82,83],[4,5,6,9,13,14,15,16,18,46,47,48,81,82,83,91],[4,5,6,9,13,14,15,16,46,47,48,81,82,83],[4,5,6,9,13,14,15,16,46,47,48,81,82,83],[4,5,6,9,13,14,15,16,46,47,48,98,99,100],[4,5,6,9,13,14,15,16,46,47,48,98,99,100,101],[4,5,6,9,13,14,15,16,20,46,47,48,98,99,100],[4,5,6,9,13,14,15,16,20,46,47,48,98,99,100,108],[4,5,6,9,13,14,15,16,46,47,48,98,99,100],[4,5,6,9,13,14,15,16,46,47,48,98,99,100],[4,5,6,46,47,48,123],[2],[4,5,6,46,47,48],[2]] [(12,[(10,9,64)]),(17,[(10,9,64)]),(20,[(15,8,51)]),(21,[(16,12,61)]),(26,[(15,8,51)]),(32,[(16,12,61)])]
def zrF:Ann:=anK [] [[0],[0,27],[2],[3],[3,4],[4,5],[4,5,6,7],[4,5,6,7,41,42,43],[4,5,6,7,41,42,43,44],[4,5,6,7,9,41,42,43],[4,5,6,7,9,11,41,42,43],[4,5,6,7,9,41,42,43,60],[4,5,6,7,9,41,42,43],[4,5,6,7,9,41,42,43,67],[4,5,6,7,41,42,43],[4,5,6,7,41,42,43],[4,6,7,12,13],[4,7,12,13,14,15],[4,7,12,13,14,15],[4,7,12,13,14,15,16,17],[4,7,16,117],[2],[4,7,16,18],[4,16,18,119,120,121],[4,16,18,119,120,121,122],[4,16,18,20,119,120,121],[4,16,18,20,119,120,121,127],[4,16,18,119,120,121],[4,16,18,119,120,121],[16,18,145],[2],[18,147,148,149],[18,147,148,149,150],[18,22,147,148,149],[18,22,23,24,147,148,149],[18,147,148,149,172],[2],[18,147,148,149],[2]] [(6,[(6,9,64),(7,9,64)]),(12,[(6,9,64)]),(14,[(7,9,64)])]
def zp5:Ann:=anK [] [[0,1],[0,1,19],[4],[1,5],[1,5,6],[1,5,6,7],[1,5,6,7,31],[4],[5,6,7,8],[6,7,8,9],[6,7,8,9,10,11],[8,9,10,11,12,13],[8,9,10,11,12,13,14],[8,9,10,11,12,13,14,67,68,69],[8,9,10,11,12,13,14,67,68,69,70],[8,9,10,11,12,13,14,16,67,68,69],[8,9,10,11,12,13,14,16,67,68,69,88],[8,9,10,11,12,13,14,67,68,69],[8,9,10,11,12,13,14,67,68,69],[4]] [(12,[(14,8,51)]),(17,[(14,8,51)])]
def zoe:Ann:=anK [] [[0,1],[0,1,29],[4],[1,5],[1,5,6],[1,6,7],[1,6,7,8,9],[6,7,8,9,10],[6,7,8,9,10,11],[6,7,8,9,10,11,12],[6,7,8,9,10,11,12,13,14],[6,7,8,9,10,11,13,14,15,16],[6,7,8,10,11,13,113],[4],[6,7,10,11,13,17],[6,7,10,11,17,129],[4],[6,7,10,11,17,131,132,133],[6,7,10,11,17,131,132,133,134],[6,7,10,11,17,19,131,132,133],[6,7,10,11,17,19,21,131,132,133],[6,7,10,11,17,19,131,132,133,153],[6,7,10,11,17,19,22,131,132,133],[6,7,10,11,17,19,22,23,24,131,132,133],[6,7,10,11,17,19,23,24,25,26,131,132,133],[6,7,10,11,17,131,132,133,205],[4],[6,7,10,11,17,131,132,133],[4]] []
def zd7:Ann:=anK [] [[0],[2]] []
def zzo:Ann:=anK [13] [[],[1],[1,2,3],[1,2,3,4,5],[1,2,3,4,5],[2,3,4,5,6,7],[0]] [(1,[(1,9,64)]),(4,[(1,9,64)])]
def zuw:Ann:={ anK [] [[0,2],[0,2,3,4],[0,2,3,5],[0,2,3,5,6],[0,2,3,5,6,26],[0,2,3,5,6],[0,2,3,5,6,30],[0,2,3,5,6],[2]] [] with cel:=fun _=>[(5,4,900,2,90)] }
def zs9:Ann:=anK [] [[0,2,4],[0,2,4,7],[0,2,4,7,8],[0,2,4,7,8,13],[0,2,4,7,8],[0,2,4,7,8,9],[0,2,4,7,8,9,22],[0,2,4,7,8],[0,2,4,7,8,9,22,31],[0,2,4,7,8],[0,2,4,7,8,9,22,50],[0,2,4,7,8,9,55],[0,2,4,7,8],[0,2,4,7,8,9,22,76],[0,2,4,7,8,80],[0,2,4,7,8],[0,2,4,7,8,9,91],[0,2,4,7,8,95],[0,2,4,7,8,10],[0,2,4,7,8,10],[0,2,4,7,8],[6]] [(1,[(7,9,64)]),(7,[(7,9,64)]),(9,[(7,9,64)]),(12,[(7,9,64)]),(15,[(7,9,64)]),(20,[(7,9,64)])]
def zvN:Ann:=anK [] [[0,2,4],[0,2,4,7],[0,2,4,7,8],[0,2,4,7,8,17],[0,2,4,7,8],[0,2,4,7,8,9],[0,2,4,7,8,9,10],[0,2,4,7,8,9,10,32],[0,2,4,7,8,9,10],[0,2,4,7,8,9,10,11],[0,2,4,7,8,9,10,11,39],[0,2,4,7,8,9,10,11],[0,2,4,7,8,9,10,11,53],[0,2,4,7,8,9,10,11,12],[0,2,4,7,8,9,10,11],[6]] [(1,[(7,9,64)]),(14,[(7,9,64)])]
def zxH:Ann:={ anK [] [[1,2,4],[1,2,4,17],[4,5],[2,4,6,7],[2,4,6,7,25],[4,5],[4,8,9],[4,8,9,10],[4,9,10,34,35],[4,9,10,34,35,36],[4,9,10,11,12,34,35],[4,9,10,11,12,34,35,42],[4,9,10,11,12,34,35],[4,9,10,11,12,34,35,54],[4,9,10,11,12,34,35,54,56],[4,9,10,11,12,14,34,35,54],[4,9,10,11,12,34,35,54],[4,9,10,34,35],[4,10],[4,5]] [] with cel:=fun _=>[(10,0,301,8,51),(10,1,302,12,61)] }
def zrG:Ann:=anK [] [[0,1],[0,1,5],[0,1,5,6],[0,1,5,6,15],[0,1,5,6],[0,1,5,6,7],[0,1,5,6],[0,1,5,8],[0,1,5,8,39],[0,1,5,8],[0,1,5,8,43],[0,1,5,8],[4]] [(1,[(5,9,64)]),(11,[(5,9,64)])]
def zvM:Ann:={ anK [] [[0],[3],[2]] [] with frz:=true }
def zzv:Ann:=anK [] [[2,3],[2,3,22],[4],[2,3,5],[2,3,5,27],[2,3,5],[2,3,5,40],[4],[2,3,6],[2,3,6,45],[2,3,6],[2,3,6,58],[4],[4]] []
def zqT:Ann:=anK [] [[0,1,4],[0,1,4,6],[0,1,4,6,10],[0,1,4,6],[0,1,4,6,19],[4,5],[4,5]] []
def zth:Ann:=anK [] [[0,1],[0,1,6],[0,1,6,10],[0,1,6],[0,1,6,19],[4,5],[4,5]] [(0,[(4,1,3)]),(5,[(4,1,3)]),(6,[(4,1,3)])]
def zo4:Ann:=anK [] [[0,1,5],[5,7,8],[6]] []
def zsQ:Ann:=anK [] [[3,4,5],[6]] []
def zzr:Ann:=anK [] [[2,3],[2,3,5],[4],[2,3,16],[4],[4]] []
def zuD:Ann:=anK [] [[0,1],[0,1,10],[4],[0,1,5],[0,1,5,14],[0,1,5],[0,1,5,25],[4],[4]] []
def zzt:Ann:=anK [] [[2,3],[2,3,5,6],[2,3,5,33],[4],[2,3,5,7],[4]] []
def zvP:Ann:=anK [] [[0,1],[0,1,19],[4],[0,1,5],[1,5],[1,5,40],[5],[4]] []
def zsz:Ann:=anK [] [[0,1],[0,1,10],[4],[0,1,12,13],[0,1,12,13,14],[0,1,5,12,13],[0,1,12,13,24],[4],[0,1,12,13],[4]] []
def zxF:Ann:=anK [] [[1,2,3],[1,11,12,13],[1,11,12,13,14],[1,8,11,12,13],[1,11,12,13,26],[6],[1,11,12,13],[6]] []
def a_law29_at:Ann:=anK [] [[0,1,2,6],[6]] []
def zyK:Ann:={ anK [12,13] [[0],[0,1],[0,1],[0,1,2],[0,1,2,18],[0,1,2],[0,1,2],[0,1],[0]] [] with cel:=fun _=>[(1,1,900,7,53)] }
def zte:Ann:=anK [] [[1,2],[1,2,20],[4,5],[2,6,7],[2,6,7,27],[4,5],[8,9],[8,9,10],[9,10,35,36],[9,10,35,36,37],[9,10,11,12,35,36],[9,10,11,12,35,36,43],[9,10,11,12,13,35,36],[9,10,11,13,35,36,50,51,52],[9,10,11,13,35,36,50,51,52,53],[9,10,11,13,15,35,36,50,51,52],[9,10,11,13,15,17,35,36,50,51,52],[9,10,11,13,15,35,36,50,51,52,73],[9,10,11,13,35,36,50,51,52],[9,10,11,13,35,36,50,51,52],[9,10,35,36],[10],[4,5]] [(7,[(10,2,136)]),(18,[(10,2,136)])]
def ztd:Ann:=anK [] [[1,2,3],[1,2,3,7],[1,2,7,11,12,13],[1,2,7,11,12,13,14],[1,2,7,9,11,12,13],[1,2,7,9,11,12,13,26],[1,2,7,11,12,13],[1,2,7,11,12,13],[6]] [(1,[(7,8,51)]),(6,[(7,8,51)])]
def zta:Ann:=anK [9] [[0],[0,4],[0,4,11],[0,4],[0,4,18],[0,4],[0,4,5],[0,4,5,6],[0,4,5,6,27],[0,4,5,6],[0,4,5,6],[2,3]] [(1,[(4,3,95)]),(3,[(4,3,95)]),(5,[(4,3,95)]),(6,[(5,2,131)]),(10,[(5,2,131)])]
def zsN:Ann:=anK [] [[0],[0,3],[0,3,4],[0,3,4,5],[0,3,4,5,10],[0,3,4,5],[0,3,4,5],[0,3,4,5],[2]] [(1,[(3,5,67)]),(7,[(3,5,67)])]
def zsP:Ann:=anK [] [[0,1,2],[0,1,2,7],[0,1,2,7,8],[0,1,2,7,8,13],[0,1,2,7,8],[0,1,2,7,8,9],[0,1,2,7,8,9,10],[0,1,2,7,8,9,10,19],[0,1,2,7,8,9,10],[0,1,2,7,8,9,10,28],[0,1,2,7,8,9,10],[0,1,2,7,8,9,11],[0,1,2,7,8,9,11,43],[0,1,2,7,8,9,11],[0,1,2,7,8,9,11,48],[0,1,2,7,8,9,11],[6]] [(1,[(7,7,53)]),(5,[(9,3,95)]),(10,[(9,3,95)]),(15,[(7,7,53)])]
def zsO:Ann:=anK [] [[0,2],[0,2,3],[2]] []
def ze6:Ann:=anK [] [[0,1],[4]] []
def zvQ:Ann:={ anK [] [[0,1,5,6],[0,1,5,6,7],[0,6,7,8],[0,6,7,8,9],[0,6,7,8,9,20],[0,6,7,8,9],[0,6,7,8,9],[6]] [] with cel:=fun _=>[(7,1,900,1,3)] }
def zvO:Ann:={ anK [] [[0,2,3,5,8],[0,2,3,5,8,9],[0,5,8,10],[0,5,8,10,31],[8],[0,5,8,10,11],[0,8,10,11,12],[0,8,10,11,12],[0,8,10,11],[0,8,10],[8,10,72],[8,10],[8]] [] with cel:=fun _=>[(10,8,900,1,3)] }
def zzp:Ann:=anK [] [[0,3,4],[0,3,4,5],[0,3,4,5,9],[0,3,4,5],[0,3,4,5,29],[4],[4]] []
def zwE:Ann:=anK [] [[1],[33],[2],[2]] []
def zsS:Ann:=anK [] [[0],[0,4],[0,4,10],[0,4,10,12],[0,4,6,10],[0,4,6,10,17],[0,4,10],[4,28],[2,3],[4],[4,32,33],[4,32,33,34],[4,7,32,33],[4,32,33],[4,32,33],[2,3]] [(1,[(4,9,64)]),(6,[(4,9,64)])]
def zxI:Ann:={ anK [] [[1,2],[1,2,6],[1,2,6,20,21,22],[1,2,6,20,21,22,23],[1,2,6,8,20,21,22],[1,2,6,20,21,22],[1,2,6,20,21,22],[1,2,6,9],[2,6,9,38,39,40],[2,6,9,38,39,40,41],[2,6,9,11,38,39,40],[2,6,9,11,38,39,40,45],[2,6,9,11,38,39,40,45,46],[2,6,9,11,12,38,39,40],[2,6,9,11,12,38,39,40,55],[2,6,9,38,39,40],[2,6,9,11,38,39,40,45,60],[2,6,9,38,39,40],[2,6,9,11,38,39,40,70],[2,6,9,11,13,14,38,39,40],[2,6,9,11,13,14,38,39,40,80],[2,6,9,11,13,14,15,16,38,39,40],[2,6,9,11,13,14,15,38,39,40,88],[2,6,9,38,39,40],[2,6,9,38,39,40],[2,6,9,38,39,40],[4,5]] [] with cel:=fun _=>[(33,1,301,10,133),(33,6,302,1,0),(33,7,1000,1,0),(33,13,303,12,61)] }
def zpy:Ann:=anK [] [[0,1],[0,1,5],[0,1,5,12,13,14],[0,1,5,12,13,14,15],[0,1,5,7,12,13,14],[0,1,5,7,12,13,14,32],[0,1,5,12,13,14],[0,1,5,12,13,14],[4]] []
def zdB:Ann:=anK [] [[0,1,4],[]] []
def zch:Ann:=anK [] [[2,3],[4]] []
def zuC:Ann:={ anK [] [[0],[0,4,5],[0,4,5,6],[0,4,5,6,7],[0,4,5,6,7,20],[0,4,5,6,7],[0,4,5,6,7,8],[0,4,5,6,7,8,9,10],[0,4,5,6,7,53],[0,4,5,6,7,11],[0,4,5,6,7,11],[0,4,5,6,7],[6,68],[2,3],[2,3]] [(2,[(6,9,64)]),(11,[(6,9,64)])] with fz:=atReg [(10,[60])],cel:=fun _=>[(11,8,900,1,3)] }
def zzq:Ann:=anK [] [[2,3],[2,3,5],[2,3,5,10],[2,3,5],[2,3,5,20],[4],[4]] []
def zqR:Ann:=anK [] [[1,2,3],[4]] []
def zyN:Ann:=anK [] [[0,3],[0,3,6],[0,3,6,10],[0,3,6],[0,3,6,30],[4,5],[4,5]] []
def zzu:Ann:=anK [] [[1,2],[4]] []
def zuB:Ann:=anK [] [[2,3,4,5],[2,3,4,24],[8],[2,3,4,9],[3,9,37],[8],[8]] []
def zzn:Ann:=anK [] [[0],[0,3],[3,6,7,8],[3,6,7,8,9],[3,5,6,7,8],[3,5,6,7,8,14],[2],[3,6,7,8],[2]] []
def zut:Ann:=anK [] [[0,1],[0,1,5],[0,1,5,6],[0,1,6,11],[12],[4],[4],[0,1,13],[4],[0,1,16],[4],[19],[4],[4]] []
def zkO:Ann:=anK [] [[0],[0,8],[2],[0,3],[0,3,13],[0,3],[0,3,25],[0,3,4],[0,3,4,5],[0,3,4,5,32],[0,3,4,5],[0,3,4,5,44],[0,3,4,5],[0,3,4,5],[0,3],[2],[2]] []
def zuv:Ann:={ anK [14] [[0,1,2,6],[0,6,7],[0,6,7,18],[0,6,7],[0,6,7,32],[6,7],[6]] [] with cel:=fun _=>[(7,2,900,6,98)] }
def ztb:Ann:=anK [] [[0,3,4],[0,3,4,5],[0,3,4,5,16],[4,5],[4]] []
def ztc:Ann:={ anK [30] [[0,2,4,6],[0,4,6,7],[0,4,6,7,8],[0,4,6,7,8,36],[0,4,6,7,8],[0,4,6,7,8,9],[0,4,6,7,8,9,45],[0,4,6,7,8,9],[0,4,6,7,8],[6]] [] with cel:=fun _=>[(7,6,900,1,3)] }
def zxG:Ann:=anK [] [[0],[0,7],[2],[0,8,9,10],[0,8,9,10,11],[0,3,4,8,9,10],[0,3,4,8,9,10,17],[2],[0,8,9,10,36],[2],[0,8,9,10],[2]] []
def zqQ:Ann:=anK [] [[0],[0,7],[2],[0,8,9,10],[0,8,9,10,11],[0,3,4,8,9,10],[0,3,4,8,9,10,48],[2],[0,3,4,8,9,10,63],[2],[0,8,9,10,76],[2],[0,8,9,10],[2]] []
def zqS:Ann:=anK [] [[1],[1,17],[2],[1,19,20,21],[1,19,20,21,22],[1,3,4,19,20,21],[1,19,20,21,33],[2],[1,19,20,21],[2]] []
def zp7:Ann:=anK [] [[1],[1,10,11,12],[1,10,11,12,13],[1,4,10,11,12],[1,4,5,6,10,11,12],[1,4,5,10,11,12,23],[2],[1,8,10,11,12],[1,10,11,12,41],[2],[1,10,11,12],[2]] []
def zrL:Ann:=anK [] [[1],[1,10],[2],[1,12,13,14],[1,12,13,14,15],[1,3,4,12,13,14],[1,4,12,13,14,32],[2],[1,4,5,6,12,13,14],[1,12,13,14,52],[2],[1,12,13,14],[2]] []
def zwH:Ann:=anK [] [[1],[34],[2],[2]] []
def zvR:Ann:=anK [] [[0],[0,3],[0,3,10,11,12],[0,3,10,11,12,13],[0,3,4,5,10,11,12],[0,3,4,5,10,11,12,19],[0,3,4,5,6,10,11,12],[0,3,4,5,6,7,8,10,11,12],[0,3,4,5,6,7,10,11,12,29],[0,3,6,7,10,11,12],[0,3,6,7,10,11,12,39],[0,3,6,7,10,11,12],[0,3,10,11,12],[0,3,10,11,12],[2]] []
def zwG:Ann:=anK [] [[1,2],[1,2],[2]] []
def zo2:Ann:={ anK [] [[0,3],[0,3,10],[0,3,4],[0,3],[0,3],[0],[0],[0],[]] [] with cel:=fun _=>[(1000,1,900,10,133),(1000,6,901,1,0),(1000,7,1000,1,0),(1000,13,902,12,61)] }
def zrI:Ann:=anK [] [[0,4,5],[4,5,7],[4,5,7,8,9],[4,5,7,8,39],[6,7],[4,5,6,7,8,9],[4,5,6,7,8,78],[6,7],[5,6,7,8,99],[6,7],[6,7,105],[6,7],[6,7]] []
def zo3:Ann:=anK [] [[1,2,4],[1,4,9,10,11],[1,4,9,10,11,12],[1,4,7,9,10,11],[1,4,7,9,10,11,18],[4,5],[1,4,9,10,11],[4,5]] []
def zsR:Ann:={ anK [] [[0,6,7,8,9],[0,6,7,8,9,10],[0,6,7,8,9,10,12],[0,6,7,8,9,10,36],[0,6,7,8,9],[0,6,7,8,9,13,14],[0,6,8,9,13,14,45,46,47],[0,6,8,9,13,14,45,46,47,48],[0,6,8,9,13,14,15,16,45,46,47],[0,6,8,9,13,14,15,45,46,47,54],[0,6,8,9,13,14,15,17,18,45,46,47],[0,6,8,9,13,14,15,17,45,46,47,68],[0,6,8,9,13,14,17,45,46,47],[0,6,8,9,13,14,45,46,47],[0,6,8,9,13,14,45,46,47],[0,6,9,19],[0,9,19,20,21],[0,9,19,20,99],[0,9,19,20],[0,9,19,104],[],[0,9,114],[]] [(5,[(13,1,3),(14,1,3)]),(12,[(13,1,3)]),(13,[(14,1,3)])] with cel:=fun _=>[(1000,1,900,10,133),(1000,6,901,1,0),(1000,7,1000,1,0),(1000,13,902,12,61)] }
def zrJ:Ann:=anK [] [[0,3],[0,3,11,12,13],[0,3,11,12,13,14],[0,3,6,11,12,13],[0,3,7,8,11,12,13],[0,3,11,12,13,33],[4],[0,3,11,12,13],[4]] []
def zd8:Ann:=anK [] [[0,1,2,3,4,10],[0,1,2,3,4,10,11],[0,1,2,3,4,10,11,12],[0,1,2,3,4,10,11,12,25],[],[0,1,2,3,4,10,11,12,32],[],[0,1,2,3,4,10,11,12,39],[0,1,2,3,4,10,11,12],[0,1,2,3,4,10,11,12],[0,1,2,3,4,10,11,12,13,14],[0,1,2,3,4,10,11,12,13,14,56],[0,1,2,3,4,10,11,12,13],[0,1,2,3,4,10,11,12,13],[0,1,2,3,4,10,11,12,13,14],[0,1,2,3,4,10,11,12,13,75],[0,1,2,3,4,10,11,12,13,80],[0,1,2,3,4,10,11,12,13,97],[0,2,3,4,10,11,15],[0,1,2,3,4,10,11],[0,1,2,3,4,12,16,17],[0,1,2,3,4,11,12,16],[0,1,2,3,4,11,12,16,18,19],[0,1,2,3,4,11,16,18,19,20],[0,1,2,3,4,11,16,18,19,20,125],[0,1,2,3,4,10,11,16],[0,2,3,4,10,11,16],[0,1,2,3,4,10,11],[0,1,2,3,4,10,11,16],[0,1,3,4,10,11,16],[0,1,2,3,4,10,11]] []
def a_bits_Len:Ann:=anK [] [[0],[2],[2]] []
def zvS:Ann:=anK [] [[0],[0,4,5],[0,4,5,6],[0,4,5,6,15],[0,4,5,6],[0,4,5,6,23],[0,4,5,6,7],[0,4,5,6,7,8,9],[0,4,5,6,7,8,44],[0,4,5,6],[0,4,5,6,7,57],[0,4,5,6],[2,3]] []
def zzs:Ann:=anK [] [[0],[0,10],[2],[3,4],[3,4,5],[3,4,5,6,7],[3,4,5,6,7,34],[3,4,5,6,7,56],[3,4,5,6,7],[3,4,5,6,7],[3,4,5,6,7],[3,4,5,6,7],[2]] [(0,[(2,9,64)]),(2,[(2,9,64)]),(4,[(5,9,64)]),(8,[(5,9,64)]),(10,[(5,9,64)]),(12,[(2,9,64)])]
def zcz:Ann:=anK [] [[0,1],[0,1,7,8],[0,1,7,8,9],[0,1,5,7,8],[0,1,5,7,8,16],[4],[0,1,7,8],[4]] []
def zyM:Ann:=anK [] [[2,3],[2,3,5],[2,3,5,27],[4],[2,3,5,6],[2,3,5,6,30],[2,3,5,6],[2,3,5,6,46],[4],[2,3,5,6,7],[2,3,5,6,7,54],[2,3,5,6,7],[2,3,5,6,7,106],[4],[4]] []
def zrH:Ann:=anK [] [[1],[1,40],[2],[2]] []
def zwD:Ann:=anK [] [[0],[0,3],[0,3,7],[0,3],[0,3,19],[2],[2]] []
def zxL:Ann:=anK [] [[2,3],[2,3,27],[4],[3,29,30,31],[3,29,30,31,32],[3,5,6,29,30,31],[3,29,30,31,52],[4],[3,29,30,31],[4]] []
def zuy:Ann:=anK [] [[2,3],[3,9,10,11],[3,9,10,11,12],[3,6,7,9,10,11],[3,6,9,10,11,27],[4,5],[3,9,10,11],[4,5]] []
def zwI:Ann:=anK [] [[2,3,4],[2,3,4,17],[6,7],[2,3,4,23],[6,7],[2,3,4,25,26,27],[2,3,4,25,26,27,28],[2,3,4,8,9,25,26,27],[2,3,4,9,10,25,26,27],[2,3,4,25,26,27,56],[6,7],[2,3,4,25,26,27],[2,3,4,11],[2,4,11,63,64,65],[2,4,11,63,64,65,66],[2,4,11,12,13,63,64,65],[2,4,11,12,13,63,64,65,70],[2,4,11,63,64,65],[2,4,11,12,13,63,64,65,77],[2,4,11,63,64,65],[2,4,11,12,63,64,65,94],[2,4,11,63,64,65],[2,4,11,63,64,65],[6,7]] []
def zux:Ann:=anK [] [[1,2],[2,6,7],[2,6,15],[4,5],[4,5]] []
def zrK:Ann:=anK [] [[1,2],[1,2,12],[4],[1,14,15,16],[1,14,15,16,17],[1,5,6,14,15,16],[1,14,15,16,34],[4],[1,14,15,16],[4]] []
def zwF:Ann:=anK [] [[1],[1,16],[2],[1,18],[1,18,19],[2],[1,18,23],[2],[1,60],[2],[2]] []
def ztf:Ann:=anK [] [[1,2],[2]] []
def zp8:Ann:=anK [5] [[0],[0,4],[2],[2]] [(0,[(2,1,3)]),(2,[(2,1,3)]),(3,[(2,1,3)])]
def zti:Ann:=anK [] [[2,3,4,5],[8]] []
def zxJ:Ann:=anK [] [[1,2,3],[1,2,3,29],[6],[1,2,3,7,8],[1,2,3,7,8,31,32],[1,2,3,7,8,31,32,33],[1,2,3,7,8,9,31,32],[1,2,3,7,8,10,11,31,32],[1,2,3,7,8,10,11,31,32,50],[6],[1,2,3,7,8,31,32],[1,2,3,7,8,31,32],[6]] []
def zxK:Ann:=anK [] [[2,3,4,6],[2,3,4,6,12],[6,7],[2,3,4,6,15],[6,7],[3,6,8],[3,6,8,27],[3,6,8],[6,7]] [(5,[(8,1,4)]),(7,[(8,1,4)])]
def zp6:Ann:={ anK [] [[0,1,5],[0,6],[0,6,19],[0,6],[0,6],[0,6,7],[0,6,7,46],[0,6,7],[0,6,7,65],[0,6,7]] [] with cel:=fun _=>[(1000,1,900,10,133),(1000,6,901,1,0),(1000,7,1000,1,0),(1000,13,902,12,61)] }
def zdk:Ann:=anK [] [[0,1,2,3,8],[0,1,2,3,8,14],[0,1,2,3,8],[0,1,2,3,8,9],[0,1,2,3,8,9,34],[0,1,2,3,8,9],[0,1,2,3,8,9]] []
def zdU:Ann:=anK [] [[0,1,2,3,8],[0,1,2,3,8,9],[0,3,8,9,10],[0,3,8,9,10,11],[0,3,8,9,10,11,21],[0,3,8,9,10,11],[0,3,8,9,10,11],[0,3,8,9,12],[0,3,8,9,12,33],[0,3,8,9,12],[0,3,8,9,12],[0,3,8,9,12]] []
def zdj:Ann:=anK [] [[0,1,8],[0,1,8,17],[0,1,8,9],[0,1,8,9,10],[0,1,8,9,10,11],[0,1,8,9,10,11,35],[0,1,8,9,10,11],[0,1,8,9,10,11,12],[0,1,8,9,10,11,12,45],[0,1,8,9,10,11,12],[0,1,8,9,10,11]] []
def zdC:Ann:=anK [] [[0,1,2,3],[0,1,3,10],[0,1,3,10,11],[0,1,3,10,11,12],[0,1,3,10,11,12,13],[0,3,10,11,12,13,14],[0,3,10,11,12,13,14,34],[0,3,11,12,13,14,36],[0,3,11,12,13,14],[0,3,11,12,13,14],[0,3,11,12,13,14],[11,13],[13,55],[8,9],[13,55,57],[8,9],[13,60],[8,9]] []
def zdt:Ann:=anK [] [[0,2,8],[0,8,9],[0,8,9,15],[0,8,9],[0,8,9],[0,8,9]] []
def zcE:Ann:=anK [] [[0,1,2,3],[0,1,2,3,9],[0,1,2,3,9,10],[0,1,2,3,9,10,16],[0,1,2,3,9,10],[0,1,2,3,9,10,36],[0,1,2,3,9,10],[0,1,2,3,9,10,41],[8],[0,1,2,3,9,10,45],[8],[0,1,2,3,9,10],[0,1,2,3,9,10,65],[0,1,2,3,9,10,11],[0,1,2,3,9,10,11,69],[0,1,2,3,9,10,11],[0,1,2,3,9,10,11,84],[0,1,2,3,9,10,11],[0,1,2,3,9,10,104],[0,1,2,3,9,10,12],[0,1,2,3,9,10,12,109],[0,1,2,3,9,10,12],[0,1,2,3,9,10,12,124],[0,1,2,3,9,10,12],[8]] []
def zde:Ann:=anK [] [[0,1,2,3,4],[0,1,2,4],[0,1,4,11,12],[0,1,4,11,12,47],[0,1,4,11,12],[0,1,4,11,12,65],[0,1,4,11,12],[0,1,4,11,12,70],[0,1,4,11,12],[0,1,4,11,12],[0,1,4,11,12],[10]] []
def zdL:Ann:=anK [] [[0,1,2,3,4],[0,1,2,4],[0,1,4,12,13],[0,1,4,12,13,47],[0,1,4,12,13],[0,1,4,12,13,66],[0,1,4,12,13],[0,1,4,12,13,71],[13],[10,11],[0,1,4,12,13],[0,1,4,12,13],[0,1,4,12,13],[0,1,4,12,13,120],[0,1,4,12,13],[0,1,4,12,13,139],[0,1,4,12,13],[0,1,4,12,13,144],[0,1,4,12,13],[0,1,4,12,13],[0,1,4,12,13],[13],[10,11]] []
def zzl:Ann:=anK [] [[0,2],[0,2,4],[0],[0,2],[0,2,8],[0,2],[0,2],[2]] []
def zzm:Ann:=anK [] [[0,2],[0,2,4],[0],[0,2],[0,2,8],[0,2],[0,2],[0,2,14],[0,2],[0,2],[2]] []
def zyO:Ann:=anK [] [[1],[1,19],[2],[1,3],[1,3,24],[1,3],[1,3,33],[2],[1,35],[1,35,36],[2],[1,35,57],[2],[1,89],[2],[2]] []
def ztg:Ann:=anK [] [[1],[1,34],[2],[1,3],[1,3,4],[1,3,4,39],[1,3,4],[1,3,4,48],[2],[1,3,4],[2]] []
def zuu:Ann:=anK [] [[1],[1,22],[2],[1,32],[2],[1,34,35,36],[1,34,35,36,37],[1,4,34,35,36],[1,34,35,36,42],[2],[1,34,35,36],[2]] []
def ztk:Ann:=anK [] [[1,2],[1,2,9],[4],[1,2,13,14,15],[1,2,13,14,15,16],[1,2,5,6,13,14,15],[1,2,13,14,15,40],[4],[1,2,13,14,15],[4]] []
def zwJ:Ann:=anK [] [[0],[3],[3,4],[3,4],[4],[2],[2]] []
def zvT:Ann:=anK [] [[1,2,3],[1,2,3,9],[6],[6]] []
def zsA:Ann:=anK [] [[1],[2]] []
def zsT:Ann:=anK [] [[1],[1,37],[2],[2]] []
def zyL:Ann:=anK [] [[0,1,4],[1,4,8,9,10],[1,4,8,9,10,11],[1,4,7,8,9,10],[1,4,7,8,9,10,17],[4,7],[4,5],[1,4,8,9,10],[4,5]] []
def ztj:Ann:=anK [] [[1,2],[1,2,6],[4],[1,2,9],[4],[4]] []
def zo5:Ann:=anK [5] [[0],[0,4],[2],[2]] [(0,[(2,1,4)]),(2,[(2,1,4)]),(3,[(2,1,4)])]
def zuz:Ann:=anK [] [[1,2],[1,2,5],[2,5,8,9,10],[2,5,8,9,10,11],[2,5,7,8,9,10],[2,5,8,9,10,15],[2,5,8,9,10],[2,5,8,9,10],[4]] []
def zdV:Ann:=anK [] [[0,2,3,4,10],[0,2,3,4,10,11],[0,2,3,4,10,11,18],[0,2,3,4,10,11,40],[0,2,3,4,10,11],[0,2,3,4,10,11,58],[0,2,3,4,11],[0,2,3,4,10]] []
def zp9:Ann:=anK [] [[0],[0],[0],[0],[2]] []
def zdd:Ann:=anK [] [[0,1,2,3],[8]] []
def zeh:Ann:=anK [] [[0,1,2,3,4,5],[0,1,2,3,4,5],[0,1,2,4,5],[2],[12]] []
def a_ref28_in:Ann:=anK [] [[0,1,2],[6]] []
def zuA:Ann:=anK [] [[1],[1,30],[2],[1,33],[2],[2]] []
def zvL:Ann:=anK [] [[1],[1,30],[2],[1,32],[1,32,33],[2],[1,43],[2],[2]] []
def zwC:Ann:=anK [] [[0],[0,3],[3,6,7,8],[3,6,7,8,9],[3,5,6,7,8],[3,6,7,8],[3,6,7,8],[2]] []
def zei:Ann:=anK [] [[0,1,2,3,4],[1,2,3,22],[1,2],[10,11],[10,11]] []
def aNone:Ann:={ lits:=[],live:=fun _=>none,own:=fun _=>[] }
def annTab:List Ann:=[aNone,aNone,aNone,zrE,zsM,zrD,zrF,zp5,zoe,zd7,zzo,zd7,zuw,zs9,zvN,zxH,zrG,zvM,zzv,zqT,zth,zo4,zsQ,zzr,zuD,zzt,zvP,zsz,zxF,a_law29_at,zyK,zte,ztd,zta,zsN,zsP,zsO,ze6,zvQ,zvO,zzp,zwE,zsS,zxI,zpy,zdB,zch,zuC,zqT,zzq,ze6,zqR,zch,zyN,zzu,zuB,zdB,zch,zzn,zut,zkO,zuv,ztb,ze6,ztc,zxG,zqQ,zqS,zp7,zrL,zwH,zvR,zdB,zch,zwG,zo2,zrI,zo3,zsR,zrJ,zd8,a_bits_Len,zvS,zzs,zcz,zyM,zd8,zd7,zrH,zwD,zd7,zxL,zuy,zwI,zux,zrK,zd7,zwF,ztf,zch,zd8,zp8,zo3,zo4,zti,zsz,zxJ,zxK,zp6,zdk,zdU,zdj,zdC,zdt,zcE,zde,zdL,zzl,zzm,zyO,zch,zch,ztg,zdk,zdU,zdj,zdC,zdt,zcE,zde,zdL,ze6,zd7,zuu,ztk,zwJ,zvT,zsA,zsT,zdk,zdU,zdj,zdC,zdt,zcE,zde,zdL,zyL,zch,ztj,zd7,ze6,zch,zo5,zuz,zdV,zd7,zp9,zdd,zeh,zsA,a_ref28_in,zuA,zdV,zdd,zeh,zcz,zvL,zwC,ze6,zd7,zdV,zdd,zeh,zd7,zei,zei,zcz,zei,aNone,aNone,aNone,aNone,aNone,aNone,aNone,aNone,aNone,aNone,aNone,aNone,aNone,aNone,aNone,aNone]
def zA:AnnF:=fun f=>annTab.getD f aNone
def zam:Bool→AV×Mem:=(r1 vBool).enc
abbrev zad:RD:={ α:=Bool,enc:=zam,dec:=(r1 vBool).dec,ok:=(r1 vBool).ok,de:=(r1 vBool).de }
def zqu:zae→AV×Mem:=(r1 (vNewp 2 zag zaW)).enc
abbrev znn:RD:={ α:=zae,enc:=zqu,dec:=(r1 (vNewp 2 zag zaW)).dec,ok:=(r1 (vNewp 2 zag zaW)).ok,de:=(r1 (vNewp 2 zag zaW)).de }
def zhy:(zay×zae)→AV×Mem:=(r1M (vAgg zhE) (mBox 1000 2 zag zaW)).enc
abbrev zhz:RD:={ α:=zay×zae,enc:=zhy,dec:=(r1M (vAgg zhE) (mBox 1000 2 zag zaW)).dec,ok:=(r1M (vAgg zhE) (mBox 1000 2 zag zaW)).ok,de:=(r1M (vAgg zhE) (mBox 1000 2 zag zaW)).de }
def zgW:(((List zab))×zae)→AV×Mem:=(r1M (vNew 9 zac zaB) (mBox 1000 2 zag zaW)).enc
abbrev zfz:RD:={ α:=((List zab))×zae,enc:=zgW,dec:=(r1M (vNew 9 zac zaB) (mBox 1000 2 zag zaW)).dec,ok:=(r1M (vNew 9 zac zaB) (mBox 1000 2 zag zaW)).ok,de:=(r1M (vNew 9 zac zaB) (mBox 1000 2 zag zaW)).de }
def zm8:((zbw×Int)×(List zab))→AV×Mem:=(rTM (lCons (vAgg zgG) (lOne (vI .i64))) (mRow 1001 9 zac zaB)).enc
abbrev zb3:RD:={ α:=(zbw×Int)×(List zab),enc:=zm8,dec:=(rTM (lCons (vAgg zgG) (lOne (vI .i64))) (mRow 1001 9 zac zaB)).dec,ok:=(rTM (lCons (vAgg zgG) (lOne (vI .i64))) (mRow 1001 9 zac zaB)).ok,de:=(rTM (lCons (vAgg zgG) (lOne (vI .i64))) (mRow 1001 9 zac zaB)).de }
def zsp:(((List zab))×zae×(List zab))→AV×Mem:=(r1M (vNew 9 zac zaB) (mApp (mBox 1000 2 zag zaW) (mRow 1001 9 zac zaB) (fun _ _=>rfl))).enc
abbrev zsq:RD:={ α:=((List zab))×zae×(List zab),enc:=zsp,dec:=(r1M (vNew 9 zac zaB) (mApp (mBox 1000 2 zag zaW) (mRow 1001 9 zac zaB) (fun _ _=>rfl))).dec,ok:=(r1M (vNew 9 zac zaB) (mApp (mBox 1000 2 zag zaW) (mRow 1001 9 zac zaB) (fun _ _=>rfl))).ok,de:=(r1M (vNew 9 zac zaB) (mApp (mBox 1000 2 zag zaW) (mRow 1001 9 zac zaB) (fun _ _=>rfl))).de }
def zwi:((List zab))→AV×Mem:=(r1 (vSl 9 zaB)).enc
abbrev zwm:RD:={ α:=(List zab),enc:=zwi,dec:=(r1 (vSl 9 zaB)).dec,ok:=(r1 (vSl 9 zaB)).ok,de:=(r1 (vSl 9 zaB)).de }
def zkw:(zaN×Bool)→AV×Mem:=(rT (lCons (vAgg zb8) (lOne vBool))).enc
abbrev zff:RD:={ α:=zaN×Bool,enc:=zkw,dec:=(rT (lCons (vAgg zb8) (lOne vBool))).dec,ok:=(rT (lCons (vAgg zb8) (lOne vBool))).ok,de:=(rT (lCons (vAgg zb8) (lOne vBool))).de }
def zg0:((List Int)×Bool)→AV×Mem:=(rT (lCons (vSl 1 zaX) (lOne vBool))).enc
abbrev zg6:RD:={ α:=(List Int)×Bool,enc:=zg0,dec:=(rT (lCons (vSl 1 zaX) (lOne vBool))).dec,ok:=(rT (lCons (vSl 1 zaX) (lOne vBool))).ok,de:=(rT (lCons (vSl 1 zaX) (lOne vBool))).de }
def zii:(Int×zae)→AV×Mem:=(r1M (vI .i64) (mBox 1000 2 zag zaW)).enc
abbrev zaZ:RD:={ α:=Int×zae,enc:=zii,dec:=(r1M (vI .i64) (mBox 1000 2 zag zaW)).dec,ok:=(r1M (vI .i64) (mBox 1000 2 zag zaW)).ok,de:=(r1M (vI .i64) (mBox 1000 2 zag zaW)).de }
def zku:zab→AV×Mem:=(r1 (vAgg zaB)).enc
abbrev zeK:RD:={ α:=zab,enc:=zku,dec:=(r1 (vAgg zaB)).dec,ok:=(r1 (vAgg zaB)).ok,de:=(r1 (vAgg zaB)).de }
def zn0:zay→AV×Mem:=(r1 (vAgg zhE)).enc
abbrev zgC:RD:={ α:=zay,enc:=zn0,dec:=(r1 (vAgg zhE)).dec,ok:=(r1 (vAgg zhE)).ok,de:=(r1 (vAgg zhE)).de }
def zj5:(((List GTask)×Int)×(List zab))→AV×Mem:=(rTM (lCons (vSl 2 zc3) (lOne (vI .i64))) (mRow 1001 9 zac zaB)).enc
abbrev zfB:RD:={ α:=((List GTask)×Int)×(List zab),enc:=zj5,dec:=(rTM (lCons (vSl 2 zc3) (lOne (vI .i64))) (mRow 1001 9 zac zaB)).dec,ok:=(rTM (lCons (vSl 2 zc3) (lOne (vI .i64))) (mRow 1001 9 zac zaB)).ok,de:=(rTM (lCons (vSl 2 zc3) (lOne (vI .i64))) (mRow 1001 9 zac zaB)).de }
def zgY:((List zbp))→AV×Mem:=(r1 (vNew 8 zaO zb1)).enc
abbrev zfA:RD:={ α:=(List zbp),enc:=zgY,dec:=(r1 (vNew 8 zaO zb1)).dec,ok:=(r1 (vNew 8 zaO zb1)).ok,de:=(r1 (vNew 8 zaO zb1)).de }
def zfy:(((List zaE)×(List zbr))×zae)→AV×Mem:=(rTM (lCons (vSl 3 zb6) (lOne (vSl 2 zdu))) (mBox 1000 2 zag zaW)).enc
abbrev zg2:RD:={ α:=((List zaE)×(List zbr))×zae,enc:=zfy,dec:=(rTM (lCons (vSl 3 zb6) (lOne (vSl 2 zdu))) (mBox 1000 2 zag zaW)).dec,ok:=(rTM (lCons (vSl 3 zb6) (lOne (vSl 2 zdu))) (mBox 1000 2 zag zaW)).ok,de:=(rTM (lCons (vSl 3 zb6) (lOne (vSl 2 zdu))) (mBox 1000 2 zag zaW)).de }
def zgp:(((List zaU))×zae)→AV×Mem:=(r1M (vNew 5 zcX zcA) (mBox 1000 2 zag zaW)).enc
abbrev zgr:RD:={ α:=((List zaU))×zae,enc:=zgp,dec:=(r1M (vNew 5 zcX zcA) (mBox 1000 2 zag zaW)).dec,ok:=(r1M (vNew 5 zcX zcA) (mBox 1000 2 zag zaW)).ok,de:=(r1M (vNew 5 zcX zcA) (mBox 1000 2 zag zaW)).de }
def zgq:(((List zaN))×zae)→AV×Mem:=(r1M (vNew 7 zcg zb8) (mBox 1000 2 zag zaW)).enc
abbrev zgt:RD:={ α:=((List zaN))×zae,enc:=zgq,dec:=(r1M (vNew 7 zcg zb8) (mBox 1000 2 zag zaW)).dec,ok:=(r1M (vNew 7 zcg zb8) (mBox 1000 2 zag zaW)).ok,de:=(r1M (vNew 7 zcg zb8) (mBox 1000 2 zag zaW)).de }
def zja:(za2×zae)→AV×Mem:=(r1M (vAgg ziD) (mBox 1000 2 zag zaW)).enc
abbrev zgs:RD:={ α:=za2×zae,enc:=zja,dec:=(r1M (vAgg ziD) (mBox 1000 2 zag zaW)).dec,ok:=(r1M (vAgg ziD) (mBox 1000 2 zag zaW)).ok,de:=(r1M (vAgg ziD) (mBox 1000 2 zag zaW)).de }
def zlx:(Bool×zae)→AV×Mem:=(r1M vBool (mBox 1000 2 zag zaW)).enc
abbrev zdI:RD:={ α:=Bool×zae,enc:=zlx,dec:=(r1M vBool (mBox 1000 2 zag zaW)).dec,ok:=(r1M vBool (mBox 1000 2 zag zaW)).ok,de:=(r1M vBool (mBox 1000 2 zag zaW)).de }
def zij:(GSeed×zae)→AV×Mem:=(r1M (vAgg zeq) (mBox 1000 2 zag zaW)).enc
abbrev zim:RD:={ α:=GSeed×zae,enc:=zij,dec:=(r1M (vAgg zeq) (mBox 1000 2 zag zaW)).dec,ok:=(r1M (vAgg zeq) (mBox 1000 2 zag zaW)).ok,de:=(r1M (vAgg zeq) (mBox 1000 2 zag zaW)).de }
def zwj:(zab×zae)→AV×Mem:=(r1M (vAgg zaB) (mBox 1000 2 zag zaW)).enc
abbrev zwn:RD:={ α:=zab×zae,enc:=zwj,dec:=(r1M (vAgg zaB) (mBox 1000 2 zag zaW)).dec,ok:=(r1M (vAgg zaB) (mBox 1000 2 zag zaW)).ok,de:=(r1M (vAgg zaB) (mBox 1000 2 zag zaW)).de }
def zml:zaE→AV×Mem:=(r1 (vAgg zb6)).enc
abbrev zj6:RD:={ α:=zaE,enc:=zml,dec:=(r1 (vAgg zb6)).dec,ok:=(r1 (vAgg zb6)).ok,de:=(r1 (vAgg zb6)).de }
def zbf:Int→AV×Mem:=(r1 (vI .i64)).enc
abbrev zaK:RD:={ α:=Int,enc:=zbf,dec:=(r1 (vI .i64)).dec,ok:=(r1 (vI .i64)).ok,de:=(r1 (vI .i64)).de }
def zdw:(((List zab)×Int)×(List zab))→AV×Mem:=(rTM (lCons (vSl 9 zaB) (lOne (vI .i64))) (mRow 1000 9 zac zaB)).enc
abbrev ze3:RD:={ α:=((List zab)×Int)×(List zab),enc:=zdw,dec:=(rTM (lCons (vSl 9 zaB) (lOne (vI .i64))) (mRow 1000 9 zac zaB)).dec,ok:=(rTM (lCons (vSl 9 zaB) (lOne (vI .i64))) (mRow 1000 9 zac zaB)).ok,de:=(rTM (lCons (vSl 9 zaB) (lOne (vI .i64))) (mRow 1000 9 zac zaB)).de }
def zcF:((List (zar×zab)))→AV×Mem:=(r1 (vNewm zbH zcv)).enc
abbrev zdS:RD:={ α:=(List (zar×zab)),enc:=zcF,dec:=(r1 (vNewm zbH zcv)).dec,ok:=(r1 (vNewm zbH zcv)).ok,de:=(r1 (vNewm zbH zcv)).de }
def zdD:((List zbp))→AV×Mem:=(r0M (mRow 1000 8 zaO zb1)).enc
abbrev zbl:RD:={ α:=(List zbp),enc:=zdD,dec:=(r0M (mRow 1000 8 zaO zb1)).dec,ok:=(r0M (mRow 1000 8 zaO zb1)).ok,de:=(r0M (mRow 1000 8 zaO zb1)).de }
def zeT:((List zab)×Int)→AV×Mem:=(rT (lCons (vSl 9 zaB) (lOne (vI .i64)))).enc
abbrev zfQ:RD:={ α:=(List zab)×Int,enc:=zeT,dec:=(rT (lCons (vSl 9 zaB) (lOne (vI .i64)))).dec,ok:=(rT (lCons (vSl 9 zaB) (lOne (vI .i64)))).ok,de:=(rT (lCons (vSl 9 zaB) (lOne (vI .i64)))).de }
def zhL:(zaU×Bool)→AV×Mem:=(rT (lCons (vAgg zcA) (lOne vBool))).enc
abbrev zhN:RD:={ α:=zaU×Bool,enc:=zhL,dec:=(rT (lCons (vAgg zcA) (lOne vBool))).dec,ok:=(rT (lCons (vAgg zcA) (lOne vBool))).ok,de:=(rT (lCons (vAgg zcA) (lOne vBool))).de }
def ziH:(Int×Bool)→AV×Mem:=(rT (lCons (vI .i64) (lOne vBool))).enc
abbrev zef:RD:={ α:=Int×Bool,enc:=ziH,dec:=(rT (lCons (vI .i64) (lOne vBool))).dec,ok:=(rT (lCons (vI .i64) (lOne vBool))).ok,de:=(rT (lCons (vI .i64) (lOne vBool))).de }
def zdQ:((List GTask))→AV×Mem:=(r0M (mRow 1000 2 zbB zc3)).enc
abbrev zbo:RD:={ α:=(List GTask),enc:=zdQ,dec:=(r0M (mRow 1000 2 zbB zc3)).dec,ok:=(r0M (mRow 1000 2 zbB zc3)).ok,de:=(r0M (mRow 1000 2 zbB zc3)).de }
def zdY:(Nat×(List GTask))→AV×Mem:=(r1M (vRow 1000 2) (mRow 1000 2 zbB zc3)).enc
abbrev zcV:RD:={ α:=Nat×(List GTask),enc:=zdY,dec:=(r1M (vRow 1000 2) (mRow 1000 2 zbB zc3)).dec,ok:=(r1M (vRow 1000 2) (mRow 1000 2 zbB zc3)).ok,de:=(r1M (vRow 1000 2) (mRow 1000 2 zbB zc3)).de }
def zkU:(zaE×zae)→AV×Mem:=(r1M (vAgg zb6) (mBox 1000 2 zag zaW)).enc
abbrev zdZ:RD:={ α:=zaE×zae,enc:=zkU,dec:=(r1M (vAgg zb6) (mBox 1000 2 zag zaW)).dec,ok:=(r1M (vAgg zb6) (mBox 1000 2 zag zaW)).ok,de:=(r1M (vAgg zb6) (mBox 1000 2 zag zaW)).de }
def zj4:(zbr×zae)→AV×Mem:=(r1M (vAgg zdu) (mBox 1000 2 zag zaW)).enc
abbrev zg3:RD:={ α:=zbr×zae,enc:=zj4,dec:=(r1M (vAgg zdu) (mBox 1000 2 zag zaW)).dec,ok:=(r1M (vAgg zdu) (mBox 1000 2 zag zaW)).ok,de:=(r1M (vAgg zdu) (mBox 1000 2 zag zaW)).de }
def zgX:(zaN×zae)→AV×Mem:=(r1M (vAgg zb8) (mBox 1000 2 zag zaW)).enc
abbrev zg4:RD:={ α:=zaN×zae,enc:=zgX,dec:=(r1M (vAgg zb8) (mBox 1000 2 zag zaW)).dec,ok:=(r1M (vAgg zb8) (mBox 1000 2 zag zaW)).ok,de:=(r1M (vAgg zb8) (mBox 1000 2 zag zaW)).de }
def zdH:(((List ((Int×Int)×zba)))×(List zab))→AV×Mem:=(r1M (vNewm zbn zbS) (mRow 1000 9 zac zaB)).enc
abbrev zio:RD:={ α:=((List ((Int×Int)×zba)))×(List zab),enc:=zdH,dec:=(r1M (vNewm zbn zbS) (mRow 1000 9 zac zaB)).dec,ok:=(r1M (vNewm zbn zbS) (mRow 1000 9 zac zaB)).ok,de:=(r1M (vNewm zbn zbS) (mRow 1000 9 zac zaB)).de }
def zcL:((List zab))→AV×Mem:=(r0M (mRow 1000 9 zac zaB)).enc
abbrev za9:RD:={ α:=(List zab),enc:=zcL,dec:=(r0M (mRow 1000 9 zac zaB)).dec,ok:=(r0M (mRow 1000 9 zac zaB)).ok,de:=(r0M (mRow 1000 9 zac zaB)).de }
def zbN:zaf→AV×Mem:=(r0M zjw).enc
abbrev zck:RD:={ α:=zaf,enc:=zbN,dec:=(r0M zjw).dec,ok:=(r0M zjw).ok,de:=(r0M zjw).de }
def zeI:(Int×(Option Addr))→AV×Mem:=(rT (lCons (vI .i64) (lOne vPtr))).enc
abbrev zfX:RD:={ α:=Int×(Option Addr),enc:=zeI,dec:=(rT (lCons (vI .i64) (lOne vPtr))).dec,ok:=(rT (lCons (vI .i64) (lOne vPtr))).ok,de:=(rT (lCons (vI .i64) (lOne vPtr))).de }
def zgg:(GSeed×Bool)→AV×Mem:=(rT (lCons (vAgg zeq) (lOne vBool))).enc
abbrev zin:RD:={ α:=GSeed×Bool,enc:=zgg,dec:=(rT (lCons (vAgg zeq) (lOne vBool))).dec,ok:=(rT (lCons (vAgg zeq) (lOne vBool))).ok,de:=(rT (lCons (vAgg zeq) (lOne vBool))).de }
def zwl:((List ((Int×Int)×Int))×(List ((Int×Int)×Bool)))→AV×Mem:=(rT (lCons (vMp zeS) (lOne (vMp zfa)))).enc
abbrev zwp:RD:={ α:=(List ((Int×Int)×Int))×(List ((Int×Int)×Bool)),enc:=zwl,dec:=(rT (lCons (vMp zeS) (lOne (vMp zfa)))).dec,ok:=(rT (lCons (vMp zeS) (lOne (vMp zfa)))).ok,de:=(rT (lCons (vMp zeS) (lOne (vMp zfa)))).de }
def zzW:((List zab))→AV×Mem:=(r1 (vNew 9 zac zaB)).enc
abbrev zzX:RD:={ α:=(List zab),enc:=zzW,dec:=(r1 (vNew 9 zac zaB)).dec,ok:=(r1 (vNew 9 zac zaB)).ok,de:=(r1 (vNew 9 zac zaB)).de }
def zeJ:((List Int)×Int)→AV×Mem:=(rT (lCons (vSl 1 zaX) (lOne (vI .i64)))).enc
abbrev zjt:RD:={ α:=(List Int)×Int,enc:=zeJ,dec:=(rT (lCons (vSl 1 zaX) (lOne (vI .i64)))).dec,ok:=(rT (lCons (vSl 1 zaX) (lOne (vI .i64)))).ok,de:=(rT (lCons (vSl 1 zaX) (lOne (vI .i64)))).de }
def zgZ:((Int×Int))→AV×Mem:=(r1 (vAgg zd0)).enc
abbrev zfC:RD:={ α:=(Int×Int),enc:=zgZ,dec:=(r1 (vAgg zd0)).dec,ok:=(r1 (vAgg zd0)).ok,de:=(r1 (vAgg zd0)).de }
def zhl:((List Int))→AV×Mem:=(r1 (vNew 1 za3 zaX)).enc
abbrev zec:RD:={ α:=(List Int),enc:=zhl,dec:=(r1 (vNew 1 za3 zaX)).dec,ok:=(r1 (vNew 1 za3 zaX)).ok,de:=(r1 (vNew 1 za3 zaX)).de }
def zkv:(zcY×Int)→AV×Mem:=(rT (lCons (vAgg zq1) (lOne (vI .i64)))).enc
abbrev zky:RD:={ α:=zcY×Int,enc:=zkv,dec:=(rT (lCons (vAgg zq1) (lOne (vI .i64)))).dec,ok:=(rT (lCons (vAgg zq1) (lOne (vI .i64)))).ok,de:=(rT (lCons (vAgg zq1) (lOne (vI .i64)))).de }
def zjA:(Int×Int)→AV×Mem:=(rT (lCons (vI .i64) (lOne (vI .i64)))).enc
abbrev zdE:RD:={ α:=Int×Int,enc:=zjA,dec:=(rT (lCons (vI .i64) (lOne (vI .i64)))).dec,ok:=(rT (lCons (vI .i64) (lOne (vI .i64)))).ok,de:=(rT (lCons (vI .i64) (lOne (vI .i64)))).de }
def zgx:(Bool×(List zbp))→AV×Mem:=(r1M vBool (mRow 1000 8 zaO zb1)).enc
abbrev zgy:RD:={ α:=Bool×(List zbp),enc:=zgx,dec:=(r1M vBool (mRow 1000 8 zaO zb1)).dec,ok:=(r1M vBool (mRow 1000 8 zaO zb1)).ok,de:=(r1M vBool (mRow 1000 8 zaO zb1)).de }
def zil:(Int×(List zbp))→AV×Mem:=(r1M (vI .i64) (mRow 1000 8 zaO zb1)).enc
abbrev ziq:RD:={ α:=Int×(List zbp),enc:=zil,dec:=(r1M (vI .i64) (mRow 1000 8 zaO zb1)).dec,ok:=(r1M (vI .i64) (mRow 1000 8 zaO zb1)).ok,de:=(r1M (vI .i64) (mRow 1000 8 zaO zb1)).de }
def zkx:((Int×Bool)×(List zbp))→AV×Mem:=(rTM (lCons (vI .i64) (lOne vBool)) (mRow 1000 8 zaO zb1)).enc
abbrev zkz:RD:={ α:=(Int×Bool)×(List zbp),enc:=zkx,dec:=(rTM (lCons (vI .i64) (lOne vBool)) (mRow 1000 8 zaO zb1)).dec,ok:=(rTM (lCons (vI .i64) (lOne vBool)) (mRow 1000 8 zaO zb1)).ok,de:=(rTM (lCons (vI .i64) (lOne vBool)) (mRow 1000 8 zaO zb1)).de }
def zg1:(Bool×(List GTask))→AV×Mem:=(r1M vBool (mRow 1000 2 zbB zc3)).enc
abbrev zg7:RD:={ α:=Bool×(List GTask),enc:=zg1,dec:=(r1M vBool (mRow 1000 2 zbB zc3)).dec,ok:=(r1M vBool (mRow 1000 2 zbB zc3)).ok,de:=(r1M vBool (mRow 1000 2 zbB zc3)).de }
def ziJ:(Int×(List GTask))→AV×Mem:=(r1M (vI .i64) (mRow 1000 2 zbB zc3)).enc
abbrev ziL:RD:={ α:=Int×(List GTask),enc:=ziJ,dec:=(r1M (vI .i64) (mRow 1000 2 zbB zc3)).dec,ok:=(r1M (vI .i64) (mRow 1000 2 zbB zc3)).ok,de:=(r1M (vI .i64) (mRow 1000 2 zbB zc3)).de }
def zkV:((Int×Bool)×(List GTask))→AV×Mem:=(rTM (lCons (vI .i64) (lOne vBool)) (mRow 1000 2 zbB zc3)).enc
abbrev zkW:RD:={ α:=(Int×Bool)×(List GTask),enc:=zkV,dec:=(rTM (lCons (vI .i64) (lOne vBool)) (mRow 1000 2 zbB zc3)).dec,ok:=(rTM (lCons (vI .i64) (lOne vBool)) (mRow 1000 2 zbB zc3)).ok,de:=(rTM (lCons (vI .i64) (lOne vBool)) (mRow 1000 2 zbB zc3)).de }
def zfW:(Bool×(List zab))→AV×Mem:=(r1M vBool (mRow 1000 9 zac zaB)).enc
abbrev zfY:RD:={ α:=Bool×(List zab),enc:=zfW,dec:=(r1M vBool (mRow 1000 9 zac zaB)).dec,ok:=(r1M vBool (mRow 1000 9 zac zaB)).ok,de:=(r1M vBool (mRow 1000 9 zac zaB)).de }
def zhm:(Int×(List zab))→AV×Mem:=(r1M (vI .i64) (mRow 1000 9 zac zaB)).enc
abbrev zhn:RD:={ α:=Int×(List zab),enc:=zhm,dec:=(r1M (vI .i64) (mRow 1000 9 zac zaB)).dec,ok:=(r1M (vI .i64) (mRow 1000 9 zac zaB)).ok,de:=(r1M (vI .i64) (mRow 1000 9 zac zaB)).de }
def ziI:((Int×Bool)×(List zab))→AV×Mem:=(rTM (lCons (vI .i64) (lOne vBool)) (mRow 1000 9 zac zaB)).enc
abbrev ziK:RD:={ α:=(Int×Bool)×(List zab),enc:=ziI,dec:=(rTM (lCons (vI .i64) (lOne vBool)) (mRow 1000 9 zac zaB)).dec,ok:=(rTM (lCons (vI .i64) (lOne vBool)) (mRow 1000 9 zac zaB)).ok,de:=(rTM (lCons (vI .i64) (lOne vBool)) (mRow 1000 9 zac zaB)).de }
def zgh:((List Bool))→AV×Mem:=(r1 (vNew 1 zfi dBool)).enc
abbrev zeL:RD:={ α:=(List Bool),enc:=zgh,dec:=(r1 (vNew 1 zfi dBool)).dec,ok:=(r1 (vNew 1 zfi dBool)).ok,de:=(r1 (vNew 1 zfi dBool)).de }
def zkI:Int→AV×Mem:=(r1 (vI .u64)).enc
abbrev zdT:RD:={ α:=Int,enc:=zkI,dec:=(r1 (vI .u64)).dec,ok:=(r1 (vI .u64)).ok,de:=(r1 (vI .u64)).de }
def zk8:(Int×Int)→AV×Mem:=(r1M (vI .u64) (mBox 1000 1 zcm znA)).enc
abbrev zed:RD:={ α:=Int×Int,enc:=zk8,dec:=(r1M (vI .u64) (mBox 1000 1 zcm znA)).dec,ok:=(r1M (vI .u64) (mBox 1000 1 zcm znA)).ok,de:=(r1M (vI .u64) (mBox 1000 1 zcm znA)).de }
def zik:(Int×Int)→AV×Mem:=(r1M (vI .i64) (mBox 1002 1 za3 zaX)).enc
abbrev zdi:RD:={ α:=Int×Int,enc:=zik,dec:=(r1M (vI .i64) (mBox 1002 1 za3 zaX)).dec,ok:=(r1M (vI .i64) (mBox 1002 1 za3 zaX)).ok,de:=(r1M (vI .i64) (mBox 1002 1 za3 zaX)).de }
def zly:(Int×Int)→AV×Mem:=(r1M (vI .i64) (mBox 1004 1 za3 zaX)).enc
abbrev zem:RD:={ α:=Int×Int,enc:=zly,dec:=(r1M (vI .i64) (mBox 1004 1 za3 zaX)).dec,ok:=(r1M (vI .i64) (mBox 1004 1 za3 zaX)).ok,de:=(r1M (vI .i64) (mBox 1004 1 za3 zaX)).de }
def zlz:((Int×Int)×Int)→AV×Mem:=(rTM (lCons (vI .i64) (lOne (vI .i64))) (mBox 1003 1 za3 zaX)).enc
abbrev zen:RD:={ α:=(Int×Int)×Int,enc:=zlz,dec:=(rTM (lCons (vI .i64) (lOne (vI .i64))) (mBox 1003 1 za3 zaX)).dec,ok:=(rTM (lCons (vI .i64) (lOne (vI .i64))) (mBox 1003 1 za3 zaX)).ok,de:=(rTM (lCons (vI .i64) (lOne (vI .i64))) (mBox 1003 1 za3 zaX)).de }
def resTab:List RD:=[rRaw,rRaw,rRaw,zad,zad,zad,zad,zad,zad,zad,zad,znn,zhz,zfz,zfz,zb3,zsq,zwm,zad,zff,zg6,zad,zad,zad,zad,zad,zaZ,zad,zad,zeK,zgC,zfB,zfA,zg2,zgr,zgt,zgs,zdI,zim,zwn,zj6,zaK,ze3,zhM,zdS,zbl,zaK,zfQ,zhN,zad,zad,zad,zaK,zef,zad,zad,zbo,zaK,zaK,zaK,zcV,zdZ,zg3,zaZ,zg4,zaK,zaK,zad,zad,zad,zaK,zio,za9,zaK,zeK,zck,zfX,zin,zck,zad,zbl,zaK,zwp,zzX,zaK,zad,zbo,zad,zad,zad,zad,zad,zef,zjt,zef,zad,zad,zad,zfC,zad,za9,zec,zff,zad,zad,zad,zad,zky,zck,zbl,zbl,zbl,zdE,zbl,zgy,ziq,zkz,zaK,zaK,zad,zad,zad,zad,zbo,zbo,zbo,zdE,zbo,zg7,ziL,zkW,zad,zad,zad,zad,zad,zad,zad,zad,za9,za9,za9,zdE,za9,zfY,zhn,ziK,zhN,zad,zad,zad,zaK,zad,zeL,zad,zbl,zdT,zed,zdi,zem,zad,zad,zad,zbo,zdi,zem,zaK,zad,zaK,zad,zad,za9,zdi,zem,zad,zen,zen,zaK,zen,rRaw,rRaw,rRaw,rRaw,rRaw,rRaw,rRaw,rRaw,rRaw,rRaw,rRaw,rRaw,rRaw,rRaw,rRaw,rRaw]
def zwk:(zbw×Int)→AV×Mem:=(rT (lCons (vAgg zgG) (lOne (vI .i64)))).enc
abbrev zwo:RD:={ α:=zbw×Int,enc:=zwk,dec:=(rT (lCons (vAgg zgG) (lOne (vI .i64)))).dec,ok:=(rT (lCons (vAgg zgG) (lOne (vI .i64)))).ok,de:=(rT (lCons (vAgg zgG) (lOne (vI .i64)))).de }
def zc8:((List ((Int×Int)×zba)))→AV×Mem:=(r1 (vNewm zbn zbS)).enc
abbrev zg5:RD:={ α:=(List ((Int×Int)×zba)),enc:=zc8,dec:=(r1 (vNewm zbn zbS)).dec,ok:=(r1 (vNewm zbn zbS)).ok,de:=(r1 (vNewm zbn zbS)).de }
def zT:Dic:=Dic.of tyTab resTab [(15,zwo),(42,zfQ),(71,zg5)]
abbrev zje:Fr:=⟨Tryz.prog,zC,zA,8,Tryz.f8,[]⟩
abbrev zy9:Fr:=⟨Tryz.prog,zC,zA,9,Tryz.f9,[]⟩
abbrev zy8:Fr:=⟨Tryz.prog,zC,zA,10,Tryz.f10,[]⟩
abbrev zz3:Fr:=⟨Tryz.prog,zC,zA,11,Tryz.f11,[]⟩
abbrev zn4:Fr:=⟨Tryz.prog,zC,zA,12,Tryz.f12,[(1000,⟨0,0,[],false⟩)]⟩
abbrev zhZ:Fr:=⟨Tryz.prog,zC,zA,14,Tryz.f14,[(1000,⟨0,0,[],false⟩)]⟩
abbrev zaQ:Fr:=⟨Tryz.prog,zC,zA,15,Tryz.f15,[(1001,⟨0,0,[],false⟩)]⟩
abbrev zoT:Fr:=⟨Tryz.prog,zC,zA,18,Tryz.f18,[]⟩
abbrev znw:Fr:=⟨Tryz.prog,zC,zA,20,Tryz.f20,[]⟩
abbrev zvy:Fr:=⟨Tryz.prog,zC,zA,21,Tryz.f21,[]⟩
abbrev zsK:Fr:=⟨Tryz.prog,zC,zA,22,Tryz.f22,[]⟩
abbrev zvu:Fr:=⟨Tryz.prog,zC,zA,26,Tryz.f26,[(1000,⟨0,0,[],false⟩)]⟩
abbrev zsx:Fr:=⟨Tryz.prog,zC,zA,27,Tryz.f27,[]⟩
abbrev zqB:Fr:=⟨Tryz.prog,zC,zA,28,Tryz.f28,[]⟩
abbrev R_law29_at:Fr:=⟨Tryz.prog,zC,zA,29,Tryz.f29,[]⟩
abbrev zeo:Fr:=⟨Tryz.prog,zC,zA,31,Tryz.f31,[(1001,⟨0,0,[],false⟩)]⟩
abbrev znt:Fr:=⟨Tryz.prog,zC,zA,32,Tryz.f32,[]⟩
abbrev zgD:Fr:=⟨Tryz.prog,zC,zA,33,Tryz.f33,[(1000,⟨0,0,[],false⟩)]⟩
abbrev zmy:Fr:=⟨Tryz.prog,zC,zA,34,Tryz.f34,[(1000,⟨0,0,[],false⟩)]⟩
abbrev zgm:Fr:=⟨Tryz.prog,zC,zA,35,Tryz.f35,[(1000,⟨0,0,[],false⟩)]⟩
abbrev zsJ:Fr:=⟨Tryz.prog,zC,zA,36,Tryz.f36,[(1000,⟨0,0,[],false⟩)]⟩
abbrev zvt:Fr:=⟨Tryz.prog,zC,zA,37,Tryz.f37,[(1000,⟨0,0,[],false⟩)]⟩
abbrev zoP:Fr:=⟨Tryz.prog,zC,zA,38,Tryz.f38,[(1000,⟨0,0,[],false⟩)]⟩
abbrev zs1:Fr:=⟨Tryz.prog,zC,zA,40,Tryz.f40,[]⟩
abbrev zwt:Fr:=⟨Tryz.prog,zC,zA,41,Tryz.f41,[]⟩
abbrev zaH:Fr:=⟨Tryz.prog,zC,zA,42,Tryz.f42,[(1000,⟨0,0,[],false⟩)]⟩
abbrev zaD:Fr:=⟨Tryz.prog,zC,zA,43,Tryz.f43,[]⟩
abbrev zkC:Fr:=⟨Tryz.prog,zC,zA,44,Tryz.f44,[]⟩
abbrev zjx:Fr:=⟨Tryz.prog,zC,zA,45,Tryz.f45,[(1000,⟨0,0,[],false⟩)]⟩
abbrev zp3:Fr:=⟨Tryz.prog,zC,zA,46,Tryz.f46,[]⟩
abbrev zs5:Fr:=⟨Tryz.prog,zC,zA,48,Tryz.f48,[]⟩
abbrev zs6:Fr:=⟨Tryz.prog,zC,zA,49,Tryz.f49,[]⟩
abbrev zfM:Fr:=⟨Tryz.prog,zC,zA,50,Tryz.f50,[]⟩
abbrev zqD:Fr:=⟨Tryz.prog,zC,zA,51,Tryz.f51,[]⟩
abbrev zwz:Fr:=⟨Tryz.prog,zC,zA,52,Tryz.f52,[]⟩
abbrev zs0:Fr:=⟨Tryz.prog,zC,zA,58,Tryz.f58,[]⟩
abbrev zuo:Fr:=⟨Tryz.prog,zC,zA,59,Tryz.f59,[]⟩
abbrev zkL:Fr:=⟨Tryz.prog,zC,zA,61,Tryz.f61,[(1000,⟨0,0,[],false⟩)]⟩
abbrev zjB:Fr:=⟨Tryz.prog,zC,zA,62,Tryz.f62,[(1000,⟨0,0,[],false⟩)]⟩
abbrev zvv:Fr:=⟨Tryz.prog,zC,zA,63,Tryz.f63,[(1000,⟨0,0,[],false⟩)]⟩
abbrev zns:Fr:=⟨Tryz.prog,zC,zA,64,Tryz.f64,[(1000,⟨0,0,[],false⟩)]⟩
abbrev zqC:Fr:=⟨Tryz.prog,zC,zA,65,Tryz.f65,[]⟩
abbrev zlC:Fr:=⟨Tryz.prog,zC,zA,66,Tryz.f66,[]⟩
abbrev zlD:Fr:=⟨Tryz.prog,zC,zA,67,Tryz.f67,[]⟩
abbrev zkY:Fr:=⟨Tryz.prog,zC,zA,68,Tryz.f68,[]⟩
abbrev zh0:Fr:=⟨Tryz.prog,zC,zA,69,Tryz.f69,[]⟩
abbrev zww:Fr:=⟨Tryz.prog,zC,zA,70,Tryz.f70,[]⟩
abbrev zoS:Fr:=⟨Tryz.prog,zC,zA,71,Tryz.f71,[(1000,⟨0,0,[],false⟩)]⟩
abbrev zgE:Fr:=⟨Tryz.prog,zC,zA,72,Tryz.f72,[(1000,⟨0,0,[],false⟩)]⟩
abbrev zqE:Fr:=⟨Tryz.prog,zC,zA,73,Tryz.f73,[]⟩
abbrev zwv:Fr:=⟨Tryz.prog,zC,zA,74,Tryz.f74,[]⟩
abbrev zoQ:Fr:=⟨Tryz.prog,zC,zA,75,Tryz.f75,[(1000,⟨0,0,[],false⟩),(900,⟨0,0,[],false⟩),(901,⟨0,0,[],false⟩),(902,⟨0,0,[],false⟩)]⟩
abbrev zez:Fr:=⟨Tryz.prog,zC,zA,76,Tryz.f76,[]⟩
abbrev zoR:Fr:=⟨Tryz.prog,zC,zA,77,Tryz.f77,[]⟩
abbrev zmz:Fr:=⟨Tryz.prog,zC,zA,78,Tryz.f78,[(1000,⟨0,0,[],false⟩),(900,⟨0,0,[],false⟩),(901,⟨0,0,[],false⟩),(902,⟨0,0,[],false⟩)]⟩
abbrev zl1:Fr:=⟨Tryz.prog,zC,zA,79,Tryz.f79,[]⟩
abbrev zk1:Fr:=⟨Tryz.prog,zC,zA,80,Tryz.f80,[(1000,⟨0,0,[],false⟩)]⟩
abbrev zdF:Fr:=⟨Tryz.prog,zC,zA,84,Tryz.f84,[]⟩
abbrev zws:Fr:=⟨Tryz.prog,zC,zA,87,Tryz.f87,[]⟩
abbrev zrt:Fr:=⟨Tryz.prog,zC,zA,88,Tryz.f88,[]⟩
abbrev zpJ:Fr:=⟨Tryz.prog,zC,zA,89,Tryz.f89,[]⟩
abbrev zvw:Fr:=⟨Tryz.prog,zC,zA,90,Tryz.f90,[]⟩
abbrev zqI:Fr:=⟨Tryz.prog,zC,zA,91,Tryz.f91,[]⟩
abbrev zn5:Fr:=⟨Tryz.prog,zC,zA,92,Tryz.f92,[]⟩
abbrev zl3:Fr:=⟨Tryz.prog,zC,zA,93,Tryz.f93,[]⟩
abbrev zuq:Fr:=⟨Tryz.prog,zC,zA,94,Tryz.f94,[]⟩
abbrev zl2:Fr:=⟨Tryz.prog,zC,zA,95,Tryz.f95,[]⟩
abbrev zur:Fr:=⟨Tryz.prog,zC,zA,96,Tryz.f96,[]⟩
abbrev zwu:Fr:=⟨Tryz.prog,zC,zA,97,Tryz.f97,[]⟩
abbrev zs2:Fr:=⟨Tryz.prog,zC,zA,98,Tryz.f98,[]⟩
abbrev zxE:Fr:=⟨Tryz.prog,zC,zA,99,Tryz.f99,[]⟩
abbrev zjz:Fr:=⟨Tryz.prog,zC,zA,100,Tryz.f100,[(1000,⟨0,0,[],false⟩)]⟩
abbrev zbq:Fr:=⟨Tryz.prog,zC,zA,101,Tryz.f101,[]⟩
abbrev znu:Fr:=⟨Tryz.prog,zC,zA,102,Tryz.f102,[]⟩
abbrev zup:Fr:=⟨Tryz.prog,zC,zA,103,Tryz.f103,[]⟩
abbrev zs7:Fr:=⟨Tryz.prog,zC,zA,104,Tryz.f104,[]⟩
abbrev zkZ:Fr:=⟨Tryz.prog,zC,zA,105,Tryz.f105,[]⟩
abbrev zqG:Fr:=⟨Tryz.prog,zC,zA,106,Tryz.f106,[]⟩
abbrev zqH:Fr:=⟨Tryz.prog,zC,zA,107,Tryz.f107,[]⟩
abbrev zd6:Fr:=⟨Tryz.prog,zC,zA,108,Tryz.f108,[(1000,⟨0,0,[],false⟩),(900,⟨0,0,[],false⟩),(901,⟨0,0,[],false⟩),(902,⟨0,0,[],false⟩)]⟩
abbrev ziy:Fr:=⟨Tryz.prog,zC,zA,109,Tryz.f109,[(1000,⟨0,0,[],false⟩)]⟩
abbrev zkM:Fr:=⟨Tryz.prog,zC,zA,110,Tryz.f110,[(1000,⟨0,0,[],false⟩)]⟩
abbrev zix:Fr:=⟨Tryz.prog,zC,zA,111,Tryz.f111,[(1000,⟨0,0,[],false⟩)]⟩
abbrev zjy:Fr:=⟨Tryz.prog,zC,zA,112,Tryz.f112,[]⟩
abbrev zi3:Fr:=⟨Tryz.prog,zC,zA,113,Tryz.f113,[(1000,⟨0,0,[],false⟩)]⟩
abbrev zgu:Fr:=⟨Tryz.prog,zC,zA,114,Tryz.f114,[(1000,⟨0,0,[],false⟩)]⟩
abbrev zh2:Fr:=⟨Tryz.prog,zC,zA,115,Tryz.f115,[(1000,⟨0,0,[],false⟩)]⟩
abbrev zke:Fr:=⟨Tryz.prog,zC,zA,116,Tryz.f116,[(1000,⟨0,0,[],false⟩)]⟩
abbrev zeY:Fr:=⟨Tryz.prog,zC,zA,131,Tryz.f131,[]⟩
abbrev zp2:Fr:=⟨Tryz.prog,zC,zA,132,Tryz.f132,[]⟩
abbrev zn3:Fr:=⟨Tryz.prog,zC,zA,133,Tryz.f133,[]⟩
abbrev znx:Fr:=⟨Tryz.prog,zC,zA,134,Tryz.f134,[]⟩
abbrev zwy:Fr:=⟨Tryz.prog,zC,zA,135,Tryz.f135,[]⟩
abbrev zvz:Fr:=⟨Tryz.prog,zC,zA,136,Tryz.f136,[]⟩
abbrev zyI:Fr:=⟨Tryz.prog,zC,zA,137,Tryz.f137,[]⟩
abbrev zsL:Fr:=⟨Tryz.prog,zC,zA,138,Tryz.f138,[]⟩
abbrev zht:Fr:=⟨Tryz.prog,zC,zA,139,Tryz.f139,[(1000,⟨0,0,[],false⟩)]⟩
abbrev zi2:Fr:=⟨Tryz.prog,zC,zA,140,Tryz.f140,[(1000,⟨0,0,[],false⟩)]⟩
abbrev zhs:Fr:=⟨Tryz.prog,zC,zA,141,Tryz.f141,[(1000,⟨0,0,[],false⟩)]⟩
abbrev zhP:Fr:=⟨Tryz.prog,zC,zA,142,Tryz.f142,[]⟩
abbrev zhB:Fr:=⟨Tryz.prog,zC,zA,143,Tryz.f143,[(1000,⟨0,0,[],false⟩)]⟩
abbrev zfR:Fr:=⟨Tryz.prog,zC,zA,144,Tryz.f144,[(1000,⟨0,0,[],false⟩)]⟩
abbrev zha:Fr:=⟨Tryz.prog,zC,zA,145,Tryz.f145,[(1000,⟨0,0,[],false⟩)]⟩
abbrev ziz:Fr:=⟨Tryz.prog,zC,zA,146,Tryz.f146,[(1000,⟨0,0,[],false⟩)]⟩
abbrev zsy:Fr:=⟨Tryz.prog,zC,zA,147,Tryz.f147,[]⟩
abbrev zvx:Fr:=⟨Tryz.prog,zC,zA,148,Tryz.f148,[]⟩
abbrev zs8:Fr:=⟨Tryz.prog,zC,zA,149,Tryz.f149,[]⟩
abbrev zs4:Fr:=⟨Tryz.prog,zC,zA,150,Tryz.f150,[]⟩
abbrev zs3:Fr:=⟨Tryz.prog,zC,zA,151,Tryz.f151,[]⟩
abbrev zwx:Fr:=⟨Tryz.prog,zC,zA,152,Tryz.f152,[]⟩
abbrev zbk:Fr:=⟨Tryz.prog,zC,zA,153,Tryz.f153,[]⟩
abbrev zn6:Fr:=⟨Tryz.prog,zC,zA,154,Tryz.f154,[]⟩
abbrev zkN:Fr:=⟨Tryz.prog,zC,zA,155,Tryz.f155,[(1000,⟨0,0,[],false⟩)]⟩
abbrev zpx:Fr:=⟨Tryz.prog,zC,zA,156,Tryz.f156,[]⟩
abbrev zp4:Fr:=⟨Tryz.prog,zC,zA,157,Tryz.f157,[(1000,⟨0,0,[],false⟩)]⟩
abbrev zh1:Fr:=⟨Tryz.prog,zC,zA,158,Tryz.f158,[(1002,⟨0,0,[],false⟩)]⟩
abbrev zlk:Fr:=⟨Tryz.prog,zC,zA,159,Tryz.f159,[(1004,⟨0,0,[],false⟩)]⟩
abbrev zcG:Fr:=⟨Tryz.prog,zC,zA,166,Tryz.f166,[]⟩
abbrev zvs:Fr:=⟨Tryz.prog,zC,zA,167,Tryz.f167,[]⟩
abbrev zpI:Fr:=⟨Tryz.prog,zC,zA,168,Tryz.f168,[]⟩
abbrev zod:Fr:=⟨Tryz.prog,zC,zA,169,Tryz.f169,[]⟩
abbrev zqF:Fr:=⟨Tryz.prog,zC,zA,170,Tryz.f170,[]⟩
abbrev zi4:Fr:=⟨Tryz.prog,zC,zA,171,Tryz.f171,[(1000,⟨0,0,[],false⟩)]⟩
abbrev zg9:Fr:=⟨Tryz.prog,zC,zA,172,Tryz.f172,[(1002,⟨0,0,[],false⟩)]⟩
abbrev zjC:Fr:=⟨Tryz.prog,zC,zA,173,Tryz.f173,[(1004,⟨0,0,[],false⟩)]⟩
abbrev zru:Fr:=⟨Tryz.prog,zC,zA,174,Tryz.f174,[]⟩
abbrev zll:Fr:=⟨Tryz.prog,zC,zA,175,Tryz.f175,[(1003,⟨0,0,[],false⟩)]⟩
abbrev zk0:Fr:=⟨Tryz.prog,zC,zA,177,Tryz.f177,[]⟩
abbrev zjD:Fr:=⟨Tryz.prog,zC,zA,178,Tryz.f178,[(1003,⟨0,0,[],false⟩)]⟩
abbrev znv:Fr:=⟨Tryz.prog,zC,zA,71,Tryz.f71,[]⟩
abbrev cw:zbu:=callw Tryz.prog zC zA
abbrev zP:Program:=Tryz.prog
theorem ke_117 (x y:zar):keyEq zP 117 (.agg (zbd x)) (.agg (zbd y))=some (decide (y=x)):=by
 have h1:eqV zP 20 117 [(.int .i64 x.script:Value),(.int .i64 x.part:Value)] [(.int .i64 y.script:Value),(.int .i64 y.part:Value)]=some (x.script == y.script && (x.part == y.part && true)):=by kernel_rfl
 have h2:bitsL [(.int .i64 x.script:Value),(.int .i64 x.part:Value)] [(.int .i64 y.script:Value),(.int .i64 y.part:Value)]=some (x.script == y.script && (x.part == y.part && true)):=by kernel_rfl
 have h:keyEq zP 117 (.agg (zbd x)) (.agg (zbd y))=agree (eqV zP 20 117 [(.int .i64 x.script:Value),(.int .i64 x.part:Value)] [(.int .i64 y.script:Value),(.int .i64 y.part:Value)]) (bitsL [(.int .i64 x.script:Value),(.int .i64 x.part:Value)] [(.int .i64 y.script:Value),(.int .i64 y.part:Value)]):=by kernel_rfl
 rw [h,h1,h2]; have ha:∀ b:Bool,agree (some b) (some b)=some b:=fun b=>by simp [agree]
 rw [ha]; refine congrArg some ?_; by_cases e:y=x
 · rw [decide_eq_true e,e]; simp
 · rw [decide_eq_false e,Bool.eq_false_iff]; intro q; simp only [zbK,beq_iff_eq,and_true] at q; refine e (zcI.inj ?_); show [I (y.script),I (y.part)]=[I (x.script),I (x.part)]; simp only [q]
theorem zhr {β:Type} (z:zaM) (key:zar) (l:List (zar×zaM)) (k:zaM→Bool→Option β):mapD zP 117 true zlK (.agg (zbI z)) (List.map zal l) (.agg (zbd key)) k=k ((mfind key l).getD z) (mfind key l).isSome:=
 zsc (agg:=true) (D:=zlK) (kenc:=fun x=>.agg (zbd x)) (venc:=fun x=>.agg (zbI x)) ke_117 (show ∀ x:zaM,avDec true zlK (.agg (zbI x))=some x from fun x=>zlK.de x) z key l k
theorem zmw {β:Type} (key:zar) (v:zaM) (l:List (zar×zaM)) (k:List (List AV)→Option β):msetD zP 117 49 (.agg (zbd key)) (.agg (zbI v)) (List.map zal l) k=k (List.map zal (mput key v l)):=
 zpX (kenc:=fun x=>.agg (zbd x)) (venc:=fun x=>.agg (zbI x)) ke_117 key v l k
theorem zkG {β:Type} (z:Int) (key:zar) (l:List (zar×Int)) (k:Int→Bool→Option β):mapD zP 117 false zaX (I z) (List.map zaq l) (.agg (zbd key)) k=k ((mfind key l).getD z) (mfind key l).isSome:=
 zsc (agg:=false) (D:=zaX) (kenc:=fun x=>.agg (zbd x)) (venc:=fun x=>I x) ke_117 (show ∀ x:Int,avDec false zaX (I x)=some x from fun x=>zaX.de x) z key l k
theorem zpF {β:Type} (key:zar) (v:Int) (l:List (zar×Int)) (k:List (List AV)→Option β):msetD zP 117 3 (.agg (zbd key)) (I v) (List.map zaq l) k=k (List.map zaq (mput key v l)):=
 zpX (kenc:=fun x=>.agg (zbd x)) (venc:=fun x=>I x) ke_117 key v l k
theorem zk7 {β:Type} (z:zab) (key:zar) (l:List (zar×zab)) (k:zab→Bool→Option β):mapD zP 117 true zaB (.agg (zaa z)) (List.map zbz l) (.agg (zbd key)) k=k ((mfind key l).getD z) (mfind key l).isSome:=
 zsc (agg:=true) (D:=zaB) (kenc:=fun x=>.agg (zbd x)) (venc:=fun x=>.agg (zaa x)) ke_117 (show ∀ x:zab,avDec true zaB (.agg (zaa x))=some x from fun x=>zaB.de x) z key l k
theorem zk9 {β:Type} (key:zar) (v:zab) (l:List (zar×zab)) (k:List (List AV)→Option β):msetD zP 117 64 (.agg (zbd key)) (.agg (zaa v)) (List.map zbz l) k=k (List.map zbz (mput key v l)):=
 zpX (kenc:=fun x=>.agg (zbd x)) (venc:=fun x=>.agg (zaa x)) ke_117 key v l k
theorem ke_151 (x y:Int×Int):keyEq zP 151 (.agg (zcu x)) (.agg (zcu y))=some (decide (y=x)):=by
 have h1:eqV zP 20 151 [(.int .i64 x.1:Value),(.int .i64 x.2:Value)] [(.int .i64 y.1:Value),(.int .i64 y.2:Value)]=some (x.1 == y.1 && (x.2 == y.2 && true)):=by kernel_rfl
 have h2:bitsL [(.int .i64 x.1:Value),(.int .i64 x.2:Value)] [(.int .i64 y.1:Value),(.int .i64 y.2:Value)]=some (x.1 == y.1 && (x.2 == y.2 && true)):=by kernel_rfl
 have h:keyEq zP 151 (.agg (zcu x)) (.agg (zcu y))=agree (eqV zP 20 151 [(.int .i64 x.1:Value),(.int .i64 x.2:Value)] [(.int .i64 y.1:Value),(.int .i64 y.2:Value)]) (bitsL [(.int .i64 x.1:Value),(.int .i64 x.2:Value)] [(.int .i64 y.1:Value),(.int .i64 y.2:Value)]):=by kernel_rfl
 rw [h,h1,h2]; have ha:∀ b:Bool,agree (some b) (some b)=some b:=fun b=>by simp [agree]
 rw [ha]; refine congrArg some ?_; by_cases e:y=x
 · rw [decide_eq_true e,e]; simp
 · rw [decide_eq_false e,Bool.eq_false_iff]; intro q; simp only [zbK,beq_iff_eq,and_true] at q; refine e (zd0.inj ?_); show [I (y.1),I (y.2)]=[I (x.1),I (x.2)]; simp only [q]
theorem zjp {β:Type} (z:zba) (key:Int×Int) (l:List ((Int×Int)×zba)) (k:zba→Bool→Option β):mapD zP 151 true zdM (.agg (zbA z)) (List.map zbv l) (.agg (zcu key)) k=k ((mfind key l).getD z) (mfind key l).isSome:=
 zsc (agg:=true) (D:=zdM) (kenc:=fun x=>.agg (zcu x)) (venc:=fun x=>.agg (zbA x)) ke_151 (show ∀ x:zba,avDec true zdM (.agg (zbA x))=some x from fun x=>zdM.de x) z key l k
theorem zcT {β:Type} (key:Int×Int) (v:zba) (l:List ((Int×Int)×zba)) (k:List (List AV)→Option β):msetD zP 151 153 (.agg (zcu key)) (.agg (zbA v)) (List.map zbv l) k=k (List.map zbv (mput key v l)):=
 zpX (kenc:=fun x=>.agg (zcu x)) (venc:=fun x=>.agg (zbA x)) ke_151 key v l k
@[simp] theorem zai {β:Type} (v:Bool) (k:Bool→Option β):callD zad (some (zam v)) k=k v:=zbh (D:=zad) k
@[simp] theorem zwV {β:Type} (v:zae) (k:zae→Option β):callD znn (some (zqu v)) k=k v:=zbh (D:=znn) k
@[simp] theorem zqZ {β:Type} (v:zay×zae) (k:(zay×zae)→Option β):callD zhz (some (zhy v)) k=k v:=zbh (D:=zhz) k
@[simp] theorem zrR {β:Type} (v:((List zab))×zae) (k:(((List zab))×zae)→Option β):callD zfz (some (zgW v)) k=k v:=zbh (D:=zfz) k
@[simp] theorem zAW {β:Type} (v:(zbw×Int)×(List zab)) (k:((zbw×Int)×(List zab))→Option β):callD zb3 (some (zm8 v)) k=k v:=zbh (D:=zb3) k
@[simp] theorem zqe {β:Type} (v:(List Int)×Bool) (k:((List Int)×Bool)→Option β):callD zg6 (some (zg0 v)) k=k v:=zbh (D:=zg6) k
@[simp] theorem zbi {β:Type} (v:Int×zae) (k:(Int×zae)→Option β):callD zaZ (some (zii v)) k=k v:=zbh (D:=zaZ) k
@[simp] theorem ze7 {β:Type} (v:zab) (k:zab→Option β):callD zeK (some (zku v)) k=k v:=zbh (D:=zeK) k
@[simp] theorem zkP {β:Type} (v:zay) (k:zay→Option β):callD zgC (some (zn0 v)) k=k v:=zbh (D:=zgC) k
@[simp] theorem zAm {β:Type} (v:((List GTask)×Int)×(List zab)) (k:(((List GTask)×Int)×(List zab))→Option β):callD zfB (some (zj5 v)) k=k v:=zbh (D:=zfB) k
@[simp] theorem zk4 {β:Type} (v:(List zbp)) (k:((List zbp))→Option β):callD zfA (some (zgY v)) k=k v:=zbh (D:=zfA) k
@[simp] theorem zqa {β:Type} (v:((List zaE)×(List zbr))×zae) (k:(((List zaE)×(List zbr))×zae)→Option β):callD zg2 (some (zfy v)) k=k v:=zbh (D:=zg2) k
@[simp] theorem zpz {β:Type} (v:((List zaU))×zae) (k:(((List zaU))×zae)→Option β):callD zgr (some (zgp v)) k=k v:=zbh (D:=zgr) k
@[simp] theorem zpB {β:Type} (v:((List zaN))×zae) (k:(((List zaN))×zae)→Option β):callD zgt (some (zgq v)) k=k v:=zbh (D:=zgt) k
@[simp] theorem zpA {β:Type} (v:za2×zae) (k:(za2×zae)→Option β):callD zgs (some (zja v)) k=k v:=zbh (D:=zgs) k
@[simp] theorem zci {β:Type} (v:Bool×zae) (k:(Bool×zae)→Option β):callD zdI (some (zlx v)) k=k v:=zbh (D:=zdI) k
@[simp] theorem zrS {β:Type} (v:GSeed×zae) (k:(GSeed×zae)→Option β):callD zim (some (zij v)) k=k v:=zbh (D:=zim) k
@[simp] theorem zpa {β:Type} (v:zaE) (k:zaE→Option β):callD zj6 (some (zml v)) k=k v:=zbh (D:=zj6) k
@[simp] theorem za0 {β:Type} (v:Int) (k:Int→Option β):callD zaK (some (zbf v)) k=k v:=zbh (D:=zaK) k
@[simp] theorem zkD {β:Type} (v:((List zab)×Int)×(List zab)) (k:(((List zab)×Int)×(List zab))→Option β):callD ze3 (some (zdw v)) k=k v:=zbh (D:=ze3) k
@[simp] theorem zny {β:Type} (v:List (Option zaf)×List (zar×zaM)) (k:(List (Option zaf)×List (zar×zaM))→Option β):callD zhM (some (zhK v)) k=k v:=zbh (D:=zhM) k
@[simp] theorem zhS {β:Type} (v:(List (zar×zab))) (k:((List (zar×zab)))→Option β):callD zdS (some (zcF v)) k=k v:=zbh (D:=zdS) k
@[simp] theorem zhQ {β:Type} (v:(List zbp)) (k:((List zbp))→Option β):callD zbl (some (zdD v)) k=k v:=zbh (D:=zbl) k
@[simp] theorem zpc {β:Type} (v:zaU×Bool) (k:(zaU×Bool)→Option β):callD zhN (some (zhL v)) k=k v:=zbh (D:=zhN) k
@[simp] theorem ziC {β:Type} (v:(List GTask)) (k:((List GTask))→Option β):callD zbo (some (zdQ v)) k=k v:=zbh (D:=zbo) k
@[simp] theorem zi5 {β:Type} (v:Nat×(List GTask)) (k:(Nat×(List GTask))→Option β):callD zcV (some (zdY v)) k=k v:=zbh (D:=zcV) k
@[simp] theorem zfE {β:Type} (v:zaE×zae) (k:(zaE×zae)→Option β):callD zdZ (some (zkU v)) k=k v:=zbh (D:=zdZ) k
@[simp] theorem zqb {β:Type} (v:zbr×zae) (k:(zbr×zae)→Option β):callD zg3 (some (zj4 v)) k=k v:=zbh (D:=zg3) k
@[simp] theorem zqc {β:Type} (v:zaN×zae) (k:(zaN×zae)→Option β):callD zg4 (some (zgX v)) k=k v:=zbh (D:=zg4) k
@[simp] theorem zrU {β:Type} (v:((List ((Int×Int)×zba)))×(List zab)) (k:(((List ((Int×Int)×zba)))×(List zab))→Option β):callD zio (some (zdH v)) k=k v:=zbh (D:=zio) k
@[simp] theorem zf6 {β:Type} (v:(List zab)) (k:((List zab))→Option β):callD za9 (some (zcL v)) k=k v:=zbh (D:=za9) k
@[simp] theorem ze8 {β:Type} (v:zaf) (k:zaf→Option β):callD zck (some (zbN v)) k=k v:=zbh (D:=zck) k
@[simp] theorem zpb {β:Type} (v:Int×(Option Addr)) (k:(Int×(Option Addr))→Option β):callD zfX (some (zeI v)) k=k v:=zbh (D:=zfX) k
@[simp] theorem zrT {β:Type} (v:GSeed×Bool) (k:(GSeed×Bool)→Option β):callD zin (some (zgg v)) k=k v:=zbh (D:=zin) k
@[simp] theorem zlG {β:Type} (v:Int×Bool) (k:(Int×Bool)→Option β):callD zef (some (ziH v)) k=k v:=zbh (D:=zef) k
@[simp] theorem zAV {β:Type} (v:(List Int)×Int) (k:((List Int)×Int)→Option β):callD zjt (some (zeJ v)) k=k v:=zbh (D:=zjt) k
@[simp] theorem zk5 {β:Type} (v:(Int×Int)) (k:((Int×Int))→Option β):callD zfC (some (zgZ v)) k=k v:=zbh (D:=zfC) k
@[simp] theorem ziB {β:Type} (v:(List Int)) (k:((List Int))→Option β):callD zec (some (zhl v)) k=k v:=zbh (D:=zec) k
@[simp] theorem zhc {β:Type} (v:zaN×Bool) (k:(zaN×Bool)→Option β):callD zff (some (zkw v)) k=k v:=zbh (D:=zff) k
@[simp] theorem ztr {β:Type} (v:zcY×Int) (k:(zcY×Int)→Option β):callD zky (some (zkv v)) k=k v:=zbh (D:=zky) k
@[simp] theorem zmS {β:Type} (v:(List Bool)) (k:((List Bool))→Option β):callD zeL (some (zgh v)) k=k v:=zbh (D:=zeL) k
@[simp] theorem zx8 {β:Type} (v:Int) (k:Int→Option β):callD zdT (some (zkI v)) k=k v:=zbh (D:=zdT) k
@[simp] theorem zyS {β:Type} (v:Int×Int) (k:(Int×Int)→Option β):callD zed (some (zk8 v)) k=k v:=zbh (D:=zed) k
@[simp] theorem zof {β:Type} (v:(List zab)×Int) (k:((List zab)×Int)→Option β):callD zfQ (some (zeT v)) k=k v:=zbh (D:=zfQ) k
@[simp] theorem zqd {β:Type} (v:(List ((Int×Int)×zba))) (k:((List ((Int×Int)×zba)))→Option β):callD zg5 (some (zc8 v)) k=k v:=zbh (D:=zg5) k
theorem ptT {y:AV×Mem} (cut:List Nat) {R:Fr} {j:Nat} {st:St} {x:Option (AV×Mem)} (h:x=some y) (hx:tGo R zT cut 100000 (decide (j≠0)) (ptS R.fn j) st=x:=by kernel_rfl):pt R j st=some y:=pt_of zT cut hx h
theorem cwT {y:AV×Mem} (R:Fr) (cut:List Nat) {args:List AV} {ms:Mem} {x:Option (AV×Mem)} (h:x=some y) (ho:R.C.orc R.f args ms=none:=by rfl) (hf:R.P.funcs[R.f]?=some R.fn:=by kernel_rfl) (he:enters R.P R.f=true:=by kernel_rfl)
  (hN:decide (R.fn.ntmps≤1000∧args.length≤R.fn.ntmps)=true:=by kernel_rfl) (hm:R.ms=Go.Ab.blank ms:=by kernel_rfl)
  (hx:tGo R zT cut 100000 false (ptK R.fn 0) { t:=argTab 0 args,m:=ms }=x:=by kernel_rfl):callw R.P R.C R.F R.f args ms=some y:=zwX R zT cut ho hf he hN hm hx h
end Go.Proofs.YtikogkgdkdmljaaGreat
end
