/- Annotations of the seat's functions: what lives behind each region, which slots own rows, which arguments are written; how results read. -/
import Derived.Test.YtdclabgakicjeaaDoorXTy
import Derived.Test.YtdclabgakicjeaaDoorProg
import Derived.Test.YtdclabgakicjeaaDoorXSp
set_option linter.unusedSimpArgs false
set_option linter.unusedVariables false
set_option linter.unusedSectionVars false
noncomputable section
namespace Go.Proofs.YtdclabgakicjeaaDoor
open Go.Ab
abbrev LL:=List (List AV)
def zC:Cfg:={ wrt:=atReg [(7,[0]),(8,[0]),(16,[0]),(17,[0]),(18,[0]),(19,[0]),(20,[0]),(21,[0]),(22,[0]),(23,[0]),(24,[0]),(25,[0]),(26,[0]),(27,[0]),(28,[0]),(29,[0]),(39,[0]),(45,[0]),(46,[0]),(47,[0]),(48,[0]),(50,[0]),(51,[0])],orc:=zOrc }
def anK (l:List Nat) (v:List (List Nat)) (o:List (Nat×List (Nat×Nat×TypeId))):Ann:={ lits:=l,live:=fun i=>v[i]?,own:=atReg o }
def zj5:Ann:=anK [] [[0],[0,19],[2],[3],[3,4],[5],[5,6,7],[5,6,7,8,9,10],[5,6,54],[2],[5,6,11],[5,6,11,56,57],[5,6,11,56,57,58],[5,6,11,12,56,57],[5,6,11,12,13,14,56,57],[5,6,11,12,13,14,15,16,56,57],[5,6,11,13,56,57,87],[2],[5,6,11,56,57],[5,6,11,56,57],[2]] []
def zeM:Ann:=anK [] [[0],[2]] []
def zok:Ann:=anK [] [[],[1,2],[1,2,3,4],[1,2,3,4,5,6],[1,2,3,4,5,6,8],[1,2,3,4,5,6,8,9,10,11],[0]] []
def zla:Ann:={ anK [] [[0,2],[0,2,3,4],[0,2,3,5],[0,2,3,5,6],[0,2,3,5,6,7],[0,2,3,5,6,7,32],[0,2,3,5,6,7],[0,2,3,5,6,7],[0,2,3,5,6,7,8],[0,2,3,5,6,7,8,45],[0,2,3,5,6,7,8],[0,2,3,5,6,7],[0,2,3,5],[0,2,3,5,59],[0,2,3,5,9],[2,5],[2]] [] with cel:=fun _=>[(5,10,900,1,87)] }
def zmv:Ann:=anK [] [[0,2,4],[0,2,4,7],[0,2,4,7,8],[0,2,4,7,8,9],[0,2,4,7,8,9,21],[0,2,4,7,8,9],[0,2,4,7,8,9,26],[0,2,4,7,8,9],[0,2,4,7,8,9,49],[0,2,4,7,8,9],[0,2,4,7,8,10],[0,2,4,7,8,10,67],[0,2,4,7,8,11],[0,2,4,7,8,11,12],[0,2,4,7,8,11,12,78],[0,2,4,7,8,11,12],[0,2,4,7,8,11,12],[0,2,4,7,8,13],[0,2,4,7,8,13,91],[0,2,4,7,8,13],[0,2,4,7,8,13,95],[0,2,4,7,8,13],[0,2,4,7,8,13,95,104],[0,2,4,7,8,13],[0,2,4,7,8,13,95,113],[0,2,4,7,8,13],[0,2,4,7,8,13,122],[0,2,4,7,8,13,125],[0,2,4,7,8,13],[6]] [(1,[(7,31,66)]),(7,[(7,31,66)]),(9,[(7,31,66)]),(16,[(7,31,66)]),(21,[(7,31,66)]),(23,[(7,31,66)]),(25,[(7,31,66)]),(28,[(7,31,66)])]
def zlX:Ann:=anK [] [[0],[0,11],[2,3],[0,4],[4,12,13,14],[4,12,13,14,15],[4,6,12,13,14],[4,7,8,12,13,14],[4,7,8,12,13,14,24],[2,3],[4,12,13,14],[4,12,13,14],[2,3]] []
def znb:Ann:=anK [] [[0,2],[0,2,5],[0,2,5,12],[0,2,5],[2,5,6,7,8],[2,5,6,7,22],[2,3,4],[2,5,7,9,10],[2,5,7,9,10,30],[2,3,4],[2,5,7],[0,2,5],[2,40],[2,3,4],[2,3,4]] [(0,[(2,31,66)]),(6,[(2,31,66)]),(9,[(2,31,66)]),(10,[(2,31,66)]),(13,[(2,31,66)]),(14,[(2,31,66)])]
def zoR:Ann:=anK [] [[0,1],[0,1,10],[4],[0,1,12,13],[0,1,12,13,14],[0,1,5,12,13],[0,1,12,13,25],[4],[0,1,12,13],[4]] []
def zlW:Ann:=anK [27] [[1],[1,4],[1,4,16],[2,3],[1,4,5],[1,4,5,6,7],[1,5,6,7,8],[1,5,7,8,28,29,30],[1,5,7,8,28,29,30,31],[1,5,7,8,9,10,28,29,30],[1,5,7,8,9,10,11,12,28,29,30],[1,5,7,8,9,10,11,28,29,30,41],[2,3],[1,5,7,8,9,10,28,29,30],[1,5,7,8,9,10,28,29,30,48],[1,5,7,8,28,29,30],[1,5,7,8,28,29,30],[1,5,7,8,28,29,30],[8,73],[2,3],[2,3]] [(6,[(8,1,9)]),(13,[(8,1,9)])]
def zmt:Ann:=anK [] [[0,2],[2,4],[2,4,12,13],[2,4,12,13,14],[2,4,5,6,12,13],[2,4,5,6,12,13,22],[2,4,5,27],[2,3],[2,4,5,7],[2,4,7,32,33,34],[2,4,7,32,33,34,35],[2,4,7,8,9,32,33,34],[2,4,7,32,33,34,46],[2,3],[2,4,7,32,33,34],[2,3],[2,4,12,13],[2,3]] []
def zh4:Ann:=anK [] [[2,3],[4]] []
def zk3:Ann:=anK [] [[1],[1,3],[1,3,8],[1,3,8,9],[2],[1,3,8,19],[2],[1,3,23],[2],[2]] []
def zkm:Ann:=anK [9] [[0],[0,4],[0,4,11],[0,4],[0,4,18],[0,4],[0,4,5],[0,4,5,6],[0,4,5,6,27],[0,4,5,6],[0,4,5,6],[2,3]] [(1,[(4,3,84)]),(3,[(4,3,84)]),(5,[(4,3,84)]),(6,[(5,2,138)]),(10,[(5,2,138)])]
def zj6:Ann:=anK [] [[0],[0,3],[0,3,4],[0,3,4,5],[0,3,4,5,10],[0,3,4,5],[0,3,4,5],[0,3,4,5],[2]] [(1,[(3,5,142)]),(7,[(3,5,142)])]
def zj7:Ann:=anK [] [[0,2],[0,2,3],[2]] []
def zh3:Ann:=anK [] [[0,2],[2]] []
def zl3:Ann:=anK [] [[0,1],[0,1,19],[4],[0,1,5],[1,5],[1,5,40],[5],[4]] []
def zfN:Ann:=anK [] [[0,1],[4]] []
def zk8:Ann:={ anK [18] [[0,2],[0,2,3,4],[0,2,3,4,5],[0,2,3,4,5,6],[0,2,3,4,5,6,24],[0,2,3,4,5,6],[0,2,3,4,5,6],[0,2,3,4,5,6],[2]] [] with cel:=fun _=>[(5,0,900,4,146)] }
def zk7:Ann:={ anK [] [[0,1,4],[0,1,4,5],[0,1,4,5,6],[0,1,4,5,6,13],[0,1,4,5,6],[0,1,4,5,6],[4,5],[4]] [] with cel:=fun _=>[(5,0,900,3,148)] }
def zl4:Ann:={ anK [] [[0,1,5,6],[0,1,5,6,7],[0,6,7,8],[0,6,7,8,9],[0,6,7,8,9,20],[0,6,7,8,9],[0,6,7,8,9],[6]] [] with cel:=fun _=>[(7,1,900,1,3)] }
def zj8:Ann:=anK [] [[0,1,2],[0,1,2,7],[0,1,2,7,8],[0,1,2,7,8,13],[0,1,2,7,8],[0,1,2,7,8,9],[0,1,2,7,8,9,10],[0,1,2,7,8,9,10,19],[0,1,2,7,8,9,10],[0,1,2,7,8,9,10,28],[0,1,2,7,8,9,10],[0,1,2,7,8,9,11],[0,1,2,7,8,9,11,43],[0,1,2,7,8,9,11],[0,1,2,7,8,9,11,48],[0,1,2,7,8,9,11],[6]] [(1,[(7,7,56)]),(5,[(9,3,84)]),(10,[(9,3,84)]),(15,[(7,7,56)])]
def zl1:Ann:=anK [] [[0,2,4],[0,2,4,7],[0,2,4,7,8],[0,2,4,7,8,17],[0,2,4,7,8],[0,2,4,7,8,9],[0,2,4,7,8,9,10],[0,2,4,7,8,9,10,32],[0,2,4,7,8,9,10],[0,2,4,7,8,9,10,11],[0,2,4,7,8,9,10,11,39],[0,2,4,7,8,9,10,11],[0,2,4,7,8,9,10,11,53],[0,2,4,7,8,9,10,11,12],[0,2,4,7,8,9,10,11],[6]] [(1,[(7,9,60)]),(14,[(7,9,60)])]
def zmw:Ann:=anK [] [[0,2,3,5,8],[0,2,3,5,8,9],[0,2,3,5,8,9,20],[0,2,3,5,8,9,20,21],[8],[0,2,3,5,8,9,20,31],[8],[0,2,3,5,8,9,20,41],[0,5,8,10],[0,5,8,10,56],[8,10],[8],[0,2,3,5,8,9,20,72],[8],[0,2,3,5,8,9,20,90],[0,2,3,5,8,9,90],[8],[0,3,8,9,113],[8],[8]] []
def zgD:Ann:=anK [] [[0,1],[0,1],[1],[4,5]] []
def znX:Ann:=anK [] [[0,1],[4,5,6]] []
def zlY:Ann:=anK [] [[1],[1,5],[1,5,6],[1,3,5],[1,3,4,5],[1,3,5,42],[2],[1,5],[2]] []
def zmu:Ann:=anK [] [[0,2],[2,3],[2,3,4],[2],[2,3,7],[2],[2,3,11],[2],[2,3,15],[2],[2,3,19],[2],[2,3,22],[2],[2,3,26],[2],[2,3,30],[2],[2,3,33],[2],[2,3,36],[2],[2,39],[2],[2]] []
def zk5:Ann:=anK [] [[0,1],[1,8],[1,8,9],[4],[1,8,25],[5],[5,6],[4],[1,8,58],[7],[4],[1,8,83],[4],[1,8,95],[4],[1,8,111],[4],[1,8,123],[4],[1,8,135],[4],[1,8,147],[4],[1,8,160],[1,8,160],[4],[1,168],[4],[4]] [(0,[(4,2,124)]),(3,[(4,2,124)]),(7,[(4,2,124)]),(10,[(4,2,124)]),(12,[(4,2,124)]),(14,[(4,2,124)]),(16,[(4,2,124)]),(18,[(4,2,124)]),(20,[(4,2,124)]),(22,[(4,2,124)]),(25,[(4,2,124)]),(27,[(4,2,124)]),(28,[(4,2,124)])]
def zj4:Ann:=anK [] [[1],[1,6],[2,3],[2,3]] []
def znc:Ann:=anK [] [[2,3],[2,3,5,6],[2,3,5,6,7,8],[4]] []
def znd:Ann:=anK [] [[0,1],[0,1,12],[0,1,12,13],[4],[0,1,15],[4],[0,1,5],[0,1,5,22],[0,1,5,29],[0,1,5],[0,1,5],[0,1,5,39,40,41],[0,1,5,39,40,41,42],[0,1,5,7,39,40,41],[0,1,5,7,39,40,41,49],[0,1,5,7,39,40,41],[0,1,5,39,40,41],[0,1,5,39,40,41],[0,1,5,8],[0,1,8],[0,1,8],[1,8,63,64,65],[1,8,63,64,65,66],[1,8,10,63,64,65],[1,8,10,63,64,65],[1,8,63,64,65],[1,8,63,64,65],[4]] []
def zj3:Ann:=anK [] [[1,2],[1,2],[1,2,8],[5],[5],[4]] []
def zlb:Ann:=anK [] [[0,1],[0,1,10],[4],[0,1,5],[0,1,5,14],[0,1,5],[0,1,5,25],[4],[4]] []
def zlZ:Ann:=anK [] [[0,1],[0,7,8,9],[0,7,8,9,10],[0,6,7,8,9],[0,7,8,9],[0,7,8,9],[4]] []
def zk9:Ann:={ anK [14] [[0,1,2,6],[0,6,7],[0,6,7,18],[0,6,7],[0,6,7,32],[6,7],[6]] [] with cel:=fun _=>[(7,2,900,6,152)] }
def zkn:Ann:=anK [] [[0,3,4],[0,3,4,5],[0,3,4,5,16],[4,5],[4]] []
def zkl:Ann:=anK [] [[0,1],[0,1,5],[0,5,6],[0,5,6,7],[0,5,6,7,14],[0,5,6,7],[0,5,6,7],[0,5,6,7],[4]] [(1,[(5,1,3)]),(7,[(5,1,3)])]
def zol:Ann:=anK [] [[0,3,4],[0,3,4,5],[0,3,4,5,9],[0,3,4,5],[0,3,4,5,29],[4],[4]] []
def zko:Ann:={ anK [30] [[0,2,4,6],[0,4,6,7],[0,4,6,7,8],[0,4,6,7,8,36],[0,4,6,7,8],[0,4,6,7,8,9],[0,4,6,7,8,9,45],[0,4,6,7,8,9],[0,4,6,7,8],[6]] [] with cel:=fun _=>[(7,6,900,1,3)] }
def zl2:Ann:={ anK [] [[0,2,3,5,8],[0,2,3,5,8,9],[0,5,8,10],[0,5,8,10,31],[8],[0,5,8,10,11],[0,8,10,11,12],[0,8,10,11,12],[0,8,10,11],[0,8,10],[8,10,72],[8,10],[8]] [] with cel:=fun _=>[(10,8,900,1,3)] }
def zk4:Ann:=anK [] [[0],[0,3],[3,6,7,8],[3,6,7,8,9],[3,5,6,7,8],[3,6,7,8],[3,6,7,8],[2]] [(1,[(3,2,124)]),(5,[(3,2,124)])]
def zk6:Ann:=anK [] [[0,1],[4]] [(0,[(4,2,124)]),(1,[(4,2,124)])]
def zkj:Ann:=anK [] [[0],[0,9],[2,3],[0,12],[2,3],[0,4],[4,13,14,15],[4,13,14,15,16],[4,6,13,14,15],[4,6,13,14,15,21],[2,3],[4,13,14,15],[4,13,14,15],[2,3]] [(5,[(4,1,9)]),(11,[(4,1,9)])]
def ziD:Ann:=anK [] [[0,1],[0,1,10],[4],[0,1,12,13],[0,1,12,13,14],[0,1,5,12,13],[0,1,12,13,24],[4],[0,1,12,13],[4]] []
def zl0:Ann:=anK [] [[0],[0,10],[2,3],[0,4],[4,12,13,14],[4,12,13,14,15],[4,6,12,13,14],[4,7,8,12,13,14],[4,7,12,13,14,29],[2,3],[4,12,13,14],[4,12,13,14],[2,3]] [(3,[(4,1,3)]),(10,[(4,1,3)])]
def zkk:Ann:=anK [] [[0],[4,5],[4,5,33],[2,3],[4,5,6],[4,5,6,7],[4,5,6,7,37],[4,5,6,7],[4,5,6,7,49],[2,3],[4,5,6,7],[6,58],[6],[2,3]] []
def zj9:Ann:=anK [] [[0,1],[4,5]] []
def aNone:Ann:={ lits:=[],live:=fun _=>none,own:=fun _=>[] }
def annTab:List Ann:=[aNone,aNone,aNone,zj5,zeM,zok,zeM,zla,zmv,zlX,znb,zoR,zlW,zmt,zh4,zk3,zkm,zj6,zj7,zh3,zh3,zl3,zfN,zk8,zk7,zl4,zj8,zl1,zmw,zgD,zeM,znX,zlY,zmu,zk5,zj4,znc,znd,zfN,zj3,zh4,zh4,zlb,zeM,zlZ,zk9,zkn,zfN,zkl,zol,zko,zl2,aNone,aNone,zk4,zk6,zkj,zeM,ziD,aNone,aNone,zl0,zkk,aNone,aNone,aNone,aNone,aNone,aNone,aNone,zj9,aNone,aNone,aNone,aNone,aNone,aNone,aNone,aNone,aNone,aNone,aNone,aNone,aNone,aNone,aNone,aNone,aNone,aNone,aNone,aNone,aNone,aNone,aNone,aNone,aNone,aNone,aNone,aNone,aNone,aNone,aNone,aNone,aNone,aNone,aNone,aNone,aNone,aNone,aNone,aNone,aNone,aNone,aNone,aNone,aNone,aNone,aNone,aNone,aNone,aNone,aNone]
def zA:AnnF:=fun f=>annTab.getD f aNone
def zay:Bool→AV×Mem:=(r1 vBool).enc
abbrev zar:RD:={ α:=Bool,enc:=zay,dec:=(r1 vBool).dec,ok:=(r1 vBool).ok,de:=(r1 vBool).de }
def ziO:zaa→AV×Mem:=(r1 (vNewp 2 zab zal)).enc
abbrev zg3:RD:={ α:=zaa,enc:=ziO,dec:=(r1 (vNewp 2 zab zal)).dec,ok:=(r1 (vNewp 2 zab zal)).ok,de:=(r1 (vNewp 2 zab zal)).de }
def zcD:(zaV×zaa)→AV×Mem:=(r1M (vAgg zi6) (mBox 1000 2 zab zal)).enc
abbrev zdM:RD:={ α:=zaV×zaa,enc:=zcD,dec:=(r1M (vAgg zi6) (mBox 1000 2 zab zal)).dec,ok:=(r1M (vAgg zi6) (mBox 1000 2 zab zal)).ok,de:=(r1M (vAgg zi6) (mBox 1000 2 zab zal)).de }
def zeH:(((List GOp))×zaa)→AV×Mem:=(r1M (vNew 31 zaf dGOp) (mBox 1000 2 zab zal)).enc
abbrev zeI:RD:={ α:=((List GOp))×zaa,enc:=zeH,dec:=(r1M (vNew 31 zaf dGOp) (mBox 1000 2 zab zal)).dec,ok:=(r1M (vNew 31 zaf dGOp) (mBox 1000 2 zab zal)).ok,de:=(r1M (vNew 31 zaf dGOp) (mBox 1000 2 zab zal)).de }
def zd9:(ByteArray×Int)→AV×Mem:=(rT (lCons vStr (lOne (vI .i64)))).enc
abbrev zbD:RD:={ α:=ByteArray×Int,enc:=zd9,dec:=(rT (lCons vStr (lOne (vI .i64)))).dec,ok:=(rT (lCons vStr (lOne (vI .i64)))).ok,de:=(rT (lCons vStr (lOne (vI .i64)))).de }
def zfg:((List GOp)×Int×Int)→AV×Mem:=(rT (lCons (vSl 31 dGOp) (lCons (vI .i64) (lOne (vI .i64))))).enc
abbrev zdS:RD:={ α:=(List GOp)×Int×Int,enc:=zfg,dec:=(rT (lCons (vSl 31 dGOp) (lCons (vI .i64) (lOne (vI .i64))))).dec,ok:=(rT (lCons (vSl 31 dGOp) (lCons (vI .i64) (lOne (vI .i64))))).ok,de:=(rT (lCons (vSl 31 dGOp) (lCons (vI .i64) (lOne (vI .i64))))).de }
def zgs:(GOp×Int)→AV×Mem:=(rT (lCons (vAgg dGOp) (lOne (vI .i64)))).enc
abbrev zbJ:RD:={ α:=GOp×Int,enc:=zgs,dec:=(rT (lCons (vAgg dGOp) (lOne (vI .i64)))).dec,ok:=(rT (lCons (vAgg dGOp) (lOne (vI .i64)))).ok,de:=(rT (lCons (vAgg dGOp) (lOne (vI .i64)))).de }
def zbu:ByteArray→AV×Mem:=(r1 vStr).enc
abbrev zaM:RD:={ α:=ByteArray,enc:=zbu,dec:=(r1 vStr).dec,ok:=(r1 vStr).ok,de:=(r1 vStr).de }
def zcq:(((List zaq)×(List zaQ))×zaa)→AV×Mem:=(rTM (lCons (vSl 3 zaZ) (lOne (vSl 2 zbS))) (mBox 1000 2 zab zal)).enc
abbrev zdn:RD:={ α:=((List zaq)×(List zaQ))×zaa,enc:=zcq,dec:=(rTM (lCons (vSl 3 zaZ) (lOne (vSl 2 zbS))) (mBox 1000 2 zab zal)).dec,ok:=(rTM (lCons (vSl 3 zaZ) (lOne (vSl 2 zbS))) (mBox 1000 2 zab zal)).ok,de:=(rTM (lCons (vSl 3 zaZ) (lOne (vSl 2 zbS))) (mBox 1000 2 zab zal)).de }
def zcZ:(((List zaJ))×zaa)→AV×Mem:=(r1M (vNew 5 zbR zby) (mBox 1000 2 zab zal)).enc
abbrev zc1:RD:={ α:=((List zaJ))×zaa,enc:=zcZ,dec:=(r1M (vNew 5 zbR zby) (mBox 1000 2 zab zal)).dec,ok:=(r1M (vNew 5 zbR zby) (mBox 1000 2 zab zal)).ok,de:=(r1M (vNew 5 zbR zby) (mBox 1000 2 zab zal)).de }
def zeD:(zaN×zaa)→AV×Mem:=(r1M (vAgg zem) (mBox 1000 2 zab zal)).enc
abbrev zc2:RD:={ α:=zaN×zaa,enc:=zeD,dec:=(r1M (vAgg zem) (mBox 1000 2 zab zal)).dec,ok:=(r1M (vAgg zem) (mBox 1000 2 zab zal)).ok,de:=(r1M (vAgg zem) (mBox 1000 2 zab zal)).de }
def zfX:(zbd×zaa)→AV×Mem:=(r1M (vAgg zgj) (mBox 1000 2 zab zal)).enc
abbrev zei:RD:={ α:=zbd×zaa,enc:=zfX,dec:=(r1M (vAgg zgj) (mBox 1000 2 zab zal)).dec,ok:=(r1M (vAgg zgj) (mBox 1000 2 zab zal)).ok,de:=(r1M (vAgg zgj) (mBox 1000 2 zab zal)).de }
def zdE:(zaY×zaa)→AV×Mem:=(r1M (vAgg zeO) (mBox 1000 2 zab zal)).enc
abbrev zck:RD:={ α:=zaY×zaa,enc:=zdE,dec:=(r1M (vAgg zeO) (mBox 1000 2 zab zal)).dec,ok:=(r1M (vAgg zeO) (mBox 1000 2 zab zal)).ok,de:=(r1M (vAgg zeO) (mBox 1000 2 zab zal)).de }
def zec:(Int×zaa)→AV×Mem:=(r1M (vI .i64) (mBox 1000 2 zab zal)).enc
abbrev zag:RD:={ α:=Int×zaa,enc:=zec,dec:=(r1M (vI .i64) (mBox 1000 2 zab zal)).dec,ok:=(r1M (vI .i64) (mBox 1000 2 zab zal)).ok,de:=(r1M (vI .i64) (mBox 1000 2 zab zal)).de }
def zfV:(Bool×zaa)→AV×Mem:=(r1M vBool (mBox 1000 2 zab zal)).enc
abbrev zaP:RD:={ α:=Bool×zaa,enc:=zfV,dec:=(r1M vBool (mBox 1000 2 zab zal)).dec,ok:=(r1M vBool (mBox 1000 2 zab zal)).ok,de:=(r1M vBool (mBox 1000 2 zab zal)).de }
def zdJ:(zca×zaa)→AV×Mem:=(r1M (vAgg zfb) (mBox 1000 2 zab zal)).enc
abbrev zdL:RD:={ α:=zca×zaa,enc:=zdJ,dec:=(r1M (vAgg zfb) (mBox 1000 2 zab zal)).dec,ok:=(r1M (vAgg zfb) (mBox 1000 2 zab zal)).ok,de:=(r1M (vAgg zfb) (mBox 1000 2 zab zal)).de }
def zdI:(zbY×zaa)→AV×Mem:=(r1M (vAgg zi4) (mBox 1000 2 zab zal)).enc
abbrev zdK:RD:={ α:=zbY×zaa,enc:=zdI,dec:=(r1M (vAgg zi4) (mBox 1000 2 zab zal)).dec,ok:=(r1M (vAgg zi4) (mBox 1000 2 zab zal)).ok,de:=(r1M (vAgg zi4) (mBox 1000 2 zab zal)).de }
def zed:(GSeed×zaa)→AV×Mem:=(r1M (vAgg zeP) (mBox 1000 2 zab zal)).enc
abbrev zej:RD:={ α:=GSeed×zaa,enc:=zed,dec:=(r1M (vAgg zeP) (mBox 1000 2 zab zal)).dec,ok:=(r1M (vAgg zeP) (mBox 1000 2 zab zal)).ok,de:=(r1M (vAgg zeP) (mBox 1000 2 zab zal)).de }
def zc0:(((List zap))×zaa)→AV×Mem:=(r1M (vNew 7 zaX za7) (mBox 1000 2 zab zal)).enc
abbrev zc3:RD:={ α:=((List zap))×zaa,enc:=zc0,dec:=(r1M (vNew 7 zaX za7) (mBox 1000 2 zab zal)).dec,ok:=(r1M (vNew 7 zaX za7) (mBox 1000 2 zab zal)).ok,de:=(r1M (vNew 7 zaX za7) (mBox 1000 2 zab zal)).de }
def zeb:(((List zaz))×zaa)→AV×Mem:=(r1M (vNew 9 za2 zbm) (mBox 1000 2 zab zal)).enc
abbrev zeg:RD:={ α:=((List zaz))×zaa,enc:=zeb,dec:=(r1M (vNew 9 za2 zbm) (mBox 1000 2 zab zal)).dec,ok:=(r1M (vNew 9 za2 zbm) (mBox 1000 2 zab zal)).ok,de:=(r1M (vNew 9 za2 zbm) (mBox 1000 2 zab zal)).de }
def zb4:(GOp×zaa)→AV×Mem:=(r1M (vAgg dGOp) (mBox 1000 2 zab zal)).enc
abbrev zcy:RD:={ α:=GOp×zaa,enc:=zb4,dec:=(r1M (vAgg dGOp) (mBox 1000 2 zab zal)).dec,ok:=(r1M (vAgg dGOp) (mBox 1000 2 zab zal)).ok,de:=(r1M (vAgg dGOp) (mBox 1000 2 zab zal)).de }
def zhw:(ByteArray×ByteArray×Bool)→AV×Mem:=(rT (lCons vStr (lCons vStr (lOne vBool)))).enc
abbrev zfJ:RD:={ α:=ByteArray×ByteArray×Bool,enc:=zhw,dec:=(rT (lCons vStr (lCons vStr (lOne vBool)))).dec,ok:=(rT (lCons vStr (lCons vStr (lOne vBool)))).ok,de:=(rT (lCons vStr (lCons vStr (lOne vBool)))).de }
def zea:Int→AV×Mem:=(r1 (vI .i64)).enc
abbrev zee:RD:={ α:=Int,enc:=zea,dec:=(r1 (vI .i64)).dec,ok:=(r1 (vI .i64)).ok,de:=(r1 (vI .i64)).de }
def zgt:GOp→AV×Mem:=(r1 (vAgg dGOp)).enc
abbrev zcx:RD:={ α:=GOp,enc:=zgt,dec:=(r1 (vAgg dGOp)).dec,ok:=(r1 (vAgg dGOp)).ok,de:=(r1 (vAgg dGOp)).de }
def zbG:((List zaw))→AV×Mem:=(r1 (vNew 2 zad zcA)).enc
abbrev zaC:RD:={ α:=(List zaw),enc:=zbG,dec:=(r1 (vNew 2 zad zcA)).dec,ok:=(r1 (vNew 2 zad zcA)).ok,de:=(r1 (vNew 2 zad zcA)).de }
def zbj:(ByteArray×Bool)→AV×Mem:=(rT (lCons vStr (lOne vBool))).enc
abbrev zbc:RD:={ α:=ByteArray×Bool,enc:=zbj,dec:=(rT (lCons vStr (lOne vBool))).dec,ok:=(rT (lCons vStr (lOne vBool))).ok,de:=(rT (lCons vStr (lOne vBool))).de }
def zgv:((List ByteArray))→AV×Mem:=(r1 (vNew 1 zav dStr)).enc
abbrev zdq:RD:={ α:=(List ByteArray),enc:=zgv,dec:=(r1 (vNew 1 zav dStr)).dec,ok:=(r1 (vNew 1 zav dStr)).ok,de:=(r1 (vNew 1 zav dStr)).de }
def zfs:(zaq×zaa)→AV×Mem:=(r1M (vAgg zaZ) (mBox 1000 2 zab zal)).enc
abbrev zbH:RD:={ α:=zaq×zaa,enc:=zfs,dec:=(r1M (vAgg zaZ) (mBox 1000 2 zab zal)).dec,ok:=(r1M (vAgg zaZ) (mBox 1000 2 zab zal)).ok,de:=(r1M (vAgg zaZ) (mBox 1000 2 zab zal)).de }
def ze2:(zaQ×zaa)→AV×Mem:=(r1M (vAgg zbS) (mBox 1000 2 zab zal)).enc
abbrev zdo:RD:={ α:=zaQ×zaa,enc:=ze2,dec:=(r1M (vAgg zbS) (mBox 1000 2 zab zal)).dec,ok:=(r1M (vAgg zbS) (mBox 1000 2 zab zal)).ok,de:=(r1M (vAgg zbS) (mBox 1000 2 zab zal)).de }
def zdl:(((List Int))×zaa)→AV×Mem:=(r1M (vNew 1 zb5 zaO) (mBox 1000 2 zab zal)).enc
abbrev zcs:RD:={ α:=((List Int))×zaa,enc:=zdl,dec:=(r1M (vNew 1 zb5 zaO) (mBox 1000 2 zab zal)).dec,ok:=(r1M (vNew 1 zb5 zaO) (mBox 1000 2 zab zal)).ok,de:=(r1M (vNew 1 zb5 zaO) (mBox 1000 2 zab zal)).de }
def zgu:zaq→AV×Mem:=(r1 (vAgg zaZ)).enc
abbrev zdT:RD:={ α:=zaq,enc:=zgu,dec:=(r1 (vAgg zaZ)).dec,ok:=(r1 (vAgg zaZ)).ok,de:=(r1 (vAgg zaZ)).de }
def zdm:(zap×zaa)→AV×Mem:=(r1M (vAgg za7) (mBox 1000 2 zab zal)).enc
abbrev zdp:RD:={ α:=zap×zaa,enc:=zdm,dec:=(r1M (vAgg za7) (mBox 1000 2 zab zal)).dec,ok:=(r1M (vAgg za7) (mBox 1000 2 zab zal)).ok,de:=(r1M (vAgg za7) (mBox 1000 2 zab zal)).de }
def zfW:(zaz×zaa)→AV×Mem:=(r1M (vAgg zbm) (mBox 1000 2 zab zal)).enc
abbrev zeh:RD:={ α:=zaz×zaa,enc:=zfW,dec:=(r1M (vAgg zbm) (mBox 1000 2 zab zal)).dec,ok:=(r1M (vAgg zbm) (mBox 1000 2 zab zal)).ok,de:=(r1M (vAgg zbm) (mBox 1000 2 zab zal)).de }
def zcS:((List Int)×Bool)→AV×Mem:=(rT (lCons (vSl 1 zaO) (lOne vBool))).enc
abbrev zef:RD:={ α:=(List Int)×Bool,enc:=zcS,dec:=(rT (lCons (vSl 1 zaO) (lOne vBool))).dec,ok:=(rT (lCons (vSl 1 zaO) (lOne vBool))).ok,de:=(rT (lCons (vSl 1 zaO) (lOne vBool))).de }
def zbC:(Int×Bool)→AV×Mem:=(rT (lCons (vI .i64) (lOne vBool))).enc
abbrev zcr:RD:={ α:=Int×Bool,enc:=zbC,dec:=(rT (lCons (vI .i64) (lOne vBool))).dec,ok:=(rT (lCons (vI .i64) (lOne vBool))).ok,de:=(rT (lCons (vI .i64) (lOne vBool))).de }
def resTab:List RD:=[rRaw,rRaw,rRaw,zar,zar,zar,zg3,zdM,zeI,zbD,zdS,zar,zbD,zbJ,zar,zaM,zdn,zc1,zc2,zei,zck,zag,zaP,zdL,zdK,zej,zc3,zeg,zcy,rRaw,zaM,zfJ,zee,zcx,zaC,zbc,zar,zaM,zdq,zce,zar,zar,zar,zaM,zaM,zbH,zdo,zag,zcs,zdT,zdp,zeh,rRaw,rRaw,zaC,zaC,zbc,zar,zar,rRaw,rRaw,zef,zcr,rRaw,rRaw,rRaw,rRaw,rRaw,rRaw,rRaw,zbc,rRaw,rRaw,rRaw,rRaw,rRaw,rRaw,rRaw,rRaw,rRaw,rRaw,rRaw,rRaw,rRaw,rRaw,rRaw,rRaw,rRaw,rRaw,rRaw,rRaw,rRaw,rRaw,rRaw,rRaw,rRaw,rRaw,rRaw,rRaw,rRaw,rRaw,rRaw,rRaw,rRaw,rRaw,rRaw,rRaw,rRaw,rRaw,rRaw,rRaw,rRaw,rRaw,rRaw,rRaw,rRaw,rRaw,rRaw,rRaw,rRaw,rRaw,rRaw]
def zT:Dic:=Dic.of tyTab resTab
abbrev zgG:Fr:=⟨Tryd.prog,zC,zA,3,Tryd.f3,[]⟩
abbrev zn7:Fr:=⟨Tryd.prog,zC,zA,4,Tryd.f4,[]⟩
abbrev zn6:Fr:=⟨Tryd.prog,zC,zA,5,Tryd.f5,[]⟩
abbrev zoI:Fr:=⟨Tryd.prog,zC,zA,6,Tryd.f6,[]⟩
abbrev zdG:Fr:=⟨Tryd.prog,zC,zA,7,Tryd.f7,[(1000,⟨0,0,[],false⟩)]⟩
abbrev zbx:Fr:=⟨Tryd.prog,zC,zA,8,Tryd.f8,[(1000,⟨0,0,[],false⟩)]⟩
abbrev zau:Fr:=⟨Tryd.prog,zC,zA,9,Tryd.f9,[]⟩
abbrev ziX:Fr:=⟨Tryd.prog,zC,zA,10,Tryd.f10,[]⟩
abbrev zll:Fr:=⟨Tryd.prog,zC,zA,11,Tryd.f11,[]⟩
abbrev zak:Fr:=⟨Tryd.prog,zC,zA,12,Tryd.f12,[]⟩
abbrev zam:Fr:=⟨Tryd.prog,zC,zA,13,Tryd.f13,[]⟩
abbrev zn9:Fr:=⟨Tryd.prog,zC,zA,14,Tryd.f14,[]⟩
abbrev zk0:Fr:=⟨Tryd.prog,zC,zA,15,Tryd.f15,[]⟩
abbrev zc8:Fr:=⟨Tryd.prog,zC,zA,16,Tryd.f16,[(1000,⟨0,0,[],false⟩)]⟩
abbrev zgH:Fr:=⟨Tryd.prog,zC,zA,17,Tryd.f17,[(1000,⟨0,0,[],false⟩)]⟩
abbrev zj2:Fr:=⟨Tryd.prog,zC,zA,18,Tryd.f18,[(1000,⟨0,0,[],false⟩)]⟩
abbrev zlU:Fr:=⟨Tryd.prog,zC,zA,19,Tryd.f19,[(1000,⟨0,0,[],false⟩)]⟩
abbrev ziB:Fr:=⟨Tryd.prog,zC,zA,20,Tryd.f20,[(1000,⟨0,0,[],false⟩)]⟩
abbrev zlS:Fr:=⟨Tryd.prog,zC,zA,21,Tryd.f21,[(1000,⟨0,0,[],false⟩)]⟩
abbrev zlR:Fr:=⟨Tryd.prog,zC,zA,22,Tryd.f22,[(1000,⟨0,0,[],false⟩)]⟩
abbrev zhB:Fr:=⟨Tryd.prog,zC,zA,23,Tryd.f23,[(1000,⟨0,0,[],false⟩)]⟩
abbrev zhA:Fr:=⟨Tryd.prog,zC,zA,24,Tryd.f24,[(1000,⟨0,0,[],false⟩)]⟩
abbrev zh1:Fr:=⟨Tryd.prog,zC,zA,25,Tryd.f25,[(1000,⟨0,0,[],false⟩)]⟩
abbrev zcT:Fr:=⟨Tryd.prog,zC,zA,26,Tryd.f26,[(1000,⟨0,0,[],false⟩)]⟩
abbrev zd0:Fr:=⟨Tryd.prog,zC,zA,27,Tryd.f27,[(1000,⟨0,0,[],false⟩)]⟩
abbrev zgg:Fr:=⟨Tryd.prog,zC,zA,28,Tryd.f28,[(1000,⟨0,0,[],false⟩)]⟩
abbrev zhY:Fr:=⟨Tryd.prog,zC,zA,32,Tryd.f32,[]⟩
abbrev zmq:Fr:=⟨Tryd.prog,zC,zA,33,Tryd.f33,[]⟩
abbrev zhz:Fr:=⟨Tryd.prog,zC,zA,34,Tryd.f34,[]⟩
abbrev zgF:Fr:=⟨Tryd.prog,zC,zA,35,Tryd.f35,[]⟩
abbrev zna:Fr:=⟨Tryd.prog,zC,zA,36,Tryd.f36,[]⟩
abbrev zgE:Fr:=⟨Tryd.prog,zC,zA,39,Tryd.f39,[(1000,⟨0,0,[],false⟩)]⟩
abbrev zki:Fr:=⟨Tryd.prog,zC,zA,40,Tryd.f40,[]⟩
abbrev zn8:Fr:=⟨Tryd.prog,zC,zA,41,Tryd.f41,[]⟩
abbrev zhC:Fr:=⟨Tryd.prog,zC,zA,42,Tryd.f42,[]⟩
abbrev zhZ:Fr:=⟨Tryd.prog,zC,zA,44,Tryd.f44,[]⟩
abbrev zfm:Fr:=⟨Tryd.prog,zC,zA,45,Tryd.f45,[(1000,⟨0,0,[],false⟩)]⟩
abbrev zeK:Fr:=⟨Tryd.prog,zC,zA,46,Tryd.f46,[(1000,⟨0,0,[],false⟩)]⟩
abbrev zlT:Fr:=⟨Tryd.prog,zC,zA,47,Tryd.f47,[(1000,⟨0,0,[],false⟩)]⟩
abbrev zg6:Fr:=⟨Tryd.prog,zC,zA,48,Tryd.f48,[(1000,⟨0,0,[],false⟩)]⟩
abbrev zkh:Fr:=⟨Tryd.prog,zC,zA,49,Tryd.f49,[]⟩
abbrev zg7:Fr:=⟨Tryd.prog,zC,zA,50,Tryd.f50,[(1000,⟨0,0,[],false⟩)]⟩
abbrev zfM:Fr:=⟨Tryd.prog,zC,zA,51,Tryd.f51,[(1000,⟨0,0,[],false⟩)]⟩
abbrev zhy:Fr:=⟨Tryd.prog,zC,zA,54,Tryd.f54,[]⟩
abbrev zk1:Fr:=⟨Tryd.prog,zC,zA,55,Tryd.f55,[]⟩
abbrev zg4:Fr:=⟨Tryd.prog,zC,zA,56,Tryd.f56,[]⟩
abbrev zm9:Fr:=⟨Tryd.prog,zC,zA,57,Tryd.f57,[]⟩
abbrev zfw:Fr:=⟨Tryd.prog,zC,zA,58,Tryd.f58,[]⟩
abbrev zh0:Fr:=⟨Tryd.prog,zC,zA,61,Tryd.f61,[]⟩
abbrev zg5:Fr:=⟨Tryd.prog,zC,zA,62,Tryd.f62,[]⟩
abbrev cw [Dr]:zaH:=callw Tryd.prog zC zA
abbrev zP:Program:=Tryd.prog
@[simp] theorem zaE {β:Type} (v:Bool) (k:Bool→Option β):callD zar (some (zay v)) k=k v:=zaI (D:=zar) k
@[simp] theorem zmz {β:Type} (v:zaa) (k:zaa→Option β):callD zg3 (some (ziO v)) k=k v:=zaI (D:=zg3) k
@[simp] theorem zi3 {β:Type} (v:zaV×zaa) (k:(zaV×zaa)→Option β):callD zdM (some (zcD v)) k=k v:=zaI (D:=zdM) k
@[simp] theorem zka {β:Type} (v:((List GOp))×zaa) (k:(((List GOp))×zaa)→Option β):callD zeI (some (zeH v)) k=k v:=zaI (D:=zeI) k
@[simp] theorem zcE {β:Type} (v:ByteArray×Int) (k:(ByteArray×Int)→Option β):callD zbD (some (zd9 v)) k=k v:=zaI (D:=zbD) k
@[simp] theorem zg8 {β:Type} (v:(List GOp)×Int×Int) (k:((List GOp)×Int×Int)→Option β):callD zdS (some (zfg v)) k=k v:=zaI (D:=zdS) k
@[simp] theorem zcb {β:Type} (v:GOp×Int) (k:(GOp×Int)→Option β):callD zbJ (some (zgs v)) k=k v:=zaI (D:=zbJ) k
@[simp] theorem za4 {β:Type} (v:ByteArray) (k:ByteArray→Option β):callD zaM (some (zbu v)) k=k v:=zaI (D:=zaM) k
@[simp] theorem ziE {β:Type} (v:((List zaq)×(List zaQ))×zaa) (k:(((List zaq)×(List zaQ))×zaa)→Option β):callD zdn (some (zcq v)) k=k v:=zaI (D:=zdn) k
@[simp] theorem zik {β:Type} (v:((List zaJ))×zaa) (k:(((List zaJ))×zaa)→Option β):callD zc1 (some (zcZ v)) k=k v:=zaI (D:=zc1) k
@[simp] theorem zil {β:Type} (v:zaN×zaa) (k:(zaN×zaa)→Option β):callD zc2 (some (zeD v)) k=k v:=zaI (D:=zc2) k
@[simp] theorem zju {β:Type} (v:zbd×zaa) (k:(zbd×zaa)→Option β):callD zei (some (zfX v)) k=k v:=zaI (D:=zei) k
@[simp] theorem zhr {β:Type} (v:zaY×zaa) (k:(zaY×zaa)→Option β):callD zck (some (zdE v)) k=k v:=zaI (D:=zck) k
@[simp] theorem zaj {β:Type} (v:Int×zaa) (k:(Int×zaa)→Option β):callD zag (some (zec v)) k=k v:=zaI (D:=zag) k
@[simp] theorem zaB {β:Type} (v:Bool×zaa) (k:(Bool×zaa)→Option β):callD zaP (some (zfV v)) k=k v:=zaI (D:=zaP) k
@[simp] theorem zi2 {β:Type} (v:zca×zaa) (k:(zca×zaa)→Option β):callD zdL (some (zdJ v)) k=k v:=zaI (D:=zdL) k
@[simp] theorem zf1 {β:Type} (v:zbY×zaa) (k:(zbY×zaa)→Option β):callD zdK (some (zdI v)) k=k v:=zaI (D:=zdK) k
@[simp] theorem zjv {β:Type} (v:GSeed×zaa) (k:(GSeed×zaa)→Option β):callD zej (some (zed v)) k=k v:=zaI (D:=zej) k
@[simp] theorem zim {β:Type} (v:((List zap))×zaa) (k:(((List zap))×zaa)→Option β):callD zc3 (some (zc0 v)) k=k v:=zaI (D:=zc3) k
@[simp] theorem zjs {β:Type} (v:((List zaz))×zaa) (k:(((List zaz))×zaa)→Option β):callD zeg (some (zeb v)) k=k v:=zaI (D:=zeg) k
@[simp] theorem zkb {β:Type} (v:GOp×zaa) (k:(GOp×zaa)→Option β):callD zcy (some (zb4 v)) k=k v:=zaI (D:=zcy) k
@[simp] theorem zlc {β:Type} (v:ByteArray×ByteArray×Bool) (k:(ByteArray×ByteArray×Bool)→Option β):callD zfJ (some (zhw v)) k=k v:=zaI (D:=zfJ) k
@[simp] theorem zjq {β:Type} (v:Int) (k:Int→Option β):callD zee (some (zea v)) k=k v:=zaI (D:=zee) k
@[simp] theorem zez {β:Type} (v:GOp) (k:GOp→Option β):callD zcx (some (zgt v)) k=k v:=zaI (D:=zcx) k
@[simp] theorem zbe {β:Type} (v:(List zaw)) (k:((List zaw))→Option β):callD zaC (some (zbG v)) k=k v:=zaI (D:=zaC) k
@[simp] theorem zb9 {β:Type} (v:ByteArray×Bool) (k:(ByteArray×Bool)→Option β):callD zbc (some (zbj v)) k=k v:=zaI (D:=zbc) k
@[simp] theorem zgJ {β:Type} (v:(List ByteArray)) (k:((List ByteArray))→Option β):callD zdq (some (zgv v)) k=k v:=zaI (D:=zdq) k
@[simp] theorem zfi {β:Type} (v:Bool×GOp) (k:(Bool×GOp)→Option β):callD zce (some (zcd v)) k=k v:=zaI (D:=zce) k
@[simp] theorem zct {β:Type} (v:zaq×zaa) (k:(zaq×zaa)→Option β):callD zbH (some (zfs v)) k=k v:=zaI (D:=zbH) k
@[simp] theorem ziF {β:Type} (v:zaQ×zaa) (k:(zaQ×zaa)→Option β):callD zdo (some (ze2 v)) k=k v:=zaI (D:=zdo) k
@[simp] theorem zfA {β:Type} (v:((List Int))×zaa) (k:(((List Int))×zaa)→Option β):callD zcs (some (zdl v)) k=k v:=zaI (D:=zcs) k
@[simp] theorem zd4 {β:Type} (v:zaq) (k:zaq→Option β):callD zdT (some (zgu v)) k=k v:=zaI (D:=zdT) k
@[simp] theorem ziG {β:Type} (v:zap×zaa) (k:(zap×zaa)→Option β):callD zdp (some (zdm v)) k=k v:=zaI (D:=zdp) k
@[simp] theorem zjt {β:Type} (v:zaz×zaa) (k:(zaz×zaa)→Option β):callD zeh (some (zfW v)) k=k v:=zaI (D:=zeh) k
@[simp] theorem zjr {β:Type} (v:(List Int)×Bool) (k:((List Int)×Bool)→Option β):callD zef (some (zcS v)) k=k v:=zaI (D:=zef) k
@[simp] theorem zfz {β:Type} (v:Int×Bool) (k:(Int×Bool)→Option β):callD zcr (some (zbC v)) k=k v:=zaI (D:=zcr) k
theorem ptT [Dr] {y:AV×Mem} (cut:List Nat) {R:Fr} {j:Nat} {st:St} {x:Option (AV×Mem)} (h:x=some y) (hx:tGo R zT cut 100000 (decide (j≠0)) (ptS R.fn j) st=x:=by kernel_rfl):pt R j st=some y:=pt_of zT cut hx h
theorem cwT [Dr] {y:AV×Mem} (R:Fr) (cut:List Nat) {args:List AV} {ms:Mem} {x:Option (AV×Mem)} (h:x=some y) (ho:R.C.orc R.f args ms=none:=by rfl) (hf:R.P.funcs[R.f]?=some R.fn:=by kernel_rfl) (he:enters R.P R.f=true:=by kernel_rfl)
  (hN:decide (R.fn.ntmps≤1000∧args.length≤R.fn.ntmps)=true:=by kernel_rfl) (hm:R.ms=Go.Ab.blank ms:=by kernel_rfl)
  (hx:tGo R zT cut 100000 false (ptK R.fn 0) { t:=argTab 0 args,m:=ms }=x:=by kernel_rfl):callw R.P R.C R.F R.f args ms=some y:=zjw R zT cut ho hf he hN hm hx h
end Go.Proofs.YtdclabgakicjeaaDoor
end
