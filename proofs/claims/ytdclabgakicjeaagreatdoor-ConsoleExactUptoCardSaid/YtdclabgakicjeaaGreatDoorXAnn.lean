/- Annotations of the seat's functions: what lives behind each region, which slots own rows, which arguments are written; how results read. -/
import Derived.Test.YtdclabgakicjeaaGreatDoorXTy
import Derived.Test.YtdclabgakicjeaaGreatDoorProg
import Derived.Test.YtdclabgakicjeaaGreatDoorXSp
set_option linter.unusedSimpArgs false
set_option linter.unusedVariables false
set_option linter.unusedSectionVars false
noncomputable section
namespace Go.Proofs.YtdclabgakicjeaaGreatDoor
open Go.Ab
abbrev LL:=List (List AV)
def zC:Cfg:={ wrt:=atReg [(7,[0]),(8,[0]),(9,[0]),(10,[0]),(11,[0]),(27,[0]),(28,[0]),(29,[0]),(30,[0]),(31,[0]),(32,[0]),(33,[0]),(34,[0]),(35,[0]),(36,[0]),(37,[0]),(45,[0]),(48,[0]),(63,[0]),(64,[0]),(65,[0]),(67,[0]),(68,[0])],orc:=zOrc }
def anK (l:List Nat) (v:List (List Nat)) (o:List (Nat×List (Nat×Nat×TypeId))):Ann:={ lits:=l,live:=fun i=>v[i]?,own:=atReg o }
def zl2:Ann:=anK [] [[0,2,6,8,9],[0,2,6,8,9,91],[10],[2,6,8,9,11],[2,6,8,9,11,12],[2,6,8,9,11,13],[2,6,8,9,11,13,106],[2,6,8,9,11,13,14],[2,6,8,9,11,13,14,114],[2,6,8,9,11,13],[2,6,8,9,11,13,14,114,122],[2,6,8,9,11,13],[2,6,8,9,11,13,14,114,130],[2,6,8,9,11,13],[2,6,8,9,11,13,14,139],[2,6,8,9,11,13],[2,8,9,11,13],[2,8,9,11,13,152,153],[2,8,9,11,13,152,153,154],[2,8,9,11,13,15,152,153],[2,8,9,11,13,15,16,17,152,153],[2,8,9,11,13,16,17,18,19,152,153],[2,8,9,11,13,152,153,179],[10],[2,8,9,11,13,152,153],[2,8,9,11,13,20,21],[2,8,9,11,13,20,21,22,23],[2,8,9,11,13,20,21,22,23,24,25],[2,8,9,11,20,21,22,23,24,25,26,27],[2,8,9,11,26,226],[10],[2,8,9,11,26,28],[2,8,9,11,26,28,29],[2,8,9,11,26,28,29,230],[2,8,9,11,26,28,29],[2,8,9,11,26,28,29,30],[2,8,9,11,26,28,29],[2,8,9,11,26,28,29,244],[2,8,9,11,26,28,29],[8,9,257,258],[8,9,257,258,259],[8,9,32,257,258],[8,9,32,33,34,257,258],[8,9,32,33,34,35,36,257,258],[8,9,32,33,34,35,36,37,38,39,257,258],[8,9,33,34,35,36,37,38,39,40,41,42,257,258],[8,9,257,258,307],[10],[8,9,257,258],[10]] [(5,[(13,31,36)]),(16,[(13,31,36)])]
def zf5:Ann:=anK [] [[0],[2]] []
def zsU:Ann:=anK [] [[],[1,2],[1,2,3,4],[1,2,3,4,5,6],[1,2,3,4,5,6,8],[1,2,3,4,5,6,8,9,10,11],[0]] []
def zoi:Ann:={ anK [] [[0,2],[0,2,3,4],[0,2,3,5],[0,2,3,5,6],[0,2,3,5,6,7],[0,2,3,5,6,7,32],[0,2,3,5,6,7],[0,2,3,5,6,7],[0,2,3,5,6,7,8],[0,2,3,5,6,7,8,45],[0,2,3,5,6,7,8],[0,2,3,5,6,7],[0,2,3,5],[0,2,3,5,59],[0,2,3,5,9],[2,5],[2]] [] with cel:=fun _=>[(5,10,900,1,101)] }
def zql:Ann:=anK [] [[0,2,4],[0,2,4,7],[0,2,4,7,8],[0,2,4,7,8,9],[0,2,4,7,8,9,21],[0,2,4,7,8,9],[0,2,4,7,8,9,26],[0,2,4,7,8,9],[0,2,4,7,8,9,49],[0,2,4,7,8,9],[0,2,4,7,8,10],[0,2,4,7,8,10,67],[0,2,4,7,8,11],[0,2,4,7,8,11,12],[0,2,4,7,8,11,12,78],[0,2,4,7,8,11,12],[0,2,4,7,8,11,12],[0,2,4,7,8,13],[0,2,4,7,8,13,91],[0,2,4,7,8,13],[0,2,4,7,8,13,95],[0,2,4,7,8,13],[0,2,4,7,8,13,95,104],[0,2,4,7,8,13],[0,2,4,7,8,13,95,113],[0,2,4,7,8,13],[0,2,4,7,8,13,122],[0,2,4,7,8,13,125],[0,2,4,7,8,13],[6]] [(1,[(7,31,36)]),(7,[(7,31,36)]),(9,[(7,31,36)]),(16,[(7,31,36)]),(21,[(7,31,36)]),(23,[(7,31,36)]),(25,[(7,31,36)]),(28,[(7,31,36)])]
def zhn:Ann:=anK [] [[0,1],[4]] []
def zpA:Ann:=anK [] [[0,1],[0,1,19],[4],[0,1,5],[1,5],[1,5,40],[5],[4]] []
def zps:Ann:=anK [27] [[1],[1,4],[1,4,16],[2,3],[1,4,5],[1,4,5,6,7],[1,5,6,7,8],[1,5,7,8,28,29,30],[1,5,7,8,28,29,30,31],[1,5,7,8,9,10,28,29,30],[1,5,7,8,9,10,11,12,28,29,30],[1,5,7,8,9,10,11,28,29,30,41],[2,3],[1,5,7,8,9,10,28,29,30],[1,5,7,8,9,10,28,29,30,48],[1,5,7,8,28,29,30],[1,5,7,8,28,29,30],[1,5,7,8,28,29,30],[8,73],[2,3],[2,3]] [(6,[(8,1,9)]),(13,[(8,1,9)])]
def zrn:Ann:=anK [] [[1],[1,31],[2,3],[1,4],[1,4,5,6],[4,46],[2,3],[2,3]] []
def zpu:Ann:=anK [] [[0],[0,11],[2,3],[0,4],[4,12,13,14],[4,12,13,14,15],[4,6,12,13,14],[4,7,8,12,13,14],[4,7,8,12,13,14,24],[2,3],[4,12,13,14],[4,12,13,14],[2,3]] []
def zrp:Ann:=anK [] [[0],[0,10],[2,3],[0,4],[0,4,5],[0,4,5,14],[0,4,5],[0,4,5,6,7],[0,4,5,6,7,26],[2,3],[0,4,5],[2,3]] []
def zlz:Ann:={ anK [] [[],[0]] [] with frz:=true }
def zqj:Ann:=anK [] [[0,2],[2,4],[2,4,12,13],[2,4,12,13,14],[2,4,5,6,12,13],[2,4,5,6,12,13,22],[2,4,5,27],[2,3],[2,4,5,7],[2,4,7,32,33,34],[2,4,7,32,33,34,35],[2,4,7,8,9,32,33,34],[2,4,7,32,33,34,46],[2,3],[2,4,7,32,33,34],[2,3],[2,4,12,13],[2,3]] []
def zsq:Ann:=anK [] [[0,2],[2,4],[2,4,5],[2,4,5,6],[2,4,5,6,20],[2,4,5,6],[2,4,5,6,43],[2,4,5,6,7],[2,4,5,6,7,8],[2,4,5,6,7,8,9],[2,4,5,6,7,8,9,51],[2,4,5,6,7,8,9],[2,4,5,6,7,8,9,61],[2,4,5,6,7,8,9,10,11],[2,4,5,6,7,8,9,10,72],[2,3],[2,4,5,6,7,8,9],[2,4,5,6,7,8,9,12,13],[2,4,5,6,7,8,9,12,88],[2,3],[2,4,5,6,7,8,9],[2,3],[2,3]] [(7,[(7,1,3)]),(8,[(8,1,22)]),(16,[(7,1,3)]),(20,[(8,1,22)])]
def zrl:Ann:=anK [] [[0,2],[0,2,5],[0,2,5,12],[0,2,5],[2,5,6,7,8],[2,5,6,7,22],[2,3,4],[2,5,7,9,10],[2,5,7,9,10,30],[2,3,4],[2,5,7],[0,2,5],[2,40],[2,3,4],[2,3,4]] [(0,[(2,31,36)]),(6,[(2,31,36)]),(9,[(2,31,36)]),(10,[(2,31,36)]),(13,[(2,31,36)]),(14,[(2,31,36)])]
def zsW:Ann:=anK [] [[0],[0,5],[0,5,6,7],[0,5,6,7,14],[0,5,6,7],[0,5,6,7,8],[0,5,6,7,8,27],[0,5,6,7,8],[0,5,7,8,9,10],[0,5,7,8,9,45],[2,3,4],[0,5,7,8],[0,5,6,7],[5,55],[2,3,4],[2,3,4]] [(1,[(5,31,36)]),(11,[(5,31,36)])]
def zka:Ann:=anK [] [[2,3],[4]] []
def ztz:Ann:=anK [] [[0,1],[0,1,10],[4],[0,1,12,13],[0,1,12,13,14],[0,1,5,12,13],[0,1,12,13,25],[4],[0,1,12,13],[4]] []
def zob:Ann:=anK [] [[1],[1,3],[1,3,8],[1,3,8,9],[2],[1,3,8,19],[2],[1,3,23],[2],[2]] []
def zqo:Ann:=anK [] [[1],[1,4],[1,4,5],[2],[1,4,17],[2],[1,23],[2],[2]] []
def zpt:Ann:=anK [] [[1],[1,3],[1,3,4],[1,3,4,12,13,14],[1,3,4,12,13,14,15],[1,3,4,6,12,13,14],[1,3,4,6,12,13,14],[1,3,4,12,13,14],[1,3,4,12,13,14],[1,3,4,32,33,34],[1,3,4,32,33,34,35],[1,3,4,8,32,33,34],[1,3,4,8,9,32,33,34],[1,3,4,9,32,33,34,42],[1,3,4,32,33,34],[1,3,4,32,33,34],[1,3,4,32,33,34],[1,3,4],[3],[2]] []
def zro:Ann:=anK [] [[1],[1,3],[1,3,4],[1,3,4,14],[1,3,4],[1,3,4,5],[1,3,4,5],[1,3,4,5,6],[1,3,4,5,6,35],[1,3,4,5,6],[1,3,4,5,6],[1,3,7],[1,3,7,51],[1,3,7],[1,3,7,8],[1,3,7,8,66],[1,3,7],[1,3,7],[1,3],[1,3,9],[1,3,9,97],[1,3,9],[1,3,9],[2]] []
def zm8:Ann:=anK [9] [[0],[0,4],[0,4,11],[0,4],[0,4,18],[0,4],[0,4,5],[0,4,5,6],[0,4,5,6,27],[0,4,5,6],[0,4,5,6],[2,3]] [(1,[(4,3,98)]),(3,[(4,3,98)]),(5,[(4,3,98)]),(6,[(5,2,166)]),(10,[(5,2,166)])]
def zmP:Ann:=anK [] [[0],[0,3],[0,3,4],[0,3,4,5],[0,3,4,5,10],[0,3,4,5],[0,3,4,5],[0,3,4,5],[2]] [(1,[(3,5,169)]),(7,[(3,5,169)])]
def zmQ:Ann:=anK [] [[0,2],[0,2,3],[2]] []
def zj9:Ann:=anK [] [[0,2],[2]] []
def zog:Ann:={ anK [18] [[0,2],[0,2,3,4],[0,2,3,4,5],[0,2,3,4,5,6],[0,2,3,4,5,6,24],[0,2,3,4,5,6],[0,2,3,4,5,6],[0,2,3,4,5,6],[2]] [] with cel:=fun _=>[(5,0,900,4,173)] }
def zof:Ann:={ anK [] [[0,1,4],[0,1,4,5],[0,1,4,5,6],[0,1,4,5,6,13],[0,1,4,5,6],[0,1,4,5,6],[4,5],[4]] [] with cel:=fun _=>[(5,0,900,3,175)] }
def zpB:Ann:={ anK [] [[0,1,5,6],[0,1,5,6,7],[0,6,7,8],[0,6,7,8,9],[0,6,7,8,9,20],[0,6,7,8,9],[0,6,7,8,9],[6]] [] with cel:=fun _=>[(7,1,900,1,3)] }
def zmR:Ann:=anK [] [[0,1,2],[0,1,2,7],[0,1,2,7,8],[0,1,2,7,8,13],[0,1,2,7,8],[0,1,2,7,8,9],[0,1,2,7,8,9,10],[0,1,2,7,8,9,10,19],[0,1,2,7,8,9,10],[0,1,2,7,8,9,10,28],[0,1,2,7,8,9,10],[0,1,2,7,8,9,11],[0,1,2,7,8,9,11,43],[0,1,2,7,8,9,11],[0,1,2,7,8,9,11,48],[0,1,2,7,8,9,11],[6]] [(1,[(7,7,26)]),(5,[(9,3,98)]),(10,[(9,3,98)]),(15,[(7,7,26)])]
def zpy:Ann:=anK [] [[0,2,4],[0,2,4,7],[0,2,4,7,8],[0,2,4,7,8,17],[0,2,4,7,8],[0,2,4,7,8,9],[0,2,4,7,8,9,10],[0,2,4,7,8,9,10,32],[0,2,4,7,8,9,10],[0,2,4,7,8,9,10,11],[0,2,4,7,8,9,10,11,39],[0,2,4,7,8,9,10,11],[0,2,4,7,8,9,10,11,53],[0,2,4,7,8,9,10,11,12],[0,2,4,7,8,9,10,11],[6]] [(1,[(7,9,30)]),(14,[(7,9,30)])]
def zqm:Ann:=anK [] [[0,2,3,5,8],[0,2,3,5,8,9],[0,2,3,5,8,9,20],[0,2,3,5,8,9,20,21],[8],[0,2,3,5,8,9,20,31],[8],[0,2,3,5,8,9,20,41],[0,5,8,10],[0,5,8,10,56],[8,10],[8],[0,2,3,5,8,9,20,72],[8],[0,2,3,5,8,9,20,90],[0,2,3,5,8,9,90],[8],[0,3,8,9,113],[8],[8]] []
def zpv:Ann:=anK [] [[1],[1,5],[1,5,6],[1,3,5],[1,3,4,5],[1,3,5,42],[2],[1,5],[2]] []
def zqk:Ann:=anK [] [[0,2],[2,3],[2,3,4],[2],[2,3,7],[2],[2,3,11],[2],[2,3,15],[2],[2,3,19],[2],[2,3,22],[2],[2,3,26],[2],[2,3,30],[2],[2,3,33],[2],[2,3,36],[2],[2,39],[2],[2]] []
def zod:Ann:=anK [] [[0,1],[1,8],[1,8,9],[4],[1,8,25],[5],[5,6],[4],[1,8,58],[7],[4],[1,8,83],[4],[1,8,95],[4],[1,8,111],[4],[1,8,123],[4],[1,8,135],[4],[1,8,147],[4],[1,8,160],[1,8,160],[4],[1,168],[4],[4]] [(0,[(4,2,123)]),(3,[(4,2,123)]),(7,[(4,2,123)]),(10,[(4,2,123)]),(12,[(4,2,123)]),(14,[(4,2,123)]),(16,[(4,2,123)]),(18,[(4,2,123)]),(20,[(4,2,123)]),(22,[(4,2,123)]),(25,[(4,2,123)]),(27,[(4,2,123)]),(28,[(4,2,123)])]
def zmO:Ann:=anK [] [[1],[1,6],[2,3],[2,3]] []
def zrm:Ann:=anK [] [[2,3],[2,3,5,6],[2,3,5,6,7,8],[4]] []
def zrs:Ann:=anK [] [[0,1],[0,1,12],[0,1,12,13],[4],[0,1,15],[4],[0,1,5],[0,1,5,22],[0,1,5,29],[0,1,5],[0,1,5],[0,1,5,39,40,41],[0,1,5,39,40,41,42],[0,1,5,7,39,40,41],[0,1,5,7,39,40,41,49],[0,1,5,7,39,40,41],[0,1,5,39,40,41],[0,1,5,39,40,41],[0,1,5,8],[0,1,8],[0,1,8],[1,8,63,64,65],[1,8,63,64,65,66],[1,8,10,63,64,65],[1,8,10,63,64,65],[1,8,63,64,65],[1,8,63,64,65],[4]] []
def zsY:Ann:=anK [23,33] [[1],[1,3,4,5],[1,3,4,5,6],[1,3,4,5,6,7],[1,3,4,5,6,7,34],[2],[1,3,4,5,6,7,49],[2],[1,3,5,6,7,70],[2],[1,3,5,6,7,92],[2],[1,3,5,6,7,107],[2],[1,5,7,119],[2],[1,5,7,131],[2],[1,5,7,146],[2],[1,156],[2],[1,167],[2],[1,175],[2],[1,183],[2],[2]] []
def zig:Ann:=anK [] [[0,1],[0,1],[1],[4,5]] []
def zmN:Ann:=anK [] [[1,2],[1,2],[1,2,8],[5],[5],[4]] []
def zss:Ann:=anK [] [[0,1],[0,1,5],[0,1,5,6],[0,1,5,6,7],[0,1,5,6,7,11],[0,1,5,6,7],[0,1,5,6,7,24],[0,1,5,7],[0,1,5,6,7],[4]] [(1,[(5,1,9)]),(7,[(5,1,9)])]
def zrr:Ann:=anK [] [[0],[0,4,5],[0,4,5,13],[0,4,5],[0,4,5,35],[2,3],[0,4,5,6],[0,4,5,6,40],[0,4,5,6],[0,4,5,6,52],[2,3],[0,4,5,6],[4,62],[4],[2,3]] []
def zsZ:Ann:=anK [] [[0],[0,10],[2,3],[0,4],[4,5],[4,5,6],[4,5,6,16],[4,5,6],[4,5,6,7,8],[4,5,6,7,32],[2,3],[4,5,6],[2,3]] [(3,[(4,1,3)]),(11,[(4,1,3)])]
def zsr:Ann:=anK [] [[0,1,2,6],[0,1,2,6,8],[0,1,2,6,8,9],[6],[0,1,2,6,8,22],[6],[0,1,2,6,8,47],[6],[0,1,2,6,8,57],[6],[0,1,2,6,8,66],[6],[0,1,2,6,8,72],[6],[0,1,2,6,78],[6],[0,1,2,6,7],[1,2,6,7,97],[1,2,6,7,97,98],[6],[1,6,7,97,115],[6],[1,6,7,97,123],[6],[1,6,7,134],[6],[6]] []
def zst:Ann:=anK [] [[0,1],[4,5,6]] []
def zoj:Ann:=anK [] [[0,1],[0,1,10],[4],[0,1,5],[0,1,5,14],[0,1,5],[0,1,5,25],[4],[4]] []
def zpw:Ann:=anK [] [[0,1],[0,7,8,9],[0,7,8,9,10],[0,6,7,8,9],[0,7,8,9],[0,7,8,9],[4]] []
def zqn:Ann:=anK [] [[0],[0,4],[2],[2]] []
def zsX:Ann:=anK [] [[0,1,2],[0,1,2,7],[0,1,2,7,12],[0,1,2,7],[0,1,2,7],[0,2,8],[0,2,8,26],[0,2,8],[0,2,8],[6]] []
def zm4:Ann:=anK [] [[1,5,6,7],[1,5,6,7,8],[1,4,5,6,7],[1,5,6,7],[1,5,6,7]] []
def zoh:Ann:={ anK [14] [[0,1,2,6],[0,6,7],[0,6,7,18],[0,6,7],[0,6,7,32],[6,7],[6]] [] with cel:=fun _=>[(7,2,900,6,179)] }
def zm9:Ann:=anK [] [[0,3,4],[0,3,4,5],[0,3,4,5,16],[4,5],[4]] []
def zm7:Ann:=anK [] [[0,1],[0,1,5],[0,5,6],[0,5,6,7],[0,5,6,7,14],[0,5,6,7],[0,5,6,7],[0,5,6,7],[4]] [(1,[(5,1,3)]),(7,[(5,1,3)])]
def zsV:Ann:=anK [] [[0,3,4],[0,3,4,5],[0,3,4,5,9],[0,3,4,5],[0,3,4,5,29],[4],[4]] []
def zna:Ann:={ anK [30] [[0,2,4,6],[0,4,6,7],[0,4,6,7,8],[0,4,6,7,8,36],[0,4,6,7,8],[0,4,6,7,8,9],[0,4,6,7,8,9,45],[0,4,6,7,8,9],[0,4,6,7,8],[6]] [] with cel:=fun _=>[(7,6,900,1,3)] }
def zpz:Ann:={ anK [] [[0,2,3,5,8],[0,2,3,5,8,9],[0,5,8,10],[0,5,8,10,31],[8],[0,5,8,10,11],[0,8,10,11,12],[0,8,10,11,12],[0,8,10,11],[0,8,10],[8,10,72],[8,10],[8]] [] with cel:=fun _=>[(10,8,900,1,3)] }
def zoc:Ann:=anK [] [[0],[0,3],[3,6,7,8],[3,6,7,8,9],[3,5,6,7,8],[3,6,7,8],[3,6,7,8],[2]] [(1,[(3,2,123)]),(5,[(3,2,123)])]
def zoe:Ann:=anK [] [[0,1],[4]] [(0,[(4,2,123)]),(1,[(4,2,123)])]
def zm5:Ann:=anK [] [[0],[0,9],[2,3],[0,12],[2,3],[0,4],[4,13,14,15],[4,13,14,15,16],[4,6,13,14,15],[4,6,13,14,15,21],[2,3],[4,13,14,15],[4,13,14,15],[2,3]] [(5,[(4,1,9)]),(11,[(4,1,9)])]
def zlc:Ann:=anK [] [[0,1],[0,1,10],[4],[0,1,12,13],[0,1,12,13,14],[0,1,5,12,13],[0,1,12,13,24],[4],[0,1,12,13],[4]] []
def zpx:Ann:=anK [] [[0],[0,10],[2,3],[0,4],[4,12,13,14],[4,12,13,14,15],[4,6,12,13,14],[4,7,8,12,13,14],[4,7,12,13,14,29],[2,3],[4,12,13,14],[4,12,13,14],[2,3]] [(3,[(4,1,3)]),(10,[(4,1,3)])]
def zm6:Ann:=anK [] [[0],[4,5],[4,5,33],[2,3],[4,5,6],[4,5,6,7],[4,5,6,7,37],[4,5,6,7],[4,5,6,7,49],[2,3],[4,5,6,7],[6,58],[6],[2,3]] []
def zrq:Ann:=anK [] [[0],[0,3],[0,3,11],[2],[2]] []
def zpC:Ann:=anK [] [[0],[0,3],[0,3,4],[0,3,4,8],[0,3,4],[0,3,4,12],[0,3,4],[0,3,4],[0,3,4],[2]] []
def zmS:Ann:=anK [] [[0,1],[4,5]] []
def aNone:Ann:={ lits:=[],live:=fun _=>none,own:=fun _=>[] }
def annTab:List Ann:=[aNone,aNone,aNone,zl2,zf5,zsU,zf5,zoi,zql,zhn,zpA,zhn,zps,zrn,zpu,zrp,zlz,zqj,zsq,zrl,zsW,zka,ztz,zob,zqo,zpt,zro,zm8,zmP,zmQ,zj9,zj9,zog,zof,zpB,zmR,zpy,zqm,zpv,zqk,zod,zmO,zrm,zrs,zsY,zig,zf5,zhn,zmN,zss,zlz,zrr,zsZ,zsr,zst,zka,zka,zoj,zf5,zpw,zqn,zsX,zm4,zoh,zm9,zm7,zsV,zna,zpz,zoc,zoe,zm5,zf5,zlc,aNone,aNone,aNone,zpx,zm6,aNone,aNone,zrq,zpC,aNone,aNone,aNone,aNone,aNone,zmS,aNone,aNone,aNone,aNone,aNone,aNone,aNone,aNone,aNone,aNone,aNone,aNone,aNone,aNone,aNone,aNone,aNone,aNone,aNone,aNone,aNone,aNone,aNone,aNone,aNone,aNone,aNone,aNone,aNone,aNone,aNone,aNone,aNone,aNone,aNone,aNone,aNone,aNone,aNone,aNone,aNone,aNone,aNone,aNone,aNone,aNone,aNone,aNone,aNone,aNone,aNone,aNone]
def zA:AnnF:=fun f=>annTab.getD f aNone
def zaR:Bool→AV×Mem:=(r1 vBool).enc
abbrev zaq:RD:={ α:=Bool,enc:=zaR,dec:=(r1 vBool).dec,ok:=(r1 vBool).ok,de:=(r1 vBool).de }
def zln:zaa→AV×Mem:=(r1 (vNewp 2 zab zao)).enc
abbrev ziM:RD:={ α:=zaa,enc:=zln,dec:=(r1 (vNewp 2 zab zao)).dec,ok:=(r1 (vNewp 2 zab zao)).ok,de:=(r1 (vNewp 2 zab zao)).de }
def zdF:(zbf×zaa)→AV×Mem:=(r1M (vAgg zlI) (mBox 1000 2 zab zao)).enc
abbrev ze0:RD:={ α:=zbf×zaa,enc:=zdF,dec:=(r1M (vAgg zlI) (mBox 1000 2 zab zao)).dec,ok:=(r1M (vAgg zlI) (mBox 1000 2 zab zao)).ok,de:=(r1M (vAgg zlI) (mBox 1000 2 zab zao)).de }
def zfZ:(((List GOp))×zaa)→AV×Mem:=(r1M (vNew 31 zag dGOp) (mBox 1000 2 zab zao)).enc
abbrev zf0:RD:={ α:=((List GOp))×zaa,enc:=zfZ,dec:=(r1M (vNew 31 zag dGOp) (mBox 1000 2 zab zao)).dec,ok:=(r1M (vNew 31 zag dGOp) (mBox 1000 2 zab zao)).ok,de:=(r1M (vNew 31 zag dGOp) (mBox 1000 2 zab zao)).de }
def zhx:(Bool×zaa)→AV×Mem:=(r1M vBool (mBox 1000 2 zab zao)).enc
abbrev za7:RD:={ α:=Bool×zaa,enc:=zhx,dec:=(r1M vBool (mBox 1000 2 zab zao)).dec,ok:=(r1M vBool (mBox 1000 2 zab zao)).ok,de:=(r1M vBool (mBox 1000 2 zab zao)).de }
def zfs:(Int×zaa)→AV×Mem:=(r1M (vI .i64) (mBox 1000 2 zab zao)).enc
abbrev zah:RD:={ α:=Int×zaa,enc:=zfs,dec:=(r1M (vI .i64) (mBox 1000 2 zab zao)).dec,ok:=(r1M (vI .i64) (mBox 1000 2 zab zao)).ok,de:=(r1M (vI .i64) (mBox 1000 2 zab zao)).de }
def zbW:(ByteArray×Int)→AV×Mem:=(rT (lCons vStr (lOne (vI .i64)))).enc
abbrev zbd:RD:={ α:=ByteArray×Int,enc:=zbW,dec:=(rT (lCons vStr (lOne (vI .i64)))).dec,ok:=(rT (lCons vStr (lOne (vI .i64)))).ok,de:=(rT (lCons vStr (lOne (vI .i64)))).de }
def ziF:((List ByteArray))→AV×Mem:=(r1 (vSl 1 dStr)).enc
abbrev zgK:RD:={ α:=(List ByteArray),enc:=ziF,dec:=(r1 (vSl 1 dStr)).dec,ok:=(r1 (vSl 1 dStr)).ok,de:=(r1 (vSl 1 dStr)).de }
def zcQ:(GOp×Int)→AV×Mem:=(rT (lCons (vAgg dGOp) (lOne (vI .i64)))).enc
abbrev zby:RD:={ α:=GOp×Int,enc:=zcQ,dec:=(rT (lCons (vAgg dGOp) (lOne (vI .i64)))).dec,ok:=(rT (lCons (vAgg dGOp) (lOne (vI .i64)))).ok,de:=(rT (lCons (vAgg dGOp) (lOne (vI .i64)))).de }
def zcG:((List GOp)×Int×Int)→AV×Mem:=(rT (lCons (vSl 31 dGOp) (lCons (vI .i64) (lOne (vI .i64))))).enc
abbrev zde:RD:={ α:=(List GOp)×Int×Int,enc:=zcG,dec:=(rT (lCons (vSl 31 dGOp) (lCons (vI .i64) (lOne (vI .i64))))).dec,ok:=(rT (lCons (vSl 31 dGOp) (lCons (vI .i64) (lOne (vI .i64))))).ok,de:=(rT (lCons (vSl 31 dGOp) (lCons (vI .i64) (lOne (vI .i64))))).de }
def zaA:ByteArray→AV×Mem:=(r1 vStr).enc
abbrev zal:RD:={ α:=ByteArray,enc:=zaA,dec:=(r1 vStr).dec,ok:=(r1 vStr).ok,de:=(r1 vStr).de }
def zdo:(((List zay)×(List za9))×zaa)→AV×Mem:=(rTM (lCons (vSl 3 zbj) (lOne (vSl 2 zcy))) (mBox 1000 2 zab zao)).enc
abbrev zez:RD:={ α:=((List zay)×(List za9))×zaa,enc:=zdo,dec:=(rTM (lCons (vSl 3 zbj) (lOne (vSl 2 zcy))) (mBox 1000 2 zab zao)).dec,ok:=(rTM (lCons (vSl 3 zbj) (lOne (vSl 2 zcy))) (mBox 1000 2 zab zao)).ok,de:=(rTM (lCons (vSl 3 zbj) (lOne (vSl 2 zcy))) (mBox 1000 2 zab zao)).de }
def zd3:(((List za1))×zaa)→AV×Mem:=(r1M (vNew 5 zcx zb4) (mBox 1000 2 zab zao)).enc
abbrev zd5:RD:={ α:=((List za1))×zaa,enc:=zd3,dec:=(r1M (vNew 5 zcx zb4) (mBox 1000 2 zab zao)).dec,ok:=(r1M (vNew 5 zcx zb4) (mBox 1000 2 zab zao)).ok,de:=(r1M (vNew 5 zcx zb4) (mBox 1000 2 zab zao)).de }
def zfU:(za6×zaa)→AV×Mem:=(r1M (vAgg zfD) (mBox 1000 2 zab zao)).enc
abbrev zd6:RD:={ α:=za6×zaa,enc:=zfU,dec:=(r1M (vAgg zfD) (mBox 1000 2 zab zao)).dec,ok:=(r1M (vAgg zfD) (mBox 1000 2 zab zao)).ok,de:=(r1M (vAgg zfD) (mBox 1000 2 zab zao)).de }
def zhz:(zbC×zaa)→AV×Mem:=(r1M (vAgg zhV) (mBox 1000 2 zab zao)).enc
abbrev zfx:RD:={ α:=zbC×zaa,enc:=zhz,dec:=(r1M (vAgg zhV) (mBox 1000 2 zab zao)).dec,ok:=(r1M (vAgg zhV) (mBox 1000 2 zab zao)).ok,de:=(r1M (vAgg zhV) (mBox 1000 2 zab zao)).de }
def zeN:(zbi×zaa)→AV×Mem:=(r1M (vAgg zf9) (mBox 1000 2 zab zao)).enc
abbrev zdh:RD:={ α:=zbi×zaa,enc:=zeN,dec:=(r1M (vAgg zf9) (mBox 1000 2 zab zao)).dec,ok:=(r1M (vAgg zf9) (mBox 1000 2 zab zao)).ok,de:=(r1M (vAgg zf9) (mBox 1000 2 zab zao)).de }
def zeX:(zc0×zaa)→AV×Mem:=(r1M (vAgg zgz) (mBox 1000 2 zab zao)).enc
abbrev zeZ:RD:={ α:=zc0×zaa,enc:=zeX,dec:=(r1M (vAgg zgz) (mBox 1000 2 zab zao)).dec,ok:=(r1M (vAgg zgz) (mBox 1000 2 zab zao)).ok,de:=(r1M (vAgg zgz) (mBox 1000 2 zab zao)).de }
def zeW:(zcK×zaa)→AV×Mem:=(r1M (vAgg zlG) (mBox 1000 2 zab zao)).enc
abbrev zeY:RD:={ α:=zcK×zaa,enc:=zeW,dec:=(r1M (vAgg zlG) (mBox 1000 2 zab zao)).dec,ok:=(r1M (vAgg zlG) (mBox 1000 2 zab zao)).ok,de:=(r1M (vAgg zlG) (mBox 1000 2 zab zao)).de }
def zft:(GSeed×zaa)→AV×Mem:=(r1M (vAgg zga) (mBox 1000 2 zab zao)).enc
abbrev zfy:RD:={ α:=GSeed×zaa,enc:=zft,dec:=(r1M (vAgg zga) (mBox 1000 2 zab zao)).dec,ok:=(r1M (vAgg zga) (mBox 1000 2 zab zao)).ok,de:=(r1M (vAgg zga) (mBox 1000 2 zab zao)).de }
def zd4:(((List zav))×zaa)→AV×Mem:=(r1M (vNew 7 zbh zbt) (mBox 1000 2 zab zao)).enc
abbrev zd7:RD:={ α:=((List zav))×zaa,enc:=zd4,dec:=(r1M (vNew 7 zbh zbt) (mBox 1000 2 zab zao)).dec,ok:=(r1M (vNew 7 zbh zbt) (mBox 1000 2 zab zao)).ok,de:=(r1M (vNew 7 zbh zbt) (mBox 1000 2 zab zao)).de }
def zfr:(((List zaH))×zaa)→AV×Mem:=(r1M (vNew 9 zbe zbF) (mBox 1000 2 zab zao)).enc
abbrev zfv:RD:={ α:=((List zaH))×zaa,enc:=zfr,dec:=(r1M (vNew 9 zbe zbF) (mBox 1000 2 zab zao)).dec,ok:=(r1M (vNew 9 zbe zbF) (mBox 1000 2 zab zao)).ok,de:=(r1M (vNew 9 zbe zbF) (mBox 1000 2 zab zao)).de }
def zcR:(GOp×zaa)→AV×Mem:=(r1M (vAgg dGOp) (mBox 1000 2 zab zao)).enc
abbrev zdz:RD:={ α:=GOp×zaa,enc:=zcR,dec:=(r1M (vAgg dGOp) (mBox 1000 2 zab zao)).dec,ok:=(r1M (vAgg dGOp) (mBox 1000 2 zab zao)).ok,de:=(r1M (vAgg dGOp) (mBox 1000 2 zab zao)).de }
def zfq:Int→AV×Mem:=(r1 (vI .i64)).enc
abbrev zfu:RD:={ α:=Int,enc:=zfq,dec:=(r1 (vI .i64)).dec,ok:=(r1 (vI .i64)).ok,de:=(r1 (vI .i64)).de }
def zfY:GOp→AV×Mem:=(r1 (vAgg dGOp)).enc
abbrev zck:RD:={ α:=GOp,enc:=zfY,dec:=(r1 (vAgg dGOp)).dec,ok:=(r1 (vAgg dGOp)).ok,de:=(r1 (vAgg dGOp)).de }
def zcf:((List zaM))→AV×Mem:=(r1 (vNew 2 zae zdB)).enc
abbrev zaV:RD:={ α:=(List zaM),enc:=zcf,dec:=(r1 (vNew 2 zae zdB)).dec,ok:=(r1 (vNew 2 zae zdB)).ok,de:=(r1 (vNew 2 zae zdB)).de }
def zbM:(ByteArray×Bool)→AV×Mem:=(rT (lCons vStr (lOne vBool))).enc
abbrev zbB:RD:={ α:=ByteArray×Bool,enc:=zbM,dec:=(rT (lCons vStr (lOne vBool))).dec,ok:=(rT (lCons vStr (lOne vBool))).ok,de:=(rT (lCons vStr (lOne vBool))).de }
def zcS:((List ByteArray))→AV×Mem:=(r1 (vNew 1 zaD dStr)).enc
abbrev zcl:RD:={ α:=(List ByteArray),enc:=zcS,dec:=(r1 (vNew 1 zaD dStr)).dec,ok:=(r1 (vNew 1 zaD dStr)).ok,de:=(r1 (vNew 1 zaD dStr)).de }
def zjn:((List (ByteArray×ByteArray)))→AV×Mem:=(r1 (vSl 2 zdO)).enc
abbrev zhg:RD:={ α:=(List (ByteArray×ByteArray)),enc:=zjn,dec:=(r1 (vSl 2 zdO)).dec,ok:=(r1 (vSl 2 zdO)).ok,de:=(r1 (vSl 2 zdO)).de }
def zbG:(Int×Bool)→AV×Mem:=(rT (lCons (vI .i64) (lOne vBool))).enc
abbrev zcH:RD:={ α:=Int×Bool,enc:=zbG,dec:=(rT (lCons (vI .i64) (lOne vBool))).dec,ok:=(rT (lCons (vI .i64) (lOne vBool))).ok,de:=(rT (lCons (vI .i64) (lOne vBool))).de }
def zdp:((List Int)×Bool)→AV×Mem:=(rT (lCons (vSl 1 zaI) (lOne vBool))).enc
abbrev zfe:RD:={ α:=(List Int)×Bool,enc:=zdp,dec:=(rT (lCons (vSl 1 zaI) (lOne vBool))).dec,ok:=(rT (lCons (vSl 1 zaI) (lOne vBool))).ok,de:=(rT (lCons (vSl 1 zaI) (lOne vBool))).de }
def zjo:(ByteArray×ByteArray×Bool)→AV×Mem:=(rT (lCons vStr (lCons vStr (lOne vBool)))).enc
abbrev zhh:RD:={ α:=ByteArray×ByteArray×Bool,enc:=zjo,dec:=(rT (lCons vStr (lCons vStr (lOne vBool)))).dec,ok:=(rT (lCons vStr (lCons vStr (lOne vBool)))).ok,de:=(rT (lCons vStr (lCons vStr (lOne vBool)))).de }
def znQ:Unit→AV×Mem:=(r0).enc
abbrev znR:RD:={ α:=Unit,enc:=znQ,dec:=(r0).dec,ok:=(r0).ok,de:=(r0).de }
def zgX:(zay×zaa)→AV×Mem:=(r1M (vAgg zbj) (mBox 1000 2 zab zao)).enc
abbrev zcg:RD:={ α:=zay×zaa,enc:=zgX,dec:=(r1M (vAgg zbj) (mBox 1000 2 zab zao)).dec,ok:=(r1M (vAgg zbj) (mBox 1000 2 zab zao)).ok,de:=(r1M (vAgg zbj) (mBox 1000 2 zab zao)).de }
def zgo:(za9×zaa)→AV×Mem:=(r1M (vAgg zcy) (mBox 1000 2 zab zao)).enc
abbrev zeA:RD:={ α:=za9×zaa,enc:=zgo,dec:=(r1M (vAgg zcy) (mBox 1000 2 zab zao)).dec,ok:=(r1M (vAgg zcy) (mBox 1000 2 zab zao)).ok,de:=(r1M (vAgg zcy) (mBox 1000 2 zab zao)).de }
def zex:(((List Int))×zaa)→AV×Mem:=(r1M (vNew 1 zbK zaI) (mBox 1000 2 zab zao)).enc
abbrev zdq:RD:={ α:=((List Int))×zaa,enc:=zex,dec:=(r1M (vNew 1 zbK zaI) (mBox 1000 2 zab zao)).dec,ok:=(r1M (vNew 1 zbK zaI) (mBox 1000 2 zab zao)).ok,de:=(r1M (vNew 1 zbK zaI) (mBox 1000 2 zab zao)).de }
def zh6:zay→AV×Mem:=(r1 (vAgg zbj)).enc
abbrev zfd:RD:={ α:=zay,enc:=zh6,dec:=(r1 (vAgg zbj)).dec,ok:=(r1 (vAgg zbj)).ok,de:=(r1 (vAgg zbj)).de }
def zey:(zav×zaa)→AV×Mem:=(r1M (vAgg zbt) (mBox 1000 2 zab zao)).enc
abbrev zeB:RD:={ α:=zav×zaa,enc:=zey,dec:=(r1M (vAgg zbt) (mBox 1000 2 zab zao)).dec,ok:=(r1M (vAgg zbt) (mBox 1000 2 zab zao)).ok,de:=(r1M (vAgg zbt) (mBox 1000 2 zab zao)).de }
def zhy:(zaH×zaa)→AV×Mem:=(r1M (vAgg zbF) (mBox 1000 2 zab zao)).enc
abbrev zfw:RD:={ α:=zaH×zaa,enc:=zhy,dec:=(r1M (vAgg zbF) (mBox 1000 2 zab zao)).dec,ok:=(r1M (vAgg zbF) (mBox 1000 2 zab zao)).ok,de:=(r1M (vAgg zbF) (mBox 1000 2 zab zao)).de }
def resTab:List RD:=[rRaw,rRaw,rRaw,zaq,zaq,zaq,ziM,ze0,zf0,za7,zah,zah,zbd,zbd,zbd,zbd,zgK,zby,zby,zde,zde,zaq,zaq,zal,zal,zal,zal,zez,zd5,zd6,zfx,zdh,zeZ,zeY,zfy,zd7,zfv,zdz,zfu,zck,zaV,zbB,zaq,zal,zal,rRaw,zal,zcl,zc4,zcl,zhg,zcH,zfe,zck,zhh,zaq,zaq,zaq,zal,zal,zal,zal,znR,zcg,zeA,zdq,zfd,zeB,zfw,zaV,zaV,zbB,zaq,zaq,rRaw,rRaw,rRaw,zfe,zcH,rRaw,rRaw,zal,zal,rRaw,rRaw,rRaw,rRaw,rRaw,zbB,rRaw,rRaw,rRaw,rRaw,rRaw,rRaw,rRaw,rRaw,rRaw,rRaw,rRaw,rRaw,rRaw,rRaw,rRaw,rRaw,rRaw,rRaw,rRaw,rRaw,rRaw,rRaw,rRaw,rRaw,rRaw,rRaw,rRaw,rRaw,rRaw,rRaw,rRaw,rRaw,rRaw,rRaw,rRaw,rRaw,rRaw,rRaw,rRaw,rRaw,rRaw,rRaw,rRaw,rRaw,rRaw,rRaw,rRaw,rRaw,rRaw,rRaw,rRaw,rRaw]
def zT:Dic:=Dic.of tyTab resTab
abbrev zcc:Fr:=⟨Tryz.prog,zC,zA,3,Tryz.f3,[]⟩
abbrev zsH:Fr:=⟨Tryz.prog,zC,zA,4,Tryz.f4,[]⟩
abbrev zsG:Fr:=⟨Tryz.prog,zC,zA,5,Tryz.f5,[]⟩
abbrev ztq:Fr:=⟨Tryz.prog,zC,zA,6,Tryz.f6,[]⟩
abbrev zeP:Fr:=⟨Tryz.prog,zC,zA,7,Tryz.f7,[(1000,⟨0,0,[],false⟩)]⟩
abbrev zb3:Fr:=⟨Tryz.prog,zC,zA,8,Tryz.f8,[(1000,⟨0,0,[],false⟩)]⟩
abbrev zpn:Fr:=⟨Tryz.prog,zC,zA,9,Tryz.f9,[(1000,⟨0,0,[],false⟩)]⟩
abbrev zpo:Fr:=⟨Tryz.prog,zC,zA,10,Tryz.f10,[(1000,⟨0,0,[],false⟩)]⟩
abbrev zpp:Fr:=⟨Tryz.prog,zC,zA,11,Tryz.f11,[(1000,⟨0,0,[],false⟩)]⟩
abbrev zan:Fr:=⟨Tryz.prog,zC,zA,12,Tryz.f12,[]⟩
abbrev zrj:Fr:=⟨Tryz.prog,zC,zA,13,Tryz.f13,[]⟩
abbrev zaE:Fr:=⟨Tryz.prog,zC,zA,14,Tryz.f14,[]⟩
abbrev zly:Fr:=⟨Tryz.prog,zC,zA,15,Tryz.f15,[]⟩
abbrev zri:Fr:=⟨Tryz.prog,zC,zA,16,Tryz.f16,[]⟩
abbrev zar:Fr:=⟨Tryz.prog,zC,zA,17,Tryz.f17,[]⟩
abbrev zjc:Fr:=⟨Tryz.prog,zC,zA,18,Tryz.f18,[]⟩
abbrev zlx:Fr:=⟨Tryz.prog,zC,zA,19,Tryz.f19,[]⟩
abbrev zhS:Fr:=⟨Tryz.prog,zC,zA,20,Tryz.f20,[]⟩
abbrev zsJ:Fr:=⟨Tryz.prog,zC,zA,21,Tryz.f21,[]⟩
abbrev zoQ:Fr:=⟨Tryz.prog,zC,zA,22,Tryz.f22,[]⟩
abbrev zn8:Fr:=⟨Tryz.prog,zC,zA,23,Tryz.f23,[]⟩
abbrev zqg:Fr:=⟨Tryz.prog,zC,zA,24,Tryz.f24,[]⟩
abbrev zau:Fr:=⟨Tryz.prog,zC,zA,25,Tryz.f25,[]⟩
abbrev ze3:Fr:=⟨Tryz.prog,zC,zA,26,Tryz.f26,[]⟩
abbrev zee:Fr:=⟨Tryz.prog,zC,zA,27,Tryz.f27,[(1000,⟨0,0,[],false⟩)]⟩
abbrev zij:Fr:=⟨Tryz.prog,zC,zA,28,Tryz.f28,[(1000,⟨0,0,[],false⟩)]⟩
abbrev zmM:Fr:=⟨Tryz.prog,zC,zA,29,Tryz.f29,[(1000,⟨0,0,[],false⟩)]⟩
abbrev zpq:Fr:=⟨Tryz.prog,zC,zA,30,Tryz.f30,[(1000,⟨0,0,[],false⟩)]⟩
abbrev zla:Fr:=⟨Tryz.prog,zC,zA,31,Tryz.f31,[(1000,⟨0,0,[],false⟩)]⟩
abbrev zjt:Fr:=⟨Tryz.prog,zC,zA,32,Tryz.f32,[(1000,⟨0,0,[],false⟩)]⟩
abbrev zjs:Fr:=⟨Tryz.prog,zC,zA,33,Tryz.f33,[(1000,⟨0,0,[],false⟩)]⟩
abbrev zj6:Fr:=⟨Tryz.prog,zC,zA,34,Tryz.f34,[(1000,⟨0,0,[],false⟩)]⟩
abbrev zdV:Fr:=⟨Tryz.prog,zC,zA,35,Tryz.f35,[(1000,⟨0,0,[],false⟩)]⟩
abbrev zfi:Fr:=⟨Tryz.prog,zC,zA,36,Tryz.f36,[(1000,⟨0,0,[],false⟩)]⟩
abbrev zhR:Fr:=⟨Tryz.prog,zC,zA,37,Tryz.f37,[(1000,⟨0,0,[],false⟩)]⟩
abbrev zj3:Fr:=⟨Tryz.prog,zC,zA,38,Tryz.f38,[]⟩
abbrev zqe:Fr:=⟨Tryz.prog,zC,zA,39,Tryz.f39,[]⟩
abbrev zjr:Fr:=⟨Tryz.prog,zC,zA,40,Tryz.f40,[]⟩
abbrev zii:Fr:=⟨Tryz.prog,zC,zA,41,Tryz.f41,[]⟩
abbrev zrh:Fr:=⟨Tryz.prog,zC,zA,42,Tryz.f42,[]⟩
abbrev zhT:Fr:=⟨Tryz.prog,zC,zA,44,Tryz.f44,[]⟩
abbrev zih:Fr:=⟨Tryz.prog,zC,zA,48,Tryz.f48,[(1000,⟨0,0,[],false⟩)]⟩
abbrev zjd:Fr:=⟨Tryz.prog,zC,zA,49,Tryz.f49,[]⟩
abbrev zso:Fr:=⟨Tryz.prog,zC,zA,50,Tryz.f50,[]⟩
abbrev zgw:Fr:=⟨Tryz.prog,zC,zA,51,Tryz.f51,[]⟩
abbrev zm3:Fr:=⟨Tryz.prog,zC,zA,52,Tryz.f52,[]⟩
abbrev zsn:Fr:=⟨Tryz.prog,zC,zA,53,Tryz.f53,[]⟩
abbrev zm2:Fr:=⟨Tryz.prog,zC,zA,55,Tryz.f55,[]⟩
abbrev zsI:Fr:=⟨Tryz.prog,zC,zA,56,Tryz.f56,[]⟩
abbrev zju:Fr:=⟨Tryz.prog,zC,zA,57,Tryz.f57,[]⟩
abbrev zj4:Fr:=⟨Tryz.prog,zC,zA,59,Tryz.f59,[]⟩
abbrev zqf:Fr:=⟨Tryz.prog,zC,zA,60,Tryz.f60,[]⟩
abbrev zj7:Fr:=⟨Tryz.prog,zC,zA,61,Tryz.f61,[]⟩
abbrev zaN:Fr:=⟨Tryz.prog,zC,zA,62,Tryz.f62,[]⟩
abbrev zgQ:Fr:=⟨Tryz.prog,zC,zA,63,Tryz.f63,[(1000,⟨0,0,[],false⟩)]⟩
abbrev zf3:Fr:=⟨Tryz.prog,zC,zA,64,Tryz.f64,[(1000,⟨0,0,[],false⟩)]⟩
abbrev ziQ:Fr:=⟨Tryz.prog,zC,zA,65,Tryz.f65,[(1000,⟨0,0,[],false⟩)]⟩
abbrev zm1:Fr:=⟨Tryz.prog,zC,zA,66,Tryz.f66,[]⟩
abbrev ziR:Fr:=⟨Tryz.prog,zC,zA,67,Tryz.f67,[(1000,⟨0,0,[],false⟩)]⟩
abbrev zhl:Fr:=⟨Tryz.prog,zC,zA,68,Tryz.f68,[(1000,⟨0,0,[],false⟩)]⟩
abbrev zjq:Fr:=⟨Tryz.prog,zC,zA,69,Tryz.f69,[]⟩
abbrev zn9:Fr:=⟨Tryz.prog,zC,zA,70,Tryz.f70,[]⟩
abbrev ziO:Fr:=⟨Tryz.prog,zC,zA,71,Tryz.f71,[]⟩
abbrev zrg:Fr:=⟨Tryz.prog,zC,zA,72,Tryz.f72,[]⟩
abbrev zg0:Fr:=⟨Tryz.prog,zC,zA,73,Tryz.f73,[]⟩
abbrev zj5:Fr:=⟨Tryz.prog,zC,zA,77,Tryz.f77,[]⟩
abbrev ziP:Fr:=⟨Tryz.prog,zC,zA,78,Tryz.f78,[]⟩
abbrev zrk:Fr:=⟨Tryz.prog,zC,zA,81,Tryz.f81,[]⟩
abbrev zhm:Fr:=⟨Tryz.prog,zC,zA,82,Tryz.f82,[]⟩
abbrev cw [Dr]:zaX:=callw Tryz.prog zC zA
abbrev zP:Program:=Tryz.prog
@[simp] theorem zaO {β:Type} (v:Bool) (k:Bool→Option β):callD zaq (some (zaR v)) k=k v:=zaW (D:=zaq) k
@[simp] theorem zqB {β:Type} (v:zaa) (k:zaa→Option β):callD ziM (some (zln v)) k=k v:=zaW (D:=ziM) k
@[simp] theorem zlF {β:Type} (v:zbf×zaa) (k:(zbf×zaa)→Option β):callD ze0 (some (zdF v)) k=k v:=zaW (D:=ze0) k
@[simp] theorem zmU {β:Type} (v:((List GOp))×zaa) (k:(((List GOp))×zaa)→Option β):callD zf0 (some (zfZ v)) k=k v:=zaW (D:=zf0) k
@[simp] theorem zaQ {β:Type} (v:Bool×zaa) (k:(Bool×zaa)→Option β):callD za7 (some (zhx v)) k=k v:=zaW (D:=za7) k
@[simp] theorem zak {β:Type} (v:Int×zaa) (k:(Int×zaa)→Option β):callD zah (some (zfs v)) k=k v:=zaW (D:=zah) k
@[simp] theorem zbs {β:Type} (v:ByteArray×Int) (k:(ByteArray×Int)→Option β):callD zbd (some (zbW v)) k=k v:=zaW (D:=zbd) k
@[simp] theorem znt {β:Type} (v:(List ByteArray)) (k:((List ByteArray))→Option β):callD zgK (some (ziF v)) k=k v:=zaW (D:=zgK) k
@[simp] theorem zbL {β:Type} (v:GOp×Int) (k:(GOp×Int)→Option β):callD zby (some (zcQ v)) k=k v:=zaW (D:=zby) k
@[simp] theorem zf8 {β:Type} (v:(List GOp)×Int×Int) (k:((List GOp)×Int×Int)→Option β):callD zde (some (zcG v)) k=k v:=zaW (D:=zde) k
@[simp] theorem zaw {β:Type} (v:ByteArray) (k:ByteArray→Option β):callD zal (some (zaA v)) k=k v:=zaW (D:=zal) k
@[simp] theorem zld {β:Type} (v:((List zay)×(List za9))×zaa) (k:(((List zay)×(List za9))×zaa)→Option β):callD zez (some (zdo v)) k=k v:=zaW (D:=zez) k
@[simp] theorem zkO {β:Type} (v:((List za1))×zaa) (k:(((List za1))×zaa)→Option β):callD zd5 (some (zd3 v)) k=k v:=zaW (D:=zd5) k
@[simp] theorem zkP {β:Type} (v:za6×zaa) (k:(za6×zaa)→Option β):callD zd6 (some (zfU v)) k=k v:=zaW (D:=zd6) k
@[simp] theorem zme {β:Type} (v:zbC×zaa) (k:(zbC×zaa)→Option β):callD zfx (some (zhz v)) k=k v:=zaW (D:=zfx) k
@[simp] theorem zjf {β:Type} (v:zbi×zaa) (k:(zbi×zaa)→Option β):callD zdh (some (zeN v)) k=k v:=zaW (D:=zdh) k
@[simp] theorem zlE {β:Type} (v:zc0×zaa) (k:(zc0×zaa)→Option β):callD zeZ (some (zeX v)) k=k v:=zaW (D:=zeZ) k
@[simp] theorem zhD {β:Type} (v:zcK×zaa) (k:(zcK×zaa)→Option β):callD zeY (some (zeW v)) k=k v:=zaW (D:=zeY) k
@[simp] theorem zmf {β:Type} (v:GSeed×zaa) (k:(GSeed×zaa)→Option β):callD zfy (some (zft v)) k=k v:=zaW (D:=zfy) k
@[simp] theorem zkQ {β:Type} (v:((List zav))×zaa) (k:(((List zav))×zaa)→Option β):callD zd7 (some (zd4 v)) k=k v:=zaW (D:=zd7) k
@[simp] theorem zmc {β:Type} (v:((List zaH))×zaa) (k:(((List zaH))×zaa)→Option β):callD zfv (some (zfr v)) k=k v:=zaW (D:=zfv) k
@[simp] theorem zmV {β:Type} (v:GOp×zaa) (k:(GOp×zaa)→Option β):callD zdz (some (zcR v)) k=k v:=zaW (D:=zdz) k
@[simp] theorem zmb {β:Type} (v:Int) (k:Int→Option β):callD zfu (some (zfq v)) k=k v:=zaW (D:=zfu) k
@[simp] theorem zdX {β:Type} (v:GOp) (k:GOp→Option β):callD zck (some (zfY v)) k=k v:=zaW (D:=zck) k
@[simp] theorem zbD {β:Type} (v:(List zaM)) (k:((List zaM))→Option β):callD zaV (some (zcf v)) k=k v:=zaW (D:=zaV) k
@[simp] theorem zcZ {β:Type} (v:ByteArray×Bool) (k:(ByteArray×Bool)→Option β):callD zbB (some (zbM v)) k=k v:=zaW (D:=zbB) k
@[simp] theorem zdY {β:Type} (v:(List ByteArray)) (k:((List ByteArray))→Option β):callD zcl (some (zcS v)) k=k v:=zaW (D:=zcl) k
@[simp] theorem zgM {β:Type} (v:Bool×GOp) (k:(Bool×GOp)→Option β):callD zc4 (some (zc3 v)) k=k v:=zaW (D:=zc4) k
@[simp] theorem zoC {β:Type} (v:(List (ByteArray×ByteArray))) (k:((List (ByteArray×ByteArray)))→Option β):callD zhg (some (zjn v)) k=k v:=zaW (D:=zhg) k
@[simp] theorem zeh {β:Type} (v:Int×Bool) (k:(Int×Bool)→Option β):callD zcH (some (zbG v)) k=k v:=zaW (D:=zcH) k
@[simp] theorem zkn {β:Type} (v:(List Int)×Bool) (k:((List Int)×Bool)→Option β):callD zfe (some (zdp v)) k=k v:=zaW (D:=zfe) k
@[simp] theorem zoD {β:Type} (v:ByteArray×ByteArray×Bool) (k:(ByteArray×ByteArray×Bool)→Option β):callD zhh (some (zjo v)) k=k v:=zaW (D:=zhh) k
@[simp] theorem zdr {β:Type} (v:zay×zaa) (k:(zay×zaa)→Option β):callD zcg (some (zgX v)) k=k v:=zaW (D:=zcg) k
@[simp] theorem zle {β:Type} (v:za9×zaa) (k:(za9×zaa)→Option β):callD zeA (some (zgo v)) k=k v:=zaW (D:=zeA) k
@[simp] theorem zg3 {β:Type} (v:((List Int))×zaa) (k:(((List Int))×zaa)→Option β):callD zdq (some (zex v)) k=k v:=zaW (D:=zdq) k
@[simp] theorem zfm {β:Type} (v:zay) (k:zay→Option β):callD zfd (some (zh6 v)) k=k v:=zaW (D:=zfd) k
@[simp] theorem zlf {β:Type} (v:zav×zaa) (k:(zav×zaa)→Option β):callD zeB (some (zey v)) k=k v:=zaW (D:=zeB) k
@[simp] theorem zmd {β:Type} (v:zaH×zaa) (k:(zaH×zaa)→Option β):callD zfw (some (zhy v)) k=k v:=zaW (D:=zfw) k
theorem ptT [Dr] {y:AV×Mem} (cut:List Nat) {R:Fr} {j:Nat} {st:St} {x:Option (AV×Mem)} (h:x=some y) (hx:tGo R zT cut 100000 (decide (j≠0)) (ptS R.fn j) st=x:=by kernel_rfl):pt R j st=some y:=pt_of zT cut hx h
theorem cwT [Dr] {y:AV×Mem} (R:Fr) (cut:List Nat) {args:List AV} {ms:Mem} {x:Option (AV×Mem)} (h:x=some y) (ho:R.C.orc R.f args ms=none:=by rfl) (hf:R.P.funcs[R.f]?=some R.fn:=by kernel_rfl) (he:enters R.P R.f=true:=by kernel_rfl)
  (hN:decide (R.fn.ntmps≤1000∧args.length≤R.fn.ntmps)=true:=by kernel_rfl) (hm:R.ms=Go.Ab.blank ms:=by kernel_rfl)
  (hx:tGo R zT cut 100000 false (ptK R.fn 0) { t:=argTab 0 args,m:=ms }=x:=by kernel_rfl):callw R.P R.C R.F R.f args ms=some y:=zmg R zT cut ho hf he hN hm hx h
end Go.Proofs.YtdclabgakicjeaaGreatDoor
end
