/- Annotations of the seat's functions: what lives behind each region, which slots own rows, which arguments are written; how results read. -/
import Derived.Test.YtcpnffbcljkbkaaGreatDoorXTy
import Derived.Test.YtcpnffbcljkbkaaGreatDoorProg
import Derived.Test.YtcpnffbcljkbkaaGreatDoorXSp
set_option linter.all false
noncomputable section
namespace Go.Proofs.YtcpnffbcljkbkaaGreatDoor
open Go.Ab
abbrev LL:=List (List AV)
def zC:Cfg:={ wrt:=atReg [(7,[0]),(9,[0]),(15,[0]),(16,[0]),(17,[0]),(18,[0]),(19,[0]),(20,[0]),(21,[0]),(22,[0]),(23,[0]),(24,[0]),(31,[0]),(32,[0]),(33,[0]),(35,[0]),(42,[0]),(48,[0]),(49,[0]),(50,[0]),(51,[0]),(66,[0]),(67,[0]),(121,[100])],orc:=zOrc }
def anK(l:aO)(v:List (List Nat))(o:List (Nat×List (Nat×Nat×TypeId))):Ann:={ lits:=l,live:=λi=>v[i]?,own:=atReg o }
def anT(x:Nat):List Nat->List Nat
 |[]=>[x]
 |y::r=>bif Nat.blt x y then x::y::r else bif Nat.beq x y then r else y::anT x r
def anL:List Nat->List (List Nat)->List (List Nat)
 |_,[]=>[]
 |p,d::r=>d.foldl (λa x=>anT x a) p::anL (d.foldl (λa x=>anT x a) p) r
def anD(l:aO)(v:List (List Nat))(o:List (Nat×List (Nat×Nat×TypeId))):Ann:=anK l (anL [] v) o
def zw4:Ann:=anD [34] [[0,4,5],[23],[0,4,5,6,23],[4,5,6,7],[8],[7,8,9,10],[10,38],[4,5,6,9,38],[4,5,6,9,11],[49,50,51],[52],[13,52],[13],[],[14,49,50,51],[15],[16],[67],[67],[73],[73],[14,16,77,78,79],[80],[17,18,80],[19],[86],[86],[97],[4,5,6,9,11,15,17,18,19,77,78,79,97],[4,5,6,9,11,15,77,78,79],[9,20,77,78,79],[4,5,6,11,15,20]] []
def zl4:Ann:=anK [] [[0],[2]] []
def zJp:Ann:=anD [] [[],[1,2],[3,4],[5,6],[8],[9,10,11],[0,1,2,3,4,5,6,8,9,10,11]] []
def zBS:Ann:={ anD [] [[0,2],[3,4],[4,5],[6],[7],[32],[32],[],[8],[45],[45],[8],[6,7],[59],[9,59],[0,3,9],[5]] []with cel:=λ_=>[(5,10,900,1,96)] }
def zKW:Ann:={ anD [] [[1,2,4],[20],[1,2,5,20],[1,2,5,6],[7],[25],[25],[33],[33],[6,7,42],[1,2,5,42],[1,2,5,8],[9],[47],[47],[54],[55],[10,11,54,55],[70],[1,2,5,8,9,10,11,70],[1,2,5,8,9],[54,86],[12,54,86],[92],[12,92],[109],[109],[9,13,14],[136],[1,2,5,8,13,14,136],[5,8,13,16],[13,16],[5,8]] []with cel:=λ_=>[(8,0,900,3,58),(8,2,1000,6,0)] }
def zEe:Ann:=anD [] [[0,2,4],[7],[8],[9],[21],[21],[26],[26],[49],[49],[9,10],[67],[10,11,67],[12],[78],[78],[],[11,12,13],[91],[91],[95],[95],[95,104],[95,104],[95,113],[95,113],[122],[122,125],[125],[0,2,4,6,7,8,13]] [(1,[(7,31,75)]),(7,[(7,31,75)]),(9,[(7,31,75)]),(16,[(7,31,75)]),(21,[(7,31,75)]),(23,[(7,31,75)]),(25,[(7,31,75)]),(28,[(7,31,75)])]
def zC7:Ann:=anD [] [[1],[3],[4],[12,13,14],[15],[6,15],[],[6],[],[12,13,14,32,33,34],[35],[8,35],[9],[8,42],[9,42],[],[],[32,33,34],[1,4],[2,3]] []
def zBL:Ann:=anK [] [[1],[1,3],[1,3,8],[1,3,8,9],[2],[1,3,8,19],[2],[1,3,23],[2],[2]] []
def zEc:Ann:=anD [] [[0,2],[0,4],[12,13],[14],[5,6,14],[22],[6,12,13,22,27],[3,4,5,27],[3,4,5,7],[5,32,33,34],[35],[8,9,35],[8,9,46],[3,4,7,32,33,34,46],[3,4,7,32,33,34],[3,4,7,32,33,34],[3,4,12,13],[3,4,12,13]] []
def zC6:Ann:=anD [27] [[1],[4],[16],[1,2,3,4,16],[1,2,3,4,5],[6,7],[4,8],[6,28,29,30],[31],[9,10,31],[11,12],[12,41],[1,2,3,5,7,8,9,10,11,28,29,30,41],[1,2,3,5,7,8,9,10,28,29,30],[48],[9,10,48],[],[],[1,5,7,28,29,30,73],[2,3,8,73],[]] [(6,[(8,1,9)]),(13,[(8,1,9)])]
def zFy:Ann:=anD [] [[0,2],[5],[12],[12],[0,6,7,8],[8,22],[3,4,5,6,7,22],[3,4,5,7,9,10],[30],[3,4,5,7,9,10,30],[3,4,5,7],[0,7],[0,5,40],[3,4,40],[]] [(0,[(2,31,75)]),(6,[(2,31,75)]),(9,[(2,31,75)]),(10,[(2,31,75)]),(13,[(2,31,75)]),(14,[(2,31,75)])]
def zAj:Ann:=anD [9] [[0],[4],[11],[11],[18],[18],[5],[6],[27],[27],[],[0,2,3,4,5,6]] [(1,[(4,3,93)]),(3,[(4,3,93)]),(5,[(4,3,93)]),(6,[(5,2,161)]),(10,[(5,2,161)])]
def zzI:Ann:=anD [] [[0],[3],[4],[5],[10],[10],[],[],[0,2,3,4,5]] [(1,[(3,5,165)]),(7,[(3,5,165)])]
def zzJ:Ann:=anK [] [[0,2],[0,2,3],[2]] []
def zu9:Ann:=anK [] [[0,2],[2]] []
def zDd:Ann:=anK [] [[0,1],[0,1,19],[4],[0,1,5],[1,5],[1,5,40],[5],[4]] []
def zqj:Ann:=anK [] [[0,1],[4]] []
def zBQ:Ann:={ anD [18] [[0,2],[3,4],[5],[6],[24],[24],[],[],[0,3,4,5,6]] []with cel:=λ_=>[(5,0,900,4,169)] }
def zBP:Ann:={ anD [] [[0,1,4],[5],[6],[13],[13],[],[0,1,6],[5]] []with cel:=λ_=>[(5,0,900,3,171)] }
def zDe:Ann:={ anD [] [[0,1,5,6],[7],[1,5,8],[9],[20],[20],[],[0,7,8,9]] []with cel:=λ_=>[(7,1,900,1,3)] }
def zH5:Ann:=anK [] [[1,2],[1,2,8],[4],[1,2,5],[1,2,5,12],[1,2,5],[1,2,5,21],[4],[4]] []
def zDk:Ann:=anK [] [[1,2,3],[1,3,8,9],[1,3,8,9,18],[6,7],[6,7]] []
def zH2:Ann:=anD [] [[0],[3],[7],[7],[15],[0,2,3,15],[]] []
def zEs:Ann:={ anD [] [[0,1,2],[7],[17],[17],[8,9],[9,49],[8,49],[7,10],[11],[75],[75],[12],[13],[81],[81],[],[12,13,107],[107],[0,1,2,6,10,11]] []with frz:=true }
def zKX:Ann:={ anK [] [[0,3],[0,5,6],[0,5,14],[4],[4]] []with frz:=true }
def zEq:Ann:={ anD [78] [[1,2,3,6],[18],[1,2,3,7,8,18],[1,2,3,7,8,9],[10],[11],[23],[23],[30],[31],[30,31],[41],[41],[1,11,12],[2,3,10,13,14],[70],[7,8,9,12,13,14,70],[7,8,13,14,15],[82],[7,8,13,14,15,82],[]] [(3,[(9,9,69)]),(4,[(10,6,73)]),(10,[(9,9,69)]),(12,[(10,6,73)])]with fz:=atReg [(1014,[10])] }
def zzK:Ann:=anD [] [[0,1,2],[7],[8],[13],[13],[9],[10],[19],[19],[28],[28],[10,11],[43],[43],[48],[48],[0,1,2,6,7,8,9,11]] [(1,[(7,7,65)]),(5,[(9,3,93)]),(10,[(9,3,93)]),(15,[(7,7,65)])]
def zDb:Ann:=anD [] [[0,2,4],[7],[8],[17],[17],[9],[10],[32],[32],[11],[39],[39],[53],[12,53],[12],[0,2,4,6,7,8,9,10,11]] [(1,[(7,9,69)]),(14,[(7,9,69)])]
def zEf:Ann:=anK [] [[0,2,3,5,8],[0,2,3,5,8,9],[0,2,3,5,8,9,20],[0,2,3,5,8,9,20,21],[8],[0,2,3,5,8,9,20,31],[8],[0,2,3,5,8,9,20,41],[0,5,8,10],[0,5,8,10,56],[8,10],[8],[0,2,3,5,8,9,20,72],[8],[0,2,3,5,8,9,20,90],[0,2,3,5,8,9,90],[8],[0,3,8,9,113],[8],[8]] []
def zAf:Ann:=anD [] [[1,5,6,7],[8],[4,8],[4],[]] []
def zrW:Ann:=anK [] [[0,1],[0,1],[1],[4,5]] []
def zC9:Ann:=anD [] [[0,1],[1,7,8,9],[10],[6,10],[6],[],[0,4,7,8,9]] []
def zEd:Ann:=anK [] [[0,2],[2,3],[2,3,4],[2],[2,3,7],[2],[2,3,11],[2],[2,3,15],[2],[2,3,19],[2],[2,3,22],[2],[2,3,26],[2],[2,3,30],[2],[2,3,33],[2],[2,3,36],[2],[2,39],[2],[2]] []
def zBN:Ann:=anK [] [[0,1],[1,8],[1,8,9],[4],[1,8,25],[5],[5,6],[4],[1,8,58],[7],[4],[1,8,83],[4],[1,8,95],[4],[1,8,111],[4],[1,8,123],[4],[1,8,135],[4],[1,8,147],[4],[1,8,160],[1,8,160],[4],[1,168],[4],[4]] [(0,[(4,2,149)]),(3,[(4,2,149)]),(7,[(4,2,149)]),(10,[(4,2,149)]),(12,[(4,2,149)]),(14,[(4,2,149)]),(16,[(4,2,149)]),(18,[(4,2,149)]),(20,[(4,2,149)]),(22,[(4,2,149)]),(25,[(4,2,149)]),(27,[(4,2,149)]),(28,[(4,2,149)])]
def zzG:Ann:=anK [] [[1,2],[1,2],[1,2,8],[5],[5],[4]] []
def zC8:Ann:=anK [] [[1],[1,5],[1,5,6],[1,3,5],[1,3,4,5],[1,3,5,42],[2],[1,5],[2]] []
def zzH:Ann:=anK [] [[1],[1,6],[2,3],[2,3]] []
def zFz:Ann:=anK [] [[2,3],[2,3,5,6],[2,3,5,6,7,8],[4]] []
def zFN:Ann:=anD [] [[0,1],[12],[13],[0,1,4,12,13],[0,1,4,15],[0,1,4,15],[0,1,4,5],[22],[22,29],[29],[],[39,40,41],[42],[7,42],[49],[49],[7],[],[8,39,40,41],[5],[],[0,63,64,65],[66],[10,66],[],[10],[],[1,4,8,63,64,65]] []
def zH6:Ann:=anK [] [[0,1],[4,5,6]] []
def zBR:Ann:={ anD [14] [[0,1,2,6],[1,2,7],[18],[18],[32],[0,32],[7]] []with cel:=λ_=>[(7,2,900,6,175)] }
def zAk:Ann:=anD [] [[0,3,4],[5],[16],[0,3,16],[5]] []
def zAi:Ann:=anD [] [[0,1],[5],[1,6],[7],[14],[14],[],[],[0,4,5,6,7]] [(1,[(5,1,3)]),(7,[(5,1,3)])]
def zJq:Ann:=anD [] [[0,3,4],[5],[9],[9],[29],[0,3,5,29],[]] []
def zH1:Ann:=anK [] [[1],[1,55],[2],[1,3],[1,3,60],[1,3],[1,3,76],[2],[1,4],[1,4,82],[1,4],[1,4,94],[2],[1,5],[1,5,99],[1,5],[1,5,118],[2],[2]] []
def zH4:Ann:=anK [] [[2,3],[2,3,10],[2,3,10,11],[4],[2,3,10,23],[2,3,5,6],[2,3,5,41],[4],[8],[4],[2,3,10,61],[4],[2,3,10,80],[4],[2,3,10,92],[4],[2,3,10,97],[4],[3,10,111],[3,10,111],[4],[3,117],[4],[4]] []
def zBY:Ann:={ anD [] [[1,2,3],[22],[1,2,3,6,7,22],[1,2,3,6,7,8],[9],[10],[38],[1,2,3,6,7,8,9,10,38],[1,3,6,7,8,9,10,11,13],[48],[1,3,6,7,8,9,10,11,13,48],[1,3,6,7,8,9,10,11,14],[15],[53],[53],[16],[17],[72],[72],[18,19],[94],[1,3,6,7,8,9,10,11,14,15,16,17,18,19,94],[1,3,6,7,8,9,10,11,14,15,16,17],[16,17],[1,3,6,7,8,9,10,11,14,15]] [(11,[(14,3,234)]),(23,[(14,3,234)])]with fz:=atReg [(1023,[16])],cel:=λ_=>[(16,1,900,3,236)] }
def zEm:Ann:=anD [] [[1,2],[6],[18],[1,2,4,5,6,18],[1,2,4,5,7],[8],[23],[23],[9,10,11,12],[44],[1,2,4,5,7,8,9,10,11,12,44],[1,2,4,5,7,8,9,13],[9,56],[56],[13],[1,2,4,5,7,8]] [(4,[(7,5,24)]),(14,[(7,5,24)])]
def zFL:Ann:=anD [] [[1,2,4],[2,5,6],[7],[13],[13],[49],[49],[1,5,6,7]] []
def zEt:Ann:=anD [] [[0,1,4],[0,6],[7],[13],[13],[22],[1,5,6,7,22],[]] []
def zFM:Ann:=anD [] [[0],[3],[4],[8],[8],[16],[16],[0,2,3,4]] []
def zEo:Ann:=anD [] [[0],[9],[0,2,9],[0,2,3],[4],[13],[13],[5],[32],[6,32],[47],[47],[],[],[5,6],[0,2,3,4]] [(3,[(3,5,110)]),(12,[(3,5,110)])]
def zFK:Ann:=anK [] [[0,3],[0,3,6],[0,3,6,11],[4,5],[0,3,7],[0,3,7,17],[4,5],[4,5]] [(0,[(4,6,112)]),(3,[(4,6,112)]),(6,[(4,6,112)]),(7,[(4,6,112)])]
def zH3:Ann:={ anD [] [[1,2,4],[13],[1,2,13],[2,5],[6],[31],[31],[7,8],[8,47],[7,9,10,47],[9,10,69],[69],[2,5,6]] []with cel:=λ_=>[(5,4,900,2,101)] }
def zDj:Ann:={ anD [] [[3,4,5,6,7],[6,12,13],[37],[3,4,5,7,10,11,12,13,37],[3,4,7,10,11,13,14],[48],[3,4,7,10,11,13,14,48],[3,4,7,10,11,14,15],[4,17],[19],[20],[68],[68],[21],[74],[74],[23],[23,111],[111],[7,14,15,17,19,20,21,24],[3,26],[135],[10,11,24,26,135],[]] []with frz:=true }
def zFI:Ann:={ anD [] [[1,2,3],[7],[8],[13],[13],[9],[9,48],[48],[1,2,3,6,7,8]] [(1,[(7,6,73)]),(7,[(7,6,73)])]with frz:=true }
def zJx:Ann:={ anD [] [[1,2,4],[18],[1,2,5,18],[2,5,6,7],[26],[2,5,6,7,26],[2,5,6,8],[9,10],[9],[11],[40],[40],[13],[13,75],[14,75],[14],[2,5,6,8,10,11]] []with cel:=λ_=>[(8,0,901,8,268)] }
def zAl:Ann:={ anD [30] [[0,2,4,6],[2,7],[8],[36],[36],[9],[45],[45],[9],[0,4,7,8]] []with cel:=λ_=>[(7,6,900,1,3)] }
def zDc:Ann:={ anD [] [[0,2,3,5,8],[9],[2,3,9,10],[31],[0,5,10,31],[0,5,10,11],[5,12],[],[12],[11],[0,72],[72],[10]] []with cel:=λ_=>[(10,8,900,1,3)] }
def zBM:Ann:=anD [] [[0],[3],[0,6,7,8],[9],[5,9],[5],[],[2,3,6,7,8]] [(1,[(3,2,149)]),(5,[(3,2,149)])]
def zBO:Ann:=anK [] [[0,1],[4]] [(0,[(4,2,149)]),(1,[(4,2,149)])]
def zDa:Ann:=anD [] [[0],[10],[0,2,3,10],[0,2,3,4],[0,12,13,14],[15],[6,15],[6,7,8],[8,29],[2,3,4,7,12,13,14,29],[2,3,4,12,13,14],[],[2,3,4,12,13,14]] [(3,[(4,1,3)]),(10,[(4,1,3)])]
def zAh:Ann:=anK [] [[0],[4,5],[4,5,33],[2,3],[4,5,6],[4,5,6,7],[4,5,6,7,37],[4,5,6,7],[4,5,6,7,49],[2,3],[4,5,6,7],[6,58],[6],[2,3]] []
def zAg:Ann:=anK [] [[0],[0,9],[2,3],[0,12],[2,3],[0,4],[4,13,14,15],[4,13,14,15,16],[4,6,13,14,15],[4,6,13,14,15,21],[2,3],[4,13,14,15],[4,13,14,15],[2,3]] [(5,[(4,1,9)]),(11,[(4,1,9)])]
def zw5:Ann:=anK [] [[0,1],[0,1,10],[4],[0,1,12,13],[0,1,12,13,14],[0,1,5,12,13],[0,1,12,13,24],[4],[0,1,12,13],[4]] []
def zHI:Ann:=anK [] [[1],[1,48],[2],[1,3],[1,3,53],[1,3],[1,3,67],[2],[1,4],[1,4,72],[1,4],[1,4,5,6],[1,4,5,87],[2],[1,4,8],[1,4,109],[2],[1,9],[1,9,114],[1,9],[1,9,10,11],[1,9,164],[2],[2]] []
def zHL:Ann:=anK [] [[1],[10],[2],[2]] []
def zHU:Ann:=anK [] [[1],[30],[2],[2]] []
def zHQ:Ann:=anK [] [[1],[1,14],[2],[1,3],[1,3,19],[1,3],[1,3,4],[1,3,4,42],[2],[1,3,56],[2],[1,60],[2],[2]] []
def zJF:Ann:=anD [] [[1,2],[5],[10],[10],[20],[1,2,4,5,20],[]] []
def zpQ:Ann:=anK [] [[1],[2]] []
def zHD:Ann:=anD [] [[0,3],[6],[10],[10],[30],[0,3,4,5,6,30],[]] []
def zyh:Ann:=anK [] [[0],[0,7],[2],[0,3],[0,3,11],[0,3],[0,3,4],[0,3,4,18],[2],[0,3,4,41],[2],[0,3,57],[2],[2]] []
def zFC:Ann:=anD [] [[2,3,4],[14],[2,3,4,6,7,14],[2,3,4,6,7,20],[2,3,4,6,7,20],[2,3,4,6,7,8],[9],[24],[24],[33],[33],[54],[2,3,4,6,7,8,9,54],[2,3,4,6,7,8,9,10],[62],[62],[73],[73],[10],[2,3,4,6,7,8,9]] [(5,[(8,1,3)]),(10,[(8,1,3)]),(18,[(8,1,3)])]
def zHH:Ann:=anK [] [[1],[1,19],[2],[1,3],[1,3,24],[1,3],[1,3,33],[2],[1,35],[1,35,36],[2],[1,35,57],[2],[1,89],[2],[2]] []
def zq1:Ann:=anK [] [[0,1,2],[6]] []
def zHW:Ann:=anK [] [[1],[1,12],[2],[1,14],[1,14,15],[2],[1,30],[2],[2]] []
def zHP:Ann:=anK [] [[0,1],[0,1,12],[4],[0,1,20],[4],[0,1,5],[0,1,5,24],[0,1,5],[0,1,5,40],[4],[0,6],[0,6,44],[0,6],[0,6,56],[4],[4]] []
def zEp:Ann:=anD [] [[0],[3],[4],[13],[13],[5],[31],[6,31],[7],[35],[35],[8],[8,78],[78],[6,7,80],[9,80],[93],[93],[],[],[5,9],[0,2,3,4]] [(1,[(3,3,63)]),(18,[(3,3,63)])]
def zAq:Ann:=anD [] [[0],[3],[4],[9],[9],[5],[5,28],[28],[0,2,3,4]] [(1,[(3,1,3)]),(7,[(3,1,3)])]
def zEu:Ann:=anD [] [[0,1],[5],[6],[10],[10],[28],[28],[0,1,4,5,6]] []
def zJH:Ann:=anD [] [[3,4,6,7,8,11,12],[14],[15],[16],[34],[34],[],[3,15,16,58],[4,6,7,8,11,13,14,58],[6,7,8,11,13,14,17],[19],[19,74],[6,7,8,11,13,14,17,74],[6,7,11,13,14,17,20,21],[20,88],[6,7,11,13,14,17,21,88],[6,7,11,13,14,17,23],[7,17,24],[6,24,26],[107],[26,27,28,107],[115],[11,13,14,23,27,28,115],[11,13,14,23],[121],[14,121],[11,29],[128],[29,128],[13,23]] []
def zHT:Ann:=anK [] [[1,2],[1,2,8],[4],[1,2,11],[4],[1,2,5],[1,2,5,15],[1,2,5],[1,2,5,18],[4],[1,2,5,33],[4],[1,2,5,50],[4],[1,2,5,59],[4],[4]] []
def zFG:Ann:=anK [] [[1,2,3],[1,2,3,22],[6,7,8,9],[1,2,3,25],[6,7,8,9],[1,2,3,10],[1,2,3,10,11],[1,2,3,10,11,29],[1,2,3,10,11],[1,2,3,10,11,37],[6,7,8,9],[1,2,3,10,11],[1,2,3,48],[6,7,8,9],[3,12,13],[3,12,13,57],[6,7,8,9],[6,7,8,9]] []
def zJG:Ann:=anD [] [[0,1],[5],[15],[15],[26],[0,1,4,5,26],[]] []
def zHZ:Ann:=anK [] [[0],[0,7],[2],[0,3],[0,3,11],[0,3],[0,3,4],[0,3,4,23],[2],[2]] []
def zJD:Ann:=anD [] [[0,1],[5],[10],[10],[6],[6,43],[0,1,4,5,43],[]] []
def zJE:Ann:=anK [] [[0,3],[0,3,5],[4],[0,3,5,15],[4],[0,3,5,19],[0,5,25],[4],[0,5,7],[0,5,33],[4],[0,5,36],[0,5,8,9],[0,5,52],[4],[0,5,56],[4],[0,5,60],[4],[0,5,61],[0,5,89],[4],[0,5,11],[0,5,98],[4],[0,5,102],[4],[0,5,12],[118],[4],[4]] []
def zEr:Ann:={ anD [] [[1,2],[15],[1,2,4,15],[1,2,4,5],[6],[7],[21],[21],[8],[43],[9,43],[10],[47],[47],[],[10,11],[68],[68],[110],[110],[9,11,112],[12,112],[127],[127],[],[],[8,12],[1,2,4,5,6,7]] [(4,[(6,7,65)]),(24,[(6,7,65)])]with frz:=true }
def zxF:Ann:=anD [] [[0,1,4],[6],[10],[10],[19],[0,1,5,6,19],[]] []
def zJs:Ann:=anK [] [[1,2],[1,2,11],[4],[1,2,5],[1,2,5,15],[1,2,5],[1,2,5,35],[4],[4]] []
def zEn:Ann:={ anD [50,75] [[3,4,5,6,7],[29],[3,4,5,6,7,10,11,29],[3,5,6,7,10,11,12,13],[36],[3,5,6,7,10,11,12,13,36],[3,5,6,7,10,11,14],[13,15],[54],[3,5,6,7,10,11,13,14,15,54],[3,5,6,7,10,11,14,15,16],[17],[59],[59],[66],[18,19,66],[79],[3,5,6,7,10,11,14,15,16,17,18,19,79],[3,5,6,7,10,11,14,15,16,17,20,21],[23,24],[20,21,23,24,126],[126],[3,5,6,7,10,11,14,15,16,17]] [(10,[(16,1,3)]),(21,[(16,1,3)])]with fz:=atReg [(1007,[14])] }
def zFH:Ann:=anD [] [[2,3,4,5],[25],[2,3,4,5,8,9,25],[3,4,5,8,9,10,11],[33],[3,4,5,8,9,10,11,33],[3,4,5,8,9,10,12],[13],[39],[39],[14],[15],[46],[46],[16],[17],[52],[52],[],[16,17,85],[85],[14,15,100],[100],[3,4,5,8,9,10,12,13]] [(6,[(12,1,3)]),(22,[(12,1,3)])]
def zBX:Ann:=anD [] [[0],[4],[5],[12],[12],[6],[7],[26],[26],[79],[79],[6,7,81],[8,81],[99],[99],[],[],[8],[0,5,123],[2,3,4,123],[]] [(1,[(4,6,73)]),(15,[(4,6,73)])]
def zHX:Ann:=anD [] [[2,3,4,5],[9],[10],[22],[22],[],[10,11],[32],[32],[43],[12,43],[13],[54],[54],[14],[60],[60],[73],[73],[2,3,4,5,8,9,11,12,13,14]] []
def zAp:Ann:=anD [] [[0,1],[6],[10],[10],[19],[0,1,4,5,6,19],[]] [(0,[(4,1,3)]),(5,[(4,1,3)]),(6,[(4,1,3)])]
def zFJ:Ann:=anD [] [[1,2,3],[7],[12],[12],[32],[1,2,3,6,7,32],[]] []
def zJB:Ann:=anD [] [[1,2],[5],[6],[10],[10],[17],[17],[1,2,4,5,6]] [(1,[(5,9,69)]),(6,[(5,9,69)])]
def zBV:Ann:={ anD [] [[0],[4,5],[6],[7],[20],[20],[8],[9,10],[8,9,10,53],[11,53],[],[11],[0,4,5,7,68],[2,3,6,68],[]] [(2,[(6,9,69)]),(11,[(6,9,69)])]with fz:=atReg [(10,[60])],cel:=λ_=>[(11,8,900,1,3)] }
def zKT:Ann:=anD [] [[1,2],[6],[7],[8],[19],[19],[9,10],[9],[11],[40],[40],[],[1,2,4,5,6,7,8,10,11]] [(2,[(7,12,339)]),(7,[(7,12,339)])]
def zJw:Ann:=anK [] [[2,3],[2,3,5,6],[2,3,5,33],[4],[2,3,5,7],[4]] []
def zEl:Ann:=anD [] [[1,2,3],[3,7],[9],[27],[27],[74],[1,2,6,7,9,74],[]] []
def zKU:Ann:=anD [] [[0,3],[5],[18],[18],[32],[3,5,32],[0,4],[0,3,4,5],[],[3,5],[0,4]] [(7,[(0,8,268)])]
def zzL:Ann:=anK [] [[0,1],[4,5]] []
def zHC:Ann:=anD [] [[0],[9],[0,2,9],[0,2,3],[13],[13],[4],[41],[0,2,3,4,41],[0,2,3,4,5],[46],[46],[55],[0,2,3,4,5,55],[0,2,3,4,6],[60],[60],[74],[0,2,3,4,6,74],[0,2,3,87],[0,2,3,87],[]] []
def zHE:Ann:=anK [] [[1],[42],[2],[2]] []
def zHB:Ann:=anD [] [[2,3],[5],[27],[2,3,4,5,27],[2,3,4,5,6],[30],[30],[46],[2,3,4,5,6,46],[2,3,4,5,6,7],[54],[54],[106],[2,3,4,5,6,7,106],[]] []
def zEk:Ann:=anK [] [[1,2],[2,6,7],[2,6,16],[4,5],[4,5]] []
def zFF:Ann:=anD [] [[0],[3],[7],[7],[59],[0,2,3,59],[]] []
def zEj:Ann:=anK [] [[2,3,4,5],[2,3,4,5,32],[8],[2,3,4,5,39],[8],[8]] []
def zsk:Ann:=anK [] [[2,3],[2,3,5],[4],[2,3,16],[4],[4]] []
def zHM:Ann:=anD [] [[3,4,5,6],[4,6,11,12],[28],[3,5,8,9,10,11,12,28],[3,5,8,9,10,11,13],[14],[15],[33],[33],[],[],[11,15,52],[3,5,8,9,10,13,14,52],[5,8,9,10,13,14,16],[5,12,14,16,18],[8,9,10,12,13,18]] [(5,[(14,1,3)]),(10,[(14,1,3)])]
def zJz:Ann:=anK [] [[2,3,4],[2,3,4,15],[4,5],[4,6,7],[4,6,25],[4,5],[4,5]] []
def zoe:Ann:=anK [] [[2,3],[4]] []
def zKV:Ann:=anK [] [[1,2],[1,2,12],[4],[1,2,5],[1,2,5,16],[1,2,5],[1,2,5,6],[1,2,5,6,24],[4],[1,2,5,6,32],[4],[1,2,5,44],[4],[4]] []
def zHS:Ann:=anK [] [[1,2,3],[8,9],[8,9,18],[6,7],[6,7]] []
def zzm:Ann:=anD [] [[0,1],[5],[9],[9],[17],[0,1,4,5,17],[]] []
def zJC:Ann:=anD [] [[0,1,4],[6],[10],[10],[28],[0,1,5,6,28],[]] []
def zH0:Ann:=anD [] [[0,1],[5],[10],[10],[6],[6,36],[0,1,4,5,36],[]] []
def zHY:Ann:=anK [] [[3,4,5],[6]] []
def zHG:Ann:=anD [] [[0,1],[5],[6],[10],[10],[20],[20],[0,1,4,5,6]] [(1,[(5,9,69)]),(6,[(5,9,69)])]
def zHV:Ann:=anD [] [[3,4,5],[14],[3,4,5,6,14],[3,4,5,6,7],[8],[19],[19],[9],[11],[11,35],[35,66],[9,66],[3,4,5,6,7,8]] [(3,[(7,1,3)]),(11,[(7,1,3)])]
def zDg:Ann:=anD [] [[0],[4,5],[6],[15],[15],[23],[7,23],[8,9],[9,44],[7,8,44],[7,57],[7,57],[0,2,3,4,5,6]] []
def zJv:Ann:=anD [] [[0],[10],[0,2,10],[2,3,4],[5],[6,7],[34],[34,56],[56],[],[],[],[2,3,4,5,6,7]] [(0,[(2,9,69)]),(2,[(2,9,69)]),(4,[(5,9,69)]),(8,[(5,9,69)]),(10,[(5,9,69)]),(12,[(2,9,69)])]
def zHK:Ann:={ anD [] [[1,2,3],[8],[9],[10],[11],[12,13,14],[15],[34],[34],[16],[53],[11,13,14,17,53],[17],[11,13,14,16],[16,81],[81,83],[16,83],[16,19],[19,102],[20,21,102],[22],[110],[110],[],[21,22,124],[20,124],[23,24],[23,149],[149],[159],[16,24,159],[25],[172],[172],[],[16,25,217],[16,217],[1,2,3,6,7,8,9,10,11,12,13,14,15]] [(2,[(9,12,339)]),(4,[(11,1,0)]),(13,[(11,1,0)]),(30,[(9,12,339)])]with cel:=λ_=>[(10,0,1000,1,0)] }
def zDf:Ann:=anK [] [[0,1,5],[5,7,8],[6]] []
def zJy:Ann:=anK [] [[1,2],[4]] []
def zBU:Ann:=anK [] [[2,3,4,5],[2,3,4,24],[8],[2,3,4,9],[3,9,37],[8],[8]] []
def zBW:Ann:=anK [] [[0,1],[0,1,10],[4],[0,1,5],[0,1,5,14],[0,1,5],[0,1,5,25],[4],[4]] []
def zAo:Ann:=anK [] [[1],[1,34],[2],[1,3],[1,3,4],[1,3,4,39],[1,3,4],[1,3,4,48],[2],[1,3,4],[2]] []
def zHx:Ann:=anK [] [[1],[1,20],[2],[2]] []
def zDi:Ann:=anD [] [[3,4,5,6],[27],[3,4,5,6,8,9,27],[3,4,5,6,8,9,10,11],[11,36],[3,4,5,6,8,9,10,36],[3,4,5,6,8,9,10,12],[10,14],[16,17],[18],[19],[74],[74],[],[86],[86],[116],[116],[3,4,5,6,8,9,12,14,16,17,18,19]] [(9,[(18,2,327)]),(13,[(18,2,327)]),(15,[(18,2,327)]),(17,[(18,2,327)])]
def zHA:Ann:=anD [] [[2,3,4],[13],[2,3,4,6,7,13],[2,3,4,6,7,19],[2,3,4,6,7,19],[2,3,4,6,7,24],[2,3,4,6,7,24],[2,3,4,6,7,8],[9],[28],[28],[35],[36],[35,36],[45],[45],[2,3,4,6,7,8,9]] []
def zHO:Ann:=anD [] [[0,3,4],[6],[29],[29],[7,8],[3,9,10],[8,10,53],[0,5,6,7,9,53],[0,5,6,11,12],[12,62],[0,5,6,11,62],[5,13,14],[5,13,14]] []
def zEg:Ann:=anK [] [[2,3],[2,3,14],[4],[5,6],[5,41],[4],[42],[4],[4]] []
def zHR:Ann:=anD [] [[1,2,3,6],[27],[1,2,3,7,27],[1,2,3,7,31],[1,2,3,7,31],[1,2,3,7,8],[36],[36],[44],[1,2,3,7,8,44],[2,3,7,9,10,11],[54],[2,3,7,9,10,11,54],[2,3,7,10,12],[10,11,12,14],[71],[2,3,7,11,14,71],[3,7,14,15],[11,14,15,17],[89],[3,7,11,17,89],[7,17,18],[97],[7,17,18,97],[]] []
def zHv:Ann:=anK [] [[1],[1,5],[2],[2]] []
def zHJ:Ann:=anD [] [[1,2,3],[8],[1,10],[12,13],[14],[38],[38],[48],[15,48],[16],[52],[52],[61],[61],[15,16,78],[2,3,6,7,8,10,12,13,14,78],[]] [(3,[(12,1,3),(13,1,3)]),(13,[(12,1,3),(13,1,3)])]
def zJu:Ann:=anK [] [[2,3,4,6],[2,3,4,6,12],[6,7],[2,3,4,6,15],[6,7],[3,6,8],[3,6,8,27],[3,6,8],[6,7]] [(5,[(8,1,4)]),(7,[(8,1,4)])]
def zJr:Ann:=anD [] [[2,3],[5],[10],[10],[20],[2,3,4,5,20],[]] []
def zBT:Ann:=anK [] [[1],[1,30],[2],[1,33],[2],[2]] []
def zEh:Ann:=anD [] [[2,3,4],[9],[6,9],[6],[2,3]] []
def zAn:Ann:=anK [] [[0],[0,4],[2],[2]] []
def zFE:Ann:=anD [] [[1,2,4],[5],[6],[15],[15],[67],[67],[6,70],[1,2,5,70],[1,2,80],[1,2,80],[1,2,88],[1,2,88],[1,2,7,8,9],[10],[98],[98],[11],[11],[2,8,9,10,126],[1,7,126],[]] []
def zDh:Ann:=anD [] [[1,2,3],[7],[8],[13],[13],[33],[33],[1,2,3,6,7,8]] [(1,[(7,8,268)]),(6,[(7,8,268)])]
def zFD:Ann:=anD [] [[2,3,4],[19],[2,3,4,6,19],[2,3,4,6,7],[23],[23],[42],[2,3,4,6,7,42],[]] []
def zHN:Ann:=anK [] [[0,1,4],[0,1,4,6,7],[4,6,7,8,9],[4,6,8,47],[4,5],[4,10,11],[4,5]] []
def zCt:Ann:=anK [] [[2,3,4],[2,3,4,13],[4,5],[4,5]] []
def zKP:Ann:=anK [] [[2,3,4],[2,3,4,15],[4,5],[2,3,4,6,7],[4,5]] []
def zHz:Ann:=anK [] [[0,2,5,7,9],[0,2,5,7,9,12],[8,9],[0,2,5,7,9,20],[8,9],[8,9]] []
def zEi:Ann:=anK [] [[0,1,4],[4,5,6],[4]] []
def zJA:Ann:=anD [] [[1,2,5],[7],[8],[9],[19],[19],[27],[27],[10],[10,12,13],[63],[1,2,4,6,7,8,9,12,13,63],[1,2,4,6,7,8,9],[1,2,9,71],[4,6,7,8,71],[4,6,7,14,15],[4,6,7,14,15]] [(2,[(8,2,167)]),(12,[(8,2,167)])]
def zKR:Ann:=anD [] [[0,1,4],[7],[0,1,5,7],[]] []
def zHy:Ann:=anK [] [[0,1],[0,1,5],[5,12],[5],[4]] []
def zJt:Ann:=anK [] [[1,2,3],[1,2,3,24],[6],[1,2,3,7],[1,2,3,7,8],[1,2,3,7,8,28],[1,2,3,7,8],[1,2,3,7,8,42],[6],[1,2,3,7,8,9],[1,2,3,7,8,9,58],[6],[1,2,3,7,8],[6]] []
def zHF:Ann:=anD [] [[0],[3],[4],[8],[8],[15],[15],[0,2,3,4]] []
def zFA:Ann:=anD [] [[2,3,4,5],[18],[2,3,18],[2,3,6,7],[8],[34],[34],[9],[45],[45],[10],[],[9],[],[10,72],[72],[],[2,3,6,7,8]] []
def zKQ:Ann:=anK [] [[2,3,4],[2,3,4,13],[4,5],[2,3,4,17],[4,5],[4,5]] []
def zFB:Ann:=anD [] [[0,4,5,6],[8],[4,9],[5,8,11],[46],[0,7,9,11,46],[0,7,13],[0,55],[55],[7,13]] []
def zAm:Ann:=anK [] [[2,3,4],[2,3,4,5,6],[4,5,7],[4]] []
def zHu:Ann:=anK [] [[2,3],[2,3,23],[4],[26],[4],[4]] []
def zJo:Ann:=anD [] [[0,1],[6],[7],[8],[9],[10],[8,10,11],[12],[11,13],[6],[4,7,9,12,13],[0,1,5]] []
def zKS:Ann:=anD [] [[0,2],[17],[0,3,17],[0,3,4],[22],[22],[30],[0,3,4,30],[0,3,5],[6],[36],[36],[7],[7,8],[8],[66],[0,3,5,6,66],[0,3,5,10,11],[12],[72],[72],[13],[13],[0,3,5,10,11,12]] []
def zHw:Ann:=anK [] [[1,2],[2]] []
def aNone:Ann:={ lits:=[],live:=λ_=>none,own:=λ_=>[] }
def annTab:List Ann:=[aNone,aNone,aNone,zw4,zl4,zJp,zl4,zBS,zKW,zEe,zC7,zBL,zEc,zC6,zFy,zAj,zzI,zzJ,zu9,zu9,zDd,zqj,zBQ,zBP,zDe,zH5,zDk,zH2,zEs,zKX,zEq,zzK,zDb,zEf,zAf,zrW,zC9,zl4,zl4,zqj,zEd,zBN,zzG,zC8,zzH,zFz,zFN,zH6,zBR,zAk,zqj,zAi,zJq,zH1,zH4,zBY,zEm,zFL,zEt,zFM,zEo,zFK,zH3,zDj,zFI,zJx,zAl,zDc,aNone,aNone,aNone,zBM,zBO,zDa,zAh,zAg,zl4,zw5,aNone,aNone,zHI,zHL,zHU,zHQ,zl4,zJF,zpQ,zpQ,zHD,zyh,zFC,zHH,zq1,zHW,zHP,zEp,zAq,zEu,zJH,zHT,zFG,zJG,zHZ,zJD,zJE,zEr,zxF,zJs,zEn,zFH,zBX,zHX,zAp,zFJ,zJB,zBV,zpQ,zKT,zJw,zEl,zxF,zKU,aNone,aNone,aNone,aNone,aNone,zzL,aNone,aNone,zHC,zHE,zHB,zEk,zq1,zFF,zq1,zEj,zq1,zsk,zHM,zJz,zoe,zKV,zHS,zzm,zpQ,zJC,zH0,zq1,zoe,zHY,zHG,zsk,zHV,zDg,zJv,zHK,zDf,zJy,zBU,zBW,zsk,aNone,aNone,aNone,aNone,aNone,aNone,aNone,aNone,aNone,aNone,aNone,aNone,aNone,zAo,zHx,zzm,zDi,zHA,zHO,zEg,zHR,zHv,zoe,zoe,zHJ,zJu,zJr,aNone,aNone,aNone,aNone,aNone,aNone,aNone,aNone,aNone,zBT,zEh,zAn,zFE,zDh,zFD,zHN,zCt,zCt,zKP,zHz,zEi,zJA,zKR,zHy,zJt,zoe,zHF,aNone,aNone,zFA,zKQ,zFB,zAm,zHu,zAm,zJo,zKS,zAn,zHw,aNone,aNone,aNone,aNone,aNone,aNone,aNone,aNone,aNone,aNone,aNone,aNone,aNone,aNone,aNone,aNone,aNone,aNone,aNone,aNone,aNone,aNone,aNone,aNone,aNone,aNone,aNone,aNone]
def zA:AnnF:=λf=>annTab.getD f aNone
abbrev Xa:=r1 vBool
def zao:Bool->AV×Mem:=Xa.enc
abbrev zac:RD:={Xa with α:=Bool,enc:=zao}
abbrev Xaa:=r1 (vNewp 2 83 zbc)
def zxk:zag->AV×Mem:=Xaa.enc
abbrev zsR:RD:={Xaa with α:=zag,enc:=zxk}
abbrev Xab:=r1M (vAgg zxM) (mBox 1000 2 83 zbc)
def zjx:(zbF×zag)->AV×Mem:=Xab.enc
abbrev zlY:RD:={Xab with α:=zbF×zag,enc:=zjx}
abbrev Xac:=rT (lCons (vAgg zlu) (lOne (vI .i64)))
def znr:(zcE×Int)->AV×Mem:=Xac.enc
abbrev zpJ:RD:={Xac with α:=zcE×Int,enc:=znr}
abbrev Xad:=r1M (vNew 31 75 dGOp) (mBox 1000 2 83 zbc)
def zn1:(((List GOp))×zag)->AV×Mem:=Xad.enc
abbrev zn2:RD:={Xad with α:=((List GOp))×zag,enc:=zn1}
abbrev Xae:=r1 vStr
def zfz:ByteArray->AV×Mem:=Xae.enc
abbrev zcg:RD:={Xae with α:=ByteArray,enc:=zfz}
abbrev Xaf:=rT (lCons (vAgg dGOp) (lOne (vI .i64)))
def zrB:(GOp×Int)->AV×Mem:=Xaf.enc
abbrev zhG:RD:={Xaf with α:=GOp×Int,enc:=zrB}
abbrev Xag:=rT (lCons vStr (lOne (vI .i64)))
def zqy:(ByteArray×Int)->AV×Mem:=Xag.enc
abbrev zmO:RD:={Xag with α:=ByteArray×Int,enc:=zqy}
abbrev Xah:=rT (lCons (vSl 31 dGOp) (lCons (vI .i64) (lOne (vI .i64))))
def zo6:((List GOp)×Int×Int)->AV×Mem:=Xah.enc
abbrev zo9:RD:={Xah with α:=(List GOp)×Int×Int,enc:=zo6}
abbrev Xai:=rTM (lCons (vSl 3 zcS) (lOne (vSl 2 zep))) (mBox 1000 2 83 zbc)
def ziX:(((List zaQ)×(List zbC))×zag)->AV×Mem:=Xai.enc
abbrev zln:RD:={Xai with α:=((List zaQ)×(List zbC))×zag,enc:=ziX}
abbrev Xaj:=r1M (vNew 5 165 zdM) (mBox 1000 2 83 zbc)
def zks:(((List zbA))×zag)->AV×Mem:=Xaj.enc
abbrev zku:RD:={Xaj with α:=((List zbA))×zag,enc:=zks}
abbrev Xb:=r1M (vAgg zmZ) (mBox 1000 2 83 zbc)
def znC:(zbT×zag)->AV×Mem:=Xb.enc
abbrev zkv:RD:={Xb with α:=zbT×zag,enc:=znC}
abbrev Xba:=r1M (vAgg zq5) (mBox 1000 2 83 zbc)
def zqB:(zbQ×zag)->AV×Mem:=Xba.enc
abbrev zmR:RD:={Xba with α:=zbQ×zag,enc:=zqB}
abbrev Xbb:=r1M (vAgg zoi) (mBox 1000 2 83 zbc)
def zlE:(zb4×zag)->AV×Mem:=Xbb.enc
abbrev ziG:RD:={Xbb with α:=zb4×zag,enc:=zlE}
abbrev Xbc:=r1M (vI .i64) (mBox 1000 2 83 zbc)
def zmM:(Int×zag)->AV×Mem:=Xbc.enc
abbrev zaH:RD:={Xbc with α:=Int×zag,enc:=zmM}
abbrev Xbd:=r1M vBool (mBox 1000 2 83 zbc)
def zqz:(Bool×zag)->AV×Mem:=Xbd.enc
abbrev zdn:RD:={Xbd with α:=Bool×zag,enc:=zqz}
abbrev Xbe:=r1M (vAgg zi7) (mBox 1000 2 83 zbc)
def zlV:(zeT×zag)->AV×Mem:=Xbe.enc
abbrev zlX:RD:={Xbe with α:=zeT×zag,enc:=zlV}
abbrev Xbf:=r1M (vAgg zoY) (mBox 1000 2 83 zbc)
def zlU:(zcf×zag)->AV×Mem:=Xbf.enc
abbrev zlW:RD:={Xbf with α:=zcf×zag,enc:=zlU}
abbrev Xbg:=r1M (vAgg zfS) (mBox 1000 2 83 zbc)
def zmN:(GSeed×zag)->AV×Mem:=Xbg.enc
abbrev zmS:RD:={Xbg with α:=GSeed×zag,enc:=zmN}
abbrev Xbh:=rT (lCons (vSl 5 zd7) (lOne (vI .i64)))
def zg5:((List zbo)×Int)->AV×Mem:=Xbh.enc
abbrev zen:RD:={Xbh with α:=(List zbo)×Int,enc:=zg5}
abbrev Xbi:=r1 (vI .i64)
def za9:Int->AV×Mem:=Xbi.enc
abbrev zaE:RD:={Xbi with α:=Int,enc:=za9}
abbrev Xbj:=r1 (vSl 6 zcU)
def zfW:((List zaV))->AV×Mem:=Xbj.enc
abbrev zdZ:RD:={Xbj with α:=(List zaV),enc:=zfW}
abbrev Xc:=rT (lCons (vAgg zkP) (lCons (vSl 9 zbm) (lOne (vI .i64))))
def zlm:(zbk×(List zak)×Int)->AV×Mem:=Xc.enc
abbrev zgJ:RD:={Xc with α:=zbk×(List zak)×Int,enc:=zlm}
abbrev Xca:=r1M (vNew 7 65 zcu) (mBox 1000 2 83 zbc)
def zkt:(((List zaK))×zag)->AV×Mem:=Xca.enc
abbrev zkw:RD:={Xca with α:=((List zaK))×zag,enc:=zkt}
abbrev Xcb:=r1M (vNew 9 69 zbm) (mBox 1000 2 83 zbc)
def zmL:(((List zak))×zag)->AV×Mem:=Xcb.enc
abbrev zmP:RD:={Xcb with α:=((List zak))×zag,enc:=zmL}
abbrev Xcc:=r1M (vAgg dGOp) (mBox 1000 2 83 zbc)
def zhE:(GOp×zag)->AV×Mem:=Xcc.enc
abbrev zjj:RD:={Xcc with α:=GOp×zag,enc:=zhE}
abbrev Xcd:=r0
def zA6:Unit->AV×Mem:=Xcd.enc
abbrev zA7:RD:={Xcd with α:=Unit,enc:=zA6}
abbrev Xce:=r1 (vNew 1 9 dStr)
def zrH:((List ByteArray))->AV×Mem:=Xce.enc
abbrev zlq:RD:={Xce with α:=(List ByteArray),enc:=zrH}
abbrev Xcf:=r1 (vAgg dGOp)
def zrC:GOp->AV×Mem:=Xcf.enc
abbrev zji:RD:={Xcf with α:=GOp,enc:=zrC}
abbrev Xcg:=r1 (vNew 2 149 zjp)
def zgy:((List zck))->AV×Mem:=Xcg.enc
abbrev zcJ:RD:={Xcg with α:=(List zck),enc:=zgy}
abbrev Xch:=rT (lCons vStr (lOne vBool))
def ze9:(ByteArray×Bool)->AV×Mem:=Xch.enc
abbrev zeM:RD:={Xch with α:=ByteArray×Bool,enc:=ze9}
abbrev Xci:=rT (lCons vStr (lCons vStr (lOne vBool)))
def ztZ:(ByteArray×ByteArray×Bool)->AV×Mem:=Xci.enc
abbrev zqd:RD:={Xci with α:=ByteArray×ByteArray×Bool,enc:=ztZ}
abbrev Xcj:=r1M (vAgg zcS) (mBox 1000 2 83 zbc)
def zpt:(zaQ×zag)->AV×Mem:=Xcj.enc
abbrev zgz:RD:={Xcj with α:=zaQ×zag,enc:=zpt}
abbrev Xd:=r1M (vAgg zep) (mBox 1000 2 83 zbc)
def zoE:(zbC×zag)->AV×Mem:=Xd.enc
abbrev zlo:RD:={Xd with α:=zbC×zag,enc:=zoE}
abbrev Xda:=r1M (vNew 1 3 zbw) (mBox 1000 2 83 zbc)
def zlk:(((List Int))×zag)->AV×Mem:=Xda.enc
abbrev ziY:RD:={Xda with α:=((List Int))×zag,enc:=zlk}
abbrev Xdb:=r1 (vAgg zcS)
def zrD:zaQ->AV×Mem:=Xdb.enc
abbrev zmk:RD:={Xdb with α:=zaQ,enc:=zrD}
abbrev Xdc:=rT (lCons (vSl 3 zeq) (lOne (vI .i64)))
def zhS:((List zcb)×Int)->AV×Mem:=Xdc.enc
abbrev zhU:RD:={Xdc with α:=(List zcb)×Int,enc:=zhS}
abbrev Xdd:=r1 (vAgg zoY)
def zmj:zcf->AV×Mem:=Xdd.enc
abbrev zj1:RD:={Xdd with α:=zcf,enc:=zmj}
abbrev Xde:=rT (lCons (vAgg zdA) (lOne vBool))
def zrG:(zbH×Bool)->AV×Mem:=Xde.enc
abbrev zfk:RD:={Xde with α:=zbH×Bool,enc:=zrG}
abbrev Xdf:=r1 (vNew 5 110 zdA)
def zjh:((List zbH))->AV×Mem:=Xdf.enc
abbrev zgH:RD:={Xdf with α:=(List zbH),enc:=zjh}
abbrev Xdg:=rT (lCons (vSl 6 zcU) (lOne (vI .i64)))
def zsG:((List zaV)×Int)->AV×Mem:=Xdg.enc
abbrev zj0:RD:={Xdg with α:=(List zaV)×Int,enc:=zsG}
abbrev Xdh:=r1 (vAgg zxN)
def zng:zaZ->AV×Mem:=Xdh.enc
abbrev zkI:RD:={Xdh with α:=zaZ,enc:=zng}
abbrev Xdi:=rT (lCons (vNew 9 69 zbm) (lOne (vI .i64)))
def ziw:((List zak)×Int)->AV×Mem:=Xdi.enc
abbrev zix:RD:={Xdi with α:=(List zak)×Int,enc:=ziw}
abbrev Xdj:=r1 (vSl 6 zdw)
def zo8:((List zbu))->AV×Mem:=Xdj.enc
abbrev zjZ:RD:={Xdj with α:=(List zbu),enc:=zo8}
abbrev Xe:=rT (lCons (vAgg zkP) (lOne (vI .i64)))
def zrF:(zbk×Int)->AV×Mem:=Xe.enc
abbrev ziZ:RD:={Xe with α:=zbk×Int,enc:=zrF}
abbrev Xea:=r1M (vAgg zcu) (mBox 1000 2 83 zbc)
def zll:(zaK×zag)->AV×Mem:=Xea.enc
abbrev zlp:RD:={Xea with α:=zaK×zag,enc:=zll}
abbrev Xeb:=r1M (vAgg zbm) (mBox 1000 2 83 zbc)
def zqA:(zak×zag)->AV×Mem:=Xeb.enc
abbrev zmQ:RD:={Xeb with α:=zak×zag,enc:=zqA}
abbrev Xec:=rT (lCons (vSl 1 zbw) (lOne vBool))
def zg4:((List Int)×Bool)->AV×Mem:=Xec.enc
abbrev zeI:RD:={Xec with α:=(List Int)×Bool,enc:=zg4}
abbrev Xed:=rT (lCons (vI .i64) (lOne vBool))
def zez:(Int×Bool)->AV×Mem:=Xed.enc
abbrev zc3:RD:={Xed with α:=Int×Bool,enc:=zez}
abbrev Xee:=rT (lCons (vSl 1 zbw) (lOne (vI .i64)))
def zeB:((List Int)×Int)->AV×Mem:=Xee.enc
abbrev zei:RD:={Xee with α:=(List Int)×Int,enc:=zeB}
abbrev Xef:=r1 (vNew 3 63 zhK)
def zhF:((List zcL))->AV×Mem:=Xef.enc
abbrev zgI:RD:={Xef with α:=(List zcL),enc:=zhF}
abbrev Xeg:=r1 (vNew 1 3 zbw)
def zdq:((List Int))->AV×Mem:=Xeg.enc
abbrev zdr:RD:={Xeg with α:=(List Int),enc:=zdq}
abbrev Xeh:=rT (lCons (vAgg zer) (lOne (vI .i64)))
def zkf:(zb3×Int)->AV×Mem:=Xeh.enc
abbrev zmn:RD:={Xeh with α:=zb3×Int,enc:=zkf}
abbrev Xei:=rT (lCons (vI .i64) (lCons (vI .i64) (lCons (vI .i64) (lOne (vI .i64)))))
def zmi:(Int×Int×Int×Int)->AV×Mem:=Xei.enc
abbrev zjY:RD:={Xei with α:=Int×Int×Int×Int,enc:=zmi}
abbrev Xej:=r1 (vSl 7 zcu)
def zgG:((List zaK))->AV×Mem:=Xej.enc
abbrev zjk:RD:={Xej with α:=(List zaK),enc:=zgG}
abbrev Xf:=rT (lCons (vAgg zcu) (lOne vBool))
def zo7:(zaK×Bool)->AV×Mem:=Xf.enc
abbrev zhk:RD:={Xf with α:=zaK×Bool,enc:=zo7}
abbrev Xfa:=rT (lCons (vSl 6 zdw) (lOne (vI .i64)))
def zfN:((List zbu)×Int)->AV×Mem:=Xfa.enc
abbrev zhT:RD:={Xfa with α:=(List zbu)×Int,enc:=zfN}
abbrev Xfb:=r1 (vNew 9 69 zbm)
def zga:((List zak))->AV×Mem:=Xfb.enc
abbrev ze4:RD:={Xfb with α:=(List zak),enc:=zga}
abbrev Xfc:=rT (lCons (vSl 9 zbm) (lOne (vI .i64)))
def zjy:((List zak)×Int)->AV×Mem:=Xfc.enc
abbrev zjz:RD:={Xfc with α:=(List zak)×Int,enc:=zjy}
abbrev Xfd:=rT (lCons (vSl 12 zff) (lOne (vSl 1 dBool)))
def znp:((List zc1)×(List Bool))->AV×Mem:=Xfd.enc
abbrev zns:RD:={Xfd with α:=(List zc1)×(List Bool),enc:=znp}
abbrev Xfe:=rT (lCons (vAgg zdM) (lOne vBool))
def zrE:(zbA×Bool)->AV×Mem:=Xfe.enc
abbrev zml:RD:={Xfe with α:=zbA×Bool,enc:=zrE}
abbrev Xff:=r1 (vNew 8 268 zd0)
def znq:((List zbL))->AV×Mem:=Xff.enc
abbrev znt:RD:={Xff with α:=(List zbL),enc:=znq}
abbrev Xfg:=rT (lCons (vI .i64) (lCons (vI .i64) (lOne (vI .i64))))
def zqb:(Int×Int×Int)->AV×Mem:=Xfg.enc
abbrev zkH:RD:={Xfg with α:=Int×Int×Int,enc:=zqb}
abbrev Xfh:=rT (lCons (vAgg zfs) (lOne (vI .i64)))
def zda:(zbr×Int)->AV×Mem:=Xfh.enc
abbrev zbl:RD:={Xfh with α:=zbr×Int,enc:=zda}
abbrev Xfi:=rT (lCons (vI .i64) (lOne (vI .i64)))
def znf:(Int×Int)->AV×Mem:=Xfi.enc
abbrev zh2:RD:={Xfi with α:=Int×Int,enc:=znf}
abbrev Xfj:=rT (lCons (vMp zhJ) (lOne (vMp zih)))
def zkd:((List ((Int×Int)×Int))×(List ((Int×Int)×Bool)))->AV×Mem:=Xfj.enc
abbrev zmT:RD:={Xfj with α:=(List ((Int×Int)×Int))×(List ((Int×Int)×Bool)),enc:=zkd}
abbrev Xg:=rT (lCons (vSl 2 zf4) (lOne (vI .i64)))
def zke:((List zdG)×Int)->AV×Mem:=Xg.enc
abbrev zmU:RD:={Xg with α:=(List zdG)×Int,enc:=zke}
abbrev Xga:=rT (lCons (vAgg zfs) (lOne vBool))
def zgg:(zbr×Bool)->AV×Mem:=Xga.enc
abbrev zh1:RD:={Xga with α:=zbr×Bool,enc:=zgg}
abbrev Xgb:=rT (lCons vBool (lOne vBool))
def zqa:(Bool×Bool)->AV×Mem:=Xgb.enc
abbrev zqc:RD:={Xgb with α:=Bool×Bool,enc:=zqa}
abbrev Xgc:=rT (lCons (vAgg zxO) (lOne (vI .i64)))
def zvE:(zcp×Int)->AV×Mem:=Xgc.enc
abbrev zrI:RD:={Xgc with α:=zcp×Int,enc:=zvE}
abbrev Xgd:=r1 (vAgg zev)
def ze3:za7->AV×Mem:=Xgd.enc
abbrev zb2:RD:={Xgd with α:=za7,enc:=ze3}
abbrev Xge:=r1 (vI .u64)
def zvD:Int->AV×Mem:=Xge.enc
abbrev zcQ:RD:={Xge with α:=Int,enc:=zvD}
abbrev Xgf:=r1 (vAgg zf4)
def zhi:zdG->AV×Mem:=Xgf.enc
abbrev zpa:RD:={Xgf with α:=zdG,enc:=zhi}
abbrev Xgg:=rT (lCons vBool (lOne (vAgg zev)))
def ztY:(Bool×za7)->AV×Mem:=Xgg.enc
abbrev zkG:RD:={Xgg with α:=Bool×za7,enc:=ztY}
abbrev Xgh:=rT (lCons (vI .i64) (lCons (vAgg zfs) (lOne (vI .i64))))
def zoF:(Int×zbr×Int)->AV×Mem:=Xgh.enc
abbrev zmm:RD:={Xgh with α:=Int×zbr×Int,enc:=zoF}
abbrev Xgi:=rT (lCons (vAgg zev) (lOne (vAgg zev)))
def zjX:(za7×za7)->AV×Mem:=Xgi.enc
abbrev zhj:RD:={Xgi with α:=za7×za7,enc:=zjX}
abbrev Xgj:=rT (lCons (vI .u64) (lOne (vI .u64)))
def zvC:(Int×Int)->AV×Mem:=Xgj.enc
abbrev zoG:RD:={Xgj with α:=Int×Int,enc:=zvC}
def resTab:List RD:=[rRaw,rRaw,rRaw,zac,zac,zac,zsR,zlY,zpJ,zn2,zcg,zcg,zhG,zmO,zo9,zln,zku,zkv,zmR,ziG,zaH,zdn,zlX,zlW,zmS,zac,zen,zaE,zdZ,zdZ,zgJ,zkw,zmP,zjj,zA7,rRaw,zcg,zcg,zcg,zlq,zji,zcJ,zid,zaE,zeM,zac,zcg,zqd,zgz,zlo,zaH,ziY,zmk,zaE,zac,zhU,zen,zj1,zfk,zaE,zgH,zj0,zkI,zix,zjZ,ziZ,zlp,zmQ,rRaw,rRaw,rRaw,zcJ,zcJ,zeI,zc3,zeM,zac,zac,rRaw,rRaw,zaE,zaE,zaE,zaE,zac,zac,zac,zac,zc3,zaE,zei,zac,zac,zac,zaE,zgI,zdr,zaE,zmn,zaE,zjY,zac,zaE,zac,zaE,zjk,zhk,zac,zei,zei,zhT,zdr,zeI,zac,ze4,zjz,zac,zns,zac,zac,zml,znt,rRaw,rRaw,rRaw,rRaw,rRaw,zeM,rRaw,rRaw,zaE,zaE,zac,zc3,zac,zac,zac,zac,zac,zac,zkH,zbl,zac,zac,zh2,zaE,zac,zfk,zac,zac,zac,zac,ze4,zac,zdr,zmT,ze4,zns,zac,zac,zac,zac,zac,rRaw,rRaw,rRaw,rRaw,rRaw,rRaw,rRaw,rRaw,rRaw,rRaw,rRaw,rRaw,rRaw,zac,zac,zac,zmU,zh2,zh1,zaE,zbl,zaE,zac,zac,zqc,zrI,zac,rRaw,rRaw,rRaw,rRaw,rRaw,rRaw,rRaw,rRaw,rRaw,zac,zb2,zcQ,zpa,znt,zac,zh1,zbl,zbl,zbl,zkG,zb2,zmm,zbl,zaE,zac,zac,zaE,rRaw,rRaw,zhj,zbl,zbl,zb2,zaE,zb2,zoG,zbl,zaE,zb2,rRaw,rRaw,rRaw,rRaw,rRaw,rRaw,rRaw,rRaw,rRaw,rRaw,rRaw,rRaw,rRaw,rRaw,rRaw,rRaw,rRaw,rRaw,rRaw,rRaw,rRaw,rRaw,rRaw,rRaw,rRaw,rRaw,rRaw,rRaw]
def zT:Dic:=Dic.of tyTab resTab
abbrev fr(f)(n)(m):=(⟨Tryz.prog,zC,zA,f,n,m⟩:Fr)
abbrev zfD:=fr 3 Tryz.f3 []
abbrev zI3:=fr 4 Tryz.f4 []
abbrev zI2:=fr 5 Tryz.f5 []
abbrev zKA:=fr 6 Tryz.f6 []
abbrev zlH:=fr 7 Tryz.f7 [(1000,⟨0,0,[],false⟩)]
abbrev zw2:=fr 8 Tryz.f8 []
abbrev zfP:=fr 9 Tryz.f9 [(1000,⟨0,0,[],false⟩)]
abbrev zbp:=fr 10 Tryz.f10 []
abbrev zBG:=fr 11 Tryz.f11 []
abbrev zbi:=fr 12 Tryz.f12 []
abbrev za3:=fr 13 Tryz.f13 []
abbrev zxx:=fr 14 Tryz.f14 []
abbrev zkK:=fr 15 Tryz.f15 [(1000,⟨0,0,[],false⟩)]
abbrev zrZ:=fr 16 Tryz.f16 [(1000,⟨0,0,[],false⟩)]
abbrev zzF:=fr 17 Tryz.f17 [(1000,⟨0,0,[],false⟩)]
abbrev zC2:=fr 18 Tryz.f18 [(1000,⟨0,0,[],false⟩)]
abbrev zwZ:=fr 19 Tryz.f19 [(1000,⟨0,0,[],false⟩)]
abbrev zC0:=fr 20 Tryz.f20 [(1000,⟨0,0,[],false⟩)]
abbrev zCZ:=fr 21 Tryz.f21 [(1000,⟨0,0,[],false⟩)]
abbrev zt5:=fr 22 Tryz.f22 [(1000,⟨0,0,[],false⟩)]
abbrev zt4:=fr 23 Tryz.f23 [(1000,⟨0,0,[],false⟩)]
abbrev zu4:=fr 24 Tryz.f24 [(1000,⟨0,0,[],false⟩)]
abbrev zzl:=fr 25 Tryz.f25 []
abbrev zC4:=fr 26 Tryz.f26 []
abbrev zzj:=fr 27 Tryz.f27 []
abbrev zkM:=fr 28 Tryz.f28 []
abbrev zKG:=fr 29 Tryz.f29 []
abbrev zv6:=fr 30 Tryz.f30 []
abbrev zkg:=fr 31 Tryz.f31 [(1000,⟨0,0,[],false⟩)]
abbrev zmv:=fr 32 Tryz.f32 [(1000,⟨0,0,[],false⟩)]
abbrev zqY:=fr 33 Tryz.f33 [(1000,⟨0,0,[],false⟩)]
abbrev zcq:=fr 34 Tryz.f34 []
abbrev zu2:=fr 36 Tryz.f36 []
abbrev zD5:=fr 40 Tryz.f40 []
abbrev zt3:=fr 41 Tryz.f41 []
abbrev zrX:=fr 42 Tryz.f42 [(1000,⟨0,0,[],false⟩)]
abbrev zu1:=fr 43 Tryz.f43 []
abbrev zrY:=fr 44 Tryz.f44 []
abbrev zFt:=fr 45 Tryz.f45 []
abbrev zpj:=fr 48 Tryz.f48 [(1000,⟨0,0,[],false⟩)]
abbrev zoa:=fr 49 Tryz.f49 [(1000,⟨0,0,[],false⟩)]
abbrev zC1:=fr 50 Tryz.f50 [(1000,⟨0,0,[],false⟩)]
abbrev zsX:=fr 51 Tryz.f51 [(1000,⟨0,0,[],false⟩)]
abbrev zz2:=fr 52 Tryz.f52 []
abbrev zpP:=fr 53 Tryz.f53 []
abbrev zHs:=fr 54 Tryz.f54 []
abbrev zpk:=fr 55 Tryz.f55 []
abbrev znD:=fr 56 Tryz.f56 []
abbrev zsj:=fr 57 Tryz.f57 []
abbrev zv7:=fr 58 Tryz.f58 []
abbrev zxE:=fr 59 Tryz.f59 []
abbrev znE:=fr 60 Tryz.f60 []
abbrev zFw:=fr 61 Tryz.f61 []
abbrev zzk:=fr 62 Tryz.f62 []
abbrev zqi:=fr 63 Tryz.f63 []
abbrev zxC:=fr 64 Tryz.f64 []
abbrev zz7:=fr 65 Tryz.f65 []
abbrev zsY:=fr 66 Tryz.f66 [(1000,⟨0,0,[],false⟩)]
abbrev zqg:=fr 67 Tryz.f67 [(1000,⟨0,0,[],false⟩)]
abbrev zt2:=fr 71 Tryz.f71 []
abbrev zBH:=fr 72 Tryz.f72 []
abbrev zu3:=fr 73 Tryz.f73 []
abbrev zsW:=fr 74 Tryz.f74 []
abbrev zsV:=fr 75 Tryz.f75 []
abbrev zFs:=fr 76 Tryz.f76 []
abbrev zpu:=fr 77 Tryz.f77 []
abbrev zpO:=fr 80 Tryz.f80 []
abbrev zHi:=fr 81 Tryz.f81 []
abbrev zHm:=fr 82 Tryz.f82 []
abbrev zzf:=fr 83 Tryz.f83 []
abbrev zHp:=fr 84 Tryz.f84 []
abbrev zAd:=fr 85 Tryz.f85 []
abbrev zHj:=fr 86 Tryz.f86 []
abbrev zHr:=fr 87 Tryz.f87 []
abbrev zy9:=fr 88 Tryz.f88 []
abbrev zqZ:=fr 89 Tryz.f89 []
abbrev zjR:=fr 90 Tryz.f90 []
abbrev zzc:=fr 91 Tryz.f91 []
abbrev R_ref43_in:=fr 92 Tryz.f92 []
abbrev zHn:=fr 93 Tryz.f93 []
abbrev ztw:=fr 94 Tryz.f94 []
abbrev zkL:=fr 95 Tryz.f95 []
abbrev zoc:=fr 96 Tryz.f96 []
abbrev zv8:=fr 97 Tryz.f97 []
abbrev zl2:=fr 98 Tryz.f98 []
abbrev ztx:=fr 99 Tryz.f99 []
abbrev zxB:=fr 100 Tryz.f100 []
abbrev zAe:=fr 101 Tryz.f101 []
abbrev zzh:=fr 102 Tryz.f102 []
abbrev zAb:=fr 103 Tryz.f103 []
abbrev zq0:=fr 104 Tryz.f104 []
abbrev zi2:=fr 105 Tryz.f105 []
abbrev zxz:=fr 106 Tryz.f106 []
abbrev zz5:=fr 107 Tryz.f107 []
abbrev zv5:=fr 108 Tryz.f108 []
abbrev zoT:=fr 109 Tryz.f109 []
abbrev zjs:=fr 110 Tryz.f110 []
abbrev zkz:=fr 111 Tryz.f111 []
abbrev zs0:=fr 112 Tryz.f112 []
abbrev zxD:=fr 113 Tryz.f113 []
abbrev zz9:=fr 114 Tryz.f114 []
abbrev zt6:=fr 115 Tryz.f115 []
abbrev zHf:=fr 116 Tryz.f116 []
abbrev zw0:=fr 117 Tryz.f117 []
abbrev zJa:=fr 118 Tryz.f118 []
abbrev zv4:=fr 119 Tryz.f119 []
abbrev zz3:=fr 120 Tryz.f120 []
abbrev zsN:=fr 121 Tryz.f121 [(950,⟨0,0,[],false⟩)]
abbrev zpN:=fr 130 Tryz.f130 []
abbrev zHg:=fr 131 Tryz.f131 []
abbrev ztt:=fr 132 Tryz.f132 []
abbrev zD9:=fr 133 Tryz.f133 []
abbrev R_ref36_in:=fr 134 Tryz.f134 []
abbrev zxA:=fr 135 Tryz.f135 []
abbrev R_ref24_in:=fr 136 Tryz.f136 []
abbrev zD8:=fr 137 Tryz.f137 []
abbrev R_ref28_in:=fr 138 Tryz.f138 []
abbrev zFx:=fr 139 Tryz.f139 []
abbrev zzd:=fr 140 Tryz.f140 []
abbrev zJd:=fr 141 Tryz.f141 []
abbrev zI4:=fr 142 Tryz.f142 []
abbrev zw1:=fr 143 Tryz.f143 []
abbrev zHl:=fr 144 Tryz.f144 []
abbrev zze:=fr 145 Tryz.f145 []
abbrev zHq:=fr 146 Tryz.f146 []
abbrev zAa:=fr 147 Tryz.f147 []
abbrev zzi:=fr 148 Tryz.f148 []
abbrev R_ref42_in:=fr 149 Tryz.f149 []
abbrev zAc:=fr 150 Tryz.f150 []
abbrev zHo:=fr 151 Tryz.f151 []
abbrev zzb:=fr 152 Tryz.f152 []
abbrev zI8:=fr 153 Tryz.f153 []
abbrev zty:=fr 154 Tryz.f154 []
abbrev zu6:=fr 155 Tryz.f155 []
abbrev zob:=fr 156 Tryz.f156 []
abbrev zdl:=fr 157 Tryz.f157 []
abbrev zC3:=fr 158 Tryz.f158 []
abbrev zJb:=fr 159 Tryz.f159 []
abbrev zBJ:=fr 160 Tryz.f160 []
abbrev zt7:=fr 161 Tryz.f161 []
abbrev zJc:=fr 162 Tryz.f162 []
abbrev zsZ:=fr 176 Tryz.f176 []
abbrev zHc:=fr 177 Tryz.f177 []
abbrev zCn:=fr 178 Tryz.f178 []
abbrev zqh:=fr 179 Tryz.f179 []
abbrev zy8:=fr 180 Tryz.f180 []
abbrev ztv:=fr 181 Tryz.f181 []
abbrev zD6:=fr 182 Tryz.f182 []
abbrev zzg:=fr 183 Tryz.f183 []
abbrev zHa:=fr 184 Tryz.f184 []
abbrev zI9:=fr 185 Tryz.f185 []
abbrev zFv:=fr 186 Tryz.f186 []
abbrev ztu:=fr 187 Tryz.f187 []
abbrev zu5:=fr 188 Tryz.f188 []
abbrev zz4:=fr 189 Tryz.f189 []
abbrev zBI:=fr 199 Tryz.f199 []
abbrev zv3:=fr 200 Tryz.f200 []
abbrev zI6:=fr 201 Tryz.f201 []
abbrev zsi:=fr 202 Tryz.f202 []
abbrev zu7:=fr 203 Tryz.f203 []
abbrev zxy:=fr 204 Tryz.f204 []
abbrev zHk:=fr 205 Tryz.f205 []
abbrev zKF:=fr 206 Tryz.f206 []
abbrev zKD:=fr 207 Tryz.f207 []
abbrev zKB:=fr 208 Tryz.f208 []
abbrev zHe:=fr 209 Tryz.f209 []
abbrev zD7:=fr 210 Tryz.f210 []
abbrev zz8:=fr 211 Tryz.f211 []
abbrev zKE:=fr 212 Tryz.f212 []
abbrev zHd:=fr 213 Tryz.f213 []
abbrev zz6:=fr 214 Tryz.f214 []
abbrev zHh:=fr 215 Tryz.f215 []
abbrev zza:=fr 216 Tryz.f216 []
abbrev zl1:=fr 219 Tryz.f219 []
abbrev zKC:=fr 220 Tryz.f220 []
abbrev zFu:=fr 221 Tryz.f221 []
abbrev zI5:=fr 222 Tryz.f222 []
abbrev zG9:=fr 223 Tryz.f223 []
abbrev zG8:=fr 224 Tryz.f224 []
abbrev zI1:=fr 225 Tryz.f225 []
abbrev zsM:=fr 226 Tryz.f226 []
abbrev zI7:=fr 227 Tryz.f227 []
abbrev zHb:=fr 228 Tryz.f228 []
abbrev cw[Dr]:zcR:=callw Tryz.prog zC zA
abbrev zP:Program:=Tryz.prog
def ke_302(x y:Int×Int):keyEq zP 302 (.agg (ze2 x)) (.agg (ze2 y))=some (decide (y=x)):=by
 have h1:eqV zP 20 302 [(.int .i64 x.1:Value),(.int .i64 x.2:Value)] [(.int .i64 y.1:Value),(.int .i64 y.2:Value)]=some (x.1==y.1&&(x.2==y.2&&true)):=by kernel_rfl
 have h2:bitsL [(.int .i64 x.1:Value),(.int .i64 x.2:Value)] [(.int .i64 y.1:Value),(.int .i64 y.2:Value)]=some (x.1==y.1&&(x.2==y.2&&true)):=by kernel_rfl
 have h:keyEq zP 302 (.agg (ze2 x)) (.agg (ze2 y))=agree (eqV zP 20 302 [(.int .i64 x.1:Value),(.int .i64 x.2:Value)] [(.int .i64 y.1:Value),(.int .i64 y.2:Value)]) (bitsL [(.int .i64 x.1:Value),(.int .i64 x.2:Value)] [(.int .i64 y.1:Value),(.int .i64 y.2:Value)]):=by kernel_rfl
 rw[h,h1,h2];have ha:∀b:Bool,agree (some b) (some b)=some b:=λb=>by simp[agree]
 rw[ha];refine congrArg some ?_;by_cases e:y=x
 .rw[decide_eq_true e,e];simp
 .rw[decide_eq_false e,Bool.eq_false_iff];intro q;simp only[zaU,beq_iff_eq,and_true]at q;refine e (zqL.inj ?_);show[I (y.1),I (y.2)]=[I (x.1),I (x.2)];simp only[q]
def zwj{β:Type}(z:Int)(key:Int×Int)(l:List ((Int×Int)×Int))(k:Int->Bool->Option β):mapD zP 302 false zbw (I z) (sC l) (.agg (ze2 key)) k=k ((mfind key l).getD z) (mfind key l).isSome:=
 zDQ (agg:=false) (D:=zbw) (kenc:=λx=>.agg (ze2 x)) (venc:=λx=>I x) ke_302 (show∀x:Int,avDec false zbw (I x)=some x from λx=>zbw.de x) z key l k
def zFl{β:Type}(key:Int×Int)(v:Int)(l:List ((Int×Int)×Int))(k:List (List AV)->Option β):msetD zP 302 3 (.agg (ze2 key)) (I v) (sC l) k=k (sC (mput key v l)):=
 zAZ (kenc:=λx=>.agg (ze2 x)) (venc:=λx=>I x) ke_302 key v l k
def zDN{β:Type}(z:Bool)(key:Int×Int)(l:List ((Int×Int)×Bool))(k:Bool->Bool->Option β):mapD zP 302 false dBool (B z) (sD l) (.agg (ze2 key)) k=k ((mfind key l).getD z) (mfind key l).isSome:=
 zDQ (agg:=false) (D:=dBool) (kenc:=λx=>.agg (ze2 x)) (venc:=λx=>B x) ke_302 (show∀x:Bool,avDec false dBool (B x)=some x from λx=>dBool.de x) z key l k
def zDX{β:Type}(key:Int×Int)(v:Bool)(l:List ((Int×Int)×Bool))(k:List (List AV)->Option β):msetD zP 302 4 (.agg (ze2 key)) (B v) (sD l) k=k (sD (mput key v l)):=
 zAZ (kenc:=λx=>.agg (ze2 x)) (venc:=λx=>B x) ke_302 key v l k
def ke_3(x y:Int):keyEq zP 3 (I x) (I y)=some (decide (y=x)):=by
 have h:keyEq zP 3 (I x) (I y)=some (x==y):=by kernel_rfl
 rw[h];exact congrArg some (by rw[Bool.beq_eq_decide_eq];exact decide_eq_decide.2 eq_comm)
def zpH{β:Type}(z:List zbZ)(key:Int)(l:List (Int×(List zbZ)))(k:(List zbZ)->Bool->Option β):mapD zP 3 false zii (.sl 2 (mP z)) (mY l) (I key) k=k ((mfind key l).getD z) (mfind key l).isSome:=
 zDQ (agg:=false) (D:=zii) (kenc:=λx=>I x) (venc:=λx=>.sl 2 (mP x)) ke_3 (show∀x:List zbZ,avDec false zii (.sl 2 (mP x))=some x from λx=>zii.de x) z key l k
def zxo{β:Type}(key:Int)(v:List zbZ)(l:List (Int×(List zbZ)))(k:List (List AV)->Option β):msetD zP 3 340 (I key) (.sl 2 (mP v)) (mY l) k=k (mY (mput key v l)):=
 zAZ (kenc:=λx=>I x) (venc:=λx=>.sl 2 (mP x)) ke_3 key v l k
@[simp] def zaG{β:Type} (v) (k:_->Option β):callD zac (some (zao v)) k=k v:=zbt k
@[simp] def zEA{β:Type} (v) (k:_->Option β):callD zsR (some (zxk v)) k=k v:=zbt k
@[simp] def zxL{β:Type} (v) (k:_->Option β):callD zlY (some (zjx v)) k=k v:=zbt k
@[simp] def zEB{β:Type} (v) (k:_->Option β):callD zpJ (some (znr v)) k=k v:=zbt k
@[simp] def zzM{β:Type} (v) (k:_->Option β):callD zn2 (some (zn1 v)) k=k v:=zbt k
@[simp] def zcC{β:Type} (v) (k:_->Option β):callD zcg (some (zfz v)) k=k v:=zbt k
@[simp] def zki{β:Type} (v) (k:_->Option β):callD zhG (some (zrB v)) k=k v:=zbt k
@[simp] def zyr{β:Type} (v) (k:_->Option β):callD zmO (some (zqy v)) k=k v:=zbt k
@[simp] def zAB{β:Type} (v) (k:_->Option β):callD zo9 (some (zo6 v)) k=k v:=zbt k
@[simp] def zw6{β:Type} (v) (k:_->Option β):callD zln (some (ziX v)) k=k v:=zbt k
@[simp] def zvW{β:Type} (v) (k:_->Option β):callD zku (some (zks v)) k=k v:=zbt k
@[simp] def zvX{β:Type} (v) (k:_->Option β):callD zkv (some (znC v)) k=k v:=zbt k
@[simp] def zyu{β:Type} (v) (k:_->Option β):callD zmR (some (zqB v)) k=k v:=zbt k
@[simp] def ztF{β:Type} (v) (k:_->Option β):callD ziG (some (zlE v)) k=k v:=zbt k
@[simp] def zaY{β:Type} (v) (k:_->Option β):callD zaH (some (zmM v)) k=k v:=zbt k
@[simp] def zcD{β:Type} (v) (k:_->Option β):callD zdn (some (zqz v)) k=k v:=zbt k
@[simp] def zxK{β:Type} (v) (k:_->Option β):callD zlX (some (zlV v)) k=k v:=zbt k
@[simp] def zqH{β:Type} (v) (k:_->Option β):callD zlW (some (zlU v)) k=k v:=zbt k
@[simp] def zyv{β:Type} (v) (k:_->Option β):callD zmS (some (zmN v)) k=k v:=zbt k
@[simp] def zLQ{β:Type} (v) (k:_->Option β):callD zen (some (zg5 v)) k=k v:=zbt k
@[simp] def zcj{β:Type} (v) (k:_->Option β):callD zaE (some (za9 v)) k=k v:=zbt k
@[simp] def zLV{β:Type} (v) (k:_->Option β):callD zdZ (some (zfW v)) k=k v:=zbt k
@[simp] def zLT{β:Type} (v) (k:_->Option β):callD zgJ (some (zlm v)) k=k v:=zbt k
@[simp] def zvY{β:Type} (v) (k:_->Option β):callD zkw (some (zkt v)) k=k v:=zbt k
@[simp] def zys{β:Type} (v) (k:_->Option β):callD zmP (some (zmL v)) k=k v:=zbt k
@[simp] def zzN{β:Type} (v) (k:_->Option β):callD zjj (some (zhE v)) k=k v:=zbt k
@[simp] def zr1{β:Type} (v) (k:_->Option β):callD zlq (some (zrH v)) k=k v:=zbt k
@[simp] def znx{β:Type} (v) (k:_->Option β):callD zji (some (zrC v)) k=k v:=zbt k
@[simp] def zeP{β:Type} (v) (k:_->Option β):callD zcJ (some (zgy v)) k=k v:=zbt k
@[simp] def zpf{β:Type} (v) (k:_->Option β):callD zid (some (zic v)) k=k v:=zbt k
@[simp] def zh9{β:Type} (v) (k:_->Option β):callD zeM (some (ze9 v)) k=k v:=zbt k
@[simp] def zB1{β:Type} (v) (k:_->Option β):callD zqd (some (ztZ v)) k=k v:=zbt k
@[simp] def zi6{β:Type} (v) (k:_->Option β):callD zgz (some (zpt v)) k=k v:=zbt k
@[simp] def zw7{β:Type} (v) (k:_->Option β):callD zlo (some (zoE v)) k=k v:=zbt k
@[simp] def zpw{β:Type} (v) (k:_->Option β):callD ziY (some (zlk v)) k=k v:=zbt k
@[simp] def zmA{β:Type} (v) (k:_->Option β):callD zmk (some (zrD v)) k=k v:=zbt k
@[simp] def zLO{β:Type} (v) (k:_->Option β):callD zhU (some (zhS v)) k=k v:=zbt k
@[simp] def zLZ{β:Type} (v) (k:_->Option β):callD zj1 (some (zmj v)) k=k v:=zbt k
@[simp] def zLR{β:Type} (v) (k:_->Option β):callD zgH (some (zjh v)) k=k v:=zbt k
@[simp] def zLY{β:Type} (v) (k:_->Option β):callD zj0 (some (zsG v)) k=k v:=zbt k
@[simp] def zuc{β:Type} (v) (k:_->Option β):callD zkI (some (zng v)) k=k v:=zbt k
@[simp] def zLP{β:Type} (v) (k:_->Option β):callD zix (some (ziw v)) k=k v:=zbt k
@[simp] def zLX{β:Type} (v) (k:_->Option β):callD zjZ (some (zo8 v)) k=k v:=zbt k
@[simp] def zj3{β:Type} (v) (k:_->Option β):callD ziZ (some (zrF v)) k=k v:=zbt k
@[simp] def zw8{β:Type} (v) (k:_->Option β):callD zlp (some (zll v)) k=k v:=zbt k
@[simp] def zyt{β:Type} (v) (k:_->Option β):callD zmQ (some (zqA v)) k=k v:=zbt k
@[simp] def zfx{β:Type} (v) (k:_->Option β):callD zeI (some (zg4 v)) k=k v:=zbt k
@[simp] def zdf{β:Type} (v) (k:_->Option β):callD zc3 (some (zez v)) k=k v:=zbt k
@[simp] def zoh{β:Type} (v) (k:_->Option β):callD zei (some (zeB v)) k=k v:=zbt k
@[simp] def zLS{β:Type} (v) (k:_->Option β):callD zgI (some (zhF v)) k=k v:=zbt k
@[simp] def zpx{β:Type} (v) (k:_->Option β):callD zdr (some (zdq v)) k=k v:=zbt k
@[simp] def callD_ref43_unit{β:Type} (v) (k:_->Option β):callD zmn (some (zkf v)) k=k v:=zbt k
@[simp] def zLW{β:Type} (v) (k:_->Option β):callD zjY (some (zmi v)) k=k v:=zbt k
@[simp] def zLU{β:Type} (v) (k:_->Option β):callD zjk (some (zgG v)) k=k v:=zbt k
@[simp] def ziM{β:Type} (v) (k:_->Option β):callD zhk (some (zo7 v)) k=k v:=zbt k
@[simp] def zqJ{β:Type} (v) (k:_->Option β):callD zhT (some (zfN v)) k=k v:=zbt k
@[simp] def zmB{β:Type} (v) (k:_->Option β):callD ze4 (some (zga v)) k=k v:=zbt k
@[simp] def zqI{β:Type} (v) (k:_->Option β):callD zjz (some (zjy v)) k=k v:=zbt k
@[simp] def zwe{β:Type} (v) (k:_->Option β):callD zns (some (znp v)) k=k v:=zbt k
@[simp] def zqk{β:Type} (v) (k:_->Option β):callD zml (some (zrE v)) k=k v:=zbt k
@[simp] def zwf{β:Type} (v) (k:_->Option β):callD znt (some (znq v)) k=k v:=zbt k
@[simp] def zub{β:Type} (v) (k:_->Option β):callD zkH (some (zqb v)) k=k v:=zbt k
@[simp] def zcN{β:Type} (v) (k:_->Option β):callD zbl (some (zda v)) k=k v:=zbt k
@[simp] def zyw{β:Type} (v) (k:_->Option β):callD zmT (some (zkd v)) k=k v:=zbt k
@[simp] def zyx{β:Type} (v) (k:_->Option β):callD zmU (some (zke v)) k=k v:=zbt k
@[simp] def zBZ{β:Type} (v) (k:_->Option β):callD zh2 (some (znf v)) k=k v:=zbt k
@[simp] def zB0{β:Type} (v) (k:_->Option β):callD zqc (some (zqa v)) k=k v:=zbt k
@[simp] def zDs{β:Type} (v) (k:_->Option β):callD zrI (some (zvE v)) k=k v:=zbt k
@[simp] def zcz{β:Type} (v) (k:_->Option β):callD zb2 (some (ze3 v)) k=k v:=zbt k
@[simp] def zcm{β:Type} (v) (k:_->Option β):callD zcQ (some (zvD v)) k=k v:=zbt k
@[simp] def zAC{β:Type} (v) (k:_->Option β):callD zpa (some (zhi v)) k=k v:=zbt k
@[simp] def zpn{β:Type} (v) (k:_->Option β):callD zh1 (some (zgg v)) k=k v:=zbt k
@[simp] def zpm{β:Type} (v) (k:_->Option β):callD zkG (some (ztY v)) k=k v:=zbt k
@[simp] def callD_ref36_mean{β:Type} (v) (k:_->Option β):callD zmm (some (zoF v)) k=k v:=zbt k
@[simp] def ziL{β:Type} (v) (k:_->Option β):callD zhj (some (zjX v)) k=k v:=zbt k
@[simp] def zDq{β:Type} (v) (k:_->Option β):callD zoG (some (zvC v)) k=k v:=zbt k
abbrev Qq(a b:ai):Prop:=∀{y},a=some y->b=some y
def ptT[Dr](cut:aO){R:Fr}{j:Nat}{st:St}{x:ai} {y} (hx:tGo R zT cut 100000 (decide (j≠0)) (ptS R.fn j) st=x:=by kernel_rfl) (h:x=some y):pt R j st=some y:=pt_of zT cut hx h
def cwT[Dr](R:Fr)(cut:aO){args:aN}{ms:Mem}{x:ai} {y} (ho:R.C.orc R.f args ms=none:=by rfl) (hf:R.P.funcs[R.f]?=some R.fn:=by kernel_rfl) (he:enters R.P R.f=true:=by kernel_rfl) (hN:decide (R.fn.ntmps<=1000/\args.length<=R.fn.ntmps)=true:=by kernel_rfl) (hm:R.ms=Go.Ab.blank ms:=by kernel_rfl) (hx:tGo R zT cut 100000 false (ptK R.fn 0) { t:=argTab 0 args,m:=ms }=x:=by kernel_rfl) (h:x=some y):callw R.P R.C R.F R.f args ms=some y:=zyy R zT cut ho hf he hN hm hx h
abbrev pS:=λx=>(⟨2,83,[zas x],true⟩:Ent)
abbrev pT:=λx=>(⟨31,75,[nGOp x],true⟩:Ent)
abbrev pU:=λx=>(⟨9,122,[za4 x],true⟩:Ent)
abbrev pV:=λx=>(⟨2,358,[zaD x],true⟩:Ent)
abbrev pW:=λx=>(⟨18,44,[zbz x],true⟩:Ent)
abbrev pX:=λx=>(⟨2,116,[zbR x],true⟩:Ent)
abbrev pY:=λx=>(⟨2,336,[zeh x],true⟩:Ent)
abbrev pZ:=λx=>(⟨3,67,[zde x],true⟩:Ent)
abbrev gA:=λx=>(⟨2,167,[zaL x],true⟩:Ent)
abbrev gB:=λx=>(⟨5,24,[za8 x],true⟩:Ent)
abbrev gC:=λx=>(⟨5,110,[za6 x],true⟩:Ent)
abbrev gD:=λx=>(⟨3,93,[zaO x],true⟩:Ent)
abbrev gE:=λx=>(⟨9,69,[zah x],true⟩:Ent)
abbrev gF:=λx=>(⟨3,40,[zc5 x],true⟩:Ent)
abbrev gG:=λx=>(⟨2,161,[zbU x],true⟩:Ent)
abbrev gH:=λx=>(⟨7,65,[zaA x],true⟩:Ent)
abbrev gI:=λx=>(⟨3,58,[zcn x],true⟩:Ent)
abbrev gJ:=λx=>(⟨4,51,[zbY x],true⟩:Ent)
abbrev gK:=λx=>(⟨3,42,[zcP x],true⟩:Ent)
abbrev gL:=λx=>(⟨3,171,[zey x],true⟩:Ent)
abbrev gM:=λx=>(⟨3,236,[zbJ x],true⟩:Ent)
abbrev gN:=λx=>(⟨2,35,[zcV x],true⟩:Ent)
abbrev gO:=λx=>(⟨1,3,x,false⟩:Ent)
abbrev gP:=λx=>(⟨1,4,x,false⟩:Ent)
abbrev gQ:=λx=>(⟨9,69,x,false⟩:Ent)
abbrev gR:=λx=>(⟨0,337,x,false⟩:Ent)
abbrev gS:=λx=>(⟨12,339,x,false⟩:Ent)
abbrev gT:=λx=>(⟨7,65,x,false⟩:Ent)
abbrev gU:=λx=>(⟨2,149,x,false⟩:Ent)
abbrev gV:=λx=>(⟨8,268,x,false⟩:Ent)
abbrev gW:=λx=>(⟨3,63,x,false⟩:Ent)
abbrev gX:=λx=>(⟨31,75,x,false⟩:Ent)
abbrev gY:=λx=>(⟨5,110,x,false⟩:Ent)
abbrev gZ:=λx=>(⟨6,73,x,false⟩:Ent)
end Go.Proofs.YtcpnffbcljkbkaaGreatDoor
end
