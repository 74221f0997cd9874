/- Annotations of the seat's functions: what lives behind each region, which slots own rows, which arguments are written; how results read. -/
import Derived.Test.YtlecnobdfhlmnaaGreatXTy
import Derived.Test.YtlecnobdfhlmnaaGreatProg
import Derived.Test.YtlecnobdfhlmnaaGreatXSp
set_option linter.all false
noncomputable section
namespace Go.Proofs.YtlecnobdfhlmnaaGreat
open Go.Ab
abbrev LL:=List (List AV)
def zC:Cfg:={ wrt:=atReg [(11,[0]),(12,[0]),(13,[0]),(14,[0]),(15,[0]),(16,[0]),(24,[0]),(42,[0]),(43,[0]),(44,[0]),(45,[0]),(46,[0]),(47,[0]),(49,[0]),(50,[0]),(51,[0]),(54,[0]),(55,[1]),(68,[100]),(69,[0]),(75,[0]),(86,[0]),(87,[0]),(88,[0]),(97,[0]),(127,[0]),(128,[0])],orc:=zOrc,dp:=λf=>(atReg [(192,[0]),(142,[0]),(145,[0])] f).head?,raw:=λf=>[148].contains f }
def zte:zaF->Mem:=λx=>[(1000,⟨14,177,[[I x.N,.row 900 10 0 (List.map zfN.enc x.marks).length,I x.period,I x.l.n,I x.l.b,I x.l.B,.map 901,.sl 1 (List.map dBool.enc x.watch.J),B x.watch.p,I x.good.n,I x.good.b,I x.good.B,B x.some,.row 902 12 0 (List.map zd5.enc x.d).length]],true⟩),(900,⟨10,229,List.map zfN.enc x.marks,false⟩),(901,⟨0,173,List.map zgA.enc x.R,false⟩),(902,⟨12,147,List.map zd5.enc x.d,false⟩)]
abbrev zpt:MD:=⟨zaF,zte,by
 intro x y h;simp only[zN,zte,zaC,Ent.mk.injEq,AV.v.injEq,AV.row.injEq,AV.sl.injEq,Value.int.injEq,Value.bool.injEq,Value.string.injEq,and_assoc,TyD.minj dBool,TyD.minj zgA,TyD.minj zd5,TyD.minj zfN]at h
 exact(zaF.eqOf (h.1) (h.2.2.2.2.2.2.2.2.2.2.2.2.2.1) (h.2.2.1) (zbf.eqOf (h.2.2.2.1) (h.2.2.2.2.1) (h.2.2.2.2.2.1)) (h.2.2.2.2.2.2.2.2.2.2.2.2.2.2.1) (zck.eqOf (h.2.2.2.2.2.2.1) (h.2.2.2.2.2.2.2.1)) (zbf.eqOf (h.2.2.2.2.2.2.2.2.1) (h.2.2.2.2.2.2.2.2.2.1) (h.2.2.2.2.2.2.2.2.2.2.1)) (h.2.2.2.2.2.2.2.2.2.2.2.1) (h.2.2.2.2.2.2.2.2.2.2.2.2.2.2.2))⟩
def anK(l:aF)(v:List (List Nat))(o:List (Nat×List (Nat×Nat×TypeId))):Ann:={ lits:=l,live:=λi=>v[i]?,own:=atReg o }
def anT(x:Nat):List Nat->List Nat
 |[]=>[x]
 |y::r=>bif Nat.blt x y then x::y::r else bif Nat.beq x y then r else y::anT x r
def anL:List Nat->List (List Nat)->List (List Nat)
 |_,[]=>[]
 |p,d::r=>d.foldl (λa x=>anT x a) p::anL (d.foldl (λa x=>anT x a) p) r
def anD(l:aF)(v:List (List Nat))(o:List (Nat×List (Nat×Nat×TypeId))):Ann:=anK l (anL [] v) o
def zz6:Ann:=anD [] [[0],[35],[0,2,35],[2,3],[4],[5],[6],[3,7,8],[8,9,10],[11,12],[5,13,14],[6,15,16],[10,12,14,16,96],[2,4,7,9,11,13,15,96],[2,4,7,9,11,13,15,97,98,99],[100],[18,100],[19],[103,104,105],[106],[21,106],[112,113,114],[115],[23,115],[23],[],[21,112,113,114],[18,19,103,104,105,132],[2,4,7,9,11,13,15,97,98,99,132],[2,4,7,9,11,13,15,97,98,99],[11,15,97,98,99,134,135,136],[137],[25,137],[26,27],[28],[149,150,151],[152],[30,152],[155,156,157],[158],[32,158],[170],[32,170],[],[30,155,156,157],[25,26,27,28,149,150,151,188],[2,4,7,9,13,134,135,136,188],[2,4,7,9,13,134,135,136],[2,4,7,9,13,134,135,136]] [(5,[(5,9,85)])]
def zBI:Ann:={ anD [] [[0],[21],[0,2,21],[2,3],[4],[5],[6],[7],[8],[41],[41],[],[8],[9,10],[11,12],[3,4,5,9,10,13,14],[6,15,16],[7,17,18],[2,11,12,13,14,15,16,17,18]] [(5,[(5,9,85)]),(7,[(7,6,62)]),(11,[(7,6,62)]),(12,[(7,6,62)])]with fz:=atReg [(1015,[7])] }
def zzc:Ann:={ anD [58] [[0],[20],[0,2,20],[2,3],[4],[5],[3,6,7],[8,9],[4,5,6,10,11],[7,9,11,70],[2,8,10,70],[2,8,10,12,13],[72,73,74],[75],[15,75],[80],[15,80],[],[72,73,74,87,88,89],[90],[17,90],[95],[17,95],[],[2,8,10,12,13,87,88,89]] [(5,[(5,9,85)]),(11,[(12,8,70),(13,8,70)]),(16,[(12,8,70)]),(22,[(13,8,70)])]with fz:=atReg [(1006,[5])] }
def zBH:Ann:={ anD [] [[0,1,3,6],[46],[0,1,3,6,8,46],[1,3,6,8,9],[10],[11],[12],[9,13,14],[15],[17],[1,12,79,80],[81],[19,81],[20,21],[22,23],[20,21,22,23,123],[3,6,8,10,11,13,14,15,17,19,79,80,123],[3,6,8,10,11,13,14,15,17,19,79,80,125,126],[127],[24,127],[24,157],[3,6,8,10,11,13,14,15,17,19,79,80,125,126,157],[3,6,8,10,11,13,14,15,17,19,79,80,125,126],[19,125,126],[3,6,13,15,79,80,162,163],[164],[26,164],[170],[8,10,11,14,17,26,162,163,170],[8,10,11,14,17,26,27,28,162,163],[29,30],[31,32],[33,34],[35,36],[26,37,38],[27,28,29,30,31,32,33,34,35,36,37,38,253],[8,10,11,14,17,162,163,253],[8,10,11,14,17,162,163],[8,10,11,14,17,162,163]] [(5,[(11,9,85)]),(9,[(17,6,62)])]with fz:=atReg [(1010,[17])] }
def zz7:Ann:=anD [] [[0],[43],[0,2,43],[2,3],[4],[5],[6],[3,7,8],[9,10],[11,12],[13,14],[13,15,16],[5,7,8,17,18],[6,19,20],[10,12,14,16,17,18,20,134],[2,4,9,11,15,19,134],[2,4,9,11,15,19,135,136,137],[138],[21,22,138],[24],[21,24,176],[2,4,9,11,15,19,22,135,136,137,176],[2,4,9,11,15,19,22,25,135,136,137],[177,178,179],[180],[27,180],[27,186,187,188],[189],[29,189],[29],[],[186,187,188],[177,178,179,202,203,204],[205],[31,205],[208,209,210],[211],[33,211],[33],[],[31,208,209,210],[22,25,202,203,204,231],[2,4,9,11,15,19,135,136,137,231],[2,4,9,11,15,19,135,136,137],[15,19,135,136,137,233,234,235],[236],[35,236],[242,243,244],[245],[37,245],[38],[248,249,250],[251],[40,251],[40],[],[37,38,248,249,250,272],[2,4,9,11,35,233,234,235,242,243,244,272],[2,4,9,11,35,233,234,235,242,243,244],[35,242,243,244],[2,4,9,11,233,234,235]] [(5,[(5,9,85)])]
def zh0:Ann:=anK [] [[0],[2]] []
def zLz:Ann:=anD [] [[],[1],[2,3],[4],[1,5],[6],[0,2,3,4,5,6]] []
def zD9:Ann:={ anD [] [[0,2],[3,4],[4,5],[6],[26],[26],[30],[30],[0,3,5,6]] []with cel:=λ_=>[(5,4,900,2,100)] }
def zFw:Ann:=anD [] [[0,2,4],[7],[8],[17],[17],[9],[10],[32],[32],[11],[39],[39],[53],[12,53],[12],[0,2,4,6,7,8,9,10,11]] [(1,[(7,9,85)]),(14,[(7,9,85)])]
def zCo:Ann:=anD [] [[0,2,4],[7],[8],[13],[13],[9],[22],[9,22],[9,22,31],[9,22,31],[9,22,50],[22,50,55],[9,55],[9,22,76],[9,22,76,80],[80],[9,91],[9,91,95],[10,95],[],[10],[0,2,4,6,7,8]] [(1,[(7,9,85)]),(7,[(7,9,85)]),(9,[(7,9,85)]),(12,[(7,9,85)]),(15,[(7,9,85)]),(20,[(7,9,85)])]
def zBJ:Ann:={ anD [] [[0,2,4],[7],[8],[12],[12],[9],[25],[25],[],[9],[47],[47],[0,2,4,6,7,8]] [(1,[(7,6,62)]),(9,[(7,6,62)]),(11,[(7,6,62)])]with frz:=true }
def zq5:Ann:=anK [] [[0,2],[2]] []
def zFt:Ann:={ anD [] [[3,4,5,6,7],[43],[3,4,5,6,7,10,11,43],[3,5,6,7,10,11,12,13],[50],[3,5,6,7,10,11,12,13,50],[3,5,6,7,10,11,12,14],[12,53,54,55],[56],[16,56],[61],[61,65,66,67],[68],[18,68],[18],[],[16,65,66,67],[13,19,53,54,55],[89],[3,5,6,7,10,11,13,14,19,89],[3,5,6,7,10,11,14,19,20],[21],[94,95,96],[97],[23,97],[24],[26],[26,110],[27,28,110],[120],[3,5,6,7,10,11,14,19,20,21,23,24,27,28,94,95,96,120],[3,5,6,7,10,11,14,19,20,21,23,24,94,95,96],[24,29,30],[137],[3,5,6,7,10,11,14,19,20,21,23,29,30,94,95,96,137],[3,5,6,7,10,11,14,19,20,21,23,94,95,96,142],[23,142],[],[3,5,6,7,10,11,14,19,20,21,94,95,96]] [(21,[(21,1,3)]),(36,[(21,1,3)])]with fz:=atReg [(1017,[14])] }
def zGS:Ann:=anK [] [[2,3,4,5],[2,3,4,5,19],[8,9],[3,4,5,10,11],[3,4,5,10,11,27],[8,9],[8,9]] []
def zLH:Ann:={ anD [] [[1,2,4],[18],[1,2,5,18],[2,5,6,7],[26],[2,5,6,7,26],[2,5,6,8],[9,10],[9],[11],[40],[40],[13],[13,75],[14,75],[14],[2,5,6,8,10,11]] []with cel:=λ_=>[(8,0,901,8,70)] }
def zCm:Ann:=anD [] [[0],[4],[5],[0,16,17,18],[19],[7,19],[24],[8,24],[9,10],[10,39],[7,8,9,39],[8,45],[8,45],[],[11,16,17,18],[4,50],[52],[12,13,52],[12,59],[13,59],[5,50,66],[2,3,11,66],[2,3,11],[2,3,11]] [(14,[(11,6,62)]),(19,[(11,6,62)])]
def zIt:Ann:={ anD [] [[3,4,5],[15],[3,4,5,6,15],[3,4,5,6,7],[8],[21],[4,21],[9],[3,28,29,30],[31],[11,31],[12],[12,65],[11,65],[],[5,6,7,8,9,28,29,30]] []with frz:=true }
def zCv:Ann:=anD [] [[0,1,4],[6],[10],[10],[19],[0,1,5,6,19],[]] []
def zD4:Ann:=anD [] [[3,4,5,6,7],[6,12,13],[39],[3,4,5,7,10,11,12,13,39],[3,5,7,10,11,12,13,14],[47],[3,5,7,10,11,12,13,14,47],[3,5,7,10,11,12,13,14,15],[56],[3,5,7,10,11,12,13,14,15,56],[3,5,7,10,11,12,14,15,16],[17],[14,59,60,61],[62],[19,62],[],[73,74,75],[76],[21,76],[21],[],[19,73,74,75],[22,59,60,61],[5,7,12,93,94,95],[96],[24,96],[24,102],[104],[25,104],[110],[25,110],[102],[15,16,17,22,26,93,94,95],[3,28],[126],[10,11,26,28,126],[]] []
def zz8:Ann:={ anD [] [[0,1],[5],[6],[15],[15],[7],[7],[6,8],[39],[39],[43],[43],[0,1,4,5,8]] [(1,[(5,9,85)]),(11,[(5,9,85)])]with frz:=true }
def zFB:Ann:=anK [] [[0,1],[0,1,10],[4],[0,1,5],[0,1,5,14],[0,1,5],[0,1,5,26],[4],[4]] []
def zwq:Ann:=anK [] [[0,1],[0,1,10],[4],[0,1,12,13],[0,1,12,13,14],[0,1,5,12,13],[0,1,12,13,24],[4],[0,1,12,13],[4]] []
def zLJ:Ann:=anD [] [[2,3],[22],[2,3,4,22],[2,3,4,5],[27],[27],[40],[2,3,4,5,40],[2,3,4,6],[45],[45],[58],[2,3,4,6,58],[]] []
def zEh:Ann:=anD [] [[0],[4],[5],[12],[12],[6],[7],[26],[26],[79],[79],[6,7,81],[8,81],[99],[99],[],[],[8],[0,5,123],[2,3,4,123],[]] [(1,[(4,6,62)]),(15,[(4,6,62)])]
def zGT:Ann:=anD [] [[1,2,3],[15],[1,2,3,6,15],[1,2,3,6,7],[2,16,17,18],[19],[9,19],[41],[9,41],[],[1,3,6,7,16,17,18]] [(3,[(7,6,62)]),(8,[(7,6,62)])]
def zIE:Ann:=anD [] [[1,2,3],[7],[8],[13],[13],[9],[9,48],[48],[1,2,3,6,7,8]] [(1,[(7,6,62)]),(7,[(7,6,62)])]
def zza:Ann:=anK [] [[1],[1,12],[2],[1,14],[1,14,15],[2],[1,30],[2],[2]] []
def zKs:Ann:=anD [] [[3,4,5],[14],[3,4,5,6,14],[3,4,5,6,7],[8],[19],[19],[9],[11],[11,35],[35,66],[9,66],[3,4,5,6,7,8]] [(3,[(7,1,3)]),(11,[(7,1,3)])]
def zy9:Ann:=anK [] [[1],[30],[2],[2]] []
def zG6:Ann:={ anD [50,75] [[3,4,5,6,7],[29],[3,4,5,6,7,10,11,29],[3,5,6,7,10,11,12,13],[36],[3,5,6,7,10,11,12,13,36],[3,5,6,7,10,11,14],[13,15],[54],[3,5,6,7,10,11,13,14,15,54],[3,5,6,7,10,11,14,15,16],[17],[59],[59],[66],[18,19,66],[79],[3,5,6,7,10,11,14,15,16,17,18,19,79],[3,5,6,7,10,11,14,15,16,17,20,21],[23,24],[20,21,23,24,126],[126],[3,5,6,7,10,11,14,15,16,17]] [(10,[(16,1,3)]),(21,[(16,1,3)])]with fz:=atReg [(1007,[14])] }
def zID:Ann:=anD [] [[2,3,4,5],[25],[2,3,4,5,8,9,25],[3,4,5,8,9,10,11],[33],[3,4,5,8,9,10,11,33],[3,4,5,8,9,10,12],[13],[39],[39],[14],[15],[46],[46],[16],[17],[52],[52],[],[16,17,85],[85],[14,15,100],[100],[3,4,5,8,9,10,12,13]] [(6,[(12,1,3)]),(22,[(12,1,3)])]
def zFF:Ann:=anD [] [[3,4,5,6,7],[6,12,13],[37],[3,4,5,7,10,11,12,13,37],[3,4,7,10,11,13,14],[48],[3,4,7,10,11,13,14,48],[3,4,7,10,11,14,15],[4,17],[19],[20],[68],[68],[21],[74],[74],[23],[23,111],[111],[7,14,15,17,19,20,21,24],[3,26],[135],[10,11,24,26,135],[]] []
def zCw:Ann:=anD [] [[0,1],[6],[10],[10],[19],[0,1,4,5,6,19],[]] [(0,[(4,1,3)]),(5,[(4,1,3)]),(6,[(4,1,3)])]
def zIv:Ann:=anK [] [[0,1,2,3,8],[8]] []
def zCp:Ann:=anD [9] [[0],[4],[11],[11],[18],[18],[5],[6],[27],[27],[],[0,2,3,4,5,6]] [(1,[(4,3,104)]),(3,[(4,3,104)]),(5,[(4,3,104)]),(6,[(5,2,159)]),(10,[(5,2,159)])]
def zBK:Ann:=anD [] [[0],[3],[4],[5],[10],[10],[],[],[0,2,3,4,5]] [(1,[(3,5,65)]),(7,[(3,5,65)])]
def zBM:Ann:=anD [] [[0,1,2],[7],[8],[13],[13],[9],[10],[19],[19],[28],[28],[10,11],[43],[43],[48],[48],[0,1,2,6,7,8,9,11]] [(1,[(7,7,89)]),(5,[(9,3,104)]),(10,[(9,3,104)]),(15,[(7,7,89)])]
def zBL:Ann:=anK [] [[0,2],[0,2,3],[2]] []
def zli:Ann:=anK [] [[0,1],[4]] []
def zFz:Ann:={ anD [] [[0,1,5,6],[7],[1,5,8],[9],[20],[20],[],[0,7,8,9]] []with cel:=λ_=>[(7,1,900,1,3)] }
def zLA:Ann:=anD [] [[0,3,4],[5],[9],[9],[29],[0,3,5,29],[]] []
def zFy:Ann:=anK [] [[0,1],[0,1,19],[4],[0,1,5],[1,5],[1,5,40],[5],[4]] []
def zFx:Ann:={ anD [] [[0,2,3,5,8],[9],[2,3,9,10],[31],[0,5,10,31],[0,5,10,11],[5,12],[],[12],[11],[0,72],[72],[10]] []with cel:=λ_=>[(10,8,900,1,3)] }
def ztl:Ann:=anK [] [[1],[10],[2],[2]] []
def zGX:Ann:=anK [] [[1],[33],[2],[2]] []
def zzb:Ann:=anK [] [[0,1,2,6,7],[0,1,2,20],[]] []
def zIx:Ann:={ anD [] [[1,2,4],[17],[1,2,5,17],[2,5,6,7],[25],[2,5,6,7,25],[5,8,9],[10],[8,34,35],[36],[11,12,36],[42],[42],[54],[56],[14,56],[14],[11,12,54],[9,34,35],[5,10]] []with cel:=λ_=>[(10,0,301,8,70),(10,1,302,12,147)] }
def zKe:Ann:={ anK [] [[0,1],[4]] []with frz:=true }
def ztB:Ann:={ anD [] [[0],[3],[8,9,10],[11],[4,5,11],[4,5],[],[0,2,3,8,9,10]] [(1,[(3,9,85)]),(5,[(3,9,85)])]with frz:=true }
def zBQ:Ann:={ anK [] [[0],[3],[3],[2]] []with frz:=true }
def zeU:Ann:=anK [] [[1],[2]] []
def zGY:Ann:=anD [] [[0,1],[5],[0,8,9,10],[11],[7,11],[18],[7,18],[],[1,4,5,8,9,10]] [(1,[(5,9,85)]),(6,[(5,9,85)])]
def zFu:Ann:=anK [] [[4,5,6,7,8],[4,5,6,8,12,13,14],[4,5,6,8,12,13,14,27],[10,11],[12,13,14,15,16],[12,13,14,15,16,39],[10,11],[13,16,46],[10,11],[10,11]] []
def zGU:Ann:=anD [] [[3,4,5,6],[9],[5,17,18,19],[20],[11,20],[25],[12,25],[13],[31,32,33],[34],[15,34],[39],[15,39],[],[12,13,31,32,33,47],[11,47],[],[3,4,6,8,9,17,18,19]] [(1,[(9,1,3)]),(15,[(9,1,3)])]
def zKo:Ann:=anK [] [[1],[1,48],[2],[1,3],[1,3,53],[1,3],[1,3,67],[2],[1,4],[1,4,72],[1,4],[1,4,5,6],[1,4,5,87],[2],[1,4,8],[1,4,109],[2],[1,9],[1,9,114],[1,9],[1,9,10,11],[1,9,164],[2],[2]] []
def zEf:Ann:={ anD [] [[0],[4,5],[6],[7],[20],[20],[8],[9,10],[8,9,10,53],[11,53],[],[11],[0,4,5,7,68],[2,3,6,68],[]] [(2,[(6,9,85)]),(11,[(6,9,85)])]with fz:=atReg [(10,[60])],cel:=λ_=>[(11,8,900,1,3)] }
def zMK:Ann:=anD [] [[1,2],[6],[7],[8],[19],[19],[9,10],[9],[11],[40],[40],[],[1,2,4,5,6,7,8,10,11]] [(2,[(7,12,147)]),(7,[(7,12,147)])]
def zLG:Ann:=anK [] [[2,3],[2,3,5,6],[2,3,5,33],[4],[2,3,5,7],[4]] []
def zG5:Ann:=anD [] [[1,2,3],[3,7],[9],[27],[27],[74],[1,2,6,7,9,74],[]] []
def zML:Ann:=anD [] [[0,3],[5],[18],[18],[32],[3,5,32],[0,4],[0,3,4,5],[],[3,5],[0,4]] [(7,[(0,8,70)])]
def zgK:Ann:=anK [] [[0,1,4],[]] []
def zef:Ann:=anK [] [[2,3],[4]] []
def zIu:Ann:=anD [] [[1],[3],[1,8,9,10],[11],[5,11],[5],[],[2,3,8,9,10]] []
def zD5:Ann:=anD [] [[1,2],[5],[2,10,11,12],[13],[7,13],[19],[7,19],[],[1,4,5,10,11,12]] []
def zBO:Ann:=anD [] [[0],[4],[10],[12],[6,12],[17],[6,17],[0,10,28],[2,3,4,28],[2,3,4],[32,33],[34],[7,34],[7],[],[2,3,4,32,33]] [(1,[(4,9,85)]),(6,[(4,9,85)])]
def zCy:Ann:=anK [] [[2,3],[2,3,5],[4],[2,3,16],[4],[4]] []
def zIF:Ann:=anD [] [[1,2,3],[7],[12],[12],[32],[1,2,3,6,7,32],[]] []
def zKu:Ann:=anK [] [[3,4,5],[6]] []
def zKt:Ann:=anD [] [[2,3,4,5],[9],[10],[22],[22],[],[10,11],[32],[32],[43],[12,43],[13],[54],[54],[14],[60],[60],[73],[73],[2,3,4,5,8,9,11,12,13,14]] []
def zLK:Ann:={ anD [] [[1,2],[5],[6],[10],[10],[17],[17],[1,2,4,5,6]] [(1,[(5,9,85)]),(6,[(5,9,85)])]with frz:=true }
def zKm:Ann:=anD [] [[0,1],[5],[6],[10],[10],[20],[20],[0,1,4,5,6]] [(1,[(5,9,85)]),(6,[(5,9,85)])]
def zKr:Ann:=anD [] [[3,4,5,6],[4,6,11,12],[28],[3,5,8,9,10,11,12,28],[3,5,8,9,10,11,13],[14],[15],[33],[33],[],[],[11,15,52],[3,5,8,9,10,13,14,52],[5,8,9,10,13,14,16],[5,12,14,16,18],[8,9,10,12,13,18]] [(5,[(14,1,3)]),(10,[(14,1,3)])]
def zD8:Ann:={ anD [14] [[0,1,2,6],[1,2,7],[18],[18],[32],[0,32],[7]] []with cel:=λ_=>[(7,2,900,6,107)] }
def zCq:Ann:=anD [] [[0,3,4],[5],[16],[0,3,16],[5]] []
def zCr:Ann:={ anD [30] [[0,2,4,6],[2,7],[8],[36],[36],[9],[45],[45],[9],[0,4,7,8]] []with cel:=λ_=>[(7,6,900,1,3)] }
def zIw:Ann:=anK [] [[0],[0,7],[2],[0,8,9,10],[0,8,9,10,11],[0,3,4,8,9,10],[0,3,4,8,9,10,17],[2],[0,8,9,10,36],[2],[0,8,9,10],[2]] []
def zzd:Ann:=anK [] [[0],[0,7],[2],[0,8,9,10],[0,8,9,10,11],[0,3,4,8,9,10],[0,3,4,8,9,10,48],[2],[0,3,4,8,9,10,63],[2],[0,8,9,10,76],[2],[0,8,9,10],[2]] []
def zze:Ann:=anK [] [[1],[1,17],[2],[1,19,20,21],[1,19,20,21,22],[1,3,4,19,20,21],[1,19,20,21,33],[2],[1,19,20,21],[2]] []
def zym:Ann:=anD [] [[1],[10,11,12],[13],[4,13],[5,6],[6,23],[1,2,4,5,10,11,12,23],[1,2,8,10,11,12],[8,41],[1,2,10,11,12,41],[1,2,10,11,12],[1,2,10,11,12]] []
def zAd:Ann:=anK [] [[1],[1,10],[2],[1,12,13,14],[1,12,13,14,15],[1,3,4,12,13,14],[1,4,12,13,14,32],[2],[1,4,5,6,12,13,14],[1,12,13,14,52],[2],[1,12,13,14],[2]] []
def zG1:Ann:=anK [] [[1],[34],[2],[2]] []
def zIy:Ann:={ anD [] [[1,2],[6],[20,21,22],[23],[8,23],[8],[],[9,20,21,22],[1,38,39,40],[41],[11,41],[45],[46],[12,45,46],[55],[11,12,55],[11,45,60],[11,45,60],[11,70],[13,14,70],[80],[15,16,80],[16,88],[11,13,14,15,88],[],[],[2,4,5,6,9,38,39,40]] []with cel:=λ_=>[(33,1,301,10,229),(33,6,302,1,0),(33,7,1000,1,0),(33,13,303,12,147)] }
def zxj:Ann:=anD [] [[0,1],[5],[12,13,14],[15],[7,15],[32],[7,32],[],[0,1,4,5,12,13,14]] []
def zm5:Ann:=anD [] [[0],[3],[9,10,11],[12],[5,12],[5],[20],[20],[],[3,6,9,10,11],[0,25,26,27],[28],[8,28],[8],[],[2,6,25,26,27]] [(9,[(6,9,85)]),(13,[(6,9,85)])]
def zjO:Ann:=anD [] [[0,5],[7],[3,7],[3,13]] []
def zG0:Ann:=anK [] [[1,2],[1,2],[2]] []
def zBG:Ann:=anD [] [[3,4,5,6],[4,6,10,11],[26],[3,5,8,9,11,26],[3,5,9,10,11],[12],[11,28,29,30],[31],[14,31],[],[14],[],[28,29,30,45],[3,5,9,10,12,45],[5,9,10,12,15],[5,9,10,12,15],[69],[69],[]] [(5,[(12,1,3)]),(10,[(12,1,3)])]
def zKi:Ann:=anD [] [[0],[9],[0,2,9],[0,2,3],[13],[13],[4],[41],[0,2,3,4,41],[0,2,3,4,5],[46],[46],[55],[0,2,3,4,5,55],[0,2,3,4,6],[60],[60],[74],[0,2,3,4,6,74],[0,2,3,87],[0,2,3,87],[]] []
def zAe:Ann:=anK [] [[0],[0,7],[2],[0,3],[0,3,11],[0,3],[0,3,4],[0,3,4,18],[2],[0,3,4,41],[2],[0,3,57],[2],[2]] []
def zKk:Ann:=anK [] [[1],[42],[2],[2]] []
def zKh:Ann:=anD [] [[2,3],[5],[27],[2,3,4,5,27],[2,3,4,5,6],[30],[30],[46],[2,3,4,5,6,46],[2,3,4,5,6,7],[54],[54],[106],[2,3,4,5,6,7,106],[]] []
def zKj:Ann:=anD [] [[0,3],[6],[10],[10],[30],[0,3,4,5,6,30],[]] []
def zIA:Ann:=anD [] [[2,3,4],[14],[2,3,4,6,7,14],[2,3,4,6,7,20],[2,3,4,6,7,20],[2,3,4,6,7,8],[9],[24],[24],[33],[33],[54],[2,3,4,6,7,8,9,54],[2,3,4,6,7,8,9,10],[62],[62],[73],[73],[10],[2,3,4,6,7,8,9]] [(5,[(8,1,3)]),(10,[(8,1,3)]),(18,[(8,1,3)])]
def zG4:Ann:=anK [] [[1,2],[2,6,7],[2,6,16],[4,5],[4,5]] []
def zLC:Ann:=anK [] [[1,2],[1,2,11],[4],[1,2,5],[1,2,5,15],[1,2,5],[1,2,5,35],[4],[4]] []
def zFC:Ann:=anD [] [[0],[4,5],[6],[15],[15],[23],[7,23],[8,9],[9,44],[7,8,44],[7,57],[7,57],[0,2,3,4,5,6]] []
def zLF:Ann:=anD [] [[0],[10],[0,2,10],[2,3,4],[5],[6,7],[34],[34,56],[56],[],[],[],[2,3,4,5,6,7]] [(0,[(2,9,85)]),(2,[(2,9,85)]),(4,[(5,9,85)]),(8,[(5,9,85)]),(10,[(5,9,85)]),(12,[(2,9,85)])]
def zKq:Ann:={ anD [] [[1,2,3],[8],[9],[10],[11],[12,13,14],[15],[34],[34],[16],[53],[11,13,14,17,53],[17],[11,13,14,16],[16,81],[81,83],[16,83],[16,19],[19,102],[20,21,102],[22],[110],[110],[],[21,22,124],[20,124],[23,24],[23,149],[149],[159],[16,24,159],[25],[172],[172],[],[16,25,217],[16,217],[1,2,3,6,7,8,9,10,11,12,13,14,15]] [(2,[(9,12,147)]),(4,[(11,1,0)]),(13,[(11,1,0)]),(30,[(9,12,147)])]with cel:=λ_=>[(10,0,1000,1,0)] }
def zwt:Ann:=anK [] [[0,1,5],[5,7,8],[6]] []
def zLI:Ann:=anK [] [[1,2],[4]] []
def zEe:Ann:=anK [] [[2,3,4,5],[2,3,4,24],[8],[2,3,4,9],[3,9,37],[8],[8]] []
def zEg:Ann:=anK [] [[0,1],[0,1,10],[4],[0,1,5],[0,1,5,14],[0,1,5],[0,1,5,25],[4],[4]] []
def a_bits_Len:Ann:=anK [] [[0],[2],[2]] []
def zLy:Ann:=anK [] [[0],[0,3],[3,6,7,8],[3,6,7,8,9],[3,5,6,7,8],[3,5,6,7,8,14],[2],[3,6,7,8],[2]] []
def zD6:Ann:=anK [] [[0,1],[0,1,5],[0,1,5,6],[0,1,6,11],[12],[4],[4],[0,1,13],[4],[0,1,16],[4],[19],[4],[4]] []
def zFA:Ann:=anD [] [[0],[3],[10,11,12],[13],[4,5,13],[19],[6,19],[7,8],[8,29],[4,5,29],[39],[39],[6,7],[],[0,2,3,10,11,12]] []
def zFE:Ann:=anD [] [[3,4,5,6],[27],[3,4,5,6,8,9,27],[3,4,5,6,8,9,10,11],[11,36],[3,4,5,6,8,9,10,36],[3,4,5,6,8,9,10,12],[10,14],[16,17],[18],[19],[74],[74],[],[86],[86],[116],[116],[3,4,5,6,8,9,12,14,16,17,18,19]] [(9,[(18,2,216)]),(13,[(18,2,216)]),(15,[(18,2,216)]),(17,[(18,2,216)])]
def zKg:Ann:=anD [] [[2,3,4],[13],[2,3,4,6,7,13],[2,3,4,6,7,19],[2,3,4,6,7,19],[2,3,4,6,7,24],[2,3,4,6,7,24],[2,3,4,6,7,8],[9],[28],[28],[35],[36],[35,36],[45],[45],[2,3,4,6,7,8,9]] []
def zz9:Ann:=anK [] [[1],[1,40],[2],[2]] []
def zGW:Ann:=anD [] [[0],[3],[7],[7],[19],[0,2,3,19],[]] []
def zIH:Ann:=anK [] [[2,3],[2,3,27],[4],[3,29,30,31],[3,29,30,31,32],[3,5,6,29,30,31],[3,29,30,31,52],[4],[3,29,30,31],[4]] []
def zEb:Ann:=anK [] [[2,3],[3,9,10,11],[3,9,10,11,12],[3,6,7,9,10,11],[3,6,9,10,11,27],[4,5],[3,9,10,11],[4,5]] []
def zG7:Ann:=anD [] [[2,3,4],[17],[2,3,4,6,7,17],[2,3,4,6,7,23],[2,3,4,6,7,23],[2,3,4,6,7,25,26,27],[28],[8,9,28],[8,10],[9,10,56],[2,3,4,6,7,25,26,27,56],[2,3,4,6,7,25,26,27],[11,25,26,27],[3,63,64,65],[66],[12,13,66],[70],[12,13,70],[12,13,77],[12,13,77],[12,94],[12,94],[],[2,4,6,7,11,63,64,65]] []
def zEa:Ann:=anK [] [[1,2],[2,6,7],[2,6,15],[4,5],[4,5]] []
def zAc:Ann:=anK [] [[1,2],[1,2,12],[4],[1,14,15,16],[1,14,15,16,17],[1,5,6,14,15,16],[1,14,15,16,34],[4],[1,14,15,16],[4]] []
def zwr:Ann:={ anD [] [[0,3],[10],[4,10],[4],[],[3],[],[],[0]] []with cel:=λ_=>[(1000,1,900,10,229),(1000,6,901,1,0),(1000,7,1000,1,0),(1000,13,902,12,147)] }
def zAa:Ann:=anD [] [[0,4,5],[0,7],[8,9],[9,39],[4,5,6,8,39],[4,5,8,9],[9,78],[4,5,8,78],[5,8,99],[5,8,99],[105],[105],[]] []
def zws:Ann:=anD [] [[1,2,4],[2,9,10,11],[12],[7,12],[18],[1,5,7,9,10,11,18],[1,5,9,10,11],[1,5,9,10,11]] []
def zBN:Ann:={ anD [] [[0,6,7,8,9],[10],[12],[12,36],[10,36],[13,14],[7,45,46,47],[48],[15,16,48],[16,54],[17,18,54],[18,68],[15,68],[17],[],[8,13,14,19,45,46,47],[6,20,21],[21,99],[99],[20,104],[0,9,19,104],[0,9,114],[0,9,114]] [(5,[(13,1,3),(14,1,3)]),(12,[(13,1,3)]),(13,[(14,1,3)])]with cel:=λ_=>[(1000,1,900,10,229),(1000,6,901,1,0),(1000,7,1000,1,0),(1000,13,902,12,147)] }
def zAb:Ann:=anD [] [[0,3],[11,12,13],[14],[6,14],[6,7,8],[7,8,33],[0,3,4,11,12,13,33],[0,3,4,11,12,13],[0,3,4,11,12,13]] []
def znE:Ann:=anD [] [[0,1],[6],[6],[],[16],[1,16],[0,4]] []
def zyn:Ann:=anK [5] [[0],[0,4],[2],[2]] [(0,[(2,1,3)]),(2,[(2,1,3)]),(3,[(2,1,3)])]
def zyi:Ann:=anK [] [[3,4,5,6],[3,4,5,6,15],[8,9],[3,4,5,6,17,18,19],[3,4,5,6,17,18,19,20],[3,4,5,6,11,17,18,19],[3,4,5,6,11,17,18,19,26],[8,9],[3,4,5,6,17,18,19],[8,9]] []
def zIG:Ann:=anK [] [[3,4,5],[3,4,5,11],[6,7],[3,4,5,17],[6,7],[3,4,5,22],[6,7],[6,7]] []
def zG3:Ann:=anK [] [[0,1,2],[6]] []
def zCu:Ann:=anK [] [[1],[1,34],[2],[1,3],[1,3,4],[1,3,4,39],[1,3,4],[1,3,4,48],[2],[1,3,4],[2]] []
def zG2:Ann:=anK [] [[2,3,4,5],[2,3,4,5,32],[8],[2,3,4,5,39],[8],[8]] []
def zKn:Ann:=anK [] [[1],[1,19],[2],[1,3],[1,3,24],[1,3],[1,3,33],[2],[1,35],[1,35,36],[2],[1,35,57],[2],[1,89],[2],[2]] []
def zKp:Ann:=anD [] [[1,2,3],[8],[1,10],[12,13],[14],[38],[38],[48],[15,48],[16],[52],[52],[61],[61],[15,16,78],[2,3,6,7,8,10,12,13,14,78],[]] [(3,[(12,1,3),(13,1,3)]),(13,[(12,1,3),(13,1,3)])]
def zCx:Ann:=anK [] [[2,3,4,6],[2,3,4,6,12],[6,7],[2,3,4,6,15],[6,7],[3,6,8],[3,6,8,27],[3,6,8],[6,7]] [(5,[(8,1,4)]),(7,[(8,1,4)])]
def zLB:Ann:=anD [] [[2,3],[5],[10],[10],[20],[2,3,4,5,20],[]] []
def zLw:Ann:=anD [] [[0,2],[4],[2,4],[2],[8],[8],[],[0]] []
def zLx:Ann:=anD [] [[0,2],[4],[2,4],[2],[8],[8],[],[14],[14],[],[0]] []
def zGZ:Ann:=anK [] [[1],[1,16],[2],[1,18],[1,18,19],[2],[1,18,23],[2],[1,60],[2],[2]] []
def zCt:Ann:=anK [] [[1,2],[2]] []
def zIC:Ann:=anD [] [[1,2,4],[5],[6],[15],[15],[67],[67],[6,70],[1,2,5,70],[1,2,80],[1,2,80],[1,2,88],[1,2,88],[1,2,7,8,9],[10],[98],[98],[11],[11],[2,8,9,10,126],[1,7,126],[]] []
def zFD:Ann:=anD [] [[1,2,3],[7],[8],[13],[13],[33],[33],[1,2,3,6,7,8]] [(1,[(7,8,70)]),(6,[(7,8,70)])]
def zIB:Ann:=anD [] [[2,3,4],[19],[2,3,4,6,19],[2,3,4,6,7],[23],[23],[42],[2,3,4,6,7,42],[]] []
def zD7:Ann:=anK [] [[1],[1,22],[2],[1,32],[2],[1,34,35,36],[1,34,35,36,37],[1,4,34,35,36],[1,34,35,36,42],[2],[1,34,35,36],[2]] []
def zCB:Ann:=anK [] [[1,2],[1,2,9],[4],[1,2,13,14,15],[1,2,13,14,15,16],[1,2,5,6,13,14,15],[1,2,13,14,15,40],[4],[1,2,13,14,15],[4]] []
def zG9:Ann:=anK [] [[0],[3],[3,4],[3,4],[4],[2],[2]] []
def zFH:Ann:=anK [] [[1,2,3],[1,2,3,9],[6],[6]] []
def zCz:Ann:=anK [] [[2,3,4,5],[8]] []
def zIz:Ann:=anD [] [[1,2,3],[29],[1,2,3,6,29],[1,2,3,6,7,8],[31,32],[33],[9,33],[9,10,11],[50],[1,2,3,6,7,8,10,11,31,32,50],[1,2,3,6,7,8,31,32],[],[1,2,3,6,7,8,31,32]] []
def zyl:Ann:={ anD [] [[0,1,5],[1,5,6],[19],[19],[],[7],[46],[46],[65],[65]] []with cel:=λ_=>[(1000,1,900,10,229),(1000,6,901,1,0),(1000,7,1000,1,0),(1000,13,902,12,147)] }
def zyk:Ann:=anD [] [[4,5,6,7],[9],[9,11,12],[13],[5,15,16],[17],[11,57,58,59],[60],[18,19,60],[18,19],[18,74],[18,74],[18,95],[18,95],[],[4,6,7,8,12,13,15,16,17,57,58,59]] []
def zG8:Ann:=anK [] [[2,3,4],[2,3,4,20],[6],[2,4,22,23,24],[2,4,22,23,24,25],[2,4,7,8,22,23,24],[2,4,22,23,24,43],[6],[2,4,22,23,24],[6]] []
def zLL:Ann:=anD [] [[1,2],[5],[2,9,10,11],[12],[6,7,12],[6,7],[],[1,4,5,9,10,11]] []
def zFG:Ann:=anK [] [[0,2,3,5],[0,3,5,11],[0,3,5,11,12],[6],[0,3,16],[6],[6]] []
def zEd:Ann:=anK [] [[1],[1,30],[2],[1,33],[2],[2]] []
def zMJ:Ann:=anD [] [[0,1],[5],[9],[9],[17],[0,1,4,5,17],[]] []
def zLD:Ann:=anK [] [[1,2,3],[1,2,3,24],[6],[1,2,3,7],[1,2,3,7,8],[1,2,3,7,8,28],[1,2,3,7,8],[1,2,3,7,8,42],[6],[1,2,3,7,8,9],[1,2,3,7,8,9,58],[6],[1,2,3,7,8],[6]] []
def zKl:Ann:=anD [] [[0],[3],[4],[8],[8],[15],[15],[0,2,3,4]] []
def zBP:Ann:=anK [] [[1],[1,37],[2],[2]] []
def zou:Ann:=anD [] [[0,1],[7,8],[9],[5,9],[16],[0,1,4,5,7,8,16],[0,1,4,7,8],[0,1,4,7,8]] []
def zFv:Ann:=anK [] [[1],[1,30],[2],[1,32],[1,32,33],[2],[1,43],[2],[2]] []
def zGV:Ann:=anD [] [[0],[3],[0,6,7,8],[9],[5,9],[5],[],[2,3,6,7,8]] []
def zKf:Ann:=anD [] [[0,1,4],[0,8,9,10],[11],[7,11],[17],[1,8,9,10,17],[5,7],[1,5,8,9,10],[1,5,8,9,10]] []
def zCA:Ann:=anK [] [[1,2],[1,2,6],[4],[1,2,9],[4],[4]] []
def zwu:Ann:=anK [5] [[0],[0,4],[2],[2]] [(0,[(2,1,4)]),(2,[(2,1,4)]),(3,[(2,1,4)])]
def zEc:Ann:=anD [] [[1,2],[5],[1,8,9,10],[11],[7,11],[7,15],[15],[],[2,4,5,8,9,10]] []
def zwp:Ann:=anK [] [[1,2],[1,9,10,11],[1,9,10,11,12],[1,7,9,10,11],[1,7,9,10,11,18],[4,5],[1,9,10,11],[4,5]] []
def zz5:Ann:=anD [] [[1,2,4],[5,6],[6,16],[1,2,5,16],[1,2,22],[1,2,22],[1,2,26],[2,26,28],[1,28],[],[1,2,7,8],[43,44,45],[46],[10,46],[10],[],[2,7,8,43,44,45,63],[1,63],[]] []
def zCs:Ann:=anD [] [[1,2,3],[7],[3,11,12,13],[14],[9,14],[26],[9,26],[],[1,2,6,7,11,12,13]] [(1,[(7,8,70)]),(6,[(7,8,70)])]
def zLE:Ann:=anK [] [[0],[0,4],[2],[2]] []
def zyj:Ann:=anD [] [[0,2],[4],[5],[0,8,9,10],[11],[7,11],[16],[16,40],[7,40],[],[3,4,5,8,9,10]] []
def zCn:Ann:=anD [] [[0],[3,4],[11,12,13],[14],[6,14],[],[6,7],[7],[],[0,8,11,12,13],[3,4,9,10],[8,10,42],[42],[2,9]] []
def zLv:Ann:=anD [] [[0,1,2],[20],[20],[24],[24],[27],[0,1,2,6,7,27],[0,1,2,6,7,8],[],[9],[10],[0,11],[1,12],[13],[12,14],[15],[16],[78],[78],[],[85],[11,13,16,17,85],[18],[16],[113],[113],[],[120],[2,6,7,8,9,10,14,15,16,17,18,120]] []
def aNone:Ann:={ lits:=[],live:=λ_=>none,own:=λ_=>[] }
def annTab:List Ann:=[aNone,aNone,aNone,zz6,zBI,zzc,zBH,zz7,zh0,zLz,zh0,zD9,zFw,zCo,zBJ,zq5,zq5,zFt,zGS,zLH,zCm,zIt,zCv,zD4,zz8,zFB,zwq,zLJ,zEh,zGT,zIE,zza,zza,zwq,zKs,zy9,zy9,zG6,zID,zFF,zCw,zIv,zCp,zBK,zBM,zBL,zli,zFz,zLA,zFy,zFx,zli,ztl,zGX,zzb,zIx,zKe,ztB,zBQ,zeU,zGY,zFu,zGU,zKo,zEf,zMK,zLG,zG5,zML,zgK,zef,zef,zIu,zD5,zeU,zBO,zef,zCy,zeU,zeU,zIF,zKu,zKt,zLK,zKm,zKr,zD8,zCq,zCr,zIw,zzd,zze,zym,zAd,zG1,zIy,zxj,zgK,zef,zm5,aNone,aNone,zjO,zG0,zBG,zKi,zAe,zKk,zKh,zKj,zIA,zG4,zLC,zFC,zLF,zKq,zCv,zwt,zLI,zEe,zEg,zCy,aNone,a_bits_Len,zLy,zD6,zjO,zFA,zgK,zef,ztl,zFE,zKg,zz9,zGW,zh0,zIH,zEb,zG7,zEa,zAc,zh0,zwr,zAa,zws,zBN,zAb,aNone,znE,aNone,aNone,zyn,zyi,zIG,zG3,zCu,zG2,zKn,zef,zKp,zCx,zLB,aNone,aNone,aNone,aNone,aNone,aNone,aNone,aNone,zLw,zLx,zh0,zGZ,zCt,zef,aNone,zIC,zFD,zIB,zli,zh0,zD7,zCB,zG9,zFH,zws,zwt,zCz,zwq,zIz,zCx,zyl,aNone,aNone,aNone,aNone,aNone,aNone,aNone,aNone,aNone,aNone,aNone,aNone,aNone,aNone,aNone,aNone,aNone,zef,zyk,zG8,zLL,zFG,zEd,zMJ,zG3,zLD,zef,zKl,aNone,aNone,aNone,aNone,aNone,zBP,aNone,aNone,aNone,aNone,aNone,aNone,aNone,aNone,zou,zFv,zGV,zli,zKf,zef,zCA,zh0,zli,zef,zwu,zEc,aNone,aNone,aNone,aNone,aNone,aNone,zwp,zz5,zCs,zLE,aNone,zh0,aNone,aNone,aNone,zou,zh0,aNone,aNone,zyj,zeU,zCn,aNone,aNone,zLv,zh0,aNone,aNone,aNone,aNone,aNone,aNone,aNone,aNone,aNone,aNone,aNone,aNone,aNone,aNone,aNone,aNone]
def zA:AnnF:=λf=>annTab.getD f aNone
abbrev Xa:=r1 vBool
def zat:Bool->AV×Mem:=Xa.enc
abbrev zag:RD:={Xa with α:=Bool,enc:=zat}
abbrev Xaa:=r1 (vNewp 2 92 zbH)
def zyN:zak->AV×Mem:=Xaa.enc
abbrev zuj:RD:={Xaa with α:=zak,enc:=zyN}
abbrev Xab:=r1M (vAgg zqj) (mBox 1000 2 92 zbH)
def znh:(zam×zak)->AV×Mem:=Xab.enc
abbrev zni:RD:={Xab with α:=zam×zak,enc:=znh}
abbrev Xac:=r1M (vNew 9 85 za4) (mBox 1000 2 92 zbH)
def zhs:(((List zad))×zak)->AV×Mem:=Xac.enc
abbrev zjK:RD:={Xac with α:=((List zad))×zak,enc:=zhs}
abbrev Xad:=r1M (vSl 6 zb4) (mBox 1000 2 92 zbH)
def zlJ:(((List zan))×zak)->AV×Mem:=Xad.enc
abbrev zlM:RD:={Xad with α:=((List zan))×zak,enc:=zlJ}
abbrev Xae:=r1M (vAgg ziN) (mBox 1000 2 92 zbH)
def zm0:(zaP×zak)->AV×Mem:=Xae.enc
abbrev zj1:RD:={Xae with α:=zaP×zak,enc:=zm0}
abbrev Xaf:=r1M (vAgg zqi) (mBox 1000 2 92 zbH)
def zrS:(zbg×zak)->AV×Mem:=Xaf.enc
abbrev zoi:RD:={Xaf with α:=zbg×zak,enc:=zrS}
abbrev Xag:=rT (lCons (vSl 1 zbm) (lOne (vI .i64)))
def zcW:((List Int)×Int)->AV×Mem:=Xag.enc
abbrev zde:RD:={Xag with α:=(List Int)×Int,enc:=zcW}
abbrev Xah:=rT (lCons (vAgg zgd) (lOne (vI .i64)))
def znA:(zaJ×Int)->AV×Mem:=Xah.enc
abbrev zgN:RD:={Xah with α:=zaJ×Int,enc:=znA}
abbrev Xai:=rT (lCons (vSl 6 zb4) (lOne (vI .i64)))
def zeO:((List zan)×Int)->AV×Mem:=Xai.enc
abbrev zeP:RD:={Xai with α:=(List zan)×Int,enc:=zeO}
abbrev Xaj:=r1 (vSl 1 zbm)
def zeW:((List Int))->AV×Mem:=Xaj.enc
abbrev zeY:RD:={Xaj with α:=(List Int),enc:=zeW}
abbrev Xb:=rT (lCons (vAgg zdT) (lOne vBool))
def znz:(zbh×Bool)->AV×Mem:=Xb.enc
abbrev zkd:RD:={Xb with α:=zbh×Bool,enc:=znz}
abbrev Xba:=rT (lCons (vSl 9 za4) (lOne (vI .i64)))
def zdw:((List zad)×Int)->AV×Mem:=Xba.enc
abbrev zeE:RD:={Xba with α:=(List zad)×Int,enc:=zdw}
abbrev Xbb:=r1M (vSl 9 za4) (mBox 1000 2 92 zbH)
def zAY:(((List zad))×zak)->AV×Mem:=Xbb.enc
abbrev zAZ:RD:={Xbb with α:=((List zad))×zak,enc:=zAY}
abbrev Xbc:=r1 (vNew 6 62 zb4)
def zku:((List zan))->AV×Mem:=Xbc.enc
abbrev zhc:RD:={Xbc with α:=(List zan),enc:=zku}
abbrev Xbd:=r1 (vNew 1 3 zbm)
def zeD:((List Int))->AV×Mem:=Xbd.enc
abbrev zfk:RD:={Xbd with α:=(List Int),enc:=zeD}
abbrev Xbe:=r1 (vI .i64)
def zbv:Int->AV×Mem:=Xbe.enc
abbrev zaV:RD:={Xbe with α:=Int,enc:=zbv}
abbrev Xbf:=rT (lCons (vSl 1 zbm) (lOne vBool))
def ziA:((List Int)×Bool)->AV×Mem:=Xbf.enc
abbrev zeR:RD:={Xbf with α:=(List Int)×Bool,enc:=ziA}
abbrev Xbg:=r1 (vAgg zb4)
def zt6:zan->AV×Mem:=Xbg.enc
abbrev ziB:RD:={Xbg with α:=zan,enc:=zt6}
abbrev Xbh:=rTM (lCons (vSl 3 zcZ) (lOne (vSl 2 zeK))) (mBox 1000 2 92 zbH)
def zkb:(((List zaQ)×(List zbu))×zak)->AV×Mem:=Xbh.enc
abbrev zmF:RD:={Xbh with α:=((List zaQ)×(List zbu))×zak,enc:=zkb}
abbrev Xbi:=r1M (vNew 5 65 zdT) (mBox 1000 2 92 zbH)
def zlK:(((List zbh))×zak)->AV×Mem:=Xbi.enc
abbrev zlN:RD:={Xbi with α:=((List zbh))×zak,enc:=zlK}
abbrev Xbj:=r1M (vNew 7 89 zcK) (mBox 1000 2 92 zbH)
def zlL:(((List zaY))×zak)->AV×Mem:=Xbj.enc
abbrev zlP:RD:={Xbj with α:=((List zaY))×zak,enc:=zlL}
abbrev Xc:=r1M (vAgg zow) (mBox 1000 2 92 zbH)
def zo3:(zbK×zak)->AV×Mem:=Xc.enc
abbrev zlO:RD:={Xc with α:=zbK×zak,enc:=zo3}
abbrev Xca:=r1M vBool (mBox 1000 2 92 zbH)
def zrQ:(Bool×zak)->AV×Mem:=Xca.enc
abbrev ze2:RD:={Xca with α:=Bool×zak,enc:=zrQ}
abbrev Xcb:=r1M (vAgg zgt) (mBox 1000 2 92 zbH)
def zog:(GSeed×zak)->AV×Mem:=Xcb.enc
abbrev zoj:RD:={Xcb with α:=GSeed×zak,enc:=zog}
abbrev Xcc:=r1 (vAgg zcZ)
def zs1:zaQ->AV×Mem:=Xcc.enc
abbrev znB:RD:={Xcc with α:=zaQ,enc:=zs1}
abbrev Xcd:=r1M (vI .i64) (mBox 1000 2 92 zbH)
def zof:(Int×zak)->AV×Mem:=Xcd.enc
abbrev zbn:RD:={Xcd with α:=Int×zak,enc:=zof}
abbrev Xce:=r1M (vAgg za4) (mBox 1000 2 92 zbH)
def zrR:(zad×zak)->AV×Mem:=Xce.enc
abbrev zoh:RD:={Xce with α:=zad×zak,enc:=zrR}
abbrev Xcf:=r0M (mRow 1000 0 114 zjy)
def znx:((List (Int×Int)))->AV×Mem:=Xcf.enc
abbrev zhh:RD:={Xcf with α:=(List (Int×Int)),enc:=znx}
abbrev Xcg:=rTM (lCons (vAgg zgd) (lOne (vI .i64))) (mRow 1001 9 85 za4)
def zt7:((zaJ×Int)×(List zad))->AV×Mem:=Xcg.enc
abbrev zqC:RD:={Xcg with α:=(zaJ×Int)×(List zad),enc:=zt7}
abbrev Xch:=r1 (vSl 9 za4)
def zjd:((List zad))->AV×Mem:=Xch.enc
abbrev zgM:RD:={Xch with α:=(List zad),enc:=zjd}
abbrev Xci:=r1 (vNew 9 85 za4)
def zdp:((List zad))->AV×Mem:=Xci.enc
abbrev zew:RD:={Xci with α:=(List zad),enc:=zdp}
abbrev Xcj:=rT (lCons (vI .i64) (lOne (vI .i64)))
def zjJ:(Int×Int)->AV×Mem:=Xcj.enc
abbrev zgH:RD:={Xcj with α:=Int×Int,enc:=zjJ}
abbrev Xd:=rT (lCons (vSl 12 zd5) (lOne (vSl 1 dBool)))
def zoQ:((List zcb)×(List Bool))->AV×Mem:=Xd.enc
abbrev zoR:RD:={Xd with α:=(List zcb)×(List Bool),enc:=zoQ}
abbrev Xda:=r1 (vNew 8 70 zc2)
def zjY:((List za6))->AV×Mem:=Xda.enc
abbrev zk7:RD:={Xda with α:=(List za6),enc:=zjY}
abbrev Xdb:=r0M (mRow 1000 6 62 zb4)
def zfj:((List zan))->AV×Mem:=Xdb.enc
abbrev zfl:RD:={Xdb with α:=(List zan),enc:=zfj}
abbrev Xdc:=r1 (vNewm 68 zkz)
def zlf:((List (Int×Bool)))->AV×Mem:=Xdc.enc
abbrev zhD:RD:={Xdc with α:=(List (Int×Bool)),enc:=zlf}
abbrev Xdd:=rTM (lCons (vSl 9 za4) (lOne (vI .i64))) (mRow 1000 9 85 za4)
def zhV:(((List zad)×Int)×(List zad))->AV×Mem:=Xdd.enc
abbrev zlQ:RD:={Xdd with α:=((List zad)×Int)×(List zad),enc:=zhV}
abbrev Xde:=rT (lCons (vI .i64) (lCons (vI .i64) (lOne (vI .i64))))
def zkC:(Int×Int×Int)->AV×Mem:=Xde.enc
abbrev zjf:RD:={Xde with α:=Int×Int×Int,enc:=zkC}
abbrev Xdf:=r1M (vAgg zcZ) (mBox 1000 2 92 zbH)
def zqW:(zaQ×zak)->AV×Mem:=Xdf.enc
abbrev zhP:RD:={Xdf with α:=zaQ×zak,enc:=zqW}
abbrev Xdg:=r1M (vAgg zeK) (mBox 1000 2 92 zbH)
def zp1:(zbu×zak)->AV×Mem:=Xdg.enc
abbrev zmG:RD:={Xdg with α:=zbu×zak,enc:=zp1}
abbrev Xdh:=r1M (vAgg zcK) (mBox 1000 2 92 zbH)
def zmC:(zaY×zak)->AV×Mem:=Xdh.enc
abbrev zmH:RD:={Xdh with α:=zaY×zak,enc:=zmC}
abbrev Xdi:=r1 (vNewm 178 zfi)
def zfI:((List (za1×zad)))->AV×Mem:=Xdi.enc
abbrev zjk:RD:={Xdi with α:=(List (za1×zad)),enc:=zfI}
abbrev Xdj:=r0M (mRow 1000 8 70 zc2)
def zfF:((List za6))->AV×Mem:=Xdj.enc
abbrev zfG:RD:={Xdj with α:=(List za6),enc:=zfF}
abbrev Xe:=r0
def zpv:Unit->AV×Mem:=Xe.enc
abbrev zjP:RD:={Xe with α:=Unit,enc:=zpv}
abbrev Xea:=r1 (vAgg za4)
def zmD:zad->AV×Mem:=Xea.enc
abbrev zmI:RD:={Xea with α:=zad,enc:=zmD}
abbrev Xeb:=rT (lCons (vI .i64) (lOne vBool))
def zje:(Int×Bool)->AV×Mem:=Xeb.enc
abbrev zd0:RD:={Xeb with α:=Int×Bool,enc:=zje}
abbrev Xec:=rT (lCons (vMp zi6) (lOne (vMp zjx)))
def zlw:((List ((Int×Int)×Int))×(List ((Int×Int)×Bool)))->AV×Mem:=Xec.enc
abbrev zom:RD:={Xec with α:=(List ((Int×Int)×Int))×(List ((Int×Int)×Bool)),enc:=zlw}
abbrev Xed:=rT (lCons (vAgg zcK) (lOne vBool))
def zlg:(zaY×Bool)->AV×Mem:=Xed.enc
abbrev zgT:RD:={Xed with α:=zaY×Bool,enc:=zlg}
abbrev Xee:=r1M (vNewm 206 zdF) (mRow 1000 9 85 za4)
def zht:(((List ((Int×Int)×zb7)))×(List zad))->AV×Mem:=Xee.enc
abbrev zol:RD:={Xee with α:=((List ((Int×Int)×zb7)))×(List zad),enc:=zht}
abbrev Xef:=r0M (mRow 1000 9 85 za4)
def zev:((List zad))->AV×Mem:=Xef.enc
abbrev zex:RD:={Xef with α:=(List zad),enc:=zev}
abbrev Xeg:=rT (lCons (vSl 2 zeL) (lOne (vI .i64)))
def zil:((List zcY)×Int)->AV×Mem:=Xeg.enc
abbrev zjL:RD:={Xeg with α:=(List zcY)×Int,enc:=zil}
abbrev Xeh:=r0M zpt
def zdx:zaF->AV×Mem:=Xeh.enc
abbrev zeQ:RD:={Xeh with α:=zaF,enc:=zdx}
abbrev Xei:=rT (lCons (vI .i64) (lOne vPtr))
def zi0:(Int×(Option Addr))->AV×Mem:=Xei.enc
abbrev zk3:RD:={Xei with α:=Int×(Option Addr),enc:=zi0}
abbrev Xej:=rT (lCons (vAgg zgt) (lOne vBool))
def zlv:(GSeed×Bool)->AV×Mem:=Xej.enc
abbrev zok:RD:={Xej with α:=GSeed×Bool,enc:=zlv}
abbrev Xf:=rT (lCons vBool (lOne vBool))
def zlY:(Bool×Bool)->AV×Mem:=Xf.enc
abbrev zrx:RD:={Xf with α:=Bool×Bool,enc:=zlY}
abbrev Xfa:=rT (lCons (vAgg zzm) (lOne (vI .i64)))
def zp2:(zck×Int)->AV×Mem:=Xfa.enc
abbrev znC:RD:={Xfa with α:=zck×Int,enc:=zp2}
abbrev Xfb:=r1 (vAgg zgV)
def zmE:((Int×Int))->AV×Mem:=Xfb.enc
abbrev zkc:RD:={Xfb with α:=(Int×Int),enc:=zmE}
abbrev Xfc:=r1 (vAgg zeL)
def zgm:zcY->AV×Mem:=Xfc.enc
abbrev zlh:RD:={Xfc with α:=zcY,enc:=zgm}
abbrev Xfd:=r1 (vNew 2 216 zeL)
def zh5:((List zcY))->AV×Mem:=Xfd.enc
abbrev zj0:RD:={Xfd with α:=(List zcY),enc:=zh5}
abbrev Xfe:=r1 (vNew 1 4 dBool)
def zlx:((List Bool))->AV×Mem:=Xfe.enc
abbrev zi1:RD:={Xfe with α:=(List Bool),enc:=zlx}
abbrev Xff:=rT (lCons (vAgg zc2) (lOne vBool))
def zjX:(za6×Bool)->AV×Mem:=Xff.enc
abbrev zjZ:RD:={Xff with α:=za6×Bool,enc:=zjX}
abbrev Xfg:=rT (lCons (vI .u64) (lOne (vI .u64)))
def zw3:(Int×Int)->AV×Mem:=Xfg.enc
abbrev zs2:RD:={Xfg with α:=Int×Int,enc:=zw3}
def resTab:List RD:=[rRaw,rRaw,rRaw,zag,zag,zag,zag,zag,zag,zag,zuj,zni,zjK,zjK,zlM,zj1,zoi,zde,zde,zgN,zeP,zeY,zkd,zeE,zAZ,zag,zag,zag,zeP,zhc,zhc,zag,zag,zag,zfk,zaV,zaV,zde,zde,zeE,zeR,ziB,zmF,zlN,zlP,zlO,ze2,zoj,znB,zbn,zoh,zbn,zaV,zaV,zhh,zqC,zgM,zgM,zeY,zeZ,zew,zgH,zfk,zaV,zeE,zoR,zag,zag,zk7,zfl,zaV,zaV,zhD,zhD,zep,zlQ,zag,zag,zag,zag,zag,zag,zfk,zgM,zew,zjf,zhP,zmG,zmH,zaV,zaV,zag,zag,zag,zaV,zqD,zjk,zfG,zaV,zew,rRaw,rRaw,zjP,zmI,zjf,zaV,zaV,zaV,zag,zd0,zde,zd0,zag,zom,zew,zoR,zgT,zag,zag,zag,zag,zag,rRaw,zaV,zaV,zaV,zjP,zol,zex,zaV,zaV,zjL,zgH,zag,zag,zag,zag,zd0,zde,zd0,zag,zag,zeQ,zk3,zok,zeQ,zag,rRaw,zew,rRaw,rRaw,zfk,zjL,zgH,zag,zag,zag,zag,zag,zrx,znC,zag,rRaw,rRaw,rRaw,rRaw,rRaw,rRaw,rRaw,rRaw,zaV,zaV,zag,zag,zkc,zag,rRaw,zlh,zk7,zag,zag,zag,zag,zag,zag,zag,zgT,zag,zag,zag,zag,znC,zeQ,rRaw,rRaw,rRaw,rRaw,rRaw,rRaw,rRaw,rRaw,rRaw,rRaw,rRaw,rRaw,rRaw,rRaw,rRaw,rRaw,rRaw,zag,zj0,zag,zaV,zaV,zag,zag,zag,zag,zag,zaV,rRaw,rRaw,rRaw,rRaw,rRaw,zag,rRaw,rRaw,rRaw,rRaw,rRaw,rRaw,rRaw,rRaw,zaV,zag,zaV,zag,zkd,zag,zag,zag,zaV,zag,zi1,zag,rRaw,rRaw,rRaw,rRaw,rRaw,rRaw,zeR,zlh,zk7,zaV,rRaw,zag,rRaw,rRaw,rRaw,zaV,zag,rRaw,rRaw,zjZ,zaV,zaV,rRaw,rRaw,zs2,zaV,rRaw,rRaw,rRaw,rRaw,rRaw,rRaw,rRaw,rRaw,rRaw,rRaw,rRaw,rRaw,rRaw,rRaw,rRaw,rRaw]
abbrev Xfh:=r1 (vNewm 206 zdF)
def zgy:((List ((Int×Int)×zb7)))->AV×Mem:=Xfh.enc
abbrev zmJ:RD:={Xfh with α:=(List ((Int×Int)×zb7)),enc:=zgy}
def zT:Dic:=Dic.of tyTab resTab [(55,zgN),(75,zeE),(127,zmJ)]
abbrev fr(f)(n)(m):=(⟨Tryz.prog,zC,zA,f,n,m⟩:Fr)
abbrev zlC:=fr 6 Tryz.f6 []
abbrev zLd:=fr 8 Tryz.f8 []
abbrev zLc:=fr 9 Tryz.f9 []
abbrev zMA:=fr 10 Tryz.f10 []
abbrev zvt:=fr 11 Tryz.f11 [(1000,⟨0,0,[],false⟩)]
abbrev znQ:=fr 12 Tryz.f12 [(1000,⟨0,0,[],false⟩)]
abbrev zul:=fr 13 Tryz.f13 [(1000,⟨0,0,[],false⟩)]
abbrev zoU:=fr 14 Tryz.f14 [(1000,⟨0,0,[],false⟩)]
abbrev zye:=fr 15 Tryz.f15 [(1000,⟨0,0,[],false⟩)]
abbrev zFm:=fr 16 Tryz.f16 [(1000,⟨0,0,[],false⟩)]
abbrev zjs:=fr 17 Tryz.f17 []
abbrev zGF:=fr 18 Tryz.f18 []
abbrev zCh:=fr 19 Tryz.f19 []
abbrev zbR:=fr 20 Tryz.f20 []
abbrev znl:=fr 21 Tryz.f21 []
abbrev zCd:=fr 22 Tryz.f22 []
abbrev zbF:=fr 23 Tryz.f23 []
abbrev zwm:=fr 25 Tryz.f25 []
abbrev zB8:=fr 26 Tryz.f26 []
abbrev zkF:=fr 28 Tryz.f28 []
abbrev zxs:=fr 29 Tryz.f29 []
abbrev zy6:=fr 30 Tryz.f30 []
abbrev zIo:=fr 31 Tryz.f31 []
abbrev zKa:=fr 32 Tryz.f32 []
abbrev zB7:=fr 33 Tryz.f33 []
abbrev zu4:=fr 34 Tryz.f34 []
abbrev zIn:=fr 35 Tryz.f35 []
abbrev zJ9:=fr 36 Tryz.f36 []
abbrev zxx:=fr 37 Tryz.f37 []
abbrev zqe:=fr 38 Tryz.f38 []
abbrev zrB:=fr 39 Tryz.f39 []
abbrev zur:=fr 40 Tryz.f40 []
abbrev zIp:=fr 41 Tryz.f41 []
abbrev zl2:=fr 42 Tryz.f42 [(1000,⟨0,0,[],false⟩)]
abbrev ztj:=fr 43 Tryz.f43 [(1000,⟨0,0,[],false⟩)]
abbrev zlD:=fr 44 Tryz.f44 [(1000,⟨0,0,[],false⟩)]
abbrev zBE:=fr 45 Tryz.f45 [(1000,⟨0,0,[],false⟩)]
abbrev zFj:=fr 46 Tryz.f46 [(1000,⟨0,0,[],false⟩)]
abbrev zwh:=fr 47 Tryz.f47 [(1000,⟨0,0,[],false⟩)]
abbrev zB9:=fr 48 Tryz.f48 []
abbrev zFk:=fr 49 Tryz.f49 [(1000,⟨0,0,[],false⟩)]
abbrev zrz:=fr 50 Tryz.f50 [(1000,⟨0,0,[],false⟩)]
abbrev zFl:=fr 51 Tryz.f51 [(1000,⟨0,0,[],false⟩)]
abbrev zBB:=fr 52 Tryz.f52 []
abbrev zGH:=fr 53 Tryz.f53 []
abbrev zyX:=fr 54 Tryz.f54 [(1000,⟨0,0,[],false⟩)]
abbrev zbM:=fr 55 Tryz.f55 [(1001,⟨0,0,[],false⟩)]
abbrev zJ4:=fr 56 Tryz.f56 []
abbrev znm:=fr 57 Tryz.f57 []
abbrev zxv:=fr 60 Tryz.f60 []
abbrev zFh:=fr 61 Tryz.f61 []
abbrev zso:=fr 62 Tryz.f62 []
abbrev zrl:=fr 63 Tryz.f63 []
abbrev zvw:=fr 64 Tryz.f64 []
abbrev zyh:=fr 65 Tryz.f65 []
abbrev zLh:=fr 66 Tryz.f66 []
abbrev zxw:=fr 67 Tryz.f67 []
abbrev zuf:=fr 68 Tryz.f68 [(950,⟨0,0,[],false⟩)]
abbrev zz2:=fr 70 Tryz.f70 []
abbrev zGP:=fr 71 Tryz.f71 []
abbrev zyY:=fr 72 Tryz.f72 []
abbrev zvr:=fr 73 Tryz.f73 []
abbrev zbr:=fr 75 Tryz.f75 [(1000,⟨0,0,[],false⟩)]
abbrev zLg:=fr 76 Tryz.f76 []
abbrev zLf:=fr 77 Tryz.f77 []
abbrev zKc:=fr 78 Tryz.f78 []
abbrev zJ5:=fr 79 Tryz.f79 []
abbrev zy7:=fr 80 Tryz.f80 []
abbrev zKb:=fr 81 Tryz.f81 []
abbrev zlS:=fr 82 Tryz.f82 []
abbrev zCi:=fr 83 Tryz.f83 []
abbrev zBk:=fr 84 Tryz.f84 []
abbrev zBm:=fr 85 Tryz.f85 []
abbrev zqP:=fr 86 Tryz.f86 [(1000,⟨0,0,[],false⟩)]
abbrev zpx:=fr 87 Tryz.f87 [(1000,⟨0,0,[],false⟩)]
abbrev zum:=fr 88 Tryz.f88 [(1000,⟨0,0,[],false⟩)]
abbrev zyZ:=fr 89 Tryz.f89 []
abbrev zrY:=fr 90 Tryz.f90 []
abbrev zrZ:=fr 91 Tryz.f91 []
abbrev zq1:=fr 92 Tryz.f92 []
abbrev znR:=fr 93 Tryz.f93 []
abbrev zGK:=fr 94 Tryz.f94 []
abbrev zbi:=fr 95 Tryz.f95 []
abbrev zqH:=fr 96 Tryz.f96 []
abbrev zyg:=fr 98 Tryz.f98 []
abbrev zgb:=fr 99 Tryz.f99 []
abbrev zGJ:=fr 103 Tryz.f103 []
abbrev zti:=fr 104 Tryz.f104 []
abbrev zrk:=fr 105 Tryz.f105 []
abbrev zss:=fr 106 Tryz.f106 []
abbrev zJ6:=fr 107 Tryz.f107 []
abbrev zu2:=fr 108 Tryz.f108 []
abbrev zBi:=fr 109 Tryz.f109 []
abbrev zk9:=fr 110 Tryz.f110 []
abbrev zGN:=fr 111 Tryz.f111 []
abbrev zCf:=fr 112 Tryz.f112 []
abbrev zwn:=fr 113 Tryz.f113 []
abbrev zpy:=fr 114 Tryz.f114 []
abbrev zdG:=fr 115 Tryz.f115 []
abbrev zy5:=fr 116 Tryz.f116 []
abbrev zFp:=fr 117 Tryz.f117 []
abbrev zLi:=fr 118 Tryz.f118 []
abbrev zD2:=fr 119 Tryz.f119 []
abbrev zvx:=fr 120 Tryz.f120 []
abbrev zLj:=fr 121 Tryz.f121 []
abbrev zB6:=fr 124 Tryz.f124 []
abbrev zDX:=fr 125 Tryz.f125 []
abbrev zwk:=fr 127 Tryz.f127 [(1000,⟨0,0,[],false⟩)]
abbrev zy0:=fr 129 Tryz.f129 []
abbrev zJ8:=fr 130 Tryz.f130 []
abbrev zrA:=fr 131 Tryz.f131 []
abbrev zBh:=fr 132 Tryz.f132 []
abbrev zz3:=fr 133 Tryz.f133 []
abbrev zxu:=fr 134 Tryz.f134 []
abbrev zFn:=fr 135 Tryz.f135 []
abbrev zy8:=fr 136 Tryz.f136 []
abbrev zvu:=fr 137 Tryz.f137 []
abbrev zst:=fr 138 Tryz.f138 []
abbrev zDZ:=fr 139 Tryz.f139 []
abbrev zsr:=fr 140 Tryz.f140 []
abbrev zD0:=fr 141 Tryz.f141 []
abbrev zwi:=fr 142 Tryz.f142 [(1000,⟨0,0,[],false⟩),(900,⟨0,0,[],false⟩),(901,⟨0,0,[],false⟩),(902,⟨0,0,[],false⟩)]
abbrev ziH:=fr 143 Tryz.f143 []
abbrev zwj:=fr 144 Tryz.f144 []
abbrev ztk:=fr 145 Tryz.f145 [(1000,⟨0,0,[],false⟩),(900,⟨0,0,[],false⟩),(901,⟨0,0,[],false⟩),(902,⟨0,0,[],false⟩)]
abbrev zsq:=fr 146 Tryz.f146 []
abbrev zcS:=fr 151 Tryz.f151 []
abbrev zqZ:=fr 152 Tryz.f152 []
abbrev zIs:=fr 153 Tryz.f153 []
abbrev R_ref24_in:=fr 154 Tryz.f154 []
abbrev zuq:=fr 155 Tryz.f155 []
abbrev zGM:=fr 156 Tryz.f156 []
abbrev zBl:=fr 157 Tryz.f157 []
abbrev zIr:=fr 158 Tryz.f158 []
abbrev zu3:=fr 159 Tryz.f159 []
abbrev zwl:=fr 160 Tryz.f160 []
abbrev zCe:=fr 161 Tryz.f161 []
abbrev zGG:=fr 172 Tryz.f172 []
abbrev zGI:=fr 173 Tryz.f173 []
abbrev zCa:=fr 174 Tryz.f174 []
abbrev zIq:=fr 175 Tryz.f175 []
abbrev ztA:=fr 177 Tryz.f177 []
abbrev zwo:=fr 178 Tryz.f178 []
abbrev zy4:=fr 179 Tryz.f179 []
abbrev zjg:=fr 180 Tryz.f180 []
abbrev zyf:=fr 181 Tryz.f181 []
abbrev zvs:=fr 182 Tryz.f182 []
abbrev zus:=fr 183 Tryz.f183 []
abbrev zGO:=fr 184 Tryz.f184 []
abbrev zFr:=fr 185 Tryz.f185 []
abbrev zuo:=fr 186 Tryz.f186 []
abbrev zDY:=fr 187 Tryz.f187 []
abbrev zCj:=fr 188 Tryz.f188 []
abbrev zq2:=fr 189 Tryz.f189 []
abbrev zy2:=fr 190 Tryz.f190 []
abbrev zy3:=fr 191 Tryz.f191 []
abbrev zhW:=fr 192 Tryz.f192 [(1000,⟨0,0,[],false⟩),(900,⟨0,0,[],false⟩),(901,⟨0,0,[],false⟩),(902,⟨0,0,[],false⟩)]
abbrev zBC:=fr 210 Tryz.f210 []
abbrev zmM:=fr 211 Tryz.f211 []
abbrev zxy:=fr 212 Tryz.f212 []
abbrev zCl:=fr 213 Tryz.f213 []
abbrev zFq:=fr 214 Tryz.f214 []
abbrev zD1:=fr 215 Tryz.f215 []
abbrev zEF:=fr 216 Tryz.f216 []
abbrev R_ref28_in:=fr 217 Tryz.f217 []
abbrev zCg:=fr 218 Tryz.f218 []
abbrev zJ7:=fr 219 Tryz.f219 []
abbrev zBj:=fr 220 Tryz.f220 []
abbrev zBF:=fr 226 Tryz.f226 []
abbrev zfJ:=fr 235 Tryz.f235 []
abbrev zFi:=fr 236 Tryz.f236 []
abbrev zxt:=fr 237 Tryz.f237 []
abbrev zvN:=fr 238 Tryz.f238 []
abbrev zBg:=fr 239 Tryz.f239 []
abbrev zFo:=fr 240 Tryz.f240 []
abbrev zCk:=fr 241 Tryz.f241 []
abbrev zCc:=fr 242 Tryz.f242 []
abbrev zCb:=fr 243 Tryz.f243 []
abbrev zGL:=fr 244 Tryz.f244 []
abbrev zcF:=fr 245 Tryz.f245 []
abbrev zvv:=fr 246 Tryz.f246 []
abbrev zpw:=fr 253 Tryz.f253 []
abbrev zsp:=fr 254 Tryz.f254 []
abbrev zun:=fr 255 Tryz.f255 []
abbrev zLe:=fr 256 Tryz.f256 []
abbrev zy1:=fr 258 Tryz.f258 []
abbrev zq3:=fr 262 Tryz.f262 []
abbrev zz4:=fr 263 Tryz.f263 []
abbrev zq0:=fr 266 Tryz.f266 []
abbrev zBD:=fr 267 Tryz.f267 []
abbrev zuk:=fr 268 Tryz.f268 []
abbrev zLb:=fr 271 Tryz.f271 []
abbrev zup:=fr 127 Tryz.f127 []
abbrev cw[Dr]:zcO:=callw Tryz.prog zC zA
abbrev zP:Program:=Tryz.prog
def ke_3(x y:Int):keyEq zP 3 (I x) (I y)=some (decide (y=x)):=by
 have h:keyEq zP 3 (I x) (I y)=some (x==y):=by kernel_rfl
 rw[h];exact congrArg some (by rw[Bool.beq_eq_decide_eq];exact decide_eq_decide.2 eq_comm)
def zlX{β:Type}(z:Bool)(key:Int)(l:aS)(k:Bool->Bool->Option β):mapD zP 3 false dBool (B z) (mM l) (I key) k=k ((mfind key l).getD z) (mfind key l).isSome:=
 zmW (agg:=false) (D:=dBool) (kenc:=λx=>I x) (venc:=λx=>B x) ke_3 (show∀x:Bool,avDec false dBool (B x)=some x from λx=>dBool.de x) z key l k
def zl0{β:Type}(key:Int)(v:Bool)(l:aS)(k:List (List AV)->Option β):msetD zP 3 4 (I key) (B v) (mM l) k=k (mM (mput key v l)):=
 zka (kenc:=λx=>I x) (venc:=λx=>B x) ke_3 key v l k
def zwW{β:Type}(z:Int)(key:Int)(l:aJ)(k:Int->Bool->Option β):mapD zP 3 false zbm (I z) (mK l) (I key) k=k ((mfind key l).getD z) (mfind key l).isSome:=
 zmW (agg:=false) (D:=zbm) (kenc:=λx=>I x) (venc:=λx=>I x) ke_3 (show∀x:Int,avDec false zbm (I x)=some x from λx=>zbm.de x) z key l k
def zMu{β:Type}(key:Int)(v:Int)(l:aJ)(k:List (List AV)->Option β):msetD zP 3 3 (I key) (I v) (mK l) k=k (mK (mput key v l)):=
 zka (kenc:=λx=>I x) (venc:=λx=>I x) ke_3 key v l k
def zod{β:Type}(z:zaJ)(key:Int)(l:List (Int×zaJ))(k:zaJ->Bool->Option β):mapD zP 3 true zgd (.agg (zaT z)) (sA l) (I key) k=k ((mfind key l).getD z) (mfind key l).isSome:=
 zmW (agg:=true) (D:=zgd) (kenc:=λx=>I x) (venc:=λx=>.agg (zaT x)) ke_3 (show∀x:zaJ,avDec true zgd (.agg (zaT x))=some x from λx=>zgd.de x) z key l k
def zA7{β:Type}(key:Int)(v:zaJ)(l:List (Int×zaJ))(k:List (List AV)->Option β):msetD zP 3 54 (I key) (.agg (zaT v)) (sA l) k=k (sA (mput key v l)):=
 zka (kenc:=λx=>I x) (venc:=λx=>.agg (zaT x)) ke_3 key v l k
def ke_137(x y:Int×Int):keyEq zP 137 (.agg (zcd x)) (.agg (zcd y))=some (decide (y=x)):=by
 have h1:eqV zP 20 137 [(.int .i64 x.1:Value),(.int .i64 x.2:Value)] [(.int .i64 y.1:Value),(.int .i64 y.2:Value)]=some (x.1==y.1&&(x.2==y.2&&true)):=by kernel_rfl
 have h2:bitsL [(.int .i64 x.1:Value),(.int .i64 x.2:Value)] [(.int .i64 y.1:Value),(.int .i64 y.2:Value)]=some (x.1==y.1&&(x.2==y.2&&true)):=by kernel_rfl
 have h:keyEq zP 137 (.agg (zcd x)) (.agg (zcd y))=agree (eqV zP 20 137 [(.int .i64 x.1:Value),(.int .i64 x.2:Value)] [(.int .i64 y.1:Value),(.int .i64 y.2:Value)]) (bitsL [(.int .i64 x.1:Value),(.int .i64 x.2:Value)] [(.int .i64 y.1:Value),(.int .i64 y.2:Value)]):=by kernel_rfl
 rw[h,h1,h2];have ha:∀b:Bool,agree (some b) (some b)=some b:=λb=>by simp[agree]
 rw[ha];refine congrArg some ?_;by_cases e:y=x
 .rw[decide_eq_true e,e];simp
 .rw[decide_eq_false e,Bool.eq_false_iff];intro q;simp only[zY,and_true]at q;refine e (zgV.inj ?_);show[I (y.1),I (y.2)]=[I (x.1),I (x.2)];simp only[q]
def zyL{β:Type}(z:zan)(key:Int×Int)(l:ac)(k:zan->Bool->Option β):mapD zP 137 true zb4 (.agg (zai z)) (mR l) (.agg (zcd key)) k=k ((mfind key l).getD z) (mfind key l).isSome:=
 zmW (agg:=true) (D:=zb4) (kenc:=λx=>.agg (zcd x)) (venc:=λx=>.agg (zai x)) ke_137 (show∀x:zan,avDec true zb4 (.agg (zai x))=some x from λx=>zb4.de x) z key l k
def zyQ{β:Type}(key:Int×Int)(v:zan)(l:ac)(k:List (List AV)->Option β):msetD zP 137 62 (.agg (zcd key)) (.agg (zai v)) (mR l) k=k (mR (mput key v l)):=
 zka (kenc:=λx=>.agg (zcd x)) (venc:=λx=>.agg (zai x)) ke_137 key v l k
def zwV{β:Type}(z:Bool)(key:Int×Int)(l:aX)(k:Bool->Bool->Option β):mapD zP 137 false dBool (B z) (mP l) (.agg (zcd key)) k=k ((mfind key l).getD z) (mfind key l).isSome:=
 zmW (agg:=false) (D:=dBool) (kenc:=λx=>.agg (zcd x)) (venc:=λx=>B x) ke_137 (show∀x:Bool,avDec false dBool (B x)=some x from λx=>dBool.de x) z key l k
def zw5{β:Type}(key:Int×Int)(v:Bool)(l:aX)(k:List (List AV)->Option β):msetD zP 137 4 (.agg (zcd key)) (B v) (mP l) k=k (mP (mput key v l)):=
 zka (kenc:=λx=>.agg (zcd x)) (venc:=λx=>B x) ke_137 key v l k
def ke_181(x y:za1):keyEq zP 181 (.agg (zcM x)) (.agg (zcM y))=some (decide (y=x)):=by
 have h1:eqV zP 20 181 [(.int .i64 x.script:Value),(.int .i64 x.xc:Value)] [(.int .i64 y.script:Value),(.int .i64 y.xc:Value)]=some (x.script==y.script&&(x.xc==y.xc&&true)):=by kernel_rfl
 have h2:bitsL [(.int .i64 x.script:Value),(.int .i64 x.xc:Value)] [(.int .i64 y.script:Value),(.int .i64 y.xc:Value)]=some (x.script==y.script&&(x.xc==y.xc&&true)):=by kernel_rfl
 have h:keyEq zP 181 (.agg (zcM x)) (.agg (zcM y))=agree (eqV zP 20 181 [(.int .i64 x.script:Value),(.int .i64 x.xc:Value)] [(.int .i64 y.script:Value),(.int .i64 y.xc:Value)]) (bitsL [(.int .i64 x.script:Value),(.int .i64 x.xc:Value)] [(.int .i64 y.script:Value),(.int .i64 y.xc:Value)]):=by kernel_rfl
 rw[h,h1,h2];have ha:∀b:Bool,agree (some b) (some b)=some b:=λb=>by simp[agree]
 rw[ha];refine congrArg some ?_;by_cases e:y=x
 .rw[decide_eq_true e,e];simp
 .rw[decide_eq_false e,Bool.eq_false_iff];intro q;simp only[zY,and_true]at q;refine e (zgo.inj ?_);show[I (y.script),I (y.xc)]=[I (x.script),I (x.xc)];simp only[q]
def zm4{β:Type}(z:zbf)(key:za1)(l:aZ)(k:zbf->Bool->Option β):mapD zP 181 true zr2 (.agg (zcc z)) (mL l) (.agg (zcM key)) k=k ((mfind key l).getD z) (mfind key l).isSome:=
 zmW (agg:=true) (D:=zr2) (kenc:=λx=>.agg (zcM x)) (venc:=λx=>.agg (zcc x)) ke_181 (show∀x:zbf,avDec true zr2 (.agg (zcc x))=some x from λx=>zr2.de x) z key l k
def ztg{β:Type}(key:za1)(v:zbf)(l:aZ)(k:List (List AV)->Option β):msetD zP 181 60 (.agg (zcM key)) (.agg (zcc v)) (mL l) k=k (mL (mput key v l)):=
 zka (kenc:=λx=>.agg (zcM x)) (venc:=λx=>.agg (zcc x)) ke_181 key v l k
def zqL{β:Type}(z:Int)(key:za1)(l:ae)(k:Int->Bool->Option β):mapD zP 181 false zbm (I z) (mN l) (.agg (zcM key)) k=k ((mfind key l).getD z) (mfind key l).isSome:=
 zmW (agg:=false) (D:=zbm) (kenc:=λx=>.agg (zcM x)) (venc:=λx=>I x) ke_181 (show∀x:Int,avDec false zbm (I x)=some x from λx=>zbm.de x) z key l k
def zxo{β:Type}(key:za1)(v:Int)(l:ae)(k:List (List AV)->Option β):msetD zP 181 3 (.agg (zcM key)) (I v) (mN l) k=k (mN (mput key v l)):=
 zka (kenc:=λx=>.agg (zcM x)) (venc:=λx=>I x) ke_181 key v l k
def zrd{β:Type}(key:za1)(v:zad)(l:List (za1×zad))(k:List (List AV)->Option β):msetD zP 181 85 (.agg (zcM key)) (.agg (zab v)) (sB l) k=k (sB (mput key v l)):=
 zka (kenc:=λx=>.agg (zcM x)) (venc:=λx=>.agg (zab x)) ke_181 key v l k
def zxK{β:Type}(z:Int)(key:Int×Int)(l:List ((Int×Int)×Int))(k:Int->Bool->Option β):mapD zP 137 false zbm (I z) (mZ l) (.agg (zcd key)) k=k ((mfind key l).getD z) (mfind key l).isSome:=
 zmW (agg:=false) (D:=zbm) (kenc:=λx=>.agg (zcd x)) (venc:=λx=>I x) ke_137 (show∀x:Int,avDec false zbm (I x)=some x from λx=>zbm.de x) z key l k
def zIi{β:Type}(key:Int×Int)(v:Int)(l:List ((Int×Int)×Int))(k:List (List AV)->Option β):msetD zP 137 3 (.agg (zcd key)) (I v) (mZ l) k=k (mZ (mput key v l)):=
 zka (kenc:=λx=>.agg (zcd x)) (venc:=λx=>I x) ke_137 key v l k
def zpm{β:Type}(z:zb7)(key:Int×Int)(l:List ((Int×Int)×zb7))(k:zb7->Bool->Option β):mapD zP 137 true zhy (.agg (zc7 z)) (mY l) (.agg (zcd key)) k=k ((mfind key l).getD z) (mfind key l).isSome:=
 zmW (agg:=true) (D:=zhy) (kenc:=λx=>.agg (zcd x)) (venc:=λx=>.agg (zc7 x)) ke_137 (show∀x:zb7,avDec true zhy (.agg (zc7 x))=some x from λx=>zhy.de x) z key l k
def zf9{β:Type}(key:Int×Int)(v:zb7)(l:List ((Int×Int)×zb7))(k:List (List AV)->Option β):msetD zP 137 209 (.agg (zcd key)) (.agg (zc7 v)) (mY l) k=k (mY (mput key v l)):=
 zka (kenc:=λx=>.agg (zcd x)) (venc:=λx=>.agg (zc7 x)) ke_137 key v l k
def zra{β:Type}(z:List zcj)(key:Int)(l:List (Int×(List zcj)))(k:(List zcj)->Bool->Option β):mapD zP 3 false zjz (.sl 2 (mQ z)) (mW l) (I key) k=k ((mfind key l).getD z) (mfind key l).isSome:=
 zmW (agg:=false) (D:=zjz) (kenc:=λx=>I x) (venc:=λx=>.sl 2 (mQ x)) ke_3 (show∀x:List zcj,avDec false zjz (.sl 2 (mQ x))=some x from λx=>zjz.de x) z key l k
def zyR{β:Type}(key:Int)(v:List zcj)(l:List (Int×(List zcj)))(k:List (List AV)->Option β):msetD zP 3 240 (I key) (.sl 2 (mQ v)) (mW l) k=k (mW (mput key v l)):=
 zka (kenc:=λx=>I x) (venc:=λx=>.sl 2 (mQ x)) ke_3 key v l k
@[simp] def zas{β:Type} (v) (k:_->Option β):callD zag (some (zat v)) k=k v:=zb1 k
@[simp] def zHl{β:Type} (v) (k:_->Option β):callD zuj (some (zyN v)) k=k v:=zb1 k
@[simp] def zzl{β:Type} (v) (k:_->Option β):callD zni (some (znh v)) k=k v:=zb1 k
@[simp] def zsx{β:Type} (v) (k:_->Option β):callD zjK (some (zhs v)) k=k v:=zb1 k
@[simp] def zxk{β:Type} (v) (k:_->Option β):callD zlM (some (zlJ v)) k=k v:=zb1 k
@[simp] def zvc{β:Type} (v) (k:_->Option β):callD zj1 (some (zm0 v)) k=k v:=zb1 k
@[simp] def zAr{β:Type} (v) (k:_->Option β):callD zoi (some (zrS v)) k=k v:=zb1 k
@[simp] def ze7{β:Type} (v) (k:_->Option β):callD zde (some (zcW v)) k=k v:=zb1 k
@[simp] def zhm{β:Type} (v) (k:_->Option β):callD zgN (some (znA v)) k=k v:=zb1 k
@[simp] def zfZ{β:Type} (v) (k:_->Option β):callD zeP (some (zeO v)) k=k v:=zb1 k
@[simp] def zgs{β:Type} (v) (k:_->Option β):callD zeY (some (zeW v)) k=k v:=zb1 k
@[simp] def znT{β:Type} (v) (k:_->Option β):callD zkd (some (znz v)) k=k v:=zb1 k
@[simp] def zhf{β:Type} (v) (k:_->Option β):callD zeE (some (zdw v)) k=k v:=zb1 k
@[simp] def zoV{β:Type} (v) (k:_->Option β):callD zhc (some (zku v)) k=k v:=zb1 k
@[simp] def zgU{β:Type} (v) (k:_->Option β):callD zfk (some (zeD v)) k=k v:=zb1 k
@[simp] def za7{β:Type} (v) (k:_->Option β):callD zaV (some (zbv v)) k=k v:=zb1 k
@[simp] def zf0{β:Type} (v) (k:_->Option β):callD zeR (some (ziA v)) k=k v:=zb1 k
@[simp] def zCR{β:Type} (v) (k:_->Option β):callD ziB (some (zt6 v)) k=k v:=zb1 k
@[simp] def zMX{β:Type} (v) (k:_->Option β):callD zmF (some (zkb v)) k=k v:=zb1 k
@[simp] def zMx{β:Type} (v) (k:_->Option β):callD zlN (some (zlK v)) k=k v:=zb1 k
@[simp] def zMz{β:Type} (v) (k:_->Option β):callD zlP (some (zlL v)) k=k v:=zb1 k
@[simp] def zMy{β:Type} (v) (k:_->Option β):callD zlO (some (zo3 v)) k=k v:=zb1 k
@[simp] def zeg{β:Type} (v) (k:_->Option β):callD ze2 (some (zrQ v)) k=k v:=zb1 k
@[simp] def zAs{β:Type} (v) (k:_->Option β):callD zoj (some (zog v)) k=k v:=zb1 k
@[simp] def znS{β:Type} (v) (k:_->Option β):callD znB (some (zs1 v)) k=k v:=zb1 k
@[simp] def zbD{β:Type} (v) (k:_->Option β):callD zbn (some (zof v)) k=k v:=zb1 k
@[simp] def zAq{β:Type} (v) (k:_->Option β):callD zoh (some (zrR v)) k=k v:=zb1 k
@[simp] def zkT{β:Type} (v) (k:_->Option β):callD zhh (some (znx v)) k=k v:=zb1 k
@[simp] def zCS{β:Type} (v) (k:_->Option β):callD zqC (some (zt7 v)) k=k v:=zb1 k
@[simp] def zi5{β:Type} (v) (k:_->Option β):callD zgM (some (zjd v)) k=k v:=zb1 k
@[simp] def zi8{β:Type} (v) (k:_->Option β):callD zeZ (some (zeX v)) k=k v:=zb1 k
@[simp] def zhS{β:Type} (v) (k:_->Option β):callD zew (some (zdp v)) k=k v:=zb1 k
@[simp] def zkS{β:Type} (v) (k:_->Option β):callD zgH (some (zjJ v)) k=k v:=zb1 k
@[simp] def zxH{β:Type} (v) (k:_->Option β):callD zoR (some (zoQ v)) k=k v:=zb1 k
@[simp] def zsy{β:Type} (v) (k:_->Option β):callD zk7 (some (zjY v)) k=k v:=zb1 k
@[simp] def zm6{β:Type} (v) (k:_->Option β):callD zfl (some (zfj v)) k=k v:=zb1 k
@[simp] def zj4{β:Type} (v) (k:_->Option β):callD zhD (some (zlf v)) k=k v:=zb1 k
@[simp] def zpu{β:Type} (v) (k:_->Option β):callD zep (some (zfh v)) k=k v:=zb1 k
@[simp] def zxl{β:Type} (v) (k:_->Option β):callD zlQ (some (zhV v)) k=k v:=zb1 k
@[simp] def zm8{β:Type} (v) (k:_->Option β):callD zjf (some (zkC v)) k=k v:=zb1 k
@[simp] def zr0{β:Type} (v) (k:_->Option β):callD zhP (some (zqW v)) k=k v:=zb1 k
@[simp] def zyp{β:Type} (v) (k:_->Option β):callD zmG (some (zp1 v)) k=k v:=zb1 k
@[simp] def zyq{β:Type} (v) (k:_->Option β):callD zmH (some (zmC v)) k=k v:=zb1 k
@[simp] def zCT{β:Type} (v) (k:_->Option β):callD zqD (some (zny v)) k=k v:=zb1 k
@[simp] def zut{β:Type} (v) (k:_->Option β):callD zjk (some (zfI v)) k=k v:=zb1 k
@[simp] def znF{β:Type} (v) (k:_->Option β):callD zfG (some (zfF v)) k=k v:=zb1 k
@[simp] def ztn{β:Type} (v) (k:_->Option β):callD zmI (some (zmD v)) k=k v:=zb1 k
@[simp] def zgf{β:Type} (v) (k:_->Option β):callD zd0 (some (zje v)) k=k v:=zb1 k
@[simp] def zAv{β:Type} (v) (k:_->Option β):callD zom (some (zlw v)) k=k v:=zb1 k
@[simp] def zin{β:Type} (v) (k:_->Option β):callD zgT (some (zlg v)) k=k v:=zb1 k
@[simp] def zAu{β:Type} (v) (k:_->Option β):callD zol (some (zht v)) k=k v:=zb1 k
@[simp] def zla{β:Type} (v) (k:_->Option β):callD zex (some (zev v)) k=k v:=zb1 k
@[simp] def zkU{β:Type} (v) (k:_->Option β):callD zjL (some (zil v)) k=k v:=zb1 k
@[simp] def zjv{β:Type} (v) (k:_->Option β):callD zeQ (some (zdx v)) k=k v:=zb1 k
@[simp] def zwC{β:Type} (v) (k:_->Option β):callD zk3 (some (zi0 v)) k=k v:=zb1 k
@[simp] def zAt{β:Type} (v) (k:_->Option β):callD zok (some (zlv v)) k=k v:=zb1 k
@[simp] def zEj{β:Type} (v) (k:_->Option β):callD zrx (some (zlY v)) k=k v:=zb1 k
@[simp] def zwD{β:Type} (v) (k:_->Option β):callD znC (some (zp2 v)) k=k v:=zb1 k
@[simp] def zq6{β:Type} (v) (k:_->Option β):callD zkc (some (zmE v)) k=k v:=zb1 k
@[simp] def zuu{β:Type} (v) (k:_->Option β):callD zlh (some (zgm v)) k=k v:=zb1 k
@[simp] def zvb{β:Type} (v) (k:_->Option β):callD zj0 (some (zh5 v)) k=k v:=zb1 k
@[simp] def ztF{β:Type} (v) (k:_->Option β):callD zi1 (some (zlx v)) k=k v:=zb1 k
@[simp] def zva{β:Type} (v) (k:_->Option β):callD zjZ (some (zjX v)) k=k v:=zb1 k
@[simp] def zFR{β:Type} (v) (k:_->Option β):callD zs2 (some (zw3 v)) k=k v:=zb1 k
@[simp] def zyr{β:Type} (v) (k:_->Option β):callD zmJ (some (zgy v)) k=k v:=zb1 k
abbrev Qq(a b:Option (AV×Mem)):Prop:=∀{y},a=some y->b=some y
def ptT[Dr](cut:aF){R:Fr}{j:Nat}{st:St}{x:Option (AV×Mem)} {y} (hx:tGo R zT cut 100000 (decide (j≠0)) (ptS R.fn j) st=x:=by kernel_rfl) (h:x=some y):pt R j st=some y:=pt_of zT cut hx h
def cwT[Dr](R:Fr)(cut:aF){args:aH}{ms:Mem}{x:Option (AV×Mem)} {y} (ho:R.C.orc R.f args ms=none:=by rfl) (hf:R.P.funcs[R.f]?=some R.fn:=by kernel_rfl) (he:enters R.P R.f=true:=by kernel_rfl) (hN:decide (R.fn.ntmps<=1000/\args.length<=R.fn.ntmps)=true:=by kernel_rfl) (hm:R.ms=Go.Ab.blank ms:=by kernel_rfl) (hx:tGo R zT cut 100000 false (ptK R.fn 0) { t:=argTab 0 args,m:=ms }=x:=by kernel_rfl) (h:x=some y):callw R.P R.C R.F R.f args ms=some y:=callw_tree R zT cut ho hf he hN hm hx h
abbrev mS:=List.map nDp
abbrev pI:=λx=>(⟨9,35,[zap x],true⟩:Ent)
abbrev pJ:=λx=>(⟨2,92,[zaL x],true⟩:Ent)
abbrev pK:=λx=>(⟨2,54,[zaT x],true⟩:Ent)
abbrev pL:=λx=>(⟨3,42,[zaK x],true⟩:Ent)
abbrev pM:=λx=>(⟨9,85,[zab x],true⟩:Ent)
abbrev pN:=λx=>(⟨6,62,[zai x],true⟩:Ent)
abbrev pO:=λx=>(⟨2,45,[zbt x],true⟩:Ent)
abbrev pP:=λx=>(⟨2,175,[zdR x],true⟩:Ent)
abbrev pQ:=λx=>(⟨3,60,[zcc x],true⟩:Ent)
abbrev pR:=λx=>(⟨3,104,[zaU x],true⟩:Ent)
abbrev pS:=λx=>(⟨2,159,[zbI x],true⟩:Ent)
abbrev pT:=λx=>(⟨2,137,[zcd x],true⟩:Ent)
abbrev pU:=λx=>(⟨2,100,[zcL x],true⟩:Ent)
abbrev pV:=λx=>(⟨7,89,[za0 x],true⟩:Ent)
abbrev pW:=λx=>(⟨2,209,[zc7 x],true⟩:Ent)
abbrev pX:=λx=>(⟨5,65,[zbl x],true⟩:Ent)
abbrev pY:=λx=>(⟨4,33,[zca x],true⟩:Ent)
abbrev pZ:=λx=>(⟨8,70,[zaE x],true⟩:Ent)
abbrev gA:=λx=>(⟨12,147,x,false⟩:Ent)
abbrev gB:=λx=>(⟨9,85,x,false⟩:Ent)
abbrev gC:=λx=>(⟨1,221,x,false⟩:Ent)
abbrev gD:=λx=>(⟨0,114,x,false⟩:Ent)
abbrev gE:=λx=>(⟨0,168,x,false⟩:Ent)
abbrev gF:=λx=>(⟨8,70,x,false⟩:Ent)
abbrev gG:=λx=>(⟨1,3,x,false⟩:Ent)
abbrev gH:=λx=>(⟨0,68,x,false⟩:Ent)
abbrev gI:=λx=>(⟨0,136,x,false⟩:Ent)
abbrev gJ:=λx=>(⟨10,229,x,false⟩:Ent)
abbrev gK:=λx=>(⟨0,173,x,false⟩:Ent)
abbrev gL:=λx=>(⟨1,4,x,false⟩:Ent)
abbrev gM:=λx=>(⟨6,62,x,false⟩:Ent)
abbrev gN:=λx=>(⟨0,135,x,false⟩:Ent)
abbrev gO:=λx=>(⟨0,239,x,false⟩:Ent)
abbrev gP:=λx=>(⟨0,206,x,false⟩:Ent)
abbrev bI:Ent:=⟨2,54,[[bH,bH]],true⟩
end Go.Proofs.YtlecnobdfhlmnaaGreat
end
