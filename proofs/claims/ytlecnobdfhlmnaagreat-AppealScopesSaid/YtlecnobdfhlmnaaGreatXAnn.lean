/- Annotations of the seat's functions: what lives behind each region, which slots own rows, which arguments are written; how results read. -/
import Derived.Test.YtlecnobdfhlmnaaGreatXTy
import Derived.Test.YtlecnobdfhlmnaaGreatProg
import Derived.Test.YtlecnobdfhlmnaaGreatXSp
set_option linter.unusedSimpArgs false
set_option linter.unusedVariables false
set_option linter.unusedSectionVars false
noncomputable section
namespace Go.Proofs.YtlecnobdfhlmnaaGreat
open Go.Ab
abbrev LL:=List (List AV)
def zC:Cfg:={ wrt:=atReg [(11,[0]),(12,[0]),(13,[0]),(14,[0]),(15,[0]),(16,[0]),(24,[0]),(42,[0]),(43,[0]),(44,[0]),(45,[0]),(46,[0]),(47,[0]),(49,[0]),(50,[0]),(51,[0]),(54,[0]),(55,[1]),(68,[100]),(69,[0]),(75,[0]),(86,[0]),(87,[0]),(88,[0]),(97,[0]),(127,[0]),(128,[0])],orc:=zOrc,dp:=λf=>(atReg [(192,[0]),(142,[0]),(145,[0])] f).head?,raw:=λf=>[148].contains f }
def zrN:zay->Mem:=λx=>[(1000,⟨14,zb0,[[I x.level,.row 900 10 0 (List.map zff.enc x.marks).length,I x.period,I x.started.Time,I x.started.Source,I x.started.Seq,.map 901,.sl 1 (List.map dBool.enc x.watch.Last),B x.watch.Suspended,I x.good.Time,I x.good.Source,I x.good.Seq,B x.some,.row 902 12 0 (List.map zdJ.enc x.suspensions).length]],true⟩),(900,⟨10,229,List.map zff.enc x.marks,false⟩),(901,⟨0,173,List.map zfV.enc x.noted,false⟩),(902,⟨12,147,List.map zdJ.enc x.suspensions,false⟩)]
abbrev zn7:MD:=⟨zay,zrN,by
 intro x y h;simp only[zrN,zax,zav,Ent.mk.injEq,AV.v.injEq,AV.row.injEq,AV.sl.injEq,Value.int.injEq,Value.bool.injEq,Value.string.injEq,true_and,and_true,and_assoc,TyD.minj dBool,TyD.minj zfV,TyD.minj zdJ,TyD.minj zff]at h
 exact(zay.eqOf (h.1) (h.2.2.2.2.2.2.2.2.2.2.2.2.2.1) (h.2.2.1) (za6.eqOf (h.2.2.2.1) (h.2.2.2.2.1) (h.2.2.2.2.2.1)) (h.2.2.2.2.2.2.2.2.2.2.2.2.2.2.1) (zbZ.eqOf (h.2.2.2.2.2.2.1) (h.2.2.2.2.2.2.2.1)) (za6.eqOf (h.2.2.2.2.2.2.2.2.1) (h.2.2.2.2.2.2.2.2.2.1) (h.2.2.2.2.2.2.2.2.2.2.1)) (h.2.2.2.2.2.2.2.2.2.2.2.1) (h.2.2.2.2.2.2.2.2.2.2.2.2.2.2.2))⟩
def anK(l:List Nat)(v:List (List Nat))(o:List (Nat×List (Nat×Nat×TypeId))):Ann:={ lits:=l,live:=λi=>v[i]?,own:=atReg o }
def anT(x:Nat):List Nat->List Nat
 |[]=>[x]
 |y::r=>bif Nat.blt x y then x::y::r else bif Nat.beq x y then r else y::anT x r
def anL:List Nat->List (List Nat)->List (List Nat)
 |_,[]=>[]
 |p,d::r=>d.foldl (λa x=>anT x a) p::anL (d.foldl (λa x=>anT x a) p) r
def anD(l:List Nat)(v:List (List Nat))(o:List (Nat×List (Nat×Nat×TypeId))):Ann:=anK l (anL [] v) o
def zxS:Ann:=anD [] [[0],[35],[0,2,35],[2,3],[4],[5],[6],[3,7,8],[8,9,10],[11,12],[5,13,14],[6,15,16],[10,12,14,16,96],[2,4,7,9,11,13,15,96],[2,4,7,9,11,13,15,97,98,99],[100],[18,100],[19],[103,104,105],[106],[21,106],[112,113,114],[115],[23,115],[23],[],[21,112,113,114],[18,19,103,104,105,132],[2,4,7,9,11,13,15,97,98,99,132],[2,4,7,9,11,13,15,97,98,99],[11,15,97,98,99,134,135,136],[137],[25,137],[26,27],[28],[149,150,151],[152],[30,152],[155,156,157],[158],[32,158],[170],[32,170],[],[30,155,156,157],[25,26,27,28,149,150,151,188],[2,4,7,9,13,134,135,136,188],[2,4,7,9,13,134,135,136],[2,4,7,9,13,134,135,136]] [(5,[(5,9,85)])]
def zzl:Ann:={ anD [] [[0],[21],[0,2,21],[2,3],[4],[5],[6],[7],[8],[41],[41],[],[8],[9,10],[11,12],[3,4,5,9,10,13,14],[6,15,16],[7,17,18],[2,11,12,13,14,15,16,17,18]] [(5,[(5,9,85)]),(7,[(7,6,62)]),(11,[(7,6,62)]),(12,[(7,6,62)])]with fz:=atReg [(1015,[7])] }
def zw1:Ann:={ anD [58] [[0],[20],[0,2,20],[2,3],[4],[5],[3,6,7],[8,9],[4,5,6,10,11],[7,9,11,70],[2,8,10,70],[2,8,10,12,13],[72,73,74],[75],[15,75],[80],[15,80],[],[72,73,74,87,88,89],[90],[17,90],[95],[17,95],[],[2,8,10,12,13,87,88,89]] [(5,[(5,9,85)]),(11,[(12,8,70),(13,8,70)]),(16,[(12,8,70)]),(22,[(13,8,70)])]with fz:=atReg [(1006,[5])] }
def zzk:Ann:=anD [] [[0,1,3,6],[46],[0,1,3,6,8,46],[1,3,6,8,9],[10],[11],[12],[9,13,14],[15],[17],[1,12,79,80],[81],[19,81],[20,21],[22,23],[20,21,22,23,123],[3,6,8,10,11,13,14,15,17,19,79,80,123],[3,6,8,10,11,13,14,15,17,19,79,80,125,126],[127],[24,127],[24,157],[3,6,8,10,11,13,14,15,17,19,79,80,125,126,157],[3,6,8,10,11,13,14,15,17,19,79,80,125,126],[19,125,126],[3,6,13,15,79,80,162,163],[164],[26,164],[170],[8,10,11,14,17,26,162,163,170],[8,10,11,14,17,26,27,28,162,163],[29,30],[31,32],[33,34],[35,36],[26,37,38],[27,28,29,30,31,32,33,34,35,36,37,38,253],[8,10,11,14,17,162,163,253],[8,10,11,14,17,162,163],[8,10,11,14,17,162,163]] [(5,[(11,9,85)]),(9,[(17,6,62)])]
def zxT:Ann:=anD [] [[0],[43],[0,2,43],[2,3],[4],[5],[6],[3,7,8],[9,10],[11,12],[13,14],[13,15,16],[5,7,8,17,18],[6,19,20],[10,12,14,16,17,18,20,134],[2,4,9,11,15,19,134],[2,4,9,11,15,19,135,136,137],[138],[21,22,138],[24],[21,24,176],[2,4,9,11,15,19,22,135,136,137,176],[2,4,9,11,15,19,22,25,135,136,137],[177,178,179],[180],[27,180],[27,186,187,188],[189],[29,189],[29],[],[186,187,188],[177,178,179,202,203,204],[205],[31,205],[208,209,210],[211],[33,211],[33],[],[31,208,209,210],[22,25,202,203,204,231],[2,4,9,11,15,19,135,136,137,231],[2,4,9,11,15,19,135,136,137],[15,19,135,136,137,233,234,235],[236],[35,236],[242,243,244],[245],[37,245],[38],[248,249,250],[251],[40,251],[40],[],[37,38,248,249,250,272],[2,4,9,11,35,233,234,235,242,243,244,272],[2,4,9,11,35,233,234,235,242,243,244],[35,242,243,244],[2,4,9,11,233,234,235]] [(5,[(5,9,85)])]
def zhd:Ann:=anK [] [[0],[2]] []
def zIv:Ann:=anD [] [[],[1],[2,3],[4],[1,5],[6],[0,2,3,4,5,6]] []
def zBG:Ann:={ anD [] [[0,2],[3,4],[4,5],[6],[26],[26],[30],[30],[0,3,5,6]] []with cel:=λ_=>[(5,4,900,2,100)] }
def zC2:Ann:=anD [] [[0,2,4],[7],[8],[17],[17],[9],[10],[32],[32],[11],[39],[39],[53],[12,53],[12],[0,2,4,6,7,8,9,10,11]] [(1,[(7,9,85)]),(14,[(7,9,85)])]
def zzY:Ann:=anD [] [[0,2,4],[7],[8],[13],[13],[9],[22],[9,22],[9,22,31],[9,22,31],[9,22,50],[22,50,55],[9,55],[9,22,76],[9,22,76,80],[80],[9,91],[9,91,95],[10,95],[],[10],[0,2,4,6,7,8]] [(1,[(7,9,85)]),(7,[(7,9,85)]),(9,[(7,9,85)]),(12,[(7,9,85)]),(15,[(7,9,85)]),(20,[(7,9,85)])]
def zzm:Ann:={ anD [] [[0,2,4],[7],[8],[12],[12],[9],[25],[25],[],[9],[47],[47],[0,2,4,6,7,8]] [(1,[(7,6,62)]),(9,[(7,6,62)]),(11,[(7,6,62)])]with frz:=true }
def zpA:Ann:=anK [] [[0,2],[2]] []
def zCZ:Ann:={ anD [] [[3,4,5,6,7],[43],[3,4,5,6,7,10,11,43],[3,5,6,7,10,11,12,13],[50],[3,5,6,7,10,11,12,13,50],[3,5,6,7,10,11,12,14],[12,53,54,55],[56],[16,56],[61],[61,65,66,67],[68],[18,68],[18],[],[16,65,66,67],[13,19,53,54,55],[89],[3,5,6,7,10,11,13,14,19,89],[3,5,6,7,10,11,14,19,20],[21],[94,95,96],[97],[23,97],[24],[26],[26,110],[27,28,110],[120],[3,5,6,7,10,11,14,19,20,21,23,24,27,28,94,95,96,120],[3,5,6,7,10,11,14,19,20,21,23,24,94,95,96],[24,29,30],[137],[3,5,6,7,10,11,14,19,20,21,23,29,30,94,95,96,137],[3,5,6,7,10,11,14,19,20,21,23,94,95,96,142],[23,142],[],[3,5,6,7,10,11,14,19,20,21,94,95,96]] [(21,[(21,1,3)]),(36,[(21,1,3)])]with fz:=atReg [(1017,[14])] }
def zEf:Ann:=anK [] [[2,3,4,5],[2,3,4,5,19],[8,9],[3,4,5,10,11],[3,4,5,10,11,27],[8,9],[8,9]] []
def zID:Ann:={ anD [] [[1,2,4],[18],[1,2,5,18],[2,5,6,7],[26],[2,5,6,7,26],[2,5,6,8],[9,10],[9],[11],[40],[40],[13],[13,75],[14,75],[14],[2,5,6,8,10,11]] []with cel:=λ_=>[(8,0,901,8,70)] }
def zzW:Ann:=anD [] [[0],[4],[5],[0,16,17,18],[19],[7,19],[24],[8,24],[9,10],[10,39],[7,8,9,39],[8,45],[8,45],[],[11,16,17,18],[4,50],[52],[12,13,52],[12,59],[13,59],[5,50,66],[2,3,11,66],[2,3,11],[2,3,11]] [(14,[(11,6,62)]),(19,[(11,6,62)])]
def zFM:Ann:={ anD [] [[3,4,5],[15],[3,4,5,6,15],[3,4,5,6,7],[8],[21],[4,21],[9],[3,28,29,30],[31],[11,31],[12],[12,65],[11,65],[],[5,6,7,8,9,28,29,30]] []with frz:=true }
def zz5:Ann:=anD [] [[0,1,4],[6],[10],[10],[19],[0,1,5,6,19],[]] []
def zBB:Ann:=anD [] [[3,4,5,6,7],[6,12,13],[39],[3,4,5,7,10,11,12,13,39],[3,5,7,10,11,12,13,14],[47],[3,5,7,10,11,12,13,14,47],[3,5,7,10,11,12,13,14,15],[56],[3,5,7,10,11,12,13,14,15,56],[3,5,7,10,11,12,14,15,16],[17],[14,59,60,61],[62],[19,62],[],[73,74,75],[76],[21,76],[21],[],[19,73,74,75],[22,59,60,61],[5,7,12,93,94,95],[96],[24,96],[24,102],[104],[25,104],[110],[25,110],[102],[15,16,17,22,26,93,94,95],[3,28],[126],[10,11,26,28,126],[]] []
def zxU:Ann:={ anD [] [[0,1],[5],[6],[15],[15],[7],[7],[6,8],[39],[39],[43],[43],[0,1,4,5,8]] [(1,[(5,9,85)]),(11,[(5,9,85)])]with frz:=true }
def zC7:Ann:=anK [] [[0,1],[0,1,10],[4],[0,1,5],[0,1,5,14],[0,1,5],[0,1,5,26],[4],[4]] []
def zuD:Ann:=anK [] [[0,1],[0,1,10],[4],[0,1,12,13],[0,1,12,13,14],[0,1,5,12,13],[0,1,12,13,24],[4],[0,1,12,13],[4]] []
def zIF:Ann:=anD [] [[2,3],[22],[2,3,4,22],[2,3,4,5],[27],[27],[40],[2,3,4,5,40],[2,3,4,6],[45],[45],[58],[2,3,4,6,58],[]] []
def zBO:Ann:=anD [] [[0],[4],[5],[12],[12],[6],[7],[26],[26],[79],[79],[6,7,81],[8,81],[99],[99],[],[],[8],[0,5,123],[2,3,4,123],[]] [(1,[(4,6,62)]),(15,[(4,6,62)])]
def zEg:Ann:=anD [] [[1,2,3],[15],[1,2,3,6,15],[1,2,3,6,7],[2,16,17,18],[19],[9,19],[41],[9,41],[],[1,3,6,7,16,17,18]] [(3,[(7,6,62)]),(8,[(7,6,62)])]
def zFX:Ann:=anD [] [[1,2,3],[7],[8],[13],[13],[9],[9,48],[48],[1,2,3,6,7,8]] [(1,[(7,6,62)]),(7,[(7,6,62)])]
def zwZ:Ann:=anK [] [[1],[1,12],[2],[1,14],[1,14,15],[2],[1,30],[2],[2]] []
def zHv:Ann:=anD [] [[3,4,5],[14],[3,4,5,6,14],[3,4,5,6,7],[8],[19],[19],[9],[11],[11,35],[35,66],[9,66],[3,4,5,6,7,8]] [(3,[(7,1,3)]),(11,[(7,1,3)])]
def zwY:Ann:=anK [] [[1],[30],[2],[2]] []
def zEt:Ann:={ anD [50,75] [[3,4,5,6,7],[29],[3,4,5,6,7,10,11,29],[3,5,6,7,10,11,12,13],[36],[3,5,6,7,10,11,12,13,36],[3,5,6,7,10,11,14],[13,15],[54],[3,5,6,7,10,11,13,14,15,54],[3,5,6,7,10,11,14,15,16],[17],[59],[59],[66],[18,19,66],[79],[3,5,6,7,10,11,14,15,16,17,18,19,79],[3,5,6,7,10,11,14,15,16,17,20,21],[23,24],[20,21,23,24,126],[126],[3,5,6,7,10,11,14,15,16,17]] [(10,[(16,1,3)]),(21,[(16,1,3)])]with fz:=atReg [(1007,[14])] }
def zFW:Ann:=anD [] [[2,3,4,5],[25],[2,3,4,5,8,9,25],[3,4,5,8,9,10,11],[33],[3,4,5,8,9,10,11,33],[3,4,5,8,9,10,12],[13],[39],[39],[14],[15],[46],[46],[16],[17],[52],[52],[],[16,17,85],[85],[14,15,100],[100],[3,4,5,8,9,10,12,13]] [(6,[(12,1,3)]),(22,[(12,1,3)])]
def zDb:Ann:=anD [] [[3,4,5,6,7],[6,12,13],[37],[3,4,5,7,10,11,12,13,37],[3,4,7,10,11,13,14],[48],[3,4,7,10,11,13,14,48],[3,4,7,10,11,14,15],[4,17],[19],[20],[68],[68],[21],[74],[74],[23],[23,111],[111],[7,14,15,17,19,20,21,24],[3,26],[135],[10,11,24,26,135],[]] []
def zz6:Ann:=anD [] [[0,1],[6],[10],[10],[19],[0,1,4,5,6,19],[]] [(0,[(4,1,3)]),(5,[(4,1,3)]),(6,[(4,1,3)])]
def zFO:Ann:=anK [] [[0,1,2,3,8],[8]] []
def zzZ:Ann:=anD [9] [[0],[4],[11],[11],[18],[18],[5],[6],[27],[27],[],[0,2,3,4,5,6]] [(1,[(4,3,104)]),(3,[(4,3,104)]),(5,[(4,3,104)]),(6,[(5,2,159)]),(10,[(5,2,159)])]
def zzn:Ann:=anD [] [[0],[3],[4],[5],[10],[10],[],[],[0,2,3,4,5]] [(1,[(3,5,65)]),(7,[(3,5,65)])]
def zzp:Ann:=anD [] [[0,1,2],[7],[8],[13],[13],[9],[10],[19],[19],[28],[28],[10,11],[43],[43],[48],[48],[0,1,2,6,7,8,9,11]] [(1,[(7,7,89)]),(5,[(9,3,104)]),(10,[(9,3,104)]),(15,[(7,7,89)])]
def zzo:Ann:=anK [] [[0,2],[0,2,3],[2]] []
def zj9:Ann:=anK [] [[0,1],[4]] []
def zC5:Ann:={ anD [] [[0,1,5,6],[7],[1,5,8],[9],[20],[20],[],[0,7,8,9]] []with cel:=λ_=>[(7,1,900,1,3)] }
def zIw:Ann:=anD [] [[0,3,4],[5],[9],[9],[29],[0,3,5,29],[]] []
def zC4:Ann:=anK [] [[0,1],[0,1,19],[4],[0,1,5],[1,5],[1,5,40],[5],[4]] []
def zC3:Ann:={ anD [] [[0,2,3,5,8],[9],[2,3,9,10],[31],[0,5,10,31],[0,5,10,11],[5,12],[],[12],[11],[0,72],[72],[10]] []with cel:=λ_=>[(10,8,900,1,3)] }
def zrU:Ann:=anK [] [[1],[10],[2],[2]] []
def zEk:Ann:=anK [] [[1],[33],[2],[2]] []
def zw0:Ann:=anK [] [[0,1,2,6,7],[0,1,2,20],[]] []
def zFQ:Ann:={ anD [] [[1,2,4],[17],[1,2,5,17],[2,5,6,7],[25],[2,5,6,7,25],[5,8,9],[10],[8,34,35],[36],[11,12,36],[42],[42],[54],[56],[14,56],[14],[11,12,54],[9,34,35],[5,10]] []with cel:=λ_=>[(10,0,301,8,70),(10,1,302,12,147)] }
def zHh:Ann:={ anK [] [[0,1],[4]] []with frz:=true }
def zr5:Ann:={ anD [] [[0],[3],[8,9,10],[11],[4,5,11],[4,5],[],[0,2,3,8,9,10]] [(1,[(3,9,85)]),(5,[(3,9,85)])]with frz:=true }
def zzt:Ann:={ anK [] [[0],[3],[3],[2]] []with frz:=true }
def zes:Ann:=anK [] [[1],[2]] []
def zEl:Ann:=anD [] [[0,1],[5],[0,8,9,10],[11],[7,11],[18],[7,18],[],[1,4,5,8,9,10]] [(1,[(5,9,85)]),(6,[(5,9,85)])]
def zC0:Ann:=anK [] [[4,5,6,7,8],[4,5,6,8,12,13,14],[4,5,6,8,12,13,14,27],[10,11],[12,13,14,15,16],[12,13,14,15,16,39],[10,11],[13,16,46],[10,11],[10,11]] []
def zEh:Ann:=anD [] [[3,4,5,6],[9],[5,17,18,19],[20],[11,20],[25],[12,25],[13],[31,32,33],[34],[15,34],[39],[15,39],[],[12,13,31,32,33,47],[11,47],[],[3,4,6,8,9,17,18,19]] [(1,[(9,1,3)]),(15,[(9,1,3)])]
def zHr:Ann:=anK [] [[1],[1,48],[2],[1,3],[1,3,53],[1,3],[1,3,67],[2],[1,4],[1,4,72],[1,4],[1,4,5,6],[1,4,5,87],[2],[1,4,8],[1,4,109],[2],[1,9],[1,9,114],[1,9],[1,9,10,11],[1,9,164],[2],[2]] []
def zBM:Ann:={ anD [] [[0],[4,5],[6],[7],[20],[20],[8],[9,10],[8,9,10,53],[11,53],[],[11],[0,4,5,7,68],[2,3,6,68],[]] [(2,[(6,9,85)]),(11,[(6,9,85)])]with fz:=atReg [(10,[60])],cel:=λ_=>[(11,8,900,1,3)] }
def zJF:Ann:=anD [] [[1,2],[6],[7],[8],[19],[19],[9,10],[9],[11],[40],[40],[],[1,2,4,5,6,7,8,10,11]] [(2,[(7,12,147)]),(7,[(7,12,147)])]
def zIC:Ann:=anK [] [[2,3],[2,3,5,6],[2,3,5,33],[4],[2,3,5,7],[4]] []
def zEs:Ann:=anD [] [[1,2,3],[3,7],[9],[27],[27],[74],[1,2,6,7,9,74],[]] []
def zJG:Ann:=anD [] [[0,3],[5],[18],[18],[32],[3,5,32],[0,4],[0,3,4,5],[],[3,5],[0,4]] [(7,[(0,8,70)])]
def zf4:Ann:=anK [] [[0,1,4],[]] []
def zdS:Ann:=anK [] [[2,3],[4]] []
def zFN:Ann:=anD [] [[1],[3],[1,8,9,10],[11],[5,11],[5],[],[2,3,8,9,10]] []
def zBC:Ann:=anD [] [[1,2],[5],[2,10,11,12],[13],[7,13],[19],[7,19],[],[1,4,5,10,11,12]] []
def zzr:Ann:=anD [] [[0],[4],[10],[12],[6,12],[17],[6,17],[0,10,28],[2,3,4,28],[2,3,4],[32,33],[34],[7,34],[7],[],[2,3,4,32,33]] [(1,[(4,9,85)]),(6,[(4,9,85)])]
def zz8:Ann:=anK [] [[2,3],[2,3,5],[4],[2,3,16],[4],[4]] []
def zFY:Ann:=anD [] [[1,2,3],[7],[12],[12],[32],[1,2,3,6,7,32],[]] []
def zHx:Ann:=anK [] [[3,4,5],[6]] []
def zHw:Ann:=anD [] [[2,3,4,5],[9],[10],[22],[22],[],[10,11],[32],[32],[43],[12,43],[13],[54],[54],[14],[60],[60],[73],[73],[2,3,4,5,8,9,11,12,13,14]] []
def zIG:Ann:={ anD [] [[1,2],[5],[6],[10],[10],[17],[17],[1,2,4,5,6]] [(1,[(5,9,85)]),(6,[(5,9,85)])]with frz:=true }
def zHp:Ann:=anD [] [[0,1],[5],[6],[10],[10],[20],[20],[0,1,4,5,6]] [(1,[(5,9,85)]),(6,[(5,9,85)])]
def zHu:Ann:=anD [] [[3,4,5,6],[4,6,11,12],[28],[3,5,8,9,10,11,12,28],[3,5,8,9,10,11,13],[14],[15],[33],[33],[],[],[11,15,52],[3,5,8,9,10,13,14,52],[5,8,9,10,13,14,16],[5,12,14,16,18],[8,9,10,12,13,18]] [(5,[(14,1,3)]),(10,[(14,1,3)])]
def zBF:Ann:={ anD [14] [[0,1,2,6],[1,2,7],[18],[18],[32],[0,32],[7]] []with cel:=λ_=>[(7,2,900,6,107)] }
def zz0:Ann:=anD [] [[0,3,4],[5],[16],[0,3,16],[5]] []
def zz1:Ann:={ anD [30] [[0,2,4,6],[2,7],[8],[36],[36],[9],[45],[45],[9],[0,4,7,8]] []with cel:=λ_=>[(7,6,900,1,3)] }
def zFP:Ann:=anK [] [[0],[0,7],[2],[0,8,9,10],[0,8,9,10,11],[0,3,4,8,9,10],[0,3,4,8,9,10,17],[2],[0,8,9,10,36],[2],[0,8,9,10],[2]] []
def zw2:Ann:=anK [] [[0],[0,7],[2],[0,8,9,10],[0,8,9,10,11],[0,3,4,8,9,10],[0,3,4,8,9,10,48],[2],[0,3,4,8,9,10,63],[2],[0,8,9,10,76],[2],[0,8,9,10],[2]] []
def zw3:Ann:=anK [] [[1],[1,17],[2],[1,19,20,21],[1,19,20,21,22],[1,3,4,19,20,21],[1,19,20,21,33],[2],[1,19,20,21],[2]] []
def zwf:Ann:=anD [] [[1],[10,11,12],[13],[4,13],[5,6],[6,23],[1,2,4,5,10,11,12,23],[1,2,8,10,11,12],[8,41],[1,2,10,11,12,41],[1,2,10,11,12],[1,2,10,11,12]] []
def zxZ:Ann:=anK [] [[1],[1,10],[2],[1,12,13,14],[1,12,13,14,15],[1,3,4,12,13,14],[1,4,12,13,14,32],[2],[1,4,5,6,12,13,14],[1,12,13,14,52],[2],[1,12,13,14],[2]] []
def zEo:Ann:=anK [] [[1],[34],[2],[2]] []
def zFR:Ann:={ anD [] [[1,2],[6],[20,21,22],[23],[8,23],[8],[],[9,20,21,22],[1,38,39,40],[41],[11,41],[45],[46],[12,45,46],[55],[11,12,55],[11,45,60],[11,45,60],[11,70],[13,14,70],[80],[15,16,80],[16,88],[11,13,14,15,88],[],[],[2,4,5,6,9,38,39,40]] []with cel:=λ_=>[(33,1,301,10,229),(33,6,302,1,0),(33,7,1000,1,0),(33,13,303,12,147)] }
def zvm:Ann:=anD [] [[0,1],[5],[12,13,14],[15],[7,15],[32],[7,32],[],[0,1,4,5,12,13,14]] []
def zlK:Ann:=anD [] [[0],[3],[9,10,11],[12],[5,12],[5],[20],[20],[],[3,6,9,10,11],[0,25,26,27],[28],[8,28],[8],[],[2,6,25,26,27]] [(9,[(6,9,85)]),(13,[(6,9,85)])]
def ziW:Ann:=anD [] [[0,5],[7],[3,7],[3,13]] []
def zEn:Ann:=anK [] [[1,2],[1,2],[2]] []
def zzj:Ann:=anD [] [[3,4,5,6],[4,6,10,11],[26],[3,5,8,9,11,26],[3,5,9,10,11],[12],[11,28,29,30],[31],[14,31],[],[14],[],[28,29,30,45],[3,5,9,10,12,45],[5,9,10,12,15],[5,9,10,12,15],[69],[69],[]] [(5,[(12,1,3)]),(10,[(12,1,3)])]
def zHl:Ann:=anD [] [[0],[9],[0,2,9],[0,2,3],[13],[13],[4],[41],[0,2,3,4,41],[0,2,3,4,5],[46],[46],[55],[0,2,3,4,5,55],[0,2,3,4,6],[60],[60],[74],[0,2,3,4,6,74],[0,2,3,87],[0,2,3,87],[]] []
def zx0:Ann:=anK [] [[0],[0,7],[2],[0,3],[0,3,11],[0,3],[0,3,4],[0,3,4,18],[2],[0,3,4,41],[2],[0,3,57],[2],[2]] []
def zHn:Ann:=anK [] [[1],[42],[2],[2]] []
def zHk:Ann:=anD [] [[2,3],[5],[27],[2,3,4,5,27],[2,3,4,5,6],[30],[30],[46],[2,3,4,5,6,46],[2,3,4,5,6,7],[54],[54],[106],[2,3,4,5,6,7,106],[]] []
def zHm:Ann:=anD [] [[0,3],[6],[10],[10],[30],[0,3,4,5,6,30],[]] []
def zFT:Ann:=anD [] [[2,3,4],[14],[2,3,4,6,7,14],[2,3,4,6,7,20],[2,3,4,6,7,20],[2,3,4,6,7,8],[9],[24],[24],[33],[33],[54],[2,3,4,6,7,8,9,54],[2,3,4,6,7,8,9,10],[62],[62],[73],[73],[10],[2,3,4,6,7,8,9]] [(5,[(8,1,3)]),(10,[(8,1,3)]),(18,[(8,1,3)])]
def zEr:Ann:=anK [] [[1,2],[2,6,7],[2,6,16],[4,5],[4,5]] []
def zIy:Ann:=anK [] [[1,2],[1,2,11],[4],[1,2,5],[1,2,5,15],[1,2,5],[1,2,5,35],[4],[4]] []
def zC8:Ann:=anD [] [[0],[4,5],[6],[15],[15],[23],[7,23],[8,9],[9,44],[7,8,44],[7,57],[7,57],[0,2,3,4,5,6]] []
def zIB:Ann:=anD [] [[0],[10],[0,2,10],[2,3,4],[5],[6,7],[34],[34,56],[56],[],[],[],[2,3,4,5,6,7]] [(0,[(2,9,85)]),(2,[(2,9,85)]),(4,[(5,9,85)]),(8,[(5,9,85)]),(10,[(5,9,85)]),(12,[(2,9,85)])]
def zHt:Ann:={ anD [] [[1,2,3],[8],[9],[10],[11],[12,13,14],[15],[34],[34],[16],[53],[11,13,14,17,53],[17],[11,13,14,16],[16,81],[81,83],[16,83],[16,19],[19,102],[20,21,102],[22],[110],[110],[],[21,22,124],[20,124],[23,24],[23,149],[149],[159],[16,24,159],[25],[172],[172],[],[16,25,217],[16,217],[1,2,3,6,7,8,9,10,11,12,13,14,15]] [(2,[(9,12,147)]),(4,[(11,1,0)]),(13,[(11,1,0)]),(30,[(9,12,147)])]with cel:=λ_=>[(10,0,1000,1,0)] }
def zuG:Ann:=anK [] [[0,1,5],[5,7,8],[6]] []
def zIE:Ann:=anK [] [[1,2],[4]] []
def zBL:Ann:=anK [] [[2,3,4,5],[2,3,4,24],[8],[2,3,4,9],[3,9,37],[8],[8]] []
def zBN:Ann:=anK [] [[0,1],[0,1,10],[4],[0,1,5],[0,1,5,14],[0,1,5],[0,1,5,25],[4],[4]] []
def a_bits_Len:Ann:=anK [] [[0],[2],[2]] []
def zIu:Ann:=anK [] [[0],[0,3],[3,6,7,8],[3,6,7,8,9],[3,5,6,7,8],[3,5,6,7,8,14],[2],[3,6,7,8],[2]] []
def zBD:Ann:=anK [] [[0,1],[0,1,5],[0,1,5,6],[0,1,6,11],[12],[4],[4],[0,1,13],[4],[0,1,16],[4],[19],[4],[4]] []
def zC6:Ann:=anD [] [[0],[3],[10,11,12],[13],[4,5,13],[19],[6,19],[7,8],[8,29],[4,5,29],[39],[39],[6,7],[],[0,2,3,10,11,12]] []
def zDa:Ann:=anD [] [[3,4,5,6],[27],[3,4,5,6,8,9,27],[3,4,5,6,8,9,10,11],[11,36],[3,4,5,6,8,9,10,36],[3,4,5,6,8,9,10,12],[10,14],[16,17],[18],[19],[74],[74],[],[86],[86],[116],[116],[3,4,5,6,8,9,12,14,16,17,18,19]] [(9,[(18,2,216)]),(13,[(18,2,216)]),(15,[(18,2,216)]),(17,[(18,2,216)])]
def zHj:Ann:=anD [] [[2,3,4],[13],[2,3,4,6,7,13],[2,3,4,6,7,19],[2,3,4,6,7,19],[2,3,4,6,7,24],[2,3,4,6,7,24],[2,3,4,6,7,8],[9],[28],[28],[35],[36],[35,36],[45],[45],[2,3,4,6,7,8,9]] []
def zxV:Ann:=anK [] [[1],[1,40],[2],[2]] []
def zEj:Ann:=anD [] [[0],[3],[7],[7],[19],[0,2,3,19],[]] []
def zF0:Ann:=anK [] [[2,3],[2,3,27],[4],[3,29,30,31],[3,29,30,31,32],[3,5,6,29,30,31],[3,29,30,31,52],[4],[3,29,30,31],[4]] []
def zBI:Ann:=anK [] [[2,3],[3,9,10,11],[3,9,10,11,12],[3,6,7,9,10,11],[3,6,9,10,11,27],[4,5],[3,9,10,11],[4,5]] []
def zEu:Ann:=anD [] [[2,3,4],[17],[2,3,4,6,7,17],[2,3,4,6,7,23],[2,3,4,6,7,23],[2,3,4,6,7,25,26,27],[28],[8,9,28],[8,10],[9,10,56],[2,3,4,6,7,25,26,27,56],[2,3,4,6,7,25,26,27],[11,25,26,27],[3,63,64,65],[66],[12,13,66],[70],[12,13,70],[12,13,77],[12,13,77],[12,94],[12,94],[],[2,4,6,7,11,63,64,65]] []
def zBH:Ann:=anK [] [[1,2],[2,6,7],[2,6,15],[4,5],[4,5]] []
def zxY:Ann:=anK [] [[1,2],[1,2,12],[4],[1,14,15,16],[1,14,15,16,17],[1,5,6,14,15,16],[1,14,15,16,34],[4],[1,14,15,16],[4]] []
def zuE:Ann:={ anD [] [[0,3],[10],[4,10],[4],[],[3],[],[],[0]] []with cel:=λ_=>[(1000,1,900,10,229),(1000,6,901,1,0),(1000,7,1000,1,0),(1000,13,902,12,147)] }
def zxW:Ann:=anD [] [[0,4,5],[0,7],[8,9],[9,39],[4,5,6,8,39],[4,5,8,9],[9,78],[4,5,8,78],[5,8,99],[5,8,99],[105],[105],[]] []
def zuF:Ann:=anD [] [[1,2,4],[2,9,10,11],[12],[7,12],[18],[1,5,7,9,10,11,18],[1,5,9,10,11],[1,5,9,10,11]] []
def zzq:Ann:={ anD [] [[0,6,7,8,9],[10],[12],[12,36],[10,36],[13,14],[7,45,46,47],[48],[15,16,48],[16,54],[17,18,54],[18,68],[15,68],[17],[],[8,13,14,19,45,46,47],[6,20,21],[21,99],[99],[20,104],[0,9,19,104],[0,9,114],[0,9,114]] [(5,[(13,1,3),(14,1,3)]),(12,[(13,1,3)]),(13,[(14,1,3)])]with cel:=λ_=>[(1000,1,900,10,229),(1000,6,901,1,0),(1000,7,1000,1,0),(1000,13,902,12,147)] }
def zxX:Ann:=anD [] [[0,3],[11,12,13],[14],[6,14],[6,7,8],[7,8,33],[0,3,4,11,12,13,33],[0,3,4,11,12,13],[0,3,4,11,12,13]] []
def zml:Ann:=anD [] [[0,1],[6],[6],[],[16],[1,16],[0,4]] []
def zwg:Ann:=anK [5] [[0],[0,4],[2],[2]] [(0,[(2,1,3)]),(2,[(2,1,3)]),(3,[(2,1,3)])]
def zwb:Ann:=anK [] [[3,4,5,6],[3,4,5,6,15],[8,9],[3,4,5,6,17,18,19],[3,4,5,6,17,18,19,20],[3,4,5,6,11,17,18,19],[3,4,5,6,11,17,18,19,26],[8,9],[3,4,5,6,17,18,19],[8,9]] []
def zFZ:Ann:=anK [] [[3,4,5],[3,4,5,11],[6,7],[3,4,5,17],[6,7],[3,4,5,22],[6,7],[6,7]] []
def zEq:Ann:=anK [] [[0,1,2],[6]] []
def zz4:Ann:=anK [] [[1],[1,34],[2],[1,3],[1,3,4],[1,3,4,39],[1,3,4],[1,3,4,48],[2],[1,3,4],[2]] []
def zEp:Ann:=anK [] [[2,3,4,5],[2,3,4,5,32],[8],[2,3,4,5,39],[8],[8]] []
def zHq:Ann:=anK [] [[1],[1,19],[2],[1,3],[1,3,24],[1,3],[1,3,33],[2],[1,35],[1,35,36],[2],[1,35,57],[2],[1,89],[2],[2]] []
def zHs:Ann:=anD [] [[1,2,3],[8],[1,10],[12,13],[14],[38],[38],[48],[15,48],[16],[52],[52],[61],[61],[15,16,78],[2,3,6,7,8,10,12,13,14,78],[]] [(3,[(12,1,3),(13,1,3)]),(13,[(12,1,3),(13,1,3)])]
def zz7:Ann:=anK [] [[2,3,4,6],[2,3,4,6,12],[6,7],[2,3,4,6,15],[6,7],[3,6,8],[3,6,8,27],[3,6,8],[6,7]] [(5,[(8,1,4)]),(7,[(8,1,4)])]
def zIx:Ann:=anD [] [[2,3],[5],[10],[10],[20],[2,3,4,5,20],[]] []
def zIs:Ann:=anD [] [[0,2],[4],[2,4],[2],[8],[8],[],[0]] []
def zIt:Ann:=anD [] [[0,2],[4],[2,4],[2],[8],[8],[],[14],[14],[],[0]] []
def zEm:Ann:=anK [] [[1],[1,16],[2],[1,18],[1,18,19],[2],[1,18,23],[2],[1,60],[2],[2]] []
def zz3:Ann:=anK [] [[1,2],[2]] []
def zFV:Ann:=anD [] [[1,2,4],[5],[6],[15],[15],[67],[67],[6,70],[1,2,5,70],[1,2,80],[1,2,80],[1,2,88],[1,2,88],[1,2,7,8,9],[10],[98],[98],[11],[11],[2,8,9,10,126],[1,7,126],[]] []
def zC9:Ann:=anD [] [[1,2,3],[7],[8],[13],[13],[33],[33],[1,2,3,6,7,8]] [(1,[(7,8,70)]),(6,[(7,8,70)])]
def zFU:Ann:=anD [] [[2,3,4],[19],[2,3,4,6,19],[2,3,4,6,7],[23],[23],[42],[2,3,4,6,7,42],[]] []
def zBE:Ann:=anK [] [[1],[1,22],[2],[1,32],[2],[1,34,35,36],[1,34,35,36,37],[1,4,34,35,36],[1,34,35,36,42],[2],[1,34,35,36],[2]] []
def zAb:Ann:=anK [] [[1,2],[1,2,9],[4],[1,2,13,14,15],[1,2,13,14,15,16],[1,2,5,6,13,14,15],[1,2,13,14,15,40],[4],[1,2,13,14,15],[4]] []
def zEw:Ann:=anK [] [[0],[3],[3,4],[3,4],[4],[2],[2]] []
def zDd:Ann:=anK [] [[1,2,3],[1,2,3,9],[6],[6]] []
def zz9:Ann:=anK [] [[2,3,4,5],[8]] []
def zFS:Ann:=anD [] [[1,2,3],[29],[1,2,3,6,29],[1,2,3,6,7,8],[31,32],[33],[9,33],[9,10,11],[50],[1,2,3,6,7,8,10,11,31,32,50],[1,2,3,6,7,8,31,32],[],[1,2,3,6,7,8,31,32]] []
def zwe:Ann:={ anD [] [[0,1,5],[1,5,6],[19],[19],[],[7],[46],[46],[65],[65]] []with cel:=λ_=>[(1000,1,900,10,229),(1000,6,901,1,0),(1000,7,1000,1,0),(1000,13,902,12,147)] }
def zwd:Ann:=anD [] [[4,5,6,7],[9],[9,11,12],[13],[5,15,16],[17],[11,57,58,59],[60],[18,19,60],[18,19],[18,74],[18,74],[18,95],[18,95],[],[4,6,7,8,12,13,15,16,17,57,58,59]] []
def zEv:Ann:=anK [] [[2,3,4],[2,3,4,20],[6],[2,4,22,23,24],[2,4,22,23,24,25],[2,4,7,8,22,23,24],[2,4,22,23,24,43],[6],[2,4,22,23,24],[6]] []
def zIH:Ann:=anD [] [[1,2],[5],[2,9,10,11],[12],[6,7,12],[6,7],[],[1,4,5,9,10,11]] []
def zDc:Ann:=anK [] [[0,2,3,5],[0,3,5,11],[0,3,5,11,12],[6],[0,3,16],[6],[6]] []
def zBK:Ann:=anK [] [[1],[1,30],[2],[1,33],[2],[2]] []
def zJE:Ann:=anD [] [[0,1],[5],[9],[9],[17],[0,1,4,5,17],[]] []
def zIz:Ann:=anK [] [[1,2,3],[1,2,3,24],[6],[1,2,3,7],[1,2,3,7,8],[1,2,3,7,8,28],[1,2,3,7,8],[1,2,3,7,8,42],[6],[1,2,3,7,8,9],[1,2,3,7,8,9,58],[6],[1,2,3,7,8],[6]] []
def zHo:Ann:=anD [] [[0],[3],[4],[8],[8],[15],[15],[0,2,3,4]] []
def zzs:Ann:=anK [] [[1],[1,37],[2],[2]] []
def znc:Ann:=anD [] [[0,1],[7,8],[9],[5,9],[16],[0,1,4,5,7,8,16],[0,1,4,7,8],[0,1,4,7,8]] []
def zC1:Ann:=anK [] [[1],[1,30],[2],[1,32],[1,32,33],[2],[1,43],[2],[2]] []
def zEi:Ann:=anD [] [[0],[3],[0,6,7,8],[9],[5,9],[5],[],[2,3,6,7,8]] []
def zHi:Ann:=anD [] [[0,1,4],[0,8,9,10],[11],[7,11],[17],[1,8,9,10,17],[5,7],[1,5,8,9,10],[1,5,8,9,10]] []
def zAa:Ann:=anK [] [[1,2],[1,2,6],[4],[1,2,9],[4],[4]] []
def zuH:Ann:=anK [5] [[0],[0,4],[2],[2]] [(0,[(2,1,4)]),(2,[(2,1,4)]),(3,[(2,1,4)])]
def zBJ:Ann:=anD [] [[1,2],[5],[1,8,9,10],[11],[7,11],[7,15],[15],[],[2,4,5,8,9,10]] []
def zuC:Ann:=anK [] [[1,2],[1,9,10,11],[1,9,10,11,12],[1,7,9,10,11],[1,7,9,10,11,18],[4,5],[1,9,10,11],[4,5]] []
def zxR:Ann:=anD [] [[1,2,4],[5,6],[6,16],[1,2,5,16],[1,2,22],[1,2,22],[1,2,26],[2,26,28],[1,28],[],[1,2,7,8],[43,44,45],[46],[10,46],[10],[],[2,7,8,43,44,45,63],[1,63],[]] []
def zz2:Ann:=anD [] [[1,2,3],[7],[3,11,12,13],[14],[9,14],[26],[9,26],[],[1,2,6,7,11,12,13]] [(1,[(7,8,70)]),(6,[(7,8,70)])]
def zIA:Ann:=anK [] [[0],[0,4],[2],[2]] []
def zwc:Ann:=anD [] [[0,2],[4],[5],[0,8,9,10],[11],[7,11],[16],[16,40],[7,40],[],[3,4,5,8,9,10]] []
def zzX:Ann:=anD [] [[0],[3,4],[11,12,13],[14],[6,14],[],[6,7],[7],[],[0,8,11,12,13],[3,4,9,10],[8,10,42],[42],[2,9]] []
def zIr:Ann:=anD [] [[0,1,2],[20],[20],[24],[24],[27],[0,1,2,6,7,27],[0,1,2,6,7,8],[],[9],[10],[0,11],[1,12],[13],[12,14],[15],[16],[78],[78],[],[85],[11,13,16,17,85],[18],[16],[113],[113],[],[120],[2,6,7,8,9,10,14,15,16,17,18,120]] []
def aNone:Ann:={ lits:=[],live:=λ_=>none,own:=λ_=>[] }
def annTab:List Ann:=[aNone,aNone,aNone,zxS,zzl,zw1,zzk,zxT,zhd,zIv,zhd,zBG,zC2,zzY,zzm,zpA,zpA,zCZ,zEf,zID,zzW,zFM,zz5,zBB,zxU,zC7,zuD,zIF,zBO,zEg,zFX,zwZ,zwZ,zuD,zHv,zwY,zwY,zEt,zFW,zDb,zz6,zFO,zzZ,zzn,zzp,zzo,zj9,zC5,zIw,zC4,zC3,zj9,zrU,zEk,zw0,zFQ,zHh,zr5,zzt,zes,zEl,zC0,zEh,zHr,zBM,zJF,zIC,zEs,zJG,zf4,zdS,zdS,zFN,zBC,zes,zzr,zdS,zz8,zes,zes,zFY,zHx,zHw,zIG,zHp,zHu,zBF,zz0,zz1,zFP,zw2,zw3,zwf,zxZ,zEo,zFR,zvm,zf4,zdS,zlK,aNone,aNone,ziW,zEn,zzj,zHl,zx0,zHn,zHk,zHm,zFT,zEr,zIy,zC8,zIB,zHt,zz5,zuG,zIE,zBL,zBN,zz8,aNone,a_bits_Len,zIu,zBD,ziW,zC6,zf4,zdS,zrU,zDa,zHj,zxV,zEj,zhd,zF0,zBI,zEu,zBH,zxY,zhd,zuE,zxW,zuF,zzq,zxX,aNone,zml,aNone,aNone,zwg,zwb,zFZ,zEq,zz4,zEp,zHq,zdS,zHs,zz7,zIx,aNone,aNone,aNone,aNone,aNone,aNone,aNone,aNone,zIs,zIt,zhd,zEm,zz3,zdS,aNone,zFV,zC9,zFU,zj9,zhd,zBE,zAb,zEw,zDd,zuF,zuG,zz9,zuD,zFS,zz7,zwe,aNone,aNone,aNone,aNone,aNone,aNone,aNone,aNone,aNone,aNone,aNone,aNone,aNone,aNone,aNone,aNone,aNone,zdS,zwd,zEv,zIH,zDc,zBK,zJE,zEq,zIz,zdS,zHo,aNone,aNone,aNone,aNone,aNone,zzs,aNone,aNone,aNone,aNone,aNone,aNone,aNone,aNone,znc,zC1,zEi,zj9,zHi,zdS,zAa,zhd,zj9,zdS,zuH,zBJ,aNone,aNone,aNone,aNone,aNone,aNone,zuC,zxR,zz2,zIA,aNone,zhd,aNone,aNone,aNone,znc,zhd,aNone,aNone,zwc,zes,zzX,aNone,aNone,zIr,zhd,aNone,aNone,aNone,aNone,aNone,aNone,aNone,aNone,aNone,aNone,aNone,aNone,aNone,aNone,aNone,aNone]
def zA:AnnF:=λf=>annTab.getD f aNone
abbrev Xa:=r1 vBool
def zap:Bool->AV×Mem:=Xa.enc
abbrev zag:RD:={Xa with α:=Bool,enc:=zap}
abbrev Xaa:=r1 (vNewp 2 zal zbr)
def zwF:zaj->AV×Mem:=Xaa.enc
abbrev zsI:RD:={Xaa with α:=zaj,enc:=zwF}
abbrev Xab:=r1M (vAgg zqy) (mBox 1000 2 zal zbr)
def zlW:(zan×zaj)->AV×Mem:=Xab.enc
abbrev zlX:RD:={Xab with α:=zan×zaj,enc:=zlW}
abbrev Xac:=r1M (vNew 9 zak zaZ) (mBox 1000 2 zal zbr)
def zgF:(((List zac))×zaj)->AV×Mem:=Xac.enc
abbrev ziT:RD:={Xac with α:=((List zac))×zaj,enc:=zgF}
abbrev Xad:=r1M (vSl 6 zcz) (mBox 1000 2 zal zbr)
def zkv:(((List zaA))×zaj)->AV×Mem:=Xad.enc
abbrev zky:RD:={Xad with α:=((List zaA))×zaj,enc:=zkv}
abbrev Xae:=r1M (vAgg zog) (mBox 1000 2 zal zbr)
def zlE:(zbp×zaj)->AV×Mem:=Xae.enc
abbrev zi9:RD:={Xae with α:=zbp×zaj,enc:=zlE}
abbrev Xaf:=r1M (vAgg zq3) (mBox 1000 2 zal zbr)
def zqj:(zbG×zaj)->AV×Mem:=Xaf.enc
abbrev zm0:RD:={Xaf with α:=zbG×zaj,enc:=zqj}
abbrev Xag:=rT (lCons (vSl 1 zbi) (lOne (vI .i64)))
def zdc:((List Int)×Int)->AV×Mem:=Xag.enc
abbrev zeh:RD:={Xag with α:=(List Int)×Int,enc:=zdc}
abbrev Xah:=rT (lCons (vAgg zfz) (lOne (vI .i64)))
def zme:(za9×Int)->AV×Mem:=Xah.enc
abbrev zkj:RD:={Xah with α:=za9×Int,enc:=zme}
abbrev Xai:=rT (lCons (vSl 6 zcz) (lOne (vI .i64)))
def zoB:((List zaA)×Int)->AV×Mem:=Xai.enc
abbrev zgH:RD:={Xai with α:=(List zaA)×Int,enc:=zoB}
abbrev Xaj:=r1 (vSl 1 zbi)
def zeg:((List Int))->AV×Mem:=Xaj.enc
abbrev zeN:RD:={Xaj with α:=(List Int),enc:=zeg}
abbrev Xb:=rT (lCons (vAgg zdU) (lOne vBool))
def zmd:(za3×Bool)->AV×Mem:=Xb.enc
abbrev zif:RD:={Xb with α:=za3×Bool,enc:=zmd}
abbrev Xba:=rT (lCons (vSl 9 zaZ) (lOne (vI .i64)))
def ze3:((List zac)×Int)->AV×Mem:=Xba.enc
abbrev zgk:RD:={Xba with α:=(List zac)×Int,enc:=ze3}
abbrev Xbb:=r1M (vSl 9 zaZ) (mBox 1000 2 zal zbr)
def zyI:(((List zac))×zaj)->AV×Mem:=Xbb.enc
abbrev zyJ:RD:={Xbb with α:=((List zac))×zaj,enc:=zyI}
abbrev Xbc:=r1 (vNew 6 za8 zcz)
def zn2:((List zaA))->AV×Mem:=Xbc.enc
abbrev zli:RD:={Xbc with α:=(List zaA),enc:=zn2}
abbrev Xbd:=r1 (vNew 1 zcO zbi)
def zkJ:((List Int))->AV×Mem:=Xbd.enc
abbrev zhv:RD:={Xbd with α:=(List Int),enc:=zkJ}
abbrev Xbe:=r1 (vI .i64)
def zbm:Int->AV×Mem:=Xbe.enc
abbrev zaR:RD:={Xbe with α:=Int,enc:=zbm}
abbrev Xbf:=rT (lCons (vSl 1 zbi) (lOne vBool))
def zhM:((List Int)×Bool)->AV×Mem:=Xbf.enc
abbrev zfT:RD:={Xbf with α:=(List Int)×Bool,enc:=zhM}
abbrev Xbg:=r1 (vAgg zcz)
def zsw:zaA->AV×Mem:=Xbg.enc
abbrev zhN:RD:={Xbg with α:=zaA,enc:=zsw}
abbrev Xbh:=rTM (lCons (vSl 3 zcV) (lOne (vSl 2 zeU))) (mBox 1000 2 zal zbr)
def zjj:(((List zaM)×(List zbu))×zaj)->AV×Mem:=Xbh.enc
abbrev zlj:RD:={Xbh with α:=((List zaM)×(List zbu))×zaj,enc:=zjj}
abbrev Xbi:=r1M (vNew 5 zdM zdU) (mBox 1000 2 zal zbr)
def zkw:(((List za3))×zaj)->AV×Mem:=Xbi.enc
abbrev zkz:RD:={Xbi with α:=((List za3))×zaj,enc:=zkw}
abbrev Xbj:=r1M (vNew 7 zc6 zc0) (mBox 1000 2 zal zbr)
def zkx:(((List zaT))×zaj)->AV×Mem:=Xbj.enc
abbrev zkB:RD:={Xbj with α:=((List zaT))×zaj,enc:=zkx}
abbrev Xc:=r1M (vAgg zne) (mBox 1000 2 zal zbr)
def znK:(zbv×zaj)->AV×Mem:=Xc.enc
abbrev zkA:RD:={Xc with α:=zbv×zaj,enc:=znK}
abbrev Xca:=r1M vBool (mBox 1000 2 zal zbr)
def zqh:(Bool×zaj)->AV×Mem:=Xca.enc
abbrev zey:RD:={Xca with α:=Bool×zaj,enc:=zqh}
abbrev Xcb:=r1M (vAgg zfO) (mBox 1000 2 zal zbr)
def zmX:(GSeed×zaj)->AV×Mem:=Xcb.enc
abbrev zm1:RD:={Xcb with α:=GSeed×zaj,enc:=zmX}
abbrev Xcc:=r1 (vAgg zcV)
def zrA:zaM->AV×Mem:=Xcc.enc
abbrev zmg:RD:={Xcc with α:=zaM,enc:=zrA}
abbrev Xcd:=r1M (vI .i64) (mBox 1000 2 zal zbr)
def zmW:(Int×zaj)->AV×Mem:=Xcd.enc
abbrev zbc:RD:={Xcd with α:=Int×zaj,enc:=zmW}
abbrev Xce:=r1M (vAgg zaZ) (mBox 1000 2 zal zbr)
def zqi:(zac×zaj)->AV×Mem:=Xce.enc
abbrev zmZ:RD:={Xce with α:=zac×zaj,enc:=zqi}
abbrev Xcf:=r0M (mRow 1000 0 zd2 ziL)
def zmb:((List (Int×Int)))->AV×Mem:=Xcf.enc
abbrev zjw:RD:={Xcf with α:=(List (Int×Int)),enc:=zmb}
abbrev Xcg:=rTM (lCons (vAgg zfz) (lOne (vI .i64))) (mRow 1001 9 zak zaZ)
def zsx:((za9×Int)×(List zac))->AV×Mem:=Xcg.enc
abbrev zo6:RD:={Xcg with α:=(za9×Int)×(List zac),enc:=zsx}
abbrev Xch:=r1 (vSl 9 zaZ)
def zkH:((List zac))->AV×Mem:=Xch.enc
abbrev zjF:RD:={Xch with α:=(List zac),enc:=zkH}
abbrev Xci:=r1 (vNew 9 zak zaZ)
def zdu:((List zac))->AV×Mem:=Xci.enc
abbrev zev:RD:={Xci with α:=(List zac),enc:=zdu}
abbrev Xcj:=rT (lCons (vI .i64) (lOne (vI .i64)))
def zmV:(Int×Int)->AV×Mem:=Xcj.enc
abbrev zgI:RD:={Xcj with α:=Int×Int,enc:=zmV}
abbrev Xd:=rT (lCons (vSl 12 zdJ) (lOne (vSl 1 dBool)))
def zny:((List zbS)×(List Bool))->AV×Mem:=Xd.enc
abbrev znz:RD:={Xd with α:=(List zbS)×(List Bool),enc:=zny}
abbrev Xda:=r1 (vNew 8 zbl zdX)
def zlF:((List za5))->AV×Mem:=Xda.enc
abbrev zlG:RD:={Xda with α:=(List za5),enc:=zlF}
abbrev Xdb:=r0M (mRow 1000 6 za8 zcz)
def zeO:((List zaA))->AV×Mem:=Xdb.enc
abbrev zeP:RD:={Xdb with α:=(List zaA),enc:=zeO}
abbrev Xdc:=r1 (vNewm zcQ zjC)
def zj7:((List (Int×Bool)))->AV×Mem:=Xdc.enc
abbrev ziS:RD:={Xdc with α:=(List (Int×Bool)),enc:=zj7}
abbrev Xdd:=rTM (lCons (vSl 9 zaZ) (lOne (vI .i64))) (mRow 1000 9 zak zaZ)
def zg8:(((List zac)×Int)×(List zac))->AV×Mem:=Xdd.enc
abbrev zkC:RD:={Xdd with α:=((List zac)×Int)×(List zac),enc:=zg8}
abbrev Xde:=rT (lCons (vI .i64) (lCons (vI .i64) (lOne (vI .i64))))
def znn:(Int×Int×Int)->AV×Mem:=Xde.enc
abbrev zkK:RD:={Xde with α:=Int×Int×Int,enc:=znn}
abbrev Xdf:=r1M (vAgg zcV) (mBox 1000 2 zal zbr)
def zpr:(zaM×zaj)->AV×Mem:=Xdf.enc
abbrev zg4:RD:={Xdf with α:=zaM×zaj,enc:=zpr}
abbrev Xdg:=r1M (vAgg zeU) (mBox 1000 2 zal zbr)
def zoC:(zbu×zaj)->AV×Mem:=Xdg.enc
abbrev zlk:RD:={Xdg with α:=zbu×zaj,enc:=zoC}
abbrev Xdh:=r1M (vAgg zc0) (mBox 1000 2 zal zbr)
def zlf:(zaT×zaj)->AV×Mem:=Xdh.enc
abbrev zll:RD:={Xdh with α:=zaT×zaj,enc:=zlf}
abbrev Xdi:=r1 (vNewm zdA zeM)
def zfa:((List (zaP×zac)))->AV×Mem:=Xdi.enc
abbrev ziw:RD:={Xdi with α:=(List (zaP×zac)),enc:=zfa}
abbrev Xdj:=r0M (mRow 1000 8 zbl zdX)
def ze6:((List za5))->AV×Mem:=Xdj.enc
abbrev ze7:RD:={Xdj with α:=(List za5),enc:=ze6}
abbrev Xe:=r0
def zn9:Unit->AV×Mem:=Xe.enc
abbrev ziX:RD:={Xe with α:=Unit,enc:=zn9}
abbrev Xea:=r1 (vAgg zaZ)
def zlg:zac->AV×Mem:=Xea.enc
abbrev zlm:RD:={Xea with α:=zac,enc:=zlg}
abbrev Xeb:=rT (lCons (vI .i64) (lOne vBool))
def zir:(Int×Bool)->AV×Mem:=Xeb.enc
abbrev zd1:RD:={Xeb with α:=Int×Bool,enc:=zir}
abbrev Xec:=rT (lCons (vMp zik) (lOne (vMp ziK)))
def zkh:((List ((Int×Int)×Int))×(List ((Int×Int)×Bool)))->AV×Mem:=Xec.enc
abbrev zm4:RD:={Xec with α:=(List ((Int×Int)×Int))×(List ((Int×Int)×Bool)),enc:=zkh}
abbrev Xed:=rT (lCons (vAgg zc0) (lOne vBool))
def zj8:(zaT×Bool)->AV×Mem:=Xed.enc
abbrev zgR:RD:={Xed with α:=zaT×Bool,enc:=zj8}
abbrev Xee:=r1M (vNewm zct zdn) (mRow 1000 9 zak zaZ)
def zgG:(((List ((Int×Int)×zbO)))×(List zac))->AV×Mem:=Xee.enc
abbrev zm3:RD:={Xee with α:=((List ((Int×Int)×zbO)))×(List zac),enc:=zgG}
abbrev Xef:=r0M (mRow 1000 9 zak zaZ)
def zeb:((List zac))->AV×Mem:=Xef.enc
abbrev zec:RD:={Xef with α:=(List zac),enc:=zeb}
abbrev Xeg:=rT (lCons (vSl 2 zeF) (lOne (vI .i64)))
def zmY:((List zc8)×Int)->AV×Mem:=Xeg.enc
abbrev zkk:RD:={Xeg with α:=(List zc8)×Int,enc:=zmY}
abbrev Xeh:=r0M zn7
def zdd:zay->AV×Mem:=Xeh.enc
abbrev zep:RD:={Xeh with α:=zay,enc:=zdd}
abbrev Xei:=rT (lCons (vI .i64) (lOne vPtr))
def zie:(Int×(Option Addr))->AV×Mem:=Xei.enc
abbrev zjZ:RD:={Xei with α:=Int×(Option Addr),enc:=zie}
abbrev Xej:=rT (lCons (vAgg zfO) (lOne vBool))
def zkg:(GSeed×Bool)->AV×Mem:=Xej.enc
abbrev zm2:RD:={Xej with α:=GSeed×Bool,enc:=zkg}
abbrev Xf:=rT (lCons vBool (lOne vBool))
def zkI:(Bool×Bool)->AV×Mem:=Xf.enc
abbrev zp2:RD:={Xf with α:=Bool×Bool,enc:=zkI}
abbrev Xfa:=rT (lCons (vAgg zxa) (lOne (vI .i64)))
def zoD:(zbZ×Int)->AV×Mem:=Xfa.enc
abbrev zmh:RD:={Xfa with α:=zbZ×Int,enc:=zoD}
abbrev Xfb:=r1 (vAgg zgd)
def zlh:((Int×Int))->AV×Mem:=Xfb.enc
abbrev zjk:RD:={Xfb with α:=(Int×Int),enc:=zlh}
abbrev Xfc:=r1 (vAgg zeF)
def zmf:zc8->AV×Mem:=Xfc.enc
abbrev zmi:RD:={Xfc with α:=zc8,enc:=zmf}
abbrev Xfd:=r1 (vNew 2 zhP zeF)
def zhl:((List zc8))->AV×Mem:=Xfd.enc
abbrev zi8:RD:={Xfd with α:=(List zc8),enc:=zhl}
abbrev Xfe:=r1 (vNew 1 zdq dBool)
def zki:((List Bool))->AV×Mem:=Xfe.enc
abbrev zig:RD:={Xfe with α:=(List Bool),enc:=zki}
abbrev Xff:=rT (lCons (vAgg zdX) (lOne vBool))
def zi6:(za5×Bool)->AV×Mem:=Xff.enc
abbrev zi7:RD:={Xff with α:=za5×Bool,enc:=zi6}
abbrev Xfg:=rT (lCons (vI .u64) (lOne (vI .u64)))
def zve:(Int×Int)->AV×Mem:=Xfg.enc
abbrev zrB:RD:={Xfg with α:=Int×Int,enc:=zve}
def resTab:List RD:=[rRaw,rRaw,rRaw,zag,zag,zag,zag,zag,zag,zag,zsI,zlX,ziT,ziT,zky,zi9,zm0,zeh,zeh,zkj,zgH,zeN,zif,zgk,zyJ,zag,zag,zag,zgH,zli,zli,zag,zag,zag,zhv,zaR,zaR,zeh,zeh,zgk,zfT,zhN,zlj,zkz,zkB,zkA,zey,zm1,zmg,zbc,zmZ,zbc,zaR,zaR,zjw,zo6,zjF,zjF,zeN,zeu,zev,zgI,zhv,zaR,zgk,znz,zag,zag,zlG,zeP,zaR,zaR,ziS,ziS,zd6,zkC,zag,zag,zag,zag,zag,zag,zhv,zjF,zev,zkK,zg4,zlk,zll,zaR,zaR,zag,zag,zag,zaR,zo7,ziw,ze7,zaR,zev,rRaw,rRaw,ziX,zlm,zkK,zaR,zaR,zaR,zag,zd1,zeh,zd1,zag,zm4,zev,znz,zgR,zag,zag,zag,zag,zag,rRaw,zaR,zaR,zaR,ziX,zm3,zec,zaR,zaR,zkk,zgI,zag,zag,zag,zag,zd1,zeh,zd1,zag,zag,zep,zjZ,zm2,zep,zag,rRaw,zev,rRaw,rRaw,zhv,zkk,zgI,zag,zag,zag,zag,zag,zp2,zmh,zag,rRaw,rRaw,rRaw,rRaw,rRaw,rRaw,rRaw,rRaw,zaR,zaR,zag,zag,zjk,zag,rRaw,zmi,zlG,zag,zag,zag,zag,zag,zag,zag,zgR,zag,zag,zag,zag,zmh,zep,rRaw,rRaw,rRaw,rRaw,rRaw,rRaw,rRaw,rRaw,rRaw,rRaw,rRaw,rRaw,rRaw,rRaw,rRaw,rRaw,rRaw,zag,zi8,zag,zaR,zaR,zag,zag,zag,zag,zag,zaR,rRaw,rRaw,rRaw,rRaw,rRaw,zag,rRaw,rRaw,rRaw,rRaw,rRaw,rRaw,rRaw,rRaw,zaR,zag,zaR,zag,zif,zag,zag,zag,zaR,zag,zig,zag,rRaw,rRaw,rRaw,rRaw,rRaw,rRaw,zfT,zmi,zlG,zaR,rRaw,zag,rRaw,rRaw,rRaw,zaR,zag,rRaw,rRaw,zi7,zaR,zaR,rRaw,rRaw,zrB,zaR,rRaw,rRaw,rRaw,rRaw,rRaw,rRaw,rRaw,rRaw,rRaw,rRaw,rRaw,rRaw,rRaw,rRaw,rRaw,rRaw]
abbrev Xfh:=r1 (vNewm zct zdn)
def zfS:((List ((Int×Int)×zbO)))->AV×Mem:=Xfh.enc
abbrev zln:RD:={Xfh with α:=(List ((Int×Int)×zbO)),enc:=zfS}
def zT:Dic:=Dic.of tyTab resTab [(55,zkj),(75,zgk),(127,zln)]
abbrev zKC:Fr:=⟨Tryz.prog,zC,zA,7,Tryz.f7,[]⟩
abbrev zH9:Fr:=⟨Tryz.prog,zC,zA,8,Tryz.f8,[]⟩
abbrev zH8:Fr:=⟨Tryz.prog,zC,zA,9,Tryz.f9,[]⟩
abbrev zJv:Fr:=⟨Tryz.prog,zC,zA,10,Tryz.f10,[]⟩
abbrev ztJ:Fr:=⟨Tryz.prog,zC,zA,11,Tryz.f11,[(1000,⟨0,0,[],false⟩)]⟩
abbrev zmv:Fr:=⟨Tryz.prog,zC,zA,12,Tryz.f12,[(1000,⟨0,0,[],false⟩)]⟩
abbrev zsK:Fr:=⟨Tryz.prog,zC,zA,13,Tryz.f13,[(1000,⟨0,0,[],false⟩)]⟩
abbrev znB:Fr:=⟨Tryz.prog,zC,zA,14,Tryz.f14,[(1000,⟨0,0,[],false⟩)]⟩
abbrev zv7:Fr:=⟨Tryz.prog,zC,zA,15,Tryz.f15,[(1000,⟨0,0,[],false⟩)]⟩
abbrev zCS:Fr:=⟨Tryz.prog,zC,zA,16,Tryz.f16,[(1000,⟨0,0,[],false⟩)]⟩
abbrev ziF:Fr:=⟨Tryz.prog,zC,zA,17,Tryz.f17,[]⟩
abbrev zD2:Fr:=⟨Tryz.prog,zC,zA,18,Tryz.f18,[]⟩
abbrev zzS:Fr:=⟨Tryz.prog,zC,zA,19,Tryz.f19,[]⟩
abbrev zbE:Fr:=⟨Tryz.prog,zC,zA,20,Tryz.f20,[]⟩
abbrev zl0:Fr:=⟨Tryz.prog,zC,zA,21,Tryz.f21,[]⟩
abbrev zzO:Fr:=⟨Tryz.prog,zC,zA,22,Tryz.f22,[]⟩
abbrev zKB:Fr:=⟨Tryz.prog,zC,zA,23,Tryz.f23,[]⟩
abbrev zvv:Fr:=⟨Tryz.prog,zC,zA,29,Tryz.f29,[]⟩
abbrev zFH:Fr:=⟨Tryz.prog,zC,zA,31,Tryz.f31,[]⟩
abbrev zFG:Fr:=⟨Tryz.prog,zC,zA,35,Tryz.f35,[]⟩
abbrev zsQ:Fr:=⟨Tryz.prog,zC,zA,40,Tryz.f40,[]⟩
abbrev zFI:Fr:=⟨Tryz.prog,zC,zA,41,Tryz.f41,[]⟩
abbrev zkN:Fr:=⟨Tryz.prog,zC,zA,42,Tryz.f42,[(1000,⟨0,0,[],false⟩)]⟩
abbrev zrS:Fr:=⟨Tryz.prog,zC,zA,43,Tryz.f43,[(1000,⟨0,0,[],false⟩)]⟩
abbrev zkp:Fr:=⟨Tryz.prog,zC,zA,44,Tryz.f44,[(1000,⟨0,0,[],false⟩)]⟩
abbrev zzh:Fr:=⟨Tryz.prog,zC,zA,45,Tryz.f45,[(1000,⟨0,0,[],false⟩)]⟩
abbrev zCP:Fr:=⟨Tryz.prog,zC,zA,46,Tryz.f46,[(1000,⟨0,0,[],false⟩)]⟩
abbrev zuw:Fr:=⟨Tryz.prog,zC,zA,47,Tryz.f47,[(1000,⟨0,0,[],false⟩)]⟩
abbrev zzK:Fr:=⟨Tryz.prog,zC,zA,48,Tryz.f48,[]⟩
abbrev zCQ:Fr:=⟨Tryz.prog,zC,zA,49,Tryz.f49,[(1000,⟨0,0,[],false⟩)]⟩
abbrev zp4:Fr:=⟨Tryz.prog,zC,zA,50,Tryz.f50,[(1000,⟨0,0,[],false⟩)]⟩
abbrev zCR:Fr:=⟨Tryz.prog,zC,zA,51,Tryz.f51,[(1000,⟨0,0,[],false⟩)]⟩
abbrev zze:Fr:=⟨Tryz.prog,zC,zA,52,Tryz.f52,[]⟩
abbrev zD4:Fr:=⟨Tryz.prog,zC,zA,53,Tryz.f53,[]⟩
abbrev zwP:Fr:=⟨Tryz.prog,zC,zA,54,Tryz.f54,[(1000,⟨0,0,[],false⟩)]⟩
abbrev zby:Fr:=⟨Tryz.prog,zC,zA,55,Tryz.f55,[(1001,⟨0,0,[],false⟩)]⟩
abbrev zHb:Fr:=⟨Tryz.prog,zC,zA,56,Tryz.f56,[]⟩
abbrev zl1:Fr:=⟨Tryz.prog,zC,zA,57,Tryz.f57,[]⟩
abbrev zvy:Fr:=⟨Tryz.prog,zC,zA,60,Tryz.f60,[]⟩
abbrev zCN:Fr:=⟨Tryz.prog,zC,zA,61,Tryz.f61,[]⟩
abbrev zqS:Fr:=⟨Tryz.prog,zC,zA,62,Tryz.f62,[]⟩
abbrev zpV:Fr:=⟨Tryz.prog,zC,zA,63,Tryz.f63,[]⟩
abbrev ztM:Fr:=⟨Tryz.prog,zC,zA,64,Tryz.f64,[]⟩
abbrev zwa:Fr:=⟨Tryz.prog,zC,zA,65,Tryz.f65,[]⟩
abbrev zId:Fr:=⟨Tryz.prog,zC,zA,66,Tryz.f66,[]⟩
abbrev zvz:Fr:=⟨Tryz.prog,zC,zA,67,Tryz.f67,[]⟩
abbrev zsE:Fr:=⟨Tryz.prog,zC,zA,68,Tryz.f68,[(950,⟨0,0,[],false⟩)]⟩
abbrev zxO:Fr:=⟨Tryz.prog,zC,zA,70,Tryz.f70,[]⟩
abbrev zEc:Fr:=⟨Tryz.prog,zC,zA,71,Tryz.f71,[]⟩
abbrev zwQ:Fr:=⟨Tryz.prog,zC,zA,72,Tryz.f72,[]⟩
abbrev ztH:Fr:=⟨Tryz.prog,zC,zA,73,Tryz.f73,[]⟩
abbrev zbf:Fr:=⟨Tryz.prog,zC,zA,75,Tryz.f75,[(1000,⟨0,0,[],false⟩)]⟩
abbrev zIc:Fr:=⟨Tryz.prog,zC,zA,76,Tryz.f76,[]⟩
abbrev zIb:Fr:=⟨Tryz.prog,zC,zA,77,Tryz.f77,[]⟩
abbrev zHf:Fr:=⟨Tryz.prog,zC,zA,78,Tryz.f78,[]⟩
abbrev zHc:Fr:=⟨Tryz.prog,zC,zA,79,Tryz.f79,[]⟩
abbrev zpj:Fr:=⟨Tryz.prog,zC,zA,86,Tryz.f86,[(1000,⟨0,0,[],false⟩)]⟩
abbrev zob:Fr:=⟨Tryz.prog,zC,zA,87,Tryz.f87,[(1000,⟨0,0,[],false⟩)]⟩
abbrev zsL:Fr:=⟨Tryz.prog,zC,zA,88,Tryz.f88,[(1000,⟨0,0,[],false⟩)]⟩
abbrev zwR:Fr:=⟨Tryz.prog,zC,zA,89,Tryz.f89,[]⟩
abbrev zqr:Fr:=⟨Tryz.prog,zC,zA,90,Tryz.f90,[]⟩
abbrev zqs:Fr:=⟨Tryz.prog,zC,zA,91,Tryz.f91,[]⟩
abbrev zpw:Fr:=⟨Tryz.prog,zC,zA,92,Tryz.f92,[]⟩
abbrev zmw:Fr:=⟨Tryz.prog,zC,zA,93,Tryz.f93,[]⟩
abbrev zD7:Fr:=⟨Tryz.prog,zC,zA,94,Tryz.f94,[]⟩
abbrev zba:Fr:=⟨Tryz.prog,zC,zA,95,Tryz.f95,[]⟩
abbrev zpa:Fr:=⟨Tryz.prog,zC,zA,96,Tryz.f96,[]⟩
abbrev zv9:Fr:=⟨Tryz.prog,zC,zA,98,Tryz.f98,[]⟩
abbrev zfx:Fr:=⟨Tryz.prog,zC,zA,99,Tryz.f99,[]⟩
abbrev zD6:Fr:=⟨Tryz.prog,zC,zA,103,Tryz.f103,[]⟩
abbrev zrR:Fr:=⟨Tryz.prog,zC,zA,104,Tryz.f104,[]⟩
abbrev zpU:Fr:=⟨Tryz.prog,zC,zA,105,Tryz.f105,[]⟩
abbrev zqW:Fr:=⟨Tryz.prog,zC,zA,106,Tryz.f106,[]⟩
abbrev zHd:Fr:=⟨Tryz.prog,zC,zA,107,Tryz.f107,[]⟩
abbrev ztk:Fr:=⟨Tryz.prog,zC,zA,108,Tryz.f108,[]⟩
abbrev zy0:Fr:=⟨Tryz.prog,zC,zA,109,Tryz.f109,[]⟩
abbrev zj3:Fr:=⟨Tryz.prog,zC,zA,110,Tryz.f110,[]⟩
abbrev zEa:Fr:=⟨Tryz.prog,zC,zA,111,Tryz.f111,[]⟩
abbrev zzQ:Fr:=⟨Tryz.prog,zC,zA,112,Tryz.f112,[]⟩
abbrev zuB:Fr:=⟨Tryz.prog,zC,zA,113,Tryz.f113,[]⟩
abbrev zoc:Fr:=⟨Tryz.prog,zC,zA,114,Tryz.f114,[]⟩
abbrev zdo:Fr:=⟨Tryz.prog,zC,zA,115,Tryz.f115,[]⟩
abbrev zwW:Fr:=⟨Tryz.prog,zC,zA,116,Tryz.f116,[]⟩
abbrev zCV:Fr:=⟨Tryz.prog,zC,zA,117,Tryz.f117,[]⟩
abbrev zIe:Fr:=⟨Tryz.prog,zC,zA,118,Tryz.f118,[]⟩
abbrev zBz:Fr:=⟨Tryz.prog,zC,zA,119,Tryz.f119,[]⟩
abbrev ztN:Fr:=⟨Tryz.prog,zC,zA,120,Tryz.f120,[]⟩
abbrev zIf:Fr:=⟨Tryz.prog,zC,zA,121,Tryz.f121,[]⟩
abbrev zzJ:Fr:=⟨Tryz.prog,zC,zA,124,Tryz.f124,[]⟩
abbrev zBu:Fr:=⟨Tryz.prog,zC,zA,125,Tryz.f125,[]⟩
abbrev zuz:Fr:=⟨Tryz.prog,zC,zA,127,Tryz.f127,[(1000,⟨0,0,[],false⟩)]⟩
abbrev zwS:Fr:=⟨Tryz.prog,zC,zA,129,Tryz.f129,[]⟩
abbrev zxP:Fr:=⟨Tryz.prog,zC,zA,133,Tryz.f133,[]⟩
abbrev zvx:Fr:=⟨Tryz.prog,zC,zA,134,Tryz.f134,[]⟩
abbrev zCT:Fr:=⟨Tryz.prog,zC,zA,135,Tryz.f135,[]⟩
abbrev zwX:Fr:=⟨Tryz.prog,zC,zA,136,Tryz.f136,[]⟩
abbrev ztK:Fr:=⟨Tryz.prog,zC,zA,137,Tryz.f137,[]⟩
abbrev zqX:Fr:=⟨Tryz.prog,zC,zA,138,Tryz.f138,[]⟩
abbrev zBw:Fr:=⟨Tryz.prog,zC,zA,139,Tryz.f139,[]⟩
abbrev zqV:Fr:=⟨Tryz.prog,zC,zA,140,Tryz.f140,[]⟩
abbrev zBx:Fr:=⟨Tryz.prog,zC,zA,141,Tryz.f141,[]⟩
abbrev zux:Fr:=⟨Tryz.prog,zC,zA,142,Tryz.f142,[(1000,⟨0,0,[],false⟩),(900,⟨0,0,[],false⟩),(901,⟨0,0,[],false⟩),(902,⟨0,0,[],false⟩)]⟩
abbrev zhU:Fr:=⟨Tryz.prog,zC,zA,143,Tryz.f143,[]⟩
abbrev zuy:Fr:=⟨Tryz.prog,zC,zA,144,Tryz.f144,[]⟩
abbrev zrT:Fr:=⟨Tryz.prog,zC,zA,145,Tryz.f145,[(1000,⟨0,0,[],false⟩),(900,⟨0,0,[],false⟩),(901,⟨0,0,[],false⟩),(902,⟨0,0,[],false⟩)]⟩
abbrev zqU:Fr:=⟨Tryz.prog,zC,zA,146,Tryz.f146,[]⟩
abbrev zcw:Fr:=⟨Tryz.prog,zC,zA,151,Tryz.f151,[]⟩
abbrev zpu:Fr:=⟨Tryz.prog,zC,zA,152,Tryz.f152,[]⟩
abbrev zFL:Fr:=⟨Tryz.prog,zC,zA,153,Tryz.f153,[]⟩
abbrev R_ref24_in:Fr:=⟨Tryz.prog,zC,zA,154,Tryz.f154,[]⟩
abbrev zsP:Fr:=⟨Tryz.prog,zC,zA,155,Tryz.f155,[]⟩
abbrev zD9:Fr:=⟨Tryz.prog,zC,zA,156,Tryz.f156,[]⟩
abbrev zy2:Fr:=⟨Tryz.prog,zC,zA,157,Tryz.f157,[]⟩
abbrev zFK:Fr:=⟨Tryz.prog,zC,zA,158,Tryz.f158,[]⟩
abbrev ztl:Fr:=⟨Tryz.prog,zC,zA,159,Tryz.f159,[]⟩
abbrev zuA:Fr:=⟨Tryz.prog,zC,zA,160,Tryz.f160,[]⟩
abbrev zzP:Fr:=⟨Tryz.prog,zC,zA,161,Tryz.f161,[]⟩
abbrev zD3:Fr:=⟨Tryz.prog,zC,zA,172,Tryz.f172,[]⟩
abbrev zD5:Fr:=⟨Tryz.prog,zC,zA,173,Tryz.f173,[]⟩
abbrev zzL:Fr:=⟨Tryz.prog,zC,zA,174,Tryz.f174,[]⟩
abbrev zFJ:Fr:=⟨Tryz.prog,zC,zA,175,Tryz.f175,[]⟩
abbrev zis:Fr:=⟨Tryz.prog,zC,zA,180,Tryz.f180,[]⟩
abbrev zv8:Fr:=⟨Tryz.prog,zC,zA,181,Tryz.f181,[]⟩
abbrev ztI:Fr:=⟨Tryz.prog,zC,zA,182,Tryz.f182,[]⟩
abbrev zsR:Fr:=⟨Tryz.prog,zC,zA,183,Tryz.f183,[]⟩
abbrev zEb:Fr:=⟨Tryz.prog,zC,zA,184,Tryz.f184,[]⟩
abbrev zCX:Fr:=⟨Tryz.prog,zC,zA,185,Tryz.f185,[]⟩
abbrev zsN:Fr:=⟨Tryz.prog,zC,zA,186,Tryz.f186,[]⟩
abbrev zBv:Fr:=⟨Tryz.prog,zC,zA,187,Tryz.f187,[]⟩
abbrev zzT:Fr:=⟨Tryz.prog,zC,zA,188,Tryz.f188,[]⟩
abbrev zpx:Fr:=⟨Tryz.prog,zC,zA,189,Tryz.f189,[]⟩
abbrev zwU:Fr:=⟨Tryz.prog,zC,zA,190,Tryz.f190,[]⟩
abbrev zwV:Fr:=⟨Tryz.prog,zC,zA,191,Tryz.f191,[]⟩
abbrev zg9:Fr:=⟨Tryz.prog,zC,zA,192,Tryz.f192,[(1000,⟨0,0,[],false⟩),(900,⟨0,0,[],false⟩),(901,⟨0,0,[],false⟩),(902,⟨0,0,[],false⟩)]⟩
abbrev zzf:Fr:=⟨Tryz.prog,zC,zA,210,Tryz.f210,[]⟩
abbrev zlq:Fr:=⟨Tryz.prog,zC,zA,211,Tryz.f211,[]⟩
abbrev zvA:Fr:=⟨Tryz.prog,zC,zA,212,Tryz.f212,[]⟩
abbrev zzV:Fr:=⟨Tryz.prog,zC,zA,213,Tryz.f213,[]⟩
abbrev zCW:Fr:=⟨Tryz.prog,zC,zA,214,Tryz.f214,[]⟩
abbrev zBy:Fr:=⟨Tryz.prog,zC,zA,215,Tryz.f215,[]⟩
abbrev zCc:Fr:=⟨Tryz.prog,zC,zA,216,Tryz.f216,[]⟩
abbrev R_ref28_in:Fr:=⟨Tryz.prog,zC,zA,217,Tryz.f217,[]⟩
abbrev zzR:Fr:=⟨Tryz.prog,zC,zA,218,Tryz.f218,[]⟩
abbrev zHe:Fr:=⟨Tryz.prog,zC,zA,219,Tryz.f219,[]⟩
abbrev zy1:Fr:=⟨Tryz.prog,zC,zA,220,Tryz.f220,[]⟩
abbrev zzi:Fr:=⟨Tryz.prog,zC,zA,226,Tryz.f226,[]⟩
abbrev zfb:Fr:=⟨Tryz.prog,zC,zA,235,Tryz.f235,[]⟩
abbrev zCO:Fr:=⟨Tryz.prog,zC,zA,236,Tryz.f236,[]⟩
abbrev zvw:Fr:=⟨Tryz.prog,zC,zA,237,Tryz.f237,[]⟩
abbrev zt2:Fr:=⟨Tryz.prog,zC,zA,238,Tryz.f238,[]⟩
abbrev zyZ:Fr:=⟨Tryz.prog,zC,zA,239,Tryz.f239,[]⟩
abbrev zCU:Fr:=⟨Tryz.prog,zC,zA,240,Tryz.f240,[]⟩
abbrev zzU:Fr:=⟨Tryz.prog,zC,zA,241,Tryz.f241,[]⟩
abbrev zzN:Fr:=⟨Tryz.prog,zC,zA,242,Tryz.f242,[]⟩
abbrev zzM:Fr:=⟨Tryz.prog,zC,zA,243,Tryz.f243,[]⟩
abbrev zD8:Fr:=⟨Tryz.prog,zC,zA,244,Tryz.f244,[]⟩
abbrev zcq:Fr:=⟨Tryz.prog,zC,zA,245,Tryz.f245,[]⟩
abbrev ztL:Fr:=⟨Tryz.prog,zC,zA,246,Tryz.f246,[]⟩
abbrev zoa:Fr:=⟨Tryz.prog,zC,zA,253,Tryz.f253,[]⟩
abbrev zqT:Fr:=⟨Tryz.prog,zC,zA,254,Tryz.f254,[]⟩
abbrev zsM:Fr:=⟨Tryz.prog,zC,zA,255,Tryz.f255,[]⟩
abbrev zIa:Fr:=⟨Tryz.prog,zC,zA,256,Tryz.f256,[]⟩
abbrev zwT:Fr:=⟨Tryz.prog,zC,zA,258,Tryz.f258,[]⟩
abbrev zpy:Fr:=⟨Tryz.prog,zC,zA,262,Tryz.f262,[]⟩
abbrev zxQ:Fr:=⟨Tryz.prog,zC,zA,263,Tryz.f263,[]⟩
abbrev zpv:Fr:=⟨Tryz.prog,zC,zA,266,Tryz.f266,[]⟩
abbrev zzg:Fr:=⟨Tryz.prog,zC,zA,267,Tryz.f267,[]⟩
abbrev zsJ:Fr:=⟨Tryz.prog,zC,zA,268,Tryz.f268,[]⟩
abbrev zH7:Fr:=⟨Tryz.prog,zC,zA,271,Tryz.f271,[]⟩
abbrev zsO:Fr:=⟨Tryz.prog,zC,zA,127,Tryz.f127,[]⟩
abbrev cw[Dr]:zcv:=callw Tryz.prog zC zA
abbrev zP:Program:=Tryz.prog
theorem ke_3(x y:Int):keyEq zP 3 (I x) (I y)=some (decide (y=x)):=by
 have h:keyEq zP 3 (I x) (I y)=some (x==y):=by kernel_rfl
 rw[h];exact congrArg some (by rw[Bool.beq_eq_decide_eq];exact decide_eq_decide.2 eq_comm)
theorem znm{β:Type}(z:Bool)(key:Int)(l:List (Int×Bool))(k:Bool->Bool->Option β):mapD zP 3 false dBool (B z) (mO l) (I key) k=k ((mfind key l).getD z) (mfind key l).isSome:=
 zlA (agg:=false) (D:=dBool) (kenc:=λx=>I x) (venc:=λx=>B x) ke_3 (show∀x:Bool,avDec false dBool (B x)=some x from λx=>dBool.de x) z key l k
theorem zjG{β:Type}(key:Int)(v:Bool)(l:List (Int×Bool))(k:List (List AV)->Option β):msetD zP 3 4 (I key) (B v) (mO l) k=k (mO (mput key v l)):=
 zji (kenc:=λx=>I x) (venc:=λx=>B x) ke_3 key v l k
theorem zu7{β:Type}(z:Int)(key:Int)(l:List (Int×Int))(k:Int->Bool->Option β):mapD zP 3 false zbi (I z) (mR l) (I key) k=k ((mfind key l).getD z) (mfind key l).isSome:=
 zlA (agg:=false) (D:=zbi) (kenc:=λx=>I x) (venc:=λx=>I x) ke_3 (show∀x:Int,avDec false zbi (I x)=some x from λx=>zbi.de x) z key l k
theorem zJp{β:Type}(key:Int)(v:Int)(l:List (Int×Int))(k:List (List AV)->Option β):msetD zP 3 3 (I key) (I v) (mR l) k=k (mR (mput key v l)):=
 zji (kenc:=λx=>I x) (venc:=λx=>I x) ke_3 key v l k
theorem zmT{β:Type}(z:za9)(key:Int)(l:List (Int×za9))(k:za9->Bool->Option β):mapD zP 3 true zfz (.agg (zbI z)) (sB l) (I key) k=k ((mfind key l).getD z) (mfind key l).isSome:=
 zlA (agg:=true) (D:=zfz) (kenc:=λx=>I x) (venc:=λx=>.agg (zbI x)) ke_3 (show∀x:za9,avDec true zfz (.agg (zbI x))=some x from λx=>zfz.de x) z key l k
theorem zyQ{β:Type}(key:Int)(v:za9)(l:List (Int×za9))(k:List (List AV)->Option β):msetD zP 3 54 (I key) (.agg (zbI v)) (sB l) k=k (sB (mput key v l)):=
 zji (kenc:=λx=>I x) (venc:=λx=>.agg (zbI x)) ke_3 key v l k
theorem ke_137(x y:Int×Int):keyEq zP 137 (.agg (zbT x)) (.agg (zbT y))=some (decide (y=x)):=by
 have h1:eqV zP 20 137 [(.int .i64 x.1:Value),(.int .i64 x.2:Value)] [(.int .i64 y.1:Value),(.int .i64 y.2:Value)]=some (x.1==y.1&&(x.2==y.2&&true)):=by kernel_rfl
 have h2:bitsL [(.int .i64 x.1:Value),(.int .i64 x.2:Value)] [(.int .i64 y.1:Value),(.int .i64 y.2:Value)]=some (x.1==y.1&&(x.2==y.2&&true)):=by kernel_rfl
 have h:keyEq zP 137 (.agg (zbT x)) (.agg (zbT y))=agree (eqV zP 20 137 [(.int .i64 x.1:Value),(.int .i64 x.2:Value)] [(.int .i64 y.1:Value),(.int .i64 y.2:Value)]) (bitsL [(.int .i64 x.1:Value),(.int .i64 x.2:Value)] [(.int .i64 y.1:Value),(.int .i64 y.2:Value)]):=by kernel_rfl
 rw[h,h1,h2];have ha:∀b:Bool,agree (some b) (some b)=some b:=λb=>by simp[agree]
 rw[ha];refine congrArg some ?_;by_cases e:y=x
 ·rw[decide_eq_true e,e];simp
 ·rw[decide_eq_false e,Bool.eq_false_iff];intro q;simp only[zaO,beq_iff_eq,and_true]at q;refine e (zgd.inj ?_);show[I (y.1),I (y.2)]=[I (x.1),I (x.2)];simp only[q]
theorem zwD{β:Type}(z:zaA)(key:Int×Int)(l:List ((Int×Int)×zaA))(k:zaA->Bool->Option β):mapD zP 137 true zcz (.agg (zaw z)) (mQ l) (.agg (zbT key)) k=k ((mfind key l).getD z) (mfind key l).isSome:=
 zlA (agg:=true) (D:=zcz) (kenc:=λx=>.agg (zbT x)) (venc:=λx=>.agg (zaw x)) ke_137 (show∀x:zaA,avDec true zcz (.agg (zaw x))=some x from λx=>zcz.de x) z key l k
theorem zwI{β:Type}(key:Int×Int)(v:zaA)(l:List ((Int×Int)×zaA))(k:List (List AV)->Option β):msetD zP 137 62 (.agg (zbT key)) (.agg (zaw v)) (mQ l) k=k (mQ (mput key v l)):=
 zji (kenc:=λx=>.agg (zbT x)) (venc:=λx=>.agg (zaw x)) ke_137 key v l k
theorem zu6{β:Type}(z:Bool)(key:Int×Int)(l:List ((Int×Int)×Bool))(k:Bool->Bool->Option β):mapD zP 137 false dBool (B z) (mN l) (.agg (zbT key)) k=k ((mfind key l).getD z) (mfind key l).isSome:=
 zlA (agg:=false) (D:=dBool) (kenc:=λx=>.agg (zbT x)) (venc:=λx=>B x) ke_137 (show∀x:Bool,avDec false dBool (B x)=some x from λx=>dBool.de x) z key l k
theorem zvg{β:Type}(key:Int×Int)(v:Bool)(l:List ((Int×Int)×Bool))(k:List (List AV)->Option β):msetD zP 137 4 (.agg (zbT key)) (B v) (mN l) k=k (mN (mput key v l)):=
 zji (kenc:=λx=>.agg (zbT x)) (venc:=λx=>B x) ke_137 key v l k
theorem ke_181(x y:zaP):keyEq zP 181 (.agg (zcu x)) (.agg (zcu y))=some (decide (y=x)):=by
 have h1:eqV zP 20 181 [(.int .i64 x.script:Value),(.int .i64 x.part:Value)] [(.int .i64 y.script:Value),(.int .i64 y.part:Value)]=some (x.script==y.script&&(x.part==y.part&&true)):=by kernel_rfl
 have h2:bitsL [(.int .i64 x.script:Value),(.int .i64 x.part:Value)] [(.int .i64 y.script:Value),(.int .i64 y.part:Value)]=some (x.script==y.script&&(x.part==y.part&&true)):=by kernel_rfl
 have h:keyEq zP 181 (.agg (zcu x)) (.agg (zcu y))=agree (eqV zP 20 181 [(.int .i64 x.script:Value),(.int .i64 x.part:Value)] [(.int .i64 y.script:Value),(.int .i64 y.part:Value)]) (bitsL [(.int .i64 x.script:Value),(.int .i64 x.part:Value)] [(.int .i64 y.script:Value),(.int .i64 y.part:Value)]):=by kernel_rfl
 rw[h,h1,h2];have ha:∀b:Bool,agree (some b) (some b)=some b:=λb=>by simp[agree]
 rw[ha];refine congrArg some ?_;by_cases e:y=x
 ·rw[decide_eq_true e,e];simp
 ·rw[decide_eq_false e,Bool.eq_false_iff];intro q;simp only[zaO,beq_iff_eq,and_true]at q;refine e (zfK.inj ?_);show[I (y.script),I (y.part)]=[I (x.script),I (x.part)];simp only[q]
theorem zlJ{β:Type}(z:za6)(key:zaP)(l:List (zaP×za6))(k:za6->Bool->Option β):mapD zP 181 true zqz (.agg (zb6 z)) (mK l) (.agg (zcu key)) k=k ((mfind key l).getD z) (mfind key l).isSome:=
 zlA (agg:=true) (D:=zqz) (kenc:=λx=>.agg (zcu x)) (venc:=λx=>.agg (zb6 x)) ke_181 (show∀x:za6,avDec true zqz (.agg (zb6 x))=some x from λx=>zqz.de x) z key l k
theorem zrP{β:Type}(key:zaP)(v:za6)(l:List (zaP×za6))(k:List (List AV)->Option β):msetD zP 181 60 (.agg (zcu key)) (.agg (zb6 v)) (mK l) k=k (mK (mput key v l)):=
 zji (kenc:=λx=>.agg (zcu x)) (venc:=λx=>.agg (zb6 x)) ke_181 key v l k
theorem zpf{β:Type}(z:Int)(key:zaP)(l:List (zaP×Int))(k:Int->Bool->Option β):mapD zP 181 false zbi (I z) (mL l) (.agg (zcu key)) k=k ((mfind key l).getD z) (mfind key l).isSome:=
 zlA (agg:=false) (D:=zbi) (kenc:=λx=>.agg (zcu x)) (venc:=λx=>I x) ke_181 (show∀x:Int,avDec false zbi (I x)=some x from λx=>zbi.de x) z key l k
theorem zvr{β:Type}(key:zaP)(v:Int)(l:List (zaP×Int))(k:List (List AV)->Option β):msetD zP 181 3 (.agg (zcu key)) (I v) (mL l) k=k (mL (mput key v l)):=
 zji (kenc:=λx=>.agg (zcu x)) (venc:=λx=>I x) ke_181 key v l k
theorem zpH{β:Type}(key:zaP)(v:zac)(l:List (zaP×zac))(k:List (List AV)->Option β):msetD zP 181 85 (.agg (zcu key)) (.agg (zab v)) (sA l) k=k (sA (mput key v l)):=
 zji (kenc:=λx=>.agg (zcu x)) (venc:=λx=>.agg (zab x)) ke_181 key v l k
theorem zvL{β:Type}(z:Int)(key:Int×Int)(l:List ((Int×Int)×Int))(k:Int->Bool->Option β):mapD zP 137 false zbi (I z) (mZ l) (.agg (zbT key)) k=k ((mfind key l).getD z) (mfind key l).isSome:=
 zlA (agg:=false) (D:=zbi) (kenc:=λx=>.agg (zbT x)) (venc:=λx=>I x) ke_137 (show∀x:Int,avDec false zbi (I x)=some x from λx=>zbi.de x) z key l k
theorem zFB{β:Type}(key:Int×Int)(v:Int)(l:List ((Int×Int)×Int))(k:List (List AV)->Option β):msetD zP 137 3 (.agg (zbT key)) (I v) (mZ l) k=k (mZ (mput key v l)):=
 zji (kenc:=λx=>.agg (zbT x)) (venc:=λx=>I x) ke_137 key v l k
theorem znZ{β:Type}(z:zbO)(key:Int×Int)(l:List ((Int×Int)×zbO))(k:zbO->Bool->Option β):mapD zP 137 true zgM (.agg (zcK z)) (mY l) (.agg (zbT key)) k=k ((mfind key l).getD z) (mfind key l).isSome:=
 zlA (agg:=true) (D:=zgM) (kenc:=λx=>.agg (zbT x)) (venc:=λx=>.agg (zcK x)) ke_137 (show∀x:zbO,avDec true zgM (.agg (zcK x))=some x from λx=>zgM.de x) z key l k
theorem zfv{β:Type}(key:Int×Int)(v:zbO)(l:List ((Int×Int)×zbO))(k:List (List AV)->Option β):msetD zP 137 209 (.agg (zbT key)) (.agg (zcK v)) (mY l) k=k (mY (mput key v l)):=
 zji (kenc:=λx=>.agg (zbT x)) (venc:=λx=>.agg (zcK x)) ke_137 key v l k
theorem zpF{β:Type}(z:List zbY)(key:Int)(l:List (Int×(List zbY)))(k:(List zbY)->Bool->Option β):mapD zP 3 false ziM (.sl 2 (mP z)) (mV l) (I key) k=k ((mfind key l).getD z) (mfind key l).isSome:=
 zlA (agg:=false) (D:=ziM) (kenc:=λx=>I x) (venc:=λx=>.sl 2 (mP x)) ke_3 (show∀x:List zbY,avDec false ziM (.sl 2 (mP x))=some x from λx=>ziM.de x) z key l k
theorem zwJ{β:Type}(key:Int)(v:List zbY)(l:List (Int×(List zbY)))(k:List (List AV)->Option β):msetD zP 3 240 (I key) (.sl 2 (mP v)) (mV l) k=k (mV (mput key v l)):=
 zji (kenc:=λx=>I x) (venc:=λx=>.sl 2 (mP x)) ke_3 key v l k
@[simp] theorem zKA{β:Type} (v) (k:_->Option β):callD zag (some (zap v)) k=k v:=zbK k
@[simp] theorem zEI{β:Type} (v) (k:_->Option β):callD zsI (some (zwF v)) k=k v:=zbK k
@[simp] theorem zw9{β:Type} (v) (k:_->Option β):callD zlX (some (zlW v)) k=k v:=zbK k
@[simp] theorem zq2{β:Type} (v) (k:_->Option β):callD ziT (some (zgF v)) k=k v:=zbK k
@[simp] theorem zvn{β:Type} (v) (k:_->Option β):callD zky (some (zkv v)) k=k v:=zbK k
@[simp] theorem zts{β:Type} (v) (k:_->Option β):callD zi9 (some (zlE v)) k=k v:=zbK k
@[simp] theorem zya{β:Type} (v) (k:_->Option β):callD zm0 (some (zqj v)) k=k v:=zbK k
@[simp] theorem zmy{β:Type} (v) (k:_->Option β):callD zeh (some (zdc v)) k=k v:=zbK k
@[simp] theorem zp6{β:Type} (v) (k:_->Option β):callD zkj (some (zme v)) k=k v:=zbK k
@[simp] theorem zlr{β:Type} (v) (k:_->Option β):callD zgH (some (zoB v)) k=k v:=zbK k
@[simp] theorem zgz{β:Type} (v) (k:_->Option β):callD zeN (some (zeg v)) k=k v:=zbK k
@[simp] theorem zkb{β:Type} (v) (k:_->Option β):callD zif (some (zmd v)) k=k v:=zbK k
@[simp] theorem zKN{β:Type} (v) (k:_->Option β):callD zgk (some (ze3 v)) k=k v:=zbK k
@[simp] theorem zzu{β:Type} (v) (k:_->Option β):callD zli (some (zn2 v)) k=k v:=zbK k
@[simp] theorem za7{β:Type} (v) (k:_->Option β):callD zaR (some (zbm v)) k=k v:=zbK k
@[simp] theorem ziZ{β:Type} (v) (k:_->Option β):callD zfT (some (zhM v)) k=k v:=zbK k
@[simp] theorem zAr{β:Type} (v) (k:_->Option β):callD zhN (some (zsw v)) k=k v:=zbK k
@[simp] theorem zJQ{β:Type} (v) (k:_->Option β):callD zlj (some (zjj v)) k=k v:=zbK k
@[simp] theorem zJs{β:Type} (v) (k:_->Option β):callD zkz (some (zkw v)) k=k v:=zbK k
@[simp] theorem zJu{β:Type} (v) (k:_->Option β):callD zkB (some (zkx v)) k=k v:=zbK k
@[simp] theorem zJt{β:Type} (v) (k:_->Option β):callD zkA (some (znK v)) k=k v:=zbK k
@[simp] theorem zdT{β:Type} (v) (k:_->Option β):callD zey (some (zqh v)) k=k v:=zbK k
@[simp] theorem zyb{β:Type} (v) (k:_->Option β):callD zm1 (some (zmX v)) k=k v:=zbK k
@[simp] theorem zmA{β:Type} (v) (k:_->Option β):callD zmg (some (zrA v)) k=k v:=zbK k
@[simp] theorem zbo{β:Type} (v) (k:_->Option β):callD zbc (some (zmW v)) k=k v:=zbK k
@[simp] theorem zx9{β:Type} (v) (k:_->Option β):callD zmZ (some (zqi v)) k=k v:=zbK k
@[simp] theorem zt4{β:Type} (v) (k:_->Option β):callD zjw (some (zmb v)) k=k v:=zbK k
@[simp] theorem zAs{β:Type} (v) (k:_->Option β):callD zo6 (some (zsx v)) k=k v:=zbK k
@[simp] theorem ztP{β:Type} (v) (k:_->Option β):callD zjF (some (zkH v)) k=k v:=zbK k
@[simp] theorem zin{β:Type} (v) (k:_->Option β):callD zeu (some (zet v)) k=k v:=zbK k
@[simp] theorem ziy{β:Type} (v) (k:_->Option β):callD zev (some (zdu v)) k=k v:=zbK k
@[simp] theorem zmz{β:Type} (v) (k:_->Option β):callD zgI (some (zmV v)) k=k v:=zbK k
@[simp] theorem znC{β:Type} (v) (k:_->Option β):callD zhv (some (zkJ v)) k=k v:=zbK k
@[simp] theorem zvH{β:Type} (v) (k:_->Option β):callD znz (some (zny v)) k=k v:=zbK k
@[simp] theorem zvI{β:Type} (v) (k:_->Option β):callD zlG (some (zlF v)) k=k v:=zbK k
@[simp] theorem zlL{β:Type} (v) (k:_->Option β):callD zeP (some (zeO v)) k=k v:=zbK k
@[simp] theorem zof{β:Type} (v) (k:_->Option β):callD ziS (some (zj7 v)) k=k v:=zbK k
@[simp] theorem zn8{β:Type} (v) (k:_->Option β):callD zd6 (some (zeK v)) k=k v:=zbK k
@[simp] theorem zvo{β:Type} (v) (k:_->Option β):callD zkC (some (zg8 v)) k=k v:=zbK k
@[simp] theorem zqu{β:Type} (v) (k:_->Option β):callD zg4 (some (zpr v)) k=k v:=zbK k
@[simp] theorem zwi{β:Type} (v) (k:_->Option β):callD zlk (some (zoC v)) k=k v:=zbK k
@[simp] theorem zwj{β:Type} (v) (k:_->Option β):callD zll (some (zlf v)) k=k v:=zbK k
@[simp] theorem zAt{β:Type} (v) (k:_->Option β):callD zo7 (some (zmc v)) k=k v:=zbK k
@[simp] theorem zsS{β:Type} (v) (k:_->Option β):callD ziw (some (zfa v)) k=k v:=zbK k
@[simp] theorem zmm{β:Type} (v) (k:_->Option β):callD ze7 (some (ze6 v)) k=k v:=zbK k
@[simp] theorem zrW{β:Type} (v) (k:_->Option β):callD zlm (some (zlg v)) k=k v:=zbK k
@[simp] theorem zpb{β:Type} (v) (k:_->Option β):callD zkK (some (znn v)) k=k v:=zbK k
@[simp] theorem zg0{β:Type} (v) (k:_->Option β):callD zd1 (some (zir v)) k=k v:=zbK k
@[simp] theorem zye{β:Type} (v) (k:_->Option β):callD zm4 (some (zkh v)) k=k v:=zbK k
@[simp] theorem zjb{β:Type} (v) (k:_->Option β):callD zgR (some (zj8 v)) k=k v:=zbK k
@[simp] theorem zyd{β:Type} (v) (k:_->Option β):callD zm3 (some (zgG v)) k=k v:=zbK k
@[simp] theorem zj4{β:Type} (v) (k:_->Option β):callD zec (some (zeb v)) k=k v:=zbK k
@[simp] theorem ziI{β:Type} (v) (k:_->Option β):callD zep (some (zdd v)) k=k v:=zbK k
@[simp] theorem zuM{β:Type} (v) (k:_->Option β):callD zjZ (some (zie v)) k=k v:=zbK k
@[simp] theorem zyc{β:Type} (v) (k:_->Option β):callD zm2 (some (zkg v)) k=k v:=zbK k
@[simp] theorem zjB{β:Type} (v) (k:_->Option β):callD zkk (some (zmY v)) k=k v:=zbK k
@[simp] theorem zBR{β:Type} (v) (k:_->Option β):callD zp2 (some (zkI v)) k=k v:=zbK k
@[simp] theorem zuN{β:Type} (v) (k:_->Option β):callD zmh (some (zoD v)) k=k v:=zbK k
@[simp] theorem zpB{β:Type} (v) (k:_->Option β):callD zjk (some (zlh v)) k=k v:=zbK k
@[simp] theorem ztr{β:Type} (v) (k:_->Option β):callD zi8 (some (zhl v)) k=k v:=zbK k
@[simp] theorem zr8{β:Type} (v) (k:_->Option β):callD zig (some (zki v)) k=k v:=zbK k
@[simp] theorem zuL{β:Type} (v) (k:_->Option β):callD zmi (some (zmf v)) k=k v:=zbK k
@[simp] theorem ztq{β:Type} (v) (k:_->Option β):callD zi7 (some (zi6 v)) k=k v:=zbK k
@[simp] theorem zDi{β:Type} (v) (k:_->Option β):callD zrB (some (zve v)) k=k v:=zbK k
@[simp] theorem zwk{β:Type} (v) (k:_->Option β):callD zln (some (zfS v)) k=k v:=zbK k
abbrev Qq(a b:Option (AV×Mem)):Prop:=∀{y},a=some y->b=some y
theorem ptT[Dr](cut:List Nat){R:Fr}{j:Nat}{st:St}{x:Option (AV×Mem)} {y} (hx:tGo R zT cut 100000 (decide (j≠0)) (ptS R.fn j) st=x:=by kernel_rfl) (h:x=some y):pt R j st=some y:=pt_of zT cut hx h
theorem cwT[Dr](R:Fr)(cut:List Nat){args:List AV}{ms:Mem}{x:Option (AV×Mem)} {y} (ho:R.C.orc R.f args ms=none:=by rfl) (hf:R.P.funcs[R.f]?=some R.fn:=by kernel_rfl) (he:enters R.P R.f=true:=by kernel_rfl) (hN:decide (R.fn.ntmps<=1000/\args.length<=R.fn.ntmps)=true:=by kernel_rfl) (hm:R.ms=Go.Ab.blank ms:=by kernel_rfl) (hx:tGo R zT cut 100000 false (ptK R.fn 0) { t:=argTab 0 args,m:=ms }=x:=by kernel_rfl) (h:x=some y):callw R.P R.C R.F R.f args ms=some y:=callw_tree R zT cut ho hf he hN hm hx h
abbrev mS:=List.map nDp
abbrev pJ:=λx=>(⟨9,zaE,[zas x],true⟩:Ent)
abbrev pI:=λx=>(⟨2,zal,[zaG x],true⟩:Ent)
abbrev pK:=λx=>(⟨9,zak,[zab x],true⟩:Ent)
abbrev pR:=λx=>(⟨2,zaS,[zbI x],true⟩:Ent)
abbrev pQ:=λx=>(⟨3,zdH,[zck x],true⟩:Ent)
abbrev pL:=λx=>(⟨6,za8,[zaw x],true⟩:Ent)
abbrev pM:=λx=>(⟨2,zdl,[zdw x],true⟩:Ent)
abbrev pN:=λx=>(⟨3,zdW,[zb6 x],true⟩:Ent)
abbrev pO:=λx=>(⟨3,zcT,[zaQ x],true⟩:Ent)
abbrev pP:=λx=>(⟨2,zgJ,[zbT x],true⟩:Ent)
abbrev pS:=λx=>(⟨2,zdN,[zbL x],true⟩:Ent)
abbrev pW:=λx=>(⟨2,zgt,[zcp x],true⟩:Ent)
abbrev pT:=λx=>(⟨2,zfL,[zcA x],true⟩:Ent)
abbrev pU:=λx=>(⟨7,zc6,[za1 x],true⟩:Ent)
abbrev pX:=λx=>(⟨2,zgK,[zcK x],true⟩:Ent)
abbrev pV:=λx=>(⟨5,zdM,[zbb x],true⟩:Ent)
abbrev pY:=λx=>(⟨8,zbl,[zaC x],true⟩:Ent)
abbrev pZ:=λx=>(⟨4,zhO,[zbQ x],true⟩:Ent)
abbrev gA:=λx=>(⟨12,zaD,x,false⟩:Ent)
abbrev gB:=λx=>(⟨9,zak,x,false⟩:Ent)
abbrev gC:=λx=>(⟨1,za2,x,false⟩:Ent)
abbrev gO:=λx=>(⟨0,zd2,x,false⟩:Ent)
abbrev gD:=λx=>(⟨0,zaK,x,false⟩:Ent)
abbrev gE:=λx=>(⟨8,zbl,x,false⟩:Ent)
abbrev gN:=λx=>(⟨0,zcQ,x,false⟩:Ent)
abbrev gF:=λx=>(⟨0,zbM,x,false⟩:Ent)
abbrev gG:=λx=>(⟨10,zb1,x,false⟩:Ent)
abbrev gH:=λx=>(⟨0,zbk,x,false⟩:Ent)
abbrev gI:=λx=>(⟨1,zdq,x,false⟩:Ent)
abbrev gJ:=λx=>(⟨1,zcO,x,false⟩:Ent)
abbrev gK:=λx=>(⟨0,zbA,x,false⟩:Ent)
abbrev gL:=λx=>(⟨6,za8,x,false⟩:Ent)
abbrev gM:=λx=>(⟨0,zcg,x,false⟩:Ent)
abbrev gP:=λx=>(⟨0,zct,x,false⟩:Ent)
abbrev bI:Ent:=⟨2,zaS,[[bH,bH]],true⟩
end Go.Proofs.YtlecnobdfhlmnaaGreat
end
