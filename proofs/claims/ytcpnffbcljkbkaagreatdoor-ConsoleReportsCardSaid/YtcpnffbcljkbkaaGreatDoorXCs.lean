/- The console in plain words: what an operation's line is, and what a line says. -/
import Derived.Test.YtcpnffbcljkbkaaGreatDoorXFid
import Derived.Test.YtcpnffbcljkbkaaGreatDoorAb2
import Derived.Test.YtcpnffbcljkbkaaGreatDoorXSt
set_option linter.all false
noncomputable section
namespace Go.Proofs.YtcpnffbcljkbkaaGreatDoor
open Go.Ab Go.Str
abbrev zR:=zB @w64_id zF
abbrev zV:=zB zF (zB @zab.{0,0} @zaz)
abbrev zW:=zB zI @zaI
def tx(l:List UInt8):ByteArray:=⟨l.toArray⟩
def zhV(l:List UInt8):(tx l).data.toList=l:=by simp[tx]
def tx_of(s:ByteArray):tx s.data.toList=s:=rfl
def zdI(l:List UInt8):(tx l).size=l.length:=by simp[tx,ByteArray.size]
def zqX(a b:List UInt8):tx a++tx b=tx (a++b):=by apply ByteArray.ext;simp[tx]
def zOp:GOp:=⟨0,⟨0,0,0⟩,⟨0,0,0,0,0,[],[]⟩,⟨⟨0,0,0⟩,0,0,0,0,0,[]⟩,⟨0,0⟩,⟨⟨0,0,0⟩,0,0,0⟩,[],0,0⟩
def blankS:Nat->GOp
 |1=>{ zOp with k:=1 }
 |2=>{ zOp with k:=2 }
 |3=>{ zOp with k:=2,J:={ zOp.J with k:=1 } }
 |4=>{ zOp with k:=2,J:={ zOp.J with k:=2 } }
 |5=>{ zOp with k:=3 }
 |6=>{ zOp with k:=4 }
 |7=>{ zOp with k:=4,M:={ zOp.M with k:=1 } }
 |8=>{ zOp with k:=5 }
 |9=>{ zOp with k:=6 }
 |10=>{ zOp with k:=7 }
 |11=>{ zOp with k:=8 }
 |_=>zOp
def slotsC:Nat->List (Bool×Nat)
 |0=>[(false,1),(false,2),(false,3)]
 |1=>[(false,4),(false,5),(false,6),(false,7),(false,8),(true,9),(true,10)]
 |2=>[(false,11),(false,12),(false,13),(false,15),(false,16),(false,17),(true,19)]
 |3=>[(false,11),(false,12),(false,13),(false,18)]
 |4=>[(false,11),(false,12),(false,13),(false,15),(false,16)]
 |5=>[(false,20),(false,21)]
 |6=>[(false,22),(false,23),(false,24),(false,26)]
 |7=>[(false,22),(false,23),(false,24),(false,27)]
 |8=>[(false,29),(true,28)]
 |9=>[(false,29)]
 |10=>[(false,29)]
 |11=>[(false,29),(false,30)]
 |_=>[]
def formsT:List (List UInt8×Int):=[([101,110,116,114,121],4),([115,99,114,105,112,116],8),([109,97,114,107],8),([114,101,105,110,115,116,97,116,101],5),([114,101,111,112,101,110],6),([115,112,101,99,105,97,108],3),([114,101,118,105,101,119],5),([114,101,109,97,114,107],5),([98,111,117,110,100,115],3),([112,117,98,108,105,115,104],2),([99,101,114,116,105,102,121],2),([114,101,118,111,107,101],3)]
def kw(w:Nat):List UInt8:=((formsT[w]?).map (·.1)).getD []
def getN:Nat->GOp->Int
 |1,o=>o.A.b|2,o=>o.A.w|3,o=>o.A.v
 |4,o=>o.g.l|5,o=>o.g.v|6,o=>o.g.b|7,o=>o.g.w|8,o=>o.g.D
 |11,o=>o.J.c.p|12,o=>o.J.c.n|13,o=>o.J.c.S
 |15,o=>o.J.g|16,o=>o.J.G|17,o=>o.J.q|18,o=>o.J.E
 |20,o=>o.xd.b|21,o=>o.xd.xl
 |22,o=>o.M.c.p|23,o=>o.M.c.n|24,o=>o.M.c.S
 |26,o=>o.M.b|27,o=>o.M.E|29,o=>o.p|30,o=>o.l
 |_,o=>o.k
def getL:Nat->GOp->List Int
 |9,o=>o.g.r|10,o=>o.g.I|19,o=>o.J.r|_,o=>o.W
def putN(v:Int):Nat->GOp->GOp
 |1,o=>{ o with A:={ o.A with b:=v } }|2,o=>{ o with A:={ o.A with w:=v } }|3,o=>{ o with A:={ o.A with v:=v } }
 |4,o=>{ o with g:={ o.g with l:=v } }|5,o=>{ o with g:={ o.g with v:=v } }|6,o=>{ o with g:={ o.g with b:=v } }
 |7,o=>{ o with g:={ o.g with w:=v } }|8,o=>{ o with g:={ o.g with D:=v } }
 |11,o=>{ o with J:={ o.J with c:={ o.J.c with p:=v } } }|12,o=>{ o with J:={ o.J with c:={ o.J.c with n:=v } } }
 |13,o=>{ o with J:={ o.J with c:={ o.J.c with S:=v } } }
 |15,o=>{ o with J:={ o.J with g:=v } }|16,o=>{ o with J:={ o.J with G:=v } }|17,o=>{ o with J:={ o.J with q:=v } }
 |18,o=>{ o with J:={ o.J with E:=v } }
 |20,o=>{ o with xd:={ o.xd with b:=v } }|21,o=>{ o with xd:={ o.xd with xl:=v } }
 |22,o=>{ o with M:={ o.M with c:={ o.M.c with p:=v } } }|23,o=>{ o with M:={ o.M with c:={ o.M.c with n:=v } } }
 |24,o=>{ o with M:={ o.M with c:={ o.M.c with S:=v } } }
 |26,o=>{ o with M:={ o.M with b:=v } }|27,o=>{ o with M:={ o.M with E:=v } }
 |29,o=>{ o with p:=v }|30,o=>{ o with l:=v }
 |_,o=>{ o with k:=v }
def putL(v:aQ):Nat->GOp->GOp
 |9,o=>{ o with g:={ o.g with r:=v } }|10,o=>{ o with g:={ o.g with I:=v } }
 |19,o=>{ o with J:={ o.J with r:=v } }|_,o=>{ o with W:=v }
def copy1(o c:GOp)(p:Bool×Nat):GOp:=if p.1 then putL (getL p.2 o) p.2 c else putN (getN p.2 o) p.2 c
def copyS(w:Nat)(o:GOp):GOp:=(slotsC w).foldl (copy1 o) (blankS w)
def okW(o:GOp)(p:Bool×Nat):Prop:=if p.1 then(getL p.2 o).length<=300/\∀n∈getL p.2 o,fits n else fits (getN p.2 o)
instance(o:GOp)(p:Bool×Nat):Decidable (okW o p):=by unfold okW;split<;>infer_instance
def wordC(o:GOp)(p:Bool×Nat):List UInt8:=if p.1 then wordL (getL p.2 o)else Lib.itoa (getN p.2 o)
def isForm(o:GOp)(w:Nat):Bool:=decide (o.k=(blankS w).k)&&((decide (o.k≠2)||decide (o.J.k=(blankS w).J.k))&&(decide (o.k≠4)||decide (o.M.k=(blankS w).M.k)))
def zfF(o:GOp):Nat:=((List.range 12).find? (isForm o)).getD 12
def lineS(w:Nat)(o:GOp):List UInt8:=Lib.join (kw w::(slotsC w).map (wordC o)) [32]
def fmtS(o:GOp):Option (List UInt8):=
 if zfF o<12/\(∀p∈slotsC (zfF o),okW o p)/\copyS (zfF o) o=o then some (lineS (zfF o) o)else none
def read1(c:GOp)(p:Bool×Nat)(w:List UInt8):Option GOp:=
 if p.1 then(readL w).map λl=>putL l p.2 c else(numS w).map λn=>putN n p.2 c
def zkJ:List (Bool×Nat)->List (List UInt8)->GOp->Option GOp
 |[],_,c=>some c
 |p::ps,w::ws,c=>match read1 c p w with
   |some c'=>zkJ ps ws c'
   |none=>none
 |_,_,_=>none
def zkF(k:List UInt8):Nat:=((List.range 12).find? λw=>kw w==k).getD 12
def parS(l:List UInt8):Option GOp:=
 match splitC 32 l with
 |[]=>none
 |k::ws=>if zkF k<12/\ws.length=(slotsC (zkF k)).length then zkJ (slotsC (zkF k)) ws (blankS (zkF k))else none
def W64(n:Int):Prop:=-9223372036854775808<=n/\n<=9223372036854775807
structure OpW(o:GOp):Prop where
 num:∀k,W64 (getN k o)
 list:∀k,(getL k o).length<=1000/\∀n∈getL k o,W64 n
def fmtR(o:GOp):List UInt8×Int:=match fmtS o with
 |some l=>(l,0)
 |none=>([],1)
def parR(l:List UInt8):GOp×Int:=match parS l with
 |some o=>(o,0)
 |none=>(zOp,7)
def zgo(w:List UInt8)(ns:aQ):List UInt8:=ns.foldl (λs n=>s++32::Lib.itoa n) w
def outS(o:zbo):List UInt8:=
 if o.k=0 then zgo (Lib.itoa o.b++[32,103,114,97,100,101]) [o.R,o.xe]
 else if o.k=1 then Lib.itoa o.b++[32,97,98,115,101,110,116]
 else if o.k=2 then zgo (Lib.itoa o.b++[32,112,101,110,100,105,110,103]) [o.xn]else[]
def outsS(l:List zbo):List UInt8:=l.flatMap λo=>outS o++[10]
def pubS(p:zc8):List UInt8:=zgo [112,117,98,108,105,115,104,101,100] [p.At,p.p]++[10]++outsS p.y
def logS(e:zaV):List UInt8:=
 (if e.k=0 then zgo [105,115,115,117,101] [e.a.ID,e.a.b,e.a.R,e.a.p,e.a.K]
  else zgo [114,101,118,111,107,101] [e.a.ID,e.a.p])++[10]
def repS(x:zcE):List UInt8:=x.s.flatMap pubS++x.xj.flatMap logS++[110,111,119,10]++outsS x.y
def OutW(o:zbo):Prop:=W64 o.b/\W64 o.R/\W64 o.xe/\W64 o.xn
structure RepW(x:zcE):Prop where
 pub:∀p∈x.s,W64 p.At/\W64 p.p/\∀o∈p.y,OutW o
 log:∀e∈x.xj,W64 e.a.ID/\W64 e.a.b/\W64 e.a.R/\W64 e.a.p/\W64 e.a.K
 out:∀o∈x.y,OutW o
 size:(repS x).length<=1000000000000
 few:x.s.length<=1000000000/\x.xj.length<=1000000000/\x.y.length<=1000000000/\∀p∈x.s,p.y.length<=1000000000
end Go.Proofs.YtcpnffbcljkbkaaGreatDoor
end
