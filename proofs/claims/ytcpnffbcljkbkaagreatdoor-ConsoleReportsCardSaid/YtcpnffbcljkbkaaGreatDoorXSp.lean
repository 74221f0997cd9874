/- What the console's library answers, and what is known of variables that nobody writes. -/
import Derived.Test.YtcpnffbcljkbkaaGreatDoorXFid
import Derived.Test.YtcpnffbcljkbkaaGreatDoorAb2
import Derived.Test.YtcpnffbcljkbkaaGreatDoorXLy
import Derived.Test.YtcpnffbcljkbkaaGreatDoorXCs
set_option linter.all false
noncomputable section
namespace Go.Proofs.YtcpnffbcljkbkaaGreatDoor
open Go.Ab
def zd1:List Value:=formsT.flatMap λp=>[.string (tx p.1),.int .i64 p.2]
def varsOk(S:aD)(w:World):Prop:=
 (S 0/\w.var? Tryz.prog "awardingbody/console.forms"=some zd1.toArray)/\(S 1/\∃m,w.cell? ⟨1,0,none⟩=some (.int .i64 m))/\(S 2/\Lib.TabIs Tryz.prog w "internal/strconv.uint64pow10" .u64 Lib.pow10Tab)
def g0:Tryz.prog.globalNamed "awardingbody/console.forms"=some 0:=by kernel_rfl
def g2:Tryz.prog.globalNamed "internal/strconv.uint64pow10"=some 2:=by kernel_rfl
instance zDr:Dr where
 on:=False
 ok:=varsOk
 keep:=by
  rintro S S' w w' ⟨⟨a1,a2⟩,⟨b1,m,b2⟩,c1,c2⟩ hS hw
  refine⟨⟨hS _ a1,?_⟩,⟨hS _ b1,m,?_⟩,hS _ c1,?_⟩
  .rw[<-a2];unfold World.var?;rw[g0];show(match w'.heap[0]? with|some (.cells cs _ _)=>some cs|_=>none)=_;rw[hw 0 a1];rfl
  .rw[<-b2];exact World.cell?_of_block (hw 1 b1)
  .unfold Lib.TabIs at c2 ⊢;rw[<-c2];unfold World.var?;rw[g2];show(match w'.heap[2]? with|some (.cells cs _ _)=>some cs|_=>none)=_;rw[hw 2 c1];rfl
def strsOf:List (List AV)->Option (List ByteArray)
 |[]=>some []
 |[.v (.string s)]::r=>(strsOf r).map (s::·)
 |_=>none
def oItoa:List AV->Option (AV×Mem)
 |[.v (.int .i64 n)]=>if -9223372036854775808<=n/\n<=9223372036854775807 then some (.v (.string (tx (Lib.itoa n))),[])else none
 |_=>none
def oSplit:List AV->Option (AV×Mem)
 |[.v (.string s),.v (.string sep)]=>if s.size<4294967281/\1<=sep.size then some (.new 1 9 ((Lib.splitB sep 0 (Lib.countB s sep) s).map λx=>[.v (.string x)]),[])else none
 |_=>none
def oCut:List AV->Option (AV×Mem)
 |[.v (.string s),.v (.string sep)]=>if s.size<4294967281 then some (.tup [.v (.string (tx (Lib.cut s.data.toList sep.data.toList).1)),.v (.string (tx (Lib.cut s.data.toList sep.data.toList).2.1)),.v (.bool (Lib.cut s.data.toList sep.data.toList).2.2)],[])else none
 |_=>none
def oPre:List AV->Option (AV×Mem)
 |[.v (.string s),.v (.string p)]=>some (.tup [.v (.string (tx (Lib.trimPrefix s.data.toList p.data.toList))),.v (.bool (Lib.hasPrefix s.data.toList p.data.toList))],[])
 |_=>none
def oJoin:List AV->Option (AV×Mem)
 |[.sl 1 es,.v (.string sep)]=>match strsOf es with
   |some ws=>if ws.length<=1000000000/\(Lib.join (ws.map (·.data.toList)) sep.data.toList).length<=140737488355328 then some (.v (.string (tx (Lib.join (ws.map (·.data.toList)) sep.data.toList))),[])else none
   |none=>none
 |_=>none
open Classical in
def oFmt:List AV->Option (AV×Mem)
 |[.agg cs]=>match dGOp.dec cs with
   |some o=>if OpW o then some (.tup [.v (.string (tx (fmtR o).1)),I (fmtR o).2],[])else none
   |none=>none
 |_=>none
def oPar:List AV->Option (AV×Mem)
 |[.v (.string s)]=>if s.size<4294967281 then some (.tup [.agg (nGOp (parR s.data.toList).1),I (parR s.data.toList).2],[])else none
 |_=>none
open Classical in
open Classical in
def oRep:List AV->Option (AV×Mem)
 |[.agg cs]=>match zlu.dec cs with
   |some x=>if RepW x then some (.v (.string (tx (repS x))),[])else none
   |none=>none
 |_=>none
def zOrc:zcR:=λf args ms=>match ms with
 |[]=>if f=38 then oItoa args
   else if f=39 then oSplit args
   else if f=47 then oCut args
   else if f=127 then oPre args
   else if f=46 then oJoin args
   else if f=13 then oFmt args
   else if f=12 then oPar args
   else if f=10 then oRep args
   else none
 |_=>none
def zic:Bool×GOp->AV×Mem:=λx=>(.v (.bool x.1),[(1000,⟨31,75,[nGOp x.2],true⟩)])
abbrev zid:RD:=RD.of (Bool×GOp) zic (by
 intro x y h;simp only[zic,zan,AV.v.injEq,Value.bool.injEq,zap,Ent.mk.injEq,true_and,and_true]at h
 exact zfR h.1 (dGOp.inj h.2))
end Go.Proofs.YtcpnffbcljkbkaaGreatDoor
end
