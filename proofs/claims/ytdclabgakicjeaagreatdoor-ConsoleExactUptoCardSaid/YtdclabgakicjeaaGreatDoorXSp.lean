/- What the console's library answers, and what is known of variables that nobody writes. -/
import Derived.Test.YtdclabgakicjeaaGreatDoorXFid
import Derived.Test.YtdclabgakicjeaaGreatDoorAb2
import Derived.Test.YtdclabgakicjeaaGreatDoorXLy
import Derived.Test.YtdclabgakicjeaaGreatDoorXCs
set_option linter.unusedSimpArgs false
set_option linter.unusedVariables false
noncomputable section
namespace Go.Proofs.YtdclabgakicjeaaGreatDoor
open Go.Ab
def zbl:List Value:=formsT.flatMap fun p=>[.string (tx p.1),.int .i64 p.2]
def varsOk (S:Nat→Prop) (w:World):Prop:=
 (S 0∧w.var? Tryz.prog "awardingbody/console.forms"=some zbl.toArray)∧(S 1∧∃ m,w.cell? ⟨1,0,none⟩=some (.int .i64 m))∧(S 2∧Lib.TabIs Tryz.prog w "internal/strconv.uint64pow10" .u64 Lib.pow10Tab)
theorem g0:Tryz.prog.globalNamed "awardingbody/console.forms"=some 0:=by kernel_rfl
theorem g2:Tryz.prog.globalNamed "internal/strconv.uint64pow10"=some 2:=by kernel_rfl
instance zDr:Dr where
 on:=False
 ok:=varsOk
 keep:=by
  rintro S S' w w' ⟨⟨a1,a2⟩,⟨b1,m,b2⟩,c1,c2⟩ hS hw
  refine ⟨⟨hS _ a1,?_⟩,⟨hS _ b1,m,?_⟩,hS _ c1,?_⟩
  · rw [← a2]; unfold World.var?; rw [g0]; show (match w'.heap[0]? with | some (.cells cs _ _)=>some cs | _=>none)=_; rw [hw 0 a1]; rfl
  · rw [← b2]; exact World.cell?_of_block (hw 1 b1)
  · unfold Lib.TabIs at c2 ⊢; rw [← c2]; unfold World.var?; rw [g2]; show (match w'.heap[2]? with | some (.cells cs _ _)=>some cs | _=>none)=_; rw [hw 2 c1]; rfl
def strsOf:List (List AV)→Option (List ByteArray)
 | []=>some []
 | [.v (.string s)] :: r=>(strsOf r).map (s :: ·)
 | _=>none
def oItoa:List AV→Option (AV×Mem)
 | [.v (.int .i64 n)]=>if -9223372036854775808≤n∧n≤9223372036854775807 then some (.v (.string (tx (Lib.itoa n))),[]) else none
 | _=>none
def oSplit:List AV→Option (AV×Mem)
 | [.v (.string s),.v (.string sep)]=>if s.size < 4294967281∧1≤sep.size then some (.new 1 zaD ((Lib.splitB sep 0 (Lib.countB s sep) s).map fun x=>[.v (.string x)]),[]) else none
 | _=>none
def oCut:List AV→Option (AV×Mem)
 | [.v (.string s),.v (.string sep)]=>if s.size < 4294967281 then some (.tup [.v (.string (tx (Lib.cut s.data.toList sep.data.toList).1)),.v (.string (tx (Lib.cut s.data.toList sep.data.toList).2.1)),.v (.bool (Lib.cut s.data.toList sep.data.toList).2.2)],[]) else none
 | _=>none
def oPre:List AV→Option (AV×Mem)
 | [.v (.string s),.v (.string p)]=>some (.tup [.v (.string (tx (Lib.trimPrefix s.data.toList p.data.toList))),.v (.bool (Lib.hasPrefix s.data.toList p.data.toList))],[])
 | _=>none
def oJoin:List AV→Option (AV×Mem)
 | [.sl 1 es,.v (.string sep)]=>match strsOf es with
   | some ws=>if ws.length≤1000000000∧(Lib.join (ws.map (·.data.toList)) sep.data.toList).length≤140737488355328 then some (.v (.string (tx (Lib.join (ws.map (·.data.toList)) sep.data.toList))),[]) else none
   | none=>none
 | _=>none
open Classical in
def oFmt:List AV→Option (AV×Mem)
 | [.agg cs]=>match dGOp.dec cs with
   | some o=>if OpW o then some (.tup [.v (.string (tx (fmtR o).1)),I (fmtR o).2],[]) else none
   | none=>none
 | _=>none
def oPar:List AV→Option (AV×Mem)
 | [.v (.string s)]=>if s.size < 4294967281 then some (.tup [.agg (nGOp (parR s.data.toList).1),I (parR s.data.toList).2],[]) else none
 | _=>none
open Classical in
def oScr:List AV→Option (AV×Mem)
 | [.sl 31 es]=>match mapO dGOp.dec es with
   | some l=>if ∀ o∈l,OpW o then some (.tup [.v (.string (tx (scrR l).1)),I (scrR l).2],[]) else none
   | none=>none
 | _=>none
open Classical in
def oRep:List AV→Option (AV×Mem)
 | [.agg cs]=>match ziu.dec cs with
   | some x=>if RepW x then some (.v (.string (tx (repS x))),[]) else none
   | none=>none
 | _=>none
def zOrc:zaX:=fun f args ms=>match ms with
 | []=>if f=zc9 then oItoa args
   else if f=zeo then oSplit args
   else if f=zhf then oCut args
   else if f=zdZ then oPre args
   else if f=zdP then oJoin args
   else if f=zb5 then oFmt args
   else if f=zbP then oPar args
   else if f=zcz then oScr args
   else if f=zc8 then oRep args
   else none
 | _=>none
def zc3:Bool×GOp→AV×Mem:=fun x=>(.v (.bool x.1),[(1000,⟨31,zag,[nGOp x.2],true⟩)])
abbrev zc4:RD:=RD.of (Bool×GOp) zc3 (by
 intro x y h; simp only [zc3,Prod.mk.injEq,AV.v.injEq,Value.bool.injEq,List.cons.injEq,Ent.mk.injEq,true_and,and_true] at h
 exact Prod.ext h.1 (dGOp.inj h.2))
end Go.Proofs.YtdclabgakicjeaaGreatDoor
end
