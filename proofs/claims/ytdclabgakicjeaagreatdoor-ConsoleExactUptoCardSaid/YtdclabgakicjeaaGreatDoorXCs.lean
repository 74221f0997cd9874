/- The console in plain words: what an operation's line is, and what a line says. -/
import Derived.Test.YtdclabgakicjeaaGreatDoorXFid
import Derived.Test.YtdclabgakicjeaaGreatDoorAb2
import Derived.Test.YtdclabgakicjeaaGreatDoorXSt
set_option linter.unusedSimpArgs false
set_option linter.unusedVariables false
noncomputable section
namespace Go.Proofs.YtdclabgakicjeaaGreatDoor
open Go.Ab Go.Str
def tx (l:List UInt8):ByteArray:=⟨l.toArray⟩
theorem zcI (l:List UInt8):(tx l).data.toList=l:=by simp [tx]
theorem tx_of (s:ByteArray):tx s.data.toList=s:=rfl
theorem zap (l:List UInt8):(tx l).size=l.length:=by simp [tx,ByteArray.size]
theorem zaY (a b:List UInt8):tx a++tx b=tx (a++b):=by apply ByteArray.ext; simp [tx]
theorem tx_ex (s:ByteArray):∃ l,s=tx l:=⟨s.data.toList,rfl⟩
def zOp:GOp:=⟨0,⟨0,0,0⟩,⟨0,0,0,0,0,[],[]⟩,⟨⟨0,0,0⟩,0,0,0,0,0,[]⟩,⟨0,0⟩,⟨⟨0,0,0⟩,0,0,0⟩,[],0,0⟩
def blankS:Nat→GOp
 | 1=>{ zOp with Kind:=1 }
 | 2=>{ zOp with Kind:=2 }
 | 3=>{ zOp with Kind:=2,Event:={ zOp.Event with Kind:=1 } }
 | 4=>{ zOp with Kind:=2,Event:={ zOp.Event with Kind:=2 } }
 | 5=>{ zOp with Kind:=3 }
 | 6=>{ zOp with Kind:=4 }
 | 7=>{ zOp with Kind:=4,Appeal:={ zOp.Appeal with Kind:=1 } }
 | 8=>{ zOp with Kind:=5 }
 | 9=>{ zOp with Kind:=6 }
 | 10=>{ zOp with Kind:=7 }
 | 11=>{ zOp with Kind:=8 }
 | _=>zOp
def slotsC:Nat→List (Bool×Nat)
 | 0=>[(false,1),(false,2),(false,3)]
 | 1=>[(false,4),(false,5),(false,6),(false,7),(false,8),(true,9),(true,10)]
 | 2=>[(false,11),(false,12),(false,13),(false,15),(false,16),(false,17),(true,19)]
 | 3=>[(false,11),(false,12),(false,13),(false,18)]
 | 4=>[(false,11),(false,12),(false,13),(false,15),(false,16)]
 | 5=>[(false,20),(false,21)]
 | 6=>[(false,22),(false,23),(false,24),(false,26)]
 | 7=>[(false,22),(false,23),(false,24),(false,27)]
 | 8=>[(false,29),(true,28)]
 | 9=>[(false,29)]
 | 10=>[(false,29)]
 | 11=>[(false,29),(false,30)]
 | _=>[]
def formsT:List (List UInt8×Int):=[([101,110,116,114,121],4),([115,99,114,105,112,116],8),([109,97,114,107],8),([114,101,105,110,115,116,97,116,101],5),([114,101,111,112,101,110],6),([115,112,101,99,105,97,108],3),([114,101,118,105,101,119],5),([114,101,109,97,114,107],5),([98,111,117,110,100,115],3),([112,117,98,108,105,115,104],2),([99,101,114,116,105,102,121],2),([114,101,118,111,107,101],3)]
def kw (w:Nat):List UInt8:=((formsT[w]?).map (·.1)).getD []
def getN:Nat→GOp→Int
 | 1,o=>o.Entry.Candidate | 2,o=>o.Entry.Centre | 3,o=>o.Entry.Paper
 | 4,o=>o.Script.Number | 5,o=>o.Script.Paper | 6,o=>o.Script.Candidate | 7,o=>o.Script.Centre | 8,o=>o.Script.Variant
 | 11,o=>o.Event.Stamp.Time | 12,o=>o.Event.Stamp.Source | 13,o=>o.Event.Stamp.Seq
 | 15,o=>o.Event.Script | 16,o=>o.Event.Part | 17,o=>o.Event.Value | 18,o=>o.Event.Marker
 | 20,o=>o.Special.Candidate | 21,o=>o.Special.Thousandths
 | 22,o=>o.Appeal.Stamp.Time | 23,o=>o.Appeal.Stamp.Source | 24,o=>o.Appeal.Stamp.Seq
 | 26,o=>o.Appeal.Candidate | 27,o=>o.Appeal.Marker | 29,o=>o.Time | 30,o=>o.Number
 | _,o=>o.Kind
def getL:Nat→GOp→List Int
 | 9,o=>o.Script.Pages | 10,o=>o.Script.Answers | 19,o=>o.Event.Pages | _,o=>o.Bounds
def putN (v:Int):Nat→GOp→GOp
 | 1,o=>{ o with Entry:={ o.Entry with Candidate:=v } } | 2,o=>{ o with Entry:={ o.Entry with Centre:=v } } | 3,o=>{ o with Entry:={ o.Entry with Paper:=v } }
 | 4,o=>{ o with Script:={ o.Script with Number:=v } } | 5,o=>{ o with Script:={ o.Script with Paper:=v } } | 6,o=>{ o with Script:={ o.Script with Candidate:=v } }
 | 7,o=>{ o with Script:={ o.Script with Centre:=v } } | 8,o=>{ o with Script:={ o.Script with Variant:=v } }
 | 11,o=>{ o with Event:={ o.Event with Stamp:={ o.Event.Stamp with Time:=v } } } | 12,o=>{ o with Event:={ o.Event with Stamp:={ o.Event.Stamp with Source:=v } } }
 | 13,o=>{ o with Event:={ o.Event with Stamp:={ o.Event.Stamp with Seq:=v } } }
 | 15,o=>{ o with Event:={ o.Event with Script:=v } } | 16,o=>{ o with Event:={ o.Event with Part:=v } } | 17,o=>{ o with Event:={ o.Event with Value:=v } }
 | 18,o=>{ o with Event:={ o.Event with Marker:=v } }
 | 20,o=>{ o with Special:={ o.Special with Candidate:=v } } | 21,o=>{ o with Special:={ o.Special with Thousandths:=v } }
 | 22,o=>{ o with Appeal:={ o.Appeal with Stamp:={ o.Appeal.Stamp with Time:=v } } } | 23,o=>{ o with Appeal:={ o.Appeal with Stamp:={ o.Appeal.Stamp with Source:=v } } }
 | 24,o=>{ o with Appeal:={ o.Appeal with Stamp:={ o.Appeal.Stamp with Seq:=v } } }
 | 26,o=>{ o with Appeal:={ o.Appeal with Candidate:=v } } | 27,o=>{ o with Appeal:={ o.Appeal with Marker:=v } }
 | 29,o=>{ o with Time:=v } | 30,o=>{ o with Number:=v }
 | _,o=>{ o with Kind:=v }
def putL (v:List Int):Nat→GOp→GOp
 | 9,o=>{ o with Script:={ o.Script with Pages:=v } } | 10,o=>{ o with Script:={ o.Script with Answers:=v } }
 | 19,o=>{ o with Event:={ o.Event with Pages:=v } } | _,o=>{ o with Bounds:=v }
def copy1 (o c:GOp) (p:Bool×Nat):GOp:=if p.1 then putL (getL p.2 o) p.2 c else putN (getN p.2 o) p.2 c
def copyS (w:Nat) (o:GOp):GOp:=(slotsC w).foldl (copy1 o) (blankS w)
def okW (o:GOp) (p:Bool×Nat):Prop:=if p.1 then (getL p.2 o).length≤300∧∀ n∈getL p.2 o,fits n else fits (getN p.2 o)
instance (o:GOp) (p:Bool×Nat):Decidable (okW o p):=by unfold okW; split <;> infer_instance
def wordC (o:GOp) (p:Bool×Nat):List UInt8:=if p.1 then wordL (getL p.2 o) else Lib.itoa (getN p.2 o)
def isForm (o:GOp) (w:Nat):Bool:=decide (o.Kind=(blankS w).Kind) && ((decide (o.Kind≠2) || decide (o.Event.Kind=(blankS w).Event.Kind)) && (decide (o.Kind≠4) || decide (o.Appeal.Kind=(blankS w).Appeal.Kind)))
def zbT (o:GOp):Nat:=((List.range 12).find? (isForm o)).getD 12
def lineS (w:Nat) (o:GOp):List UInt8:=Lib.join (kw w :: (slotsC w).map (wordC o)) [32]
def fmtS (o:GOp):Option (List UInt8):=
 if zbT o < 12∧(∀ p∈slotsC (zbT o),okW o p)∧copyS (zbT o) o=o then some (lineS (zbT o) o) else none
def read1 (c:GOp) (p:Bool×Nat) (w:List UInt8):Option GOp:=
 if p.1 then (readL w).map fun l=>putL l p.2 c else (numS w).map fun n=>putN n p.2 c
def zbH:List (Bool×Nat)→List (List UInt8)→GOp→Option GOp
 | [],_,c=>some c
 | p :: ps,w :: ws,c=>match read1 c p w with
   | some c'=>zbH ps ws c'
   | none=>none
 | _,_,_=>none
def zbn (k:List UInt8):Nat:=((List.range 12).find? fun w=>kw w == k).getD 12
def parS (l:List UInt8):Option GOp:=
 match splitC 32 l with
 | []=>none
 | k :: ws=>if zbn k < 12∧ws.length=(slotsC (zbn k)).length then zbH (slotsC (zbn k)) ws (blankS (zbn k)) else none
def W64 (n:Int):Prop:=-9223372036854775808≤n∧n≤9223372036854775807
structure OpW (o:GOp):Prop where
 num:∀ k,W64 (getN k o)
 list:∀ k,(getL k o).length≤1000∧∀ n∈getL k o,W64 n
def fmtR (o:GOp):List UInt8×Int:=match fmtS o with
 | some l=>(l,0)
 | none=>([],1)
def parR (l:List UInt8):GOp×Int:=match parS l with
 | some o=>(o,0)
 | none=>(zOp,7)
def linesS:List GOp→Option (List UInt8)
 | []=>some []
 | o :: r=>match fmtS o,linesS r with
   | some l,some t=>some (l++10 :: t)
   | _,_=>none
def scrR (l:List GOp):List UInt8×Int:=if 300 < l.length then ([],3) else match linesS l with
 | some t=>(t,0)
 | none=>([],1)
def zbo (w:List UInt8) (ns:List Int):List UInt8:=ns.foldl (fun s n=>s++32 :: Lib.itoa n) w
def outS (o:zaG):List UInt8:=
 if o.Kind=0 then zbo (Lib.itoa o.Candidate++[32,103,114,97,100,101]) [o.Grade,o.Total]
 else if o.Kind=1 then Lib.itoa o.Candidate++[32,97,98,115,101,110,116]
 else if o.Kind=2 then zbo (Lib.itoa o.Candidate++[32,112,101,110,100,105,110,103]) [o.Reason] else []
def outsS (l:List zaG):List UInt8:=l.flatMap fun o=>outS o++[10]
def pubS (p:zaS):List UInt8:=zbo [112,117,98,108,105,115,104,101,100] [p.At,p.Time]++[10]++outsS p.Outcomes
def logS (e:za5):List UInt8:=
 (if e.Kind=0 then zbo [105,115,115,117,101] [e.Certificate.ID,e.Certificate.Candidate,e.Certificate.Grade,e.Certificate.Time,e.Certificate.Replaces]
  else zbo [114,101,118,111,107,101] [e.Certificate.ID,e.Certificate.Time])++[10]
def repS (x:zaL):List UInt8:=x.Published.flatMap pubS++x.Log.flatMap logS++[110,111,119,10]++outsS x.Outcomes
def OutW (o:zaG):Prop:=W64 o.Candidate∧W64 o.Grade∧W64 o.Total∧W64 o.Reason
structure RepW (x:zaL):Prop where
 pub:∀ p∈x.Published,W64 p.At∧W64 p.Time∧∀ o∈p.Outcomes,OutW o
 log:∀ e∈x.Log,W64 e.Certificate.ID∧W64 e.Certificate.Candidate∧W64 e.Certificate.Grade∧W64 e.Certificate.Time∧W64 e.Certificate.Replaces
 out:∀ o∈x.Outcomes,OutW o
 size:(repS x).length≤1000000000000
 few:x.Published.length≤1000000000∧x.Log.length≤1000000000∧x.Outcomes.length≤1000000000∧∀ p∈x.Published,p.Outcomes.length≤1000000000
end Go.Proofs.YtdclabgakicjeaaGreatDoor
end
