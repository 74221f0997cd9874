/- What the marking layer computes, in plain terms, and the answers that are found by hand. -/
import Derived.Test.YtikogkgdkdmljaaGreatXFid
set_option linter.unusedSimpArgs false
set_option linter.unusedVariables false
noncomputable section
namespace Go.Proofs.YtikogkgdkdmljaaGreat
open Go.Ab
variable {α:Type}
def dec (p:Prop):Bool:=@decide p (Classical.propDecidable p)
def AscBy (f:α→Int) (l:List α):Prop:=∀ j (hj:j+1 < l.length),f l[j] < f l[j+1]
def fnd (p:α→Bool):Nat→List α→Option (Nat×α)
 | _,[]=>none
 | i,x :: r=>if p x=true then some (i,x) else fnd p (i+1) r
def OkPart (p:GPart):Prop:=
 (1≤p.Max∧p.Max≤40)∧(0≤p.Topic∧p.Topic < 16)∧(0≤p.Objective∧p.Objective < 6)∧((p.Kind=1∧p.Options=0∧p.Key=0)∨(p.Kind=2∧2≤p.Options∧p.Options≤5∧0≤p.Key∧p.Key < p.Options))
def sumMax (l:List GPart):Int:=(l.map (·.Max)).sum
def ziy (p:zaD):Prop:=
 (0≤p.Code∧p.Code≤31)∧(0≤p.Variant∧p.Variant < 4)∧(1≤p.Parts.length∧p.Parts.length≤24)∧(∀ x∈p.Parts,OkPart x)∧sumMax p.Parts≤200
def OkKeys (o:Int) (ks:List Int):Prop:=(∀ k∈ks,0≤k∧k < o)∧AscBy id ks
def zfF (p:zaD) (s:zbr):Prop:=
 ziy p∧s.Keys.length=p.Parts.length∧s.Withdrawn.length=p.Parts.length∧∀ (j:Nat) (x:GPart) (ks:List Int) (k:Int),p.Parts[j]?=some x→s.Keys[j]?=some ks→s.Withdrawn[j]?=some k→OkKeys x.Options ks∧(0≤k∧k≤2)
def Short (s:zbr):Prop:=∀ ks∈s.Keys,ks.length≤1000000
def zhL (m:za6):Prop:=
 (1≤m.ID∧m.ID≤99)∧(-1≤m.Centre∧m.Centre≤99)∧(1≤m.Level∧m.Level≤3)∧(0≤m.Capacity∧m.Capacity≤60)∧(∀ n∈m.Papers,0≤n∧n≤31)
def zm2 (l:List za6):Prop:=l.length≤16∧(∀ m∈l,zhL m∧AscBy id m.Papers)∧AscBy za6.ID l
def zon (x:zaP):Prop:=
 (0≤x.Paper∧x.Paper≤31)∧(0≤x.Candidate∧x.Candidate≤9999)∧(0≤x.Centre∧x.Centre≤99)∧(0≤x.Variant∧x.Variant≤31)∧x.Number=x.Paper*10000+x.Candidate∧x.Pages.length≤12
def zm3 (l:List zaP):Prop:=l.length≤60∧(∀ x∈l,zon x)∧AscBy zaP.Number l
def OkMon (r:zaY):Prop:=(0≤r.Part∧r.Part≤200)∧(0≤r.Total∧r.Total≤200)∧(1≤r.Window∧r.Window≤20)∧(1≤r.Fails∧r.Fails≤r.Window)
def OkAns (p:zaD) (a:List Int):Prop:=a.length=p.Parts.length∧∀ (j:Nat) (x:GPart) (v:Int),p.Parts[j]?=some x→a[j]?=some v→x.Kind≠1→-2≤v∧v < x.Options
def zhd (l:List zaP) (n:Int):Option zaP:=(fnd (fun x=>x.Number == n) 0 l).map (·.2)
def zfD (ps:List zaD) (x:zaP):Option (Nat×zaD):=fnd (fun p=>p.Code == x.Paper && p.Variant == x.Variant) 0 ps
def zmP (s:zaA) (n:Int):Option (Nat×zaD):=(zhd s.Scripts n).bind (zfD s.Papers)
def zp3 (p:zaD) (m:List Int):Prop:=m.length=p.Parts.length∧∀ (j:Nat) (x:GPart) (v:Int),p.Parts[j]?=some x→m[j]?=some v→0≤v∧v≤x.Max
structure zdL (s:zaA):Prop where
 markers:zm2 s.Markers
 scripts:zm3 s.Scripts
 papers:s.Papers.length≤32
 len:s.Schemes.length=s.Papers.length
 schemes:∀ (j:Nat) (p:zaD) (c:zbr),s.Papers[j]?=some p→s.Schemes[j]?=some c→zfF p c
 script:∀ x∈s.Scripts,∃ (k:Nat) (p:zaD) (c:zbr),zfD s.Papers x=some (k,p)∧s.Schemes[k]?=some c∧OkAns p x.Answers
 seeds:s.Seeds.length≤12
 asc:AscBy GSeed.Script s.Seeds
 seed:∀ x∈s.Seeds,∃ (k:Nat) (p:zaD),zmP s x.Script=some (k,p)∧zp3 p x.Marks
 monitor:OkMon s.Monitor
 short:∀ c∈s.Schemes,Short c
 short2:∀ m∈s.Markers,m.Papers.length≤1000000
def OkStamp (s:zaL):Prop:=(0≤s.Time∧s.Time≤1000000)∧(0≤s.Source∧s.Source≤99)∧(0≤s.Seq∧s.Seq≤9999)
def OkKind (e:zab):Prop:=
 (e.Kind=0∧1≤e.Stamp.Source∧(0≤e.Part∧e.Part≤23)∧(-1≤e.Value∧e.Value≤40)∧e.Marker=0)∨(e.Kind=1∧e.Stamp.Source=0∧e.Script=0∧e.Part=0∧e.Value=0∧(1≤e.Marker∧e.Marker≤99)∧e.Pages.length=0)∨(e.Kind=2∧e.Stamp.Source=0∧e.Value=0∧e.Marker=0∧(-1≤e.Part∧e.Part≤23)∧e.Pages.length=0)
def OkEvent (e:zab):Prop:=
 OkStamp e.Stamp∧(0≤e.Script∧e.Script≤319999)∧e.Pages.length≤12∧(∀ n∈e.Pages,0≤n∧n≤1152921504606846976)∧OkKind e
def lessS (a b:zaL):Bool:=if a.Time≠b.Time then decide (a.Time < b.Time) else if a.Source≠b.Source then decide (a.Source < b.Source) else decide (a.Seq < b.Seq)
def failsN (l:List Bool):Int:=((l.filter (!·)).length:Nat)
def zp4 (r:zaY) (w:zcR):Prop:=(w.Last.length:Int)≤r.Window∧w.Suspended=decide (r.Fails≤failsN w.Last)
def lastW (r:zaY) (w:zcR) (b:Bool):List Bool:=if r.Window < ((w.Last++[b]).length:Nat) then (w.Last++[b]).drop 1 else w.Last++[b]
def stepW (r:zaY) (w:zcR) (b:Bool):zcR:=⟨lastW r w b,decide (r.Fails≤failsN (lastW r w b))⟩
def seedOf (l:List GSeed) (n:Int):Option (Nat×GSeed):=fnd (fun y=>y.Script == n) 0 l
def zvx (l:List za6) (n:Int):Option (Nat×za6):=fnd (fun y=>y.ID == n) 0 l
def ins (lt:α→α→Bool) (x:α):List α→List α
 | []=>[x]
 | y :: r=>if lt x y then x :: y :: r else y :: ins lt x r
def isort (lt:α→α→Bool) (l:List α):List α:=l.foldr (ins lt) []
def stampB (s:zaL):Bool:=decide ((0≤s.Time∧s.Time≤1000000)∧(0≤s.Source∧s.Source≤99)∧(0≤s.Seq∧s.Seq≤9999))
def eventB (e:zab):Bool:=
 stampB e.Stamp && decide (0≤e.Script∧e.Script≤319999) && decide (e.Pages.length≤12) && e.Pages.all (fun n=>decide (0≤n∧n≤1152921504606846976)) &&
 decide ((e.Kind=0∧1≤e.Stamp.Source∧(0≤e.Part∧e.Part≤23)∧(-1≤e.Value∧e.Value≤40)∧e.Marker=0)∨(e.Kind=1∧e.Stamp.Source=0∧e.Script=0∧e.Part=0∧e.Value=0∧(1≤e.Marker∧e.Marker≤99)∧e.Pages.length=0)∨(e.Kind=2∧e.Stamp.Source=0∧e.Value=0∧e.Marker=0∧(-1≤e.Part∧e.Part≤23)∧e.Pages.length=0))
abbrev zdv:=List ((Int×Int)×za7)
def zd3 (l:List zab) (m:zdv) (i:Nat) (e:zab):zdv:=
 if eventB e then (match mfind (e.Stamp.Source,e.Stamp.Seq) m with
  | none=>mput (e.Stamp.Source,e.Stamp.Seq) ⟨i,false⟩ m
  | some g=>mput (e.Stamp.Source,e.Stamp.Seq) ⟨g.first,if l[g.first.toNat]?=some e then g.disputed else true⟩ m)
 else m
def zcO (l:List zab):List zab→Nat→zdv→zdv
 | [],_,m=>m
 | e :: r,i,m=>zcO l r (i+1) (zd3 l m i e)
def zbL (l:List zab):zdv:=zcO l l 0 []
def keepS (l:List zab):List zab:=(zbL l).filterMap fun p=>if p.2.disputed then none else l[p.2.first.toNat]?
def canonS (l:List zab):List zab:=isort (fun a b=>lessS a.Stamp b.Stamp) (keepS l)
def mayB (m:za6) (x:zaP):Bool:=m.Papers.contains x.Paper && m.Centre != x.Centre
def eligB (l:List za6) (n:Int) (x:zaP):Bool:=match zvx l n with
 | some (_,m)=>mayB m x
 | none=>false
def permB (x:GPart) (v:Int):Bool:=if v=-1 then true else if x.Kind=2 then v == 0 || v == x.Max else decide (0≤v∧v≤x.Max)
def fitS (s:zaA) (e:zab):Option Nat:=match zhd s.Scripts e.Script with
 | none=>none
 | some x=>if eligB s.Markers e.Stamp.Source x then (match zfD s.Papers x with
   | none=>none
   | some (k,p)=>if 0≤e.Part then (match p.Parts[e.Part.toNat]? with
     | none=>none
     | some y=>if y.Kind=1∧permB y e.Value=true∧e.Pages=x.Pages then some k else none) else none)
   else none
def seedS (s:zaA) (n:Int):Option GSeed:=(seedOf s.Seeds n).map (·.2)
def distI (a b:Int):Int:=if a - b < b - a then b - a else a - b
def posI (a:Int):Int:=if a < 0 then 0 else a
def greatB (l:List Int):Bool:=decide (24 < l.length) || l.any fun m=>decide (200 < m)
def zrw (r:zaY):List Int→List Int→Int→Int→Bool
 | a :: ra,b :: rb,x,y=>if r.Part < distI (posI a) (posI b) then false else zrw r ra rb (x+posI a) (y+posI b)
 | _,_,x,y=>decide (distI x y≤r.Total)
def goodS (r:zaY) (a b:List Int):Bool:=a.length == b.length && !greatB a && !greatB b && zrw r a b 0 0
def desk0 (l:Int):zah:=⟨l,[],0,⟨0,0,0⟩,[],⟨[],false⟩,⟨0,0,0⟩,false,[]⟩
abbrev Desks:=Nat→Option zah
def upd (ds:Desks) (i:Nat) (d:zah):Desks:=fun j=>if j=i then some d else ds j
def seats (ms:List za6):Desks:=ms.foldl (fun ds m=>upd ds m.ID.toNat (desk0 m.Level)) fun _=>none
def voidIf (period:Int) (first:Bool) (good:zaL) (i:Nat) (m:zba):zba:=if period≤i∧(first || lessS good m.event.Stamp)=true then { m with void:=true } else m
def suspS (id:Int) (at_:zaL) (d:zah):zah:=
 { d with
   suspensions:=d.suspensions++[⟨id,if d.some then d.good else d.started,at_,⟨0,0,0⟩,!d.some,false⟩]
   marks:=d.marks.mapIdx (voidIf d.period (!d.some) (if d.some then d.good else d.started)) }
def reinS (at_:zaL) (d:zah):zah:=
 if d.watch.Suspended then
  { d with
    suspensions:=d.suspensions.modify (d.suspensions.length - 1) (fun x=>{ x with Lifted:=true,Until:=at_ })
    period:=d.marks.length
    started:=at_
    noted:=[]
    watch:=⟨[],false⟩
    good:=⟨0,0,0⟩
    some:=false }
 else d
def gather (noted:List (zao×Int)) (script:Int) (marks:List Int):List GPart→Nat→List Int→List Int→Option (List Int×List Int)
 | [],_,x,y=>some (x,y)
 | p :: r,i,x,y=>if p.Kind=1 then (match mfind ⟨script,i⟩ noted with
   | none=>none
   | some v=>gather noted script marks r (i+1) (x++[marks.getD i 0]) (y++[v])) else gather noted script marks r (i+1) x y
def noteS (s:zaA) (p:zaD) (sd:GSeed) (e:zab) (d:zah):zah:=
 if (mfind ⟨e.Script,e.Part⟩ d.noted).isSome then d
 else
  let d1:={ d with noted:=mput ⟨e.Script,e.Part⟩ e.Value d.noted }
  match gather d1.noted e.Script sd.Marks p.Parts 0 [] [] with
  | none=>d1
  | some (x,y) =>
    if d.watch.Suspended then d1
    else
     let g:=goodS s.Monitor x y
     let n:=stepW s.Monitor d.watch g
     let d2:={ d1 with watch:=n }
     if n.Suspended then suspS e.Stamp.Source e.Stamp d2
     else if g then { d2 with good:=e.Stamp,some:=true }
     else d2
abbrev Reop:=List (zao×zaL)
def evS (s:zaA) (st:Desks×Reop) (e:zab):Desks×Reop:=
 if e.Kind=1 then (match st.1 e.Marker.toNat with
  | some d=>(upd st.1 e.Marker.toNat (reinS e.Stamp d),st.2)
  | none=>st)
 else if e.Kind=2 then (st.1,mput ⟨e.Script,e.Part⟩ e.Stamp st.2)
 else if e.Kind=0 then (match st.1 e.Stamp.Source.toNat,fitS s e with
  | some d,some q=>(match seedS s e.Script,s.Papers[q]? with
    | some sd,some p=>(upd st.1 e.Stamp.Source.toNat (noteS s p sd e d),st.2)
    | none,_=>(upd st.1 e.Stamp.Source.toNat { d with marks:=d.marks++[⟨e,d.watch.Suspended⟩] },st.2)
    | _,_=>st)
  | _,_=>st)
 else st
def walkS (s:zaA) (ev:List zab):Desks×Reop:=ev.foldl (evS s) (seats s.Markers,[])
def deskL (ds:Desks):List (Option zah):=(List.range 100).map ds
def reopB (R:Reop) (e:zab):Bool:=
 (match mfind ⟨e.Script,e.Part⟩ R with | some a=>lessS e.Stamp a | none=>false) || (match mfind ⟨e.Script,-1⟩ R with | some a=>lessS e.Stamp a | none=>false)
abbrev Counts:=List (zao×zab)
def zdF (d:zah) (R:Reop) (m:Counts) (x:zba):Counts:=
 if x.void then m else if d.level < 2∧reopB R x.event=true then m else mput ⟨x.event.Script,x.event.Part⟩ x.event m
def countS (d:zah) (R:Reop):Counts:=d.marks.foldl (zdF d R) []
def zbP (id:Int) (d:zah) (e:zab):zbp:=⟨e.Script,e.Part,id,d.level,e.Value,e.Stamp⟩
def zbE (a b:zbp):Bool:=if a.Script≠b.Script then decide (a.Script < b.Script) else if a.Part≠b.Part then decide (a.Part < b.Part) else decide (a.Marker < b.Marker)
def allGiven (ds:Desks) (R:Reop):List zbp:=(List.range 100).flatMap fun (i:Nat)=>match ds i with
 | some d=>(countS d R).map fun p=>zbP i d p.2
 | none=>[]
def allSusp (ds:Desks):List zbf:=(List.range 100).flatMap fun (i:Nat)=>match ds i with
 | some d=>d.suspensions
 | none=>[]
def foldS (s:zaA) (l:List zab):zbU:=
 ⟨isort zbE (allGiven (walkS s (canonS l)).1 (walkS s (canonS l)).2),allSusp (walkS s (canonS l)).1⟩
def nDp:Option zah→List AV
 | none=>[.v (.pointer none)]
 | some d=>[.fp (zcQ d)]
abbrev dDp:TyD:=TyD.of (Option zah) nDp (by
 intro x y h; cases x <;> cases y <;> simp only [nDp,zbl,and_true,AV.fp.injEq,reduceCtorEq] at h ⊢
 exact congrArg some (zeR.inj h))
abbrev vFa (z:Nat) (D:TyD):VD:=⟨List D.α,fun x=>.fa z (List.map D.enc x),fun x y h=>by simpa only [AV.fa.injEq,true_and,TyD.minj] using h⟩
def zhA:List (Option zah)×List (zao×zaL)→AV×Mem:=(rT (lCons (vFa 1 dDp) (lOne (vMp zcW)))).enc
abbrev zhB:RD:={ α:=List (Option zah)×List (zao×zaL),enc:=zhA,dec:=(rT (lCons (vFa 1 dDp) (lOne (vMp zcW)))).dec,ok:=(rT (lCons (vFa 1 dDp) (lOne (vMp zcW)))).ok,de:=(rT (lCons (vFa 1 dDp) (lOne (vMp zcW)))).de }
def OkRun (s:zaA) (ev:List zab):Prop:=zdL s∧(∀ e∈ev,eventB e=true)∧ev.length≤2000
def FewEv (l:List zab):Prop:=l.length < 1000000∧(keepS l).length < 200∧∀ e∈l,e.Pages.length≤1000000
def oWalk (args:List AV):Option (AV×Mem):=
 haveI:=Classical.propDecidable (∃ s ev,args=[.agg (zau s),.sl 9 (List.map zaa ev)]∧OkRun s ev)
 if h:∃ s ev,args=[.agg (zau s),.sl 9 (List.map zaa ev)]∧OkRun s ev then
  some (zhA (deskL (walkS h.choose h.choose_spec.choose).1,(walkS h.choose h.choose_spec.choose).2)) else none
def lentEv (k:Nat) (l:List zab):AV×Mem:=(.row k 9 0 (List.map zaa l).length,[(k,⟨9,zac,List.map zaa l,false⟩)])
def oCanon (args:List AV) (ms:Mem):Option (AV×Mem):=
 haveI:=Classical.propDecidable (∃ l,(args=[(lentEv 1000 l).1]∧ms=(lentEv 1000 l).2)∧FewEv l)
 if h:∃ l,(args=[(lentEv 1000 l).1]∧ms=(lentEv 1000 l).2)∧FewEv l then some (.tup [.sl 9 (List.map zaa (canonS h.choose)),I 0],ms) else none
def oFold (args:List AV) (ms:Mem):Option (AV×Mem):=
 haveI:=Classical.propDecidable (∃ s l,(args=[.agg (zau s),(lentEv 1001 l).1]∧ms=(lentEv 1001 l).2)∧zdL s∧FewEv l)
 if h:∃ s l,(args=[.agg (zau s),(lentEv 1001 l).1]∧ms=(lentEv 1001 l).2)∧zdL s∧FewEv l then some (.tup [.agg (zc4 (foldS h.choose h.choose_spec.choose)),I 0],ms) else none
def zqI (args:List AV):Option (AV×Mem):=
 haveI:=Classical.propDecidable (∃ l,args=[.sl 9 (List.map zaa l)]∧FewEv l)
 if h:∃ l,args=[.sl 9 (List.map zaa l)]∧FewEv l then some (.tup [.sl 9 (List.map zaa (canonS h.choose)),I 0],[]) else none
def oFoldD (args:List AV):Option (AV×Mem):=
 haveI:=Classical.propDecidable (∃ s l,args=[.agg (zau s),.sl 9 (List.map zaa l)]∧zdL s∧FewEv l)
 if h:∃ s l,args=[.agg (zau s),.sl 9 (List.map zaa l)]∧zdL s∧FewEv l then some (.tup [.agg (zc4 (foldS h.choose h.choose_spec.choose)),I 0],[]) else none
def oClone (e:TypeId):List AV→Option (AV×Mem)
 | [.sl 1 es]=>if es.length≤100000000 then some (.new 1 e es,[]) else none
 | _=>none
def zOrc:zbu:=fun f args ms =>
 if f=zcC then (match ms with | []=>oWalk args | _=>none)
 else if f=zbh then (match ms with | []=>zqI args | _=>oCanon args ms)
 else if f=zca then (match ms with | []=>oFoldD args | _=>oFold args ms)
 else if f=zbt then (match ms with | []=>oClone za0 args | _=>none)
 else if f=zbx then (match ms with | []=>oClone zff args | _=>none)
 else none
end Go.Proofs.YtikogkgdkdmljaaGreat
end
