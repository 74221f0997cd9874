/- What the marking layer computes, in plain terms, and the answers that are found by hand. -/
import Derived.Test.YtlecnobdfhlmnaaGreatXFid
import Derived.Test.YtlecnobdfhlmnaaGreatAb9
set_option linter.unusedSimpArgs false
set_option linter.unusedVariables false
noncomputable section
namespace Go.Proofs.YtlecnobdfhlmnaaGreat
open Go.Ab
variable {α:Type}
def dec (p:Prop):Bool:=@decide p (Classical.propDecidable p)
def AscBy (f:α→Int) (l:List α):Prop:=∀ j (hj:j+1 < l.length),f l[j] < f l[j+1]
def fnd (p:α→Bool):Nat→List α→Option (Nat×α)
 | _,[]=>none
 | i,x :: r=>if p x=true then some (i,x) else fnd p (i+1) r
def OkPart (p:GPart):Prop:=
 (1≤p.Max∧p.Max≤40)∧(0≤p.Topic∧p.Topic < 16)∧(0≤p.Objective∧p.Objective < 6)∧((p.Kind=1∧p.Options=0∧p.Key=0)∨(p.Kind=2∧2≤p.Options∧p.Options≤5∧0≤p.Key∧p.Key < p.Options))
def sumMax (l:List GPart):Int:=(l.map (·.Max)).sum
def zkm (p:zaJ):Prop:=
 (0≤p.Code∧p.Code≤31)∧(0≤p.Variant∧p.Variant < 4)∧(1≤p.Parts.length∧p.Parts.length≤24)∧(∀ x∈p.Parts,OkPart x)∧sumMax p.Parts≤200
def OkKeys (o:Int) (ks:List Int):Prop:=(∀ k∈ks,0≤k∧k < o)∧AscBy id ks
def zfc (p:zaJ) (s:zbp):Prop:=
 zkm p∧s.Keys.length=p.Parts.length∧s.Withdrawn.length=p.Parts.length∧∀ (j:Nat) (x:GPart) (ks:List Int) (k:Int),p.Parts[j]?=some x→s.Keys[j]?=some ks→s.Withdrawn[j]?=some k→OkKeys x.Options ks∧(0≤k∧k≤2)
def Short (s:zbp):Prop:=∀ ks∈s.Keys,ks.length≤1000000
def zjC (m:zbk):Prop:=
 (1≤m.ID∧m.ID≤99)∧(-1≤m.Centre∧m.Centre≤99)∧(1≤m.Level∧m.Level≤3)∧(0≤m.Capacity∧m.Capacity≤60)∧(∀ n∈m.Papers,0≤n∧n≤31)
def zpb (l:List zbk):Prop:=l.length≤16∧(∀ m∈l,zjC m∧AscBy id m.Papers)∧AscBy zbk.ID l
def zmS (x:zaE):Prop:=
 (0≤x.Paper∧x.Paper≤31)∧(0≤x.Candidate∧x.Candidate≤9999)∧(0≤x.Centre∧x.Centre≤99)∧(0≤x.Variant∧x.Variant≤31)∧x.Number=x.Paper*10000+x.Candidate∧x.Pages.length≤12
def zju (l:List zaE):Prop:=l.length≤60∧(∀ x∈l,zmS x)∧AscBy zaE.Number l
def OkMon (r:zbr):Prop:=(0≤r.Part∧r.Part≤200)∧(0≤r.Total∧r.Total≤200)∧(1≤r.Window∧r.Window≤20)∧(1≤r.Fails∧r.Fails≤r.Window)
def OkAns (p:zaJ) (a:List Int):Prop:=a.length=p.Parts.length∧∀ (j:Nat) (x:GPart) (v:Int),p.Parts[j]?=some x→a[j]?=some v→x.Kind≠1→-2≤v∧v < x.Options
def zeP (l:List zaE) (n:Int):Option zaE:=(fnd (fun x=>x.Number == n) 0 l).map (·.2)
def zd3 (ps:List zaJ) (x:zaE):Option (Nat×zaJ):=fnd (fun p=>p.Code == x.Paper && p.Variant == x.Variant) 0 ps
def zgX (s:zak) (n:Int):Option (Nat×zaJ):=(zeP s.Scripts n).bind (zd3 s.Papers)
def zqt (p:zaJ) (m:List Int):Prop:=m.length=p.Parts.length∧∀ (j:Nat) (x:GPart) (v:Int),p.Parts[j]?=some x→m[j]?=some v→0≤v∧v≤x.Max
structure zbP (s:zak):Prop where
 markers:zpb s.Markers
 scripts:zju s.Scripts
 papers:s.Papers.length≤32
 len:s.Schemes.length=s.Papers.length
 schemes:∀ (j:Nat) (p:zaJ) (c:zbp),s.Papers[j]?=some p→s.Schemes[j]?=some c→zfc p c
 script:∀ x∈s.Scripts,∃ (k:Nat) (p:zaJ) (c:zbp),zd3 s.Papers x=some (k,p)∧s.Schemes[k]?=some c∧OkAns p x.Answers
 seeds:s.Seeds.length≤12
 asc:AscBy GSeed.Script s.Seeds
 seed:∀ x∈s.Seeds,∃ (k:Nat) (p:zaJ),zgX s x.Script=some (k,p)∧zqt p x.Marks
 monitor:OkMon s.Monitor
 short:∀ c∈s.Schemes,Short c
 short2:∀ m∈s.Markers,m.Papers.length≤1000000
def OkStamp (s:zbe):Prop:=(0≤s.Time∧s.Time≤1000000)∧(0≤s.Source∧s.Source≤99)∧(0≤s.Seq∧s.Seq≤9999)
def OkKind (e:zab):Prop:=
 (e.Kind=0∧1≤e.Stamp.Source∧(0≤e.Part∧e.Part≤23)∧(-1≤e.Value∧e.Value≤40)∧e.Marker=0)∨(e.Kind=1∧e.Stamp.Source=0∧e.Script=0∧e.Part=0∧e.Value=0∧(1≤e.Marker∧e.Marker≤99)∧e.Pages.length=0)∨(e.Kind=2∧e.Stamp.Source=0∧e.Value=0∧e.Marker=0∧(-1≤e.Part∧e.Part≤23)∧e.Pages.length=0)
def OkEvent (e:zab):Prop:=
 OkStamp e.Stamp∧(0≤e.Script∧e.Script≤319999)∧e.Pages.length≤12∧(∀ n∈e.Pages,0≤n∧n≤1152921504606846976)∧OkKind e
def lessS (a b:zbe):Bool:=if a.Time≠b.Time then decide (a.Time < b.Time) else if a.Source≠b.Source then decide (a.Source < b.Source) else decide (a.Seq < b.Seq)
def failsN (l:List Bool):Int:=((l.filter (!·)).length:Nat)
def zsX (r:zbr) (w:zdQ):Prop:=(w.Last.length:Int)≤r.Window∧w.Suspended=decide (r.Fails≤failsN w.Last)
def lastW (r:zbr) (w:zdQ) (b:Bool):List Bool:=if r.Window < ((w.Last++[b]).length:Nat) then (w.Last++[b]).drop 1 else w.Last++[b]
def stepW (r:zbr) (w:zdQ) (b:Bool):zdQ:=⟨lastW r w b,decide (r.Fails≤failsN (lastW r w b))⟩
def seedOf (l:List GSeed) (n:Int):Option (Nat×GSeed):=fnd (fun y=>y.Script == n) 0 l
def zrs (l:List zbk) (n:Int):Option (Nat×zbk):=fnd (fun y=>y.ID == n) 0 l
def FitsM (m:zbk) (x:zaE):Prop:=x.Paper∈m.Papers∧m.Centre≠x.Centre
def Elig (l:List zbk) (n:Int) (x:zaE):Prop:=∃ k m,zrs l n=some (k,m)∧FitsM m x
def PermP (x:GPart) (v:Int):Prop:=if x.Kind=2 then v=-1∨v=0∨v=x.Max else -1≤v∧v≤x.Max
def FitsE (s:zak) (e:zab):Prop:=
 ∃ x,zeP s.Scripts e.Script=some x∧e.Kind=0∧Elig s.Markers e.Stamp.Source x∧∃ k p y,zd3 s.Papers x=some (k,p)∧0≤e.Part∧p.Parts[e.Part.toNat]?=some y∧y.Kind=1∧(-1≤e.Value∧e.Value≤y.Max)∧e.Pages=x.Pages
def ins (lt:α→α→Bool) (x:α):List α→List α
 | []=>[x]
 | y :: r=>if lt x y then x :: y :: r else y :: ins lt x r
def isort (lt:α→α→Bool) (l:List α):List α:=l.foldr (ins lt) []
def stampB (s:zbe):Bool:=decide ((0≤s.Time∧s.Time≤1000000)∧(0≤s.Source∧s.Source≤99)∧(0≤s.Seq∧s.Seq≤9999))
def eventB (e:zab):Bool:=
 stampB e.Stamp && decide (0≤e.Script∧e.Script≤319999) && decide (e.Pages.length≤12) && e.Pages.all (fun n=>decide (0≤n∧n≤1152921504606846976)) &&
 decide ((e.Kind=0∧1≤e.Stamp.Source∧(0≤e.Part∧e.Part≤23)∧(-1≤e.Value∧e.Value≤40)∧e.Marker=0)∨(e.Kind=1∧e.Stamp.Source=0∧e.Script=0∧e.Part=0∧e.Value=0∧(1≤e.Marker∧e.Marker≤99)∧e.Pages.length=0)∨(e.Kind=2∧e.Stamp.Source=0∧e.Value=0∧e.Marker=0∧(-1≤e.Part∧e.Part≤23)∧e.Pages.length=0))
abbrev zel:=List ((Int×Int)×zbx)
def zeQ (l:List zab) (m:zel) (i:Nat) (e:zab):zel:=
 if eventB e then (match mfind (e.Stamp.Source,e.Stamp.Seq) m with
  | none=>mput (e.Stamp.Source,e.Stamp.Seq) ⟨i,false⟩ m
  | some g=>mput (e.Stamp.Source,e.Stamp.Seq) ⟨g.first,if l[g.first.toNat]?=some e then g.disputed else true⟩ m)
 else m
def zdO (l:List zab):List zab→Nat→zel→zel
 | [],_,m=>m
 | e :: r,i,m=>zdO l r (i+1) (zeQ l m i e)
def zcj (l:List zab):zel:=zdO l l 0 []
def keepS (l:List zab):List zab:=(zcj l).filterMap fun p=>if p.2.disputed then none else l[p.2.first.toNat]?
def canonS (l:List zab):List zab:=isort (fun a b=>lessS a.Stamp b.Stamp) (keepS l)
def mayB (m:zbk) (x:zaE):Bool:=m.Papers.contains x.Paper && m.Centre != x.Centre
def eligB (l:List zbk) (n:Int) (x:zaE):Bool:=match zrs l n with
 | some (_,m)=>mayB m x
 | none=>false
def permB (x:GPart) (v:Int):Bool:=if v=-1 then true else if x.Kind=2 then v == 0 || v == x.Max else decide (0≤v∧v≤x.Max)
def fitS (s:zak) (e:zab):Option Nat:=match zeP s.Scripts e.Script with
 | none=>none
 | some x=>if eligB s.Markers e.Stamp.Source x then (match zd3 s.Papers x with
   | none=>none
   | some (k,p)=>if 0≤e.Part then (match p.Parts[e.Part.toNat]? with
     | none=>none
     | some y=>if y.Kind=1∧permB y e.Value=true∧e.Pages=x.Pages then some k else none) else none)
   else none
def seedS (s:zak) (n:Int):Option GSeed:=(seedOf s.Seeds n).map (·.2)
def distI (a b:Int):Int:=if a - b < b - a then b - a else a - b
def posI (a:Int):Int:=if a < 0 then 0 else a
def greatB (l:List Int):Bool:=decide (24 < l.length) || l.any fun m=>decide (200 < m)
def zuI (r:zbr):List Int→List Int→Int→Int→Bool
 | a :: ra,b :: rb,x,y=>if r.Part < distI (posI a) (posI b) then false else zuI r ra rb (x+posI a) (y+posI b)
 | _,_,x,y=>decide (distI x y≤r.Total)
def goodS (r:zbr) (a b:List Int):Bool:=a.length == b.length && !greatB a && !greatB b && zuI r a b 0 0
def desk0 (l:Int):zat:=⟨l,[],0,⟨0,0,0⟩,[],⟨[],false⟩,⟨0,0,0⟩,false,[]⟩
abbrev Desks:=Nat→Option zat
def upd (ds:Desks) (i:Nat) (d:zat):Desks:=fun j=>if j=i then some d else ds j
def seats (ms:List zbk):Desks:=ms.foldl (fun ds m=>upd ds m.ID.toNat (desk0 m.Level)) fun _=>none
def voidIf (period:Int) (first:Bool) (good:zbe) (i:Nat) (m:zbC):zbC:=if period≤i∧(first || lessS good m.event.Stamp)=true then { m with void:=true } else m
def suspS (id:Int) (at_:zbe) (d:zat):zat:=
 { d with
   suspensions:=d.suspensions++[⟨id,if d.some then d.good else d.started,at_,⟨0,0,0⟩,!d.some,false⟩]
   marks:=d.marks.mapIdx (voidIf d.period (!d.some) (if d.some then d.good else d.started)) }
def reinS (at_:zbe) (d:zat):zat:=
 if d.watch.Suspended then
  { d with
    suspensions:=d.suspensions.modify (d.suspensions.length - 1) (fun x=>{ x with Lifted:=true,Until:=at_ })
    period:=d.marks.length
    started:=at_
    noted:=[]
    watch:=⟨[],false⟩
    good:=⟨0,0,0⟩
    some:=false }
 else d
def gather (noted:List (zaL×Int)) (script:Int) (marks:List Int):List GPart→Nat→List Int→List Int→Option (List Int×List Int)
 | [],_,x,y=>some (x,y)
 | p :: r,i,x,y=>if p.Kind=1 then (match mfind ⟨script,i⟩ noted with
   | none=>none
   | some v=>gather noted script marks r (i+1) (x++[marks.getD i 0]) (y++[v])) else gather noted script marks r (i+1) x y
def noteS (s:zak) (p:zaJ) (sd:GSeed) (e:zab) (d:zat):zat:=
 if (mfind ⟨e.Script,e.Part⟩ d.noted).isSome then d
 else
  let d1:={ d with noted:=mput ⟨e.Script,e.Part⟩ e.Value d.noted }
  match gather d1.noted e.Script sd.Marks p.Parts 0 [] [] with
  | none=>d1
  | some (x,y) =>
    if d.watch.Suspended then d1
    else
     let g:=goodS s.Monitor x y
     let n:=stepW s.Monitor d.watch g
     let d2:={ d1 with watch:=n }
     if n.Suspended then suspS e.Stamp.Source e.Stamp d2
     else if g then { d2 with good:=e.Stamp,some:=true }
     else d2
abbrev Reop:=List (zaL×zbe)
def evS (s:zak) (st:Desks×Reop) (e:zab):Desks×Reop:=
 if e.Kind=1 then (match st.1 e.Marker.toNat with
  | some d=>(upd st.1 e.Marker.toNat (reinS e.Stamp d),st.2)
  | none=>st)
 else if e.Kind=2 then (st.1,mput ⟨e.Script,e.Part⟩ e.Stamp st.2)
 else if e.Kind=0 then (match st.1 e.Stamp.Source.toNat,fitS s e with
  | some d,some q=>(match seedS s e.Script,s.Papers[q]? with
    | some sd,some p=>(upd st.1 e.Stamp.Source.toNat (noteS s p sd e d),st.2)
    | none,_=>(upd st.1 e.Stamp.Source.toNat { d with marks:=d.marks++[⟨e,d.watch.Suspended⟩] },st.2)
    | _,_=>st)
  | _,_=>st)
 else st
def walkS (s:zak) (ev:List zab):Desks×Reop:=ev.foldl (evS s) (seats s.Markers,[])
def deskL (ds:Desks):List (Option zat):=(List.range 100).map ds
def reopB (R:Reop) (e:zab):Bool:=
 (match mfind ⟨e.Script,e.Part⟩ R with | some a=>lessS e.Stamp a | none=>false) || (match mfind ⟨e.Script,-1⟩ R with | some a=>lessS e.Stamp a | none=>false)
abbrev Counts:=List (zaL×zab)
def zfj (d:zat) (R:Reop) (m:Counts) (x:zbC):Counts:=
 if x.void then m else if d.level < 2∧reopB R x.event=true then m else mput ⟨x.event.Script,x.event.Part⟩ x.event m
def countS (d:zat) (R:Reop):Counts:=d.marks.foldl (zfj d R) []
def zcJ (id:Int) (d:zat) (e:zab):zbb:=⟨e.Script,e.Part,id,d.level,e.Value,e.Stamp⟩
def zcx (a b:zbb):Bool:=if a.Script≠b.Script then decide (a.Script < b.Script) else if a.Part≠b.Part then decide (a.Part < b.Part) else decide (a.Marker < b.Marker)
def allGiven (ds:Desks) (R:Reop):List zbb:=(List.range 100).flatMap fun (i:Nat)=>match ds i with
 | some d=>(countS d R).map fun p=>zcJ i d p.2
 | none=>[]
def allSusp (ds:Desks):List zbQ:=(List.range 100).flatMap fun (i:Nat)=>match ds i with
 | some d=>d.suspensions
 | none=>[]
def foldS (s:zak) (l:List zab):zaG:=
 ⟨isort zcx (allGiven (walkS s (canonS l)).1 (walkS s (canonS l)).2),allSusp (walkS s (canonS l)).1⟩
def nDp:Option zat→List AV
 | none=>[.v (.pointer none)]
 | some d=>[.fp (zd9 d)]
abbrev dDp:TyD:=TyD.of (Option zat) nDp (by
 intro x y h; cases x <;> cases y <;> simp only [nDp,zbq,and_true,AV.fp.injEq,reduceCtorEq] at h ⊢
 exact congrArg some (zh0.inj h))
abbrev vFa (z:Nat) (D:TyD):VD:=⟨List D.α,fun x=>.fa z (List.map D.enc x),fun x y h=>by simpa only [AV.fa.injEq,true_and,TyD.minj] using h⟩
def zjl:List (Option zat)×List (zaL×zbe)→AV×Mem:=(rT (lCons (vFa 1 dDp) (lOne (vMp zdS)))).enc
abbrev zl6:RD:={ α:=List (Option zat)×List (zaL×zbe),enc:=zjl,dec:=(rT (lCons (vFa 1 dDp) (lOne (vMp zdS)))).dec,ok:=(rT (lCons (vFa 1 dDp) (lOne (vMp zdS)))).ok,de:=(rT (lCons (vFa 1 dDp) (lOne (vMp zdS)))).de }
def OkRun (s:zak) (ev:List zab):Prop:=zbP s∧(∀ e∈ev,eventB e=true)∧ev.length≤2000
def FewEv (l:List zab):Prop:=l.length < 1000000∧(keepS l).length < 1000∧∀ e∈l,e.Pages.length≤1000000
def oWalk (args:List AV):Option (AV×Mem):=
 haveI:=Classical.propDecidable (∃ s ev,args=[.agg (zaj s),.sl 9 (List.map zaa ev)]∧OkRun s ev)
 if h:∃ s ev,args=[.agg (zaj s),.sl 9 (List.map zaa ev)]∧OkRun s ev then
  some (zjl (deskL (walkS h.choose h.choose_spec.choose).1,(walkS h.choose h.choose_spec.choose).2)) else none
def lentEv (k:Nat) (l:List zab):AV×Mem:=(.row k 9 0 (List.map zaa l).length,[(k,⟨9,zah,List.map zaa l,false⟩)])
def oCanon (args:List AV) (ms:Mem):Option (AV×Mem):=
 haveI:=Classical.propDecidable (∃ l,(args=[(lentEv 1000 l).1]∧ms=(lentEv 1000 l).2)∧FewEv l)
 if h:∃ l,(args=[(lentEv 1000 l).1]∧ms=(lentEv 1000 l).2)∧FewEv l then some (.tup [.sl 9 (List.map zaa (canonS h.choose)),I 0],ms) else none
def oFold (args:List AV) (ms:Mem):Option (AV×Mem):=
 haveI:=Classical.propDecidable (∃ s l,(args=[.agg (zaj s),(lentEv 1001 l).1]∧ms=(lentEv 1001 l).2)∧zbP s∧FewEv l)
 if h:∃ s l,(args=[.agg (zaj s),(lentEv 1001 l).1]∧ms=(lentEv 1001 l).2)∧zbP s∧FewEv l then some (.tup [.agg (zaK (foldS h.choose h.choose_spec.choose)),I 0],ms) else none
def ztE (args:List AV):Option (AV×Mem):=
 haveI:=Classical.propDecidable (∃ l,args=[.sl 9 (List.map zaa l)]∧FewEv l)
 if h:∃ l,args=[.sl 9 (List.map zaa l)]∧FewEv l then some (.tup [.sl 9 (List.map zaa (canonS h.choose)),I 0],[]) else none
def oFoldD (args:List AV):Option (AV×Mem):=
 haveI:=Classical.propDecidable (∃ s l,args=[.agg (zaj s),.sl 9 (List.map zaa l)]∧zbP s∧FewEv l)
 if h:∃ s l,args=[.agg (zaj s),.sl 9 (List.map zaa l)]∧zbP s∧FewEv l then some (.tup [.agg (zaK (foldS h.choose h.choose_spec.choose)),I 0],[]) else none
def oClone (e:TypeId):List AV→Option (AV×Mem)
 | [.sl 1 es]=>if es.length≤100000000 then some (.new 1 e es,[]) else none
 | _=>none
instance:Inhabited zbb:=⟨⟨0,0,0,0,0,⟨0,0,0⟩⟩⟩
instance:Inhabited zab:=⟨⟨⟨0,0,0⟩,0,0,0,0,0,[]⟩⟩
instance:Inhabited zai:=⟨⟨⟨0,0,0⟩,0,0,0⟩⟩
def zeX (a:zai):Bool:=stampB a.Stamp && decide (1≤a.Stamp.Source) && decide ((a.Kind=0∧(0≤a.Candidate∧a.Candidate≤9999)∧a.Marker=0)∨(a.Kind=1∧(1≤a.Marker∧a.Marker≤99)∧a.Candidate=0))
def idA (a:zai):Int×Int:=(a.Stamp.Source,a.Stamp.Seq)
def apStep (st:List ((Int×Int)×zai)×List ((Int×Int)×Bool)) (a:zai):List ((Int×Int)×zai)×List ((Int×Int)×Bool):=
 if zeX a then (match mfind (idA a) st.1 with
  | none=>(mput (idA a) a st.1,st.2)
  | some b=>if a=b then st else (st.1,mput (idA a) true st.2)) else st
def apMaps (l:List zai):List ((Int×Int)×zai)×List ((Int×Int)×Bool):=l.foldl apStep ([],[])
def apKeep (l:List zai):List zai:=(apMaps l).1.filterMap fun p=>if (mfind p.1 (apMaps l).2).getD false then none else some p.2
def apLt (a b:zai):Bool:=lessS a.Stamp b.Stamp
def appS (l:List zai):List zai×Int:=if 24 < (apKeep l).length then ([],3) else (isort apLt (apKeep l),0)
def zrv (args:List AV):Option (AV×Mem):=
 haveI:=Classical.propDecidable (∃ l,args=[.sl 6 (List.map zag l)]∧l.length < 1000000)
 if h:∃ l,args=[.sl 6 (List.map zag l)]∧l.length < 1000000 then some (.tup [.sl 6 (List.map zag (appS h.choose).1),I (appS h.choose).2],[]) else none
def accB (x:GPart) (ks:List Int) (v:Int):Bool:=if ks=[] then v == x.Key else dec (v∈ks)
def zdu (p:zaJ) (s:zbp) (a:List Int) (j:Nat):Int:=
 match p.Parts[j]?,s.Keys[j]?,a[j]? with
 | some x,some ks,some v=>if x.Kind=1 then -2 else if accB x ks v=true then x.Max else if v=-1 then -1 else 0
 | _,_,_=>0
def zjc (p:zaJ) (s:zbp) (a:List Int):List Int:=(List.range p.Parts.length).map (zdu p s a)
def worth (g:zbb):Int:=if g.Value < 0 then 0 else g.Value
def cmpI (a b:Int):Int:=if a < b then -1 else if b < a then 1 else 0
def zkt:List Int→Int
 | []=>0
 | x :: r=>if x=0 then zkt r else x
def cmpS (a b:zbe):Int:=zkt [cmpI a.Time b.Time,cmpI a.Source b.Source,cmpI a.Seq b.Seq]
def stepD (b:zbb×Bool) (g:zbb):zbb×Bool:=
 if g.Level < 2 then b
 else if b.2=false∨b.1.Level < g.Level∨(g.Level=b.1.Level∧0≤cmpS g.Stamp b.1.Stamp) then (g,true) else b
def zoM (l:List zbb):zbb×Bool:=l.foldl stepD (⟨0,0,0,0,0,⟨0,0,0⟩⟩,false)
def sumW (l:List zbb):Int:=l.foldl (fun s g=>s+worth g) 0
def mean (l:List zbb):Int:=if (l.length:Int)≤2*(sumW l).tmod l.length then (sumW l).tdiv l.length+1 else (sumW l).tdiv l.length
def minW (l:List zbb) (m:Int):Int:=l.foldl (fun m g=>if worth g < m then worth g else m) m
def maxW (l:List zbb) (m:Int):Int:=l.foldl (fun m g=>if m < worth g then worth g else m) m
def zlU (r:za8) (l:List zbb):zb5:=
 if (zoM l).2=true then ⟨3,worth (zoM l).1⟩
 else match l with
  | []=>⟨0,0⟩
  | [g]=>if r.Double=true then ⟨1,0⟩ else ⟨3,worth g⟩
  | g :: _=>if r.Tolerance < maxW l (worth g) - minW l (worth g) then ⟨2,0⟩ else ⟨3,mean l⟩
def chkR (r:za8):Int:=if r.Tolerance < 0 then 2 else if 40 < r.Tolerance then 2 else 0
def countG (m:zaG) (n p:Int):List zbb:=m.Given.filter fun g=>g.Script == n && g.Part == p
def verdAt (r:za8) (m:zaG) (x:zaE) (p:zaJ) (c:zbp) (o:Option (Nat×GSeed)) (i:Nat):zb5:=
 match p.Parts[i]?,c.Withdrawn[i]? with
 | some y,some w =>
   if y.Kind=2∨w≠0 then ⟨3,if 0 > zdu p c x.Answers i then 0 else zdu p c x.Answers i⟩
   else match o with
    | some (_,sd)=>⟨3,sd.Marks.getD i 0⟩
    | none=>zlU r (countG m x.Number i)
 | _,_=>⟨0,0⟩
def verdL (r:za8) (m:zaG) (x:zaE) (p:zaJ) (c:zbp) (o:Option (Nat×GSeed)):List zb5:=(List.range p.Parts.length).map (verdAt r m x p c o)
def verdS (r:za8) (s:zak) (m:zaG) (x:zaE):List zb5:=
 match zd3 s.Papers x with
 | some (k,p)=>verdL r m x p ((s.Schemes[k]?).getD ⟨[],[]⟩) (seedOf s.Seeds x.Number)
 | none=>[]
def termT (x:GPart) (w v:Int):Int:=if w=1 then x.Max else if w=2 then 0 else if 0 > v then 0 else v
def sumT:List GPart→List Int→List Int→Int
 | x :: ps,w :: ws,v :: vs=>termT x w v+sumT ps ws vs
 | _,_,_=>0
def stateL (l:List zb5):Int:=l.foldl (fun s v=>if v.State < s then v.State else s) 3
def totR (r:za8) (s:zak) (m:zaG) (n:Int):Int×Int×Int:=
 if chkR r=0 then match zeP s.Scripts n with
  | some x=>if stateL (verdS r s m x)=3 then (3,(match zd3 s.Papers x with | some (k,p)=>sumT p.Parts ((s.Schemes[k]?).getD ⟨[],[]⟩).Withdrawn ((verdS r s m x).map (·.Value)) | none=>0),0) else (stateL (verdS r s m x),0,0)
  | none=>(0,0,4)
 else (0,0,1)
def chkA (r:zaM):Int:=if 0≤r.Days∧r.Days≤1000∧1≤r.Fails∧r.Fails≤60∧0≤r.Tolerance∧r.Tolerance≤200 then 0 else 2
def marksB (m:zaG) (id n:Int):Bool:=m.Given.any fun g=>g.Marker == id && g.Script == n
def scopeB (s:zak) (m:zaG) (a:zai) (x:zaE):Bool:=
 zeX a && !(seedOf s.Seeds x.Number).isSome && ((a.Kind == 0 && x.Candidate == a.Candidate && x.Centre == a.Stamp.Source) || (a.Kind == 1 && marksB m a.Marker x.Number))
def scopeL (s:zak) (m:zaG) (a:zai):List Int:=(s.Scripts.filter (scopeB s m a)).map (·.Number)
def timeS (s:zak) (m:zaG) (c:List zai) (x:zaE):Option Int:=(c.find? fun a=>scopeB s m a x).map (·.Stamp.Time)
def schedL (s:zak) (f:zaE→Option Int):List (Int×Int):=s.Scripts.filterMap fun x=>(f x).map fun t=>(x.Number,t)
def openE (i:Nat) (p:Int×Int):zab:=⟨⟨p.2,0,9000+i⟩,2,p.1,-1,0,0,[]⟩
def openS (l:List (Int×Int)):List zab:=l.mapIdx openE
def untilS (l:List zab) (t:Int):List zab:=l.filter fun e=>decide (e.Stamp.Time≤t)
def movedS (q:za8) (s:zak) (before now:zaG) (n:Int):Int:=
 if (totR q s before n).1=3∧(totR q s now n).1=3 then distI (totR q s now n).2.1 (totR q s before n).2.1 else 0
def zeZ (s:zak) (c:List zai):List (Int×Int):=schedL s (timeS s ⟨[],[]⟩ (c.filter fun a=>a.Kind == 0))
def zet (r:zaM) (q:za8) (s:zak) (ev:List zab) (c:List zai):List Int:=
 ((zeZ s c).filter fun p=>decide (r.Tolerance < movedS q s (foldS s (untilS ev p.2)) (foldS s (ev++openS (zeZ s c))) p.1)).map (·.1)
def zhZ (r:zaM) (s:zak) (m:zaG) (ch:List Int):List Int:=
 (s.Markers.filter fun x=>x.Level == 1 && decide (r.Fails≤(ch.filter (marksB m x.ID)).length)).map (·.ID)
def lastT (c:List zai):Int:=c.foldl (fun t a=>if t < a.Stamp.Time then a.Stamp.Time else t) 0
def reopT (s:zak) (m:zaG) (c:List zai) (bl:List Int) (x:zaE):Option Int:=
 match timeS s m c x with
 | some t=>some t
 | none=>if !(seedOf s.Seeds x.Number).isSome && bl.any (fun id=>marksB m id x.Number) then some (lastT c) else none
def reopS (r:zaM) (q:za8) (s:zak) (ev:List zab) (c:List zai):List zab:=
 openS (schedL s (reopT s (foldS s ev) c (zhZ r s (foldS s ev) (zet r q s ev c))))
def zd5 (r:zaM) (q:za8) (s:zak) (ev:List zab) (l:List zai):List Int×Int:=
 if chkA r=0∧chkR q=0 then (if (appS l).2=0 then (zet r q s ev (appS l).1,0) else ([],(appS l).2)) else ([],1)
def reopR (r:zaM) (q:za8) (s:zak) (ev:List zab) (l:List zai):List zab×Int:=
 if chkA r=0∧chkR q=0 then (if (appS l).2=0 then (reopS r q s ev (appS l).1,0) else ([],(appS l).2)) else ([],1)
def OkApp (s:zak) (ev:List zab) (l:List zai):Prop:=zbP s∧ev.length≤800∧(∀ e∈ev,e.Pages.length≤1000000)∧l.length < 1000000
def argR (r:zaM) (q:za8) (s:zak) (ev:List zab) (l:List zai):List AV:=[.agg (zaP r),.agg (zbA q),.agg (zaj s),.sl 9 (List.map zaa ev),.sl 6 (List.map zag l)]
def zpr (args:List AV):Option (AV×Mem):=
 haveI:=Classical.propDecidable (∃ r q s ev l,args=argR r q s ev l∧OkApp s ev l)
 if h:∃ r q s ev l,args=argR r q s ev l∧OkApp s ev l then
  some (.tup [.sl 9 (List.map zaa (reopR h.choose h.choose_spec.choose h.choose_spec.choose_spec.choose h.choose_spec.choose_spec.choose_spec.choose h.choose_spec.choose_spec.choose_spec.choose_spec.choose).1),I (reopR h.choose h.choose_spec.choose h.choose_spec.choose_spec.choose h.choose_spec.choose_spec.choose_spec.choose h.choose_spec.choose_spec.choose_spec.choose_spec.choose).2],[]) else none
def zdd:List (Int×Bool)→AV×Mem:=fun l=>(.fn zbs [.fa 0 [[.mp (List.map za4 l)]]],[])
abbrev zcK:RD:=RD.of (List (Int×Bool)) zdd (fun x y h=>by
 unfold zdd at h
 simpa only [zbl,AV.fn.injEq,zbq,AV.fa.injEq,AV.mp.injEq,true_and,and_true,zg1.minj] using h)
def zc1:List (Int×Int)→AV×Mem:=fun l=>(.fn zby [.fa 0 [[.mp (List.map zaF l)]]],[])
abbrev zc2:RD:=RD.of (List (Int×Int)) zc1 (fun x y h=>by
 unfold zc1 at h
 simpa only [zbl,AV.fn.injEq,zbq,AV.fa.injEq,AV.mp.injEq,true_and,and_true,zgh.minj] using h)
def evLt (a b:zab):Bool:=lessS a.Stamp b.Stamp
def zOrc:zbL:=fun f args ms =>
 if f=zed then (match ms with | []=>oWalk args | _=>none)
 else if f=zbG then (match ms with | []=>ztE args | _=>oCanon args ms)
 else if f=zcF then (match ms with | []=>oFoldD args | _=>oFold args ms)
 else if f=zbT then (match ms with | []=>oClone zbK args | _=>none)
 else if f=zb2 then (match ms with | []=>oClone zgr args | _=>none)
 else if f=zbZ then oSort 9 zah zdp zaa evLt args ms
 else if f=zcu then oSort 8 zbg zda za7 zcx args ms
 else if f=zci then oSort 6 zaA zd6 zag apLt args ms
 else if f=zcp then (match ms with | []=>oKeys zbs args | _=>none)
 else if f=zcB then (match ms with | []=>oKeys zby args | _=>none)
 else if f=zca then (match ms with | []=>(zhr zbs args).or (zhr zby args) | _=>none)
 else if f=zcl then (match ms with | []=>zrv args | _=>none)
 else if f=zcA then (match ms with | []=>oGrow 9 zah args | _=>none)
 else if f=zc5 then (match ms with | []=>zpr args | _=>none)
 else none
end Go.Proofs.YtlecnobdfhlmnaaGreat
end
