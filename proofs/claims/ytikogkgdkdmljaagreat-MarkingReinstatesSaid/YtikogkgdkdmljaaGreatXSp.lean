/- What the marking layer computes, in plain terms, and the answers that are found by hand. -/
import Derived.Test.YtikogkgdkdmljaaGreatXFid
set_option linter.unusedSimpArgs false
set_option linter.unusedVariables false
noncomputable section
namespace Go.Proofs.YtikogkgdkdmljaaGreat
open Go.Ab
variable {α:Type}
def dec (p:Prop):Bool:=@decide p (Classical.propDecidable p)
def AscBy (f:α→Int) (l:List α):Prop:=∀ j (hj:j+1 < l.length),f l[j] < f l[j+1]
def fnd (p:α→Bool):Nat→List α→Option (Nat×α)
 | _,[]=>none
 | i,x :: r=>if p x=true then some (i,x) else fnd p (i+1) r
def OkPart (p:GPart):Prop:=
 (1≤p.Max∧p.Max≤40)∧(0≤p.Topic∧p.Topic < 16)∧(0≤p.Objective∧p.Objective < 6)∧((p.Kind=1∧p.Options=0∧p.Key=0)∨(p.Kind=2∧2≤p.Options∧p.Options≤5∧0≤p.Key∧p.Key < p.Options))
def sumMax (l:List GPart):Int:=(l.map (·.Max)).sum
def ziM (p:zaE):Prop:=
 (0≤p.Code∧p.Code≤31)∧(0≤p.Variant∧p.Variant < 4)∧(1≤p.Parts.length∧p.Parts.length≤24)∧(∀ x∈p.Parts,OkPart x)∧sumMax p.Parts≤200
def OkKeys (o:Int) (ks:List Int):Prop:=(∀ k∈ks,0≤k∧k < o)∧AscBy id ks
def zfI (p:zaE) (s:zbr):Prop:=
 ziM p∧s.Keys.length=p.Parts.length∧s.Withdrawn.length=p.Parts.length∧∀ (j:Nat) (x:GPart) (ks:List Int) (k:Int),p.Parts[j]?=some x→s.Keys[j]?=some ks→s.Withdrawn[j]?=some k→OkKeys x.Options ks∧(0≤k∧k≤2)
def Short (s:zbr):Prop:=∀ ks∈s.Keys,ks.length≤1000000
def zhY (m:zaU):Prop:=
 (1≤m.ID∧m.ID≤99)∧(-1≤m.Centre∧m.Centre≤99)∧(1≤m.Level∧m.Level≤3)∧(0≤m.Capacity∧m.Capacity≤60)∧(∀ n∈m.Papers,0≤n∧n≤31)
def znq (l:List zaU):Prop:=l.length≤16∧(∀ m∈l,zhY m∧AscBy id m.Papers)∧AscBy zaU.ID l
def zoO (x:zaN):Prop:=
 (0≤x.Paper∧x.Paper≤31)∧(0≤x.Candidate∧x.Candidate≤9999)∧(0≤x.Centre∧x.Centre≤99)∧(0≤x.Variant∧x.Variant≤31)∧x.Number=x.Paper*10000+x.Candidate∧x.Pages.length≤12
def znr (l:List zaN):Prop:=l.length≤60∧(∀ x∈l,zoO x)∧AscBy zaN.Number l
def OkMon (r:za2):Prop:=(0≤r.Part∧r.Part≤200)∧(0≤r.Total∧r.Total≤200)∧(1≤r.Window∧r.Window≤20)∧(1≤r.Fails∧r.Fails≤r.Window)
def OkAns (p:zaE) (a:List Int):Prop:=a.length=p.Parts.length∧∀ (j:Nat) (x:GPart) (v:Int),p.Parts[j]?=some x→a[j]?=some v→x.Kind≠1→-2≤v∧v < x.Options
def zgi (l:List zaN) (n:Int):Option zaN:=(fnd (fun x=>x.Number == n) 0 l).map (·.2)
def zfd (ps:List zaE) (x:zaN):Option (Nat×zaE):=fnd (fun p=>p.Code == x.Paper && p.Variant == x.Variant) 0 ps
def zm6 (s:zay) (n:Int):Option (Nat×zaE):=(zgi s.Scripts n).bind (zfd s.Papers)
def zqz (p:zaE) (m:List Int):Prop:=m.length=p.Parts.length∧∀ (j:Nat) (x:GPart) (v:Int),p.Parts[j]?=some x→m[j]?=some v→0≤v∧v≤x.Max
structure zdl (s:zay):Prop where
 markers:znq s.Markers
 scripts:znr s.Scripts
 papers:s.Papers.length≤32
 len:s.Schemes.length=s.Papers.length
 schemes:∀ (j:Nat) (p:zaE) (c:zbr),s.Papers[j]?=some p→s.Schemes[j]?=some c→zfI p c
 script:∀ x∈s.Scripts,∃ (k:Nat) (p:zaE) (c:zbr),zfd s.Papers x=some (k,p)∧s.Schemes[k]?=some c∧OkAns p x.Answers
 seeds:s.Seeds.length≤12
 asc:AscBy GSeed.Script s.Seeds
 seed:∀ x∈s.Seeds,∃ (k:Nat) (p:zaE),zm6 s x.Script=some (k,p)∧zqz p x.Marks
 monitor:OkMon s.Monitor
 short:∀ c∈s.Schemes,Short c
 short2:∀ m∈s.Markers,m.Papers.length≤1000000
def OkStamp (s:zaM):Prop:=(0≤s.Time∧s.Time≤1000000)∧(0≤s.Source∧s.Source≤99)∧(0≤s.Seq∧s.Seq≤9999)
def OkKind (e:zab):Prop:=
 (e.Kind=0∧1≤e.Stamp.Source∧(0≤e.Part∧e.Part≤23)∧(-1≤e.Value∧e.Value≤40)∧e.Marker=0)∨(e.Kind=1∧e.Stamp.Source=0∧e.Script=0∧e.Part=0∧e.Value=0∧(1≤e.Marker∧e.Marker≤99)∧e.Pages.length=0)∨(e.Kind=2∧e.Stamp.Source=0∧e.Value=0∧e.Marker=0∧(-1≤e.Part∧e.Part≤23)∧e.Pages.length=0)
def OkEvent (e:zab):Prop:=
 OkStamp e.Stamp∧(0≤e.Script∧e.Script≤319999)∧e.Pages.length≤12∧(∀ n∈e.Pages,0≤n∧n≤1152921504606846976)∧OkKind e
def lessS (a b:zaM):Bool:=if a.Time≠b.Time then decide (a.Time < b.Time) else if a.Source≠b.Source then decide (a.Source < b.Source) else decide (a.Seq < b.Seq)
def failsN (l:List Bool):Int:=((l.filter (!·)).length:Nat)
def zqA (r:za2) (w:zcY):Prop:=(w.Last.length:Int)≤r.Window∧w.Suspended=decide (r.Fails≤failsN w.Last)
def lastW (r:za2) (w:zcY) (b:Bool):List Bool:=if r.Window < ((w.Last++[b]).length:Nat) then (w.Last++[b]).drop 1 else w.Last++[b]
def stepW (r:za2) (w:zcY) (b:Bool):zcY:=⟨lastW r w b,decide (r.Fails≤failsN (lastW r w b))⟩
def seedOf (l:List GSeed) (n:Int):Option (Nat×GSeed):=fnd (fun y=>y.Script == n) 0 l
def zlv (l:List zaU) (n:Int):Option (Nat×zaU):=fnd (fun y=>y.ID == n) 0 l
def FitsM (m:zaU) (x:zaN):Prop:=x.Paper∈m.Papers∧m.Centre≠x.Centre
def Elig (l:List zaU) (n:Int) (x:zaN):Prop:=∃ k m,zlv l n=some (k,m)∧FitsM m x
def ins (lt:α→α→Bool) (x:α):List α→List α
 | []=>[x]
 | y :: r=>if lt x y then x :: y :: r else y :: ins lt x r
def isort (lt:α→α→Bool) (l:List α):List α:=l.foldr (ins lt) []
def stampB (s:zaM):Bool:=decide ((0≤s.Time∧s.Time≤1000000)∧(0≤s.Source∧s.Source≤99)∧(0≤s.Seq∧s.Seq≤9999))
def eventB (e:zab):Bool:=
 stampB e.Stamp && decide (0≤e.Script∧e.Script≤319999) && decide (e.Pages.length≤12) && e.Pages.all (fun n=>decide (0≤n∧n≤1152921504606846976)) &&
 decide ((e.Kind=0∧1≤e.Stamp.Source∧(0≤e.Part∧e.Part≤23)∧(-1≤e.Value∧e.Value≤40)∧e.Marker=0)∨(e.Kind=1∧e.Stamp.Source=0∧e.Script=0∧e.Part=0∧e.Value=0∧(1≤e.Marker∧e.Marker≤99)∧e.Pages.length=0)∨(e.Kind=2∧e.Stamp.Source=0∧e.Value=0∧e.Marker=0∧(-1≤e.Part∧e.Part≤23)∧e.Pages.length=0))
abbrev zdx:=List ((Int×Int)×zba)
def zd2 (l:List zab) (m:zdx) (i:Nat) (e:zab):zdx:=
 if eventB e then (match mfind (e.Stamp.Source,e.Stamp.Seq) m with
  | none=>mput (e.Stamp.Source,e.Stamp.Seq) ⟨i,false⟩ m
  | some g=>mput (e.Stamp.Source,e.Stamp.Seq) ⟨g.first,if l[g.first.toNat]?=some e then g.disputed else true⟩ m)
 else m
def zcU (l:List zab):List zab→Nat→zdx→zdx
 | [],_,m=>m
 | e :: r,i,m=>zcU l r (i+1) (zd2 l m i e)
def zbT (l:List zab):zdx:=zcU l l 0 []
def keepS (l:List zab):List zab:=(zbT l).filterMap fun p=>if p.2.disputed then none else l[p.2.first.toNat]?
def canonS (l:List zab):List zab:=isort (fun a b=>lessS a.Stamp b.Stamp) (keepS l)
def mayB (m:zaU) (x:zaN):Bool:=m.Papers.contains x.Paper && m.Centre != x.Centre
def eligB (l:List zaU) (n:Int) (x:zaN):Bool:=match zlv l n with
 | some (_,m)=>mayB m x
 | none=>false
def permB (x:GPart) (v:Int):Bool:=if v=-1 then true else if x.Kind=2 then v == 0 || v == x.Max else decide (0≤v∧v≤x.Max)
def fitS (s:zay) (e:zab):Option Nat:=match zgi s.Scripts e.Script with
 | none=>none
 | some x=>if eligB s.Markers e.Stamp.Source x then (match zfd s.Papers x with
   | none=>none
   | some (k,p)=>if 0≤e.Part then (match p.Parts[e.Part.toNat]? with
     | none=>none
     | some y=>if y.Kind=1∧permB y e.Value=true∧e.Pages=x.Pages then some k else none) else none)
   else none
def seedS (s:zay) (n:Int):Option GSeed:=(seedOf s.Seeds n).map (·.2)
def distI (a b:Int):Int:=if a - b < b - a then b - a else a - b
def posI (a:Int):Int:=if a < 0 then 0 else a
def greatB (l:List Int):Bool:=decide (24 < l.length) || l.any fun m=>decide (200 < m)
def zr7 (r:za2):List Int→List Int→Int→Int→Bool
 | a :: ra,b :: rb,x,y=>if r.Part < distI (posI a) (posI b) then false else zr7 r ra rb (x+posI a) (y+posI b)
 | _,_,x,y=>decide (distI x y≤r.Total)
def goodS (r:za2) (a b:List Int):Bool:=a.length == b.length && !greatB a && !greatB b && zr7 r a b 0 0
def desk0 (l:Int):zaf:=⟨l,[],0,⟨0,0,0⟩,[],⟨[],false⟩,⟨0,0,0⟩,false,[]⟩
abbrev Desks:=Nat→Option zaf
def upd (ds:Desks) (i:Nat) (d:zaf):Desks:=fun j=>if j=i then some d else ds j
def seats (ms:List zaU):Desks:=ms.foldl (fun ds m=>upd ds m.ID.toNat (desk0 m.Level)) fun _=>none
def voidIf (period:Int) (first:Bool) (good:zaM) (i:Nat) (m:zbc):zbc:=if period≤i∧(first || lessS good m.event.Stamp)=true then { m with void:=true } else m
def suspS (id:Int) (at_:zaM) (d:zaf):zaf:=
 { d with
   suspensions:=d.suspensions++[⟨id,if d.some then d.good else d.started,at_,⟨0,0,0⟩,!d.some,false⟩]
   marks:=d.marks.mapIdx (voidIf d.period (!d.some) (if d.some then d.good else d.started)) }
def reinS (at_:zaM) (d:zaf):zaf:=
 if d.watch.Suspended then
  { d with
    suspensions:=d.suspensions.modify (d.suspensions.length - 1) (fun x=>{ x with Lifted:=true,Until:=at_ })
    period:=d.marks.length
    started:=at_
    noted:=[]
    watch:=⟨[],false⟩
    good:=⟨0,0,0⟩
    some:=false }
 else d
def gather (noted:List (zar×Int)) (script:Int) (marks:List Int):List GPart→Nat→List Int→List Int→Option (List Int×List Int)
 | [],_,x,y=>some (x,y)
 | p :: r,i,x,y=>if p.Kind=1 then (match mfind ⟨script,i⟩ noted with
   | none=>none
   | some v=>gather noted script marks r (i+1) (x++[marks.getD i 0]) (y++[v])) else gather noted script marks r (i+1) x y
def noteS (s:zay) (p:zaE) (sd:GSeed) (e:zab) (d:zaf):zaf:=
 if (mfind ⟨e.Script,e.Part⟩ d.noted).isSome then d
 else
  let d1:={ d with noted:=mput ⟨e.Script,e.Part⟩ e.Value d.noted }
  match gather d1.noted e.Script sd.Marks p.Parts 0 [] [] with
  | none=>d1
  | some (x,y) =>
    if d.watch.Suspended then d1
    else
     let g:=goodS s.Monitor x y
     let n:=stepW s.Monitor d.watch g
     let d2:={ d1 with watch:=n }
     if n.Suspended then suspS e.Stamp.Source e.Stamp d2
     else if g then { d2 with good:=e.Stamp,some:=true }
     else d2
abbrev Reop:=List (zar×zaM)
def evS (s:zay) (st:Desks×Reop) (e:zab):Desks×Reop:=
 if e.Kind=1 then (match st.1 e.Marker.toNat with
  | some d=>(upd st.1 e.Marker.toNat (reinS e.Stamp d),st.2)
  | none=>st)
 else if e.Kind=2 then (st.1,mput ⟨e.Script,e.Part⟩ e.Stamp st.2)
 else if e.Kind=0 then (match st.1 e.Stamp.Source.toNat,fitS s e with
  | some d,some q=>(match seedS s e.Script,s.Papers[q]? with
    | some sd,some p=>(upd st.1 e.Stamp.Source.toNat (noteS s p sd e d),st.2)
    | none,_=>(upd st.1 e.Stamp.Source.toNat { d with marks:=d.marks++[⟨e,d.watch.Suspended⟩] },st.2)
    | _,_=>st)
  | _,_=>st)
 else st
def walkS (s:zay) (ev:List zab):Desks×Reop:=ev.foldl (evS s) (seats s.Markers,[])
def deskL (ds:Desks):List (Option zaf):=(List.range 100).map ds
def reopB (R:Reop) (e:zab):Bool:=
 (match mfind ⟨e.Script,e.Part⟩ R with | some a=>lessS e.Stamp a | none=>false) || (match mfind ⟨e.Script,-1⟩ R with | some a=>lessS e.Stamp a | none=>false)
abbrev Counts:=List (zar×zab)
def zdG (d:zaf) (R:Reop) (m:Counts) (x:zbc):Counts:=
 if x.void then m else if d.level < 2∧reopB R x.event=true then m else mput ⟨x.event.Script,x.event.Part⟩ x.event m
def countS (d:zaf) (R:Reop):Counts:=d.marks.foldl (zdG d R) []
def zbZ (id:Int) (d:zaf) (e:zab):zbp:=⟨e.Script,e.Part,id,d.level,e.Value,e.Stamp⟩
def zca (a b:zbp):Bool:=if a.Script≠b.Script then decide (a.Script < b.Script) else if a.Part≠b.Part then decide (a.Part < b.Part) else decide (a.Marker < b.Marker)
def allGiven (ds:Desks) (R:Reop):List zbp:=(List.range 100).flatMap fun (i:Nat)=>match ds i with
 | some d=>(countS d R).map fun p=>zbZ i d p.2
 | none=>[]
def allSusp (ds:Desks):List za8:=(List.range 100).flatMap fun (i:Nat)=>match ds i with
 | some d=>d.suspensions
 | none=>[]
def foldS (s:zay) (l:List zab):zbw:=
 ⟨isort zca (allGiven (walkS s (canonS l)).1 (walkS s (canonS l)).2),allSusp (walkS s (canonS l)).1⟩
def nDp:Option zaf→List AV
 | none=>[.v (.pointer none)]
 | some d=>[.fp (zcW d)]
abbrev dDp:TyD:=TyD.of (Option zaf) nDp (by
 intro x y h; cases x <;> cases y <;> simp only [nDp,zbm,and_true,AV.fp.injEq,reduceCtorEq] at h ⊢
 exact congrArg some (zeU.inj h))
abbrev vFa (z:Nat) (D:TyD):VD:=⟨List D.α,fun x=>.fa z (List.map D.enc x),fun x y h=>by simpa only [AV.fa.injEq,true_and,TyD.minj] using h⟩
def zhK:List (Option zaf)×List (zar×zaM)→AV×Mem:=(rT (lCons (vFa 1 dDp) (lOne (vMp zc2)))).enc
abbrev zhM:RD:={ α:=List (Option zaf)×List (zar×zaM),enc:=zhK,dec:=(rT (lCons (vFa 1 dDp) (lOne (vMp zc2)))).dec,ok:=(rT (lCons (vFa 1 dDp) (lOne (vMp zc2)))).ok,de:=(rT (lCons (vFa 1 dDp) (lOne (vMp zc2)))).de }
def OkRun (s:zay) (ev:List zab):Prop:=zdl s∧(∀ e∈ev,eventB e=true)∧ev.length≤2000
def FewEv (l:List zab):Prop:=l.length < 1000000∧(keepS l).length < 200∧∀ e∈l,e.Pages.length≤1000000
def oWalk (args:List AV):Option (AV×Mem):=
 haveI:=Classical.propDecidable (∃ s ev,args=[.agg (zau s),.sl 9 (List.map zaa ev)]∧OkRun s ev)
 if h:∃ s ev,args=[.agg (zau s),.sl 9 (List.map zaa ev)]∧OkRun s ev then
  some (zhK (deskL (walkS h.choose h.choose_spec.choose).1,(walkS h.choose h.choose_spec.choose).2)) else none
def lentEv (k:Nat) (l:List zab):AV×Mem:=(.row k 9 0 (List.map zaa l).length,[(k,⟨9,zac,List.map zaa l,false⟩)])
def oCanon (args:List AV) (ms:Mem):Option (AV×Mem):=
 haveI:=Classical.propDecidable (∃ l,(args=[(lentEv 1000 l).1]∧ms=(lentEv 1000 l).2)∧FewEv l)
 if h:∃ l,(args=[(lentEv 1000 l).1]∧ms=(lentEv 1000 l).2)∧FewEv l then some (.tup [.sl 9 (List.map zaa (canonS h.choose)),I 0],ms) else none
def oFold (args:List AV) (ms:Mem):Option (AV×Mem):=
 haveI:=Classical.propDecidable (∃ s l,(args=[.agg (zau s),(lentEv 1001 l).1]∧ms=(lentEv 1001 l).2)∧zdl s∧FewEv l)
 if h:∃ s l,(args=[.agg (zau s),(lentEv 1001 l).1]∧ms=(lentEv 1001 l).2)∧zdl s∧FewEv l then some (.tup [.agg (zbM (foldS h.choose h.choose_spec.choose)),I 0],ms) else none
def zrj (args:List AV):Option (AV×Mem):=
 haveI:=Classical.propDecidable (∃ l,args=[.sl 9 (List.map zaa l)]∧FewEv l)
 if h:∃ l,args=[.sl 9 (List.map zaa l)]∧FewEv l then some (.tup [.sl 9 (List.map zaa (canonS h.choose)),I 0],[]) else none
def oFoldD (args:List AV):Option (AV×Mem):=
 haveI:=Classical.propDecidable (∃ s l,args=[.agg (zau s),.sl 9 (List.map zaa l)]∧zdl s∧FewEv l)
 if h:∃ s l,args=[.agg (zau s),.sl 9 (List.map zaa l)]∧zdl s∧FewEv l then some (.tup [.agg (zbM (foldS h.choose h.choose_spec.choose)),I 0],[]) else none
def oClone (e:TypeId):List AV→Option (AV×Mem)
 | [.sl 1 es]=>if es.length≤100000000 then some (.new 1 e es,[]) else none
 | _=>none
def zOrc:zbu:=fun f args ms =>
 if f=zcH then (match ms with | []=>oWalk args | _=>none)
 else if f=zbj then (match ms with | []=>zrj args | _=>oCanon args ms)
 else if f=zbV then (match ms with | []=>oFoldD args | _=>oFold args ms)
 else if f=zbt then (match ms with | []=>oClone za3 args | _=>none)
 else if f=zby then (match ms with | []=>oClone zfi args | _=>none)
 else none
end Go.Proofs.YtikogkgdkdmljaaGreat
end
