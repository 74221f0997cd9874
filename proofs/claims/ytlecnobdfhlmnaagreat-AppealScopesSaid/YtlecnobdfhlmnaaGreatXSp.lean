/- What the marking layer computes, in plain terms, and the answers that are found by hand. -/
import Derived.Test.YtlecnobdfhlmnaaGreatXFid
import Derived.Test.YtlecnobdfhlmnaaGreatAb9
set_option linter.unusedSimpArgs false
set_option linter.unusedVariables false
noncomputable section
namespace Go.Proofs.YtlecnobdfhlmnaaGreat
open Go.Ab
variable{α:Type}
def dec(p:Prop):Bool:=@decide p (Classical.propDecidable p)
def AscBy(f:α->Int)(l:List α):Prop:=∀j (hj:j+1<l.length),f l[j]<f l[j+1]
def fnd(p:α->Bool):Nat->List α->Option (Nat×α)
 |_,[]=>none
 |i,x::r=>if p x=true then some (i,x)else fnd p (i+1) r
def OkPart(p:GPart):Prop:=
 (1<=p.Max/\p.Max<=40)/\(0<=p.Topic/\p.Topic<16)/\(0<=p.Objective/\p.Objective<6)/\((p.Kind=1/\p.Options=0/\p.Key=0)\/(p.Kind=2/\2<=p.Options/\p.Options<=5/\0<=p.Key/\p.Key<p.Options))
def sumMax(l:List GPart):Int:=(l.map (·.Max)).sum
def zij(p:zaM):Prop:=
 (0<=p.Code/\p.Code<=31)/\(0<=p.Variant/\p.Variant<4)/\(1<=p.Parts.length/\p.Parts.length<=24)/\(∀x∈p.Parts,OkPart x)/\sumMax p.Parts<=200
def OkKeys(o:Int)(ks:List Int):Prop:=(∀k∈ks,0<=k/\k<o)/\AscBy id ks
def ze8(p:zaM)(s:zbu):Prop:=
 zij p/\s.Keys.length=p.Parts.length/\s.Withdrawn.length=p.Parts.length/\∀(j:Nat) (x:GPart) (ks:List Int) (k:Int),p.Parts[j]?=some x->s.Keys[j]?=some ks->s.Withdrawn[j]?=some k->OkKeys x.Options ks/\(0<=k/\k<=2)
def Short(s:zbu):Prop:=∀ks∈s.Keys,ks.length<=1000000
def zmt(m:za3):Prop:=
 (1<=m.ID/\m.ID<=99)/\(-1<=m.Centre/\m.Centre<=99)/\(1<=m.Level/\m.Level<=3)/\(0<=m.Capacity/\m.Capacity<=60)/\(∀n∈m.Papers,0<=n/\n<=31)
def zqp(l:List za3):Prop:=l.length<=16/\(∀m∈l,zmt m/\AscBy id m.Papers)/\AscBy za3.ID l
def zmu(x:zaT):Prop:=
 (0<=x.Paper/\x.Paper<=31)/\(0<=x.Candidate/\x.Candidate<=9999)/\(0<=x.Centre/\x.Centre<=99)/\(0<=x.Variant/\x.Variant<=31)/\x.Number=x.Paper*10000+x.Candidate/\x.Pages.length<=12
def zkM(l:List zaT):Prop:=l.length<=60/\(∀x∈l,zmu x)/\AscBy zaT.Number l
def OkMon(r:zbv):Prop:=(0<=r.Part/\r.Part<=200)/\(0<=r.Total/\r.Total<=200)/\(1<=r.Window/\r.Window<=20)/\(1<=r.Fails/\r.Fails<=r.Window)
def OkAns(p:zaM)(a:List Int):Prop:=a.length=p.Parts.length/\∀(j:Nat) (x:GPart) (v:Int),p.Parts[j]?=some x->a[j]?=some v->x.Kind≠1->-2<=v/\v<x.Options
def zgm(l:List zaT)(n:Int):Option zaT:=(fnd (λx=>x.Number==n) 0 l).map (·.2)
def zfW(ps:List zaM)(x:zaT):Option (Nat×zaM):=fnd (λp=>p.Code==x.Paper&&p.Variant==x.Variant) 0 ps
def zfX(s:zan)(n:Int):Option (Nat×zaM):=(zgm s.Scripts n).bind (zfW s.Papers)
def zlZ(p:zaM)(m:List Int):Prop:=m.length=p.Parts.length/\∀(j:Nat) (x:GPart) (v:Int),p.Parts[j]?=some x->m[j]?=some v->0<=v/\v<=x.Max
structure zb3(s:zan):Prop where
 markers:zqp s.Markers
 scripts:zkM s.Scripts
 papers:s.Papers.length<=32
 len:s.Schemes.length=s.Papers.length
 schemes:∀(j:Nat) (p:zaM) (c:zbu),s.Papers[j]?=some p->s.Schemes[j]?=some c->ze8 p c
 script:∀x∈s.Scripts,∃(k:Nat) (p:zaM) (c:zbu),zfW s.Papers x=some (k,p)/\s.Schemes[k]?=some c/\OkAns p x.Answers
 seeds:s.Seeds.length<=12
 asc:AscBy GSeed.Script s.Seeds
 seed:∀x∈s.Seeds,∃(k:Nat) (p:zaM),zfX s x.Script=some (k,p)/\zlZ p x.Marks
 monitor:OkMon s.Monitor
 short:∀c∈s.Schemes,Short c
 short2:∀m∈s.Markers,m.Papers.length<=1000000
def zqq(s:za6):Prop:=(0<=s.Time/\s.Time<=1000000)/\(0<=s.Source/\s.Source<=99)/\(0<=s.Seq/\s.Seq<=9999)
def OkKind(e:zac):Prop:=
 (e.Kind=0/\1<=e.Stamp.Source/\(0<=e.Part/\e.Part<=23)/\(-1<=e.Value/\e.Value<=40)/\e.Marker=0)\/(e.Kind=1/\e.Stamp.Source=0/\e.Script=0/\e.Part=0/\e.Value=0/\(1<=e.Marker/\e.Marker<=99)/\e.Pages.length=0)\/(e.Kind=2/\e.Stamp.Source=0/\e.Value=0/\e.Marker=0/\(-1<=e.Part/\e.Part<=23)/\e.Pages.length=0)
def zup(e:zac):Prop:=
 zqq e.Stamp/\(0<=e.Script/\e.Script<=319999)/\e.Pages.length<=12/\(∀n∈e.Pages,0<=n/\n<=1152921504606846976)/\OkKind e
def lessS(a b:za6):Bool:=if a.Time≠b.Time then decide (a.Time<b.Time)else if a.Source≠b.Source then decide (a.Source<b.Source)else decide (a.Seq<b.Seq)
def failsN(l:List Bool):Int:=((l.filter (!·)).length:Nat)
def zno(r:zbv)(w:zbZ):Prop:=(w.Last.length:Int)<=r.Window/\w.Suspended=decide (r.Fails<=failsN w.Last)
def lastW(r:zbv)(w:zbZ)(b:Bool):List Bool:=if r.Window<((w.Last++[b]).length:Nat)then(w.Last++[b]).drop 1 else w.Last++[b]
def stepW(r:zbv)(w:zbZ)(b:Bool):zbZ:=⟨lastW r w b,decide (r.Fails<=failsN (lastW r w b))⟩
def seedOf(l:List GSeed)(n:Int):Option (Nat×GSeed):=fnd (λy=>y.Script==n) 0 l
def zgl(l:List za3)(n:Int):Option (Nat×za3):=fnd (λy=>y.ID==n) 0 l
def FitsM(m:za3)(x:zaT):Prop:=x.Paper∈m.Papers/\m.Centre≠x.Centre
def Elig(l:List za3)(n:Int)(x:zaT):Prop:=∃k m,zgl l n=some (k,m)/\FitsM m x
def PermP(x:GPart)(v:Int):Prop:=if x.Kind=2 then v=-1\/v=0\/v=x.Max else -1<=v/\v<=x.Max
def OpenP(p:zaM)(n:Int):Prop:=0<=n/\∃x,p.Parts[n.toNat]?=some x/\x.Kind=1
def FitsE(s:zan)(e:zac):Prop:=
 ∃x,zgm s.Scripts e.Script=some x/\e.Kind=0/\Elig s.Markers e.Stamp.Source x/\∃k p y,zfW s.Papers x=some (k,p)/\0<=e.Part/\p.Parts[e.Part.toNat]?=some y/\y.Kind=1/\(-1<=e.Value/\e.Value<=y.Max)/\e.Pages=x.Pages
def ins(lt:α->α->Bool)(x:α):List α->List α
 |[]=>[x]
 |y::r=>if lt x y then x::y::r else y::ins lt x r
def isort(lt:α->α->Bool)(l:List α):List α:=l.foldr (ins lt) []
def stampB(s:za6):Bool:=decide ((0<=s.Time/\s.Time<=1000000)/\(0<=s.Source/\s.Source<=99)/\(0<=s.Seq/\s.Seq<=9999))
def eventB(e:zac):Bool:=
 stampB e.Stamp&&decide (0<=e.Script/\e.Script<=319999)&&decide (e.Pages.length<=12)&&e.Pages.all (λn=>decide (0<=n/\n<=1152921504606846976)) &&
 decide ((e.Kind=0/\1<=e.Stamp.Source/\(0<=e.Part/\e.Part<=23)/\(-1<=e.Value/\e.Value<=40)/\e.Marker=0)\/(e.Kind=1/\e.Stamp.Source=0/\e.Script=0/\e.Part=0/\e.Value=0/\(1<=e.Marker/\e.Marker<=99)/\e.Pages.length=0)\/(e.Kind=2/\e.Stamp.Source=0/\e.Value=0/\e.Marker=0/\(-1<=e.Part/\e.Part<=23)/\e.Pages.length=0))
abbrev zfw:=List ((Int×Int)×zbO)
def zgg(l:List zac)(m:zfw)(i:Nat)(e:zac):zfw:=
 if eventB e then(match mfind (e.Stamp.Source,e.Stamp.Seq) m with
  |none=>mput (e.Stamp.Source,e.Stamp.Seq) ⟨i,false⟩ m
  |some g=>mput (e.Stamp.Source,e.Stamp.Seq) ⟨g.first,if l[g.first.toNat]?=some e then g.disputed else true⟩ m)
 else m
def ze0(l:List zac):List zac->Nat->zfw->zfw
 |[],_,m=>m
 |e::r,i,m=>ze0 l r (i+1) (zgg l m i e)
def zda(l:List zac):zfw:=ze0 l l 0 []
def keepS(l:List zac):List zac:=(zda l).filterMap λp=>if p.2.disputed then none else l[p.2.first.toNat]?
def canonS(l:List zac):List zac:=isort (λa b=>lessS a.Stamp b.Stamp) (keepS l)
def mayB(m:za3)(x:zaT):Bool:=m.Papers.contains x.Paper&&m.Centre !=x.Centre
def eligB(l:List za3)(n:Int)(x:zaT):Bool:=match zgl l n with
 |some (_,m)=>mayB m x
 |none=>false
def permB(x:GPart)(v:Int):Bool:=if v=-1 then true else if x.Kind=2 then v==0||v==x.Max else decide (0<=v/\v<=x.Max)
def fitS(s:zan)(e:zac):Option Nat:=match zgm s.Scripts e.Script with
 |none=>none
 |some x=>if eligB s.Markers e.Stamp.Source x then(match zfW s.Papers x with
   |none=>none
   |some (k,p)=>if 0<=e.Part then(match p.Parts[e.Part.toNat]? with
     |none=>none
     |some y=>if y.Kind=1/\permB y e.Value=true/\e.Pages=x.Pages then some k else none)else none)
   else none
def seedS(s:zan)(n:Int):Option GSeed:=(seedOf s.Seeds n).map (·.2)
def distI(a b:Int):Int:=if a-b<b-a then b-a else a-b
def posI(a:Int):Int:=if a<0 then 0 else a
def greatB(l:List Int):Bool:=decide (24<l.length)||l.any λm=>decide (200<m)
def zsq(r:zbv):List Int->List Int->Int->Int->Bool
 |a::ra,b::rb,x,y=>if r.Part<distI (posI a) (posI b)then false else zsq r ra rb (x+posI a) (y+posI b)
 |_,_,x,y=>decide (distI x y<=r.Total)
def goodS(r:zbv)(a b:List Int):Bool:=a.length==b.length&&!greatB a&&!greatB b&&zsq r a b 0 0
def desk0(l:Int):zay:=⟨l,[],0,⟨0,0,0⟩,[],⟨[],false⟩,⟨0,0,0⟩,false,[]⟩
abbrev Desks:=Nat->Option zay
def upd(ds:Desks)(i:Nat)(d:zay):Desks:=λj=>if j=i then some d else ds j
def seats(ms:List za3):Desks:=ms.foldl (λds m=>upd ds m.ID.toNat (desk0 m.Level)) λ_=>none
def voidIf(period:Int)(first:Bool)(good:za6)(i:Nat)(m:zb5):zb5:=if period<=i/\(first||lessS good m.event.Stamp)=true then{ m with void:=true }else m
def suspS(id:Int)(at_:za6)(d:zay):zay:=
 { d with
   suspensions:=d.suspensions++[⟨id,if d.some then d.good else d.started,at_,⟨0,0,0⟩,!d.some,false⟩]
   marks:=d.marks.mapIdx (voidIf d.period (!d.some) (if d.some then d.good else d.started)) }
def reinS(at_:za6)(d:zay):zay:=
 if d.watch.Suspended then
  { d with
    suspensions:=d.suspensions.modify (d.suspensions.length-1) (λx=>{ x with Lifted:=true,Until:=at_ })
    period:=d.marks.length
    started:=at_
    noted:=[]
    watch:=⟨[],false⟩
    good:=⟨0,0,0⟩
    some:=false }
 else d
def gather(noted:List (zaP×Int))(script:Int)(marks:List Int):List GPart->Nat->List Int->List Int->Option (List Int×List Int)
 |[],_,x,y=>some (x,y)
 |p::r,i,x,y=>if p.Kind=1 then(match mfind ⟨script,i⟩ noted with
   |none=>none
   |some v=>gather noted script marks r (i+1) (x++[marks.getD i 0]) (y++[v]))else gather noted script marks r (i+1) x y
def noteS(s:zan)(p:zaM)(sd:GSeed)(e:zac)(d:zay):zay:=
 if(mfind ⟨e.Script,e.Part⟩ d.noted).isSome then d
 else
  let d1:={ d with noted:=mput ⟨e.Script,e.Part⟩ e.Value d.noted }
  match gather d1.noted e.Script sd.Marks p.Parts 0 [] []with
  |none=>d1
  |some (x,y) =>
    if d.watch.Suspended then d1
    else
     let g:=goodS s.Monitor x y
     let n:=stepW s.Monitor d.watch g
     let d2:={ d1 with watch:=n }
     if n.Suspended then suspS e.Stamp.Source e.Stamp d2
     else if g then{ d2 with good:=e.Stamp,some:=true }
     else d2
abbrev Reop:=List (zaP×za6)
def evS(s:zan)(st:Desks×Reop)(e:zac):Desks×Reop:=
 if e.Kind=1 then(match st.1 e.Marker.toNat with
  |some d=>(upd st.1 e.Marker.toNat (reinS e.Stamp d),st.2)
  |none=>st)
 else if e.Kind=2 then(st.1,mput ⟨e.Script,e.Part⟩ e.Stamp st.2)
 else if e.Kind=0 then(match st.1 e.Stamp.Source.toNat,fitS s e with
  |some d,some q=>(match seedS s e.Script,s.Papers[q]? with
    |some sd,some p=>(upd st.1 e.Stamp.Source.toNat (noteS s p sd e d),st.2)
    |none,_=>(upd st.1 e.Stamp.Source.toNat { d with marks:=d.marks++[⟨e,d.watch.Suspended⟩] },st.2)
    |_,_=>st)
  |_,_=>st)
 else st
def walkS(s:zan)(ev:List zac):Desks×Reop:=ev.foldl (evS s) (seats s.Markers,[])
def deskL(ds:Desks):List (Option zay):=(List.range 100).map ds
def reopB(R:Reop)(e:zac):Bool:=
 (match mfind ⟨e.Script,e.Part⟩ R with|some a=>lessS e.Stamp a|none=>false)||(match mfind ⟨e.Script,-1⟩ R with|some a=>lessS e.Stamp a|none=>false)
abbrev Counts:=List (zaP×zac)
def zgB(d:zay)(R:Reop)(m:Counts)(x:zb5):Counts:=
 if x.void then m else if d.level<2/\reopB R x.event=true then m else mput ⟨x.event.Script,x.event.Part⟩ x.event m
def countS(d:zay)(R:Reop):Counts:=d.marks.foldl (zgB d R) []
def zdv(id:Int)(d:zay)(e:zac):za5:=⟨e.Script,e.Part,id,d.level,e.Value,e.Stamp⟩
def zbW(a b:za5):Bool:=if a.Script≠b.Script then decide (a.Script<b.Script)else if a.Part≠b.Part then decide (a.Part<b.Part)else decide (a.Marker<b.Marker)
def allGiven(ds:Desks)(R:Reop):List za5:=(List.range 100).flatMap λ(i:Nat)=>match ds i with
 |some d=>(countS d R).map λp=>zdv i d p.2
 |none=>[]
def allSusp(ds:Desks):List zbS:=(List.range 100).flatMap λ(i:Nat)=>match ds i with
 |some d=>d.suspensions
 |none=>[]
def foldS(s:zan)(l:List zac):za9:=
 ⟨isort zbW (allGiven (walkS s (canonS l)).1 (walkS s (canonS l)).2),allSusp (walkS s (canonS l)).1⟩
def nDp:Option zay->List AV
 |none=>[.v (.pointer none)]
 |some d=>[.fp (zf6 d)]
abbrev dDp:TyD:=TyD.of (Option zay) nDp (by
 intro x y h;cases x<;>cases y<;>simp only[nDp,zax,and_true,AV.fp.injEq,reduceCtorEq]at h ⊢
 exact congrArg some (zkF.inj h))
abbrev vFa(z:Nat)(D:TyD):VD:=⟨List D.α,λx=>.fa z (List.map D.enc x),λx y h=>by simpa only[AV.fa.injEq,true_and,TyD.minj]using h⟩
def zmc:List (Option zay)×List (zaP×za6)->AV×Mem:=(rT (lCons (vFa 1 dDp) (lOne (vMp zfF)))).enc
abbrev zo7:RD:={ α:=List (Option zay)×List (zaP×za6),enc:=zmc,dec:=(rT (lCons (vFa 1 dDp) (lOne (vMp zfF)))).dec,ok:=(rT (lCons (vFa 1 dDp) (lOne (vMp zfF)))).ok,de:=(rT (lCons (vFa 1 dDp) (lOne (vMp zfF)))).de }
def OkRun(s:zan)(ev:List zac):Prop:=zb3 s/\(∀e∈ev,eventB e=true)/\ev.length<=2000
def FewEv(l:List zac):Prop:=l.length<1000000/\(keepS l).length<1000/\∀e∈l,e.Pages.length<=1000000
def oWalk(args:List AV):Option (AV×Mem):=
 haveI:=Classical.propDecidable (∃s ev,args=[.agg (zas s),.sl 9 (mA ev)]/\OkRun s ev)
 if h:∃s ev,args=[.agg (zas s),.sl 9 (mA ev)]/\OkRun s ev then
  some (zmc (deskL (walkS h.choose h.choose_spec.choose).1,(walkS h.choose h.choose_spec.choose).2))else none
def lentEv(k:Nat)(l:List zac):AV×Mem:=(.row k 9 0 (mA l).length,[(k,⟨9,zak,mA l,false⟩)])
def oCanon(args:List AV)(ms:Mem):Option (AV×Mem):=
 haveI:=Classical.propDecidable (∃l,(args=[(lentEv 1000 l).1]/\ms=(lentEv 1000 l).2)/\FewEv l)
 if h:∃l,(args=[(lentEv 1000 l).1]/\ms=(lentEv 1000 l).2)/\FewEv l then some (.tup [.sl 9 (mA (canonS h.choose)),I 0],ms)else none
def oFold(args:List AV)(ms:Mem):Option (AV×Mem):=
 haveI:=Classical.propDecidable (∃s l,(args=[.agg (zas s),(lentEv 1001 l).1]/\ms=(lentEv 1001 l).2)/\zb3 s/\FewEv l)
 if h:∃s l,(args=[.agg (zas s),(lentEv 1001 l).1]/\ms=(lentEv 1001 l).2)/\zb3 s/\FewEv l then some (.tup [.agg (zbI (foldS h.choose h.choose_spec.choose)),I 0],ms)else none
def zxt(args:List AV):Option (AV×Mem):=
 haveI:=Classical.propDecidable (∃l,args=[.sl 9 (mA l)]/\FewEv l)
 if h:∃l,args=[.sl 9 (mA l)]/\FewEv l then some (.tup [.sl 9 (mA (canonS h.choose)),I 0],[])else none
def oFoldD(args:List AV):Option (AV×Mem):=
 haveI:=Classical.propDecidable (∃s l,args=[.agg (zas s),.sl 9 (mA l)]/\zb3 s/\FewEv l)
 if h:∃s l,args=[.agg (zas s),.sl 9 (mA l)]/\zb3 s/\FewEv l then some (.tup [.agg (zbI (foldS h.choose h.choose_spec.choose)),I 0],[])else none
def oClone(e:TypeId):List AV->Option (AV×Mem)
 |[.sl 1 es]=>if es.length<=100000000 then some (.new 1 e es,[])else none
 |_=>none
instance:Inhabited za5:=⟨⟨0,0,0,0,0,⟨0,0,0⟩⟩⟩
instance:Inhabited zac:=⟨⟨⟨0,0,0⟩,0,0,0,0,0,[]⟩⟩
instance:Inhabited zaA:=⟨⟨⟨0,0,0⟩,0,0,0⟩⟩
def ziG(a:zaA):Bool:=stampB a.Stamp&&decide (1<=a.Stamp.Source)&&decide ((a.Kind=0/\(0<=a.Candidate/\a.Candidate<=9999)/\a.Marker=0)\/(a.Kind=1/\(1<=a.Marker/\a.Marker<=99)/\a.Candidate=0))
def idA(a:zaA):Int×Int:=(a.Stamp.Source,a.Stamp.Seq)
def apStep(st:List ((Int×Int)×zaA)×List ((Int×Int)×Bool))(a:zaA):List ((Int×Int)×zaA)×List ((Int×Int)×Bool):=
 if ziG a then(match mfind (idA a) st.1 with
  |none=>(mput (idA a) a st.1,st.2)
  |some b=>if a=b then st else(st.1,mput (idA a) true st.2))else st
def apMaps(l:List zaA):List ((Int×Int)×zaA)×List ((Int×Int)×Bool):=l.foldl apStep ([],[])
def apKeep(l:List zaA):List zaA:=(apMaps l).1.filterMap λp=>if(mfind p.1 (apMaps l).2).getD false then none else some p.2
def apLt(a b:zaA):Bool:=lessS a.Stamp b.Stamp
def appS(l:List zaA):List zaA×Int:=if 24<(apKeep l).length then([],3)else(isort apLt (apKeep l),0)
def zva(args:List AV):Option (AV×Mem):=
 haveI:=Classical.propDecidable (∃l,args=[.sl 6 (mE l)]/\l.length<1000000)
 if h:∃l,args=[.sl 6 (mE l)]/\l.length<1000000 then some (.tup [.sl 6 (mE (appS h.choose).1),I (appS h.choose).2],[])else none
def accB(x:GPart)(ks:List Int)(v:Int):Bool:=if ks=[]then v==x.Key else dec (v∈ks)
def zen(p:zaM)(s:zbu)(a:List Int)(j:Nat):Int:=
 match p.Parts[j]?,s.Keys[j]?,a[j]? with
 |some x,some ks,some v=>if x.Kind=1 then -2 else if accB x ks v=true then x.Max else if v=-1 then -1 else 0
 |_,_,_=>0
def zjo(p:zaM)(s:zbu)(a:List Int):List Int:=(List.range p.Parts.length).map (zen p s a)
def worth(g:za5):Int:=if g.Value<0 then 0 else g.Value
def cmpI(a b:Int):Int:=if a<b then -1 else if b<a then 1 else 0
def znt:List Int->Int
 |[]=>0
 |x::r=>if x=0 then znt r else x
def cmpS(a b:za6):Int:=znt [cmpI a.Time b.Time,cmpI a.Source b.Source,cmpI a.Seq b.Seq]
def stepD(b:za5×Bool)(g:za5):za5×Bool:=
 if g.Level<2 then b
 else if b.2=false\/b.1.Level<g.Level\/(g.Level=b.1.Level/\0<=cmpS g.Stamp b.1.Stamp)then(g,true)else b
def zsb(l:List za5):za5×Bool:=l.foldl stepD (⟨0,0,0,0,0,⟨0,0,0⟩⟩,false)
def sumW(l:List za5):Int:=l.foldl (λs g=>s+worth g) 0
def mean(l:List za5):Int:=if(l.length:Int)<=2*(sumW l).tmod l.length then(sumW l).tdiv l.length+1 else(sumW l).tdiv l.length
def minW(l:List za5)(m:Int):Int:=l.foldl (λm g=>if worth g<m then worth g else m) m
def maxW(l:List za5)(m:Int):Int:=l.foldl (λm g=>if m<worth g then worth g else m) m
def zoS(r:zbG)(l:List za5):zc8:=
 if(zsb l).2=true then⟨3,worth (zsb l).1⟩
 else match l with
  |[]=>⟨0,0⟩
  |[g]=>if r.Double=true then⟨1,0⟩else⟨3,worth g⟩
  |g::_=>if r.Tolerance<maxW l (worth g)-minW l (worth g)then⟨2,0⟩else⟨3,mean l⟩
def chkR(r:zbG):Int:=if r.Tolerance<0 then 2 else if 40<r.Tolerance then 2 else 0
def countG(m:za9)(n p:Int):List za5:=m.Given.filter λg=>g.Script==n&&g.Part==p
def verdAt(r:zbG)(m:za9)(x:zaT)(p:zaM)(c:zbu)(o:Option (Nat×GSeed))(i:Nat):zc8:=
 match p.Parts[i]?,c.Withdrawn[i]? with
 |some y,some w =>
   if y.Kind=2\/w≠0 then⟨3,if 0 > zen p c x.Answers i then 0 else zen p c x.Answers i⟩
   else match o with
    |some (_,sd)=>⟨3,sd.Marks.getD i 0⟩
    |none=>zoS r (countG m x.Number i)
 |_,_=>⟨0,0⟩
def verdL(r:zbG)(m:za9)(x:zaT)(p:zaM)(c:zbu)(o:Option (Nat×GSeed)):List zc8:=(List.range p.Parts.length).map (verdAt r m x p c o)
def verdS(r:zbG)(s:zan)(m:za9)(x:zaT):List zc8:=
 match zfW s.Papers x with
 |some (k,p)=>verdL r m x p ((s.Schemes[k]?).getD ⟨[],[]⟩) (seedOf s.Seeds x.Number)
 |none=>[]
def termT(x:GPart)(w v:Int):Int:=if w=1 then x.Max else if w=2 then 0 else if 0 > v then 0 else v
def sumT:List GPart->List Int->List Int->Int
 |x::ps,w::ws,v::vs=>termT x w v+sumT ps ws vs
 |_,_,_=>0
def stateL(l:List zc8):Int:=l.foldl (λs v=>if v.State<s then v.State else s) 3
def totR(r:zbG)(s:zan)(m:za9)(n:Int):Int×Int×Int:=
 if chkR r=0 then match zgm s.Scripts n with
  |some x=>if stateL (verdS r s m x)=3 then(3,(match zfW s.Papers x with|some (k,p)=>sumT p.Parts ((s.Schemes[k]?).getD ⟨[],[]⟩).Withdrawn ((verdS r s m x).map (·.Value))|none=>0),0)else(stateL (verdS r s m x),0,0)
  |none=>(0,0,4)
 else(0,0,1)
def chkA(r:zbp):Int:=if 0<=r.Days/\r.Days<=1000/\1<=r.Fails/\r.Fails<=60/\0<=r.Tolerance/\r.Tolerance<=200 then 0 else 2
def marksB(m:za9)(id n:Int):Bool:=m.Given.any λg=>g.Marker==id&&g.Script==n
def scopeB(s:zan)(m:za9)(a:zaA)(x:zaT):Bool:=
 ziG a&&!(seedOf s.Seeds x.Number).isSome&&((a.Kind==0&&x.Candidate==a.Candidate&&x.Centre==a.Stamp.Source)||(a.Kind==1&&marksB m a.Marker x.Number))
def scopeL(s:zan)(m:za9)(a:zaA):List Int:=(s.Scripts.filter (scopeB s m a)).map (·.Number)
def timeS(s:zan)(m:za9)(c:List zaA)(x:zaT):Option Int:=(c.find? λa=>scopeB s m a x).map (·.Stamp.Time)
def schedL(s:zan)(f:zaT->Option Int):List (Int×Int):=s.Scripts.filterMap λx=>(f x).map λt=>(x.Number,t)
def openE(i:Nat)(p:Int×Int):zac:=⟨⟨p.2,0,9000+i⟩,2,p.1,-1,0,0,[]⟩
def openS(l:List (Int×Int)):List zac:=l.mapIdx openE
def untilS(l:List zac)(t:Int):List zac:=l.filter λe=>decide (e.Stamp.Time<=t)
def movedS(q:zbG)(s:zan)(before now:za9)(n:Int):Int:=
 if(totR q s before n).1=3/\(totR q s now n).1=3 then distI (totR q s now n).2.1 (totR q s before n).2.1 else 0
def zjx(s:zan)(c:List zaA):List (Int×Int):=schedL s (timeS s ⟨[],[]⟩ (c.filter λa=>a.Kind==0))
def zgA(r:zbp)(q:zbG)(s:zan)(ev:List zac)(c:List zaA):List Int:=
 ((zjx s c).filter λp=>decide (r.Tolerance<movedS q s (foldS s (untilS ev p.2)) (foldS s (ev++openS (zjx s c))) p.1)).map (·.1)
def zqt(r:zbp)(s:zan)(m:za9)(ch:List Int):List Int:=
 (s.Markers.filter λx=>x.Level==1&&decide (r.Fails<=(ch.filter (marksB m x.ID)).length)).map (·.ID)
def lastT(c:List zaA):Int:=c.foldl (λt a=>if t<a.Stamp.Time then a.Stamp.Time else t) 0
def reopT(s:zan)(m:za9)(c:List zaA)(bl:List Int)(x:zaT):Option Int:=
 match timeS s m c x with
 |some t=>some t
 |none=>if !(seedOf s.Seeds x.Number).isSome&&bl.any (λid=>marksB m id x.Number)then some (lastT c)else none
def reopS(r:zbp)(q:zbG)(s:zan)(ev:List zac)(c:List zaA):List zac:=
 openS (schedL s (reopT s (foldS s ev) c (zqt r s (foldS s ev) (zgA r q s ev c))))
def zyf(r:zbp)(q:zbG)(s:zan)(ev:List zac)(l:List zaA):List Int×Int:=
 if chkA r=0/\chkR q=0 then(if(appS l).2=0 then(zgA r q s ev (appS l).1,0)else([],(appS l).2))else([],1)
def reopR(r:zbp)(q:zbG)(s:zan)(ev:List zac)(l:List zaA):List zac×Int:=
 if chkA r=0/\chkR q=0 then(if(appS l).2=0 then(reopS r q s ev (appS l).1,0)else([],(appS l).2))else([],1)
def OkApp(s:zan)(ev:List zac)(l:List zaA):Prop:=zb3 s/\ev.length<=800/\(∀e∈ev,e.Pages.length<=1000000)/\l.length<1000000
def argR(r:zbp)(q:zbG)(s:zan)(ev:List zac)(l:List zaA):List AV:=[.agg (zck r),.agg (zcp q),.agg (zas s),.sl 9 (mA ev),.sl 6 (mE l)]
def zKX(args:List AV):Option (AV×Mem):=
 haveI:=Classical.propDecidable (∃r q s ev l,args=argR r q s ev l/\OkApp s ev l)
 if h:∃r q s ev l,args=argR r q s ev l/\OkApp s ev l then
  some (.tup [.sl 9 (mA (reopR h.choose h.choose_spec.choose h.choose_spec.choose_spec.choose h.choose_spec.choose_spec.choose_spec.choose h.choose_spec.choose_spec.choose_spec.choose_spec.choose).1),I (reopR h.choose h.choose_spec.choose h.choose_spec.choose_spec.choose h.choose_spec.choose_spec.choose_spec.choose h.choose_spec.choose_spec.choose_spec.choose_spec.choose).2],[])else none
def zeK:List (Int×Bool)->AV×Mem:=λl=>(.fn zbV [.fa 0 [[.mp (mO l)]]],[])
abbrev zd6:RD:=RD.of (List (Int×Bool)) zeK (λx y h=>by
 unfold zeK at h
 simpa only[zav,AV.fn.injEq,zax,AV.fa.injEq,AV.mp.injEq,true_and,and_true,zjC.minj]using h)
def zet:List (Int×Int)->AV×Mem:=λl=>(.fn zb7 [.fa 0 [[.mp (mR l)]]],[])
abbrev zeu:RD:=RD.of (List (Int×Int)) zet (λx y h=>by
 unfold zet at h
 simpa only[zav,AV.fn.injEq,zax,AV.fa.injEq,AV.mp.injEq,true_and,and_true,ziL.minj]using h)
def evLt(a b:zac):Bool:=lessS a.Stamp b.Stamp
def zOrc:zcv:=λf args ms =>
 if f=zgb then(match ms with|[]=>oWalk args|_=>none)
 else if f=zcB then(match ms with|[]=>zxt args|_=>oCanon args ms)
 else if f=zdY then(match ms with|[]=>oFoldD args|_=>oFold args ms)
 else if f=zcL then(match ms with|[]=>oClone zcO args|_=>none)
 else if f=zc1 then(match ms with|[]=>oClone zdq args|_=>none)
 else if f=zcX then oSort 9 zak ze2 zab evLt args ms
 else if f=zdG then oSort 8 zbl zeG zaC zbW args ms
 else if f=zdp then oSort 6 za8 zf2 zaw apLt args ms
 else if f=zdz then(match ms with|[]=>oKeys zbV args|_=>none)
 else if f=zdP then(match ms with|[]=>oKeys zb7 args|_=>none)
 else if f=zdf then(match ms with|[]=>(zj6 zbV args).or (zj6 zb7 args)|_=>none)
 else if f=zd0 then(match ms with|[]=>zva args|_=>none)
 else if f=zdO then(match ms with|[]=>oGrow 9 zak args|_=>none)
 else if f=zB7 then(match ms with|[]=>zKX args|_=>none)
 else none
end Go.Proofs.YtlecnobdfhlmnaaGreat
end
