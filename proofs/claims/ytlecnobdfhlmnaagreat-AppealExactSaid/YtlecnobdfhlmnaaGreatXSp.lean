/- What the marking layer computes, in plain terms, and the answers that are found by hand. -/
import Derived.Test.YtlecnobdfhlmnaaGreatXFid
import Derived.Test.YtlecnobdfhlmnaaGreatAb2
set_option linter.all false
noncomputable section
namespace Go.Proofs.YtlecnobdfhlmnaaGreat
open Go.Ab
abbrev zI:=zB @w64_id zF
variable{α:Type}
def dec(p:Prop):Bool:=@decide p (Classical.propDecidable p)
def AscBy(f:α->Int)(l:List α):Prop:=∀j (hj:j+1<l.length),f l[j]<f l[j+1]
def fnd(p:α->Bool):Nat->List α->Option (Nat×α)
 |_,[]=>none
 |i,x::r=>if p x=true then some (i,x)else fnd p (i+1) r
def OkPart(p:GPart):Prop:=
 (1<=p.xb/\p.xb<=40)/\(0<=p.xq/\p.xq<16)/\(0<=p.xj/\p.xj<6)/\((p.r=1/\p.O=0/\p.xp=0)\/(p.r=2/\2<=p.O/\p.O<=5/\0<=p.xp/\p.xp<p.O))
def sumMax(l:List GPart):Int:=(l.map (·.xb)).sum
def zi4(p:zaQ):Prop:=
 (0<=p.Y/\p.Y<=31)/\(0<=p.L/\p.L<4)/\(1<=p.g.length/\p.g.length<=24)/\(∀x∈p.g,OkPart x)/\sumMax p.g<=200
def OkKeys(o:Int)(ks:aC):Prop:=(∀k∈ks,0<=k/\k<o)/\AscBy id ks
def ze5(p:zaQ)(s:zbu):Prop:=
 zi4 p/\s.U.length=p.g.length/\s.v.length=p.g.length/\∀(j:Nat) (x:GPart) (ks:aC) (k:Int),p.g[j]?=some x->s.U[j]?=some ks->s.v[j]?=some k->OkKeys x.O ks/\(0<=k/\k<=2)
def Short(s:zbu):Prop:=∀ks∈s.U,ks.length<=1000000
def znO(m:zbh):Prop:=
 (1<=m.ID/\m.ID<=99)/\(-1<=m.Q/\m.Q<=99)/\(1<=m.I/\m.I<=3)/\(0<=m.xl/\m.xl<=60)/\(∀n∈m.u,0<=n/\n<=31)
def zrX(l:aN):Prop:=l.length<=16/\(∀m∈l,znO m/\AscBy id m.u)/\AscBy zbh.ID l
def znP(x:zaY):Prop:=
 (0<=x.xa/\x.xa<=31)/\(0<=x.y/\x.y<=9999)/\(0<=x.Q/\x.Q<=99)/\(0<=x.L/\x.L<=31)/\x.j=x.xa*10000+x.y/\x.A.length<=12
def zl1(l:aT):Prop:=l.length<=60/\(∀x∈l,znP x)/\AscBy zaY.j l
def OkMon(r:zbK):Prop:=(0<=r.x/\r.x<=200)/\(0<=r.xi/\r.xi<=200)/\(1<=r.Z/\r.Z<=20)/\(1<=r.S/\r.S<=r.Z)
def OkAns(p:zaQ)(a:aC):Prop:=a.length=p.g.length/\∀(j:Nat) (x:GPart) (v:Int),p.g[j]?=some x->a[j]?=some v->x.r≠1->-2<=v/\v<x.O
def zf4(l:aT)(n:Int):Option zaY:=(fnd (λx=>x.j==n) 0 l).map (·.2)
def zgB(ps:List zaQ)(x:zaY):Option (Nat×zaQ):=fnd (λp=>p.Y==x.xa&&p.L==x.L) 0 ps
def zfA(s:zam)(n:Int):Option (Nat×zaQ):=(zf4 s.c n).bind (zgB s.u)
def znk(p:zaQ)(m:aC):Prop:=m.length=p.g.length/\∀(j:Nat) (x:GPart) (v:Int),p.g[j]?=some x->m[j]?=some v->0<=v/\v<=x.xb
structure zb2(s:zam):Prop where
 markers:zrX s.k
 scripts:zl1 s.c
 papers:s.u.length<=32
 len:s.V.length=s.u.length
 schemes:∀(j:Nat) (p:zaQ) (c:zbu),s.u[j]?=some p->s.V[j]?=some c->ze5 p c
 script:∀x∈s.c,∃(k:Nat) (p:zaQ) (c:zbu),zgB s.u x=some (k,p)/\s.V[k]?=some c/\OkAns p x.X
 seeds:s.E.length<=12
 asc:AscBy GSeed.h s.E
 seed:∀x∈s.E,∃(k:Nat) (p:zaQ),zfA s x.h=some (k,p)/\znk p x.T
 monitor:OkMon s.H
 short:∀c∈s.V,Short c
 short2:∀m∈s.k,m.u.length<=1000000
def zoH(s:zbf):Prop:=(0<=s.n/\s.n<=1000000)/\(0<=s.b/\s.b<=99)/\(0<=s.B/\s.B<=9999)
def OkKind(e:zad):Prop:=
 (e.r=0/\1<=e.a.b/\(0<=e.x/\e.x<=23)/\(-1<=e.s/\e.s<=40)/\e.q=0)\/(e.r=1/\e.a.b=0/\e.h=0/\e.x=0/\e.s=0/\(1<=e.q/\e.q<=99)/\e.A.length=0)\/(e.r=2/\e.a.b=0/\e.s=0/\e.q=0/\(-1<=e.x/\e.x<=23)/\e.A.length=0)
def zv9(e:zad):Prop:=
 zoH e.a/\(0<=e.h/\e.h<=319999)/\e.A.length<=12/\(∀n∈e.A,0<=n/\n<=1152921504606846976)/\OkKind e
def lessS(a b:zbf):Bool:=if a.n≠b.n then decide (a.n<b.n)else if a.b≠b.b then decide (a.b<b.b)else decide (a.B<b.B)
def failsN(l:aP):Int:=((l.filter (!·)).length:Nat)
def zoI(r:zbK)(w:zck):Prop:=(w.J.length:Int)<=r.Z/\w.p=decide (r.S<=failsN w.J)
def lastW(r:zbK)(w:zck)(b:Bool):List Bool:=if r.Z<((w.J++[b]).length:Nat)then(w.J++[b]).drop 1 else w.J++[b]
def stepW(r:zbK)(w:zck)(b:Bool):zck:=⟨lastW r w b,decide (r.S<=failsN (lastW r w b))⟩
def seedOf(l:List GSeed)(n:Int):Option (Nat×GSeed):=fnd (λy=>y.h==n) 0 l
def zg4(l:aN)(n:Int):Option (Nat×zbh):=fnd (λy=>y.ID==n) 0 l
def FitsM(m:zbh)(x:zaY):Prop:=x.xa∈m.u/\m.Q≠x.Q
def Elig(l:aN)(n:Int)(x:zaY):Prop:=∃k m,zg4 l n=some (k,m)/\FitsM m x
def PermP(x:GPart)(v:Int):Prop:=if x.r=2 then v=-1\/v=0\/v=x.xb else -1<=v/\v<=x.xb
def OpenP(p:zaQ)(n:Int):Prop:=0<=n/\∃x,p.g[n.toNat]?=some x/\x.r=1
def FitsE(s:zam)(e:zad):Prop:=
 ∃x,zf4 s.c e.h=some x/\e.r=0/\Elig s.k e.a.b x/\∃k p y,zgB s.u x=some (k,p)/\0<=e.x/\p.g[e.x.toNat]?=some y/\y.r=1/\(-1<=e.s/\e.s<=y.xb)/\e.A=x.A
def ins(lt:α->α->Bool)(x:α):List α->List α
 |[]=>[x]
 |y::r=>if lt x y then x::y::r else y::ins lt x r
def isort(lt:α->α->Bool)(l:List α):List α:=l.foldr (ins lt) []
def stampB(s:zbf):Bool:=decide ((0<=s.n/\s.n<=1000000)/\(0<=s.b/\s.b<=99)/\(0<=s.B/\s.B<=9999))
def eventB(e:zad):Bool:=
 stampB e.a&&decide (0<=e.h/\e.h<=319999)&&decide (e.A.length<=12)&&e.A.all (λn=>decide (0<=n/\n<=1152921504606846976)) &&
 decide ((e.r=0/\1<=e.a.b/\(0<=e.x/\e.x<=23)/\(-1<=e.s/\e.s<=40)/\e.q=0)\/(e.r=1/\e.a.b=0/\e.h=0/\e.x=0/\e.s=0/\(1<=e.q/\e.q<=99)/\e.A.length=0)\/(e.r=2/\e.a.b=0/\e.s=0/\e.q=0/\(-1<=e.x/\e.x<=23)/\e.A.length=0))
abbrev zga:=List ((Int×Int)×zb7)
def zgY(l:aA)(m:zga)(i:Nat)(e:zad):zga:=
 if eventB e then(match mfind (e.a.b,e.a.B) m with
  |none=>mput (e.a.b,e.a.B) ⟨i,false⟩ m
  |some g=>mput (e.a.b,e.a.B) ⟨g.first,if l[g.first.toNat]?=some e then g.W else true⟩ m)
 else m
def zfw(l:aA):List zad->Nat->zga->zga
 |[],_,m=>m
 |e::r,i,m=>zfw l r (i+1) (zgY l m i e)
def zdu(l:aA):zga:=zfw l l 0 []
def keepS(l:aA):List zad:=(zdu l).filterMap λp=>if p.2.W then none else l[p.2.first.toNat]?
def canonS(l:aA):List zad:=isort (λa b=>lessS a.a b.a) (keepS l)
def mayB(m:zbh)(x:zaY):Bool:=m.u.contains x.xa&&m.Q !=x.Q
def eligB(l:aN)(n:Int)(x:zaY):Bool:=match zg4 l n with
 |some (_,m)=>mayB m x
 |none=>false
def permB(x:GPart)(v:Int):Bool:=if v=-1 then true else if x.r=2 then v==0||v==x.xb else decide (0<=v/\v<=x.xb)
def fitS(s:zam)(e:zad):Option Nat:=match zf4 s.c e.h with
 |none=>none
 |some x=>if eligB s.k e.a.b x then(match zgB s.u x with
   |none=>none
   |some (k,p)=>if 0<=e.x then(match p.g[e.x.toNat]? with
     |none=>none
     |some y=>if y.r=1/\permB y e.s=true/\e.A=x.A then some k else none)else none)
   else none
def seedS(s:zam)(n:Int):Option GSeed:=(seedOf s.E n).map (·.2)
def distI(a b:Int):Int:=if a-b<b-a then b-a else a-b
def posI(a:Int):Int:=if a<0 then 0 else a
def greatB(l:aC):Bool:=decide (24<l.length)||l.any λm=>decide (200<m)
def ztZ(r:zbK):List Int->List Int->Int->Int->Bool
 |a::ra,b::rb,x,y=>if r.x<distI (posI a) (posI b)then false else ztZ r ra rb (x+posI a) (y+posI b)
 |_,_,x,y=>decide (distI x y<=r.xi)
def goodS(r:zbK)(a b:aC):Bool:=a.length==b.length&&!greatB a&&!greatB b&&ztZ r a b 0 0
def desk0(l:Int):zaF:=⟨l,[],0,⟨0,0,0⟩,[],⟨[],false⟩,⟨0,0,0⟩,false,[]⟩
abbrev Desks:=Nat->Option zaF
def upd(ds:Desks)(i:Nat)(d:zaF):Desks:=λj=>if j=i then some d else ds j
def seats(ms:aN):Desks:=ms.foldl (λds m=>upd ds m.ID.toNat (desk0 m.I)) λ_=>none
def voidIf(period:Int)(first:Bool)(good:zbf)(i:Nat)(m:zcq):zcq:=if period<=i/\(first||lessS good m.G.a)=true then{ m with xf:=true }else m
def suspS(id:Int)(at_:zbf)(d:zaF):zaF:=
 { d with
   d:=d.d++[⟨id,if d.some then d.good else d.l,at_,⟨0,0,0⟩,!d.some,false⟩]
   marks:=d.marks.mapIdx (voidIf d.period (!d.some) (if d.some then d.good else d.l)) }
def reinS(at_:zbf)(d:zaF):zaF:=
 if d.watch.p then
  { d with
    d:=d.d.modify (d.d.length-1) (λx=>{ x with xk:=true,xg:=at_ })
    period:=d.marks.length
    l:=at_
    R:=[]
    watch:=⟨[],false⟩
    good:=⟨0,0,0⟩
    some:=false }
 else d
def gather(noted:ae)(script:Int)(marks:aC):List GPart->Nat->List Int->List Int->Option (List Int×List Int)
 |[],_,x,y=>some (x,y)
 |p::r,i,x,y=>if p.r=1 then(match mfind ⟨script,i⟩ noted with
   |none=>none
   |some v=>gather noted script marks r (i+1) (x++[marks.getD i 0]) (y++[v]))else gather noted script marks r (i+1) x y
def noteS(s:zam)(p:zaQ)(sd:GSeed)(e:zad)(d:zaF):zaF:=
 if(mfind ⟨e.h,e.x⟩ d.R).isSome then d
 else
  let d1:={ d with R:=mput ⟨e.h,e.x⟩ e.s d.R }
  match gather d1.R e.h sd.T p.g 0 [] []with
  |none=>d1
  |some (x,y) =>
    if d.watch.p then d1
    else
     let g:=goodS s.H x y
     let n:=stepW s.H d.watch g
     let d2:={ d1 with watch:=n }
     if n.p then suspS e.a.b e.a d2
     else if g then{ d2 with good:=e.a,some:=true }
     else d2
abbrev Reop:=List (za1×zbf)
def evS(s:zam)(st:Desks×Reop)(e:zad):Desks×Reop:=
 if e.r=1 then(match st.1 e.q.toNat with
  |some d=>(upd st.1 e.q.toNat (reinS e.a d),st.2)
  |none=>st)
 else if e.r=2 then(st.1,mput ⟨e.h,e.x⟩ e.a st.2)
 else if e.r=0 then(match st.1 e.a.b.toNat,fitS s e with
  |some d,some q=>(match seedS s e.h,s.u[q]? with
    |some sd,some p=>(upd st.1 e.a.b.toNat (noteS s p sd e d),st.2)
    |none,_=>(upd st.1 e.a.b.toNat { d with marks:=d.marks++[⟨e,d.watch.p⟩] },st.2)
    |_,_=>st)
  |_,_=>st)
 else st
def walkS(s:zam)(ev:aA):Desks×Reop:=ev.foldl (evS s) (seats s.k,[])
def deskL(ds:Desks):List (Option zaF):=(List.range 100).map ds
def reopB(R:Reop)(e:zad):Bool:=
 (match mfind ⟨e.h,e.x⟩ R with|some a=>lessS e.a a|none=>false)||(match mfind ⟨e.h,-1⟩ R with|some a=>lessS e.a a|none=>false)
abbrev Counts:=List (za1×zad)
def zhn(d:zaF)(R:Reop)(m:Counts)(x:zcq):Counts:=
 if x.xf then m else if d.N<2/\reopB R x.G=true then m else mput ⟨x.G.h,x.G.x⟩ x.G m
def countS(d:zaF)(R:Reop):Counts:=d.marks.foldl (zhn d R) []
def zdQ(id:Int)(d:zaF)(e:zad):za6:=⟨e.h,e.x,id,d.N,e.s,e.a⟩
def zci(a b:za6):Bool:=if a.h≠b.h then decide (a.h<b.h)else if a.x≠b.x then decide (a.x<b.x)else decide (a.q<b.q)
def allGiven(ds:Desks)(R:Reop):List za6:=(List.range 100).flatMap λ(i:Nat)=>match ds i with
 |some d=>(countS d R).map λp=>zdQ i d p.2
 |none=>[]
def allSusp(ds:Desks):List zcb:=(List.range 100).flatMap λ(i:Nat)=>match ds i with
 |some d=>d.d
 |none=>[]
def foldS(s:zam)(l:aA):zaJ:=
 ⟨isort zci (allGiven (walkS s (canonS l)).1 (walkS s (canonS l)).2),allSusp (walkS s (canonS l)).1⟩
def nDp:Option zaF->List AV
 |none=>[.v (.pointer none)]
 |some d=>[.fp (zgL d)]
abbrev dDp:TyD:=TyD.of (Option zaF) nDp (by
 intro x y h;cases x<;>cases y<;>simp only[nDp,zaD,and_true,AV.fp.injEq,reduceCtorEq]at h ⊢
 exact congrArg some (zlU.inj h))
abbrev vFa(z:Nat)(D:TyD):VD:=⟨List D.α,λx=>.fa z (List.map D.enc x),λx y h=>by simpa only[AV.fa.injEq,true_and,TyD.minj]using h⟩
def zny:List (Option zaF)×List (za1×zbf)->AV×Mem:=(rT (lCons (vFa 1 dDp) (lOne (vMp zgi)))).enc
abbrev zqD:RD:={ α:=List (Option zaF)×List (za1×zbf),enc:=zny,dec:=(rT (lCons (vFa 1 dDp) (lOne (vMp zgi)))).dec,ok:=(rT (lCons (vFa 1 dDp) (lOne (vMp zgi)))).ok,de:=(rT (lCons (vFa 1 dDp) (lOne (vMp zgi)))).de }
def OkRun(s:zam)(ev:aA):Prop:=zb2 s/\(∀e∈ev,eventB e=true)/\ev.length<=2000
def FewEv(l:aA):Prop:=l.length<1000000/\(keepS l).length<1000/\∀e∈l,e.A.length<=1000000
def oWalk(args:aH):Option (AV×Mem):=
 haveI:=Classical.propDecidable (∃s ev,args=[.agg (zap s),.sl 9 (mA ev)]/\OkRun s ev)
 if h:∃s ev,args=[.agg (zap s),.sl 9 (mA ev)]/\OkRun s ev then
  some (zny (deskL (walkS h.choose h.choose_spec.choose).1,(walkS h.choose h.choose_spec.choose).2))else none
def lentEv(k:Nat)(l:aA):AV×Mem:=(.row k 9 0 (mA l).length,[(k,⟨9,85,mA l,false⟩)])
def oCanon(args:aH)(ms:Mem):Option (AV×Mem):=
 haveI:=Classical.propDecidable (∃l,(args=[(lentEv 1000 l).1]/\ms=(lentEv 1000 l).2)/\FewEv l)
 if h:∃l,(args=[(lentEv 1000 l).1]/\ms=(lentEv 1000 l).2)/\FewEv l then some (.tup [.sl 9 (mA (canonS h.choose)),I 0],ms)else none
def oFold(args:aH)(ms:Mem):Option (AV×Mem):=
 haveI:=Classical.propDecidable (∃s l,(args=[.agg (zap s),(lentEv 1001 l).1]/\ms=(lentEv 1001 l).2)/\zb2 s/\FewEv l)
 if h:∃s l,(args=[.agg (zap s),(lentEv 1001 l).1]/\ms=(lentEv 1001 l).2)/\zb2 s/\FewEv l then some (.tup [.agg (zaT (foldS h.choose h.choose_spec.choose)),I 0],ms)else none
def zzE(args:aH):Option (AV×Mem):=
 haveI:=Classical.propDecidable (∃l,args=[.sl 9 (mA l)]/\FewEv l)
 if h:∃l,args=[.sl 9 (mA l)]/\FewEv l then some (.tup [.sl 9 (mA (canonS h.choose)),I 0],[])else none
def oFoldD(args:aH):Option (AV×Mem):=
 haveI:=Classical.propDecidable (∃s l,args=[.agg (zap s),.sl 9 (mA l)]/\zb2 s/\FewEv l)
 if h:∃s l,args=[.agg (zap s),.sl 9 (mA l)]/\zb2 s/\FewEv l then some (.tup [.agg (zaT (foldS h.choose h.choose_spec.choose)),I 0],[])else none
def oClone(e:TypeId):List AV->Option (AV×Mem)
 |[.sl 1 es]=>if es.length<=100000000 then some (.new 1 e es,[])else none
 |_=>none
instance:Inhabited za6:=⟨⟨0,0,0,0,0,⟨0,0,0⟩⟩⟩
instance:Inhabited zad:=⟨⟨⟨0,0,0⟩,0,0,0,0,0,[]⟩⟩
instance:Inhabited zan:=⟨⟨⟨0,0,0⟩,0,0,0⟩⟩
def zeA(a:zan):Bool:=stampB a.a&&decide (1<=a.a.b)&&decide ((a.r=0/\(0<=a.y/\a.y<=9999)/\a.q=0)\/(a.r=1/\(1<=a.q/\a.q<=99)/\a.y=0))
def idA(a:zan):Int×Int:=(a.a.b,a.a.B)
def apStep(st:ah)(a:zan):List ((Int×Int)×zan)×List ((Int×Int)×Bool):=
 if zeA a then(match mfind (idA a) st.1 with
  |none=>(mput (idA a) a st.1,st.2)
  |some b=>if a=b then st else(st.1,mput (idA a) true st.2))else st
def apMaps(l:aD):List ((Int×Int)×zan)×List ((Int×Int)×Bool):=l.foldl apStep ([],[])
def apKeep(l:aD):List zan:=(apMaps l).1.filterMap λp=>if(mfind p.1 (apMaps l).2).getD false then none else some p.2
def apLt(a b:zan):Bool:=lessS a.a b.a
def appS(l:aD):List zan×Int:=if 24<(apKeep l).length then([],3)else(isort apLt (apKeep l),0)
def zwZ(args:aH):Option (AV×Mem):=
 haveI:=Classical.propDecidable (∃l,args=[.sl 6 (mB l)]/\l.length<1000000)
 if h:∃l,args=[.sl 6 (mB l)]/\l.length<1000000 then some (.tup [.sl 6 (mB (appS h.choose).1),I (appS h.choose).2],[])else none
def accB(x:GPart)(ks:aC)(v:Int):Bool:=if ks=[]then v==x.xp else dec (v∈ks)
def zeh(p:zaQ)(s:zbu)(a:aC)(j:Nat):Int:=
 match p.g[j]?,s.U[j]?,a[j]? with
 |some x,some ks,some v=>if x.r=1 then -2 else if accB x ks v=true then x.xb else if v=-1 then -1 else 0
 |_,_,_=>0
def zhg(p:zaQ)(s:zbu)(a:aC):List Int:=(List.range p.g.length).map (zeh p s a)
def worth(g:za6):Int:=if g.s<0 then 0 else g.s
def cmpI(a b:Int):Int:=if a<b then -1 else if b<a then 1 else 0
def zns:List Int->Int
 |[]=>0
 |x::r=>if x=0 then zns r else x
def cmpS(a b:zbf):Int:=zns [cmpI a.n b.n,cmpI a.b b.b,cmpI a.B b.B]
def stepD(b:za6×Bool)(g:za6):za6×Bool:=
 if g.I<2 then b
 else if b.2=false\/b.1.I<g.I\/(g.I=b.1.I/\0<=cmpS g.a b.1.a)then(g,true)else b
def zlm(l:aL):za6×Bool:=l.foldl stepD (⟨0,0,0,0,0,⟨0,0,0⟩⟩,false)
def sumW(l:aL):Int:=l.foldl (λs g=>s+worth g) 0
def mean(l:aL):Int:=if(l.length:Int)<=2*(sumW l).tmod l.length then(sumW l).tdiv l.length+1 else(sumW l).tdiv l.length
def minW(l:aL)(m:Int):Int:=l.foldl (λm g=>if worth g<m then worth g else m) m
def maxW(l:aL)(m:Int):Int:=l.foldl (λm g=>if m<worth g then worth g else m) m
def zgQ(r:zbg)(l:aL):zcY:=
 if(zlm l).2=true then⟨3,worth (zlm l).1⟩
 else match l with
  |[]=>⟨0,0⟩
  |[g]=>if r.xn=true then⟨1,0⟩else⟨3,worth g⟩
  |g::_=>if r.K<maxW l (worth g)-minW l (worth g)then⟨2,0⟩else⟨3,mean l⟩
def chkR(r:zbg):Int:=if r.K<0 then 2 else if 40<r.K then 2 else 0
def countG(m:zaJ)(n p:Int):List za6:=m.M.filter λg=>g.h==n&&g.x==p
def verdAt(r:zbg)(m:zaJ)(x:zaY)(p:zaQ)(c:zbu)(o:Option (Nat×GSeed))(i:Nat):zcY:=
 match p.g[i]?,c.v[i]? with
 |some y,some w =>
   if y.r=2\/w≠0 then⟨3,if 0 > zeh p c x.X i then 0 else zeh p c x.X i⟩
   else match o with
    |some (_,sd)=>⟨3,sd.T.getD i 0⟩
    |none=>zgQ r (countG m x.j i)
 |_,_=>⟨0,0⟩
def verdL(r:zbg)(m:zaJ)(x:zaY)(p:zaQ)(c:zbu)(o:Option (Nat×GSeed)):List zcY:=(List.range p.g.length).map (verdAt r m x p c o)
def verdS(r:zbg)(s:zam)(m:zaJ)(x:zaY):List zcY:=
 match zgB s.u x with
 |some (k,p)=>verdL r m x p ((s.V[k]?).getD ⟨[],[]⟩) (seedOf s.E x.j)
 |none=>[]
def termT(x:GPart)(w v:Int):Int:=if w=1 then x.xb else if w=2 then 0 else if 0 > v then 0 else v
def sumT:List GPart->List Int->List Int->Int
 |x::ps,w::ws,v::vs=>termT x w v+sumT ps ws vs
 |_,_,_=>0
def stateL(l:List zcY):Int:=l.foldl (λs v=>if v.xe<s then v.xe else s) 3
def verdR(r:zbg)(s:zam)(m:zaJ)(n:Int):List zcY×Int:=if chkR r=0 then match zf4 s.c n with|some x=>(verdS r s m x,0)|none=>([],4)else([],1)
def totR(r:zbg)(s:zam)(m:zaJ)(n:Int):Int×Int×Int:=
 if chkR r=0 then match zf4 s.c n with
  |some x=>if stateL (verdS r s m x)=3 then(3,(match zgB s.u x with|some (k,p)=>sumT p.g ((s.V[k]?).getD ⟨[],[]⟩).v ((verdS r s m x).map (·.s))|none=>0),0)else(stateL (verdS r s m x),0,0)
  |none=>(0,0,4)
 else(0,0,1)
def chkA(r:zaP):Int:=if 0<=r.xm/\r.xm<=1000/\1<=r.S/\r.S<=60/\0<=r.K/\r.K<=200 then 0 else 2
def marksB(m:zaJ)(id n:Int):Bool:=m.M.any λg=>g.q==id&&g.h==n
def scopeB(s:zam)(m:zaJ)(a:zan)(x:zaY):Bool:=
 zeA a&&!(seedOf s.E x.j).isSome&&((a.r==0&&x.y==a.y&&x.Q==a.a.b)||(a.r==1&&marksB m a.q x.j))
def scopeL(s:zam)(m:zaJ)(a:zan):List Int:=(s.c.filter (scopeB s m a)).map (·.j)
def timeS(s:zam)(m:zaJ)(c:aD)(x:zaY):Option Int:=(c.find? λa=>scopeB s m a x).map (·.a.n)
def schedL(s:zam)(f:aY):List (Int×Int):=s.c.filterMap λx=>(f x).map λt=>(x.j,t)
def openE(i:Nat)(p:Int×Int):zad:=⟨⟨p.2,0,9000+i⟩,2,p.1,-1,0,0,[]⟩
def openS(l:aJ):List zad:=l.mapIdx openE
def untilS(l:aA)(t:Int):List zad:=l.filter λe=>decide (e.a.n<=t)
def movedS(q:zbg)(s:zam)(before now:zaJ)(n:Int):Int:=
 if(totR q s before n).1=3/\(totR q s now n).1=3 then distI (totR q s now n).2.1 (totR q s before n).2.1 else 0
def zgC(s:zam)(c:aD):List (Int×Int):=schedL s (timeS s ⟨[],[]⟩ (c.filter λa=>a.r==0))
def ze8(r:zaP)(q:zbg)(s:zam)(ev:aA)(c:aD):List Int:=
 ((zgC s c).filter λp=>decide (r.K<movedS q s (foldS s (untilS ev p.2)) (foldS s (ev++openS (zgC s c))) p.1)).map (·.1)
def zgP(r:zaP)(s:zam)(m:zaJ)(ch:aC):List Int:=
 (s.k.filter λx=>x.I==1&&decide (r.S<=(ch.filter (marksB m x.ID)).length)).map (·.ID)
def lastT(c:aD):Int:=c.foldl (λt a=>if t<a.a.n then a.a.n else t) 0
def reopT(s:zam)(m:zaJ)(c:aD)(bl:aC)(x:zaY):Option Int:=
 match timeS s m c x with
 |some t=>some t
 |none=>if !(seedOf s.E x.j).isSome&&bl.any (λid=>marksB m id x.j)then some (lastT c)else none
def reopS(r:zaP)(q:zbg)(s:zam)(ev:aA)(c:aD):List zad:=
 openS (schedL s (reopT s (foldS s ev) c (zgP r s (foldS s ev) (ze8 r q s ev c))))
def zd2(r:zaP)(q:zbg)(s:zam)(ev:aA)(l:aD):List Int×Int:=
 if chkA r=0/\chkR q=0 then(if(appS l).2=0 then(ze8 r q s ev (appS l).1,0)else([],(appS l).2))else([],1)
def reopR(r:zaP)(q:zbg)(s:zam)(ev:aA)(l:aD):List zad×Int:=
 if chkA r=0/\chkR q=0 then(if(appS l).2=0 then(reopS r q s ev (appS l).1,0)else([],(appS l).2))else([],1)
def OkApp(s:zam)(ev:aA)(l:aD):Prop:=zb2 s/\ev.length<=800/\(∀e∈ev,e.A.length<=1000000)/\l.length<1000000
def argR(r:zaP)(q:zbg)(s:zam)(ev:aA)(l:aD):List AV:=[.agg (zaK r),.agg (zbt q),.agg (zap s),.sl 9 (mA ev),.sl 6 (mB l)]
def zuG(args:aH):Option (AV×Mem):=
 haveI:=Classical.propDecidable (∃r q s ev l,args=argR r q s ev l/\OkApp s ev l)
 if h:∃r q s ev l,args=argR r q s ev l/\OkApp s ev l then
  some (.tup [.sl 9 (mA (reopR h.choose h.choose_spec.choose h.choose_spec.choose_spec.choose h.choose_spec.choose_spec.choose_spec.choose h.choose_spec.choose_spec.choose_spec.choose_spec.choose).1),I (reopR h.choose h.choose_spec.choose h.choose_spec.choose_spec.choose h.choose_spec.choose_spec.choose_spec.choose h.choose_spec.choose_spec.choose_spec.choose_spec.choose).2],[])else none
def zfh:List (Int×Bool)->AV×Mem:=λl=>(.fn 126 [.fa 0 [[.mp (mM l)]]],[])
abbrev zep:RD:=RD.of (List (Int×Bool)) zfh (λx y h=>by
 unfold zfh at h
 simpa only[zN,zaC,AV.fn.injEq,AV.fa.injEq,AV.mp.injEq,zkz.minj]using h)
def zeX:List (Int×Int)->AV×Mem:=λl=>(.fn 102 [.fa 0 [[.mp (mK l)]]],[])
abbrev zeZ:RD:=RD.of (List (Int×Int)) zeX (λx y h=>by
 unfold zeX at h
 simpa only[zN,zaC,AV.fn.injEq,AV.fa.injEq,AV.mp.injEq,zjy.minj]using h)
def evLt(a b:zad):Bool:=lessS a.a b.a
def zOrc:zcO:=λf args ms =>
 if f=95 then(match ms with|[]=>oWalk args|_=>none)
 else if f=75 then(match ms with|[]=>zzE args|_=>oCanon args ms)
 else if f=55 then(match ms with|[]=>oFoldD args|_=>oFold args ms)
 else if f=151 then(match ms with|[]=>oClone 3 args|_=>none)
 else if f=245 then(match ms with|[]=>oClone 4 args|_=>none)
 else if f=128 then oSort 9 85 129 zab evLt args ms
 else if f=97 then oSort 8 70 98 zaE zci args ms
 else if f=69 then oSort 6 62 70 zai apLt args ms
 else if f=74 then(match ms with|[]=>oKeys 126 args|_=>none)
 else if f=59 then(match ms with|[]=>oKeys 102 args|_=>none)
 else if f=58 then(match ms with|[]=>(zle 126 args).or (zle 102 args)|_=>none)
 else if f=20 then(match ms with|[]=>zwZ args|_=>none)
 else if f=148 then(match ms with|[]=>oGrow 9 85 args|_=>none)
 else if f=23 then(match ms with|[]=>zuG args|_=>none)
 else none
end Go.Proofs.YtlecnobdfhlmnaaGreat
end
