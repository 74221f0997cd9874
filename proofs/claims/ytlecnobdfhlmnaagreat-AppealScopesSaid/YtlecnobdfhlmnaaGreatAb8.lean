/- The run as a tree of conditions: what is left of a function's text when all that is known has been computed. -/
import Derived.Test.YtlecnobdfhlmnaaGreatAb7
set_option linter.unusedSimpArgs false
set_option linter.unusedVariables false
set_option linter.unusedSectionVars false
noncomputable section
namespace Go.Ab
open Go.RowKit
variable[Dr]
structure TyD where
 α:Type
 enc:α->List AV
 dec:List AV->Option α
 ok:∀c x,dec c=some x->c=enc x
 de:∀x,dec (enc x)=some x
structure RD where
 α:Type
 enc:α->AV×Mem
 dec:AV×Mem->Option α
 ok:∀c x,dec c=some x->c=enc x
 de:∀x,dec (enc x)=some x
structure Dic where
 ty:TypeId->TyD
 res:FuncId->RD
section
variable{β:Type}
def brn(b:Bool)(t e:Option β):Option β:=if b=true then t else e
theorem zuI{b:Bool}{t e:Option β}{y:β}(h:brn b t e=some y):(b=true/\t=some y)\/(b=false/\e=some y):=by
 cases b with
 |true=>exact .inl ⟨rfl,h⟩
 |false=>exact .inr ⟨rfl,h⟩
@[simp] theorem zaV(t e:Option β):brn true t e=t:=rfl
@[simp] theorem zaz(t e:Option β):brn false t e=e:=rfl
theorem zfe(p:Prop)[Decidable p](t e:Option β):brn (decide p) t e=if p then t else e:=by
 unfold brn
 simp_all
def chk(p:Prop)(x:Option β):Option β:=@ite _ p (Classical.propDecidable p) x none
def chkL:List Prop->Option β->Option β
 |[],x=>x
 |p::r,x=>chk p (chkL r x)
def elemD(D:TyD)(es:List (List AV))(i:Nat)(k:D.α->Option β):Option β:=
 match es[i]? with
 |some c=>match D.dec c with
   |some x=>k x
   |none=>none
 |none=>none
def elemP(D:TyD)(es:List (List AV))(i:Nat)(kn:Option β)(kr:Addr->Option β)(kd:D.α->Option β):Option β:=
 match es[i]? with
 |some [.v (.pointer none)]=>kn
 |some [.v (.pointer (some a))]=>kr a
 |some [.fp cs]=>match D.dec cs with
   |some x=>kd x
   |none=>none
 |_=>none
def callD(D:RD)(c:Option (AV×Mem))(k:D.α->Option β):Option β:=
 match c with
 |some r=>match D.dec r with
   |some x=>k x
   |none=>none
 |none=>none
theorem zh1{p:Prop}{x:Option β}{y:β}(h:chk p x=some y):p/\x=some y:=by
 unfold chk at h
 simp_all
@[simp] theorem zbx(x:Option β):chk True x=x:=by unfold chk;rw[if_pos trivial]
theorem zao{p:Prop}(h:p)(x:Option β):chk p x=x:=by unfold chk;rw[if_pos h]
theorem zio:∀{ps:List Prop} {x:Option β} {y:β},chkL ps x=some y->Holds ps/\x=some y
 |[],x,y,h=>⟨trivial,h⟩
 |p::r,x,y,h=>by obtain⟨h1,h2⟩:=zh1 h;obtain⟨h3,h4⟩:=zio h2;exact⟨⟨h1,h3⟩,h4⟩
theorem zq7{D:TyD}{es:List (List AV)}{i:Nat}{k:D.α->Option β}{y:β}(h:elemD D es i k=some y):∃x,es[i]?=some (D.enc x)/\k x=some y:=by
 unfold elemD at h;split at h
 · rename_i c hc;split at h
   ·rename_i x hx;exact⟨x,by rw[hc,D.ok c x hx],h⟩
   ·cases h
 ·cases h
theorem elemP_some{D:TyD}{es:List (List AV)}{i:Nat}{kn:Option β}{kr:Addr->Option β}{kd:D.α->Option β}{y:β}(h:elemP D es i kn kr kd=some y):(es[i]?=some [.v (.pointer none)]/\kn=some y)\/(∃a,es[i]?=some [.v (.pointer (some a))]/\kr a=some y)\/∃x,es[i]?=some [.fp (D.enc x)]/\kd x=some y:=by
 unfold elemP at h;split at h
 ·simp_all
 ·simp_all
 · rename_i cs hc;split at h
   ·rename_i x hx;exact .inr (.inr ⟨x,by rw[hc,D.ok _ _ hx],h⟩)
   ·cases h
 ·cases h
theorem zAO{D:TyD}{es:List (List AV)}{i:Nat}{kn:Option β}{kr:Addr->Option β}{kd:D.α->Option β}(h:es[i]?=some [.v (.pointer none)]):elemP D es i kn kr kd=kn:=by unfold elemP;rw[h]
theorem zGB{D:TyD}{es:List (List AV)}{i:Nat}{kn:Option β}{kr:Addr->Option β}{kd:D.α->Option β}{a:Addr}(h:es[i]?=some [.v (.pointer (some a))]):elemP D es i kn kr kd=kr a:=by unfold elemP;rw[h]
theorem elemP_dat{D:TyD}{es:List (List AV)}{i:Nat}{kn:Option β}{kr:Addr->Option β}{kd:D.α->Option β}{x:D.α}(h:es[i]?=some [.fp (D.enc x)]):elemP D es i kn kr kd=kd x:=by unfold elemP;rw[h];simp only[D.de]
theorem zEJ{D:RD}{c:Option (AV×Mem)}{k:D.α->Option β}{y:β}(h:callD D c k=some y):∃x,c=some (D.enc x)/\k x=some y:=by
 unfold callD at h;split at h
 · rename_i r;split at h
   ·rename_i x hx;exact⟨x,by rw[D.ok r x hx],h⟩
   ·cases h
 ·cases h
@[simp] theorem zbK{D:RD}{x:D.α}(k:D.α->Option β):callD D (some (D.enc x)) k=k x:=by unfold callD;simp only[D.de]
def avEnc(agg:Bool)(D:TyD)(x:D.α):AV:=if agg=true then .agg (D.enc x)else(D.enc x).headD .bot
def avDec(agg:Bool)(D:TyD)(a:AV):Option D.α:=
 if agg=true then(match a with
  |.agg cs=>D.dec cs
  |_=>none)
 else D.dec [a]
theorem avDec_ok{agg:Bool}{D:TyD}{a:AV}{x:D.α}(h:avDec agg D a=some x):a=avEnc agg D x:=by
 unfold avDec at h;unfold avEnc
 cases agg with
 |true =>
   simp only[if_true]at h ⊢;split at h
   ·rw[D.ok _ _ h]
   ·cases h
 |false=>simp only[zbt,if_false]at h ⊢;rw[<-D.ok _ _ h];rfl
def mapD(P:Program)(kt:TypeId)(agg:Bool)(D:TyD)(z:AV)(es:List (List AV))(key:AV)(k:D.α->Bool->Option β):Option β:=
 match mlook P kt key es with
 |some (some a)=>match avDec agg D a with
   |some x=>k x true
   |none=>none
 |some none=>match avDec agg D z with
   |some x=>k x false
   |none=>none
 |none=>none
theorem mapD_some{P:Program}{kt:TypeId}{agg:Bool}{D:TyD}{z:AV}{es:List (List AV)}{key:AV}{k:D.α->Bool->Option β}{y:β}(h:mapD P kt agg D z es key k=some y):(∃a x,mlook P kt key es=some (some a)/\a=avEnc agg D x/\k x true=some y)\/(∃x,mlook P kt key es=some none/\z=avEnc agg D x/\k x false=some y):=by
 unfold mapD at h;split at h
 · rename_i a hm;split at h
   ·rename_i x hx;exact .inl ⟨a,x,hm,avDec_ok hx,h⟩
   ·cases h
 · rename_i hm;split at h
   ·rename_i x hx;exact .inr ⟨x,hm,avDec_ok hx,h⟩
   ·cases h
 ·cases h
def msetD(P:Program)(kt _et:TypeId)(key v:AV)(es:List (List AV))(k:List (List AV)->Option β):Option β:=
 match mset P kt key v es with
 |some es'=>k es'
 |none=>none
theorem msetD_some{P:Program}{kt et:TypeId}{key v:AV}{es:List (List AV)}{k:List (List AV)->Option β}{y:β}(h:msetD P kt et key v es k=some y):∃es',mset P kt key v es=some es'/\k es'=some y:=by
 unfold msetD at h
 grind
def mdelD(P:Program)(kt:TypeId)(key:AV)(es:List (List AV))(k:List (List AV)->Option β):Option β:=
 match mdel P kt key es with
 |some es'=>k es'
 |none=>none
theorem mdelD_some{P:Program}{kt:TypeId}{key:AV}{es:List (List AV)}{k:List (List AV)->Option β}{y:β}(h:mdelD P kt key es k=some y):∃es',mdel P kt key es=some es'/\k es'=some y:=by
 unfold mdelD at h
 grind
def force1(a:AV)(k:AV->Option β):Option β:=
 match a with
 |.bot=>k .bot
 |.v (.int t n)=>k (.v (.int t n))
 |.v (.bool b)=>k (.v (.bool b))
 |.v x=>k (.v x)
 |.sl z es=>k (.sl z es)
 |.agg cs=>k (.agg cs)
 |.tup cs=>k (.tup cs)
 |.fp cs=>k (.fp cs)
 |.loc b z i o=>k (.loc b z i o)
 |.row b z i o=>k (.row b z i o)
 |.fn f cs=>k (.fn f cs)
 |.new z e es=>k (.new z e es)
 |.newp z e cs=>k (.newp z e cs)
 |.map b=>k (.map b)
 |.mp es=>k (.mp es)
 |.newm e es=>k (.newm e es)
 |.fa z es=>k (.fa z es)
theorem zGF(a:AV)(k:AV->Option β):force1 a k=k a:=by unfold force1;split<;>rfl
def forceL:List AV->(List AV->Option β)->Option β
 |[],k=>k []
 |a::r,k=>force1 a λa=>forceL r λr=>k (a::r)
theorem zAR:∀(l:List AV) (k:List AV->Option β),forceL l k=k l
 |[],_=>rfl
 |a::r,k=>by simp only[forceL,zGF,zAR r]
def force2(a:AV)(k:AV->Option β):Option β:=
 match a with
 |.agg cs=>forceL cs λcs=>k (.agg cs)
 |.fp cs=>forceL cs λcs=>k (.fp cs)
 |a=>force1 a k
theorem zGG(a:AV)(k:AV->Option β):force2 a k=k a:=by unfold force2;split<;>simp only[zAR,zGF]
def forceT:List AV->(List AV->Option β)->Option β
 |[],k=>k []
 |a::r,k=>force2 a λa=>forceT r λr=>k (a::r)
theorem zGH:∀(l:List AV) (k:List AV->Option β),forceT l k=k l
 |[],_=>rfl
 |a::r,k=>by simp only[forceT,zGG,zGH r]
def force3(a:AV)(k:AV->Option β):Option β:=
 match a with
 |.tup cs=>forceT cs λcs=>k (.tup cs)
 |a=>force2 a k
theorem force3_eq(a:AV)(k:AV->Option β):force3 a k=k a:=by unfold force3;split<;>simp only[zGH,zGG]
def zyu:Tab->(Tab->Option β)->Option β
 |[],k=>k []
 |(j,a)::r,k=>force3 a λa=>zyu r λr=>k ((j,a)::r)
theorem zCr:∀(l:Tab) (k:Tab->Option β),zyu l k=k l
 |[],_=>rfl
 |(j,a)::r,k=>by simp only[zyu,force3_eq,zCr r]
def zDE(e:Ent)(k:Ent->Option β):Option β:=
 match e with
 |⟨z,e,es,true⟩=>(match es with
   |[cs]=>forceL cs λcs=>k ⟨z,e,[cs],true⟩
   |es=>k ⟨z,e,es,true⟩)
 |⟨z,e,es,false⟩=>k ⟨z,e,es,false⟩
theorem zJ3(e:Ent)(k:Ent->Option β):zDE e k=k e:=by
 unfold zDE;split
 ·split<;>simp only[zAR]
 ·rfl
def zyt:Mem->(Mem->Option β)->Option β
 |[],k=>k []
 |(j,e)::r,k=>zDE e λe=>zyt r λr=>k ((j,e)::r)
theorem zCq:∀(l:Mem) (k:Mem->Option β),zyt l k=k l
 |[],_=>rfl
 |(j,e)::r,k=>by simp only[zyt,zJ3,zCq r]
def force(st:St)(k:St->Option β):Option β:=zyu st.t λt=>zyt st.m λm=>k ⟨t,m⟩
theorem zso(st:St)(k:St->Option β):force st k=k st:=by unfold force;rw[zCr,zCq]
def setB(d:Nat)(x:Bool):Tab->Tab
 |[]=>[]
 |(j,a)::r=>if d=j then(j,.v (.bool x))::r else(j,a)::setB d x r
theorem zvU{d:Nat}{x:Bool}:∀{t:Tab},get t d=.v (.bool x)->setB d x t=t
 |[],h=>by simp[get]at h
 |(j,a)::r,h=>by
   simp only[get]at h;simp only[setB];split
   ·simp_all
   ·rename_i hj;rw[if_neg hj]at h;rw[zvU h]
def tWant(ops:Array Oper)(o:Oper)(t:Tab)(k:Bool->Tab->Option β):Option β:=
 match o.guard with
 |none=>k true t
 |some (j,want)=>match(ops[j]?).bind (·.dst)with
   |some d=>match get t d with
     |.v (.bool b)=>brn b (k (true==want) (setB d true t)) (k (false==want) (setB d false t))
     |.v (.tuple _)=>k false t
     |_=>none
   |none=>none
theorem zKv{ops:Array Oper}{o:Oper}{t:Tab}{k:Bool->Tab->Option β}{y:β}(h:tWant ops o t k=some y):∃b,zuv ops o t=some b/\k b t=some y:=by
 unfold tWant at h;unfold zuv
 cases hg:o.guard with
 |none=>simp_all
 |some q =>
   obtain⟨j,want⟩:=q;simp only[hg]at h ⊢
   cases hd:(ops[j]?).bind (·.dst)with
   |none=>simp[hd]at h
   |some d =>
     simp only[hd]at h ⊢;split at h
     · rename_i b hb;rw[hb];rcases zuI h with⟨rfl,h⟩|⟨rfl,h⟩
       ·rw[zvU hb]at h;exact⟨_,rfl,h⟩
       ·rw[zvU hb]at h;exact⟨_,rfl,h⟩
     ·simp_all
     ·cases h
def elemE(P:Program)(T:Dic)(e:TypeId)(es:List (List AV))(i:Nat)(k:List AV->Option β):Option β:=
 match P.underlying e with
 |some (.pointer t)=>elemP (T.ty t) es i (k [.v (.pointer none)]) (λa=>k [.v (.pointer (some a))]) (λx=>k [.fp ((T.ty t).enc x)])
 |_=>elemD (T.ty e) es i λx=>k ((T.ty e).enc x)
theorem zE9{P:Program}{T:Dic}{e:TypeId}{es:List (List AV)}{i:Nat}{k:List AV->Option β}{y:β}(h:elemE P T e es i k=some y):∃cs,es[i]?=some cs/\k cs=some y:=by
 unfold elemE at h;split at h
 · rcases elemP_some h with⟨h1,h2⟩|⟨a,h1,h2⟩|⟨x,h1,h2⟩
   ·exact⟨_,h1,h2⟩
   ·exact⟨_,h1,h2⟩
   grind
 ·obtain⟨x,h1,h2⟩:=zq7 h;exact⟨_,h1,h2⟩
def tPlain(x:Option Res)(k:Res->Option β):Option β:=
 match x with
 |some r=>k r
 |none=>none
def tCond(x:Option (Res×List Prop))(k:Res->Option β):Option β:=
 match x with
 |some (r,ps)=>chkL ps (k r)
 |none=>none
def altF(C:Cfg)(f:FuncId)(ms:Mem):FuncId:=if ms.isEmpty&&!(C.wrt f).isEmpty then f+100000 else f
def tCall(P:Program)(C:Cfg)(F:AnnF)(T:Dic)(L:Nat->Option Ent)(d:Option Nat)(f:FuncId)(args:List AV)(k:Res->Option β):Option β:=
 match zqK L (C.wrt f) 0 args with
 |none=>none
 |some ((as,ms,bk,fz),ps) =>
   if bk.all (λp=>fz.all (λb=>b≠p.1))=true then
    chkL ps (callD (T.res (altF C f ms)) (callw P C F f as ms) λy =>
     match(T.res (altF C f ms)).enc y with
     |(r,ms')=>match backOf ms' (ziJ bk)with
       |none=>none
       |some back =>
         if(frzOf r bk fz).all (λb=>decide (b<1000))=true then
          tPlain (zus back (ziJ bk) (frzOf r bk fz) r d) λres=>tPlain (zyY (zdv bk) res) k
         else none)
   else none
def tDeep(P:Program)(C:Cfg)(F:AnnF)(T:Dic)(L:Nat->Option Ent)(f:FuncId)(k0:Nat)(args:List AV)(k:Res->Option β):Option β:=
 match args[k0]? with
 |some (.loc b z 0 0)=>match L b with
   |some ent=>if ent.box=true then(match ent.es with
     |[cs]=>match pnest L 900 cs,pdArgs L k0 (.loc 1000 z 0 0) 0 args with
       |some ((cs',nms,nbk),ps),some ((as,fz),qs) =>
         if ent.z=z/\ent.box=true/\nbk.all (λp=>p.1≠b)=true/\fz.all (λc=>decide (c<1000)&&(c !=b&&nbk.all (λp=>p.1≠c)))=true then
          chkL ps (chkL qs (callD (T.res f) (callw P C F f as ((1000,{ ent with es:=[cs'] })::nms)) λy =>
           match(T.res f).enc y with
           |(r,ms')=>tPlain (dRes b fz nbk r ms') k))
         else none
       |_,_=>none
     |_=>none)else none
   |none=>none
 |_=>none
def pk{α:Type}(t:Bool)(x y:α):α:=if t=true then x else y
def setE(E:Operand->AV)(j:Nat)(a:AV):Operand->AV
 |.tmp i=>if i=j then a else E (.tmp i)
 |x=>E x
theorem zG2{E:Operand->AV}{j:Nat}{a:AV}(h:E (.tmp j)=a):setE E j a=E:=by
 funext x;unfold setE
 grind
def rowTy(P:Program)(ent:Ent):TypeId:=
 match P.underlying ent.e with
 |some (.array _ e)=>if szB P e=some ent.z then e else ent.e
 |_=>ent.e
def tBare(P:Program)(C:Cfg)(M:List Nat)(o:Oper)(args:List Operand)(E:Operand->AV)(L:Nat->Option Ent)(k:Res->Option β):Option β:=
 match args with
 |[_,_,.tmp j]=>(match E (.tmp j)with
   |.v (.int kd c)=>brn (c==0) (tPlain (aop P C M noCall o (setE E j (.v (.int kd 0))) L) k) (brn (c==1) (tPlain (aop P C M noCall o (setE E j (.v (.int kd 1))) L) k) none)
   |_=>tPlain (aop P C M noCall o E L) k)
 |_=>tPlain (aop P C M noCall o E L) k
def tMSet(P:Program)(_T:Dic)(L:Nat->Option Ent)(t:TypeId)(m key x:AV)(k:Res->Option β):Option β:=
 match P.underlying t with
 |some (.map kt et)=>match m with
   |.map b=>match L b with
     |some ent=>if ent.z=0/\ent.box=false/\keyAV P kt key=true/\(x.ids L 5).all (λc=>decide (c<1000)&&(c !=b))=true then
       (match psnap L 5 (nrm P et x)with
       |some (x',ps)=>if x'.isC 4=true then chkL ps (msetD P kt et key x' ent.es λes=>k { val:=.bot,set:=[(b,{ ent with es:=es })],frz:=x.ids L 5 })else none
       |none=>none)else none
     |none=>none
   |_=>none
 |_=>none
def tOp(P:Program)(C:Cfg)(F:AnnF)(T:Dic)(M:List Nat)(o:Oper)(E:Operand->AV)(L:Nat->Option Ent)(k:Res->Option β):Option β:=
 match o.op with
 |.binOp op _ x y _=>match E x,E y with
   |.v (.int kd a),.v (.int kd' b)=>match pInt op kd kd' a b with
     |some (v,ps)=>chkL ps (k { val:=v })
     |none=>tPlain (aop P C M noCall o E L) k
   |_,_=>tPlain (aop P C M noCall o E L) k
 |.pick c a b=>match E c,E a,E b with
   |.v (.bool t),.v (.bool x),.v (.bool y)=>k { val:=.v (.bool (pk t x y)) }
   |.v (.bool t),a,b=>brn t (k { val:=a }) (k { val:=b })
   |_,_,_=>none
 |.load t a=>match E a with
   |.loc b z i off=>match L b with
     |some ent=>match ent.box with
       |true=>tPlain (aop P C M noCall o E L) k
       |false=>if ent.z=z/\0<ent.z then elemE P T (rowTy P ent) ent.es i λx=>match readAt P t (x.drop off)with
         |some v=>k { val:=v }
         |none=>none
         else none
     |none=>none
   |_=>tPlain (aop P C M noCall o E L) k
 |.store t a x=>match E a with
   |.loc b z i off=>match L b with
     |some ent=>match ent.box with
       |true=>tPlain (aop P C M noCall o E L) k
       |false=>match szB P t with
         |some n=>if(ent.z=z/\0<ent.z)/\(nrm P t (E x)).cells.length=n/\allL AV.one (nrm P t (E x)).cells=true/\allL (AV.isC 4) (nrm P t (E x)).cells=true then
           elemD (T.ty (rowTy P ent)) ent.es i λy=>if off+n<=((T.ty (rowTy P ent)).enc y).length then k { val:=.bot,set:=[(b,{ ent with es:=ent.es.set i (splice ((T.ty (rowTy P ent)).enc y) off (nrm P t (E x)).cells) })] }else none
           else none
         |none=>none
     |none=>none
   |_=>none
 |.indexAddr t x ix=>match E x,E ix with
   |.sl z es,.v (.int _ n)=>match P.underlying t with
     |some (.slice e)=>match szB P e with
       |some sz=>if z=sz then chk (0<=n) (elemD (T.ty e) es n.toNat λx=>k { val:=.fp ((T.ty e).enc x) })else none
       |none=>none
     |_=>none
   |.row b z off len,.v (.int _ n)=>match P.underlying t with
     |some (.slice e)=>match szB P e with
       |some sz=>if z=sz then chk (0<=n) (chk (n<(len:Int)) (k { val:=.loc b z (off+n.toNat) 0 }))else none
       |none=>none
     |_=>none
   |.loc b z i off,.v (.int _ n)=>match P.underlying t with
     |some (.array len e)=>match szB P e with
       |some sz=>if z=sz/\off=0 then chk (0<=n) (chk (n<(len:Int)) (k { val:=.loc b z (i+n.toNat) 0 }))else tPlain (aop P C M noCall o E L) k
       |none=>none
     |_=>none
   |.fa z es,.v (.int _ n)=>match P.underlying t with
     |some (.array len e)=>match szB P e with
       |some sz=>if z=sz then chk (0<=n) (chk (n<(len:Int)) (elemE P T e es n.toNat λx=>k { val:=.fp x }))else none
       |none=>none
     |_=>none
   |.fp cs,.v (.int _ n)=>(match ix,P.underlying t with
     |.tmp _,some (.array len e)=>(match szB P e with
       |some sz=>chk (0<=n) (chk (n<(len:Int)) (elemD (T.ty e) (chunk sz len cs) n.toNat λx=>k { val:=.fp ((T.ty e).enc x) }))
       |none=>none)
     |_,_=>tPlain (aop P C M noCall o E L) k)
   |_,_=>tPlain (aop P C M noCall o E L) k
 |.index t x ix=>match ix,E x,E ix with
   |.tmp _,.agg cs,.v (.int _ n)=>(match P.underlying t with
     |some (.array len e)=>(match szB P e with
       |some sz=>if cs.length=len*sz then
         chk (0<=n) (chk (n<(len:Int)) (elemD (T.ty e) (chunk sz len cs) n.toNat λx=>match readAt P e ((T.ty e).enc x)with
          |some v=>k { val:=v }
          |none=>none))
         else none
       |none=>none)
     |_=>none)
   |.tmp _,.v (.string s),.v (.int _ n)=>(match P.underlying t with
     |some .string=>chk (0<=n) (chk (n<(s.size:Int)) (k { val:=.v (.int .u8 (strAt s n)) }))
     |_=>none)
   |_,_,_=>tPlain (aop P C M noCall o E L) k
 |.slice t x lo hi none=>match E x with
   |.v _=>tPlain (aop P C M noCall o E L) k
   |a=>tCond (pSlice P t a (lo.map E) (hi.map E)) k
 |.makeSlice t l c=>match o.dst with
   |some d=>if(L d).isNone=true then(if M.contains d=true then tPlain (aop P C M noCall o E L) k else tCond (pMake P d t (E l) (E c)) k)else none
   |none=>none
 |.call { callee:=.builtin .append,args,argTypes }=>match o.dst,args.toList,argTypes.toList with
   |some d,[s,x],[t,t']=>if t=t'/\(L d).isNone=true then tCond (pAppend P L d t (E s) (E x)) k else none
   |_,_,_=>none
 |.call { callee:=.builtin .copy,args,argTypes }=>match args.toList,argTypes.toList with
   |[s,x],t::_=>tCond (pCopy P L t (E s) (E x)) k
   |_,_=>none
 |.call { callee:=.builtin .clear,args,argTypes }=>match args.toList,argTypes.toList with
   |[s],t::_=>tCond (pClear P L t (E s)) k
   |_,_=>none
 |.call { callee:=.builtin .delete,args,argTypes }=>match args.toList,argTypes.toList with
   |[m,kk],t::_=>(match P.underlying t with
     |some (.map kt _)=>(match E m with
       |.map b=>(match L b with
         |some ent=>if ent.z=0/\ent.box=false/\keyAV P kt (E kk)=true then mdelD P kt (E kk) ent.es λes=>k { val:=.tup [],set:=[(b,{ ent with es:=es })] }else none
         |none=>none)
       |_=>none)
     |_=>none)
   |_,_=>none
 |.lookup t m kk ok=>match P.underlying t with
   |some (.map kt et)=>(match mesOf L (E m),zeroA P et with
     |some es,some z=>if keyAV P kt (E kk)=true then mapD P kt ((isAggB P et).getD false) (T.ty et) z es (E kk) λx b=>k { val:=mres ok (avEnc ((isAggB P et).getD false) (T.ty et) x) b }else none
     |_,_=>none)
   |_=>none
 |.mapUpdate t m kk x=>tMSet P T L t (E m) (E kk) (E x) k
 |.insert t m kk x=>tMSet P T L t (E m) (E kk) (E x) k
 |.call { callee:=.value g,args,argTypes }=>match E g with
   |.fn f cap=>if bare P f then tBare P C M o args.toList E L k else match o.dst with
     |some d=>(match C.dp f with
       |some k0=>if dstOut L (some d)=true then tDeep P C F T L f k0 (nrmA P (rawT C f argTypes) (args.toList.map E)++cap) k else none
       |none=>if(L d).isNone=true then tCall P C F T L (some d) f (nrmA P (rawT C f argTypes) (args.toList.map E)++cap) λr=>tPlain (toKill (M.contains d) r) k else none)
     |none=>(match C.dp f with
       |some k0=>tDeep P C F T L f k0 (nrmA P (rawT C f argTypes) (args.toList.map E)++cap) k
       |none=>tCall P C F T L none f (nrmA P (rawT C f argTypes) (args.toList.map E)++cap) k)
   |_=>none
 |_=>tPlain (aop P C M noCall o E L) k
theorem zKk{P:Program}{e:TypeId}{sz:Nat}{l:List AV}{v:AV}(hs:szB P e=some sz)(h:readAt P e (l.take sz)=some v):readAt P e l=some v:=by
 unfold readAt at h ⊢
 grind
theorem zpJ{x:Option Res}{k:Res->Option β}{y:β}(h:tPlain x k=some y):∃r,x=some r/\k r=some y:=by
 unfold tPlain at h
 grind
theorem zrC{x:Option (Res×List Prop)}{k:Res->Option β}{y:β}(h:tCond x k=some y):∃r ps,x=some (r,ps)/\Holds ps/\k r=some y:=by
 unfold tCond at h;split at h
 · obtain⟨h1,h2⟩:=zio h
   grind
 ·cases h
variable{P:Program}{C:Cfg}{F:AnnF}{T:Dic}{M:List Nat}
theorem zCI{L:Nat->Option Ent}{d:Option Nat}{f:FuncId}{args:List AV}{k:Res->Option β}{y:β}
  (h:tCall P C F T L d f args k=some y):∃r,aCall C (callw P C F) L d f args=some r/\k r=some y:=by
 unfold tCall at h;split at h
 case h_1=>cases h
 rename_i as ms bk fz ps hp;split at h
 case isFalse=>cases h
 rename_i hd;obtain⟨hh,h1⟩:=zio h;obtain⟨x,hx,h2⟩:=zEJ h1;split at h2;rename_i r ms' he;split at h2
 case h_1=>cases h2
 rename_i back hb;split at h2
 case isFalse=>cases h2
 rename_i hf;obtain⟨res,hr,h3⟩:=zpJ h2;obtain⟨res2,hr2,h4⟩:=zpJ h3;refine⟨res2,?_,h4⟩;unfold aCall;rw[zn1 args 0 _ _ hp hh]
 grind
theorem zCJ{L:Nat->Option Ent}{f:FuncId}{k0:Nat}{args:List AV}{k:Res->Option β}{y:β}
  (h:tDeep P C F T L f k0 args k=some y):∃r,aDeep (callw P C F) L f k0 args=some r/\k r=some y:=by
 unfold tDeep at h;split at h
 case h_2=>cases h
 rename_i b z hk0;split at h
 case h_2=>cases h
 rename_i ent hlb;split at h
 case isFalse=>cases h
 rename_i hbx;split at h
 case h_2=>cases h
 rename_i cs hes;split at h
 case h_2=>cases h
 rename_i cs' nms nbk ps as fz qs hnest hda;split at h
 case isFalse=>cases h
 rename_i hcond;obtain⟨hh1,h1⟩:=zio h;obtain⟨hh2,h2⟩:=zio h1;obtain⟨x,hx,h3⟩:=zEJ h2;split at h3;rename_i r ms' he;obtain⟨res,hr,h4⟩:=zpJ h3;refine⟨res,?_,h4⟩;unfold aDeep;simp only[hk0,hlb];rw[if_pos hbx,hes];simp only[zsH _ _ _ _ hnest hh1,zvb _ _ _ _ hda hh2]
 grind
theorem zCK{L:Nat->Option Ent}{t:TypeId}{m key x:AV}{k:Res->Option β}{y:β}(h:tMSet P T L t m key x k=some y):∃r,aMSet P L t m key x=some r/\k r=some y:=by
 unfold tMSet at h;split at h
 case h_2=>cases h
 rename_i kt et hu;split at h
 case h_2=>cases h
 rename_i b;split at h
 case h_2=>cases h
 rename_i ent hl;split at h
 case isFalse=>cases h
 rename_i hc;split at h
 case h_2=>cases h
 rename_i x' ps hp;split at h
 case isFalse=>cases h
 rename_i hC;obtain⟨hh,h1⟩:=zio h;obtain⟨es,h2,h3⟩:=msetD_some h1;refine⟨_,?_,h3⟩;unfold aMSet;simp only[hu,hl];rw[if_pos hc,zj2 5 _ _ _ hp hh]
 simp_all
theorem tOp_sound{o:Oper}{E:Operand->AV}{L:Nat->Option Ent}{k:Res->Option β}{y:β}(h:tOp P C F T M o E L k=some y):∃r,aop P C M (callw P C F) o E L=some r/\k r=some y:=by
 have plain:tPlain (aop P C M noCall o E L) k=some y->∃r,aop P C M (callw P C F) o E L=some r/\k r=some y:=by intro h;obtain⟨r,h1,h2⟩:=zpJ h;exact⟨r,aop_mono (noCall_le _) h1,h2⟩
 unfold tOp at h;split at h
 · rename_i op t x z u ho;split at h
   · rename_i kd a kd' b hx hy;split at h
     · rename_i v ps hp;obtain⟨hh,h1⟩:=zio h;refine⟨_,?_,h1⟩;have:=pInt_sound (P:=P) ho hx hy hp hh;unfold aop;simp only[ho,hx,hy]
       have hnc:nilCmp P op t (.v (.int kd a)) (.v (.int kd' b))=none:=by unfold nilCmp;split<;>simp_all
       simp_all
     ·exact plain h
   ·exact plain h
 · rename_i c a b ho;split at h
   ·rename_i t x z hc ha hb;refine⟨_,?_,h⟩;unfold aop;simp only[ho,hc,ha,hb,pk];cases t<;>rfl
   · rename_i t hc _;unfold aop;simp only[ho,hc];rcases zuI h with⟨rfl,h⟩|⟨rfl,h⟩
     ·exact⟨_,rfl,h⟩
     grind
   ·cases h
 · rename_i t a ho;split at h
   · rename_i b z i off ha;split at h
     case h_2=>cases h
     rename_i ent hl;split at h
     ·exact plain h
     · rename_i hbx;split at h
       case isFalse=>cases h
       rename_i hz;obtain⟨x,hx,h1⟩:=zE9 h;split at h1
       case h_2=>cases h1
       rename_i v hv;refine⟨_,?_,h1⟩;unfold aop;simp only[ho,ha,aLoad,hl]
       grind
   ·exact plain h
 · rename_i t a x ho;split at h
   · rename_i b z i off ha;split at h
     case h_2=>cases h
     rename_i ent hl;split at h
     ·exact plain h
     · rename_i hbx;split at h
       case h_2=>cases h
       rename_i n hs;split at h
       case isFalse=>cases h
       rename_i hc;obtain⟨u,hu,h1⟩:=zq7 h;split at h1
       case isFalse=>cases h1
       rename_i hlen;refine⟨_,?_,h1⟩;unfold aop;simp only[ho,ha,nrmS,hl,hbx,aStore,hs]
       grind
   ·cases h
 · rename_i t x ix ho;split at h
   · rename_i z es kd n hx hi;split at h
     case h_2=>cases h
     rename_i e hu;split at h
     case h_2=>cases h
     rename_i sz hs;split at h
     case isFalse=>cases h
     rename_i hz;obtain⟨h0,h1⟩:=zh1 h;obtain⟨u,hu',h2⟩:=zq7 h1;refine⟨_,?_,h2⟩;unfold aop;simp only[ho,hx,hi,aIndex,hu,hs]
     simp_all
   · rename_i b z off len kd n hx hi;split at h
     case h_2=>cases h
     rename_i e hu;split at h
     case h_2=>cases h
     rename_i sz hs;split at h
     case isFalse=>cases h
     rename_i hz;obtain⟨h0,h1⟩:=zh1 h;obtain⟨h2,h3⟩:=zh1 h1;refine⟨_,?_,h3⟩;unfold aop;simp only[ho,hx,hi,aIndex,hu,hs]
     simp_all
   · rename_i b z i off kd n hx hi;split at h
     case h_2=>cases h
     rename_i len e hu;split at h
     case h_2=>cases h
     rename_i sz hs;split at h
     case isFalse=>exact plain h
     rename_i hz;obtain⟨h0,h1⟩:=zh1 h;obtain⟨h2,h3⟩:=zh1 h1;refine⟨_,?_,h3⟩;unfold aop;simp only[ho,hx,hi,aIndex,hu,hs]
     simp_all
   · rename_i z es kd n hx hi;split at h
     case h_2=>cases h
     rename_i len e hu;split at h
     case h_2=>cases h
     rename_i sz hs;split at h
     case isFalse=>cases h
     rename_i hz;obtain⟨h0,h1⟩:=zh1 h;obtain⟨h2,h3⟩:=zh1 h1;obtain⟨u,hu',h4⟩:=zE9 h3;refine⟨_,?_,h4⟩;unfold aop;simp only[ho,hx,hi,aIndex,hu,hs]
     simp_all
   · rename_i cs kd n hx hi;split at h
     case h_2=>exact plain h
     rename_i jx len e hu;split at h
     case h_2=>cases h
     rename_i sz hs;obtain⟨h0,h1⟩:=zh1 h;obtain⟨h2,h3⟩:=zh1 h1;obtain⟨u,hu',h4⟩:=zq7 h3;refine⟨_,?_,h4⟩;have hlt:n.toNat<len:=by omega
     rw[zqx len cs n.toNat hlt]at hu';injection hu' with hu';unfold aop;simp only[ho,hx,hi,aIndex,hu,hs]
     simp_all
   ·exact plain h
 · rename_i t x ix ho;split at h
   · rename_i jx cs kd n hx hi;split at h
     case h_2=>cases h
     rename_i len e hu;split at h
     case h_2=>cases h
     rename_i sz hs;split at h
     case isFalse=>cases h
     rename_i hlen;obtain⟨h0,h1⟩:=zh1 h;obtain⟨h2,h3⟩:=zh1 h1;obtain⟨u,hu',h4⟩:=zq7 h3;split at h4
     case h_2=>cases h4
     rename_i v hv;refine⟨_,?_,h4⟩;have hlt:n.toNat<len:=by omega
     rw[zqx len cs n.toNat hlt]at hu';injection hu' with hu';rw[<-hu']at hv;unfold aop;simp only[ho,hx,hi,hu,hs];rw[if_pos ⟨h0,h2⟩,zKk hs hv]
   · rename_i jx s kd n hx hi;split at h
     case h_2=>cases h
     rename_i hu;obtain⟨h0,h1⟩:=zh1 h;obtain⟨h2,h3⟩:=zh1 h1;refine⟨_,?_,h3⟩;unfold aop;simp only[ho,hx,hi,hu];exact zKp ho hx hi hu h0 h2
   ·exact plain h
 · rename_i t x lo hi ho;split at h
   ·exact plain h
   · rename_i hne;obtain⟨r,ps,h1,h2,h3⟩:=zrC h;have:=zJl h1 h2;refine⟨r,?_,h3⟩;unfold aop
     simp_all
 · rename_i t l c ho;split at h
   case h_2=>cases h
   rename_i d hd;split at h
   case isFalse=>cases h
   rename_i hn;split at h
   ·exact plain h
   rename_i hnm;obtain⟨r,ps,h1,h2,h3⟩:=zrC h;have:=zKh h1 h2;refine⟨r,?_,h3⟩;unfold aop
   simp_all
 · rename_i args argTypes ho;split at h
   case h_2=>cases h
   rename_i d s x t t' hd ha ht;split at h
   case isFalse=>cases h
   rename_i hn;obtain⟨r,ps,h1,h2,h3⟩:=zrC h;have:=zH3 h1 h2;refine⟨r,?_,h3⟩;unfold aop
   simp_all
 · rename_i args argTypes ho;split at h
   case h_2=>cases h
   rename_i s x t tr ha ht;obtain⟨r,ps,h1,h2,h3⟩:=zrC h;have:=zKg h1 h2;refine⟨r,?_,h3⟩;unfold aop
   simp_all
 · rename_i args argTypes ho;split at h
   case h_2=>cases h
   rename_i s t tr ha ht;obtain⟨r,ps,h1,h2,h3⟩:=zrC h;have:=zJk h1 h2;refine⟨r,?_,h3⟩;unfold aop
   simp_all
 · rename_i args argTypes ho;split at h
   case h_2=>cases h
   rename_i m kk t tr ha ht;split at h
   case h_2=>cases h
   rename_i kt et hu;split at h
   case h_2=>cases h
   rename_i b hm;split at h
   case h_2=>cases h
   rename_i ent hl;split at h
   case isFalse=>cases h
   rename_i hc;obtain⟨es,h1,h2⟩:=mdelD_some h;refine⟨_,?_,h2⟩;unfold aop;simp only[ho,ha,ht,aMDel,hu,hm,hl];rw[if_pos hc,h1]
 · rename_i t m kk ok ho;split at h
   case h_2=>cases h
   rename_i kt et hu;split at h
   case h_2=>cases h
   rename_i es z hes hz;split at h
   case isFalse=>cases h
   rename_i hk;rcases mapD_some h with⟨a,x,h1,h2,h3⟩|⟨x,h1,h2,h3⟩
   · refine⟨_,?_,h3⟩;unfold aop;simp only[ho,aMLook,hu,hes,hz]
     simp_all
   · refine⟨_,?_,h3⟩;unfold aop;simp only[ho,aMLook,hu,hes,hz]
     simp_all
 · rename_i t m kk x ho;obtain⟨r,h1,h2⟩:=zCK h;refine⟨r,?_,h2⟩;unfold aop
   simp_all
 · rename_i t m kk x ho;obtain⟨r,h1,h2⟩:=zCK h;refine⟨r,?_,h2⟩;unfold aop
   simp_all
 · rename_i g args argTypes ho;split at h
   case h_2=>cases h
   rename_i f cap hg;split at h
   · unfold tBare at h;split at h
     · rename_i j;split at h
       · rename_i kd c hj;rcases zuI h with⟨hc,h⟩|⟨_,h⟩
         ·rw[zG2 (by simp_all)]at h;exact plain h
         · rcases zuI h with⟨hc,h⟩|⟨_,h⟩
           ·rw[zG2 (by simp_all)]at h;exact plain h
           ·cases h
       ·exact plain h
     ·exact plain h
   · rename_i hb;split at h
     · rename_i d hd;split at h
       · rename_i k0 hdp;split at h
         case isFalse=>cases h
         rename_i hdo;obtain⟨r,h1,h2⟩:=zCJ h;refine⟨r,?_,h2⟩;unfold aop
         simp_all
       · rename_i hdp;split at h
         case isFalse=>cases h
         rename_i hn;obtain⟨r0,h1,h2⟩:=zCI h;obtain⟨r,h3,h4⟩:=zpJ h2;refine⟨r,?_,h4⟩;unfold aop
         simp_all
     · rename_i hd;split at h
       ·rename_i k0 hdp;obtain⟨r,h1,h2⟩:=zCJ h;refine⟨r,?_,h2⟩;unfold aop;simp only[ho,hg,hd,hdp];rw[if_neg hb,if_pos (show dstOut L none=true from rfl)];exact h1
       · rename_i hdp;obtain⟨r,h1,h2⟩:=zCI h;refine⟨r,?_,h2⟩;unfold aop
         simp_all
 ·exact plain h
variable{N:Nat}{ops:Array Oper}
def applyR2(dst:Option Nat)(r:Res)(st:St):St:=
 let st2:=match r.kill with
  |some b=>del b st
  |none=>st
 let st3:=delAll r.re st2
 { t:=putO dst r.val st3.t,m:=setAll r.set st3.m }
def tApply(dst:Option Nat)(r:Res)(st:St)(k:St->Option β):Option β:=
 match zrz r.frz st with
 |some (st1,ps)=>chkL ps (k (applyR2 dst r st1))
 |none=>none
theorem zKr{dst:Option Nat}{r:Res}{st:St}{k:St->Option β}{y:β}(h:tApply dst r st k=some y):k (applyR dst r st)=some y:=by
 unfold tApply at h;split at h
 · rename_i st1 ps hp;obtain⟨hh,h1⟩:=zio h
   have:applyR dst r st=applyR2 dst r st1:=by rw[<-zvc hp hh];rfl
   rw[this];exact h1
 ·cases h
def tStep(P:Program)(C:Cfg)(F:AnnF)(T:Dic)(M:List Nat)(N:Nat)(ops:Array Oper)(o:Oper)(st:St)(k:Res->St->Option β):Option β:=
 if dstOk N o.dst=true then
  tWant ops o st.t λw t=>match w with
   |true=>tOp P C F T M o (ev t) (look st.m) λr=>tApply o.dst r ⟨t,st.m⟩ (k r)
   |false=>k { val:=.v undef } (applyR o.dst { val:=.v undef } ⟨t,st.m⟩)
 else none
theorem zKt{o:Oper}{st:St}{k:Res->St->Option β}{y:β}(h:tStep P C F T M N ops o st k=some y):∃r st',aStep P C M (callw P C F) N ops o st=some (r,st')/\k r st'=some y:=by
 unfold tStep at h;split at h
 case isFalse=>cases h
 rename_i hd;obtain⟨b,hb,h1⟩:=zKv h;unfold aStep;rw[if_pos hd,hb]
 cases b with
 |true=>simp only at h1 ⊢;obtain⟨r,h2,h3⟩:=tOp_sound h1;rw[h2];exact⟨_,_,rfl,zKr h3⟩
 |false=>grind
def tRun(P:Program)(C:Cfg)(F:AnnF)(T:Dic)(M:List Nat)(N:Nat)(ops:Array Oper):Nat->List Oper->St->(List Mk->St->Option β)->Option β
 |_,[],st,k=>k [] st
 |i,o::r,st,k=>tStep P C F T M N ops o st λres st'=>force st' λst'=>tRun P C F T M N ops (i+1) r st' λl st''=>k ({ i,o,res,touch:=zo8 o (ev st.t) (look st.m),pre:=st }::l) st''
theorem zuj:∀(l:List Oper) (i:Nat) (st:St) (k:List Mk->St->Option β) (y:β),tRun P C F T M N ops i l st k=some y->∃r st',runOps P C M (callw P C F) N ops i l st=some (r,st')/\k r st'=some y
 |[],i,st,k,y,h=>⟨[],st,rfl,h⟩
 |o::l,i,st,k,y,h=>by
   simp only[tRun]at h;obtain⟨res,st1,h1,h2⟩:=zKt h;rw[zso]at h2;obtain⟨ml,st2,h3,h4⟩:=zuj l (i+1) st1 _ y h2;simp only[runOps]
   grind
def addU:List Nat->List Nat->List Nat
 |[],b=>b
 |x::r,b=>if b.contains x then addU r b else x::addU r b
theorem zDe{x:Nat}:∀{a b:List Nat},x∈addU a b->x∈a\/x∈b
 |[],b,h=>.inr h
 |z::r,b,h=>by
   simp only[addU]at h;split at h
   · rcases zDe h with h|h
     ·grind
     ·exact .inr h
   · rcases za4.1 h with rfl|h
     ·exact .inl (by simp)
     · rcases zDe h with h|h
       ·grind
       ·exact .inr h
def befOf(tab:List (List Nat)):List Edge->List Nat
 |[]=>[]
 |e::r=>if Region.binds .any e then addU (e.on::(tab[e.on]?).getD []) (befOf tab r)else befOf tab r
def befTab:List Oper->List (List Nat)->List (List Nat)
 |[],tab=>tab
 |o::r,tab=>befTab r (tab++[befOf tab o.after.toList])
theorem zFy{ops:Array Oper}:∀(k i x:Nat),x∈preds ops k i->x∈preds ops (k+1) i
 |0,i,x,h=>by simp[preds]at h
 |k+1,i,x,h=>by
   simp only[preds]at h;show x∈preds ops (k+1+1) i;unfold preds
   cases ho:ops[i]? with
   |none=>simp[ho]at h
   |some o =>
     simp only[ho]at h ⊢;obtain⟨e,he,hx⟩:=zb2.1 h;refine zb2.2 ⟨e,he,?_⟩;split at hx
     · rename_i hb;rw[if_pos hb];rcases za4.1 hx with rfl|hx
       ·simp
       ·exact za4.2 (.inr (zFy k e.on x hx))
     ·cases hx
theorem preds_le{ops:Array Oper}{k m i x:Nat}(h:k<=m)(hx:x∈preds ops k i):x∈preds ops m i:=by
 induction h with
 |refl=>exact hx
 |step _ ih=>exact zFy _ _ _ ih
def TabOk(ops:Array Oper)(tab:List (List Nat)):Prop:=∀(i x:Nat) (l:List Nat),tab[i]?=some l->x∈l->x∈preds ops i i
theorem zAf{tab:List (List Nat)}{x:Nat}:∀{l:List Edge},x∈befOf tab l->∃e∈l,Region.binds .any e=true/\(x=e.on\/x∈(tab[e.on]?).getD [])
 |[],h=>by simp[befOf]at h
 |e::r,h=>by
   simp only[befOf]at h;split at h
   · rename_i hb;rcases zDe h with h|h
     ·simp_all
     · obtain⟨e',h1,h2⟩:=zAf h
       grind
   · obtain⟨e',h1,h2⟩:=zAf h
     grind
theorem zGt{ops:Array Oper}(hedge:∀j o,ops[j]?=some o->∀e∈o.after,Region.binds .any e=true->e.on<j):∀(l:List Oper) (tab:List (List Nat)),TabOk ops tab->(∀j,l[j]?=ops[tab.length+j]?)->TabOk ops (befTab l tab)
 |[],tab,h,_=>h
 |o::l,tab,h,hl=>by
   simp only[befTab];refine zGt hedge l _ ?_ (λj=>?_)
   · intro i x s hs hx;rw[zci]at hs;split at hs
     ·exact h i x s hs hx
     · rename_i hlt
       have hi:i=tab.length:=by
        by_cases hq:i-tab.length=0
        ·omega
        ·simp_all
       subst hi;simp at hs;subst hs
       have ho:ops[tab.length]?=some o:=by have:=hl 0;simp at this;exact this.symm
       obtain⟨e,he,hb,hx'⟩:=zAf hx;have hlt2:=hedge _ _ ho e (by simpa using he) hb;obtain⟨m,hm⟩:∃m,tab.length=m+1:=⟨tab.length-1,by omega⟩
       rw[hm]at ho hlt2 ⊢;unfold preds;simp only[ho];refine zb2.2 ⟨e,he,?_⟩;rw[if_pos hb];rcases hx' with rfl|hx'
       ·simp
       · refine za4.2 (.inr ?_)
         cases hq:tab[e.on]? with
         |none=>simp[hq]at hx'
         |some s'=>rw[hq]at hx';exact preds_le (by omega) (h e.on x s' hq hx')
   · have:=hl (j+1)
     grind
def zBp(ops:Array Oper)(tab:List (List Nat)):List Mk->Bool
 |[]=>true
 |a::r=>r.all (λb=>((tab[b.i]?).getD []).contains a.i||indep ops a b)&&zBp ops tab r
theorem zEQ{ops:Array Oper}{tab:List (List Nat)}(ht:TabOk ops tab):∀{l:List Mk},zBp ops tab l=true->drawOk ops l=true
 |[],_=>rfl
 |a::r,h=>by
   simp only[zBp,drawOk,zaO,zbH,zfd]at h ⊢;refine⟨λb hb=>?_,zEQ ht h.2⟩;rcases h.1 b hb with h1|h1
   · left;rw[zhx]at h1 ⊢
     cases hq:tab[b.i]? with
     |none=>simp[hq]at h1
     |some s=>rw[hq]at h1;exact ht b.i a.i s hq h1
   ·exact .inr h1
theorem zJZ{l:List Oper}:∀{i:Nat},zqC i l=true->∀j o,l[j]?=some o->∀e∈o.after,Region.binds .any e=true->e.on<i+j:=by
 induction l with
 |nil=>simp_all
 |cons o l ih =>
   intro i h j o' ho e he hb;simp only[zqC,zaO,zbH,zfd,zc4,decide_eq_true_eq]at h
   grind
def zxz(P:Program)(C:Cfg)(F:AnnF)(T:Dic)(M:List Nat)(N:Nat)(ops:Array Oper)(draw:Bool)(st:St)(k:St->Option β):Option β:=
 match draw with
 |false=>tRun P C F T M N ops 0 ops.toList (preDel ops.toList st) λ_ st'=>k st'
 |true=>tRun P C F T M N ops 0 ops.toList (preDel ops.toList st) λl st' =>
   match zqC 0 ops.toList&&P.follows .mixedOrders&&zBp ops (befTab ops.toList []) l with
   |true=>k st'
   |false=>none
theorem ztF{draw:Bool}{st:St}{k:St->Option β}{y:β}(h:zxz P C F T M N ops draw st k=some y):∃st',zkE P C M (callw P C F) N ops draw st=some st'/\k st'=some y:=by
 unfold zxz at h;unfold zkE
 cases draw with
 |false =>
   simp only at h;obtain⟨l,st1,h1,h2⟩:=zuj _ _ _ _ _ h
   simp_all
 |true =>
   simp only at h;obtain⟨l,st1,h1,h2⟩:=zuj _ _ _ _ _ h;rw[h1];split at h2
   case h_2=>cases h2
   rename_i hc;simp only[zaO]at hc;refine⟨st1,?_,h2⟩
   have hedge:∀j o,ops[j]?=some o->∀e∈o.after,Region.binds .any e=true->e.on<j:=by intro j o ho e he hb;have:=zJZ hc.1.1 j o (by simpa using ho) e he hb;omega
   have ht:TabOk ops (befTab ops.toList []):=zGt hedge ops.toList [] (λi x l hi=>by simp at hi) (λj=>by simp);simp[zEQ ht hc.2,hc.1.1,hc.1.2]
end
def regK:Code->List It->Nat->Option (List It)
 |.seq a b,k,id=>match regK a (.code b::k) id with
   |some r=>some r
   |none=>regK b k id
 |.cond _ x y,k,id=>match regK x k id with
   |some r=>some r
   |none=>regK y k id
 |.block j c,k,id=>regK c (.inBlock j::k) id
 |.loop c,k,id=>regK c (.inLoop c::k) id
 |.region j ops draw,k,id=>if id=j then some (.code (.region j ops draw)::k)else none
 |_,_,_=>none
def ptS(fn:Func)(j:Nat):List It:=
 if j<1000 then ptK fn j else match fn.body with
  |some c=>(regK c [] (j-1000)).getD []
  |none=>[]
def pt(R:Fr)(j:Nat)(st:St):Option (AV×Mem):=run R (ptS R.fn j) .normal st
def tFin(R:Fr)(st:St):Option (AV×Mem):=
 match presult R.P (R.F R.f).frz R.fn st,zoR st.m R.ms with
 |some (r,ps),some ms'=>chkL ps (zxv r ms')
 |_,_=>none
theorem zFC{R:Fr}{st:St}{y:AV×Mem}(h:tFin R st=some y)(e:Ex)(he:e=.normal\/e=.ret):zqJ R.P (R.F R.f).frz R.fn R.ms (some (e,st))=some y:=by
 unfold tFin at h;split at h
 case h_2=>cases h
 rename_i r ps ms' h1 h2;obtain⟨hh,h3⟩:=zio h;have:=zH4 h1 hh;rcases he with rfl|rfl<;>simp only[zqJ,this,h2]<;>exact h3
def tTidy(A:Ann)(id:Nat)(st:St)(k:St->Option (AV×Mem)):Option (AV×Mem):=
 match ptidy A id st with
 |none=>none
 |some (st',ps)=>chkL ps (force st' k)
theorem zKu{A:Ann}{id:Nat}{st:St}{k:St->Option (AV×Mem)}{y:AV×Mem}(h:tTidy A id st k=some y):k (tidy A id st)=some y:=by
 unfold tTidy at h;split at h
 ·cases h
 ·rename_i st' ps hp;obtain⟨hh,h1⟩:=zio h;rw[zso]at h1;rw[zCD hp hh];exact h1
def tPre{β:Type}(A:Ann)(id:Nat)(st:St)(k:St->Option β):Option β:=
 match A.fz (id+1000)with
 |[]=>k st
 |l=>match zvd l st with
   |none=>none
   |some (st',ps)=>chkL ps (force st' k)
theorem zFD{β:Type}{A:Ann}{id:Nat}{st:St}{k:St->Option β}{y:β}(h:tPre A id st k=some y):k (znu (A.fz (id+1000)) st)=some y:=by
 unfold tPre at h;split at h
 ·rename_i h1;rw[h1];exact h
 · split at h
   ·cases h
   ·rename_i hp;obtain⟨hh,h2⟩:=zio h;rw[zso]at h2;rw[zsu hp hh];exact h2
def setO(o:Operand)(x:Bool)(st:St):St:=
 match o with
 |.tmp d=>{ st with t:=setB d x st.t }
 |_=>st
def tGo(R:Fr)(T:Dic)(cut:List Nat):Nat->Bool->List It->St->Option (AV×Mem)
 |0,_,_,_=>none
 |_+1,_,[],st=>tFin R st
 |n+1,first,.inBlock _::k,st=>tGo R T cut n first k st
 |n+1,first,.inLoop c::k,st=>match first with
   |true=>tGo R T cut n false (.code c::.inLoop c::k) st
   |false=>run R (.inLoop c::k) .normal st
 |n+1,first,.code c::k,st=>match c with
   |.skip=>tGo R T cut n first k st
   |.seq a b=>tGo R T cut n first (.code a::.code b::k) st
   |.block id c=>tGo R T cut n first (.code c::.inBlock id::k) st
   |.loop c=>tGo R T cut n first (.inLoop c::k) st
   |.exit id=>match dropTo id k with
     |some k'=>tGo R T cut n first k' st
     |none=>none
   |.ret=>tFin R st
   |.cond o x y=>match ev st.t o with
     |.v (.bool b)=>brn b (tGo R T cut n false (.code x::k) (setO o true st)) (tGo R T cut n false (.code y::k) (setO o false st))
     |_=>none
   |.region id ops draw=>match !first&&cut.contains id with
     |true=>run R (.code (.region id ops draw)::k) .normal st
     |false=>tPre (R.F R.f) id st λst0=>zxz R.P R.C R.F T (R.F R.f).lits R.fn.ntmps ops draw st0 λst1=>tTidy (R.F R.f) id st1 λst2=>tGo R T cut n false k st2
   |_=>none
theorem zG3{o:Operand}{x:Bool}{st:St}(h:ev st.t o=.v (.bool x)):setO o x st=st:=by
 unfold setO;split
 ·rename_i d;rw[zvU h]
 ·rfl
theorem zHa{R:Fr}{T:Dic}{cut:List Nat}:∀(n:Nat) (first:Bool) (k:List It) (st:St) (y:AV×Mem),tGo R T cut n first k st=some y->run R k .normal st=some y:=by
 intro n
 induction n with
 |zero=>intro first k st y h;simp[tGo]at h
 |succ n ih =>
   intro first k st y h
   cases k with
   |nil=>simp only[tGo]at h;exact zFC h .normal (.inl rfl)
   |cons it k =>
     cases it with
     |inBlock id =>
       simp only[tGo]at h;simp only[run]
       grind
     |inLoop c =>
       simp only[tGo]at h;split at h
       · have:=ih false _ st y h;rw[<-this];simp only[run];rw[itw_eq]
         cases hq:R.ev c st with
         |none=>rfl
         |some q =>
           obtain⟨e,st1⟩:=q
           cases e with
           |normal=>simp only[run]
           |exit id=>simp only[run]
           |ret=>simp only[run]
       ·exact h
     |code c =>
       simp only[tGo]at h
       cases c with
       |skip=>simp only at h;rw[<-ih first k st y h];rfl
       |seq a b =>
         simp only at h;rw[<-ih first _ st y h];simp only[run,Fr.ev,aeval]
         cases hq:aeval R.P R.C (R.F R.f) R.fn.ntmps (callw R.P R.C R.F) itw a st with
         |none=>rfl
         |some q =>
           obtain⟨e,st1⟩:=q
           cases e with
           |normal=>simp only[run,Fr.ev]
           |exit id=>simp only[run]
           |ret=>simp only[run]
       |block id c =>
         simp only at h;rw[<-ih first _ st y h];simp only[run,Fr.ev,aeval]
         cases hq:aeval R.P R.C (R.F R.f) R.fn.ntmps (callw R.P R.C R.F) itw c st with
         |none=>rfl
         |some q =>
           obtain⟨e,st1⟩:=q
           cases e with
           |normal=>simp only[run]
           |exit j =>
             simp only[run]
             grind
           |ret=>simp only[zxx]
       |loop c=>simp only at h;rw[<-ih first _ st y h];rfl
       |exit id =>
         simp only at h;split at h
         ·rename_i k' hk;rw[<-ih first k' st y h];simp only[run,Fr.ev,aeval];exact zyL R id k k' st hk
         ·cases h
       |ret=>simp only at h;simp only[run,Fr.ev,aeval];rw[zxx];exact zFC h .ret (.inr rfl)
       |cond o x z =>
         simp only at h;split at h
         · rename_i b hb;rcases zuI h with⟨rfl,h⟩|⟨rfl,h⟩
           ·rw[zG3 hb]at h;rw[<-ih false _ st y h];simp only[run,Fr.ev,aeval,hb,if_true]
           ·rw[zG3 hb]at h;rw[<-ih false _ st y h];simp only[run,Fr.ev,aeval,hb,zbt,if_false]
         ·cases h
       |region id ops draw =>
         simp only at h;split at h
         ·exact h
         ·obtain⟨st1,h1,h2⟩:=ztF (zFD h);have h3:=zKu h2;rw[<-ih false k _ y h3];simp only[run,Fr.ev,aeval];rw[h1]
       |_=>cases h
theorem pt_of{R:Fr}(T:Dic)(cut:List Nat){j:Nat}{st:St}{y:AV×Mem}{x:Option (AV×Mem)}(hx:tGo R T cut 100000 (decide (j≠0)) (ptS R.fn j) st=x)(h:x=some y):pt R j st=some y:=
 zHa _ _ _ _ _ (hx.trans h)
def regOf(j:Nat):Code->Option Code
 |.region id ops draw=>if id=j then some (.region id ops draw)else none
 |.seq a b=>match regOf j a with
   |some c=>some c
   |none=>regOf j b
 |.cond _ a b=>match regOf j a with
   |some c=>some c
   |none=>regOf j b
 |.block _ c=>regOf j c
 |.loop c=>regOf j c
 |_=>none
def tTidyS(A:Ann)(id:Nat)(st:St):Option St:=
 match ptidy A id st with
 |none=>none
 |some (st',ps)=>chkL ps (force st' some)
def tReg(R:Fr)(T:Dic)(j:Nat)(st:St):Option St:=
 match R.fn.body with
 |some c=>match regOf j c with
   |some (.region id ops draw)=>tPre (R.F R.f) id st λst0=>zxz R.P R.C R.F T (R.F R.f).lits R.fn.ntmps ops draw st0 λst1=>tTidyS (R.F R.f) id st1
   |_=>none
 |none=>none
theorem tReg_sound{R:Fr}{T:Dic}{j id:Nat}{ops:Array Oper}{draw:Bool}{c:Code}{st st':St}(hb:R.fn.body=some c)(hc:regOf j c=some (.region id ops draw))(h:tReg R T j st=some st')(it:Go.Ab.Loop):aeval R.P R.C (R.F R.f) R.fn.ntmps (callw R.P R.C R.F) it (.region id ops draw) st=some (.normal,st'):=by
 unfold tReg at h;simp only[hb,hc]at h;obtain⟨st1,h1,h2⟩:=ztF (zFD h);unfold tTidyS at h2;split at h2
 ·cases h2
 rename_i st2 ps hp;obtain⟨hh,h3⟩:=zio h2;rw[zso]at h3;injection h3 with h3;subst h3;simp only[aeval,h1];rw[zCD hp hh]
def tReg0(R:Fr)(T:Dic)(j:Nat)(st:St):Option St:=
 match R.fn.body with
 |some c=>match regOf j c with
   |some (.region _ ops draw)=>zxz R.P R.C R.F T (R.F R.f).lits R.fn.ntmps ops draw st λst1=>force st1 some
   |_=>none
 |none=>none
theorem zKs{R:Fr}{T:Dic}{j id:Nat}{ops:Array Oper}{draw:Bool}{c:Code}{st st':St}(hb:R.fn.body=some c)(hc:regOf j c=some (.region id ops draw))(h:tReg0 R T j st=some st'):zkE R.P R.C (R.F R.f).lits (callw R.P R.C R.F) R.fn.ntmps ops draw st=some st':=by
 unfold tReg0 at h;simp only[hb,hc]at h;obtain⟨st1,h1,h2⟩:=ztF h;rw[zso]at h2
 simp_all
def blank:Mem->Mem
 |[]=>[]
 |(k,_)::r=>(k,⟨0,0,[],false⟩)::blank r
theorem zGu:∀ms:Mem,(blank ms).map (·.1)=ms.map (·.1)
 |[]=>rfl
 |(k,e)::r=>by simp only[blank,zbJ,zGu r]
theorem zw5(is:List Nat)(m:Mem):∀ms:Mem,zka is m (blank ms)=zka is m ms
 |[]=>rfl
 |(k,e)::r=>by simp only[blank,zka,zw5 is m r]
theorem zHy(m:Mem)(ms:Mem):zoR m (blank ms)=zoR m ms:=by unfold zoR;rw[zGu,zw5]
theorem callw_run{P:Program}{C:Cfg}{F:AnnF}{f:FuncId}{fn:Func}{c:Code}{args:List AV}{ms:Mem}{r:AV×Mem}(ho:C.orc f args ms=none)(hf:P.funcs[f]?=some fn)(hb:fn.body=some c)(he:enters P f=true)
  (hN:decide (fn.ntmps<=1000/\args.length<=fn.ntmps)=true) (h:run ⟨P,C,F,f,fn,blank ms⟩ [.code c] .normal { t:=argTab 0 args,m:=ms }=some r):callw P C F f args ms=some r:=by
 have hn:=of_decide_eq_true hN;refine callw_of ho hf hb he hn.1 hn.2 ?_;simp only[run,Fr.ev]at h;split at h
 ·rename_i e st hq;rw[hq];unfold zqJ at h ⊢;simp only[zHy]at h;exact h
 ·cases h
theorem callw_tree(R:Fr)(T:Dic)(cut:List Nat){args:List AV}{ms:Mem}{r:AV×Mem}{x:Option (AV×Mem)}(ho:R.C.orc R.f args ms=none)(hf:R.P.funcs[R.f]?=some R.fn)(he:enters R.P R.f=true)
  (hN:decide (R.fn.ntmps<=1000/\args.length<=R.fn.ntmps)=true) (hm:R.ms=blank ms)
  (hx:tGo R T cut 100000 false (ptK R.fn 0) { t:=argTab 0 args,m:=ms }=x) (h:x=some r):callw R.P R.C R.F R.f args ms=some r:=by
 have h':=zHa _ _ _ _ _ (hx.trans h);unfold enters at he;rw[hf]at he;simp only[zaO]at he;obtain⟨c,hc⟩:=zaI.1 he.1;have he':enters R.P R.f=true:=by unfold enters;rw[hf];simp only[zaO];exact he
 refine callw_run ho hf hc he' hN ?_;unfold ptK at h';simp only[hc]at h';rw[<-hm];exact h'
end Go.Ab
namespace Go.Ab
open Go.RowKit
section
open Classical
abbrev TyD.of(α:Type)(enc:α->List AV)(inj:∀x y,enc x=enc y->x=y):TyD where
 α:=α
 enc:=enc
 dec:=λc=>if h:∃x,c=enc x then some (Classical.choose h)else none
 ok:=λc x h=>by
  split at h
  ·grind
  ·cases h
 de:=λx=>by
  have h:∃y,enc x=enc y:=⟨x,rfl⟩
  grind
abbrev RD.of(α:Type)(enc:α->AV×Mem)(inj:∀x y,enc x=enc y->x=y):RD where
 α:=α
 enc:=enc
 dec:=λc=>if h:∃x,c=enc x then some (Classical.choose h)else none
 ok:=λc x h=>by
  split at h
  ·grind
  ·cases h
 de:=λx=>by
  have h:∃y,enc x=enc y:=⟨x,rfl⟩
  grind
end
theorem TyD.inj(D:TyD){x y:D.α}(h:D.enc x=D.enc y):x=y:=by
 have h1:=D.de x;rw[h,D.de y]at h1
 simp_all
theorem TyD.minj(D:TyD){l l':List D.α}:(List.map D.enc l=List.map D.enc l')=(l=l'):=by
 refine propext ⟨λh=>?_,λh=>by rw[h]⟩
 induction l generalizing l' with
 |nil=>simp_all
 |cons a r ih=>cases l' with
   |nil=>simp at h
   |cons b s=>simp only[zbJ,zax]at h;rw[D.inj h.1,ih h.2]
abbrev dRaw:TyD:={ α:=List AV,enc:=id,dec:=some,ok:=λc x h=>by injection h,de:=λ_=>rfl }
def zai:Int->List AV:=λx=>[I x]
abbrev zbi:TyD:=TyD.of Int zai (by intro x y h;simpa[zai]using h)
def nI_i32:Int->List AV:=λx=>[.v (.int .i32 x)]
abbrev dI_i32:TyD:=TyD.of Int nI_i32 (by intro x y h;simpa[nI_i32]using h)
def nI_u64:Int->List AV:=λx=>[.v (.int .u64 x)]
abbrev dI_u64:TyD:=TyD.of Int nI_u64 (by intro x y h;simpa[nI_u64]using h)
def nI_u32:Int->List AV:=λx=>[.v (.int .u32 x)]
abbrev dI_u32:TyD:=TyD.of Int nI_u32 (by intro x y h;simpa[nI_u32]using h)
def nI_u8:Int->List AV:=λx=>[.v (.int .u8 x)]
abbrev dI_u8:TyD:=TyD.of Int nI_u8 (by intro x y h;simpa[nI_u8]using h)
def nBool:Bool->List AV:=λx=>[B x]
abbrev dBool:TyD:=TyD.of Bool nBool (by intro x y h;simpa[nBool]using h)
def nStr:ByteArray->List AV:=λx=>[.v (.string x)]
abbrev dStr:TyD:=TyD.of ByteArray nStr (by intro x y h;simpa[nStr]using h)
abbrev rRaw:RD:={ α:=AV×Mem,enc:=id,dec:=some,ok:=λc x h=>by injection h,de:=λ_=>rfl }
theorem zfh{β:Type}(D:TyD)(l:List D.α)(i:Nat)(k:D.α->Option β):elemD D (List.map D.enc l) i k=(l[i]?).bind k:=by unfold elemD;rw[zbC];cases l[i]?<;>simp[D.de]
@[simp] theorem zce{β:Type}(l:List Int)(i:Nat)(k:Int->Option β):elemD zbi (List.map zai l) i k=(l[i]?).bind k:=zfh zbi l i k
@[simp] theorem zoT{β:Type}(l:List Bool)(i:Nat)(k:Bool->Option β):elemD dBool (List.map nBool l) i k=(l[i]?).bind k:=zfh dBool l i k
theorem zaB{β:Type}{p:Prop}[Decidable p](h:p)(t e:Option β):brn (decide p) t e=t:=by rw[zfe,if_pos h]
theorem zaN{β:Type}{p:Prop}[Decidable p](h:¬p)(t e:Option β):brn (decide p) t e=e:=by rw[zfe,if_neg h]
abbrev w64(n:Int):Int:=IntKind.wrap .i64 n
abbrev wu64(n:Int):Int:=IntKind.wrap .u64 n
theorem w64_id{n:Int}(h1:-9223372036854775808<=n)(h2:n<9223372036854775808):w64 n=n:=by simp only[w64,IntKind.wrap,IntKind.bits,IntKind.signed,show((2:Int) ^ 64)=18446744073709551616 from rfl,show((2:Int) ^ (64-1))=9223372036854775808 from rfl,zcx,decide_eq_true_eq];split<;>omega
theorem zxM{n:Int}(h1:0<=n)(h2:n<18446744073709551616):wu64 n=n:=by
 simp only[wu64,IntKind.wrap,IntKind.bits,IntKind.signed,show((2:Int) ^ 64)=18446744073709551616 from rfl,zcF]
 grind
theorem zvR{α:Type}(l:List α)(M:Nat->List α->Prop)(h0:M l.length [])(hs:∀(i:Nat) (x:α) (r:List α) (hi:i<l.length),l[i]=x->l.drop (i+1)=r->M (i+1) r->M i (x::r)):M 0 l:=by
 have key:∀(k i:Nat),i+k=l.length->M i (l.drop i):=by
  intro k
  induction k with
  |zero=>simp_all
  |succ k ih =>
    intro i hi;have hlt:i<l.length:=by omega
    rw[zbd hlt]
    grind
 have:=key l.length 0 (by omega);simpa using this
def mfind{κ ν:Type}[DecidableEq κ](k:κ):List (κ×ν)->Option ν
 |[]=>none
 |p::r=>if p.1=k then some p.2 else mfind k r
def mput{κ ν:Type}[DecidableEq κ](k:κ)(v:ν):List (κ×ν)->List (κ×ν)
 |[]=>[(k,v)]
 |p::r=>if p.1=k then(k,v)::r else p::mput k v r
section
variable{P:Program}{kt:TypeId}{κ ν:Type}[DecidableEq κ]{kenc:κ->AV}{venc:ν->AV}
theorem zGR(hK:∀x y,keyEq P kt (kenc x) (kenc y)=some (decide (y=x)))(key:κ):∀l:List (κ×ν),mlook P kt (kenc key) (l.map λp=>[kenc p.1,venc p.2])=some ((mfind key l).map venc)
 |[]=>rfl
 |p::r=>by
   simp only[zbJ,mlook,hK,mfind];by_cases h:p.1=key
   ·simp_all
   ·rw[decide_eq_false h,if_neg h];exact zGR hK key r
theorem mset_gen(hK:∀x y,keyEq P kt (kenc x) (kenc y)=some (decide (y=x)))(key:κ)(v:ν):∀l:List (κ×ν),mset P kt (kenc key) (venc v) (l.map λp=>[kenc p.1,venc p.2])=some ((mput key v l).map λp=>[kenc p.1,venc p.2])
 |[]=>rfl
 |p::r=>by
   simp only[zbJ,mset,hK,mput];by_cases h:p.1=key
   ·simp_all
   ·rw[decide_eq_false h,if_neg h];simp only[mset_gen hK key v r,zbJ]
theorem zlA{β:Type}{agg:Bool}{D:TyD}{venc:D.α->AV}(hK:∀x y,keyEq P kt (kenc x) (kenc y)=some (decide (y=x)))(hV:∀x,avDec agg D (venc x)=some x)(z:D.α)(key:κ)(l:List (κ×D.α))(k:D.α->Bool->Option β):mapD P kt agg D (venc z) (l.map λp=>[kenc p.1,venc p.2]) (kenc key) k=k ((mfind key l).getD z) (mfind key l).isSome:=by
 unfold mapD;rw[zGR hK key l]
 cases hm:mfind key l with
 |none=>simp_all
 |some x=>simp_all
theorem zji{β:Type}{et:TypeId}(hK:∀x y,keyEq P kt (kenc x) (kenc y)=some (decide (y=x)))(key:κ)(v:ν)(l:List (κ×ν))(k:List (List AV)->Option β):msetD P kt et (kenc key) (venc v) (l.map λp=>[kenc p.1,venc p.2]) k=k ((mput key v l).map λp=>[kenc p.1,venc p.2]):=by unfold msetD;rw[mset_gen hK key v l]
end
structure VD where
 α:Type
 enc:α->AV
 inj:∀x y,enc x=enc y->x=y
structure LD where
 α:Type
 enc:α->List AV
 inj:∀x y,enc x=enc y->x=y
structure MD where
 α:Type
 enc:α->Mem
 inj:∀x y,enc x=enc y->x=y
abbrev vPtr:VD:=⟨Option Addr,λp=>.v (.pointer p),λx y h=>by simpa using h⟩
abbrev vI(k:IntKind):VD:=⟨Int,λx=>.v (.int k x),λx y h=>by simpa using h⟩
abbrev vBool:VD:=⟨Bool,λx=>.v (.bool x),λx y h=>by simpa using h⟩
abbrev vAgg(D:TyD):VD:=⟨D.α,λx=>.agg (D.enc x),λx y h=>D.inj (by simpa using h)⟩
abbrev vSl(z:Nat)(D:TyD):VD:=⟨List D.α,λx=>.sl z (List.map D.enc x),λx y h=>by simpa only[AV.sl.injEq,true_and,TyD.minj]using h⟩
abbrev vNew(z:Nat)(e:TypeId)(D:TyD):VD:=⟨List D.α,λx=>.new z e (List.map D.enc x),λx y h=>by simpa only[AV.new.injEq,true_and,TyD.minj]using h⟩
abbrev vNewp(z:Nat)(e:TypeId)(D:TyD):VD:=⟨D.α,λx=>.newp z e (D.enc x),λx y h=>D.inj (by simpa using h)⟩
abbrev vMp(D:TyD):VD:=⟨List D.α,λx=>.mp (List.map D.enc x),λx y h=>by simpa only[AV.mp.injEq,TyD.minj]using h⟩
abbrev vNewm(e:TypeId)(D:TyD):VD:=⟨List D.α,λx=>.newm e (List.map D.enc x),λx y h=>by simpa only[AV.newm.injEq,true_and,TyD.minj]using h⟩
abbrev lOne(V:VD):LD:=⟨V.α,λx=>[V.enc x],λx y h=>V.inj x y (by simpa using h)⟩
abbrev lCons(V:VD)(L:LD):LD:=⟨V.α×L.α,λx=>V.enc x.1::L.enc x.2,λx y h=>by
 simp only[zax]at h
 exact zde (V.inj _ _ h.1) (L.inj _ _ h.2)⟩
abbrev mBox(k z:Nat)(e:TypeId)(D:TyD):MD:=⟨D.α,λx=>[(k,⟨z,e,[D.enc x],true⟩)],λx y h=>D.inj (by simpa using h)⟩
abbrev mRow(k z:Nat)(e:TypeId)(D:TyD):MD:=⟨List D.α,λx=>[(k,⟨z,e,List.map D.enc x,false⟩)],λx y h=>by simpa only[zax,zav,Ent.mk.injEq,true_and,and_true,TyD.minj]using h⟩
abbrev r0:RD:=RD.of Unit (λ_=>(.tup [],[])) (λx y _=>by cases x;cases y;rfl)
abbrev r1(V:VD):RD:=RD.of V.α (λx=>(V.enc x,[])) (λx y h=>V.inj x y (by simpa using h))
abbrev rT(L:LD):RD:=RD.of L.α (λx=>(.tup (L.enc x),[])) (λx y h=>L.inj x y (by simpa using h))
abbrev r0M(M:MD):RD:=RD.of M.α (λx=>(.tup [],M.enc x)) (λx y h=>M.inj x y (by simpa using h))
abbrev r1M(V:VD)(M:MD):RD:=RD.of (V.α×M.α) (λx=>(V.enc x.1,M.enc x.2)) (λx y h=>by
 simp only[zav]at h
 exact zde (V.inj _ _ h.1) (M.inj _ _ h.2))
abbrev rTM(L:LD)(M:MD):RD:=RD.of (L.α×M.α) (λx=>(.tup (L.enc x.1),M.enc x.2)) (λx y h=>by
 simp only[zav,AV.tup.injEq]at h
 exact zde (L.inj _ _ h.1) (M.inj _ _ h.2))
def altD:List (Nat×RD)->Nat->RD
 |[],_=>rRaw
 |(j,d)::r,k=>if k=j then d else altD r k
def Dic.of(ty:List TyD)(res:List RD)(alt:List (Nat×RD):=[]):Dic:={ ty:=λt=>ty.getD t dRaw,res:=λf=>if f<100000 then res.getD f rRaw else altD alt (f-100000) }
end Go.Ab
end
