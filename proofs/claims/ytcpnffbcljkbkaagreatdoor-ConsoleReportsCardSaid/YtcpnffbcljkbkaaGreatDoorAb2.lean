/- The abstract interpreter without a bound on its steps. -/
import Derived.Test.YtcpnffbcljkbkaaGreatDoorAb1
import Derived.Maps.RangeRun
set_option linter.all false
noncomputable section
namespace Go.Ab
open Go.RowKit
section
variable[Dr]
abbrev zX:=zB zH @zbh.{0}
open Classical in
def supO{α:Type}(f:Nat->Option α):Option α:=if h:∃n r,f n=some r then f h.choose else none
def MonoO{α:Type}(f:Nat->Option α):Prop:=∀n m r,n<=m->f n=some r->f m=some r
def zxY{α:Type}{f:Nat->Option α}(hm:MonoO f){n:Nat}{r:α}(h:f n=some r):supO f=some r:=by
 have he:∃n r,f n=some r:=⟨n,r,h⟩
 unfold supO;rw[dif_pos he];obtain⟨r',hr'⟩:=he.choose_spec;rcases Nat.le_total n he.choose with hle|hle
 .exact hm _ _ _ hle h
 . have:=hm _ _ _ hle hr'
   simp_all
def zoJ{α:Type}{f:Nat->Option α}{r:α}(h:supO f=some r):∃n,f n=some r:=by
 unfold supO at h;split at h
 .grind
 .cases h
def callw(P:Program)(C:Cfg)(A:AnnF):zcR:=λf args ms=>supO λn=>acall P C A n f args ms
def itw:Go.Ab.Loop:=λstep st=>supO λn=>iter n step st
def LeC(c c':zcR):Prop:=∀f args ms r,c f args ms=some r->c' f args ms=some r
def LeS(s s':St->Option (Ex×St)):Prop:=∀st r,s st=some r->s' st=some r
def LeI(i i':Go.Ab.Loop):Prop:=∀s s',LeS s s'->LeS (i s) (i' s')
def zkY{n m:Nat}(h:n<=m):LeI (iter n) (iter m):=by
 intro s s' hs
 induction n generalizing m with
 |zero=>intro st r hr;simp[iter]at hr
 |succ n ih =>
   cases m with
   |zero=>omega
   |succ m =>
     intro st r hr;simp only[iter]at hr ⊢
     cases hq:s st with
     |none=>simp[hq]at hr
     |some q =>
       rw[hs st q hq];rw[hq]at hr;obtain⟨e,st1⟩:=q
       cases e with
       |normal=>simp only at hr ⊢;exact ih (by omega) st1 r hr
       |_=>exact hr
section
variable{P:Program}{C:Cfg}{M:aO}{N:Nat}{ops:aT}{A:Ann}
def zEa{c c':zcR}(h:LeC c c'){L:aK}{d:aZ}{f:FuncId}{args:aN}{r:Res}(hr:aCall C c L d f args=some r):aCall C c' L d f args=some r:=by
 unfold aCall at hr ⊢
 cases hp:zet L (C.wrt f) 0 args with
 |none=>simp_all
 |some q =>
   obtain⟨bc,ms,bk,fz⟩:=q;simp only[hp]at hr ⊢;split at hr
   case isFalse=>cases hr
   rename_i hd;rw[if_pos hd]
   cases hc:c f bc ms with
   |none=>simp_all
   |some q =>
     rw[h f bc ms _ hc]
     simp_all
def aDeep_at{c:zcR}{L:aK}{f:FuncId}{k0:Nat}{args:aN}{r:Res}(hr:aDeep c L f k0 args=some r):∃bc ms q,c f bc ms=some q/\∀c':zcR,c' f bc ms=some q->aDeep c' L f k0 args=some r:=by
 unfold aDeep at hr;split at hr
 case h_2=>cases hr
 rename_i b z hk0;split at hr
 case h_2=>cases hr
 rename_i ent hlb;split at hr
 case isFalse=>cases hr
 rename_i hbx;split at hr
 case h_2=>cases hr
 rename_i cs hes;split at hr
 case h_2=>cases hr
 rename_i cs' nms nbk bc fz hnest hda;split at hr
 case isFalse=>cases hr
 rename_i hcond;split at hr
 case h_2=>cases hr
 rename_i rv ms' hc;refine⟨_,_,_,hc,λc' hc'=>?_⟩;unfold aDeep
 grind
def aop_mono{c c':zcR}(h:LeC c c'){o:Oper}{E:aa}{L:aK}{r:Res}(hr:aop P C M c o E L=some r):aop P C M c' o E L=some r:=by
 unfold aop at hr ⊢
 cases ho:o.op with
 |call cl =>
   obtain⟨callee,args,argTypes⟩:=cl
   cases callee with
   |value g =>
     simp only[ho]at hr ⊢
     cases hg:E g with
     |fn f cap =>
       simp only[hg]at hr ⊢;split
       .simp_all
       . rename_i hb;rw[if_neg hb]at hr
         cases hdp:C.dp f with
         |some k0 =>
           simp only[hdp]at hr ⊢;split at hr
           case isFalse=>cases hr
           rename_i hdo;rw[if_pos hdo];obtain⟨bc,ms,q,h1,h2⟩:=aDeep_at hr;exact h2 c' (h f bc ms q h1)
         |none =>
         simp only[hdp]at hr ⊢
         cases hd:o.dst with
         |none=>simp only[hd]at hr ⊢;exact zEa h hr
         |some d =>
           simp only[hd]at hr ⊢;split at hr
           . rename_i hn;rw[if_pos hn];split at hr
             .rename_i r0 hc;rw[zEa h hc];exact hr
             .cases hr
           .cases hr
     |_=>simp[hg]at hr
   |invoke r m=>simp_all
   |builtin b=>cases b<;>(simp only[ho]at hr ⊢;exact hr)
 |makeFunc fn first cap=>grind
 |slice t x lo hi mx=>grind
 |makeMap t q=>grind
 |select cs b=>simp_all
 |_=>simp only[ho]at hr ⊢;exact hr
def zEb{c c':zcR}(h:LeC c c'){o:Oper}{st:St}{r:Res×St}(hr:aStep P C M c N ops o st=some r):aStep P C M c' N ops o st=some r:=by
 unfold aStep at hr ⊢;split at hr
 case isFalse=>cases hr
 rename_i hd;rw[if_pos hd]
 cases hw:zuZ ops o st.t with
 |none=>simp_all
 |some b =>
   cases b with
   |true =>
     simp only[hw]at hr ⊢
     cases hr':aop P C M c o (ev st.t) (look st.m)with
     |none=>simp_all
     |some r' =>
       rw[aop_mono h hr']
       simp_all
   |false=>simp_all
def zDV{c c':zcR}(h:LeC c c'):∀(l:List Oper) (i:Nat) (st:St) (r:List Mk×St),runOps P C M c N ops i l st=some r->runOps P C M c' N ops i l st=some r
 |[],_,_,_,hr=>hr
 |o::l,i,st,r,hr=>by
   simp only[runOps]at hr ⊢
   cases hs:aStep P C M c N ops o st with
   |none=>simp[hs]at hr
   |some q =>
     obtain⟨res,st1⟩:=q;rw[zEb h hs];simp only[hs]at hr ⊢
     cases ho:runOps P C M c N ops (i+1) l st1 with
     |none=>simp[ho]at hr
     |some q =>
       rw[zDV h l (i+1) st1 q ho]
       simp_all
def zJl{c c':zcR}(h:LeC c c'){draw:Bool}{st r:St}(hr:zl3 P C M c N ops draw st=some r):zl3 P C M c' N ops draw st=some r:=by
 unfold zl3 at hr ⊢
 cases ho:runOps P C M c N ops 0 ops.toList (preDel ops.toList st)with
 |none=>simp_all
 |some q =>
   rw[zDV h _ _ _ _ ho]
   simp_all
def zoU{c c':zcR}{i i':Go.Ab.Loop}(h:LeC c c')(hi:LeI i i'):∀(cd:Code),LeS (aeval P C A N c i cd) (aeval P C A N c' i' cd):=by
 intro cd
 induction cd with
 |region id ops draw =>
   intro st r hr;simp only[aeval]at hr ⊢;split at hr
   .rename_i st' h';rw[zJl h h'];exact hr
   .cases hr
 |seq x y ihx ihy =>
   intro st r hr;simp only[aeval]at hr ⊢
   cases hx:aeval P C A N c i x st with
   |none=>simp[hx]at hr
   |some q =>
     rw[ihx st q hx];rw[hx]at hr;obtain⟨e,st1⟩:=q
     cases e with
     |normal=>simp only at hr ⊢;exact ihy st1 r hr
     |_=>exact hr
 |cond o x y ihx ihy =>
   intro st r hr;simp only[aeval]at hr ⊢;split at hr
   . rename_i b hb
     cases b with
     |true=>simp only[if_true]at hr ⊢;exact ihx st r hr
     |false=>simp only[zK]at hr ⊢;exact ihy st r hr
   .cases hr
 |block id x ih =>
   intro st r hr;simp only[aeval]at hr ⊢
   cases hx:aeval P C A N c i x st with
   |none=>simp[hx]at hr
   |some q =>
     rw[ih st q hx]
     simp_all
 |loop x ih=>intro st r hr;simp only[aeval]at hr ⊢;exact hi _ _ ih st r hr
 |skip=>intro st r hr;exact hr
 |exit id=>intro st r hr;exact hr
 |ret=>intro st r hr;exact hr
 |rangeFunc=>intro st r hr;simp[aeval]at hr
 |scope=>intro st r hr;simp[aeval]at hr
 |label=>intro st r hr;simp[aeval]at hr
 |goto=>intro st r hr;simp[aeval]at hr
 |refuse=>intro st r hr;simp[aeval]at hr
end
def zkN{P:Program}{C:Cfg}{A:AnnF}:∀(n m:Nat),n<=m->LeC (acall P C A n) (acall P C A m):=by
 intro n
 induction n with
 |zero=>intro m _ f args ms r hr;simp[acall]at hr
 |succ n ih =>
   intro m hm
   cases m with
   |zero=>omega
   |succ m =>
     intro f args ms r hr;simp only[acall]at hr ⊢
     cases ho:orcG P C.orc f args ms with
     |some r0=>simp_all
     |none =>
     simp only[ho]at hr ⊢
     cases hf:P.funcs[f]? with
     |none=>simp[hf]at hr
     |some fn =>
       simp only[hf]at hr ⊢
       cases hb:fn.body with
       |none=>simp[hb]at hr
       |some c =>
         simp only[hb]at hr ⊢;split at hr
         case isFalse=>cases hr
         rename_i hc;rw[if_pos hc]
         cases hev:aeval P C (A f) fn.ntmps (acall P C A n) (iter n) c { t:=argTab 0 args,m:=ms }with
         |none=>simp[hev]at hr
         |some q =>
           rw[zoU (ih m (by omega)) (zkY (show n<=m by omega)) c _ q hev]
           simp_all
section
variable{P:Program}{C:Cfg}{F:AnnF}{M:aO}{N:Nat}{ops:aT}{A:Ann}
def LeC.refl(c:zcR):LeC c c:=λ_ _ _ _ h=>h
def zxG(n:Nat):LeC (acall P C F n) (callw P C F):=λf args ms _ h=>zxY (λa b r hab h=>zkN a b hab f args ms r h) h
def aop_cont{o:Oper}{E:aa}{L:aK}{r:Res}(hr:aop P C M (callw P C F) o E L=some r):∃n,aop P C M (acall P C F n) o E L=some r:=by
 have key:∀{d:aZ} {f:FuncId} {args:aN} {r:Res},aCall C (callw P C F) L d f args=some r->∃n,aCall C (acall P C F n) L d f args=some r:=by
  intro d f args r h;unfold aCall at h
  cases hp:zet L (C.wrt f) 0 args with
  |none=>simp_all
  |some q =>
    obtain⟨bc,ms,bk,fz⟩:=q;simp only[hp]at h;split at h
    case isFalse=>cases h
    rename_i hd
    cases hc:callw P C F f bc ms with
    |none=>simp_all
    |some q =>
      obtain⟨n,hn⟩:=zoJ hc;refine⟨n,?_⟩;unfold aCall
      grind
 unfold aop at hr ⊢
 cases ho:o.op with
 |call cl =>
   obtain⟨callee,args,argTypes⟩:=cl
   cases callee with
   |value g =>
     simp only[ho]at hr ⊢
     cases hg:E g with
     |fn f cap =>
       simp only[hg]at hr ⊢;by_cases hb:bare P f=true
       .simp_all
       . simp only[zK,hb]at hr ⊢
         cases hdp:C.dp f with
         |some k0 =>
           simp only[hdp]at hr ⊢;split at hr
           case isFalse=>cases hr
           rename_i hdo;obtain⟨bc,ms,q,h1,h2⟩:=aDeep_at hr;obtain⟨n,hn⟩:=zoJ h1
           grind
         |none =>
         simp only[hdp]at hr ⊢
         cases hd:o.dst with
         |none=>simp_all
         |some d=>grind
     |_=>simp[hg]at hr
   |invoke r m=>simp_all
   |builtin b=>cases b<;>(simp only[ho]at hr ⊢;exact⟨0,hr⟩)
 |makeFunc fn first cap=>cases fn<;>(simp only[ho]at hr ⊢;exact⟨0,hr⟩)
 |slice t x lo hi mx=>cases mx<;>(simp only[ho]at hr ⊢;exact⟨0,hr⟩)
 |makeMap t q=>cases q<;>(simp only[ho]at hr ⊢;exact⟨0,hr⟩)
 |select cs b=>simp_all
 |_=>simp only[ho]at hr ⊢;exact⟨0,hr⟩
def aStep_cont{o:Oper}{st:St}{r:Res×St}(hr:aStep P C M (callw P C F) N ops o st=some r):∃n,aStep P C M (acall P C F n) N ops o st=some r:=by
 unfold aStep at hr ⊢;split at hr
 case isFalse=>cases hr
 rename_i hd;simp only[hd,if_true]
 cases hw:zuZ ops o st.t with
 |none=>simp_all
 |some b =>
   cases b with
   |true =>
     simp only[hw]at hr ⊢
     cases hr':aop P C M (callw P C F) o (ev st.t) (look st.m)with
     |none=>simp_all
     |some r' =>
       obtain⟨n,hn⟩:=aop_cont hr'
       grind
   |false=>simp_all
def run_cont:∀(l:List Oper) (i:Nat) (st:St) (r:List Mk×St),runOps P C M (callw P C F) N ops i l st=some r->∃n,runOps P C M (acall P C F n) N ops i l st=some r
 |[],_,_,_,hr=>⟨0,hr⟩
 |o::l,i,st,r,hr=>by
   simp only[runOps]at hr
   cases hs:aStep P C M (callw P C F) N ops o st with
   |none=>simp[hs]at hr
   |some q =>
     obtain⟨res,st1⟩:=q;simp only[hs]at hr;obtain⟨n1,h1⟩:=aStep_cont hs
     cases ho:runOps P C M (callw P C F) N ops (i+1) l st1 with
     |none=>simp[ho]at hr
     |some q=>simp only[ho]at hr;obtain⟨n2,h2⟩:=run_cont l (i+1) st1 q ho;refine⟨max n1 n2,?_⟩;simp only[runOps];rw[zEb (zkN n1 (max n1 n2) (by omega)) h1];simp only;rw[zDV (zkN n2 (max n1 n2) (by omega)) l (i+1) st1 q h2];exact hr
def zJk{draw:Bool}{st r:St}(hr:zl3 P C M (callw P C F) N ops draw st=some r):∃n,zl3 P C M (acall P C F n) N ops draw st=some r:=by
 unfold zl3 at hr ⊢
 cases ho:runOps P C M (callw P C F) N ops 0 ops.toList (preDel ops.toList st)with
 |none=>simp_all
 |some q =>
   obtain⟨n,hn⟩:=run_cont _ _ _ _ ho
   grind
def aeval_cont:∀(cd:Code) (st:St) (r:Ex×St),aeval P C A N (callw P C F) itw cd st=some r->∃n,aeval P C A N (acall P C F n) (iter n) cd st=some r:=by
 intro cd
 induction cd with
 |region id ops draw =>
   intro st r hr;simp only[aeval]at hr;split at hr
   .rename_i st' h';obtain⟨n,hn⟩:=zJk h';exact⟨n,by simp only[aeval];rw[hn];exact hr⟩
   .cases hr
 |seq x y ihx ihy =>
   intro st r hr;simp only[aeval]at hr
   cases hx:aeval P C A N (callw P C F) itw x st with
   |none=>simp[hx]at hr
   |some q =>
     obtain⟨n1,h1⟩:=ihx st q hx;rw[hx]at hr;obtain⟨e,st1⟩:=q
     cases e with
     |normal=>simp only at hr;obtain⟨n2,h2⟩:=ihy st1 r hr;refine⟨max n1 n2,?_⟩;simp only[aeval];rw[zoU (zkN n1 (max n1 n2) (by omega)) (zkY (by omega)) x st _ h1];exact zoU (zkN n2 (max n1 n2) (by omega)) (zkY (by omega)) y st1 _ h2
     |exit id=>exact⟨n1,by simp only[aeval];rw[h1];exact hr⟩
     |ret=>exact⟨n1,by simp only[aeval];rw[h1];exact hr⟩
 |cond o x y ihx ihy =>
   intro st r hr;simp only[aeval]at hr;split at hr
   . rename_i b hb
     cases b with
     |true=>simp only[if_true]at hr;obtain⟨n,hn⟩:=ihx st r hr;exact⟨n,by simp only[aeval,hb,if_true];exact hn⟩
     |false=>simp only[zK]at hr;obtain⟨n,hn⟩:=ihy st r hr;exact⟨n,by simp only[zK,aeval,hb];exact hn⟩
   .cases hr
 |block id x ih =>
   intro st r hr;simp only[aeval]at hr
   cases hx:aeval P C A N (callw P C F) itw x st with
   |none=>simp[hx]at hr
   |some q=>obtain⟨n,hn⟩:=ih st q hx;rw[hx]at hr;exact⟨n,by simp only[aeval];rw[hn];exact hr⟩
 |loop x ih =>
   intro st r hr;simp only[aeval]at hr;obtain⟨k,hk⟩:=zoJ hr
   have key:∀(k:Nat) (st:St),iter k (aeval P C A N (callw P C F) itw x) st=some r->∃n,iter k (aeval P C A N (acall P C F n) (iter n) x) st=some r:=by
    intro k
    induction k with
    |zero=>intro st h;simp[iter]at h
    |succ k ihk =>
      intro st h;simp only[iter]at h
      cases hs:aeval P C A N (callw P C F) itw x st with
      |none=>simp[hs]at h
      |some q =>
        obtain⟨n1,h1⟩:=ih st q hs;rw[hs]at h;obtain⟨e,st1⟩:=q
        cases e with
        |normal=>simp only at h;obtain⟨n2,h2⟩:=ihk st1 h;refine⟨max n1 n2,?_⟩;simp only[iter];rw[zoU (zkN n1 (max n1 n2) (by omega)) (zkY (by omega)) x st _ h1];simp only;exact zkY (zav k) _ _ (zoU (zkN n2 (max n1 n2) (by omega)) (zkY (by omega)) x) st1 r h2
        |exit id=>exact⟨n1,by simp only[iter];rw[h1];exact h⟩
        |ret=>exact⟨n1,by simp only[iter];rw[h1];exact h⟩
   obtain⟨n,hn⟩:=key k st hk;refine⟨max n k,?_⟩;simp only[aeval];exact zkY (show k<=max n k by omega) _ _ (zoU (zkN n (max n k) (by omega)) (zkY (by omega)) x) st r hn
 |skip=>intro st r hr;exact⟨0,hr⟩
 |exit id=>intro st r hr;exact⟨0,hr⟩
 |ret=>intro st r hr;exact⟨0,hr⟩
 |rangeFunc=>intro st r hr;simp[aeval]at hr
 |scope=>intro st r hr;simp[aeval]at hr
 |label=>intro st r hr;simp[aeval]at hr
 |goto=>intro st r hr;simp[aeval]at hr
 |refuse=>intro st r hr;simp[aeval]at hr
end
def zqT(P:Program)(frz:Bool)(fn:Func)(ms:Mem):Option (Ex×St)->Option (AV×Mem)
 |some (.normal,st)=>match zoI P frz fn st,zoV st.m ms with
   |some r,some ms'=>zxV r ms'
   |_,_=>none
 |some (.ret,st)=>match zoI P frz fn st,zoV st.m ms with
   |some r,some ms'=>zxV r ms'
   |_,_=>none
 |_=>none
def callw_of{P:Program}{C:Cfg}{A:AnnF}{f:FuncId}{fn:Func}{c:Code}{args:aN}{ms:Mem}{r:AV×Mem}(ho:C.orc f args ms=none)(hf:P.funcs[f]?=some fn)(hb:fn.body=some c)(he:enters P f=true)(hN:fn.ntmps<=1000)
  (ha:args.length<=fn.ntmps) (h:zqT P (A f).frz fn ms (aeval P C (A f) fn.ntmps (callw P C A) itw c { t:=argTab 0 args,m:=ms })=some r):callw P C A f args ms=some r:=by
 cases hev:aeval P C (A f) fn.ntmps (callw P C A) itw c { t:=argTab 0 args,m:=ms }with
 |none=>simp[hev,zqT]at h
 |some q =>
   obtain⟨n,hn⟩:=aeval_cont c _ q hev;rw[hev]at h;refine zxG (n+1) f args ms r ?_;simp only[acall,orcG_none ho,hf,hb];rw[if_pos ⟨hN,ha,he⟩,hn];obtain⟨e,st⟩:=q
   cases e with
   |normal=>exact h
   |ret=>exact h
   |exit id=>simp[zqT]at h
def itw_eq(step:St->Option (Ex×St))(st:St):itw step st=match step st with
  |some (.normal,st')=>itw step st'
  |r=>r:=by
 have hm:∀st,MonoO λn=>iter n step st:=λst a b r hab h=>zkY hab step step (λ_ _ h=>h) st r h
 cases hs:step st with
 |none =>
   simp only
   cases hq:itw step st with
   |none=>rfl
   |some q =>
     obtain⟨n,hn⟩:=zoJ hq
     cases n with
     |zero=>simp[iter]at hn
     |succ n=>simp[iter,hs]at hn
 |some q =>
   obtain⟨e,st1⟩:=q
   cases e with
   |normal =>
     simp only
     cases hq:itw step st1 with
     |none =>
       cases hq2:itw step st with
       |none=>rfl
       |some q =>
         obtain⟨n,hn⟩:=zoJ hq2
         cases n with
         |zero=>simp[iter]at hn
         |succ n =>
           simp only[iter,hs]at hn;have:itw step st1=some q:=zxY (hm st1) hn
           simp_all
     |some q=>obtain⟨n,hn⟩:=zoJ hq;exact zxY (hm st) (n:=n+1) (by simp only[iter,hs];exact hn)
   |exit id=>exact zxY (hm st) (n:=1) (by simp only[iter,hs])
   |ret=>exact zxY (hm st) (n:=1) (by simp only[iter,hs])
def zqS{P:Program}{C:Cfg}{A:AnnF}{f:FuncId}{args:aN}{ms:Mem}{r:AV×Mem}(hok:CallOK P (single f C.orc))(h:C.orc f args ms=some r):callw P C A f args ms=some r:=by refine zxG 1 f args ms r ?_;simp only[acall,orcG_some hok h]
def zDt{P:Program}{C:Cfg}{A:AnnF}:CallOK P (callw P C A):=by intro f args ms r ms' h;obtain⟨n,hn⟩:=zoJ h;exact zKY n f args ms r ms' hn
end
def Holds:List Prop->Prop
 |[]=>True
 |p::r=>p/\Holds r
def zdO{a b:aY}:Holds (a++b)↔Holds a/\Holds b:=by
 induction a with
 |nil=>simp[Holds]
 |cons p r ih=>simp[Holds,ih,and_assoc]
def psnap(L:aK):Nat->AV->Option (AV×List Prop)
 |0,_=>none
 |k+1,a=>match a with
   |.row b z off n=>match L b with
     |some ent=>if ent.z=z/\ent.box=false/\0<z then some (.sl z ((ent.es.drop off).take n),[off+n<=ent.es.length])else none
     |none=>none
   |.agg cs=>match mapO (psnap L k) cs with
     |some l=>some (.agg (l.map (·.1)),l.flatMap (·.2))
     |none=>none
   |.fn f cs=>match mapO (psnap L k) cs with
     |some l=>some (.fn f (l.map (·.1)),l.flatMap (·.2))
     |none=>none
   |.tup cs=>match mapO (psnap L k) cs with
     |some l=>some (.tup (l.map (·.1)),l.flatMap (·.2))
     |none=>none
   |.loc b z i o=>match L b with
     |some ent=>if ent.z=z/\(ent.box=true\/0<ent.z)then(match ent.box with
       |true=>(match ent.es[i]? with
         |some cs=>(match mapO (psnap L k) (cs.drop o)with
           |some l=>some (.fp (l.map (·.1)),l.flatMap (·.2))
           |none=>none)
         |none=>none)
       |false=>if i=0/\o=0 then some (.fa z ent.es,[i<ent.es.length])else some (.fp (zyA ent.es i o),[i<ent.es.length]))else none
     |none=>none
   |a=>match snap L (k+1) a with
     |some a'=>some (a',[])
     |none=>none
def zE3{l:List (AV×List Prop)}(h:Holds (l.flatMap (·.2))):∀q∈l,Holds q.2:=by
 induction l with
 |nil=>intro q hq;cases hq
 |cons p r ih =>
   simp only[zem,zdO]at h
   grind
def mapO_of{α β γ:Type}{f:α->Option β}{g:α->Option γ}{t:γ->β}:∀{l:List α} {r:List γ},mapO g l=some r->(∀a c,a∈l->c∈r->g a=some c->f a=some (t c))->mapO f l=some (r.map t)
 |[],r,h,_=>by simp[mapO]at h;subst h;rfl
 |a::l,r,h,hf=>by
   simp only[mapO]at h
   cases hg:g a with
   |none=>simp[hg]at h
   |some c =>
     simp only[hg]at h
     cases hm:mapO g l with
     |none=>simp[hm]at h
     |some l'=>simp only[hm,zaf]at h;subst h;simp only[mapO,hf a c (by simp) (by simp) hg,zbx];rw[mapO_of hm (λa' c' ha hc=>hf a' c' (by simp[ha]) (by simp[hc]))]
def zjQ{L:aK}:∀(k:Nat) (a a':AV) (cs:aY),psnap L k a=some (a',cs)->Holds cs->snap L k a=some a':=by
 intro k
 induction k with
 |zero=>intro a a' cs h;simp[psnap]at h
 |succ k ih =>
   intro a a' ps h hh
   have lists:∀(cs:aN) (l:List (AV×List Prop)),mapO (psnap L k) cs=some l->Holds (l.flatMap (·.2))->mapO (snap L k) cs=some (l.map (·.1)):=by intro cs l hm hl;exact mapO_of hm (λa c _ hc hg=>ih a c.1 c.2 hg (zE3 hl c hc))
   cases a with
   |row b z off n =>
     simp only[psnap]at h;simp only[snap]
     cases hl:L b with
     |none=>simp[hl]at h
     |some ent =>
       simp only[hl]at h ⊢;split at h
       case isFalse=>cases h
       rename_i hc;simp only[zG]at h;obtain⟨rfl,rfl⟩:=h;rw[if_pos ⟨hc.1,hc.2.1,hc.2.2,hh.1⟩]
   |agg cs =>
     simp only[psnap]at h;simp only[snap]
     grind
   |fn f cs =>
     simp only[psnap]at h;simp only[snap]
     grind
   |tup cs =>
     simp only[psnap]at h;simp only[snap]
     grind
   |loc b z i o =>
     simp only[psnap]at h;simp only[snap]
     cases hl:L b with
     |none=>simp[hl]at h
     |some ent =>
       simp only[hl]at h ⊢;split at h
       case isFalse=>cases h
       rename_i hc;rw[if_pos hc]
       cases hbx:ent.box with
       |true=>grind
       |false =>
         simp only[hbx]at h;split at h
         .rename_i hio;simp only[zG]at h;obtain⟨rfl,rfl⟩:=h;rw[zaa hh.1];simp[hio]
         .rename_i hio;simp only[zG]at h;obtain⟨rfl,rfl⟩:=h;rw[zaa hh.1];simp[hio]
   |_ =>
     simp only[psnap]at h;split at h
     .rename_i a1 ha;simp only[zG]at h;obtain⟨rfl,rfl⟩:=h;exact ha
     .cases h
def zqU(L:aK)(wrt:aO):Nat->List AV->Option ((List AV×Mem×List (Nat×Nat)×List Nat)×List Prop)
 |_,[]=>some (([],[],[],[]),[])
 |k,a::r=>match zqU L wrt (k+1) r with
   |none=>none
   |some ((bc,ms,bk,fz),ps) =>
     if(wrt.contains k&&!a.data)=true then(match a with
      |.loc b z 0 0=>match L b with
        |some ent=>if ent.z=z/\ent.box=true/\allL (λcs=>allL (AV.isC 4) cs) ent.es=true/\bk.all (λp=>p.1≠b)=true then
          some ((.loc (1000+k) z 0 0::bc,(1000+k,ent)::ms,(b,1000+k)::bk,fz),ps)else none
        |none=>none
      |.row b z off n=>match L b with
        |some ent=>if ent.z=z/\ent.box=false/\0<z/\bk.all (λp=>p.1≠b)=true then
          some ((.row (1000+k) z off n::bc,(1000+k,ent)::ms,(b,1000+k)::bk,fz),ps)else none
        |none=>none
      |.map b=>match L b with
        |some ent=>if ent.z=0/\ent.box=false/\bk.all (λp=>p.1≠b)=true then
          some ((.map (1000+k)::bc,(1000+k,ent)::ms,(b,1000+k)::bk,fz),ps)else none
        |none=>none
      |a=>match zsH a with
        |some (b,z,f)=>match L b with
          |some ent=>if ent.z=z/\ent.box=true/\allL (λcs=>allL (AV.isC 4) cs) ent.es=true/\bk.all (λp=>p.1≠b)=true then
            some ((f (1000+k)::bc,(1000+k,ent)::ms,(b,1000+k)::bk,fz),ps)else none
          |none=>none
        |none=>none)
     else if wrt.contains (100+k)then(match a with
      |.row b z 0 n=>match L b with
        |some ent=>if ent.z=z/\ent.box=false/\0<z/\b<1000/\k<50/\bk.all (λp=>p.1≠b)=true then
          some ((.row (950+k) z 0 n::bc,(950+k,ent)::ms,(b,950+k)::bk,fz),(n=ent.es.length)::ps)else none
        |none=>none
      |_=>none)
     else match psnap L 5 a with
      |some (a',qs)=>some ((a'::bc,ms,bk,a.ids L 5++fz),qs++ps)
      |none=>none
def zn0{L:aK}{wrt:aO}:∀(args:aN) (k:Nat) (q:List AV×Mem×List (Nat×Nat)×List Nat) (ps:aY),zqU L wrt k args=some (q,ps)->Holds ps->zet L wrt k args=some q
 |[],k,q,ps,h,_=>by simp[zqU]at h;rw[<-h.1];rfl
 |a::r,k,q,ps,h,hh=>by
   simp only[zqU]at h
   cases hr:zqU L wrt (k+1) r with
   |none=>simp[hr]at h
   |some q0 =>
     obtain⟨⟨bc,ms,bk,fz⟩,ps0⟩:=q0;simp only[hr]at h;simp only[zet];by_cases hw:(wrt.contains k&&!a.data)=true
     . simp only[hw,if_true]at h ⊢
       have hps:Holds ps0:=by
        split at h
        . split at h
          . split at h
            .simp only[zG]at h;rw[h.2];exact hh
            .cases h
          .cases h
        . split at h
          . split at h
            .simp only[zG]at h;rw[h.2];exact hh
            .cases h
          .cases h
        . split at h
          . split at h
            .simp only[zG]at h;rw[h.2];exact hh
            .cases h
          .cases h
        . split at h
          . split at h
            . split at h
              .simp only[zG]at h;rw[h.2];exact hh
              .cases h
            .cases h
          .cases h
       rw[zn0 r (k+1) _ _ hr hps];simp only;split at h
       . split at h
         . rename_i ent hl;split at h
           .rename_i hc;simp only[zG,hl]at h ⊢;rw[if_pos hc,<-h.1]
           .cases h
         .cases h
       . split at h
         . rename_i ent hl;split at h
           .rename_i hc;simp only[zG,hl]at h ⊢;rw[if_pos hc,<-h.1]
           .cases h
         .cases h
       . split at h
         . rename_i ent hl;split at h
           .rename_i hc;simp only[zG,hl]at h ⊢;rw[if_pos hc,<-h.1]
           .cases h
         .cases h
       . rename_i a n1 n2 n3;split at h
         case h_2=>cases h
         rename_i b z f hsl;split at h
         case h_2=>cases h
         rename_i ent hl;split at h
         case isFalse=>cases h
         rename_i hc;simp only[zG]at h;split
         .exact absurd rfl (n1 _ _)
         .exact absurd rfl (n2 _ _ _ _)
         .exact absurd rfl (n3 _)
         .simp only[hsl,hl];rw[if_pos hc,<-h.1]
     . simp only[zK,hw]at h ⊢;by_cases hg:wrt.contains (100+k)=true
       . simp only[hg,if_true]at h ⊢;split at h
         case h_2=>cases h
         split at h
         case h_2=>cases h
         rename_i ent hl;split at h
         case isFalse=>cases h
         rename_i hc;simp only[zG]at h;obtain⟨h1,rfl⟩:=h;rw[zn0 r (k+1) _ _ hr hh.2];simp only[hl];rw[if_pos ⟨hc.1,hc.2.1,hc.2.2.1,hh.1,hc.2.2.2.1,hc.2.2.2.2.1,hc.2.2.2.2.2⟩,<-h1]
       simp only[zK,hg]at h ⊢
       cases hs:psnap L 5 a with
       |none=>simp[hs]at h
       |some q1=>obtain⟨a',qs⟩:=q1;simp only[zG,hs]at h;obtain⟨rfl,rfl⟩:=h;rw[zdO]at hh;rw[zn0 r (k+1) _ _ hr hh.2,zjQ 5 a a' qs hs hh.1]
def pnest(L:aK):Nat->List AV->Option ((List AV×Mem×List (Nat×Nat))×List Prop)
 |_,[]=>some (([],[],[]),[])
 |q,a::r=>if a.isC 4=true then(match pnest L q r with
   |some ((cs,ms,bk),ps)=>some ((a::cs,ms,bk),ps)
   |none=>none)
   else match a with
    |.row c z 0 n=>match L c,pnest L (q+1) r with
      |some ent,some ((cs,ms,bk),ps)=>if ent.z=z/\ent.box=false/\0<z/\c<1000/\q<950/\bk.all (λp=>p.1≠c)=true then
        some ((.row q z 0 n::cs,(q,ent)::ms,(c,q)::bk),(n=ent.es.length)::ps)else none
      |_,_=>none
    |.map c=>match L c,pnest L (q+1) r with
      |some ent,some ((cs,ms,bk),ps)=>if ent.z=0/\ent.box=false/\c<1000/\q<950/\bk.all (λp=>p.1≠c)=true then
        some ((.map q::cs,(q,ent)::ms,(c,q)::bk),ps)else none
      |_,_=>none
    |_=>none
def zsQ{L:aK}:∀(cs:aN) (q:Nat) (x:List AV×Mem×List (Nat×Nat)) (ps:aY),pnest L q cs=some (x,ps)->Holds ps->nest L q cs=some x
 |[],q,x,ps,h,_=>by simp[pnest]at h;rw[<-h.1];rfl
 |a::r,q,x,ps,h,hh=>by
   simp only[pnest]at h;simp only[nest];split at h
   . rename_i hC;rw[if_pos hC];split at h
     case h_2=>cases h
     rename_i cs ms bk ps0 hr;simp only[zG]at h;obtain⟨rfl,rfl⟩:=h;rw[zsQ r q _ _ hr hh]
   . rename_i hC;rw[if_neg hC];split at h
     . split at h
       case h_2=>cases h
       rename_i ent cs ms bk ps0 hl hr;split at h
       case isFalse=>cases h
       rename_i hc;simp only[zG]at h;obtain⟨rfl,rfl⟩:=h;simp only[hl];rw[zsQ r (q+1) _ _ hr hh.2];simp only;rw[if_pos ⟨hc.1,hc.2.1,hc.2.2.1,hh.1,hc.2.2.2⟩]
     . split at h
       case h_2=>cases h
       rename_i ent cs ms bk ps0 hl hr;split at h
       case isFalse=>cases h
       rename_i hc;simp only[zG]at h;obtain⟨rfl,rfl⟩:=h;simp only[hl];rw[zsQ r (q+1) _ _ hr hh]
       grind
     .cases h
def pdArgs(L:aK)(k0:Nat)(x:AV):Nat->List AV->Option ((List AV×List Nat)×List Prop)
 |_,[]=>some (([],[]),[])
 |k,a::r=>match pdArgs L k0 x (k+1) r with
   |none=>none
   |some ((bc,fz),ps)=>if k=k0 then some ((x::bc,fz),ps)else match psnap L 5 a with
     |some (a',qs)=>some ((a'::bc,a.ids L 5++fz),qs++ps)
     |none=>none
def zvz{L:aK}{k0:Nat}{x0:AV}:∀(args:aN) (k:Nat) (x:List AV×List Nat) (ps:aY),pdArgs L k0 x0 k args=some (x,ps)->Holds ps->dArgs L k0 x0 k args=some x
 |[],k,x,ps,h,_=>by simp[pdArgs]at h;rw[<-h.1];rfl
 |a::r,k,x,ps,h,hh=>by
   simp only[pdArgs]at h;simp only[dArgs];split at h
   .cases h
   . rename_i bc fz ps0 hr;split at h
     . rename_i hk;simp only[zG]at h;obtain⟨rfl,rfl⟩:=h;rw[zvz r (k+1) _ _ hr hh]
       simp_all
     . rename_i hk;split at h
       case h_2=>cases h
       rename_i a' qs hs;simp only[zG]at h;obtain⟨rfl,rfl⟩:=h;rw[zdO]at hh;rw[zvz r (k+1) _ _ hr hh.2];simp only;rw[if_neg hk,zjQ 5 a a' qs hs hh.1]
def pInt(op:BinOp)(k k':IntKind)(a b:Int):Option (AV×List Prop):=
 match op with
 |.shl=>some (.v (.int k (k.wrap (a*2 ^ (min b.toNat k.bits)))),[0<=b])
 |.shr=>some (.v (.int k (a.fdiv (2 ^ (min b.toNat k.bits)))),[0<=b])
 |op=>if k=k' then(match op with
   |.add=>some (.v (.int k (k.wrap (a+b))),[])
   |.sub=>some (.v (.int k (k.wrap (a-b))),[])
   |.mul=>some (.v (.int k (k.wrap (a*b))),[])
   |.quo=>some (.v (.int k (k.wrap (a.tdiv b))),[b≠0])
   |.rem=>some (.v (.int k (a.tmod b)),[b≠0])
   |.eql=>some (.v (.bool (a==b)),[])
   |.neq=>some (.v (.bool (a !=b)),[])
   |.lss=>some (.v (.bool (decide (a<b))),[])
   |.leq=>some (.v (.bool (decide (a<=b))),[])
   |.gtr=>some (.v (.bool (decide (b<a))),[])
   |.geq=>some (.v (.bool (decide (b<=a))),[])
   |_=>none)else none
def pInt_sound{P:Program}{o:Oper}{op:BinOp}{t u:TypeId}{x y:Operand}{E:aa}{k k':IntKind}{a b:Int}(ho:o.op=.binOp op t x y u)(hx:E x=.v (.int k a))(hy:E y=.v (.int k' b)){v:AV}{ps:aY}
  (h:pInt op k k' a b=some (v,ps)) (hh:Holds ps):aPure P o E=some { val:=v }:=by
 have hops:o.op.operands=#[x,y]:=by rw[ho];rfl
 unfold aPure;rw[hops];have hall:([x,y].all λx=>(E x).toVal.isSome)=true:=by simp[hx,hy,AV.toVal]
 rw[show(#[x,y]:Array Operand).toList=[x,y]from rfl,if_pos hall]
 have hex:execOp (λx=>((E x).toVal).getD undef) o=(do let q <-(do eqGuard op t x y (.int k a) (.int k' b);binOp op t (.int k a) (.int k' b));pure (.value q)):=by simp only[execOp,ho,hx,hy,AV.toVal,zci]
 rw[hex]
 have hg:∀(s:Sem Value),zdb P (do eqGuard op t x y (.int k a) (.int k' b);s)=zdb P s:=by intro s;cases op<;>simp[eqGuard,Bind.bind,Sem.bind,Pure.pure]
 have hrun:∀(s:Sem Value) (q:Value),zdb P s=some q->zdb P (do let q <-s;pure (Next.value q))=some (Next.value q):=by
  intro s
  induction s with
  |pure a=>intro q hq;simp[zdb]at hq;subst hq;rfl
  |program f ih=>intro q hq;simp only[zdb]at hq;exact ih P q hq
  |mark m f ih=>intro q hq;simp only[zdb]at hq;exact ih q hq
  |_=>intro q hq;simp[zdb]at hq
 have fin:∀q:Value,q.oneCell'=true->(∀vs,q≠.tuple vs)->zdb P (binOp op t (.int k a) (.int k' b))=some q->v=.v q->(match zdb P (do let q <-(do eqGuard op t x y (.int k a) (.int k' b);binOp op t (.int k a) (.int k' b));pure (Next.value q))with
    |some (.value x)=>match ofVal x with
      |some a=>some { val:=a }
      |none=>none
    |_=>none)=some ({ val:=v }:Res):=by
  intro q h1 hn h2 h3;rw[hrun _ q (by rw[hg];exact h2)]
  have:ofVal q=some (.v q):=by
   unfold ofVal;split
   .grind
   .rw[if_pos h1]
  simp only[this,h3]
 unfold pInt at h;cases op<;>simp only at h
 case shl =>
  simp only[zG]at h;obtain⟨rfl,rfl⟩:=h;refine fin (.int k (k.wrap (a*2 ^ (min b.toNat k.bits)))) rfl (by simp) ?_ rfl;have:¬b<0:=by have:=hh.1;omega
  simp[binOp,Op.shift,this,zdb,Pure.pure]
 case shr =>
  simp only[zG]at h;obtain⟨rfl,rfl⟩:=h;refine fin (.int k (a.fdiv (2 ^ (min b.toNat k.bits)))) rfl (by simp) ?_ rfl;have:¬b<0:=by have:=hh.1;omega
  simp[binOp,Op.shift,this,zdb,Pure.pure]
 all_goals
  split at h
  case isFalse=>cases h
  rename_i hk;subst hk
 case add|sub|mul=>simp only[zG]at h;obtain⟨rfl,rfl⟩:=h;refine fin _ rfl (by simp) ?_ rfl;simp[binOp,Op.intArith,zdb,Pure.pure]
 case quo|rem=>simp only[zG]at h;obtain⟨rfl,rfl⟩:=h;refine fin _ rfl (by simp) ?_ rfl;have:=hh.1;simp[binOp,Op.intDiv,this,zdb,Pure.pure]
 case eql|neq|lss|leq|gtr|geq=>simp only[zG]at h;obtain⟨rfl,rfl⟩:=h;refine fin _ rfl (by simp) ?_ rfl;simp[binOp,Op.intCmp,zdb,Pure.pure]
 all_goals cases h
def noCall:zcR:=λ_ _ _=>none
def noCall_le(c:zcR):LeC noCall c:=λ_ _ _ _ h=>by cases h
def psrc(L:aK)(z:Nat):AV->Option (List (List AV)×List Prop)
 |.row b z' off n=>match L b with
   |some ent=>if ent.z=z/\z'=z/\ent.box=false/\0<z then some ((ent.es.drop off).take n,[off+n<=ent.es.length])else none
   |none=>none
 |a=>match srcOf L z a with
   |some l=>some (l,[])
   |none=>none
def zyL{L:aK}{z:Nat}{a:AV}{l:aS}{ps:aY}(h:psrc L z a=some (l,ps))(hh:Holds ps):srcOf L z a=some l:=by
 unfold psrc at h;split at h
 . rename_i b z' off n;simp only[srcOf]
   cases hl:L b with
   |none=>simp[hl]at h
   |some ent =>
     simp only[hl]at h ⊢;split at h
     case isFalse=>cases h
     rename_i hc;simp only[zG]at h;obtain⟨rfl,rfl⟩:=h;rw[if_pos ⟨hc.1,hc.2.1,hc.2.2.1,hc.2.2.2,hh.1⟩]
 grind
def pNat(d:Nat):Option AV->Option (Nat×List Prop)
 |none=>some (d,[])
 |some (.v (.int _ n))=>some (n.toNat,[0<=n])
 |_=>none
def zuO{d n:Nat}{a:Option AV}{ps:aY}(h:pNat d a=some (n,ps))(hh:Holds ps):natOf d a=some n:=by
 unfold pNat at h;split at h
 .simp only[zG]at h;obtain⟨rfl,rfl⟩:=h;rfl
 .simp only[zG]at h;obtain⟨rfl,rfl⟩:=h;simp only[natOf];rw[if_pos hh.1]
 .cases h
def pSlice(P:Program)(t:TypeId)(x:AV)(lo hi:Option AV):Option (Res×List Prop):=
 match P.underlying t with
 |some (.slice e)=>match szB P e,x with
   |some sz,.sl z es=>match pNat 0 lo,pNat es.length hi with
     |some (l,ps),some (h,qs)=>if z=sz then some ({ val:=.sl z ((es.take h).drop l) },ps++(qs++[l<=h,h<=es.length]))else none
     |_,_=>none
   |some sz,.row b z off n=>match pNat 0 lo,pNat n hi with
     |some (l,ps),some (h,qs)=>if z=sz then some ({ val:=.row b z (off+l) (h-l) },ps++(qs++[l<=h,h<=n]))else none
     |_,_=>none
   |_,_=>none
 |_=>none
def zKp{P:Program}{t:TypeId}{x:AV}{lo hi:Option AV}{r:Res}{ps:aY}(h:pSlice P t x lo hi=some (r,ps))(hh:Holds ps):aSlice P t x lo hi=some r:=by
 unfold pSlice at h;unfold aSlice
 cases hu:P.underlying t with
 |none=>simp[hu]at h
 |some td =>
   cases td with
   |slice e =>
     simp only[hu]at h ⊢;split at h
     . rename_i sz z es hs;simp only[hs];split at h
       case h_2=>cases h
       rename_i l p1 hh' q1 h1 h2;split at h
       case isFalse=>cases h
       rename_i hz;simp only[zG]at h;obtain⟨rfl,rfl⟩:=h;rw[zdO,zdO]at hh;rw[zuO h1 hh.1,zuO h2 hh.2.1];simp only;rw[if_pos ⟨hz,hh.2.2.1,hh.2.2.2.1⟩]
     . rename_i sz b z off n hs;simp only[hs];split at h
       case h_2=>cases h
       rename_i l p1 hh' q1 h1 h2;split at h
       case isFalse=>cases h
       rename_i hz;simp only[zG]at h;obtain⟨rfl,rfl⟩:=h;rw[zdO,zdO]at hh;rw[zuO h1 hh.1,zuO h2 hh.2.1];simp only;rw[if_pos ⟨hz,hh.2.2.1,hh.2.2.2.1⟩]
     .cases h
   |_=>simp[hu]at h
def pMake(P:Program)(d:Nat)(t:TypeId)(l c:AV):Option (Res×List Prop):=
 match l,c with
 |.v (.int _ n),.v (.int _ n')=>match P.underlying t with
   |some (.slice e)=>match szB P e,zeroB P e,P.info? e with
     |some sz,some zero,some i=>if 0<sz/\zero.length=sz/\allL AV.one zero=true then
       some ({ val:=.row d sz 0 (List.replicate n.toNat (nrmL P (zjS P 8 e) zero)).length,set:=[(d,{ z:=sz,e:=e,es:=List.replicate n.toNat (nrmL P (zjS P 8 e) zero),box:=false })] },[n=n',0<=n,n.toNat*(i.bytes+1)<=1099511627776])else none
     |_,_,_=>none
   |_=>none
 |_,_=>none
def zLy{P:Program}{d:Nat}{t:TypeId}{l c:AV}{r:Res}{ps:aY}(h:pMake P d t l c=some (r,ps))(hh:Holds ps):aMake P d t l c=some r:=by
 unfold pMake at h;split at h
 case h_2=>cases h
 rename_i k n k' n';split at h
 case h_2=>cases h
 rename_i e hu;split at h
 case h_2=>cases h
 rename_i sz zero i hs hz hi;split at h
 case isFalse=>cases h
 rename_i hc;simp only[zG]at h;obtain⟨rfl,rfl⟩:=h;simp only[aMake,hu,hs,hz,hi];rw[if_pos ⟨hh.1,hh.2.1,hc.1,hc.2.1,hc.2.2,hh.2.2.1⟩]
def pAppend(P:Program)(L:aK)(d:Nat)(t:TypeId)(s x:AV):Option (Res×List Prop):=
 match P.underlying t with
 |some (.slice e)=>match P.info? e,zeroB P e with
   |some i,some zero=>if 0<i.size/\zero.length=i.size then(match psrc L i.size x with
     |some (new,ps)=>(match s with
       |.v (.slice none 0 0)=>some ({ val:=.row d i.size 0 new.length,set:=[(d,{ z:=i.size,e:=e,es:=new,box:=false })] },ps++[new.length*(i.bytes+1)<=1099511627776])
       |.row b z off n=>match L b with
         |some ent=>if b<1000/\b≠d/\ent.z=i.size/\z=i.size/\ent.e=e/\ent.box=false/\off=0 then
           some ({ val:=.row d i.size 0 (ent.es++new).length,set:=[(d,{ z:=i.size,e:=e,es:=ent.es++new,box:=false })],kill:=some b },ps++[n=ent.es.length,(ent.es.length+new.length)*(i.bytes+1)<=1099511627776])else none
         |none=>none
       |_=>none)
     |none=>none)else none
   |_,_=>none
 |_=>none
def zIV{P:Program}{L:aK}{d:Nat}{t:TypeId}{s x:AV}{r:Res}{ps:aY}(h:pAppend P L d t s x=some (r,ps))(hh:Holds ps):znh P L d t s x=some r:=by
 unfold pAppend at h;unfold znh
 cases hu:P.underlying t with
 |none=>simp[hu]at h
 |some td =>
   cases td with
   |slice e =>
     simp only[hu]at h ⊢
     cases hi:P.info? e with
     |none=>simp[hi]at h
     |some i =>
       cases hz:zeroB P e with
       |none=>simp[hi,hz]at h
       |some zero =>
         simp only[hi,hz]at h ⊢;split at h
         case isFalse=>cases h
         rename_i hc;rw[if_pos hc]
         cases hs:psrc L i.size x with
         |none=>simp[hs]at h
         |some q =>
           obtain⟨new,qs⟩:=q;simp only[hs]at h;split at h
           .simp only[zG]at h;obtain⟨rfl,rfl⟩:=h;rw[zdO]at hh;rw[zyL hs hh.1];simp only;rw[if_pos hh.2.1]
           . rename_i b z off n
             cases hl:L b with
             |none=>simp[hl]at h
             |some ent =>
               simp only[hl]at h ⊢;split at h
               case isFalse=>cases h
               rename_i hc2;simp only[zG]at h;obtain⟨rfl,rfl⟩:=h;rw[zdO]at hh;rw[zyL hs hh.1];simp only;rw[if_pos ⟨hc2.1,hc2.2.1,hc2.2.2.1,hc2.2.2.2.1,hc2.2.2.2.2.1,hc2.2.2.2.2.2.1,hc2.2.2.2.2.2.2,hh.2.1,hh.2.2.1⟩]
           .cases h
   |_=>simp[hu]at h
def pCopy(P:Program)(L:aK)(t:TypeId)(s x:AV):Option (Res×List Prop):=
 match P.underlying t with
 |some (.slice e)=>match szB P e,s with
   |some sz,.row b z off n=>match L b,psrc L sz x with
     |some ent,some (new,ps)=>if 0<sz/\z=sz/\ent.z=sz/\ent.box=false then
       some ({ val:=.v (.int .i64 (min new.length n:Nat)),set:=[(b,{ ent with es:=ent.es.take off++(new.take n)++ent.es.drop (off+min new.length n) })] },ps++[off+n<=ent.es.length])else none
     |_,_=>none
   |_,_=>none
 |_=>none
def zLx{P:Program}{L:aK}{t:TypeId}{s x:AV}{r:Res}{ps:aY}(h:pCopy P L t s x=some (r,ps))(hh:Holds ps):aCopy P L t s x=some r:=by
 unfold pCopy at h;unfold aCopy
 cases hu:P.underlying t with
 |none=>simp[hu]at h
 |some td =>
   cases td with
   |slice e =>
     simp only[hu]at h ⊢;split at h
     case h_2=>cases h
     rename_i sz b z off n hs;simp only[hs];split at h
     case h_2=>cases h
     rename_i ent new qs hl hsrc;split at h
     case isFalse=>cases h
     rename_i hc;simp only[zG]at h;obtain⟨rfl,rfl⟩:=h;rw[zdO]at hh;rw[hl,zyL hsrc hh.1];simp only;rw[if_pos ⟨hc.1,hc.2.1,hc.2.2.1,hc.2.2.2,hh.2.1⟩]
   |_=>simp[hu]at h
def pClear(P:Program)(L:aK)(t:TypeId)(s:AV):Option (Res×List Prop):=
 match P.underlying t with
 |some (.slice e)=>match szB P e,zeroB P e,s with
   |some sz,some zero,.row b z off n=>match L b with
     |some ent=>if 0<sz/\z=sz/\ent.z=sz/\ent.box=false/\zero.length=sz/\allL AV.one zero=true then
       some ({ val:=.tup [],set:=[(b,{ ent with es:=ent.es.take off++List.replicate n (nrmL P (zjS P 8 e) zero)++ent.es.drop (off+n) })] },[off+n<=ent.es.length])else none
     |none=>none
   |_,_,_=>none
 |_=>none
def zKo{P:Program}{L:aK}{t:TypeId}{s:AV}{r:Res}{ps:aY}(h:pClear P L t s=some (r,ps))(hh:Holds ps):aClear P L t s=some r:=by
 unfold pClear at h;unfold aClear
 cases hu:P.underlying t with
 |none=>simp[hu]at h
 |some td =>
   cases td with
   |slice e =>
     simp only[hu]at h ⊢;split at h
     case h_2=>cases h
     rename_i sz zero b z off n hs hz;simp only[hs,hz];split at h
     case h_2=>cases h
     rename_i ent hl;split at h
     case isFalse=>cases h
     rename_i hc;simp only[zG]at h;obtain⟨rfl,rfl⟩:=h;rw[hl];simp only;rw[if_pos ⟨hc.1,hc.2.1,hc.2.2.1,hc.2.2.2.1,hc.2.2.2.2.1,hc.2.2.2.2.2,hh.1⟩]
   |_=>simp[hu]at h
def strAt(s:ByteArray)(n:Int):Int:=(((s[n.toNat]?).getD 0).toNat:Int)
def zLI{P:Program}{o:Oper}{t:TypeId}{x ix:Operand}{E:aa}{s:ByteArray}{k:IntKind}{n:Int}(ho:o.op=.index t x ix)(hx:E x=.v (.string s))(hi:E ix=.v (.int k n))
  (hu:P.underlying t=some .string) (h0:0<=n) (h1:n<(s.size:Int)):aPure P o E=some { val:=.v (.int .u8 (strAt s n)) }:=by
 have h1':n.toNat<s.size:=by omega
 have hs:s[n.toNat]?=some s[n.toNat]:=by simp[h1']
 have hr:zdb P (execOp (λx=>((E x).toVal).getD undef) o)=some (.value (.int .u8 (strAt s n))):=by simp[execOp,ho,hx,hi,AV.toVal,Instr.index,asIntOf,underlying,h0,hs,strAt,bind,Sem.bind,Pure.pure];simp[program,zdb,Sem.bind,hu,hs]
 unfold aPure
 have ha:o.op.operands.toList.all (λx=>(E x).toVal.isSome)=true:=by simp[ho,Op.operands,hx,hi,AV.toVal]
 rw[if_pos ha,hr];rfl
def pStr(op:BinOp)(a b:ByteArray):Option (AV×List Prop):=
 match op with
 |.add=>some (.v (.string (a++b)),[a.size+b.size<=9223372036854775807])
 |.eql=>some (.v (.bool (a==b)),[])
 |.neq=>some (.v (.bool (!(a==b))),[])
 |_=>none
def toList_beq(a b:ByteArray):(a.toList==b.toList)=(a==b):=by rw[zek,beq_iff_eq];show a.toList=b.toList↔(a.data==b.data)=true;rw[beq_iff_eq,ByteArray.toList_eq,ByteArray.toList_eq];exact⟨λh=>Array.toList_inj.1 h,λh=>by rw[h]⟩
def pStr_sound{P:Program}{o:Oper}{op:BinOp}{t u:TypeId}{x y:Operand}{E:aa}{a b:ByteArray}(ho:o.op=.binOp op t x y u)(hx:E x=.v (.string a))(hy:E y=.v (.string b)){v:AV}{ps:aY}
  (h:pStr op a b=some (v,ps)) (hh:Holds ps):aPure P o E=some { val:=v }:=by
 have hops:o.op.operands.toList=[x,y]:=by rw[ho];rfl
 have hr:∃q,zdb P (execOp (λx=>((E x).toVal).getD undef) o)=some (.value q)/\v=.v q/\q.oneCell'=true/\∀vs,q≠.tuple vs:=by
  unfold pStr at h;cases op<;>simp only at h
  case add =>
   simp only[zG]at h;obtain⟨rfl,rfl⟩:=h;refine⟨_,?_,rfl,rfl,by simp⟩;have h1:¬(((a.size+b.size:Nat):Int) > IntKind.i64.max):=by have:=hh.1;show¬(_ > (9223372036854775807:Int));omega
   simp only[execOp,ho,hx,hy,AV.toVal,zci,eqGuard,binOp,Op.stringOp];rw[if_neg h1];rfl
  case eql|neq=>simp only[zG]at h;obtain⟨rfl,rfl⟩:=h;refine⟨_,?_,rfl,rfl,by simp⟩;simp only[execOp,ho,hx,hy,AV.toVal,zci,eqGuard,binOp,Op.stringOp,toList_beq];rfl
  all_goals cases h
 obtain⟨q,h1,rfl,h3,h4⟩:=hr;unfold aPure;rw[hops,if_pos (by simp[hx,hy,AV.toVal]),h1]
 have:ofVal q=some (.v q):=by
  unfold ofVal;split
  .exact absurd rfl (h4 _)
  .rw[if_pos h3]
 simp only[this]
def pPart(s:ByteArray)(lo hi:Option AV):Option (AV×List Prop):=
 match pNat 0 lo,pNat s.size hi with
 |some (l,ps),some (h,qs)=>some (.v (.string (s.extract l h)),ps++(qs++[l<=h,h<=s.size]))
 |_,_=>none
def zLz{P:Program}{o:Oper}{t:TypeId}{x:Operand}{lo hi:Option Operand}{E:aa}{s:ByteArray}(ho:o.op=.slice t x lo hi none)(hx:E x=.v (.string s))(hu:P.underlying t=some .string)
  {v:AV} {ps:aY} (h:pPart s (lo.map E) (hi.map E)=some (v,ps)) (hh:Holds ps):aPure P o E=some { val:=v }:=by
 unfold pPart at h;split at h
 case h_2=>cases h
 rename_i l p1 r p2 hl hr;simp only[zG]at h;obtain⟨rfl,rfl⟩:=h;rw[zdO,zdO]at hh;obtain⟨q1,q2,q3,q4,_⟩:=hh
 have hlo:lo=none/\l=0\/∃y k n,lo=some y/\E y=.v (.int k n)/\0<=n/\l=n.toNat:=by
  unfold pNat at hl;split at hl
  .rename_i hn;injection hl with hl;injection hl with hl;exact .inl ⟨by simpa using hn,hl.symm⟩
  .rename_i k n hn;injection hl with hl;injection hl with hl hp;subst hp;obtain⟨y,rfl,hy⟩:=zdH.1 hn;exact .inr ⟨y,k,n,rfl,hy,q1.1,hl.symm⟩
  .cases hl
 have hhi:hi=none/\r=s.size\/∃y k n,hi=some y/\E y=.v (.int k n)/\0<=n/\r=n.toNat:=by
  unfold pNat at hr;split at hr
  .rename_i hn;injection hr with hr;injection hr with hr;exact .inl ⟨by simpa using hn,hr.symm⟩
  .rename_i k n hn;injection hr with hr;injection hr with hr hp;subst hp;obtain⟨y,rfl,hy⟩:=zdH.1 hn;exact .inr ⟨y,k,n,rfl,hy,q2.1,hr.symm⟩
  .cases hr
 have hrun:zdb P (execOp (λx=>((E x).toVal).getD undef) o)=some (.value (.string (s.extract l r))):=by
  rcases hlo with⟨rfl,rfl⟩|⟨y,k,n,rfl,hy,hn,rfl⟩
  . rcases hhi with⟨rfl,rfl⟩|⟨y',k',n',rfl,hy',hn',rfl⟩
    .simp[execOp,ho,hx,AV.toVal,Instr.sliceAt,Instr.slice,Instr.sliceBounds,underlying,bind,Sem.bind,Pure.pure,program,zdb,hu]
    . have e1:n'<=(s.size:Int):=by omega
      simp[execOp,ho,hx,hy',AV.toVal,Instr.sliceAt,Instr.slice,Instr.sliceBounds,Instr.sliceBound,asIntOf,underlying,bind,Sem.bind,Pure.pure,program,zdb,hu,hn',e1]
  . rcases hhi with⟨rfl,rfl⟩|⟨y',k',n',rfl,hy',hn',rfl⟩
    . have e1:n<=(s.size:Int):=by omega
      simp[execOp,ho,hx,hy,AV.toVal,Instr.sliceAt,Instr.slice,Instr.sliceBounds,Instr.sliceBound,asIntOf,underlying,bind,Sem.bind,Pure.pure,program,zdb,hu,hn,e1]
    . have e1:n'<=(s.size:Int):=by omega
      have e2:n<=max n' 0:=by omega
      simp[execOp,ho,hx,hy,hy',AV.toVal,Instr.sliceAt,Instr.slice,Instr.sliceBounds,Instr.sliceBound,asIntOf,underlying,bind,Sem.bind,Pure.pure,program,zdb,hu,hn,hn',e1,e2]
 unfold aPure
 have ha:o.op.operands.toList.all (λx=>(E x).toVal.isSome)=true:=by rcases hlo with⟨rfl,_⟩|⟨y,k,n,rfl,hy,_⟩<;>rcases hhi with⟨rfl,_⟩|⟨y',k',n',rfl,hy',_⟩<;>simp_all[Op.operands,AV.toVal]
 rw[if_pos ha,hrun];rfl
section
variable[Dr]
def pown1(s z:Nat)(e:TypeId)(st:St):Option (St×List Prop):=
 if s<1000/\0<z then
  match get st.t s with
  |.v (.slice none 0 0) =>
    let st':=del s st
    some ({ t:=(s,.row s z 0 0)::st'.t,m:=(s,{ z,e,es:=[],box:=false })::st'.m },[])
  |.row b z' off n=>if b=s then some (st,[])else match look st.m b with
    |some ent=>if b<1000/\off=0/\ent.box=false/\z'=ent.z then
      let st':=del b (del s st)
      some ({ t:=(s,.row s z' 0 n)::st'.t,m:=(s,ent)::st'.m },[n=ent.es.length])
      else none
    |none=>none
  |.map b=>some (if b=s then st else if b<1000 then renS b s (del s st)else st,[])
  |_=>some (st,[])
 else none
def zLD{s z:Nat}{e:TypeId}{st st':St}{ps:aY}(h:pown1 s z e st=some (st',ps))(hh:Holds ps):own1 s z e st=st':=by
 unfold pown1 at h;unfold own1;split at h
 case isFalse=>cases h
 rename_i hs;rw[if_pos hs];split at h
 .simp_all
 . rename_i b z' off n hv;rw[hv];simp only;split at h
   .simp_all
   . rename_i hb;rw[if_neg hb]
     cases hl:look st.m b with
     |none=>simp[hl]at h
     |some ent =>
       simp only[hl]at h ⊢;split at h
       case isFalse=>cases h
       rename_i hc;simp only[zG]at h;obtain⟨rfl,rfl⟩:=h;rw[if_pos ⟨hc.1,hc.2.1,hh.1,hc.2.2.1,hc.2.2.2⟩]
 .simp_all
 . rename_i h1 h2 h3;injection h with h;injection h with h;subst h;split
   .rename_i hv;exact absurd hv h1
   .rename_i b z' off n hv;exact absurd hv (h2 b z' off n)
   .rename_i b hv;exact absurd hv (h3 b)
   .rfl
def zsF:List (Nat×Nat×TypeId)->St->Option (St×List Prop)
 |[],st=>some (st,[])
 |(s,z,e)::r,st=>match pown1 s z e st with
   |none=>none
   |some (st',ps)=>match zsF r st' with
     |none=>none
     |some (st'',qs)=>some (st'',ps++qs)
def ztW:∀(l:List (Nat×Nat×TypeId)) (st st':St) (ps:aY),zsF l st=some (st',ps)->Holds ps->ownAll l st=st'
 |[],st,st',ps,h,_=>by simp[zsF]at h;exact h.1
 |(s,z,e)::r,st,st',ps,h,hh=>by
   simp only[zsF]at h
   cases h1:pown1 s z e st with
   |none=>simp[h1]at h
   |some q =>
     obtain⟨st1,p1⟩:=q;simp only[h1]at h
     cases h2:zsF r st1 with
     |none=>simp[h2]at h
     |some q=>obtain⟨st2,p2⟩:=q;simp only[zG,h2]at h;obtain⟨rfl,rfl⟩:=h;rw[zdO]at hh;simp only[ownAll];rw[zLD h1 hh.1];exact ztW r st1 st2 p2 h2 hh.2
def pfr1(bs:aO)(L:aK):Nat->AV->Option (AV×List Prop)
 |0,_=>some (.bot,[])
 |k+1,a=>match a with
   |.loc c z i o=>if bs.contains c then(if((AV.loc c z i o).ids L 5).all bs.contains then psnap L 5 (.loc c z i o)else some (.bot,[]))else some (.loc c z i o,[])
   |.row c z o n=>if bs.contains c then psnap L 5 (.row c z o n)else some (.row c z o n,[])
   |.agg cs=>match mapO (pfr1 bs L k) cs with
     |some l=>some (.agg (l.map (·.1)),l.flatMap (·.2))
     |none=>none
   |.tup cs=>match mapO (pfr1 bs L k) cs with
     |some l=>some (.tup (l.map (·.1)),l.flatMap (·.2))
     |none=>none
   |.fn f cs=>match mapO (pfr1 bs L k) cs with
     |some l=>some (.fn f (l.map (·.1)),l.flatMap (·.2))
     |none=>none
   |.v x=>some (.v x,[])
   |.sl z es=>some (.sl z es,[])
   |.fp cs=>some (.fp cs,[])
   |.map c=>if bs.contains c then psnap L 5 (.map c)else some (.map c,[])
   |.mp es=>some (.mp es,[])
   |.fa z es=>some (.fa z es,[])
   |_=>some (.bot,[])
def mapO_map{α β γ:Type}{g:α->Option γ}{f:α->β}{t:γ->β}:∀{l:List α} {r:List γ},mapO g l=some r->(∀a c,c∈r->g a=some c->f a=t c)->l.map f=r.map t
 |[],r,h,_=>by simp[mapO]at h;subst h;rfl
 |a::l,r,h,hf=>by
   simp only[mapO]at h
   cases hg:g a with
   |none=>simp[hg]at h
   |some c =>
     simp only[hg]at h
     cases hm:mapO g l with
     |none=>simp[hm]at h
     |some l'=>simp only[hm,zaf]at h;subst h;rw[zbx,zbx,hf a c (by simp) hg,mapO_map hm (λa' c' hc=>hf a' c' (by simp[hc]))]
def zFf{bs:aO}{L:aK}:∀(k:Nat) (a a':AV) (ps:aY),pfr1 bs L k a=some (a',ps)->Holds ps->zeQ bs L k a=a':=by
 intro k
 induction k with
 |zero=>intro a a' ps h _;simp only[zG,pfr1]at h;exact h.1
 |succ k ih =>
   intro a a' ps h hh
   have lists:∀(cs:aN) (l:List (AV×List Prop)),mapO (pfr1 bs L k) cs=some l->Holds (l.flatMap (·.2))->cs.map (zeQ bs L k)=l.map (·.1):=λcs l hm hl=>mapO_map hm (λa c hc hg=>ih a c.1 c.2 hg (zE3 hl c hc))
   cases a with
   |loc c z i o =>
     simp only[pfr1]at h;simp only[zeQ];split at h
     . rename_i hc;rw[if_pos hc];split at h
       .rename_i hi;rw[if_pos hi,zjQ 5 _ _ _ h hh];rfl
       grind
     simp_all
   |row c z o n =>
     simp only[pfr1]at h;simp only[zeQ];split at h
     .rename_i hc;rw[if_pos hc,zjQ 5 _ _ _ h hh];rfl
     simp_all
   |agg cs =>
     simp only[pfr1]at h;split at h
     .rename_i l hm;simp only[zG]at h;obtain⟨rfl,rfl⟩:=h;simp only[zeQ];rw[lists cs l hm hh]
     .cases h
   |tup cs =>
     simp only[pfr1]at h;split at h
     .rename_i l hm;simp only[zG]at h;obtain⟨rfl,rfl⟩:=h;simp only[zeQ];rw[lists cs l hm hh]
     .cases h
   |fn f cs =>
     simp only[pfr1]at h;split at h
     .rename_i l hm;simp only[zG]at h;obtain⟨rfl,rfl⟩:=h;simp only[zeQ];rw[lists cs l hm hh]
     .cases h
   |map c =>
     simp only[pfr1]at h;simp only[zeQ];split at h
     .rename_i hc;rw[if_pos hc,zjQ 5 _ _ _ h hh];rfl
     simp_all
   |_=>simp only[zG,pfr1]at h;exact h.1
def pfrT(bs:aO)(L:aK):Tab->Option (Tab×List Prop)
 |[]=>some ([],[])
 |(j,a)::r=>match pfr1 bs L 4 a,pfrT bs L r with
   |some (a',ps),some (r',qs)=>some ((j,a')::r',ps++qs)
   |_,_=>none
def zFg{bs:aO}{L:aK}:∀(t t':Tab) (ps:aY),pfrT bs L t=some (t',ps)->Holds ps->zqP bs L t=t'
 |[],t',ps,h,_=>by simp only[zG,pfrT]at h;exact h.1
 |(j,a)::r,t',ps,h,hh=>by
   simp only[pfrT]at h;split at h
   .rename_i a' p1 r' p2 h1 h2;simp only[zG]at h;obtain⟨rfl,rfl⟩:=h;rw[zdO]at hh;simp only[zqP];rw[zFf 4 a a' p1 h1 hh.1,zFg r r' p2 h2 hh.2]
   .cases h
def pfrCs(bs:aO)(L:aK):List AV->Option (List AV×List Prop)
 |[]=>some ([],[])
 |a::r=>match pfr1 bs L 4 a,pfrCs bs L r with
   |some (a',ps),some (r',qs)=>some (a'::r',ps++qs)
   |_,_=>none
def zCO{bs:aO}{L:aK}:∀(t t':aN) (ps:aY),pfrCs bs L t=some (t',ps)->Holds ps->t.map (zeQ bs L 4)=t'
 |[],t',ps,h,_=>by simp only[zG,pfrCs]at h;exact h.1
 |a::r,t',ps,h,hh=>by
   simp only[pfrCs]at h;split at h
   .rename_i a' p1 r' p2 h1 h2;simp only[zG]at h;obtain⟨rfl,rfl⟩:=h;rw[zdO]at hh;rw[zbx,zFf 4 a a' p1 h1 hh.1,zCO r r' p2 h2 hh.2]
   .cases h
def pfrE(bs:aO)(L:aK)(e:Ent):Option (Ent×List Prop):=
 match e with
 |⟨z,t,es,b⟩=>match b with
   |true=>(match es with
     |[cs]=>(match pfrCs bs L cs with
       |some (cs',ps)=>some (⟨z,t,[cs'],true⟩,ps)
       |none=>none)
     |_=>none)
   |false=>some (⟨z,t,es,false⟩,[])
def pfrE_sound{bs:aO}{L:aK}{e e':Ent}{ps:aY}(h:pfrE bs L e=some (e',ps))(hh:Holds ps):(if e.box then{ e with es:=e.es.map λcs=>cs.map (zeQ bs L 4) }else e)=e':=by
 obtain⟨z,t,es,b⟩:=e
 cases b with
 |true =>
   simp only[pfrE]at h;split at h
   . rename_i cs;split at h
     .rename_i cs' p1 h1;simp only[zG]at h;obtain⟨rfl,rfl⟩:=h;simp only[if_true,zbx,zeN];rw[zCO cs cs' _ h1 hh]
     .cases h
   .cases h
 |false =>
   simp only[zG,pfrE]at h
   simp_all
def pfrM(bs:aO)(L:aK):Mem->Option (Mem×List Prop)
 |[]=>some ([],[])
 |(j,e)::r=>if bs.contains j then pfrM bs L r else match pfrE bs L e,pfrM bs L r with
   |some (e',ps),some (r',qs)=>some ((j,e')::r',ps++qs)
   |_,_=>none
def zyK{bs:aO}{L:aK}:∀(m m':Mem) (ps:aY),pfrM bs L m=some (m',ps)->Holds ps->znl bs L m=m'
 |[],m',ps,h,_=>by simp only[zG,pfrM]at h;exact h.1
 |(j,e)::r,m',ps,h,hh=>by
   simp only[pfrM]at h;simp only[znl];split at h
   .rename_i hc;rw[if_pos hc];exact zyK r m' ps h hh
   . rename_i hc;rw[if_neg hc];split at h
     .rename_i e' p1 r' p2 h1 h2;simp only[zG]at h;obtain⟨rfl,rfl⟩:=h;rw[zdO]at hh;rw[pfrE_sound h1 hh.1,zyK r r' p2 h2 hh.2]
     .cases h
def zrz(bs:aO)(st:St):Option (St×List Prop):=
 match bs with
 |[]=>some (st,[])
 |bs=>match pfrT bs (look st.m) st.t,pfrM bs (look st.m) st.m with
   |some (t,ps),some (m,qs)=>some (⟨t,m⟩,ps++qs)
   |_,_=>none
def zvA{bs:aO}{st st':St}{ps:aY}(h:zrz bs st=some (st',ps))(hh:Holds ps):zd8 bs st=st':=by
 cases bs with
 |nil=>simp only[zG,zrz]at h;exact h.1
 |cons b bs =>
   simp only[zrz]at h;split at h
   .rename_i t p1 m p2 h1 h2;simp only[zG]at h;obtain⟨rfl,rfl⟩:=h;rw[zdO]at hh;simp only[zd8];rw[zFg _ _ _ h1 hh.1,zyK _ _ _ h2 hh.2]
   .cases h
def zvB(l:aO)(st:St):Option (St×List Prop):=
 match l with
 |[]=>some (st,[])
 |l=>if(fzIds l st).all (λb=>decide (b<1000)&&(look st.m b).isSome)=true then zrz (fzIds l st) st else none
def zsE{l:aO}{st st':St}{ps:aY}(h:zvB l st=some (st',ps))(hh:Holds ps):znm l st=st':=by
 unfold zvB at h;unfold znm;split at h
 .simp_all
 . split at h
   .rename_i hc;simp only;rw[if_pos hc];exact zvA h hh
   .cases h
def ptidy(A:Ann)(id:Nat)(st:St):Option (St×List Prop):=
 match zvB (A.fz id) st with
 |none=>none
 |some (st,p0)=>match zsF (A.own id) st with
  |none=>none
  |some (st,ps)=>match zsm (A.cel id) st with
   |st=>match A.live id with
    |some l=>match delAll (deadIds { st with t:=zlj l st.t }) { st with t:=zlj l st.t }with
      |⟨t,m⟩=>some (⟨t,sortM m⟩,p0++ps)
    |none=>some (st,p0++ps)
def zCP{A:Ann}{id:Nat}{st st':St}{ps:aY}(h:ptidy A id st=some (st',ps))(hh:Holds ps):tidy A id st=st':=by
 unfold ptidy at h
 cases h0:zvB (A.fz id) st with
 |none=>simp[h0]at h
 |some q0 =>
   obtain⟨st0,p0⟩:=q0;simp only[h0]at h
   cases h1:zsF (A.own id) st0 with
   |none=>simp[h1]at h
   |some q =>
     obtain⟨st1,p1⟩:=q;simp only[h1]at h;unfold tidy;split at h
     .rename_i l hl;simp only[zG]at h;obtain⟨rfl,rfl⟩:=h;rw[zdO]at hh;simp only;rw[zsE h0 hh.1,ztW _ _ _ _ h1 hh.2,hl]
     .rename_i hl;simp only[zG]at h;obtain⟨rfl,rfl⟩:=h;rw[zdO]at hh;simp only;rw[zsE h0 hh.1,ztW _ _ _ _ h1 hh.2,hl]
inductive It where
 |code (c:Code)
 |inBlock (id:Nat)
 |inLoop (c:Code)
structure Fr where
 P:Program
 C:Cfg
 F:AnnF
 f:FuncId
 fn:Func
 ms:Mem
def Fr.ev(R:Fr)(c:Code)(st:St):Option (Ex×St):=aeval R.P R.C (R.F R.f) R.fn.ntmps (callw R.P R.C R.F) itw c st
def run(R:Fr):List It->Ex->St->Option (AV×Mem)
 |[],e,st=>zqT R.P (R.F R.f).frz R.fn R.ms (some (e,st))
 |.code c::k,.normal,st=>match R.ev c st with
   |some (e,st')=>run R k e st'
   |none=>none
 |.inLoop c::k,.normal,st=>match itw (R.ev c) st with
   |some (e,st')=>run R k e st'
   |none=>none
 |.inBlock id::k,.exit j,st=>if j=id then run R k .normal st else run R k (.exit j) st
 |.inBlock _::k,.normal,st=>run R k .normal st
 |_::k,e,st=>run R k e st
def zxX(R:Fr):∀(k:List It) (st:St),run R k .ret st=zqT R.P (R.F R.f).frz R.fn R.ms (some (.ret,st))
 |[],_=>rfl
 |.code _::k,st=>zxX R k st
 |.inLoop _::k,st=>zxX R k st
 |.inBlock _::k,st=>zxX R k st
def dropTo(id:Nat):List It->Option (List It)
 |[]=>none
 |.inBlock j::k=>if id=j then some k else dropTo id k
 |_::k=>dropTo id k
def zyN(R:Fr)(id:Nat):∀(k k':List It) (st:St),dropTo id k=some k'->run R k (.exit id) st=run R k' .normal st
 |[],k',st,h=>by simp[dropTo]at h
 |.code c::k,k',st,h=>zyN R id k k' st h
 |.inLoop c::k,k',st,h=>zyN R id k k' st h
 |.inBlock j::k,k',st,h=>by
   simp only[dropTo]at h;simp only[run];split at h
   .simp_all
   .rename_i hj;rw[if_neg hj];exact zyN R id k k' st h
def pout(frz:Bool)(m:Mem)(a:AV):Option (AV×List Prop):=
 let L:Nat->Option Ent:=λb=>if b<1000 then look m b else none
 match a with
 |.row b z off n=>if 1000<=b then(if frz=false/\(look m b).isSome=true then some (.row b z off n,[])else none)else match L b with
   |some ent=>if frz=false/\ent.z=z/\off=0/\ent.box=false/\0<z then some (.new z ent.e ent.es,[n=ent.es.length])else if frz=true then psnap L 5 (.row b z off n)else none
   |none=>none
 |.loc b z i o=>match outOf frz m (.loc b z i o)with
   |some r=>some (r,[])
   |none=>none
 |.map b=>match outOf frz m (.map b)with
   |some r=>some (r,[])
   |none=>none
 |a=>psnap L 5 a
def zuP{frz:Bool}{m:Mem}{a r:AV}{ps:aY}(h:pout frz m a=some (r,ps))(hh:Holds ps):outOf frz m a=some r:=by
 unfold pout at h;simp only at h
 cases a with
 |row b z off n =>
   simp only at h;simp only[outOf];split at h
   .simp_all
   rename_i hge;rw[if_neg hge];split at h
   case h_2=>cases h
   rename_i ent hl;split at h
   .rename_i hc;simp only[zG]at h;obtain⟨rfl,rfl⟩:=h;rw[hl];simp only;rw[if_pos ⟨hc.1,hc.2.1,hc.2.2.1,hh.1,hc.2.2.2.1,hc.2.2.2.2⟩]
   . split at h
     .rename_i hf;rw[hl];simp only;rw[if_neg (by rw[hf];simp)];exact zjQ 5 _ _ _ h hh
     .cases h
 |loc b z i o=>grind
 |map b=>grind
 |_=>exact zjQ 5 _ _ _ h hh
def pout1(P:Program)(frz:Bool)(t:TypeId)(m:Mem)(a:AV):Option (AV×List Prop):=
 match a,frz with
 |.v (.slice none 0 0),false=>(match P.underlying t with
   |some (.slice e)=>(match szB P e with
     |some z=>if 0<z then some (.new z e [],[])else none
     |none=>none)
   |_=>none)
 |a,frz=>pout frz m (nrm P t a)
def zLB{P:Program}{frz:Bool}{t:TypeId}{m:Mem}{a r:AV}{ps:aY}(h:pout1 P frz t m a=some (r,ps))(hh:Holds ps):out1 P frz t m a=some r:=by
 unfold pout1 at h;unfold out1;split at h
 .grind
 . rename_i hne;split
   .simp_all
   .exact zuP h hh
def poutN(P:Program)(t:TypeId)(m:Mem)(a b:AV):Option (AV×List Prop):=
 match a,b with
 |.v (.slice none 0 0),.v c=>(match P.underlying t with
   |some (.slice e)=>(match szB P e with
     |some z=>if 0<z then some (.tup [.new z e [],.v c],[])else none
     |none=>none)
   |_=>none)
 |.row b z 0 n,.v c=>if b<1000 then(match look m b with
   |some ent=>if ent.z=z/\ent.box=false/\0<z then some (.tup [.new z ent.e ent.es,.v c],[n=ent.es.length])else none
   |none=>none)else none
 |_,_=>none
def zLC{P:Program}{t:TypeId}{m:Mem}{a b r:AV}{ps:aY}(h:poutN P t m a b=some (r,ps))(hh:Holds ps):outN P t m a b=some r:=by
 unfold poutN at h;unfold outN;split at h
 . split at h
   case h_2=>cases h
   rename_i e hu;split at h
   case h_2=>cases h
   rename_i z hz;split at h
   case isFalse=>cases h
   rename_i hzp;simp only[zG]at h;obtain⟨rfl,rfl⟩:=h;simp only[hu,hz];rw[if_pos hzp]
 . split at h
   case isFalse=>cases h
   rename_i hb;split at h
   case h_2=>cases h
   rename_i ent hl;split at h
   case isFalse=>cases h
   rename_i hc;simp only[zG]at h;obtain⟨rfl,rfl⟩:=h;simp only[hl];rw[if_pos hb,if_pos ⟨hc.1,hh.1,hc.2.1,hc.2.2⟩]
 .cases h
def presult(P:Program)(frz:Bool)(fn:Func)(st:St):Option (AV×List Prop):=
 match mapO (resVar P st) fn.results.toList with
 |some [a]=>pout1 P frz (fn.resultTypes.getD 0 0) st.m a
 |some [a,b]=>if frz=true then poutN P (fn.resultTypes.getD 0 0) st.m a b else pout frz st.m (.tup (nrmA P fn.resultTypes.toList [a,b]))
 |some l=>pout frz st.m (.tup (nrmA P fn.resultTypes.toList l))
 |none=>none
def zIW{P:Program}{frz:Bool}{fn:Func}{st:St}{r:AV}{ps:aY}(h:presult P frz fn st=some (r,ps))(hh:Holds ps):zoI P frz fn st=some r:=by
 unfold presult at h;unfold zoI
 cases hl:mapO (resVar P st) fn.results.toList with
 |none=>simp[hl]at h
 |some l =>
   simp only[hl]at h
   cases l with
   |nil=>exact zuP h hh
   |cons a l=>cases l with
     |nil=>exact zLB h hh
     |cons b l=>cases l with
       |nil =>
         simp only at h ⊢;split at h
         .rename_i hf;rw[if_pos hf];exact zLC h hh
         .rename_i hf;rw[if_neg hf];exact zuP h hh
       |cons c l=>exact zuP h hh
def finP(back:ah)(bk:ac)(fz:aO)(r:AV)(d:aZ):Option (Res×List Prop):=
 match r,d with
 |.tup [.new z e es,.v c],some d=>some ({ val:=.tup [.row d z 0 es.length,.v c],set:=(d,{ z,e,es,box:=false })::back,frz:=fz },[flatR es=true])
 |r,d=>match zqO back bk fz r d with
   |some res=>some (res,[])
   |none=>none
def finP_sound{back:ah}{bk:ac}{fz:aO}{r:AV}{d:aZ}{res:Res}{ps:aY}(h:finP back bk fz r d=some (res,ps))(hh:Holds ps):zqO back bk fz r d=some res:=by
 unfold finP at h;split at h
 .simp only[zG]at h;obtain⟨rfl,rfl⟩:=h;simp only[zqO];rw[if_pos hh.1]
 . split at h
   .rename_i r' hr;simp only[zG]at h;obtain⟨rfl,rfl⟩:=h;exact hr
   .cases h
abbrev I(n:Int):AV:=.v (.int .i64 n)
abbrev B(b:Bool):AV:=.v (.bool b)
def liveAt:List (Nat×List Nat)->Nat->Option (List Nat)
 |[],_=>none
 |(j,l)::r,id=>if id=j then some l else liveAt r id
def atReg{α:Type}:List (Nat×List α)->Nat->List α
 |[],_=>[]
 |(j,l)::r,id=>if id=j then l else atReg r id
def heads:Code->List It->List (List It)
 |.seq a b,k=>heads a (.code b::k)++heads b k
 |.cond _ x y,k=>heads x k++heads y k
 |.block id c,k=>heads c (.inBlock id::k)
 |.loop c,k=>(.inLoop c::k)::heads c (.inLoop c::k)
 |_,_=>[]
def ptK(fn:Func)(j:Nat):List It:=
 match fn.body,j with
 |some c,0=>[.code c]
 |some c,j+1=>((heads c [])[j]?).getD []
 |none,_=>[]
end
section
variable[Dr]
structure TyD where
 α:Type
 enc:α->List AV
 dec:List AV->Option α
 ok:∀c x,dec c=some x->c=enc x
 de:∀x,dec (enc x)=some x
structure RD where
 α:Type
 enc:α->AV×Mem
 dec:AV×Mem->Option α
 ok:∀c x,dec c=some x->c=enc x
 de:∀x,dec (enc x)=some x
structure Dic where
 ty:TypeId->TyD
 res:FuncId->RD
section
variable{β:Type}
def brn(b:Bool)(t e:Option β):Option β:=if b=true then t else e
def zva{b:Bool}{t e:Option β}{y:β}(h:brn b t e=some y):(b=true/\t=some y)\/(b=false/\e=some y):=by
 cases b with
 |true=>exact .inl ⟨rfl,h⟩
 |false=>exact .inr ⟨rfl,h⟩
@[simp] theorem zaM(t e:Option β):brn true t e=t:=rfl
@[simp] theorem zaB(t e:Option β):brn false t e=e:=rfl
def zhI(p:Prop)[Decidable p](t e:Option β):brn (decide p) t e=if p then t else e:=by
 unfold brn
 simp_all
def chk(p:Prop)(x:Option β):Option β:=@ite _ p (Classical.propDecidable p) x none
def chkL:List Prop->Option β->Option β
 |[],x=>x
 |p::r,x=>chk p (chkL r x)
def elemD(D:TyD)(es:aS)(i:Nat)(k:D.α->Option β):Option β:=
 match es[i]? with
 |some c=>match D.dec c with
   |some x=>k x
   |none=>none
 |none=>none
def elemP(D:TyD)(es:aS)(i:Nat)(kn:Option β)(kr:Addr->Option β)(kd:D.α->Option β):Option β:=
 match es[i]? with
 |some [.v (.pointer none)]=>kn
 |some [.v (.pointer (some a))]=>kr a
 |some [.fp cs]=>match D.dec cs with
   |some x=>kd x
   |none=>none
 |_=>none
def callD(D:RD)(c:ai)(k:D.α->Option β):Option β:=
 match c with
 |some r=>match D.dec r with
   |some x=>k x
   |none=>none
 |none=>none
def zhv{p:Prop}{x:Option β}{y:β}(h:chk p x=some y):p/\x=some y:=by
 unfold chk at h
 simp_all
@[simp] def zbg(x:Option β):chk True x=x:=by unfold chk;rw[if_pos trivial]
theorem zam{p:Prop}(h:p)(x:Option β):chk p x=x:=by unfold chk;rw[if_pos h]
def zgC:∀{ps:aY} {x:Option β} {y:β},chkL ps x=some y->Holds ps/\x=some y
 |[],x,y,h=>⟨trivial,h⟩
 |p::r,x,y,h=>by obtain⟨h1,h2⟩:=zhv h;obtain⟨h3,h4⟩:=zgC h2;exact⟨⟨h1,h3⟩,h4⟩
def zq8{D:TyD}{es:aS}{i:Nat}{k:D.α->Option β}{y:β}(h:elemD D es i k=some y):∃x,es[i]?=some (D.enc x)/\k x=some y:=by
 unfold elemD at h;split at h
 . rename_i c hc;split at h
   .rename_i x hx;exact⟨x,by rw[hc,D.ok c x hx],h⟩
   .cases h
 .cases h
def elemP_some{D:TyD}{es:aS}{i:Nat}{kn:Option β}{kr:Addr->Option β}{kd:D.α->Option β}{y:β}(h:elemP D es i kn kr kd=some y):(es[i]?=some [.v (.pointer none)]/\kn=some y)\/(∃a,es[i]?=some [.v (.pointer (some a))]/\kr a=some y)\/∃x,es[i]?=some [.fp (D.enc x)]/\kd x=some y:=by
 unfold elemP at h;split at h
 .simp_all
 .simp_all
 . rename_i cs hc;split at h
   .rename_i x hx;exact .inr (.inr ⟨x,by rw[hc,D.ok _ _ hx],h⟩)
   .cases h
 .cases h
def elemD_at{D:TyD}{es:aS}{i:Nat}{x:D.α}(h:es[i]?=some (D.enc x))(k:D.α->Option β):elemD D es i k=k x:=by unfold elemD;rw[h];simp only[D.de]
def zGk{D:TyD}{l:List D.α}{i:Nat}{x:D.α}(h:l[i]?=some x)(k:D.α->Option β):elemD D (l.map D.enc) i k=k x:=
 elemD_at (by simp_all) k
def zEC{D:RD}{c:ai}{k:D.α->Option β}{y:β}(h:callD D c k=some y):∃x,c=some (D.enc x)/\k x=some y:=by
 unfold callD at h;split at h
 . rename_i r;split at h
   .rename_i x hx;exact⟨x,by rw[D.ok r x hx],h⟩
   .cases h
 .cases h
@[simp] def zbt{D:RD}{x:D.α}(k:D.α->Option β):callD D (some (D.enc x)) k=k x:=by unfold callD;simp only[D.de]
def avEnc(agg:Bool)(D:TyD)(x:D.α):AV:=if agg=true then .agg (D.enc x)else(D.enc x).headD .bot
def avDec(agg:Bool)(D:TyD)(a:AV):Option D.α:=
 if agg=true then(match a with
  |.agg cs=>D.dec cs
  |_=>none)
 else D.dec [a]
def avDec_ok{agg:Bool}{D:TyD}{a:AV}{x:D.α}(h:avDec agg D a=some x):a=avEnc agg D x:=by
 unfold avDec at h;unfold avEnc
 cases agg with
 |true =>
   simp only[if_true]at h ⊢;split at h
   .rw[D.ok _ _ h]
   .cases h
 |false=>simp only[zK]at h ⊢;rw[<-D.ok _ _ h];rfl
def mapD(P:Program)(kt:TypeId)(agg:Bool)(D:TyD)(z:AV)(es:aS)(key:AV)(k:D.α->Bool->Option β):Option β:=
 match mlook P kt key es with
 |some (some a)=>match avDec agg D a with
   |some x=>k x true
   |none=>none
 |some none=>match avDec agg D z with
   |some x=>k x false
   |none=>none
 |none=>none
def mapD_some{P:Program}{kt:TypeId}{agg:Bool}{D:TyD}{z:AV}{es:aS}{key:AV}{k:D.α->Bool->Option β}{y:β}(h:mapD P kt agg D z es key k=some y):(∃a x,mlook P kt key es=some (some a)/\a=avEnc agg D x/\k x true=some y)\/(∃x,mlook P kt key es=some none/\z=avEnc agg D x/\k x false=some y):=by
 unfold mapD at h;split at h
 . rename_i a hm;split at h
   .rename_i x hx;exact .inl ⟨a,x,hm,avDec_ok hx,h⟩
   .cases h
 . rename_i hm;split at h
   .rename_i x hx;exact .inr ⟨x,hm,avDec_ok hx,h⟩
   .cases h
 .cases h
def msetD(P:Program)(kt _et:TypeId)(key v:AV)(es:aS)(k:List (List AV)->Option β):Option β:=
 match mset P kt key v es with
 |some es'=>k es'
 |none=>none
def msetD_some{P:Program}{kt et:TypeId}{key v:AV}{es:aS}{k:List (List AV)->Option β}{y:β}(h:msetD P kt et key v es k=some y):∃es',mset P kt key v es=some es'/\k es'=some y:=by
 unfold msetD at h
 grind
def mdelD(P:Program)(kt:TypeId)(key:AV)(es:aS)(k:List (List AV)->Option β):Option β:=
 match mdel P kt key es with
 |some es'=>k es'
 |none=>none
def mdelD_some{P:Program}{kt:TypeId}{key:AV}{es:aS}{k:List (List AV)->Option β}{y:β}(h:mdelD P kt key es k=some y):∃es',mdel P kt key es=some es'/\k es'=some y:=by
 unfold mdelD at h
 grind
def force1(a:AV)(k:AV->Option β):Option β:=
 match a with
 |.bot=>k .bot
 |.v (.int t n)=>k (.v (.int t n))
 |.v (.bool b)=>k (.v (.bool b))
 |.v x=>k (.v x)
 |.sl z es=>k (.sl z es)
 |.agg cs=>k (.agg cs)
 |.tup cs=>k (.tup cs)
 |.fp cs=>k (.fp cs)
 |.loc b z i o=>k (.loc b z i o)
 |.row b z i o=>k (.row b z i o)
 |.fn f cs=>k (.fn f cs)
 |.new z e es=>k (.new z e es)
 |.newp z e cs=>k (.newp z e cs)
 |.map b=>k (.map b)
 |.mp es=>k (.mp es)
 |.newm e es=>k (.newm e es)
 |.fa z es=>k (.fa z es)
def zGm(a:AV)(k:AV->Option β):force1 a k=k a:=by unfold force1;split<;>rfl
def forceL:List AV->(List AV->Option β)->Option β
 |[],k=>k []
 |a::r,k=>force1 a λa=>forceL r λr=>k (a::r)
def zAU:∀(l:aN) (k:List AV->Option β),forceL l k=k l
 |[],_=>rfl
 |a::r,k=>by simp only[forceL,zGm,zAU r]
def force2(a:AV)(k:AV->Option β):Option β:=
 match a with
 |.agg cs=>forceL cs λcs=>k (.agg cs)
 |.fp cs=>forceL cs λcs=>k (.fp cs)
 |a=>force1 a k
def zGn(a:AV)(k:AV->Option β):force2 a k=k a:=by unfold force2;split<;>simp only[zAU,zGm]
def forceT:List AV->(List AV->Option β)->Option β
 |[],k=>k []
 |a::r,k=>force2 a λa=>forceT r λr=>k (a::r)
def zGo:∀(l:aN) (k:List AV->Option β),forceT l k=k l
 |[],_=>rfl
 |a::r,k=>by simp only[forceT,zGn,zGo r]
def force3(a:AV)(k:AV->Option β):Option β:=
 match a with
 |.tup cs=>forceT cs λcs=>k (.tup cs)
 |a=>force2 a k
def force3_eq(a:AV)(k:AV->Option β):force3 a k=k a:=by unfold force3;split<;>simp only[zGo,zGn]
def zyD:Tab->(Tab->Option β)->Option β
 |[],k=>k []
 |(j,a)::r,k=>force3 a λa=>zyD r λr=>k ((j,a)::r)
def zCC:∀(l:Tab) (k:Tab->Option β),zyD l k=k l
 |[],_=>rfl
 |(j,a)::r,k=>by simp only[zyD,force3_eq,zCC r]
def zDK(e:Ent)(k:Ent->Option β):Option β:=
 match e with
 |⟨z,e,es,true⟩=>(match es with
   |[cs]=>forceL cs λcs=>k ⟨z,e,[cs],true⟩
   |es=>k ⟨z,e,es,true⟩)
 |⟨z,e,es,false⟩=>k ⟨z,e,es,false⟩
def zLp(e:Ent)(k:Ent->Option β):zDK e k=k e:=by
 unfold zDK;split
 .split<;>simp only[zAU]
 .rfl
def zyC:Mem->(Mem->Option β)->Option β
 |[],k=>k []
 |(j,e)::r,k=>zDK e λe=>zyC r λr=>k ((j,e)::r)
def zCB:∀(l:Mem) (k:Mem->Option β),zyC l k=k l
 |[],_=>rfl
 |(j,e)::r,k=>by simp only[zyC,zLp,zCB r]
def force(st:St)(k:St->Option β):Option β:=zyD st.t λt=>zyC st.m λm=>k ⟨t,m⟩
def zvs(st:St)(k:St->Option β):force st k=k st:=by unfold force;rw[zCC,zCB]
def setB(d:Nat)(x:Bool):Tab->Tab
 |[]=>[]
 |(j,a)::r=>if d=j then(j,.v (.bool x))::r else(j,a)::setB d x r
def zwq{d:Nat}{x:Bool}:∀{t:Tab},get t d=.v (.bool x)->setB d x t=t
 |[],h=>by simp[get]at h
 |(j,a)::r,h=>by
   simp only[get]at h;simp only[setB];split
   .simp_all
   .rename_i hj;rw[if_neg hj]at h;rw[zwq h]
def tWant(ops:aT)(o:Oper)(t:Tab)(k:Bool->Tab->Option β):Option β:=
 match o.guard with
 |none=>k true t
 |some (j,want)=>match(ops[j]?).bind (·.dst)with
   |some d=>match get t d with
     |.v (.bool b)=>brn b (k (true==want) (setB d true t)) (k (false==want) (setB d false t))
     |.v (.tuple _)=>k false t
     |_=>none
   |none=>none
def zLM{ops:aT}{o:Oper}{t:Tab}{k:Bool->Tab->Option β}{y:β}(h:tWant ops o t k=some y):∃b,zuZ ops o t=some b/\k b t=some y:=by
 unfold tWant at h;unfold zuZ
 cases hg:o.guard with
 |none=>simp_all
 |some q =>
   obtain⟨j,want⟩:=q;simp only[hg]at h ⊢
   cases hd:(ops[j]?).bind (·.dst)with
   |none=>simp[hd]at h
   |some d =>
     simp only[hd]at h ⊢;split at h
     . rename_i b hb;rw[hb];rcases zva h with⟨rfl,h⟩|⟨rfl,h⟩
       .rw[zwq hb]at h;exact⟨_,rfl,h⟩
       .rw[zwq hb]at h;exact⟨_,rfl,h⟩
     .simp_all
     .cases h
def elemE(P:Program)(T:Dic)(e:TypeId)(es:aS)(i:Nat)(k:List AV->Option β):Option β:=
 match P.underlying e with
 |some (.pointer t)=>elemP (T.ty t) es i (k [.v (.pointer none)]) (λa=>k [.v (.pointer (some a))]) (λx=>k [.fp ((T.ty t).enc x)])
 |_=>elemD (T.ty e) es i λx=>k ((T.ty e).enc x)
def zE0{P:Program}{T:Dic}{e:TypeId}{es:aS}{i:Nat}{k:List AV->Option β}{y:β}(h:elemE P T e es i k=some y):∃cs,es[i]?=some cs/\k cs=some y:=by
 unfold elemE at h;split at h
 . rcases elemP_some h with⟨h1,h2⟩|⟨a,h1,h2⟩|⟨x,h1,h2⟩
   .exact⟨_,h1,h2⟩
   .exact⟨_,h1,h2⟩
   grind
 .obtain⟨x,h1,h2⟩:=zq8 h;exact⟨_,h1,h2⟩
def tPlain(x:Option Res)(k:Res->Option β):Option β:=
 match x with
 |some r=>k r
 |none=>none
def tCond(x:Option (Res×List Prop))(k:Res->Option β):Option β:=
 match x with
 |some (r,ps)=>chkL ps (k r)
 |none=>none
def altF(C:Cfg)(f:FuncId)(ms:Mem):FuncId:=if ms.isEmpty&&!(C.wrt f).isEmpty then f+100000 else f
def tCall(P:Program)(C:Cfg)(F:AnnF)(T:Dic)(L:aK)(d:aZ)(f:FuncId)(args:aN)(k:Res->Option β):Option β:=
 match zqU L (C.wrt f) 0 args with
 |none=>none
 |some ((bc,ms,bk,fz),ps) =>
   if bk.all (λp=>fz.all (λb=>b≠p.1))=true then
    chkL ps (callD (T.res (altF C f ms)) (callw P C F f bc ms) λy =>
     match(T.res (altF C f ms)).enc y with
     |(r,ms')=>match backOf ms' (zig bk)with
       |none=>none
       |some back =>
         if(frzOf r bk fz).all (λb=>decide (b<1000))=true then
          tCond (finP back (zig bk) (frzOf r bk fz) r d) λres=>tPlain (zy7 (zg9 bk) res) k
         else none)
   else none
def tDeep(P:Program)(C:Cfg)(F:AnnF)(T:Dic)(L:aK)(f:FuncId)(k0:Nat)(args:aN)(k:Res->Option β):Option β:=
 match args[k0]? with
 |some (.loc b z 0 0)=>match L b with
   |some ent=>if ent.box=true then(match ent.es with
     |[cs]=>match pnest L 900 cs,pdArgs L k0 (.loc 1000 z 0 0) 0 args with
       |some ((cs',nms,nbk),ps),some ((bc,fz),qs) =>
         if ent.z=z/\ent.box=true/\nbk.all (λp=>p.1≠b)=true/\fz.all (λc=>decide (c<1000)&&(c !=b&&nbk.all (λp=>p.1≠c)))=true then
          chkL ps (chkL qs (callD (T.res f) (callw P C F f bc ((1000,{ ent with es:=[cs'] })::nms)) λy =>
           match(T.res f).enc y with
           |(r,ms')=>tPlain (dRes b fz nbk r ms') k))
         else none
       |_,_=>none
     |_=>none)else none
   |none=>none
 |_=>none
def pk{α:Type}(t:Bool)(x y:α):α:=if t=true then x else y
def setE(E:aa)(j:Nat)(a:AV):Operand->AV
 |.tmp i=>if i=j then a else E (.tmp i)
 |x=>E x
def zG2{E:aa}{j:Nat}{a:AV}(h:E (.tmp j)=a):setE E j a=E:=by
 funext x;unfold setE
 grind
def rowTy(P:Program)(ent:Ent):TypeId:=
 match P.underlying ent.e with
 |some (.array _ e)=>if szB P e=some ent.z then e else ent.e
 |_=>ent.e
def tBare(P:Program)(C:Cfg)(M:aO)(o:Oper)(args:List Operand)(E:aa)(L:aK)(k:Res->Option β):Option β:=
 match args with
 |[_,_,.tmp j]=>(match E (.tmp j)with
   |.v (.int kd c)=>brn (c==0) (tPlain (aop P C M noCall o (setE E j (.v (.int kd 0))) L) k) (brn (c==1) (tPlain (aop P C M noCall o (setE E j (.v (.int kd 1))) L) k) none)
   |_=>tPlain (aop P C M noCall o E L) k)
 |_=>tPlain (aop P C M noCall o E L) k
def tMSet(P:Program)(_T:Dic)(L:aK)(t:TypeId)(m key x:AV)(k:Res->Option β):Option β:=
 match P.underlying t with
 |some (.map kt et)=>match m with
   |.map b=>match L b with
     |some ent=>if ent.z=0/\ent.box=false/\keyAV P kt key=true/\(x.ids L 5).all (λc=>decide (c<1000)&&(c !=b))=true then
       (match psnap L 5 (nrm P et x)with
       |some (x',ps)=>if x'.isC 4=true then chkL ps (msetD P kt et key x' ent.es λes=>k { val:=.bot,set:=[(b,{ ent with es:=es })],frz:=x.ids L 5 })else none
       |none=>none)else none
     |none=>none
   |_=>none
 |_=>none
def tOp(P:Program)(C:Cfg)(F:AnnF)(T:Dic)(M:aO)(o:Oper)(E:aa)(L:aK)(k:Res->Option β):Option β:=
 match o.op with
 |.binOp op _ x y _=>match E x,E y with
   |.v (.int kd a),.v (.int kd' b)=>match pInt op kd kd' a b with
     |some (v,ps)=>chkL ps (k { val:=v })
     |none=>tPlain (aop P C M noCall o E L) k
   |.v (.string a),.v (.string b)=>match pStr op a b with
     |some (v,ps)=>chkL ps (k { val:=v })
     |none=>tPlain (aop P C M noCall o E L) k
   |_,_=>tPlain (aop P C M noCall o E L) k
 |.pick c a b=>match E c,E a,E b with
   |.v (.bool t),.v (.bool x),.v (.bool y)=>k { val:=.v (.bool (pk t x y)) }
   |.v (.bool t),a,b=>brn t (k { val:=a }) (k { val:=b })
   |_,_,_=>none
 |.load t a=>match E a with
   |.loc b z i off=>match L b with
     |some ent=>match ent.box with
       |true=>tPlain (aop P C M noCall o E L) k
       |false=>if ent.z=z/\0<ent.z then elemE P T (rowTy P ent) ent.es i λx=>match readAt P t (x.drop off)with
         |some v=>k { val:=v }
         |none=>none
         else none
     |none=>none
   |_=>tPlain (aop P C M noCall o E L) k
 |.store t a x=>match E a with
   |.loc b z i off=>match L b with
     |some ent=>match ent.box with
       |true=>tPlain (aop P C M noCall o E L) k
       |false=>match szB P t with
         |some n=>if(ent.z=z/\0<ent.z)/\(nrm P t (E x)).cells.length=n/\allL AV.one (nrm P t (E x)).cells=true/\allL (AV.isC 4) (nrm P t (E x)).cells=true then
           elemD (T.ty (rowTy P ent)) ent.es i λy=>if off+n<=((T.ty (rowTy P ent)).enc y).length then k { val:=.bot,set:=[(b,{ ent with es:=ent.es.set i (splice ((T.ty (rowTy P ent)).enc y) off (nrm P t (E x)).cells) })] }else none
           else none
         |none=>none
     |none=>none
   |_=>none
 |.indexAddr t x ix=>match E x,E ix with
   |.sl z es,.v (.int _ n)=>match P.underlying t with
     |some (.slice e)=>match szB P e with
       |some sz=>if z=sz then chk (0<=n) (elemD (T.ty e) es n.toNat λx=>k { val:=.fp ((T.ty e).enc x) })else none
       |none=>none
     |_=>none
   |.row b z off len,.v (.int _ n)=>match P.underlying t with
     |some (.slice e)=>match szB P e with
       |some sz=>if z=sz then chk (0<=n) (chk (n<(len:Int)) (k { val:=.loc b z (off+n.toNat) 0 }))else none
       |none=>none
     |_=>none
   |.loc b z i off,.v (.int _ n)=>match P.underlying t with
     |some (.array len e)=>match szB P e with
       |some sz=>if z=sz/\off=0 then chk (0<=n) (chk (n<(len:Int)) (k { val:=.loc b z (i+n.toNat) 0 }))else tPlain (aop P C M noCall o E L) k
       |none=>none
     |_=>none
   |.fa z es,.v (.int _ n)=>match P.underlying t with
     |some (.array len e)=>match szB P e with
       |some sz=>if z=sz then chk (0<=n) (chk (n<(len:Int)) (elemE P T e es n.toNat λx=>k { val:=.fp x }))else none
       |none=>none
     |_=>none
   |.fp cs,.v (.int _ n)=>(match ix,P.underlying t with
     |.tmp _,some (.array len e)=>(match szB P e with
       |some sz=>chk (0<=n) (chk (n<(len:Int)) (elemD (T.ty e) (chunk sz len cs) n.toNat λx=>k { val:=.fp ((T.ty e).enc x) }))
       |none=>none)
     |_,_=>tPlain (aop P C M noCall o E L) k)
   |_,_=>tPlain (aop P C M noCall o E L) k
 |.index t x ix=>match ix,E x,E ix with
   |.tmp _,.agg cs,.v (.int _ n)=>(match P.underlying t with
     |some (.array len e)=>(match szB P e with
       |some sz=>if cs.length=len*sz then
         chk (0<=n) (chk (n<(len:Int)) (elemD (T.ty e) (chunk sz len cs) n.toNat λx=>match readAt P e ((T.ty e).enc x)with
          |some v=>k { val:=v }
          |none=>none))
         else none
       |none=>none)
     |_=>none)
   |_,.v (.string s),.v (.int _ n)=>(match P.underlying t with
     |some .string=>chk (0<=n) (chk (n<(s.size:Int)) (k { val:=.v (.int .u8 (strAt s n)) }))
     |_=>none)
   |_,_,_=>tPlain (aop P C M noCall o E L) k
 |.slice t x lo hi none=>match E x with
   |.v (.string s)=>(match P.underlying t with
     |some .string=>match pPart s (lo.map E) (hi.map E)with
       |some (v,ps)=>chkL ps (k { val:=v })
       |none=>none
     |_=>none)
   |.v _=>tPlain (aop P C M noCall o E L) k
   |a=>tCond (pSlice P t a (lo.map E) (hi.map E)) k
 |.makeSlice t l c=>match o.dst with
   |some d=>if(L d).isNone=true then(if M.contains d=true then tPlain (aop P C M noCall o E L) k else tCond (pMake P d t (E l) (E c)) k)else none
   |none=>none
 |.call { callee:=.builtin .append,args,argTypes }=>match o.dst,args.toList,argTypes.toList with
   |some d,[s,x],[t,t']=>if t=t'/\(L d).isNone=true then tCond (pAppend P L d t (E s) (E x)) k else none
   |_,_,_=>none
 |.call { callee:=.builtin .copy,args,argTypes }=>match args.toList,argTypes.toList with
   |[s,x],t::_=>tCond (pCopy P L t (E s) (E x)) k
   |_,_=>none
 |.call { callee:=.builtin .clear,args,argTypes }=>match args.toList,argTypes.toList with
   |[s],t::_=>tCond (pClear P L t (E s)) k
   |_,_=>none
 |.call { callee:=.builtin .delete,args,argTypes }=>match args.toList,argTypes.toList with
   |[m,kk],t::_=>(match P.underlying t with
     |some (.map kt _)=>(match E m with
       |.map b=>(match L b with
         |some ent=>if ent.z=0/\ent.box=false/\keyAV P kt (E kk)=true then mdelD P kt (E kk) ent.es λes=>k { val:=.tup [],set:=[(b,{ ent with es:=es })] }else none
         |none=>none)
       |_=>none)
     |_=>none)
   |_,_=>none
 |.lookup t m kk ok=>match P.underlying t with
   |some (.map kt et)=>(match mesOf L (E m),zeroA P et with
     |some es,some z=>if keyAV P kt (E kk)=true then mapD P kt ((isAggB P et).getD false) (T.ty et) z es (E kk) λx b=>k { val:=mres ok (avEnc ((isAggB P et).getD false) (T.ty et) x) b }else none
     |_,_=>none)
   |_=>none
 |.mapUpdate t m kk x=>tMSet P T L t (E m) (E kk) (E x) k
 |.insert t m kk x=>tMSet P T L t (E m) (E kk) (E x) k
 |.call { callee:=.value g,args,argTypes }=>match E g with
   |.fn f cap=>if bare P f then tBare P C M o args.toList E L k else match o.dst with
     |some d=>(match C.dp f with
       |some k0=>if dstOut L (some d)=true then tDeep P C F T L f k0 (nrmA P (rawT C f argTypes) (args.toList.map E)++cap) k else none
       |none=>if(L d).isNone=true then tCall P C F T L (some d) f (nrmA P (rawT C f argTypes) (args.toList.map E)++cap) λr=>tPlain (toKill (M.contains d) r) k else none)
     |none=>(match C.dp f with
       |some k0=>tDeep P C F T L f k0 (nrmA P (rawT C f argTypes) (args.toList.map E)++cap) k
       |none=>tCall P C F T L none f (nrmA P (rawT C f argTypes) (args.toList.map E)++cap) k)
   |_=>none
 |_=>tPlain (aop P C M noCall o E L) k
def zLE{P:Program}{e:TypeId}{sz:Nat}{l:aN}{v:AV}(hs:szB P e=some sz)(h:readAt P e (l.take sz)=some v):readAt P e l=some v:=by
 unfold readAt at h ⊢
 grind
def zsT{x:Option Res}{k:Res->Option β}{y:β}(h:tPlain x k=some y):∃r,x=some r/\k r=some y:=by
 unfold tPlain at h
 grind
def zpb{x:Option (Res×List Prop)}{k:Res->Option β}{y:β}(h:tCond x k=some y):∃r ps,x=some (r,ps)/\Holds ps/\k r=some y:=by
 unfold tCond at h;split at h
 . obtain⟨h1,h2⟩:=zgC h
   grind
 .cases h
variable{P:Program}{C:Cfg}{F:AnnF}{T:Dic}{M:aO}
def zCR{L:aK}{d:aZ}{f:FuncId}{args:aN}{k:Res->Option β}{y:β}
  (h:tCall P C F T L d f args k=some y):∃r,aCall C (callw P C F) L d f args=some r/\k r=some y:=by
 unfold tCall at h;split at h
 case h_1=>cases h
 rename_i bc ms bk fz ps hp;split at h
 case isFalse=>cases h
 rename_i hd;obtain⟨hh,h1⟩:=zgC h;obtain⟨x,hx,h2⟩:=zEC h1;split at h2;rename_i r ms' he;split at h2
 case h_1=>cases h2
 rename_i back hb;split at h2
 case isFalse=>cases h2
 rename_i hf;obtain⟨res,qs,hr0,hq,h3⟩:=zpb h2;have hr:=finP_sound hr0 hq;obtain⟨res2,hr2,h4⟩:=zsT h3;refine⟨res2,?_,h4⟩;unfold aCall;rw[zn0 args 0 _ _ hp hh];simp only;rw[if_pos hd,hx,he];simp only[hb];rw[if_pos hf,hr];exact hr2
def zCS{L:aK}{f:FuncId}{k0:Nat}{args:aN}{k:Res->Option β}{y:β}
  (h:tDeep P C F T L f k0 args k=some y):∃r,aDeep (callw P C F) L f k0 args=some r/\k r=some y:=by
 unfold tDeep at h;split at h
 case h_2=>cases h
 rename_i b z hk0;split at h
 case h_2=>cases h
 rename_i ent hlb;split at h
 case isFalse=>cases h
 rename_i hbx;split at h
 case h_2=>cases h
 rename_i cs hes;split at h
 case h_2=>cases h
 rename_i cs' nms nbk ps bc fz qs hnest hda;split at h
 case isFalse=>cases h
 rename_i hcond;obtain⟨hh1,h1⟩:=zgC h;obtain⟨hh2,h2⟩:=zgC h1;obtain⟨x,hx,h3⟩:=zEC h2;split at h3;rename_i r ms' he;obtain⟨res,hr,h4⟩:=zsT h3;refine⟨res,?_,h4⟩;unfold aDeep;simp only[hk0,hlb];rw[if_pos hbx,hes];simp only[zsQ _ _ _ _ hnest hh1,zvz _ _ _ _ hda hh2]
 grind
def zCT{L:aK}{t:TypeId}{m key x:AV}{k:Res->Option β}{y:β}(h:tMSet P T L t m key x k=some y):∃r,aMSet P L t m key x=some r/\k r=some y:=by
 unfold tMSet at h;split at h
 case h_2=>cases h
 rename_i kt et hu;split at h
 case h_2=>cases h
 rename_i b;split at h
 case h_2=>cases h
 rename_i ent hl;split at h
 case isFalse=>cases h
 rename_i hc;split at h
 case h_2=>cases h
 rename_i x' ps hp;split at h
 case isFalse=>cases h
 rename_i hC;obtain⟨hh,h1⟩:=zgC h;obtain⟨es,h2,h3⟩:=msetD_some h1;refine⟨_,?_,h3⟩;unfold aMSet;simp only[hu,hl];rw[if_pos hc,zjQ 5 _ _ _ hp hh]
 simp_all
def tOp_sound{o:Oper}{E:aa}{L:aK}{k:Res->Option β}{y:β}(h:tOp P C F T M o E L k=some y):∃r,aop P C M (callw P C F) o E L=some r/\k r=some y:=by
 have plain:tPlain (aop P C M noCall o E L) k=some y->∃r,aop P C M (callw P C F) o E L=some r/\k r=some y:=by intro h;obtain⟨r,h1,h2⟩:=zsT h;exact⟨r,aop_mono (noCall_le _) h1,h2⟩
 unfold tOp at h;split at h
 . rename_i op t x z u ho;split at h
   . rename_i kd a kd' b hx hy;split at h
     . rename_i v ps hp;obtain⟨hh,h1⟩:=zgC h;refine⟨_,?_,h1⟩;have:=pInt_sound (P:=P) ho hx hy hp hh;unfold aop;simp only[ho,hx,hy]
       have hnc:nilCmp P op t (.v (.int kd a)) (.v (.int kd' b))=none:=by unfold nilCmp;split<;>simp_all
       rw[hnc];exact this
     .exact plain h
   . rename_i a b hx hy;split at h
     . rename_i v ps hp;obtain⟨hh,h1⟩:=zgC h;refine⟨_,?_,h1⟩;have:=pStr_sound (P:=P) ho hx hy hp hh;unfold aop;simp only[ho,hx,hy]
       have hnc:nilCmp P op t (.v (.string a)) (.v (.string b))=none:=by unfold nilCmp;split<;>simp_all
       rw[hnc];exact this
     .exact plain h
   .exact plain h
 . rename_i c a b ho;split at h
   .rename_i t x z hc ha hb;refine⟨_,?_,h⟩;unfold aop;simp only[ho,hc,ha,hb,pk];cases t<;>rfl
   . rename_i t hc _;unfold aop;simp only[ho,hc];rcases zva h with⟨rfl,h⟩|⟨rfl,h⟩
     .exact⟨_,rfl,h⟩
     .exact⟨_,rfl,h⟩
   .cases h
 . rename_i t a ho;split at h
   . rename_i b z i off ha;split at h
     case h_2=>cases h
     rename_i ent hl;split at h
     .exact plain h
     . rename_i hbx;split at h
       case isFalse=>cases h
       rename_i hz;obtain⟨x,hx,h1⟩:=zE0 h;split at h1
       case h_2=>cases h1
       rename_i v hv;refine⟨_,?_,h1⟩;unfold aop;simp only[ho,ha,aLoad,hl];rw[if_pos ⟨hz.1,.inr hz.2⟩,hx];simp only[hv]
   .exact plain h
 . rename_i t a x ho;split at h
   . rename_i b z i off ha;split at h
     case h_2=>cases h
     rename_i ent hl;split at h
     .exact plain h
     . rename_i hbx;split at h
       case h_2=>cases h
       rename_i n hs;split at h
       case isFalse=>cases h
       rename_i hc;obtain⟨u,hu,h1⟩:=zq8 h;split at h1
       case isFalse=>cases h1
       rename_i hlen;refine⟨_,?_,h1⟩;unfold aop;simp only[ho,ha,nrmS,hl,hbx,aStore,hs];simp only[zK,false_or];rw[if_pos ⟨⟨hc.1.1,hc.1.2⟩,hc.2.1,hc.2.2.1,hc.2.2.2⟩,hu];simp only;rw[if_pos hlen]
   .cases h
 . rename_i t x ix ho;split at h
   . rename_i z es kd n hx hi;split at h
     case h_2=>cases h
     rename_i e hu;split at h
     case h_2=>cases h
     rename_i sz hs;split at h
     case isFalse=>cases h
     rename_i hz;obtain⟨h0,h1⟩:=zhv h;obtain⟨u,hu',h2⟩:=zq8 h1;refine⟨_,?_,h2⟩;unfold aop;simp only[ho,hx,hi,aIndex,hu,hs];rw[if_pos ⟨hz,h0⟩,hu']
   . rename_i b z off len kd n hx hi;split at h
     case h_2=>cases h
     rename_i e hu;split at h
     case h_2=>cases h
     rename_i sz hs;split at h
     case isFalse=>cases h
     rename_i hz;obtain⟨h0,h1⟩:=zhv h;obtain⟨h2,h3⟩:=zhv h1;refine⟨_,?_,h3⟩;unfold aop;simp only[ho,hx,hi,aIndex,hu,hs];rw[if_pos ⟨hz,h0,h2⟩]
   . rename_i b z i off kd n hx hi;split at h
     case h_2=>cases h
     rename_i len e hu;split at h
     case h_2=>cases h
     rename_i sz hs;split at h
     case isFalse=>exact plain h
     rename_i hz;obtain⟨h0,h1⟩:=zhv h;obtain⟨h2,h3⟩:=zhv h1;refine⟨_,?_,h3⟩;unfold aop;simp only[ho,hx,hi,aIndex,hu,hs];rw[if_pos ⟨h0,h2⟩,if_pos hz]
   . rename_i z es kd n hx hi;split at h
     case h_2=>cases h
     rename_i len e hu;split at h
     case h_2=>cases h
     rename_i sz hs;split at h
     case isFalse=>cases h
     rename_i hz;obtain⟨h0,h1⟩:=zhv h;obtain⟨h2,h3⟩:=zhv h1;obtain⟨u,hu',h4⟩:=zE0 h3;refine⟨_,?_,h4⟩;unfold aop;simp only[ho,hx,hi,aIndex,hu,hs];rw[if_pos ⟨h0,h2⟩,if_pos hz,hu']
   . rename_i cs kd n hx hi;split at h
     case h_2=>exact plain h
     rename_i jx len e hu;split at h
     case h_2=>cases h
     rename_i sz hs;obtain⟨h0,h1⟩:=zhv h;obtain⟨h2,h3⟩:=zhv h1;obtain⟨u,hu',h4⟩:=zq8 h3;refine⟨_,?_,h4⟩;have hlt:n.toNat<len:=by omega
     rw[zqK len cs n.toNat hlt]at hu';injection hu' with hu';unfold aop;simp only[ho,hx,hi,aIndex,hu,hs];rw[if_pos ⟨h0,h2⟩,hu']
   .exact plain h
 . rename_i t x ix ho;split at h
   . rename_i jx cs kd n hx hi;split at h
     case h_2=>cases h
     rename_i len e hu;split at h
     case h_2=>cases h
     rename_i sz hs;split at h
     case isFalse=>cases h
     rename_i hlen;obtain⟨h0,h1⟩:=zhv h;obtain⟨h2,h3⟩:=zhv h1;obtain⟨u,hu',h4⟩:=zq8 h3;split at h4
     case h_2=>cases h4
     rename_i v hv;refine⟨_,?_,h4⟩;have hlt:n.toNat<len:=by omega
     rw[zqK len cs n.toNat hlt]at hu';injection hu' with hu';rw[<-hu']at hv;unfold aop;simp only[ho,hx,hi,hu,hs];rw[if_pos ⟨h0,h2⟩,zLE hs hv]
   . rename_i jx s kd n hx hi;split at h
     case h_2=>cases h
     rename_i hu;obtain⟨h0,h1⟩:=zhv h;obtain⟨h2,h3⟩:=zhv h1;refine⟨_,?_,h3⟩;unfold aop;simp only[ho,hx,hi,hu];exact zLI ho hx hi hu h0 h2
   .exact plain h
 . rename_i t x lo hi ho;split at h
   . rename_i s hx;split at h
     case h_2=>cases h
     rename_i hu;split at h
     case h_2=>cases h
     rename_i v ps hp;obtain⟨hh,h1⟩:=zgC h;refine⟨_,?_,h1⟩;unfold aop;simp only[ho,hx];exact zLz ho hx hu hp hh
   .exact plain h
   . rename_i hne;obtain⟨r,ps,h1,h2,h3⟩:=zpb h;have:=zKp h1 h2;refine⟨r,?_,h3⟩;unfold aop;simp only[ho]
     cases hq:E x with
     |v y=>exact absurd hq (hne y)
     |_=>rw[hq]at this;exact this
 . rename_i t l c ho;split at h
   case h_2=>cases h
   rename_i d hd;split at h
   case isFalse=>cases h
   rename_i hn;split at h
   .exact plain h
   rename_i hnm;obtain⟨r,ps,h1,h2,h3⟩:=zpb h;have:=zLy h1 h2;refine⟨r,?_,h3⟩;unfold aop;simp only[ho,hd];rw[if_pos hn,if_neg hnm];exact this
 . rename_i args argTypes ho;split at h
   case h_2=>cases h
   rename_i d s x t t' hd ha ht;split at h
   case isFalse=>cases h
   rename_i hn;obtain⟨r,ps,h1,h2,h3⟩:=zpb h;have:=zIV h1 h2;refine⟨r,?_,h3⟩;unfold aop;simp only[ho,hd,ha,ht];rw[if_pos hn];exact this
 . rename_i args argTypes ho;split at h
   case h_2=>cases h
   rename_i s x t tr ha ht;obtain⟨r,ps,h1,h2,h3⟩:=zpb h;have:=zLx h1 h2;refine⟨r,?_,h3⟩;unfold aop;simp only[ho,ha,ht];exact this
 . rename_i args argTypes ho;split at h
   case h_2=>cases h
   rename_i s t tr ha ht;obtain⟨r,ps,h1,h2,h3⟩:=zpb h;have:=zKo h1 h2;refine⟨r,?_,h3⟩;unfold aop;simp only[ho,ha,ht];exact this
 . rename_i args argTypes ho;split at h
   case h_2=>cases h
   rename_i m kk t tr ha ht;split at h
   case h_2=>cases h
   rename_i kt et hu;split at h
   case h_2=>cases h
   rename_i b hm;split at h
   case h_2=>cases h
   rename_i ent hl;split at h
   case isFalse=>cases h
   rename_i hc;obtain⟨es,h1,h2⟩:=mdelD_some h;refine⟨_,?_,h2⟩;unfold aop;simp only[ho,ha,ht,aMDel,hu,hm,hl];rw[if_pos hc,h1]
 . rename_i t m kk ok ho;split at h
   case h_2=>cases h
   rename_i kt et hu;split at h
   case h_2=>cases h
   rename_i es z hes hz;split at h
   case isFalse=>cases h
   rename_i hk;rcases mapD_some h with⟨a,x,h1,h2,h3⟩|⟨x,h1,h2,h3⟩
   .refine⟨_,?_,h3⟩;unfold aop;simp only[ho,aMLook,hu,hes,hz];rw[if_pos hk,h1,<-h2]
   .refine⟨_,?_,h3⟩;unfold aop;simp only[ho,aMLook,hu,hes,hz];rw[if_pos hk,h1,<-h2]
 .rename_i t m kk x ho;obtain⟨r,h1,h2⟩:=zCT h;refine⟨r,?_,h2⟩;unfold aop;simp only[ho];exact h1
 .rename_i t m kk x ho;obtain⟨r,h1,h2⟩:=zCT h;refine⟨r,?_,h2⟩;unfold aop;simp only[ho];exact h1
 . rename_i g args argTypes ho;split at h
   case h_2=>cases h
   rename_i f cap hg;split at h
   . unfold tBare at h;split at h
     . rename_i j;split at h
       . rename_i kd c hj;rcases zva h with⟨hc,h⟩|⟨_,h⟩
         .rw[zG2 (by rw[hj];simp at hc;rw[hc])]at h;exact plain h
         . rcases zva h with⟨hc,h⟩|⟨_,h⟩
           .rw[zG2 (by rw[hj];simp at hc;rw[hc])]at h;exact plain h
           .cases h
       .exact plain h
     .exact plain h
   . rename_i hb;split at h
     . rename_i d hd;split at h
       . rename_i k0 hdp;split at h
         case isFalse=>cases h
         rename_i hdo;obtain⟨r,h1,h2⟩:=zCS h;refine⟨r,?_,h2⟩;unfold aop;simp only[ho,hg,hd,hdp];rw[if_neg hb,if_pos hdo];exact h1
       . rename_i hdp;split at h
         case isFalse=>cases h
         rename_i hn;obtain⟨r0,h1,h2⟩:=zCR h;obtain⟨r,h3,h4⟩:=zsT h2;refine⟨r,?_,h4⟩;unfold aop;simp only[ho,hg,hd,hdp];rw[if_neg hb,if_pos hn,h1];exact h3
     . rename_i hd;split at h
       .rename_i k0 hdp;obtain⟨r,h1,h2⟩:=zCS h;refine⟨r,?_,h2⟩;unfold aop;simp only[ho,hg,hd,hdp];rw[if_neg hb,if_pos (show dstOut L none=true from rfl)];exact h1
       .rename_i hdp;obtain⟨r,h1,h2⟩:=zCR h;refine⟨r,?_,h2⟩;unfold aop;simp only[ho,hg,hd,hdp];rw[if_neg hb];exact h1
 .exact plain h
variable{N:Nat}{ops:aT}
def applyR2(dst:aZ)(r:Res)(st:St):St:=
 let st2:=match r.kill with
  |some b=>del b st
  |none=>st
 let st3:=delAll r.re st2
 { t:=putO dst r.val st3.t,m:=setAll r.set st3.m }
def tApply(dst:aZ)(r:Res)(st:St)(k:St->Option β):Option β:=
 match zrz r.frz st with
 |some (st1,ps)=>chkL ps (k (applyR2 dst r st1))
 |none=>none
def zLJ{dst:aZ}{r:Res}{st:St}{k:St->Option β}{y:β}(h:tApply dst r st k=some y):k (applyR dst r st)=some y:=by
 unfold tApply at h;split at h
 . rename_i st1 ps hp;obtain⟨hh,h1⟩:=zgC h
   have:applyR dst r st=applyR2 dst r st1:=by rw[<-zvA hp hh];rfl
   rw[this];exact h1
 .cases h
def tStep(P:Program)(C:Cfg)(F:AnnF)(T:Dic)(M:aO)(N:Nat)(ops:aT)(o:Oper)(st:St)(k:Res->St->Option β):Option β:=
 if dstOk N o.dst=true then
  tWant ops o st.t λw t=>match w with
   |true=>tOp P C F T M o (ev t) (look st.m) λr=>tApply o.dst r ⟨t,st.m⟩ (k r)
   |false=>k { val:=.v undef } (applyR o.dst { val:=.v undef } ⟨t,st.m⟩)
 else none
def zLK{o:Oper}{st:St}{k:Res->St->Option β}{y:β}(h:tStep P C F T M N ops o st k=some y):∃r st',aStep P C M (callw P C F) N ops o st=some (r,st')/\k r st'=some y:=by
 unfold tStep at h;split at h
 case isFalse=>cases h
 rename_i hd;obtain⟨b,hb,h1⟩:=zLM h;unfold aStep;rw[if_pos hd,hb]
 cases b with
 |true=>simp only at h1 ⊢;obtain⟨r,h2,h3⟩:=tOp_sound h1;rw[h2];exact⟨_,_,rfl,zLJ h3⟩
 |false=>grind
def tRun(P:Program)(C:Cfg)(F:AnnF)(T:Dic)(M:aO)(N:Nat)(ops:aT):Nat->List Oper->St->(List Mk->St->Option β)->Option β
 |_,[],st,k=>k [] st
 |i,o::r,st,k=>tStep P C F T M N ops o st λres st'=>force st' λst'=>tRun P C F T M N ops (i+1) r st' λl st''=>k ({ i,o,res,touch:=zpd o (ev st.t) (look st.m),pre:=st }::l) st''
def zuS:∀(l:List Oper) (i:Nat) (st:St) (k:List Mk->St->Option β) (y:β),tRun P C F T M N ops i l st k=some y->∃r st',runOps P C M (callw P C F) N ops i l st=some (r,st')/\k r st'=some y
 |[],i,st,k,y,h=>⟨[],st,rfl,h⟩
 |o::l,i,st,k,y,h=>by
   simp only[tRun]at h;obtain⟨res,st1,h1,h2⟩:=zLK h;rw[zvs]at h2;obtain⟨ml,st2,h3,h4⟩:=zuS l (i+1) st1 _ y h2;simp only[runOps]
   grind
def addU:List Nat->List Nat->List Nat
 |[],b=>b
 |x::r,b=>if b.contains x then addU r b else x::addU r b
def zDl{x:Nat}:∀{a b:aO},x∈addU a b->x∈a\/x∈b
 |[],b,h=>.inr h
 |z::r,b,h=>by
   simp only[addU]at h;split at h
   . rcases zDl h with h|h
     .grind
     .exact .inr h
   . rcases zat.1 h with rfl|h
     .exact .inl (by simp)
     . rcases zDl h with h|h
       .grind
       .exact .inr h
def befOf(tab:List (List Nat)):List Edge->List Nat
 |[]=>[]
 |e::r=>if Region.binds .any e then addU (e.on::(tab[e.on]?).getD []) (befOf tab r)else befOf tab r
def befTab:List Oper->List (List Nat)->List (List Nat)
 |[],tab=>tab
 |o::r,tab=>befTab r (tab++[befOf tab o.after.toList])
def zFh{ops:aT}:∀(k i x:Nat),x∈preds ops k i->x∈preds ops (k+1) i
 |0,i,x,h=>by simp[preds]at h
 |k+1,i,x,h=>by
   simp only[preds]at h;show x∈preds ops (k+1+1) i;unfold preds
   cases ho:ops[i]? with
   |none=>simp[ho]at h
   |some o =>
     simp only[ho]at h ⊢;obtain⟨e,he,hx⟩:=zbM.1 h;refine zbM.2 ⟨e,he,?_⟩;split at hx
     . rename_i hb;rw[if_pos hb];rcases zat.1 hx with rfl|hx
       .simp
       .exact zat.2 (.inr (zFh k e.on x hx))
     .cases hx
def preds_le{ops:aT}{k m i x:Nat}(h:k<=m)(hx:x∈preds ops k i):x∈preds ops m i:=by
 induction h with
 |refl=>exact hx
 |step _ ih=>exact zFh _ _ _ ih
def TabOk(ops:aT)(tab:List (List Nat)):Prop:=∀(i x:Nat) (l:aO),tab[i]?=some l->x∈l->x∈preds ops i i
def zAt{tab:List (List Nat)}{x:Nat}:∀{l:List Edge},x∈befOf tab l->∃e∈l,Region.binds .any e=true/\(x=e.on\/x∈(tab[e.on]?).getD [])
 |[],h=>by simp[befOf]at h
 |e::r,h=>by
   simp only[befOf]at h;split at h
   . rename_i hb;rcases zDl h with h|h
     .simp_all
     . obtain⟨e',h1,h2⟩:=zAt h
       grind
   . obtain⟨e',h1,h2⟩:=zAt h
     grind
def zGg{ops:aT}(hedge:∀j o,ops[j]?=some o->∀e∈o.after,Region.binds .any e=true->e.on<j):∀(l:List Oper) (tab:List (List Nat)),TabOk ops tab->(∀j,l[j]?=ops[tab.length+j]?)->TabOk ops (befTab l tab)
 |[],tab,h,_=>h
 |o::l,tab,h,hl=>by
   simp only[befTab];refine zGg hedge l _ ?_ (λj=>?_)
   . intro i x s hs hx;rw[zce]at hs;split at hs
     .exact h i x s hs hx
     . rename_i hlt
       have hi:i=tab.length:=by
        by_cases hq:i-tab.length=0
        .omega
        .simp_all
       subst hi;simp at hs;subst hs
       have ho:ops[tab.length]?=some o:=by have:=hl 0;simp at this;exact this.symm
       obtain⟨e,he,hb,hx'⟩:=zAt hx;have hlt2:=hedge _ _ ho e (by simpa using he) hb;obtain⟨m,hm⟩:∃m,tab.length=m+1:=⟨tab.length-1,by omega⟩
       rw[hm]at ho hlt2 ⊢;unfold preds;simp only[ho];refine zbM.2 ⟨e,he,?_⟩;rw[if_pos hb];rcases hx' with rfl|hx'
       .simp
       . refine zat.2 (.inr ?_)
         cases hq:tab[e.on]? with
         |none=>simp[hq]at hx'
         |some s'=>rw[hq]at hx';exact preds_le (by omega) (h e.on x s' hq hx')
   . have:=hl (j+1)
     grind
def zBx(ops:aT)(tab:List (List Nat)):List Mk->Bool
 |[]=>true
 |a::r=>r.all (λb=>((tab[b.i]?).getD []).contains a.i||indep ops a b)&&zBx ops tab r
def zEH{ops:aT}{tab:List (List Nat)}(ht:TabOk ops tab):∀{l:List Mk},zBx ops tab l=true->drawOk ops l=true
 |[],_=>rfl
 |a::r,h=>by
   simp only[zBx,drawOk,zaU,zbd,zdS]at h ⊢;refine⟨λb hb=>?_,zEH ht h.2⟩;rcases h.1 b hb with h1|h1
   . left;rw[List.contains_iff_mem]at h1 ⊢
     cases hq:tab[b.i]? with
     |none=>simp[hq]at h1
     |some s=>rw[hq]at h1;exact ht b.i a.i s hq h1
   .exact .inr h1
def zLj{l:List Oper}:∀{i:Nat},zqN i l=true->∀j o,l[j]?=some o->∀e∈o.after,Region.binds .any e=true->e.on<i+j:=by
 induction l with
 |nil=>simp_all
 |cons o l ih =>
   intro i h j o' ho e he hb;simp only[zO,zqN,zbd,zdS,zed]at h
   grind
def zBF(P:Program)(C:Cfg)(F:AnnF)(T:Dic)(M:aO)(N:Nat)(ops:aT)(draw:Bool)(st:St)(k:St->Option β):Option β:=
 match draw with
 |false=>tRun P C F T M N ops 0 ops.toList (preDel ops.toList st) λ_ st'=>k st'
 |true=>tRun P C F T M N ops 0 ops.toList (preDel ops.toList st) λl st' =>
   match zqN 0 ops.toList&&P.follows .mixedOrders&&zBx ops (befTab ops.toList []) l with
   |true=>k st'
   |false=>none
def zzv{draw:Bool}{st:St}{k:St->Option β}{y:β}(h:zBF P C F T M N ops draw st k=some y):∃st',zl3 P C M (callw P C F) N ops draw st=some st'/\k st'=some y:=by
 unfold zBF at h;unfold zl3
 cases draw with
 |false =>
   simp only at h;obtain⟨l,st1,h1,h2⟩:=zuS _ _ _ _ _ h
   simp_all
 |true =>
   simp only at h;obtain⟨l,st1,h1,h2⟩:=zuS _ _ _ _ _ h;rw[h1];split at h2
   case h_2=>cases h2
   rename_i hc;simp only[zaU]at hc;refine⟨st1,?_,h2⟩
   have hedge:∀j o,ops[j]?=some o->∀e∈o.after,Region.binds .any e=true->e.on<j:=by intro j o ho e he hb;have:=zLj hc.1.1 j o (by simpa using ho) e he hb;omega
   have ht:TabOk ops (befTab ops.toList []):=zGg hedge ops.toList [] (λi x l hi=>by simp at hi) (λj=>by simp);simp[zEH ht hc.2,hc.1.1,hc.1.2]
end
def regK:Code->List It->Nat->Option (List It)
 |.seq a b,k,id=>match regK a (.code b::k) id with
   |some r=>some r
   |none=>regK b k id
 |.cond _ x y,k,id=>match regK x k id with
   |some r=>some r
   |none=>regK y k id
 |.block j c,k,id=>regK c (.inBlock j::k) id
 |.loop c,k,id=>regK c (.inLoop c::k) id
 |.region j ops draw,k,id=>if id=j then some (.code (.region j ops draw)::k)else none
 |_,_,_=>none
def ptS(fn:Func)(j:Nat):List It:=
 if j<1000 then ptK fn j else match fn.body with
  |some c=>(regK c [] (j-1000)).getD []
  |none=>[]
def pt(R:Fr)(j:Nat)(st:St):Option (AV×Mem):=run R (ptS R.fn j) .normal st
def tFin(R:Fr)(st:St):Option (AV×Mem):=
 match presult R.P (R.F R.f).frz R.fn st,zoV st.m R.ms with
 |some (r,ps),some ms'=>chkL ps (zxV r ms')
 |_,_=>none
def zFn{R:Fr}{st:St}{y:AV×Mem}(h:tFin R st=some y)(e:Ex)(he:e=.normal\/e=.ret):zqT R.P (R.F R.f).frz R.fn R.ms (some (e,st))=some y:=by
 unfold tFin at h;split at h
 case h_2=>cases h
 rename_i r ps ms' h1 h2;obtain⟨hh,h3⟩:=zgC h;have:=zIW h1 hh;rcases he with rfl|rfl<;>simp only[zqT,this,h2]<;>exact h3
def tTidy(A:Ann)(id:Nat)(st:St)(k:St->Option (AV×Mem)):Option (AV×Mem):=
 match ptidy A id st with
 |none=>none
 |some (st',ps)=>chkL ps (force st' k)
def zLL{A:Ann}{id:Nat}{st:St}{k:St->Option (AV×Mem)}{y:AV×Mem}(h:tTidy A id st k=some y):k (tidy A id st)=some y:=by
 unfold tTidy at h;split at h
 .cases h
 .rename_i st' ps hp;obtain⟨hh,h1⟩:=zgC h;rw[zvs]at h1;rw[zCP hp hh];exact h1
def tPre{β:Type}(A:Ann)(id:Nat)(st:St)(k:St->Option β):Option β:=
 match A.fz (id+1000)with
 |[]=>k st
 |l=>match zvB l st with
   |none=>none
   |some (st',ps)=>chkL ps (force st' k)
def zFo{β:Type}{A:Ann}{id:Nat}{st:St}{k:St->Option β}{y:β}(h:tPre A id st k=some y):k (znm (A.fz (id+1000)) st)=some y:=by
 unfold tPre at h;split at h
 .rename_i h1;rw[h1];exact h
 . split at h
   .cases h
   .rename_i hp;obtain⟨hh,h2⟩:=zgC h;rw[zvs]at h2;rw[zsE hp hh];exact h2
def setO(o:Operand)(x:Bool)(st:St):St:=
 match o with
 |.tmp d=>{ st with t:=setB d x st.t }
 |_=>st
def tGo(R:Fr)(T:Dic)(cut:aO):Nat->Bool->List It->St->Option (AV×Mem)
 |0,_,_,_=>none
 |_+1,_,[],st=>tFin R st
 |n+1,first,.inBlock _::k,st=>tGo R T cut n first k st
 |n+1,first,.inLoop c::k,st=>match first with
   |true=>tGo R T cut n false (.code c::.inLoop c::k) st
   |false=>run R (.inLoop c::k) .normal st
 |n+1,first,.code c::k,st=>match c with
   |.skip=>tGo R T cut n first k st
   |.seq a b=>tGo R T cut n first (.code a::.code b::k) st
   |.block id c=>tGo R T cut n first (.code c::.inBlock id::k) st
   |.loop c=>tGo R T cut n first (.inLoop c::k) st
   |.exit id=>match dropTo id k with
     |some k'=>tGo R T cut n first k' st
     |none=>none
   |.ret=>tFin R st
   |.cond o x y=>match ev st.t o with
     |.v (.bool b)=>brn b (tGo R T cut n false (.code x::k) (setO o true st)) (tGo R T cut n false (.code y::k) (setO o false st))
     |_=>none
   |.region id ops draw=>match !first&&cut.contains id with
     |true=>run R (.code (.region id ops draw)::k) .normal st
     |false=>tPre (R.F R.f) id st λst0=>zBF R.P R.C R.F T (R.F R.f).lits R.fn.ntmps ops draw st0 λst1=>tTidy (R.F R.f) id st1 λst2=>tGo R T cut n false k st2
   |_=>none
def zG3{o:Operand}{x:Bool}{st:St}(h:ev st.t o=.v (.bool x)):setO o x st=st:=by
 unfold setO;split
 .rename_i d;rw[zwq h]
 .rfl
def zG6{R:Fr}{T:Dic}{cut:aO}:∀(n:Nat) (first:Bool) (k:List It) (st:St) (y:AV×Mem),tGo R T cut n first k st=some y->run R k .normal st=some y:=by
 intro n
 induction n with
 |zero=>intro first k st y h;simp[tGo]at h
 |succ n ih =>
   intro first k st y h
   cases k with
   |nil=>simp only[tGo]at h;exact zFn h .normal (.inl rfl)
   |cons it k =>
     cases it with
     |inBlock id =>
       simp only[tGo]at h;simp only[run]
       grind
     |inLoop c =>
       simp only[tGo]at h;split at h
       . have:=ih false _ st y h;rw[<-this];simp only[run];rw[itw_eq]
         cases hq:R.ev c st with
         |none=>rfl
         |some q =>
           obtain⟨e,st1⟩:=q
           cases e with
           |normal=>simp only[run]
           |exit id=>simp only[run]
           |ret=>simp only[run]
       .exact h
     |code c =>
       simp only[tGo]at h
       cases c with
       |skip=>simp only at h;rw[<-ih first k st y h];rfl
       |seq a b =>
         simp only at h;rw[<-ih first _ st y h];simp only[run,Fr.ev,aeval]
         cases hq:aeval R.P R.C (R.F R.f) R.fn.ntmps (callw R.P R.C R.F) itw a st with
         |none=>rfl
         |some q =>
           obtain⟨e,st1⟩:=q
           cases e with
           |normal=>simp only[run,Fr.ev]
           |exit id=>simp only[run]
           |ret=>simp only[run]
       |block id c =>
         simp only at h;rw[<-ih first _ st y h];simp only[run,Fr.ev,aeval]
         cases hq:aeval R.P R.C (R.F R.f) R.fn.ntmps (callw R.P R.C R.F) itw c st with
         |none=>rfl
         |some q =>
           obtain⟨e,st1⟩:=q
           cases e with
           |normal=>simp only[run]
           |exit j =>
             simp only[run]
             grind
           |ret=>simp only[zxX]
       |loop c=>simp only at h;rw[<-ih first _ st y h];rfl
       |exit id =>
         simp only at h;split at h
         .rename_i k' hk;rw[<-ih first k' st y h];simp only[run,Fr.ev,aeval];exact zyN R id k k' st hk
         .cases h
       |ret=>simp only at h;simp only[run,Fr.ev,aeval];rw[zxX];exact zFn h .ret (.inr rfl)
       |cond o x z =>
         simp only at h;split at h
         . rename_i b hb;rcases zva h with⟨rfl,h⟩|⟨rfl,h⟩
           .rw[zG3 hb]at h;rw[<-ih false _ st y h];simp only[run,Fr.ev,aeval,hb,if_true]
           .rw[zG3 hb]at h;rw[<-ih false _ st y h];simp only[zK,run,Fr.ev,aeval,hb]
         .cases h
       |region id ops draw =>
         simp only at h;split at h
         .exact h
         .obtain⟨st1,h1,h2⟩:=zzv (zFo h);have h3:=zLL h2;rw[<-ih false k _ y h3];simp only[run,Fr.ev,aeval];rw[h1]
       |_=>cases h
def pt_of{R:Fr}(T:Dic)(cut:aO){j:Nat}{st:St}{y:AV×Mem}{x:ai}(hx:tGo R T cut 100000 (decide (j≠0)) (ptS R.fn j) st=x)(h:x=some y):pt R j st=some y:=
 zG6 _ _ _ _ _ (hx.trans h)
def regOf(j:Nat):Code->Option Code
 |.region id ops draw=>if id=j then some (.region id ops draw)else none
 |.seq a b=>match regOf j a with
   |some c=>some c
   |none=>regOf j b
 |.cond _ a b=>match regOf j a with
   |some c=>some c
   |none=>regOf j b
 |.block _ c=>regOf j c
 |.loop c=>regOf j c
 |_=>none
def tTidyS(A:Ann)(id:Nat)(st:St):Option St:=
 match ptidy A id st with
 |none=>none
 |some (st',ps)=>chkL ps (force st' some)
def tReg(R:Fr)(T:Dic)(j:Nat)(st:St):Option St:=
 match R.fn.body with
 |some c=>match regOf j c with
   |some (.region id ops draw)=>tPre (R.F R.f) id st λst0=>zBF R.P R.C R.F T (R.F R.f).lits R.fn.ntmps ops draw st0 λst1=>tTidyS (R.F R.f) id st1
   |_=>none
 |none=>none
def tReg_sound{R:Fr}{T:Dic}{j id:Nat}{ops:aT}{draw:Bool}{c:Code}{st st':St}(hb:R.fn.body=some c)(hc:regOf j c=some (.region id ops draw))(h:tReg R T j st=some st')(it:Go.Ab.Loop):aeval R.P R.C (R.F R.f) R.fn.ntmps (callw R.P R.C R.F) it (.region id ops draw) st=some (.normal,st'):=by
 unfold tReg at h;simp only[hb,hc]at h;obtain⟨st1,h1,h2⟩:=zzv (zFo h);unfold tTidyS at h2;split at h2
 .cases h2
 rename_i st2 ps hp;obtain⟨hh,h3⟩:=zgC h2;rw[zvs]at h3;injection h3 with h3;subst h3;simp only[aeval,h1];rw[zCP hp hh]
def blank:Mem->Mem
 |[]=>[]
 |(k,_)::r=>(k,⟨0,0,[],false⟩)::blank r
def zGh:∀ms:Mem,(blank ms).map (·.1)=ms.map (·.1)
 |[]=>rfl
 |(k,e)::r=>by simp only[blank,zbx,zGh r]
def zxJ(is:aO)(m:Mem):∀ms:Mem,zj2 is m (blank ms)=zj2 is m ms
 |[]=>rfl
 |(k,e)::r=>by simp only[blank,zj2,zxJ is m r]
def zH7(m:Mem)(ms:Mem):zoV m (blank ms)=zoV m ms:=by unfold zoV;rw[zGh,zxJ]
def callw_run{P:Program}{C:Cfg}{F:AnnF}{f:FuncId}{fn:Func}{c:Code}{args:aN}{ms:Mem}{r:AV×Mem}(ho:C.orc f args ms=none)(hf:P.funcs[f]?=some fn)(hb:fn.body=some c)(he:enters P f=true)
  (hN:decide (fn.ntmps<=1000/\args.length<=fn.ntmps)=true) (h:run ⟨P,C,F,f,fn,blank ms⟩ [.code c] .normal { t:=argTab 0 args,m:=ms }=some r):callw P C F f args ms=some r:=by
 have hn:=of_decide_eq_true hN;refine callw_of ho hf hb he hn.1 hn.2 ?_;simp only[run,Fr.ev]at h;split at h
 .rename_i e st hq;rw[hq];unfold zqT at h ⊢;simp only[zH7]at h;exact h
 .cases h
def zyy(R:Fr)(T:Dic)(cut:aO){args:aN}{ms:Mem}{r:AV×Mem}{x:ai}(ho:R.C.orc R.f args ms=none)(hf:R.P.funcs[R.f]?=some R.fn)(he:enters R.P R.f=true)
  (hN:decide (R.fn.ntmps<=1000/\args.length<=R.fn.ntmps)=true) (hm:R.ms=blank ms)
  (hx:tGo R T cut 100000 false (ptK R.fn 0) { t:=argTab 0 args,m:=ms }=x) (h:x=some r):callw R.P R.C R.F R.f args ms=some r:=by
 have h':=zG6 _ _ _ _ _ (hx.trans h);unfold enters at he;rw[hf]at he;simp only[zaU]at he;obtain⟨c,hc⟩:=zaT.1 he.1;have he':enters R.P R.f=true:=by unfold enters;rw[hf];simp only[zaU];exact he
 refine callw_run ho hf hc he' hN ?_;unfold ptK at h';simp only[hc]at h';rw[<-hm];exact h'
end
section
open Classical
abbrev TyD.of(α:Type)(enc:α->List AV)(inj:∀x y,enc x=enc y->x=y):TyD where
 α:=α
 enc:=enc
 dec:=λc=>if h:∃x,c=enc x then some (Classical.choose h)else none
 ok:=λc x h=>by
  split at h
  .grind
  .cases h
 de:=λx=>by
  have h:∃y,enc x=enc y:=⟨x,rfl⟩
  grind
abbrev RD.of(α:Type)(enc:α->AV×Mem)(inj:∀x y,enc x=enc y->x=y):RD where
 α:=α
 enc:=enc
 dec:=λc=>if h:∃x,c=enc x then some (Classical.choose h)else none
 ok:=λc x h=>by
  split at h
  .grind
  .cases h
 de:=λx=>by
  have h:∃y,enc x=enc y:=⟨x,rfl⟩
  grind
end
def TyD.inj(D:TyD){x y:D.α}(h:D.enc x=D.enc y):x=y:=by
 have h1:=D.de x;rw[h,D.de y]at h1
 simp_all
def TyD.minj(D:TyD){l l':List D.α}:(List.map D.enc l=List.map D.enc l')=(l=l'):=by
 refine propext ⟨λh=>?_,λh=>by rw[h]⟩
 induction l generalizing l' with
 |nil=>simp_all
 |cons a r ih=>cases l' with
   |nil=>simp at h
   |cons b s=>simp only[zbx,zap]at h;rw[D.inj h.1,ih h.2]
abbrev dRaw:TyD:={ α:=List AV,enc:=id,dec:=some,ok:=λc x h=>by injection h,de:=λ_=>rfl }
def zaj:Int->List AV:=λx=>[I x]
abbrev zbw:TyD:=TyD.of Int zaj (by intro x y h;simpa[zaj]using h)
def nI_i32:Int->List AV:=λx=>[.v (.int .i32 x)]
abbrev dI_i32:TyD:=TyD.of Int nI_i32 (by intro x y h;simpa[nI_i32]using h)
def nI_u64:Int->List AV:=λx=>[.v (.int .u64 x)]
abbrev dI_u64:TyD:=TyD.of Int nI_u64 (by intro x y h;simpa[nI_u64]using h)
def nI_u32:Int->List AV:=λx=>[.v (.int .u32 x)]
abbrev dI_u32:TyD:=TyD.of Int nI_u32 (by intro x y h;simpa[nI_u32]using h)
def nI_u8:Int->List AV:=λx=>[.v (.int .u8 x)]
abbrev dI_u8:TyD:=TyD.of Int nI_u8 (by intro x y h;simpa[nI_u8]using h)
def nBool:Bool->List AV:=λx=>[B x]
abbrev dBool:TyD:=TyD.of Bool nBool (by intro x y h;simpa[nBool]using h)
def nStr:ByteArray->List AV:=λx=>[.v (.string x)]
abbrev dStr:TyD:=TyD.of ByteArray nStr (by intro x y h;simpa[nStr]using h)
def nPtr:Option Addr->List AV:=λx=>[.v (.pointer x)]
abbrev dPtr:TyD:=TyD.of (Option Addr) nPtr (by intro x y h;simpa[nPtr]using h)
abbrev rRaw:RD:={ α:=AV×Mem,enc:=id,dec:=some,ok:=λc x h=>by injection h,de:=λ_=>rfl }
def zc9{β:Type}(D:TyD)(l:List D.α)(i:Nat)(k:D.α->Option β):elemD D (List.map D.enc l) i k=(l[i]?).bind k:=by unfold elemD;rw[zbv];cases l[i]?<;>simp[D.de]
@[simp] def zcc{β:Type}(l:aQ)(i:Nat)(k:Int->Option β):elemD zbw (List.map zaj l) i k=(l[i]?).bind k:=zc9 zbw l i k
@[simp] def zq7{β:Type}(l:List Bool)(i:Nat)(k:Bool->Option β):elemD dBool (List.map nBool l) i k=(l[i]?).bind k:=zc9 dBool l i k
@[simp] def elemD_Ptr{β:Type}(l:List (Option Addr))(i:Nat)(k:Option Addr->Option β):elemD dPtr (List.map nPtr l) i k=(l[i]?).bind k:=zc9 dPtr l i k
@[simp] def zwi{β:Type}(l:List ByteArray)(i:Nat)(k:ByteArray->Option β):elemD dStr (List.map nStr l) i k=(l[i]?).bind k:=zc9 dStr l i k
def zaz{β:Type}{p:Prop}[Decidable p](h:p)(t e:Option β):brn (decide p) t e=t:=by rw[zhI,if_pos h]
theorem zaC{β:Type}{p:Prop}[Decidable p](h:¬p)(t e:Option β):brn (decide p) t e=e:=by rw[zhI,if_neg h]
abbrev w64(n:Int):Int:=IntKind.wrap .i64 n
abbrev wu64(n:Int):Int:=IntKind.wrap .u64 n
theorem w64_id{n:Int}(h1:-9223372036854775808<=n)(h2:n<9223372036854775808):w64 n=n:=by simp only[w64,IntKind.wrap,IntKind.bits,IntKind.signed,show((2:Int) ^ 64)=18446744073709551616 from rfl,show((2:Int) ^ (64-1))=9223372036854775808 from rfl,zdK,decide_eq_true_eq];split<;>omega
def zu0{n:Int}(h1:0<=n)(h2:n<18446744073709551616):wu64 n=n:=by
 simp only[wu64,IntKind.wrap,IntKind.bits,IntKind.signed,show((2:Int) ^ 64)=18446744073709551616 from rfl,zeW]
 grind
def zoH{α:Type}(l:List α)(M:Nat->List α->Prop)(h0:M l.length [])(hs:∀(i:Nat) (x:α) (r:List α) (hi:i<l.length),l[i]=x->l.drop (i+1)=r->M (i+1) r->M i (x::r)):M 0 l:=by
 have key:∀(k i:Nat),i+k=l.length->M i (l.drop i):=by
  intro k
  induction k with
  |zero=>simp_all
  |succ k ih =>
    intro i hi;have hlt:i<l.length:=by omega
    rw[zbE hlt]
    grind
 have:=key l.length 0 (by omega);simpa using this
def mfind{κ ν:Type}[DecidableEq κ](k:κ):List (κ×ν)->Option ν
 |[]=>none
 |p::r=>if p.1=k then some p.2 else mfind k r
def mput{κ ν:Type}[DecidableEq κ](k:κ)(v:ν):List (κ×ν)->List (κ×ν)
 |[]=>[(k,v)]
 |p::r=>if p.1=k then(k,v)::r else p::mput k v r
section
variable{P:Program}{kt:TypeId}{κ ν:Type}[DecidableEq κ]{kenc:κ->AV}{venc:ν->AV}
def zGB(hK:∀x y,keyEq P kt (kenc x) (kenc y)=some (decide (y=x)))(key:κ):∀l:List (κ×ν),mlook P kt (kenc key) (l.map λp=>[kenc p.1,venc p.2])=some ((mfind key l).map venc)
 |[]=>rfl
 |p::r=>by
   simp only[zbx,mlook,hK,mfind];by_cases h:p.1=key
   .simp_all
   .rw[decide_eq_false h,if_neg h];exact zGB hK key r
def mset_gen(hK:∀x y,keyEq P kt (kenc x) (kenc y)=some (decide (y=x)))(key:κ)(v:ν):∀l:List (κ×ν),mset P kt (kenc key) (venc v) (l.map λp=>[kenc p.1,venc p.2])=some ((mput key v l).map λp=>[kenc p.1,venc p.2])
 |[]=>rfl
 |p::r=>by
   simp only[zbx,mset,hK,mput];by_cases h:p.1=key
   .simp_all
   .rw[decide_eq_false h,if_neg h];simp only[mset_gen hK key v r,zbx]
def zDQ{β:Type}{agg:Bool}{D:TyD}{venc:D.α->AV}(hK:∀x y,keyEq P kt (kenc x) (kenc y)=some (decide (y=x)))(hV:∀x,avDec agg D (venc x)=some x)(z:D.α)(key:κ)(l:List (κ×D.α))(k:D.α->Bool->Option β):mapD P kt agg D (venc z) (l.map λp=>[kenc p.1,venc p.2]) (kenc key) k=k ((mfind key l).getD z) (mfind key l).isSome:=by
 unfold mapD;rw[zGB hK key l]
 cases hm:mfind key l with
 |none=>simp_all
 |some x=>simp_all
def zAZ{β:Type}{et:TypeId}(hK:∀x y,keyEq P kt (kenc x) (kenc y)=some (decide (y=x)))(key:κ)(v:ν)(l:List (κ×ν))(k:List (List AV)->Option β):msetD P kt et (kenc key) (venc v) (l.map λp=>[kenc p.1,venc p.2]) k=k ((mput key v l).map λp=>[kenc p.1,venc p.2]):=by unfold msetD;rw[mset_gen hK key v l]
end
structure VD where
 α:Type
 enc:α->AV
 inj:∀x y,enc x=enc y->x=y
structure LD where
 α:Type
 enc:α->List AV
 inj:∀x y,enc x=enc y->x=y
structure MD where
 α:Type
 enc:α->Mem
 inj:∀x y,enc x=enc y->x=y
abbrev vI(k:IntKind):VD:=⟨Int,λx=>.v (.int k x),λx y h=>by simpa using h⟩
abbrev vBool:VD:=⟨Bool,λx=>.v (.bool x),λx y h=>by simpa using h⟩
abbrev vStr:VD:=⟨ByteArray,λx=>.v (.string x),λx y h=>by simpa using h⟩
abbrev vAgg(D:TyD):VD:=⟨D.α,λx=>.agg (D.enc x),λx y h=>D.inj (by simpa using h)⟩
abbrev vSl(z:Nat)(D:TyD):VD:=⟨List D.α,λx=>.sl z (List.map D.enc x),λx y h=>by simpa only[AV.sl.injEq,true_and,TyD.minj]using h⟩
abbrev vNew(z:Nat)(e:TypeId)(D:TyD):VD:=⟨List D.α,λx=>.new z e (List.map D.enc x),λx y h=>by simpa only[AV.new.injEq,true_and,TyD.minj]using h⟩
abbrev vNewp(z:Nat)(e:TypeId)(D:TyD):VD:=⟨D.α,λx=>.newp z e (D.enc x),λx y h=>D.inj (by simpa using h)⟩
abbrev vMp(D:TyD):VD:=⟨List D.α,λx=>.mp (List.map D.enc x),λx y h=>by simpa only[AV.mp.injEq,TyD.minj]using h⟩
abbrev lOne(V:VD):LD:=⟨V.α,λx=>[V.enc x],λx y h=>V.inj x y (by simpa using h)⟩
abbrev lCons(V:VD)(L:LD):LD:=⟨V.α×L.α,λx=>V.enc x.1::L.enc x.2,λx y h=>by
 simp only[zap]at h
 exact zfR (V.inj _ _ h.1) (L.inj _ _ h.2)⟩
abbrev mBox(k z:Nat)(e:TypeId)(D:TyD):MD:=⟨D.α,λx=>[(k,⟨z,e,[D.enc x],true⟩)],λx y h=>D.inj (by simpa using h)⟩
abbrev r0:RD:=RD.of Unit (λ_=>(.tup [],[])) (λx y _=>by cases x;cases y;rfl)
abbrev r1(V:VD):RD:=RD.of V.α (λx=>(V.enc x,[])) (λx y h=>V.inj x y (by simpa using h))
abbrev rT(L:LD):RD:=RD.of L.α (λx=>(.tup (L.enc x),[])) (λx y h=>L.inj x y (by simpa using h))
abbrev r1M(V:VD)(M:MD):RD:=RD.of (V.α×M.α) (λx=>(V.enc x.1,M.enc x.2)) (λx y h=>by
 simp only[zan]at h
 exact zfR (V.inj _ _ h.1) (M.inj _ _ h.2))
abbrev rTM(L:LD)(M:MD):RD:=RD.of (L.α×M.α) (λx=>(.tup (L.enc x.1),M.enc x.2)) (λx y h=>by
 simp only[zan,AV.tup.injEq]at h
 exact zfR (L.inj _ _ h.1) (M.inj _ _ h.2))
def altD:List (Nat×RD)->Nat->RD
 |[],_=>rRaw
 |(j,d)::r,k=>if k=j then d else altD r k
def Dic.of(ty:List TyD)(res:List RD)(alt:List (Nat×RD):=[]):Dic:={ ty:=λt=>ty.getD t dRaw,res:=λf=>if f<100000 then res.getD f rRaw else altD alt (f-100000) }
section
variable[Dr]
def block_lt{w:World}{a:Addr}{v:Value}(h:w.cell? a=some v):a.block<w.heap.size:=by
 by_cases hb:a.block<w.heap.size
 .exact hb
 .have:w.heap[a.block]?=none:=zgi (by omega);unfold World.cell? at h;rw[this]at h;simp at h
def zFR{P:Program}{C:Cfg}{F:AnnF}{f:FuncId}{args:aN}{x:Value}{ms:Mem}(h:callw P C F f args []=some (.v x,ms))(w:World)(vals:aV)(hl:vals.size=args.length)
  (hr:∀(k:Nat) (a:AV) (y:Value),args[k]?=some a->vals[k]?=some y->VRel (λg=>g<w.heap.size) (λ_=>none) (λ_=>False) w a y) (hk:Dr.ok (λg=>g<w.heap.size) w:=by exact trivial):Calls P f vals w λe w'=>e=.returned x/\Below w.heap.size w w':=by
 obtain⟨_,h2⟩:=zDt f args [] (.v x) ms h
 have h3:=h2 w (λg=>g<w.heap.size) (λ_=>none) vals hl (λg hg=>hg) hk (λk a y ha hy=>(hr k a y ha hy).mono (λ_ h=>h) (λ_ _=>rfl) (λ_ h=>h.elim) (λ_ h=>h.elim))
  (λb ent hb=>by simp[look]at hb) (λb b' g c c' hb=>by simp[Dm,look]at hb)
 refine h3.mono ?_
 rintro e w' ⟨y,S',_,rfl,hos,htape,hout,hsz,hold,hsup,_,_,_,_,_,_,hres⟩
 have hy:y=x:=by have:CRel S' w' (.v x) y:=hres;cases this;rfl
 subst hy;exact⟨rfl,hos,htape,hout.1,hsz,λg hg=>hold g hg (λb c hb=>by simp[Dm,look]at hb)⟩
end
section
variable[Dr]
section
variable{w0:World}{S0:aD}{κ0:Kap}{K:aD}{N:Nat}{S:aD}{κ:Kap}{T:Nat->AV}{L:aK}{a:Act}{w:World}
def Good.rebase(h:Good w0 S0 κ0 K N S κ T L a w):Good w S κ (λb=>(L b).isSome=true) N S κ T L a w where
 base:=⟨h.okw,λg hg=>⟨h.slt g hg,λb c hl hk=>by
  obtain⟨ent,he⟩:=zaT.1 hl;have:=h.ents b ent he;rw[hk]at this
  exact this.notS hg⟩⟩
 defers:=h.defers
 size:=h.size
 os:=rfl
 tape:=rfl
 output:=.of
 grow:=zav _
 old:=λ_ _ _=>rfl
 sup:=λ_ h=>h
 snew:=λ_ h=>.inl h
 slt:=h.slt
 par:=λ_ _=>rfl
 parK:=λ_ _ h=>h
 own:=λb _ c hb hl hk=>.inr ⟨b,c,hb,hl,hk⟩
 inj:=h.inj
 ents:=h.ents
 slots:=h.slots
def Good.mine(h:Good w0 S0 κ0 K N S κ T L a w){g:Nat}(hm:Mine w κ (λb=>(L b).isSome=true) g):Mine w0 κ0 K g:=by
 rcases hm with hm|⟨b,c,hb,hl,hk⟩
 .exact .inl (za5 h.grow hm)
 .exact h.own b g c hb hl hk
def Good.join{S':aD}{κ':Kap}{T':Nat->AV}{L':aK}{a':Act}{w':World}(h:Good w0 S0 κ0 K N S κ T L a w)(h2:Good w S κ (λb=>(L b).isSome=true) N S' κ' T' L' a' w'):Good w0 S0 κ0 K N S' κ' T' L' a' w' where
 base:=h.base
 defers:=h2.defers
 size:=h2.size
 os:=h2.os.trans h.os
 tape:=h2.tape.trans h.tape
 output:=h.output.trans h2.output
 grow:=za5 h.grow h2.grow
 old:=λg hg hK=>by
  rw[h2.old g (zbO hg h.grow) ?_]
  .exact h.old g hg hK
  . intro b c hl hk;by_cases hb:b<1000
    . rcases h.own b g c hb hl hk with q|⟨b',c',_,q2,q3⟩
      .omega
      .exact hK b' c' q2 q3
    .exact hK b c (h.parK b (by omega) hl) (by rw[<-h.par b (by omega)];exact hk)
 sup:=λg hg=>h2.sup g (h.sup g hg)
 snew:=λg hg=>by
  rcases h2.snew g hg with q|q
  .exact h.snew g q
  .exact .inr (h.mine q)
 slt:=h2.slt
 par:=λb hb=>(h2.par b hb).trans (h.par b hb)
 parK:=λb hb hl=>h.parK b hb (h2.parK b hb hl)
 own:=λb g c hb hl hk=>h.mine (h2.own b g c hb hl hk)
 inj:=h2.inj
 ents:=h2.ents
 slots:=h2.slots
def Far(S:aD)(κ:Kap)(L:aK)(w:World)(g:Nat):Prop:=g<w.heap.size/\¬S g/\∀b c,(L b).isSome=true->κ b≠some (g,c)
def Good.far{S':aD}{κ':Kap}{T':Nat->AV}{L':aK}{a':Act}{w':World}(h2:Good w S κ (λb=>(L b).isSome=true) N S' κ' T' L' a' w'){g:Nat}(hg:Far S κ L w g):w'.heap[g]?=w.heap[g]?/\Far S' κ' L' w' g:=by
 obtain⟨h1,h3,h4⟩:=hg
 have hno:¬Mine w κ (λb=>(L b).isSome=true) g:=λhm=>by
  rcases hm with hm|⟨b,c,_,hl,hk⟩
  .omega
  .exact h4 b c hl hk
 refine⟨h2.old g h1 h4,zbO h1 h2.grow,λhs=>?_,λb c hl hk=>?_⟩
 . rcases h2.snew g hs with q|q
   .exact h3 q
   .exact hno q
 . by_cases hb:b<1000
   .exact hno (h2.own b g c hb hl hk)
   .exact h4 b c (h2.parK b (by omega) hl) (by rw[<-h2.par b (by omega)];exact hk)
def leaf{P:Program}{C:Cfg}{A:Ann}{call:zcR}{n:Nat}(hcall:CallOK P call)(hN:N<=1000){c:Code}{st st':St}{ex:Ex}(hev:aeval P C A N call (iter n) c st=some (ex,st'))
  (h:Good w0 S0 κ0 K N S κ (fs st).1 (fs st).2 a w) {Q:aX}
  (hQ:∀a' w' S' κ',Good w0 S0 κ0 K N S' κ' (fs st').1 (fs st').2 a' w'->(∀g,S g->S' g)->(∀g,Far S κ (fs st).2 w g->w'.heap[g]?=w.heap[g]?/\Far S' κ' (fs st').2 w' g)->(∀g,S g->w'.heap[g]?=w.heap[g]?)->Q ex.toExit a' w'):c.wp P Q a w:=by
 refine wp_mono (zCu hcall hN c st ex st' hev a w ⟨S,κ,h.rebase⟩) ?_
 rintro e a' w' ⟨rfl,S',κ',hg⟩
 refine hQ a' w' S' κ' (h.join hg) hg.sup (λg hf=>hg.far hf) (λg hs=>hg.old g (h.slt g hs) (λb c hl hk=>?_));obtain⟨ent,he⟩:=zaT.1 hl;have:=h.ents b ent he;rw[hk]at this;exact this.notS hs
def leafR{R:Fr}{T:Dic}{j id:Nat}{ops:aT}{draw:Bool}{c:Code}{st st':St}(hb:R.fn.body=some c)(hc:regOf j c=some (.region id ops draw))(ht:tReg R T j st=some st')(hN:R.fn.ntmps<=1000)
  (h:Good w0 S0 κ0 K R.fn.ntmps S κ (fs st).1 (fs st).2 a w) {Q:aX}
  (hQ:∀a' w' S' κ',Good w0 S0 κ0 K R.fn.ntmps S' κ' (fs st').1 (fs st').2 a' w'->(∀g,S g->S' g)->(∀g,Far S κ (fs st).2 w g->w'.heap[g]?=w.heap[g]?/\Far S' κ' (fs st').2 w' g)->(∀g,S g->w'.heap[g]?=w.heap[g]?)->Q .normal a' w'):(Code.region id ops draw).wp R.P Q a w:=
 leaf (n:=0) (zDt (C:=R.C) (A:=R.F)) hN (tReg_sound hb hc ht (iter 0)) h hQ
def Good.forget{T':Nat->AV}(h:Good w0 S0 κ0 K N S κ T L a w)(hT:∀k,T' k=T k\/T' k=.bot):Good w0 S0 κ0 K N S κ T' L a w:=
 { h with
   slots:=λk=>by
    rcases hT k with e|e
    .rw[e];exact h.slots k
    .rw[e];exact .bot _ }
structure FarObj(S:aD)(w:World)(κd:Kap)(Ld:aK):Prop where
 ents:∀b ent,Ld b=some ent->EntAt S κd (λb=>(Ld b).isSome=true) w (κd b) ent
 inj:∀b b' g c c',(Ld b).isSome=true->(Ld b').isSome=true->κd b=some (g,c)->κd b'=some (g,c')->b=b'
def FarObj.mono{S':aD}{w':World}{κd:Kap}{Ld:aK}(h:FarObj S w κd Ld)(hS:∀g,S g->S' g)(hw:∀g,S g->w'.heap[g]?=w.heap[g]?)
  (hd:∀b g c,(Ld b).isSome=true->κd b=some (g,c)->w'.heap[g]?=w.heap[g]?/\¬S' g):FarObj S' w' κd Ld where
 ents:=λb ent hb=>(h.ents b ent hb).mono hS hw (λ_ h=>h) (λ_ _=>rfl) (λg c hk=>hd b g c (by simp[hb]) hk)
 inj:=h.inj
def overK(κ κd:Kap)(Ld:aK):Kap:=λb=>if(Ld b).isSome=true then κd b else κ b
def overL(L Ld:aK):Nat->Option Ent:=λb=>if(Ld b).isSome=true then Ld b else L b
def Good.focus(h:Good w0 S0 κ0 K N S κ T L a w){κd:Kap}{Ld:aK}(hF:FarObj S w κd Ld)(hn:∀b,(Ld b).isSome=true->b<1000/\L b=none)
  (hfar:∀b g c,(Ld b).isSome=true->κd b=some (g,c)->Far S κ L w g/\Mine w0 κ0 K g):Good w0 S0 κ0 K N S (overK κ κd Ld) T (overL L Ld) a w:=by
 have hD1:∀b,(L b).isSome=true->(overL L Ld b).isSome=true:=λb hb=>by
  unfold overL
  grind
 have hκ1:∀b,(L b).isSome=true->overK κ κd Ld b=κ b:=λb hb=>by
  unfold overK
  grind
 have hD2:∀b,(Ld b).isSome=true->(overL L Ld b).isSome=true:=λb hb=>by
  unfold overL
  grind
 have hκ2:∀b,(Ld b).isSome=true->overK κ κd Ld b=κd b:=λb hb=>if_pos hb
 have hcase:∀b,(overL L Ld b).isSome=true->((Ld b).isSome=true/\overL L Ld b=Ld b/\overK κ κd Ld b=κd b)\/(¬(Ld b).isSome=true/\(L b).isSome=true/\overL L Ld b=L b/\overK κ κd Ld b=κ b):=λb hb=>by
  by_cases hd:(Ld b).isSome=true
  .exact .inl ⟨hd,if_pos hd,if_pos hd⟩
  .unfold overL at hb;rw[if_neg hd]at hb;exact .inr ⟨hd,hb,if_neg hd,if_neg hd⟩
 exact{ h with
  par:=λb hb=>by rw[<-h.par b hb];exact if_neg (λhd=>by grind)
  parK:=λb hb hl=>by
   rcases hcase b hl with⟨hd,_⟩|⟨_,hl,_⟩
   .grind
   .exact h.parK b hb hl
  own:=λb g c hb hl hk=>by
   rcases hcase b hl with⟨hd,_,e⟩|⟨_,hl,_,e⟩
   .grind
   .rw[e]at hk;exact h.own b g c hb hl hk
  inj:=λb b' g c c' hl hl' hk hk'=>by
   rcases hcase b hl with⟨hd,_,e⟩|⟨_,hl,_,e⟩
   . rcases hcase b' hl' with⟨hd',_,e'⟩|⟨_,hl',_,e'⟩
     .rw[e]at hk;rw[e']at hk';exact hF.inj b b' g c c' hd hd' hk hk'
     .rw[e]at hk;rw[e']at hk';exact absurd hk' ((hfar b g c hd hk).1.2.2 b' c' hl')
   . rcases hcase b' hl' with⟨hd',_,e'⟩|⟨_,hl',_,e'⟩
     .rw[e]at hk;rw[e']at hk';exact absurd hk ((hfar b' g c' hd' hk').1.2.2 b c hl)
     .rw[e]at hk;rw[e']at hk';exact h.inj b b' g c c' hl hl' hk hk'
  ents:=λb ent hb=>by
   rcases hcase b (by simp[hb])with⟨hd,e1,e2⟩|⟨hd,hl,e1,e2⟩
   .rw[e1]at hb;rw[e2];have hE:=hF.ents b ent hb;exact hE.mono (λ_ h=>h) (λ_ _=>rfl) hD2 hκ2 (λg c hk=>⟨rfl,(hfar b g c hd hk).1.2.1⟩)
   .rw[e1]at hb;rw[e2];have hE:=h.ents b ent hb;exact hE.mono (λ_ h=>h) (λ_ _=>rfl) hD1 hκ1 (λg c hk=>⟨rfl,by rw[hk]at hE;exact hE.notS⟩)
  slots:=λk=>(h.slots k).mono (λ_ h=>h) (λ_ _=>rfl) hD1 hκ1 }
def Good.thing(h:Good w0 S0 κ0 K N S κ T L a w){Ld:aK}(hd:∀b ent,Ld b=some ent->L b=some ent)
  (hc:∀b ent,Ld b=some ent->ent.box=true->∀cs∈ent.es,∀x∈cs,∀v,VRel S κ (λb=>(L b).isSome=true) w x v->VRel S κ (λb=>(Ld b).isSome=true) w x v):FarObj S w κ Ld where
 ents:=λb ent hb=>by have hE:=h.ents b ent (hd b ent hb);exact ent_tail hE (λ_ h=>h) (λg c hk=>by rw[hk]at hE;exact hE.notS) (λhbx cs hcs x hx v hv=>hc b ent hb hbx cs hcs x hx v hv)
 inj:=λb b' g c c' hb hb'=>by obtain⟨e,he⟩:=zaT.1 hb;obtain⟨e',he'⟩:=zaT.1 hb';exact h.inj b b' g c c' (by simp[hd b e he]) (by simp[hd b' e' he'])
def Good.thingFar(h:Good w0 S0 κ0 K N S κ T L a w){Ld L':aK}(hd:∀b ent,Ld b=some ent->L b=some ent)(hL:∀b,(L' b).isSome=true->(L b).isSome=true/\¬(Ld b).isSome=true):∀b g c,(Ld b).isSome=true->κ b=some (g,c)->Far S κ L' w g/\(b<1000->Mine w0 κ0 K g):=λb g c hb hk=>by
 obtain⟨e,he⟩:=zaT.1 hb;have hE:=h.ents b e (hd b e he);rw[hk]at hE;refine⟨⟨hE.lt,hE.notS,λb' c' hl' hk'=>?_⟩,λhb'=>h.own b g c hb' (by simp[hd b e he]) hk⟩;have:=h.inj b b' g c c' (by simp[hd b e he]) (hL b' hl').1 hk hk'
 simp_all
end
end
section
variable[Dr]
section
variable{w0:World}{S0:aD}{κ0:Kap}{K:aD}{N:Nat}{S S':aD}{κ κ':Kap}{a:Act}{w w':World}{st:St}
abbrev GoodS(w0:World)(S0:aD)(κ0:Kap)(K:aD)(N:Nat)(S:aD)(κ:Kap)(st:St)(a:Act)(w:World):Prop:=Good w0 S0 κ0 K N S κ (get st.t) (look st.m) a w
def GoodS.del(h:GoodS w0 S0 κ0 K N S κ st a w)(b:Nat):GoodS w0 S0 κ0 K N S κ (del b st) a w:=by
 have:=Good.del h b;have e1:get (Ab.del b st).t=λk=>(get st.t k).kill b 4:=funext λk=>zox b st.t k
 have e2:look (Ab.del b st).m=killL b (look st.m):=funext λc=>ziW b st.m c
 grind
def GoodS.ren(h:GoodS w0 S0 κ0 K N S κ st a w){b s:Nat}(hb:b<1000)(hs:s<1000)(hbs:b≠s)(hL:look st.m s=none):GoodS w0 S0 κ0 K N S (λc=>if c=s then κ b else κ c) (renS b s st) a w:=by
 have:=Good.ren h hb hs hbs hL;have e1:get (renS b s st).t=λk=>(get st.t k).ren b s 4:=funext λk=>zDL b s st.t k
 have e2:look (renS b s st).m=renL b s (look st.m):=funext λc=>zAY hbs st.m c hL
 grind
def get_keep(t:Tab):∀(ks:aO) (j:Nat),get (ks.map λk=>(k,get t k)) j=get t j\/get (ks.map λk=>(k,get t k)) j=.bot
 |[],_=>.inr rfl
 |k::ks,j=>by
   simp only[zbx,get];split
   .simp_all
   .exact get_keep t ks j
def trim(ks ds:aO)(st:St):St:=
 let s:=ds.foldl (λs b=>del b s) st
 { t:=ks.map λk=>(k,get s.t k),m:=sortM s.m }
def GoodS.dels:∀(ds:aO) {st:St},GoodS w0 S0 κ0 K N S κ st a w->GoodS w0 S0 κ0 K N S κ (ds.foldl (λs b=>Ab.del b s) st) a w
 |[],_,h=>h
 |b::ds,_,h=>GoodS.dels ds (h.del b)
def GoodS.trim(h:GoodS w0 S0 κ0 K N S κ st a w)(ks ds:aO):GoodS w0 S0 κ0 K N S κ (trim ks ds st) a w:=by
 have h1:=GoodS.dels ds h;have e2:look (Ab.trim ks ds st).m=look (ds.foldl (λs b=>Ab.del b s) st).m:=funext λc=>zuR _ c
 unfold GoodS;rw[e2];exact Good.forget h1 (λk=>get_keep _ ks k)
def GoodS.set(h:GoodS w0 S0 κ0 K N S κ st a w)(k:Nat)(x:AV)(hx:VRel S κ (λb=>(look st.m b).isSome=true) w x (a.tmps.getD k undef)):GoodS w0 S0 κ0 K N S κ { st with t:=(k,x)::st.t } a w:=
 { h with
   slots:=λj=>by
    simp only[get];split
    .simp_all
    .exact h.slots j }
def look_app:∀(m1 m2:Mem) (b:Nat),look (m1++m2) b=if(look m1 b).isSome=true then look m1 b else look m2 b
 |[],m2,b=>by simp[look]
 |(j,e)::r,m2,b=>by
   simp only[zfQ,look];by_cases hb:b=j
   .simp[hb]
   .simp only[if_neg hb];exact look_app r m2 b
def GoodS.focus{t:Tab}{m md:Mem}{κd:Kap}(h:GoodS w0 S0 κ0 K N S κ ⟨t,m⟩ a w)(hF:FarObj S w κd (look md))(hn:∀b,(look md b).isSome=true->b<1000/\look m b=none)
  (hfar:∀b g c,(look md b).isSome=true->κd b=some (g,c)->Far S κ (look m) w g/\Mine w0 κ0 K g):GoodS w0 S0 κ0 K N S (overK κ κd (look md)) ⟨t,md++m⟩ a w:=by
 have:=Good.focus h hF hn hfar;have e:look (md++m)=overL (look m) (look md):=funext λb=>look_app md m b
 grind
structure Objs(w0:World)(κ0:Kap)(K:aD)(S:aD)(κ:Kap)(L:aK)(w:World)(M:Nat->Option Mem)(κd:Nat->Kap):Prop where
 obj:∀i m,M i=some m->FarObj S w (κd i) (look m)
 far:∀i m b g c,M i=some m->(look m b).isSome=true->κd i b=some (g,c)->Far S κ L w g/\Mine w0 κ0 K g
 dis:∀i j m m' b b' g c c',M i=some m->M j=some m'->(look m b).isSome=true->(look m' b').isSome=true->κd i b=some (g,c)->κd j b'=some (g,c')->i=j
variable{M:Nat->Option Mem}{κd:Nat->Kap}{L L':aK}
def Objs.none:Objs w0 κ0 K S κ L w (λ_=>none) κd where
 obj:=λ_ _ h=>by cases h
 far:=λ_ _ _ _ _ h=>by cases h
 dis:=λ_ _ _ _ _ _ _ _ _ h=>by cases h
def Objs.step(h:Objs w0 κ0 K S κ L w M κd)(hS:∀g,S g->S' g)(hf:∀g,Far S κ L w g->w'.heap[g]?=w.heap[g]?/\Far S' κ' L' w' g)(hw:∀g,S g->w'.heap[g]?=w.heap[g]?):Objs w0 κ0 K S' κ' L' w' M κd where
 obj:=λi m hi=>(h.obj i m hi).mono hS hw (λb g c hb hk=>⟨(hf g (h.far i m b g c hi hb hk).1).1,(hf g (h.far i m b g c hi hb hk).1).2.2.1⟩)
 far:=λi m b g c hi hb hk=>⟨(hf g (h.far i m b g c hi hb hk).1).2,(h.far i m b g c hi hb hk).2⟩
 dis:=h.dis
def Objs.kap(h:Objs w0 κ0 K S κ L w M κd)(hk:∀b g c,(L' b).isSome=true->κ' b=some (g,c)->∃b0 c0,(L b0).isSome=true/\κ b0=some (g,c0)):Objs w0 κ0 K S κ' L' w M κd where
 obj:=h.obj
 far:=λi m b g c hi hb hkd=>by
  obtain⟨⟨f1,f2,f3⟩,f4⟩:=h.far i m b g c hi hb hkd;refine⟨⟨f1,f2,λb' c' hl hk'=>?_⟩,f4⟩
  grind
 dis:=h.dis
def only(ks:aO):AV->Bool
 |.v _|.sl ..|.mp ..|.fp ..|.fa ..=>true
 |.row b _ _ _=>ks.contains b
 |.map b=>ks.contains b
 |.loc b _ _ _=>ks.contains b
 |_=>false
def only_sound{D D':aD}{ks:aO}(hD:∀b∈ks,D' b){x:AV}{v:Value}(ho:only ks x=true)(h:VRel S κ D w x v):VRel S κ D' w x v:=by
 cases x with
 |v x=>cases h with|c h=>exact .c h
 |sl z es=>exact .c h.sl_inv
 |mp es=>exact .c h.mp_inv
 |fp cs=>exact .c h.fp_inv
 |fa z es=>exact .c h.fa_inv
 |row b z i n =>
   have hb:=hD b (by simpa[only]using ho)
   cases h with
   |c h=>cases h
   |row0 _ _ hd hk=>exact .row0 _ _ hb hk
   |row _ _ _ _ g c off' cap hd hk hn ho hc=>exact .row _ _ _ _ g c off' cap hb hk hn ho hc
 |map b=>have hb:=hD b (by simpa[only]using ho);obtain⟨g,c,hd,hk,rfl⟩:=h.map_inv;exact .map b g c hb hk
 |loc b z i o=>have hb:=hD b (by simpa[only]using ho);obtain⟨g,c,hd,hk,rfl⟩:=h.loc_inv;exact .loc b z i o g c hb hk
 |_=>cases ho
def onlyM(md:Mem):Bool:=md.all λp=>!p.2.box||p.2.es.all λcs=>cs.all (only (md.map (·.1)))
def zLw{D:aD}{md:Mem}(h:onlyM md=true):∀b ent,look md b=some ent->ent.box=true->∀cs∈ent.es,∀x∈cs,∀v,VRel S κ D w x v->VRel S κ (λb=>(look md b).isSome=true) w x v:=by intro b ent hb hbx cs hcs x hx v hv;have h1:=zbd.1 h (b,ent) (zoD hb);simp only[hbx,zaS,Bool.false_or]at h1;have h2:=zbd.1 (zbd.1 h1 cs hcs) x hx;exact only_sound (λb hb=>zlB (by simpa[ids]using hb)) h2 hv
def GoodS.start{args:aN}{vals:aV}{ms:Mem}{N:Nat}(hvl:vals.size=args.length)(hN:args.length<=N)(hS:∀g,S g->g<w.heap.size)(hk:Dr.ok S w)
  (hv:∀(k:Nat) (a:AV) (x:Value),args[k]?=some a->vals[k]?=some x->VRel S κ (Dm ms) w a x) (hms:∀b ent,look ms b=some ent->EntAt S κ (Dm ms) w (κ b) ent)
  (hinj:∀b b' g c c',Dm ms b->Dm ms b'->κ b=some (g,c)->κ b'=some (g,c')->b=b'):GoodS w S κ (Dm ms) N S κ { t:=argTab 0 args,m:=ms } { tmps:=vals++Array.replicate (N-vals.size) undef,defers:=[] } w where
 base:=⟨hk,λg hg=>⟨hS g hg,λb c hl hκ=>by
    obtain⟨ent,he⟩:=zaT.1 hl;have:=hms b ent he;rw[hκ]at this
    exact this.notS hg⟩⟩
 defers:=rfl
 size:=by simp;omega
 os:=rfl
 tape:=rfl
 output:=.of
 grow:=zav _
 old:=λ_ _ _=>rfl
 sup:=λ_ h=>h
 snew:=λ_ h=>.inl h
 slt:=hS
 par:=λ_ _=>rfl
 parK:=λ_ _ h=>h
 own:=λb g c' hb' hl hk=>.inr ⟨b,c',hb',hl,hk⟩
 inj:=hinj
 ents:=λb ent he=>hms b ent he
 slots:=λk=>by
  rw[zyj];simp only[zcT,if_true,Nat.sub_zero]
  cases hk:args[k]? with
  |none=>exact .bot _
  |some a =>
    have hlt:k<vals.size:=by have:=(zal.1 hk).1;omega
    have:(vals++Array.replicate (N-vals.size) undef).getD k undef=vals[k]:=by rw[zcW,zgY,if_pos hlt,zaN hlt];rfl
    rw[this];exact hv k a _ hk (zaN hlt)
def zGu:∀(ds:aO) (st:St) (b:Nat),(look (ds.foldl (λs b=>del b s) st).m b).isSome=true->(look st.m b).isSome=true
 |[],_,_,h=>h
 |d::ds,st,b,h=>by
   have h1:=zGu ds (del d st) b h;have h2:look (del d st).m b=killL d (look st.m) b:=ziW d st.m b;rw[h2]at h1;unfold killL at h1
   grind
def zGw(ks ds:aO)(st:St)(b:Nat)(h:(look (trim ks ds st).m b).isSome=true):(look st.m b).isSome=true:=by have e:look (trim ks ds st).m b=look (ds.foldl (λs b=>del b s) st).m b:=zuR _ b;rw[e]at h;exact zGu ds st b h
def Now(w0:World)(S0:aD)(κ0:Kap)(K:aD)(N:Nat)(M:Nat->Option Mem)(κd:Nat->Kap)(st:St)(a:Act)(w:World):Prop:=
 ∃S κ,GoodS w0 S0 κ0 K N S κ st a w/\Objs w0 κ0 K S κ (look st.m) w M κd
def Now.trim{N:Nat}{M:Nat->Option Mem}{κd:Nat->Kap}{st st':St}(h:Now w0 S0 κ0 K N M κd st a w)(ks ds:aO)(e:trim ks ds st=st'):Now w0 S0 κ0 K N M κd st' a w:=by obtain⟨S,κ,h1,h2⟩:=h;subst e;exact⟨S,κ,h1.trim ks ds,h2.kap (λb g c hl hk=>⟨b,c,zGw ks ds st b hl,hk⟩)⟩
def Now.bool{N:Nat}{M:Nat->Option Mem}{κd:Nat->Kap}{st:St}(h:Now w0 S0 κ0 K N M κd st a w){k:Nat}{b:Bool}(hk:get st.t k=.v (.bool b)):a.eval (.tmp k)=.bool b:=by obtain⟨S,κ,h1,_⟩:=h;have:=h1.slots k;rw[hk]at this;exact this.v_inv
end
def opsAt(j:Nat)(c:Code):Array Oper:=match regOf j c with
 |some (.region _ o _)=>o
 |_=>#[]
def zBy(j:Nat)(c:Code):Bool:=match regOf j c with
 |some (.region _ _ d)=>d
 |_=>false
end
variable[Dr]
open Go.ChangeMaps (setBlock)
section
variable{w0:World}{S0:aD}{κ0:Kap}{K:aD}{N:Nat}{S S':aD}{κ κ':Kap}{a:Act}{w w':World}{st st':St}{L L':aK}
abbrev Sat2:=(Nat->Prop)->Kap->(Nat->Option Ent)->World->Prop
structure Stable(X:Sat2):Prop where
 step:∀{S S':aD} {κ κ':Kap} {L L':aK} {w w':World},X S κ L w->(∀g,S g->S' g)->(∀g,Far S κ L w g->w'.heap[g]?=w.heap[g]?/\Far S' κ' L' w' g)->(∀g,S g->w'.heap[g]?=w.heap[g]?)->X S' κ' L' w'
 kap:∀{S:aD} {κ κ':Kap} {L L':aK} {w:World},X S κ L w->(∀b g c,(L' b).isSome=true->κ' b=some (g,c)->∃b0 c0,(L b0).isSome=true/\κ b0=some (g,c0))->X S κ' L' w
def Stable.none:Stable λ_ _ _ _=>True:=⟨λ_ _ _ _=>trivial,λ_ _=>trivial⟩
def NowP(w0:World)(S0:aD)(κ0:Kap)(K:aD)(N:Nat)(X:Sat2)(st:St)(a:Act)(w:World):Prop:=∃S κ,GoodS w0 S0 κ0 K N S κ st a w/\X S κ (look st.m) w
def NowP.trim{X:Sat2}(hX:Stable X)(h:NowP w0 S0 κ0 K N X st a w)(ks ds:aO)(e:Ab.trim ks ds st=st'):NowP w0 S0 κ0 K N X st' a w:=by obtain⟨S,κ,h1,h2⟩:=h;subst e;exact⟨S,κ,h1.trim ks ds,hX.kap h2 (λb g c hl hk=>⟨b,c,zGw ks ds st b hl,hk⟩)⟩
def NowP.bool{X:Sat2}(h:NowP w0 S0 κ0 K N X st a w){k:Nat}{b:Bool}(hk:get st.t k=.v (.bool b)):a.eval (.tmp k)=.bool b:=by obtain⟨S,κ,h1,_⟩:=h;have:=h1.slots k;rw[hk]at this;exact this.v_inv
def cnt(a:Act)(k:Nat):Nat:=match a.tmps.getD k undef with
 |.int _ n=>n.toNat
 |_=>0
def NowP.cnt{X:Sat2}(h:NowP w0 S0 κ0 K N X st a w){k:Nat}{q:IntKind}{n:Int}(hk:get st.t k=.v (.int q n)):Ab.cnt a k=n.toNat:=by obtain⟨S,κ,h1,_⟩:=h;have:=h1.slots k;rw[hk]at this;unfold Ab.cnt;rw[this.v_inv]
def stepP{R:Fr}{T:Dic}{j id:Nat}{ops:aT}{draw:Bool}{c:Code}{X:Sat2}(hX:Stable X)(hb:R.fn.body=some c)(hN:R.fn.ntmps<=1000)(hr:regOf j c=some (.region id ops draw))(ht:tReg R T j st=some st')
  (h:NowP w0 S0 κ0 K R.fn.ntmps X st a w) {Q:aX} (hQ:∀a' w',NowP w0 S0 κ0 K R.fn.ntmps X st' a' w'->Q .normal a' w'):(Code.region id ops draw).wp R.P Q a w:=by
 obtain⟨S,κ,h1,h2⟩:=h;exact leafR hb hr ht hN h1 (λa' w' S' κ' hg hS hf hw=>hQ a' w' ⟨S',κ',hg,hX.step h2 hS hf hw⟩)
def tSeg(R:Fr)(T:Dic)(j i n:Nat)(st:St):Option St:=
 match R.fn.body with
 |some c=>match regOf j c with
   |some (.region _ ops _)=>tRun R.P R.C R.F T (R.F R.f).lits R.fn.ntmps ops i ((ops.toList.drop i).take n) (preDel ((ops.toList.drop i).take n) st) λ_ st1=>force st1 some
   |_=>none
 |none=>none
def ops_more{P:Program}{C:Cfg}{M:aO}{call:zcR}{N:Nat}{ops:aT}{Q:aX}{rest:aO}(hcall:CallOK P call)(hN:N<=1000):∀(l:List Oper) (k:Nat) (st st':St) (rs:List Mk),runOps P C M call N ops k l st=some (rs,st')->(∀j o,l[j]?=some o->ops[k+j]?=some o)->∀(a:Act) (w:World),GoodF w0 S0 κ0 K N (fs st) a w->(∀a' w',GoodF w0 S0 κ0 K N (fs st') a' w'->wpOps P ops Q rest a' w')->wpOps P ops Q (List.range' k l.length++rest) a w
 |[],k,st,st',rs,h,_,a,w,hg,hQ=>by
   simp[runOps]at h
   simp_all
 |o::l,k,st,st',rs,h,hl,a,w,hg,hQ=>by
   simp only[runOps]at h
   cases hs:aStep P C M call N ops o st with
   |none=>simp[hs]at h
   |some q =>
     obtain⟨r,st1⟩:=q;simp only[hs]at h
     cases ho:runOps P C M call N ops (k+1) l st1 with
     |none=>simp[ho]at h
     |some q=>obtain⟨rs',st2⟩:=q;simp only[zG,ho]at h;obtain⟨_,rfl⟩:=h;obtain⟨e1,e2⟩:=zC5 hs;rw[zaJ,ziI,zfQ,wpOps_cons];refine zxp hcall hN (hl 0 o rfl) e1 hg (λa' w' hg'=>?_);rw[<-e2]at hg';exact ops_more hcall hN l (k+1) st1 st2 rs' ho (λj o' hj=>by have:=hl (j+1) o' (by simpa using hj);grind) a' w' hg' hQ
def segP{R:Fr}{T:Dic}{j i n id:Nat}{ops:aT}{draw:Bool}{c:Code}{X:Sat2}(hX:Stable X)(hb:R.fn.body=some c)(hN:R.fn.ntmps<=1000)(hr:regOf j c=some (.region id ops draw))(ht:tSeg R T j i n st=some st')(hin:i+n<=ops.size)
  (h:NowP w0 S0 κ0 K R.fn.ntmps X st a w) {Q:aX} {rest:aO} (hQ:∀a' w',NowP w0 S0 κ0 K R.fn.ntmps X st' a' w'->wpOps R.P ops Q rest a' w'):wpOps R.P ops Q (List.range' i n++rest) a w:=by
 obtain⟨S,κ,h1,h2⟩:=h;unfold tSeg at ht;simp only[hb,hr]at ht;obtain⟨rs,st1,hrun,hst⟩:=zuS _ _ _ _ _ ht;rw[zvs]at hst;injection hst with hst;subst hst
 have hl:((ops.toList.drop i).take n).length=n:=by rw[zcH,zdk];simp;omega
 have hp:GoodF w S κ (λb=>(look st.m b).isSome=true) R.fn.ntmps (fs (preDel ((ops.toList.drop i).take n) st)) a w:=GoodF.preDel _ st ⟨S,κ,Good.rebase h1⟩
 have:=ops_more (rest:=rest) (Q:=Q) (zDt (C:=R.C) (A:=R.F)) hN _ i _ _ rs hrun (λk o hk=>by
  grind) a w hp (λa' w' hg=>by
  obtain⟨S',κ',hg⟩:=hg;refine hQ a' w' ⟨S',κ',Good.join h1 hg,hX.step h2 hg.sup (λg hf=>hg.far hf) (λg hs=>hg.old g (h1.slt g hs) (λb c hl hk=>?_))⟩;obtain⟨ent,he⟩:=zaT.1 hl;have:=h1.ents b ent he;rw[hk]at this
  exact this.notS hs)
 simp_all
def getD_put{d:Nat}{y:Value}(hd:d<a.tmps.size)(k:Nat):(a.put (some d) y).tmps.getD k undef=if k=d then y else a.tmps.getD k undef:=by
 show(a.tmps.setIfInBounds d y).getD k undef=_;rw[zcW,zcW,Array.getElem?_setIfInBounds]
 grind
def GoodS.put(h:GoodS w0 S0 κ0 K N S κ st a w){d:Nat}(hd:d<N)(x:AV)(y:Value)(hx:VRel S κ (λb=>(look st.m b).isSome=true) w x y):GoodS w0 S0 κ0 K N S κ { st with t:=(d,x)::st.t } (a.put (some d) y) w:=
 { h with
   base:=h.base
   defers:=h.defers
   size:=by show(a.tmps.setIfInBounds d y).size=N;simp[h.size]
   slots:=λk=>by
    rw[getD_put (by rw[h.size];exact hd)];simp only[get];by_cases hk:k=d
    .simp only[hk,if_true];exact hx
    .simp only[if_neg hk];exact h.slots k }
def GoodS.world(h:GoodS w0 S0 κ0 K N S κ st a w)(hos:w'.os=w.os)(htape:w'.tape=w.tape)(hout:OutD w w')(hsz:w.heap.size<=w'.heap.size)
  (hb:∀g,g<w.heap.size->¬(Far S κ (look st.m) w g/\Mine w0 κ0 K g)->w'.heap[g]?=w.heap[g]?):GoodS w0 S0 κ0 K N S κ st a w':=by
 have hS:∀g,S g->w'.heap[g]?=w.heap[g]?:=λg hg=>hb g (h.slt g hg) (λq=>q.1.2.1 hg)
 have hκ:∀b ent g c,look st.m b=some ent->κ b=some (g,c)->w'.heap[g]?=w.heap[g]?/\¬S g:=λb ent g c he hk=>by have hE:=h.ents b ent he;rw[hk]at hE;exact⟨hb g hE.lt (λq=>q.1.2.2 b c (by simp[he]) hk),hE.notS⟩
 exact{ h with
  os:=hos.trans h.os
  tape:=htape.trans h.tape
  output:=h.output.trans hout
  grow:=za5 h.grow hsz
  old:=λg hg hK=>by
   rw[hb g (zbO hg h.grow) (λq=>?_)]
   .exact h.old g hg hK
   . rcases q.2 with q|⟨b,c,_,q1,q2⟩
     .omega
     .exact hK b c q1 q2
  slt:=λg hg=>zbO (h.slt g hg) hsz
  ents:=λb ent he=>(h.ents b ent he).mono (λ_ h=>h) hS (λ_ h=>h) (λ_ _=>rfl) (λg c hk=>hκ b ent g c he hk)
  slots:=λk=>(h.slots k).mono (λ_ h=>h) hS (λ_ h=>h) (λ_ _=>rfl) }
structure zBq(S:aD)(w:World)(g:Nat)(es:aS)(en:Array MapEntry)(clock:Nat):Prop where
 inS:S g
 at_:w.heap[g]?=some (.map en clock)
 len:en.size=es.length
 born:∀(i:Nat) (e:MapEntry),en[i]?=some e->e.born<clock
 incr:∀(i j:Nat) (e f:MapEntry),i<j->en[i]?=some e->en[j]?=some f->e.born<f.born
 two:∀cs∈es,∃k v,cs=[k,v]
 key:∀(i:Nat) (k v:AV) (e:MapEntry),es[i]?=some [k,v]->en[i]?=some e->CRel S w k e.key
 val:∀(i:Nat) (k v:AV) (e:MapEntry),es[i]?=some [k,v]->en[i]?=some e->CRel S w v e.val
def zBq.mono{g:Nat}{es:aS}{en:Array MapEntry}{clock:Nat}(h:zBq S w g es en clock)(hS:∀g,S g->S' g)(hw:∀g,S g->w'.heap[g]?=w.heap[g]?):zBq S' w' g es en clock where
 inS:=hS g h.inS
 at_:=(hw g h.inS).trans h.at_
 len:=h.len
 born:=h.born
 incr:=h.incr
 two:=h.two
 key:=λi k v e h1 h2=>(h.key i k v e h1 h2).mono hS hw
 val:=λi k v e h1 h2=>(h.val i k v e h1 h2).mono hS hw
def seenOf(en:Array MapEntry)(done:aO):Array Nat:=(done.map λj=>(en[j]?.map (·.born)).getD 0).toArray
structure Rng(w0:World)(κ0:Kap)(K:aD)(r g:Nat)(es:aS)(en:Array MapEntry)(clock:Nat)(done:aO)(S:aD)(κ:Kap)(L:aK)(w:World):Prop where
 held:zBq S w g es en clock
 far:Far S κ L w r
 mine:Mine w0 κ0 K r
 iter:w.heap[r]?=some (.mapIter (some g) clock (seenOf en done) clock)
 nodup:done.Nodup
 lt:∀j∈done,j<en.size
def Rng.stable{r g:Nat}{es:aS}{en:Array MapEntry}{clock:Nat}{done:aO}:Stable (Rng w0 κ0 K r g es en clock done) where
 step:=λh hS hf hw=>⟨h.held.mono hS hw,(hf r h.far).2,h.mine,(hf r h.far).1.trans h.iter,h.nodup,h.lt⟩
 kap:=λh hk=>⟨h.held,⟨h.far.1,h.far.2.1,λb c hl hkb=>by
  obtain⟨b0,c0,q1,q2⟩:=hk b r c hl hkb
  exact h.far.2.2 b0 c0 q1 q2⟩,h.mine,h.iter,h.nodup,h.lt⟩
def zuU{P:Program}{ops:aT}{Q:aX}{i:Nat}{o:Oper}{K':aj}{y:Value}(hi:ops[i]?=some o)(hg:o.guard=none)(hx:(execOp a.eval o).run P w=.ok (.value y) w')(hK:K' (a.put o.dst y) w'):wpOp P ops Q i K' a w:=by unfold wpOp;simp only[hi];rw[if_pos (by unfold Region.wanted;rw[hg])];left;unfold Oper.wp;rw[hx];exact hK
def opIs(ops:aT)(i d:Nat)(op:Op):Prop:=(ops[i]?).map (λo=>(o.dst,o.op,o.guard))=some (some d,op,none)
def opIs.get{ops:aT}{i d:Nat}{op:Op}(h:opIs ops i d op):∃o,ops[i]?=some o/\o.dst=some d/\o.op=op/\o.guard=none:=by
 unfold opIs at h
 simp_all
def NowP.freeze{X:Sat2}(hX:Stable X)(h:NowP w0 S0 κ0 K N X st a w)(hN:N<=1000)(bs:aO)(hb:bs.all (λb=>decide (b<1000)&&(look st.m b).isSome)=true)(e:zd8 bs st=st'):NowP w0 S0 κ0 K N X st' a w:=by
 obtain⟨S,κ,h1,h2⟩:=h;have hp:GoodF w S κ (λb=>(look st.m b).isSome=true) N (fs st) a w:=⟨S,κ,Good.rebase h1⟩
 obtain⟨S',κ',hg⟩:=zxR hp hN (bs:=bs) (λb hm=>by simp_all)
 subst e;refine⟨S',κ',Good.join h1 hg,hX.step h2 hg.sup (λg hf=>hg.far hf) (λ_ _=>rfl)⟩
def NowP.drop{X:Sat2}(h:NowP w0 S0 κ0 K N X st a w):NowP w0 S0 κ0 K N (λ_ _ _ _=>True) st a w:=by obtain⟨S,κ,h1,_⟩:=h;exact⟨S,κ,h1,trivial⟩
end
end Go.Ab
end
