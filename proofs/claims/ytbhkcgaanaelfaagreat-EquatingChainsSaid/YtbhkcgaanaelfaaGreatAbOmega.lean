/- The abstract interpreter without a bound on its steps. -/
import Derived.Test.YtbhkcgaanaelfaaGreatAbFun
namespace Go.Ab
open Go.RowKit
open Classical in
noncomputable def supO {α:Type} (f:Nat→Option α):Option α:=if h:∃ n r,f n=some r then f h.choose else none
def MonoO {α:Type} (f:Nat→Option α):Prop:=∀ n m r,n≤m→f n=some r→f m=some r
theorem zoK {α:Type} {f:Nat→Option α} (hm:MonoO f) {n:Nat} {r:α} (h:f n=some r):supO f=some r:=by
 have he:∃ n r,f n=some r:=⟨n,r,h⟩
 unfold supO
 rw [dif_pos he]
 obtain ⟨r',hr'⟩:=he.choose_spec
 rcases Nat.le_total n he.choose with hle | hle
 · exact hm _ _ _ hle h
 · have:=hm _ _ _ hle hr'
   rw [h] at this
   rw [hr',this]
theorem zk6 {α:Type} {f:Nat→Option α} {r:α} (h:supO f=some r):∃ n,f n=some r:=by
 unfold supO at h
 split at h
 · rename_i he
   exact ⟨_,h⟩
 · cases h
noncomputable def callw (P:Program) (C:Cfg) (A:AnnF):za6:=fun f args ms=>supO fun n=>acall P C A n f args ms
noncomputable def itw:Go.Ab.Loop:=fun step st=>supO fun n=>iter n step st
def LeC (c c':za6):Prop:=∀ f args ms r,c f args ms=some r→c' f args ms=some r
def LeS (s s':St→Option (Ex×St)):Prop:=∀ st r,s st=some r→s' st=some r
def LeI (i i':Go.Ab.Loop):Prop:=∀ s s',LeS s s'→LeS (i s) (i' s')
theorem zgP {n m:Nat} (h:n≤m):LeI (iter n) (iter m):=by
 intro s s' hs
 induction n generalizing m with
 | zero=>intro st r hr; simp [iter] at hr
 | succ n ih =>
   cases m with
   | zero=>omega
   | succ m =>
     intro st r hr
     simp only [iter] at hr ⊢
     cases hq:s st with
     | none=>simp [hq] at hr
     | some q =>
       rw [hs st q hq]
       rw [hq] at hr
       obtain ⟨e,st1⟩:=q
       cases e with
       | normal=>simp only at hr ⊢; exact ih (by omega) st1 r hr
       | _=>exact hr
section
variable {P:Program} {C:Cfg} {M:List Nat} {N:Nat} {ops:Array Oper} {A:Ann}
theorem ztF {c c':za6} (h:LeC c c') {L:Nat→Option Ent} {d:Option Nat} {f:FuncId} {args:List AV} {r:Res} (hr:aCall C c L d f args=some r):aCall C c' L d f args=some r:=by
 unfold aCall at hr ⊢
 cases hp:zb3 L (C.wrt f) 0 args with
 | none=>simp only [hp] at hr; cases hr
 | some q =>
   obtain ⟨as,ms,bk,fz⟩:=q
   simp only [hp] at hr ⊢
   split at hr
   case isFalse=>cases hr
   rename_i hd
   rw [if_pos hd]
   cases hc:c f as ms with
   | none=>simp only [hc] at hr; cases hr
   | some q =>
     rw [h f as ms _ hc]
     simp only [hc] at hr
     exact hr
theorem aop_mono {c c':za6} (h:LeC c c') {o:Oper} {E:Operand→AV} {L:Nat→Option Ent} {r:Res} (hr:aop P C M c o E L=some r):aop P C M c' o E L=some r:=by
 unfold aop at hr ⊢
 cases ho:o.op with
 | call cl =>
   obtain ⟨callee,args,argTypes⟩:=cl
   cases callee with
   | value g =>
     simp only [ho] at hr ⊢
     cases hg:E g with
     | fn f cap =>
       simp only [hg] at hr ⊢
       split
       · rename_i hb; rw [if_pos hb] at hr; exact hr
       · rename_i hb
         rw [if_neg hb] at hr
         cases hd:o.dst with
         | none=>simp only [hd] at hr ⊢; exact ztF h hr
         | some d =>
           simp only [hd] at hr ⊢
           split at hr
           · rename_i hn
             rw [if_pos hn]
             split at hr
             · rename_i r0 hc
               rw [ztF h hc]
               exact hr
             · cases hr
           · cases hr
     | _=>simp [hg] at hr
   | invoke r m=>simp only [ho] at hr ⊢; exact hr
   | builtin b=>cases b <;> (simp only [ho] at hr ⊢; exact hr)
 | makeFunc fn first cap=>cases fn <;> (simp only [ho] at hr ⊢; exact hr)
 | slice t x lo hi mx=>cases mx <;> (simp only [ho] at hr ⊢; exact hr)
 | makeMap t q=>cases q <;> (simp only [ho] at hr ⊢; exact hr)
 | select cs b=>simp only [ho] at hr; cases hr
 | _=>simp only [ho] at hr ⊢; exact hr
theorem zuf {c c':za6} (h:LeC c c') {o:Oper} {st:St} {r:Res×St} (hr:aStep P C M c N ops o st=some r):aStep P C M c' N ops o st=some r:=by
 unfold aStep at hr ⊢
 split at hr
 case isFalse=>cases hr
 rename_i hd
 rw [if_pos hd]
 cases hw:zm3 ops o st.t with
 | none=>simp only [hw] at hr; cases hr
 | some b =>
   cases b with
   | true =>
     simp only [hw] at hr ⊢
     cases hr':aop P C M c o (ev st.t) (look st.m) with
     | none=>simp only [hr'] at hr; cases hr
     | some r' =>
       rw [aop_mono h hr']
       simp only [hr'] at hr
       exact hr
   | false=>simp only [hw] at hr ⊢; exact hr
theorem zsO {c c':za6} (h:LeC c c'):∀ (l:List Oper) (i:Nat) (st:St) (r:List Mk×St),runOps P C M c N ops i l st=some r→runOps P C M c' N ops i l st=some r
 | [],_,_,_,hr=>hr
 | o :: l,i,st,r,hr=>by
   simp only [runOps] at hr ⊢
   cases hs:aStep P C M c N ops o st with
   | none=>simp [hs] at hr
   | some q =>
     obtain ⟨res,st1⟩:=q
     rw [zuf h hs]
     simp only [hs] at hr ⊢
     cases ho:runOps P C M c N ops (i+1) l st1 with
     | none=>simp [ho] at hr
     | some q =>
       rw [zsO h l (i+1) st1 q ho]
       simp only [ho] at hr
       exact hr
theorem zwO {c c':za6} (h:LeC c c') {draw:Bool} {st r:St} (hr:zhu P C M c N ops draw st=some r):zhu P C M c' N ops draw st=some r:=by
 unfold zhu at hr ⊢
 cases ho:runOps P C M c N ops 0 ops.toList (preDel ops.toList st) with
 | none=>simp only [ho] at hr; cases hr
 | some q =>
   rw [zsO h _ _ _ _ ho]
   simp only [ho] at hr
   exact hr
theorem zjL {c c':za6} {i i':Go.Ab.Loop} (h:LeC c c') (hi:LeI i i'):∀ (cd:Code),LeS (aeval P C A N c i cd) (aeval P C A N c' i' cd):=by
 intro cd
 induction cd with
 | region id ops draw =>
   intro st r hr
   simp only [aeval] at hr ⊢
   split at hr
   · rename_i st' h'
     rw [zwO h h']
     exact hr
   · cases hr
 | seq x y ihx ihy =>
   intro st r hr
   simp only [aeval] at hr ⊢
   cases hx:aeval P C A N c i x st with
   | none=>simp [hx] at hr
   | some q =>
     rw [ihx st q hx]
     rw [hx] at hr
     obtain ⟨e,st1⟩:=q
     cases e with
     | normal=>simp only at hr ⊢; exact ihy st1 r hr
     | _=>exact hr
 | cond o x y ihx ihy =>
   intro st r hr
   simp only [aeval] at hr ⊢
   split at hr
   · rename_i b hb
     cases b with
     | true=>simp only [if_true] at hr ⊢; exact ihx st r hr
     | false=>simp only [Bool.false_eq_true,if_false] at hr ⊢; exact ihy st r hr
   · cases hr
 | block id x ih =>
   intro st r hr
   simp only [aeval] at hr ⊢
   cases hx:aeval P C A N c i x st with
   | none=>simp [hx] at hr
   | some q =>
     rw [ih st q hx]
     rw [hx] at hr
     exact hr
 | loop x ih =>
   intro st r hr
   simp only [aeval] at hr ⊢
   exact hi _ _ ih st r hr
 | skip=>intro st r hr; exact hr
 | exit id=>intro st r hr; exact hr
 | ret=>intro st r hr; exact hr
 | rangeFunc=>intro st r hr; simp [aeval] at hr
 | scope=>intro st r hr; simp [aeval] at hr
 | label=>intro st r hr; simp [aeval] at hr
 | goto=>intro st r hr; simp [aeval] at hr
 | refuse=>intro st r hr; simp [aeval] at hr
end
theorem zgO {P:Program} {C:Cfg} {A:AnnF}:∀ (n m:Nat),n≤m→LeC (acall P C A n) (acall P C A m):=by
 intro n
 induction n with
 | zero=>intro m _ f args ms r hr; simp [acall] at hr
 | succ n ih =>
   intro m hm
   cases m with
   | zero=>omega
   | succ m =>
     intro f args ms r hr
     simp only [acall] at hr ⊢
     cases ho:orcG P C.orc f args ms with
     | some r0=>simp only [ho] at hr ⊢; exact hr
     | none =>
     simp only [ho] at hr ⊢
     cases hf:P.funcs[f]? with
     | none=>simp [hf] at hr
     | some fn =>
       simp only [hf] at hr ⊢
       cases hb:fn.body with
       | none=>simp [hb] at hr
       | some c =>
         simp only [hb] at hr ⊢
         split at hr
         case isFalse=>cases hr
         rename_i hc
         rw [if_pos hc]
         cases hev:aeval P C (A f) fn.ntmps (acall P C A n) (iter n) c { t:=argTab 0 args,m:=ms } with
         | none=>simp [hev] at hr
         | some q =>
           rw [zjL (ih m (by omega)) (zgP (show n≤m by omega)) c _ q hev]
           rw [hev] at hr
           exact hr
section
variable {P:Program} {C:Cfg} {F:AnnF} {M:List Nat} {N:Nat} {ops:Array Oper} {A:Ann}
theorem LeC.refl (c:za6):LeC c c:=fun _ _ _ _ h=>h
theorem zuQ (n:Nat):LeC (acall P C F n) (callw P C F):=fun f args ms _ h=>zoK (fun a b r hab h=>zgO a b hab f args ms r h) h
theorem aop_cont {o:Oper} {E:Operand→AV} {L:Nat→Option Ent} {r:Res} (hr:aop P C M (callw P C F) o E L=some r):∃ n,aop P C M (acall P C F n) o E L=some r:=by
 have key:∀ {d:Option Nat} {f:FuncId} {args:List AV} {r:Res},aCall C (callw P C F) L d f args=some r→∃ n,aCall C (acall P C F n) L d f args=some r:=by
  intro d f args r h
  unfold aCall at h
  cases hp:zb3 L (C.wrt f) 0 args with
  | none=>simp only [hp] at h; cases h
  | some q =>
    obtain ⟨as,ms,bk,fz⟩:=q
    simp only [hp] at h
    split at h
    case isFalse=>cases h
    rename_i hd
    cases hc:callw P C F f as ms with
    | none=>simp only [hc] at h; cases h
    | some q =>
      obtain ⟨n,hn⟩:=zk6 hc
      refine ⟨n,?_⟩
      unfold aCall
      simp only [hp]
      rw [if_pos hd,hn]
      simp only [hc] at h
      exact h
 unfold aop at hr ⊢
 cases ho:o.op with
 | call cl =>
   obtain ⟨callee,args,argTypes⟩:=cl
   cases callee with
   | value g =>
     simp only [ho] at hr ⊢
     cases hg:E g with
     | fn f cap =>
       simp only [hg] at hr ⊢
       by_cases hb:bare P f=true
       · simp only [hb,if_true] at hr ⊢; exact ⟨0,hr⟩
       · simp only [hb,if_false,Bool.false_eq_true] at hr ⊢
         cases hd:o.dst with
         | none=>simp only [hd] at hr ⊢; exact key hr
         | some d =>
           simp only [hd] at hr ⊢
           by_cases hn:(L d).isNone=true
           · simp only [hn,if_true] at hr ⊢
             split at hr
             · rename_i r0 hc
               obtain ⟨n,hn'⟩:=key hc
               exact ⟨n,by rw [hn']; exact hr⟩
             · cases hr
           · simp only [hn,if_false,Bool.false_eq_true] at hr; cases hr
     | _=>simp [hg] at hr
   | invoke r m=>simp only [ho] at hr ⊢; exact ⟨0,hr⟩
   | builtin b=>cases b <;> (simp only [ho] at hr ⊢; exact ⟨0,hr⟩)
 | makeFunc fn first cap=>cases fn <;> (simp only [ho] at hr ⊢; exact ⟨0,hr⟩)
 | slice t x lo hi mx=>cases mx <;> (simp only [ho] at hr ⊢; exact ⟨0,hr⟩)
 | makeMap t q=>cases q <;> (simp only [ho] at hr ⊢; exact ⟨0,hr⟩)
 | select cs b=>simp only [ho] at hr; cases hr
 | _=>simp only [ho] at hr ⊢; exact ⟨0,hr⟩
theorem aStep_cont {o:Oper} {st:St} {r:Res×St} (hr:aStep P C M (callw P C F) N ops o st=some r):∃ n,aStep P C M (acall P C F n) N ops o st=some r:=by
 unfold aStep at hr ⊢
 split at hr
 case isFalse=>cases hr
 rename_i hd
 simp only [hd,if_true]
 cases hw:zm3 ops o st.t with
 | none=>simp only [hw] at hr; cases hr
 | some b =>
   cases b with
   | true =>
     simp only [hw] at hr ⊢
     cases hr':aop P C M (callw P C F) o (ev st.t) (look st.m) with
     | none=>simp only [hr'] at hr; cases hr
     | some r' =>
       obtain ⟨n,hn⟩:=aop_cont hr'
       simp only [hr'] at hr
       exact ⟨n,by rw [hn]; exact hr⟩
   | false=>simp only [hw] at hr ⊢; exact ⟨0,hr⟩
theorem run_cont:∀ (l:List Oper) (i:Nat) (st:St) (r:List Mk×St),runOps P C M (callw P C F) N ops i l st=some r→∃ n,runOps P C M (acall P C F n) N ops i l st=some r
 | [],_,_,_,hr=>⟨0,hr⟩
 | o :: l,i,st,r,hr=>by
   simp only [runOps] at hr
   cases hs:aStep P C M (callw P C F) N ops o st with
   | none=>simp [hs] at hr
   | some q =>
     obtain ⟨res,st1⟩:=q
     simp only [hs] at hr
     obtain ⟨n1,h1⟩:=aStep_cont hs
     cases ho:runOps P C M (callw P C F) N ops (i+1) l st1 with
     | none=>simp [ho] at hr
     | some q =>
       simp only [ho] at hr
       obtain ⟨n2,h2⟩:=run_cont l (i+1) st1 q ho
       refine ⟨max n1 n2,?_⟩
       simp only [runOps]
       rw [zuf (zgO n1 (max n1 n2) (by omega)) h1]
       simp only
       rw [zsO (zgO n2 (max n1 n2) (by omega)) l (i+1) st1 q h2]
       exact hr
theorem zxM {draw:Bool} {st r:St} (hr:zhu P C M (callw P C F) N ops draw st=some r):∃ n,zhu P C M (acall P C F n) N ops draw st=some r:=by
 unfold zhu at hr ⊢
 cases ho:runOps P C M (callw P C F) N ops 0 ops.toList (preDel ops.toList st) with
 | none=>simp only [ho] at hr; cases hr
 | some q =>
   obtain ⟨n,hn⟩:=run_cont _ _ _ _ ho
   simp only [ho] at hr
   exact ⟨n,by rw [hn]; exact hr⟩
theorem aeval_cont:∀ (cd:Code) (st:St) (r:Ex×St),aeval P C A N (callw P C F) itw cd st=some r→∃ n,aeval P C A N (acall P C F n) (iter n) cd st=some r:=by
 intro cd
 induction cd with
 | region id ops draw =>
   intro st r hr
   simp only [aeval] at hr
   split at hr
   · rename_i st' h'
     obtain ⟨n,hn⟩:=zxM h'
     exact ⟨n,by simp only [aeval]; rw [hn]; exact hr⟩
   · cases hr
 | seq x y ihx ihy =>
   intro st r hr
   simp only [aeval] at hr
   cases hx:aeval P C A N (callw P C F) itw x st with
   | none=>simp [hx] at hr
   | some q =>
     obtain ⟨n1,h1⟩:=ihx st q hx
     rw [hx] at hr
     obtain ⟨e,st1⟩:=q
     cases e with
     | normal =>
       simp only at hr
       obtain ⟨n2,h2⟩:=ihy st1 r hr
       refine ⟨max n1 n2,?_⟩
       simp only [aeval]
       rw [zjL (zgO n1 (max n1 n2) (by omega)) (zgP (by omega)) x st _ h1]
       exact zjL (zgO n2 (max n1 n2) (by omega)) (zgP (by omega)) y st1 _ h2
     | exit id=>exact ⟨n1,by simp only [aeval]; rw [h1]; exact hr⟩
     | ret=>exact ⟨n1,by simp only [aeval]; rw [h1]; exact hr⟩
 | cond o x y ihx ihy =>
   intro st r hr
   simp only [aeval] at hr
   split at hr
   · rename_i b hb
     cases b with
     | true =>
       simp only [if_true] at hr
       obtain ⟨n,hn⟩:=ihx st r hr
       exact ⟨n,by simp only [aeval,hb,if_true]; exact hn⟩
     | false =>
       simp only [Bool.false_eq_true,if_false] at hr
       obtain ⟨n,hn⟩:=ihy st r hr
       exact ⟨n,by simp only [aeval,hb,Bool.false_eq_true,if_false]; exact hn⟩
   · cases hr
 | block id x ih =>
   intro st r hr
   simp only [aeval] at hr
   cases hx:aeval P C A N (callw P C F) itw x st with
   | none=>simp [hx] at hr
   | some q =>
     obtain ⟨n,hn⟩:=ih st q hx
     rw [hx] at hr
     exact ⟨n,by simp only [aeval]; rw [hn]; exact hr⟩
 | loop x ih =>
   intro st r hr
   simp only [aeval] at hr
   obtain ⟨k,hk⟩:=zk6 hr
   have key:∀ (k:Nat) (st:St),iter k (aeval P C A N (callw P C F) itw x) st=some r→∃ n,iter k (aeval P C A N (acall P C F n) (iter n) x) st=some r:=by
    intro k
    induction k with
    | zero=>intro st h; simp [iter] at h
    | succ k ihk =>
      intro st h
      simp only [iter] at h
      cases hs:aeval P C A N (callw P C F) itw x st with
      | none=>simp [hs] at h
      | some q =>
        obtain ⟨n1,h1⟩:=ih st q hs
        rw [hs] at h
        obtain ⟨e,st1⟩:=q
        cases e with
        | normal =>
          simp only at h
          obtain ⟨n2,h2⟩:=ihk st1 h
          refine ⟨max n1 n2,?_⟩
          simp only [iter]
          rw [zjL (zgO n1 (max n1 n2) (by omega)) (zgP (by omega)) x st _ h1]
          simp only
          exact zgP (Nat.le_refl k) _ _ (zjL (zgO n2 (max n1 n2) (by omega)) (zgP (by omega)) x) st1 r h2
        | exit id=>exact ⟨n1,by simp only [iter]; rw [h1]; exact h⟩
        | ret=>exact ⟨n1,by simp only [iter]; rw [h1]; exact h⟩
   obtain ⟨n,hn⟩:=key k st hk
   refine ⟨max n k,?_⟩
   simp only [aeval]
   exact zgP (show k≤max n k by omega) _ _ (zjL (zgO n (max n k) (by omega)) (zgP (by omega)) x) st r hn
 | skip=>intro st r hr; exact ⟨0,hr⟩
 | exit id=>intro st r hr; exact ⟨0,hr⟩
 | ret=>intro st r hr; exact ⟨0,hr⟩
 | rangeFunc=>intro st r hr; simp [aeval] at hr
 | scope=>intro st r hr; simp [aeval] at hr
 | label=>intro st r hr; simp [aeval] at hr
 | goto=>intro st r hr; simp [aeval] at hr
 | refuse=>intro st r hr; simp [aeval] at hr
end
def zk1 (P:Program) (frz:Bool) (fn:Func) (ms:Mem):Option (Ex×St)→Option (AV×Mem)
 | some (.normal,st)=>match zkM P frz fn st,zf7 st.m ms with
   | some r,some ms'=>some (r,ms')
   | _,_=>none
 | some (.ret,st)=>match zkM P frz fn st,zf7 st.m ms with
   | some r,some ms'=>some (r,ms')
   | _,_=>none
 | _=>none
theorem callw_of {P:Program} {C:Cfg} {A:AnnF} {f:FuncId} {fn:Func} {c:Code} {args:List AV} {ms:Mem} {r:AV×Mem} (ho:C.orc f args ms=none) (hf:P.funcs[f]?=some fn) (hb:fn.body=some c) (he:enters P f=true) (hN:fn.ntmps≤1000)
  (ha:args.length≤fn.ntmps) (h:zk1 P (A f).frz fn ms (aeval P C (A f) fn.ntmps (callw P C A) itw c { t:=argTab 0 args,m:=ms })=some r):callw P C A f args ms=some r:=by
 cases hev:aeval P C (A f) fn.ntmps (callw P C A) itw c { t:=argTab 0 args,m:=ms } with
 | none=>simp [hev,zk1] at h
 | some q =>
   obtain ⟨n,hn⟩:=aeval_cont c _ q hev
   rw [hev] at h
   refine zuQ (n+1) f args ms r ?_
   simp only [acall,orcG_none ho,hf,hb]
   rw [if_pos ⟨hN,ha,he⟩,hn]
   obtain ⟨e,st⟩:=q
   cases e with
   | normal=>exact h
   | ret=>exact h
   | exit id=>simp [zk1] at h
theorem itw_eq (step:St→Option (Ex×St)) (st:St):itw step st=match step st with
  | some (.normal,st')=>itw step st'
  | r=>r:=by
 have hm:∀ st,MonoO fun n=>iter n step st:=fun st a b r hab h=>zgP hab step step (fun _ _ h=>h) st r h
 cases hs:step st with
 | none =>
   simp only
   cases hq:itw step st with
   | none=>rfl
   | some q =>
     obtain ⟨n,hn⟩:=zk6 hq
     cases n with
     | zero=>simp [iter] at hn
     | succ n=>simp [iter,hs] at hn
 | some q =>
   obtain ⟨e,st1⟩:=q
   cases e with
   | normal =>
     simp only
     cases hq:itw step st1 with
     | none =>
       cases hq2:itw step st with
       | none=>rfl
       | some q =>
         obtain ⟨n,hn⟩:=zk6 hq2
         cases n with
         | zero=>simp [iter] at hn
         | succ n =>
           simp only [iter,hs] at hn
           have:itw step st1=some q:=zoK (hm st1) hn
           rw [hq] at this
           cases this
     | some q =>
       obtain ⟨n,hn⟩:=zk6 hq
       exact zoK (hm st) (n:=n+1) (by simp only [iter,hs]; exact hn)
   | exit id=>exact zoK (hm st) (n:=1) (by simp only [iter,hs])
   | ret=>exact zoK (hm st) (n:=1) (by simp only [iter,hs])
theorem callw_ok {P:Program} {C:Cfg} {A:AnnF}:CallOK P (callw P C A):=by
 intro f args ms r ms' h
 obtain ⟨n,hn⟩:=zk6 h
 exact zyN n f args ms r ms' hn
end Go.Ab
