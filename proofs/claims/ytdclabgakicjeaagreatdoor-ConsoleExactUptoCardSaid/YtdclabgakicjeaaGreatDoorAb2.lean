/- The abstract interpreter without a bound on its steps. -/
import Derived.Test.YtdclabgakicjeaaGreatDoorAb1
import Derived.Maps.RangeRun
set_option linter.unusedSimpArgs false
set_option linter.unusedVariables false
set_option linter.unusedSectionVars false
noncomputable section
namespace Go.Ab
open Go.RowKit
variable [Dr]
open Classical in
def supO {α:Type} (f:Nat→Option α):Option α:=if h:∃ n r,f n=some r then f h.choose else none
def MonoO {α:Type} (f:Nat→Option α):Prop:=∀ n m r,n≤m→f n=some r→f m=some r
theorem zlQ {α:Type} {f:Nat→Option α} (hm:MonoO f) {n:Nat} {r:α} (h:f n=some r):supO f=some r:=by
 have he:∃ n r,f n=some r:=⟨n,r,h⟩
 unfold supO; rw [dif_pos he]; obtain ⟨r',hr'⟩:=he.choose_spec; rcases Nat.le_total n he.choose with hle | hle
 · exact hm _ _ _ hle h
 · have:=hm _ _ _ hle hr'; rw [h] at this; rw [hr',this]
theorem zgr {α:Type} {f:Nat→Option α} {r:α} (h:supO f=some r):∃ n,f n=some r:=by
 unfold supO at h; split at h
 · rename_i he; exact ⟨_,h⟩
 · cases h
def callw (P:Program) (C:Cfg) (A:AnnF):zaX:=fun f args ms=>supO fun n=>acall P C A n f args ms
def itw:Go.Ab.Loop:=fun step st=>supO fun n=>iter n step st
def LeC (c c':zaX):Prop:=∀ f args ms r,c f args ms=some r→c' f args ms=some r
def LeS (s s':St→Option (Ex×St)):Prop:=∀ st r,s st=some r→s' st=some r
def LeI (i i':Go.Ab.Loop):Prop:=∀ s s',LeS s s'→LeS (i s) (i' s')
theorem zeq {n m:Nat} (h:n≤m):LeI (iter n) (iter m):=by
 intro s s' hs
 induction n generalizing m with
 | zero=>intro st r hr; simp [iter] at hr
 | succ n ih =>
   cases m with
   | zero=>omega
   | succ m =>
     intro st r hr; simp only [iter] at hr ⊢
     cases hq:s st with
     | none=>simp [hq] at hr
     | some q =>
       rw [hs st q hq]; rw [hq] at hr; obtain ⟨e,st1⟩:=q
       cases e with
       | normal=>simp only at hr ⊢; exact ih (by omega) st1 r hr
       | _=>exact hr
section
variable {P:Program} {C:Cfg} {M:List Nat} {N:Nat} {ops:Array Oper} {A:Ann}
theorem zqh {c c':zaX} (h:LeC c c') {L:Nat→Option Ent} {d:Option Nat} {f:FuncId} {args:List AV} {r:Res} (hr:aCall C c L d f args=some r):aCall C c' L d f args=some r:=by
 unfold aCall at hr ⊢
 cases hp:zbw L (C.wrt f) 0 args with
 | none=>simp only [hp] at hr; cases hr
 | some q =>
   obtain ⟨as,ms,bk,fz⟩:=q; simp only [hp] at hr ⊢; split at hr
   case isFalse=>cases hr
   rename_i hd; rw [if_pos hd]
   cases hc:c f as ms with
   | none=>simp only [hc] at hr; cases hr
   | some q=>rw [h f as ms _ hc]; simp only [hc] at hr; exact hr
theorem aDeep_at {c:zaX} {L:Nat→Option Ent} {f:FuncId} {k0:Nat} {args:List AV} {r:Res} (hr:aDeep c L f k0 args=some r):∃ as ms q,c f as ms=some q∧∀ c':zaX,c' f as ms=some q→aDeep c' L f k0 args=some r:=by
 unfold aDeep at hr; split at hr
 case h_2=>cases hr
 rename_i b z hk0; split at hr
 case h_2=>cases hr
 rename_i ent hlb; split at hr
 case isFalse=>cases hr
 rename_i hbx; split at hr
 case h_2=>cases hr
 rename_i cs hes; split at hr
 case h_2=>cases hr
 rename_i cs' nms nbk as fz hnest hda; split at hr
 case isFalse=>cases hr
 rename_i hcond; split at hr
 case h_2=>cases hr
 rename_i rv ms' hc; refine ⟨_,_,_,hc,fun c' hc'=>?_⟩; unfold aDeep; simp only [hk0,hlb]; rw [if_pos hbx,hes]; simp only [hnest,hda]; rw [if_pos hcond,hc']; exact hr
theorem aop_mono {c c':zaX} (h:LeC c c') {o:Oper} {E:Operand→AV} {L:Nat→Option Ent} {r:Res} (hr:aop P C M c o E L=some r):aop P C M c' o E L=some r:=by
 unfold aop at hr ⊢
 cases ho:o.op with
 | call cl =>
   obtain ⟨callee,args,argTypes⟩:=cl
   cases callee with
   | value g =>
     simp only [ho] at hr ⊢
     cases hg:E g with
     | fn f cap =>
       simp only [hg] at hr ⊢; split
       · rename_i hb; rw [if_pos hb] at hr; exact hr
       · rename_i hb; rw [if_neg hb] at hr
         cases hdp:C.dp f with
         | some k0 =>
           simp only [hdp] at hr ⊢; split at hr
           case isFalse=>cases hr
           rename_i hdo; rw [if_pos hdo]; obtain ⟨as,ms,q,h1,h2⟩:=aDeep_at hr; exact h2 c' (h f as ms q h1)
         | none =>
         simp only [hdp] at hr ⊢
         cases hd:o.dst with
         | none=>simp only [hd] at hr ⊢; exact zqh h hr
         | some d =>
           simp only [hd] at hr ⊢; split at hr
           · rename_i hn; rw [if_pos hn]; split at hr
             · rename_i r0 hc; rw [zqh h hc]; exact hr
             · cases hr
           · cases hr
     | _=>simp [hg] at hr
   | invoke r m=>simp only [ho] at hr ⊢; exact hr
   | builtin b=>cases b <;> (simp only [ho] at hr ⊢; exact hr)
 | makeFunc fn first cap=>cases fn <;> (simp only [ho] at hr ⊢; exact hr)
 | slice t x lo hi mx=>cases mx <;> (simp only [ho] at hr ⊢; exact hr)
 | makeMap t q=>cases q <;> (simp only [ho] at hr ⊢; exact hr)
 | select cs b=>simp only [ho] at hr; cases hr
 | _=>simp only [ho] at hr ⊢; exact hr
theorem zqi {c c':zaX} (h:LeC c c') {o:Oper} {st:St} {r:Res×St} (hr:aStep P C M c N ops o st=some r):aStep P C M c' N ops o st=some r:=by
 unfold aStep at hr ⊢; split at hr
 case isFalse=>cases hr
 rename_i hd; rw [if_pos hd]
 cases hw:zj2 ops o st.t with
 | none=>simp only [hw] at hr; cases hr
 | some b =>
   cases b with
   | true =>
     simp only [hw] at hr ⊢
     cases hr':aop P C M c o (ev st.t) (look st.m) with
     | none=>simp only [hr'] at hr; cases hr
     | some r'=>rw [aop_mono h hr']; simp only [hr'] at hr; exact hr
   | false=>simp only [hw] at hr ⊢; exact hr
theorem zqc {c c':zaX} (h:LeC c c'):∀ (l:List Oper) (i:Nat) (st:St) (r:List Mk×St),runOps P C M c N ops i l st=some r→runOps P C M c' N ops i l st=some r
 | [],_,_,_,hr=>hr
 | o :: l,i,st,r,hr=>by
   simp only [runOps] at hr ⊢
   cases hs:aStep P C M c N ops o st with
   | none=>simp [hs] at hr
   | some q =>
     obtain ⟨res,st1⟩:=q; rw [zqi h hs]; simp only [hs] at hr ⊢
     cases ho:runOps P C M c N ops (i+1) l st1 with
     | none=>simp [ho] at hr
     | some q=>rw [zqc h l (i+1) st1 q ho]; simp only [ho] at hr; exact hr
theorem zsR {c c':zaX} (h:LeC c c') {draw:Bool} {st r:St} (hr:ze4 P C M c N ops draw st=some r):ze4 P C M c' N ops draw st=some r:=by
 unfold ze4 at hr ⊢
 cases ho:runOps P C M c N ops 0 ops.toList (preDel ops.toList st) with
 | none=>simp only [ho] at hr; cases hr
 | some q=>rw [zqc h _ _ _ _ ho]; simp only [ho] at hr; exact hr
theorem zgx {c c':zaX} {i i':Go.Ab.Loop} (h:LeC c c') (hi:LeI i i'):∀ (cd:Code),LeS (aeval P C A N c i cd) (aeval P C A N c' i' cd):=by
 intro cd
 induction cd with
 | region id ops draw =>
   intro st r hr; simp only [aeval] at hr ⊢; split at hr
   · rename_i st' h'; rw [zsR h h']; exact hr
   · cases hr
 | seq x y ihx ihy =>
   intro st r hr; simp only [aeval] at hr ⊢
   cases hx:aeval P C A N c i x st with
   | none=>simp [hx] at hr
   | some q =>
     rw [ihx st q hx]; rw [hx] at hr; obtain ⟨e,st1⟩:=q
     cases e with
     | normal=>simp only at hr ⊢; exact ihy st1 r hr
     | _=>exact hr
 | cond o x y ihx ihy =>
   intro st r hr; simp only [aeval] at hr ⊢; split at hr
   · rename_i b hb
     cases b with
     | true=>simp only [if_true] at hr ⊢; exact ihx st r hr
     | false=>simp only [Bool.false_eq_true,if_false] at hr ⊢; exact ihy st r hr
   · cases hr
 | block id x ih =>
   intro st r hr; simp only [aeval] at hr ⊢
   cases hx:aeval P C A N c i x st with
   | none=>simp [hx] at hr
   | some q=>rw [ih st q hx]; rw [hx] at hr; exact hr
 | loop x ih=>intro st r hr; simp only [aeval] at hr ⊢; exact hi _ _ ih st r hr
 | skip=>intro st r hr; exact hr
 | exit id=>intro st r hr; exact hr
 | ret=>intro st r hr; exact hr
 | rangeFunc=>intro st r hr; simp [aeval] at hr
 | scope=>intro st r hr; simp [aeval] at hr
 | label=>intro st r hr; simp [aeval] at hr
 | goto=>intro st r hr; simp [aeval] at hr
 | refuse=>intro st r hr; simp [aeval] at hr
end
theorem zef {P:Program} {C:Cfg} {A:AnnF}:∀ (n m:Nat),n≤m→LeC (acall P C A n) (acall P C A m):=by
 intro n
 induction n with
 | zero=>intro m _ f args ms r hr; simp [acall] at hr
 | succ n ih =>
   intro m hm
   cases m with
   | zero=>omega
   | succ m =>
     intro f args ms r hr; simp only [acall] at hr ⊢
     cases ho:orcG P C.orc f args ms with
     | some r0=>simp only [ho] at hr ⊢; exact hr
     | none =>
     simp only [ho] at hr ⊢
     cases hf:P.funcs[f]? with
     | none=>simp [hf] at hr
     | some fn =>
       simp only [hf] at hr ⊢
       cases hb:fn.body with
       | none=>simp [hb] at hr
       | some c =>
         simp only [hb] at hr ⊢; split at hr
         case isFalse=>cases hr
         rename_i hc; rw [if_pos hc]
         cases hev:aeval P C (A f) fn.ntmps (acall P C A n) (iter n) c { t:=argTab 0 args,m:=ms } with
         | none=>simp [hev] at hr
         | some q=>rw [zgx (ih m (by omega)) (zeq (show n≤m by omega)) c _ q hev]; rw [hev] at hr; exact hr
section
variable {P:Program} {C:Cfg} {F:AnnF} {M:List Nat} {N:Nat} {ops:Array Oper} {A:Ann}
theorem LeC.refl (c:zaX):LeC c c:=fun _ _ _ _ h=>h
theorem zlA (n:Nat):LeC (acall P C F n) (callw P C F):=fun f args ms _ h=>zlQ (fun a b r hab h=>zef a b hab f args ms r h) h
theorem aop_cont {o:Oper} {E:Operand→AV} {L:Nat→Option Ent} {r:Res} (hr:aop P C M (callw P C F) o E L=some r):∃ n,aop P C M (acall P C F n) o E L=some r:=by
 have key:∀ {d:Option Nat} {f:FuncId} {args:List AV} {r:Res},aCall C (callw P C F) L d f args=some r→∃ n,aCall C (acall P C F n) L d f args=some r:=by
  intro d f args r h; unfold aCall at h
  cases hp:zbw L (C.wrt f) 0 args with
  | none=>simp only [hp] at h; cases h
  | some q =>
    obtain ⟨as,ms,bk,fz⟩:=q; simp only [hp] at h; split at h
    case isFalse=>cases h
    rename_i hd
    cases hc:callw P C F f as ms with
    | none=>simp only [hc] at h; cases h
    | some q=>obtain ⟨n,hn⟩:=zgr hc; refine ⟨n,?_⟩; unfold aCall; simp only [hp]; rw [if_pos hd,hn]; simp only [hc] at h; exact h
 unfold aop at hr ⊢
 cases ho:o.op with
 | call cl =>
   obtain ⟨callee,args,argTypes⟩:=cl
   cases callee with
   | value g =>
     simp only [ho] at hr ⊢
     cases hg:E g with
     | fn f cap =>
       simp only [hg] at hr ⊢; by_cases hb:bare P f=true
       · simp only [hb,if_true] at hr ⊢; exact ⟨0,hr⟩
       · simp only [hb,if_false,Bool.false_eq_true] at hr ⊢
         cases hdp:C.dp f with
         | some k0 =>
           simp only [hdp] at hr ⊢; split at hr
           case isFalse=>cases hr
           rename_i hdo; obtain ⟨as,ms,q,h1,h2⟩:=aDeep_at hr; obtain ⟨n,hn⟩:=zgr h1; refine ⟨n,?_⟩; rw [if_pos hdo]; exact h2 _ hn
         | none =>
         simp only [hdp] at hr ⊢
         cases hd:o.dst with
         | none=>simp only [hd] at hr ⊢; exact key hr
         | some d =>
           simp only [hd] at hr ⊢; by_cases hn:(L d).isNone=true
           · simp only [hn,if_true] at hr ⊢; split at hr
             · rename_i r0 hc; obtain ⟨n,hn'⟩:=key hc; exact ⟨n,by rw [hn']; exact hr⟩
             · cases hr
           · simp only [hn,if_false,Bool.false_eq_true] at hr; cases hr
     | _=>simp [hg] at hr
   | invoke r m=>simp only [ho] at hr ⊢; exact ⟨0,hr⟩
   | builtin b=>cases b <;> (simp only [ho] at hr ⊢; exact ⟨0,hr⟩)
 | makeFunc fn first cap=>cases fn <;> (simp only [ho] at hr ⊢; exact ⟨0,hr⟩)
 | slice t x lo hi mx=>cases mx <;> (simp only [ho] at hr ⊢; exact ⟨0,hr⟩)
 | makeMap t q=>cases q <;> (simp only [ho] at hr ⊢; exact ⟨0,hr⟩)
 | select cs b=>simp only [ho] at hr; cases hr
 | _=>simp only [ho] at hr ⊢; exact ⟨0,hr⟩
theorem aStep_cont {o:Oper} {st:St} {r:Res×St} (hr:aStep P C M (callw P C F) N ops o st=some r):∃ n,aStep P C M (acall P C F n) N ops o st=some r:=by
 unfold aStep at hr ⊢; split at hr
 case isFalse=>cases hr
 rename_i hd; simp only [hd,if_true]
 cases hw:zj2 ops o st.t with
 | none=>simp only [hw] at hr; cases hr
 | some b =>
   cases b with
   | true =>
     simp only [hw] at hr ⊢
     cases hr':aop P C M (callw P C F) o (ev st.t) (look st.m) with
     | none=>simp only [hr'] at hr; cases hr
     | some r'=>obtain ⟨n,hn⟩:=aop_cont hr'; simp only [hr'] at hr; exact ⟨n,by rw [hn]; exact hr⟩
   | false=>simp only [hw] at hr ⊢; exact ⟨0,hr⟩
theorem run_cont:∀ (l:List Oper) (i:Nat) (st:St) (r:List Mk×St),runOps P C M (callw P C F) N ops i l st=some r→∃ n,runOps P C M (acall P C F n) N ops i l st=some r
 | [],_,_,_,hr=>⟨0,hr⟩
 | o :: l,i,st,r,hr=>by
   simp only [runOps] at hr
   cases hs:aStep P C M (callw P C F) N ops o st with
   | none=>simp [hs] at hr
   | some q =>
     obtain ⟨res,st1⟩:=q; simp only [hs] at hr; obtain ⟨n1,h1⟩:=aStep_cont hs
     cases ho:runOps P C M (callw P C F) N ops (i+1) l st1 with
     | none=>simp [ho] at hr
     | some q=>simp only [ho] at hr; obtain ⟨n2,h2⟩:=run_cont l (i+1) st1 q ho; refine ⟨max n1 n2,?_⟩; simp only [runOps]; rw [zqi (zef n1 (max n1 n2) (by omega)) h1]; simp only; rw [zqc (zef n2 (max n1 n2) (by omega)) l (i+1) st1 q h2]; exact hr
theorem zsQ {draw:Bool} {st r:St} (hr:ze4 P C M (callw P C F) N ops draw st=some r):∃ n,ze4 P C M (acall P C F n) N ops draw st=some r:=by
 unfold ze4 at hr ⊢
 cases ho:runOps P C M (callw P C F) N ops 0 ops.toList (preDel ops.toList st) with
 | none=>simp only [ho] at hr; cases hr
 | some q=>obtain ⟨n,hn⟩:=run_cont _ _ _ _ ho; simp only [ho] at hr; exact ⟨n,by rw [hn]; exact hr⟩
theorem aeval_cont:∀ (cd:Code) (st:St) (r:Ex×St),aeval P C A N (callw P C F) itw cd st=some r→∃ n,aeval P C A N (acall P C F n) (iter n) cd st=some r:=by
 intro cd
 induction cd with
 | region id ops draw =>
   intro st r hr; simp only [aeval] at hr; split at hr
   · rename_i st' h'; obtain ⟨n,hn⟩:=zsQ h'; exact ⟨n,by simp only [aeval]; rw [hn]; exact hr⟩
   · cases hr
 | seq x y ihx ihy =>
   intro st r hr; simp only [aeval] at hr
   cases hx:aeval P C A N (callw P C F) itw x st with
   | none=>simp [hx] at hr
   | some q =>
     obtain ⟨n1,h1⟩:=ihx st q hx; rw [hx] at hr; obtain ⟨e,st1⟩:=q
     cases e with
     | normal=>simp only at hr; obtain ⟨n2,h2⟩:=ihy st1 r hr; refine ⟨max n1 n2,?_⟩; simp only [aeval]; rw [zgx (zef n1 (max n1 n2) (by omega)) (zeq (by omega)) x st _ h1]; exact zgx (zef n2 (max n1 n2) (by omega)) (zeq (by omega)) y st1 _ h2
     | exit id=>exact ⟨n1,by simp only [aeval]; rw [h1]; exact hr⟩
     | ret=>exact ⟨n1,by simp only [aeval]; rw [h1]; exact hr⟩
 | cond o x y ihx ihy =>
   intro st r hr; simp only [aeval] at hr; split at hr
   · rename_i b hb
     cases b with
     | true=>simp only [if_true] at hr; obtain ⟨n,hn⟩:=ihx st r hr; exact ⟨n,by simp only [aeval,hb,if_true]; exact hn⟩
     | false=>simp only [Bool.false_eq_true,if_false] at hr; obtain ⟨n,hn⟩:=ihy st r hr; exact ⟨n,by simp only [aeval,hb,Bool.false_eq_true,if_false]; exact hn⟩
   · cases hr
 | block id x ih =>
   intro st r hr; simp only [aeval] at hr
   cases hx:aeval P C A N (callw P C F) itw x st with
   | none=>simp [hx] at hr
   | some q=>obtain ⟨n,hn⟩:=ih st q hx; rw [hx] at hr; exact ⟨n,by simp only [aeval]; rw [hn]; exact hr⟩
 | loop x ih =>
   intro st r hr; simp only [aeval] at hr; obtain ⟨k,hk⟩:=zgr hr
   have key:∀ (k:Nat) (st:St),iter k (aeval P C A N (callw P C F) itw x) st=some r→∃ n,iter k (aeval P C A N (acall P C F n) (iter n) x) st=some r:=by
    intro k
    induction k with
    | zero=>intro st h; simp [iter] at h
    | succ k ihk =>
      intro st h; simp only [iter] at h
      cases hs:aeval P C A N (callw P C F) itw x st with
      | none=>simp [hs] at h
      | some q =>
        obtain ⟨n1,h1⟩:=ih st q hs; rw [hs] at h; obtain ⟨e,st1⟩:=q
        cases e with
        | normal=>simp only at h; obtain ⟨n2,h2⟩:=ihk st1 h; refine ⟨max n1 n2,?_⟩; simp only [iter]; rw [zgx (zef n1 (max n1 n2) (by omega)) (zeq (by omega)) x st _ h1]; simp only; exact zeq (Nat.le_refl k) _ _ (zgx (zef n2 (max n1 n2) (by omega)) (zeq (by omega)) x) st1 r h2
        | exit id=>exact ⟨n1,by simp only [iter]; rw [h1]; exact h⟩
        | ret=>exact ⟨n1,by simp only [iter]; rw [h1]; exact h⟩
   obtain ⟨n,hn⟩:=key k st hk; refine ⟨max n k,?_⟩; simp only [aeval]; exact zeq (show k≤max n k by omega) _ _ (zgx (zef n (max n k) (by omega)) (zeq (by omega)) x) st r hn
 | skip=>intro st r hr; exact ⟨0,hr⟩
 | exit id=>intro st r hr; exact ⟨0,hr⟩
 | ret=>intro st r hr; exact ⟨0,hr⟩
 | rangeFunc=>intro st r hr; simp [aeval] at hr
 | scope=>intro st r hr; simp [aeval] at hr
 | label=>intro st r hr; simp [aeval] at hr
 | goto=>intro st r hr; simp [aeval] at hr
 | refuse=>intro st r hr; simp [aeval] at hr
end
def zhL (P:Program) (frz:Bool) (fn:Func) (ms:Mem):Option (Ex×St)→Option (AV×Mem)
 | some (.normal,st)=>match zgp P frz fn st,zgy st.m ms with
   | some r,some ms'=>zlN r ms'
   | _,_=>none
 | some (.ret,st)=>match zgp P frz fn st,zgy st.m ms with
   | some r,some ms'=>zlN r ms'
   | _,_=>none
 | _=>none
theorem callw_of {P:Program} {C:Cfg} {A:AnnF} {f:FuncId} {fn:Func} {c:Code} {args:List AV} {ms:Mem} {r:AV×Mem} (ho:C.orc f args ms=none) (hf:P.funcs[f]?=some fn) (hb:fn.body=some c) (he:enters P f=true) (hN:fn.ntmps≤1000)
  (ha:args.length≤fn.ntmps) (h:zhL P (A f).frz fn ms (aeval P C (A f) fn.ntmps (callw P C A) itw c { t:=argTab 0 args,m:=ms })=some r):callw P C A f args ms=some r:=by
 cases hev:aeval P C (A f) fn.ntmps (callw P C A) itw c { t:=argTab 0 args,m:=ms } with
 | none=>simp [hev,zhL] at h
 | some q =>
   obtain ⟨n,hn⟩:=aeval_cont c _ q hev; rw [hev] at h; refine zlA (n+1) f args ms r ?_; simp only [acall,orcG_none ho,hf,hb]; rw [if_pos ⟨hN,ha,he⟩,hn]; obtain ⟨e,st⟩:=q
   cases e with
   | normal=>exact h
   | ret=>exact h
   | exit id=>simp [zhL] at h
theorem itw_eq (step:St→Option (Ex×St)) (st:St):itw step st=match step st with
  | some (.normal,st')=>itw step st'
  | r=>r:=by
 have hm:∀ st,MonoO fun n=>iter n step st:=fun st a b r hab h=>zeq hab step step (fun _ _ h=>h) st r h
 cases hs:step st with
 | none =>
   simp only
   cases hq:itw step st with
   | none=>rfl
   | some q =>
     obtain ⟨n,hn⟩:=zgr hq
     cases n with
     | zero=>simp [iter] at hn
     | succ n=>simp [iter,hs] at hn
 | some q =>
   obtain ⟨e,st1⟩:=q
   cases e with
   | normal =>
     simp only
     cases hq:itw step st1 with
     | none =>
       cases hq2:itw step st with
       | none=>rfl
       | some q =>
         obtain ⟨n,hn⟩:=zgr hq2
         cases n with
         | zero=>simp [iter] at hn
         | succ n=>simp only [iter,hs] at hn; have:itw step st1=some q:=zlQ (hm st1) hn; rw [hq] at this; cases this
     | some q=>obtain ⟨n,hn⟩:=zgr hq; exact zlQ (hm st) (n:=n+1) (by simp only [iter,hs]; exact hn)
   | exit id=>exact zlQ (hm st) (n:=1) (by simp only [iter,hs])
   | ret=>exact zlQ (hm st) (n:=1) (by simp only [iter,hs])
theorem zgI {P:Program} {C:Cfg} {A:AnnF} {f:FuncId} {args:List AV} {ms:Mem} {r:AV×Mem} (hok:CallOK P (single f C.orc)) (h:C.orc f args ms=some r):callw P C A f args ms=some r:=by refine zlA 1 f args ms r ?_; simp only [acall,orcG_some hok h]
theorem zpT {P:Program} {C:Cfg} {A:AnnF}:CallOK P (callw P C A):=by intro f args ms r ms' h; obtain ⟨n,hn⟩:=zgr h; exact ztA n f args ms r ms' hn
end Go.Ab
namespace Go.Ab
open Go.RowKit
def Holds:List Prop→Prop
 | []=>True
 | p :: r=>p∧Holds r
theorem zbg {a b:List Prop}:Holds (a++b)↔Holds a∧Holds b:=by
 induction a with
 | nil=>simp [Holds]
 | cons p r ih=>simp [Holds,ih,and_assoc]
def psnap (L:Nat→Option Ent):Nat→AV→Option (AV×List Prop)
 | 0,_=>none
 | k+1,a=>match a with
   | .row b z off n=>match L b with
     | some ent=>if ent.z=z∧ent.box=false∧0 < z then some (.sl z ((ent.es.drop off).take n),[off+n≤ent.es.length]) else none
     | none=>none
   | .agg cs=>match mapO (psnap L k) cs with
     | some l=>some (.agg (l.map (·.1)),l.flatMap (·.2))
     | none=>none
   | .fn f cs=>match mapO (psnap L k) cs with
     | some l=>some (.fn f (l.map (·.1)),l.flatMap (·.2))
     | none=>none
   | .tup cs=>match mapO (psnap L k) cs with
     | some l=>some (.tup (l.map (·.1)),l.flatMap (·.2))
     | none=>none
   | .loc b z i o=>match L b with
     | some ent=>if ent.z=z∧(ent.box=true∨0 < ent.z) then (match ent.box with
       | true=>(match ent.es[i]? with
         | some cs=>(match mapO (psnap L k) (cs.drop o) with
           | some l=>some (.fp (l.map (·.1)),l.flatMap (·.2))
           | none=>none)
         | none=>none)
       | false=>if i=0∧o=0 then some (.fa z ent.es,[i < ent.es.length]) else some (.fp (zmi ent.es i o),[i < ent.es.length])) else none
     | none=>none
   | a=>match snap L (k+1) a with
     | some a'=>some (a',[])
     | none=>none
theorem zqQ {l:List (AV×List Prop)} (h:Holds (l.flatMap (·.2))):∀ q∈l,Holds q.2:=by
 induction l with
 | nil=>intro q hq; cases hq
 | cons p r ih =>
   simp only [List.flatMap_cons,zbg] at h; intro q hq; rcases List.mem_cons.1 hq with rfl | hq
   · exact h.1
   · exact ih h.2 q hq
theorem mapO_of {α β γ:Type} {f:α→Option β} {g:α→Option γ} {t:γ→β}:∀ {l:List α} {r:List γ},mapO g l=some r→(∀ a c,a∈l→c∈r→g a=some c→f a=some (t c))→mapO f l=some (r.map t)
 | [],r,h,_=>by simp [mapO] at h; subst h; rfl
 | a :: l,r,h,hf=>by
   simp only [mapO] at h
   cases hg:g a with
   | none=>simp [hg] at h
   | some c =>
     simp only [hg] at h
     cases hm:mapO g l with
     | none=>simp [hm] at h
     | some l'=>simp only [hm,Option.some.injEq] at h; subst h; simp only [mapO,hf a c (by simp) (by simp) hg,List.map_cons]; rw [mapO_of hm (fun a' c' ha hc=>hf a' c' (by simp [ha]) (by simp [hc]))]
theorem zdL {L:Nat→Option Ent}:∀ (k:Nat) (a a':AV) (cs:List Prop),psnap L k a=some (a',cs)→Holds cs→snap L k a=some a':=by
 intro k
 induction k with
 | zero=>intro a a' cs h; simp [psnap] at h
 | succ k ih =>
   intro a a' ps h hh
   have lists:∀ (cs:List AV) (l:List (AV×List Prop)),mapO (psnap L k) cs=some l→Holds (l.flatMap (·.2))→mapO (snap L k) cs=some (l.map (·.1)):=by intro cs l hm hl; exact mapO_of hm (fun a c _ hc hg=>ih a c.1 c.2 hg (zqQ hl c hc))
   cases a with
   | row b z off n =>
     simp only [psnap] at h; simp only [snap]
     cases hl:L b with
     | none=>simp [hl] at h
     | some ent =>
       simp only [hl] at h ⊢; split at h
       case isFalse=>cases h
       rename_i hc; simp only [Option.some.injEq,Prod.mk.injEq] at h; obtain ⟨rfl,rfl⟩:=h; rw [if_pos ⟨hc.1,hc.2.1,hc.2.2,hh.1⟩]
   | agg cs =>
     simp only [psnap] at h; simp only [snap]
     cases hm:mapO (psnap L k) cs with
     | none=>simp [hm] at h
     | some l=>simp only [hm,Option.some.injEq,Prod.mk.injEq] at h; obtain ⟨rfl,rfl⟩:=h; rw [lists cs l hm hh]
   | fn f cs =>
     simp only [psnap] at h; simp only [snap]
     cases hm:mapO (psnap L k) cs with
     | none=>simp [hm] at h
     | some l=>simp only [hm,Option.some.injEq,Prod.mk.injEq] at h; obtain ⟨rfl,rfl⟩:=h; rw [lists cs l hm hh]
   | tup cs =>
     simp only [psnap] at h; simp only [snap]
     cases hm:mapO (psnap L k) cs with
     | none=>simp [hm] at h
     | some l=>simp only [hm,Option.some.injEq,Prod.mk.injEq] at h; obtain ⟨rfl,rfl⟩:=h; rw [lists cs l hm hh]
   | loc b z i o =>
     simp only [psnap] at h; simp only [snap]
     cases hl:L b with
     | none=>simp [hl] at h
     | some ent =>
       simp only [hl] at h ⊢; split at h
       case isFalse=>cases h
       rename_i hc; rw [if_pos hc]
       cases hbx:ent.box with
       | true =>
         simp only [hbx] at h
         cases hi:ent.es[i]? with
         | none=>simp [hi] at h
         | some cs =>
           simp only [hi,if_true] at h ⊢
           cases hm:mapO (psnap L k) (cs.drop o) with
           | none=>simp [hm] at h
           | some l=>simp only [hm,Option.some.injEq,Prod.mk.injEq] at h; obtain ⟨rfl,rfl⟩:=h; rw [lists _ l hm hh]
       | false =>
         simp only [hbx] at h; split at h
         · rename_i hio; simp only [Option.some.injEq,Prod.mk.injEq] at h; obtain ⟨rfl,rfl⟩:=h; rw [List.getElem?_eq_getElem hh.1]; simp [hio]
         · rename_i hio; simp only [Option.some.injEq,Prod.mk.injEq] at h; obtain ⟨rfl,rfl⟩:=h; rw [List.getElem?_eq_getElem hh.1]; simp [hio]
   | _ =>
     simp only [psnap] at h; split at h
     · rename_i a1 ha; simp only [Option.some.injEq,Prod.mk.injEq] at h; obtain ⟨rfl,rfl⟩:=h; exact ha
     · cases h
def zhM (L:Nat→Option Ent) (wrt:List Nat):Nat→List AV→Option ((List AV×Mem×List (Nat×Nat)×List Nat)×List Prop)
 | _,[]=>some (([],[],[],[]),[])
 | k,a :: r=>match zhM L wrt (k+1) r with
   | none=>none
   | some ((as,ms,bk,fz),ps) =>
     if (wrt.contains k && !a.data)=true then (match a with
      | .loc b z 0 0=>match L b with
        | some ent=>if ent.z=z∧ent.box=true∧allL (fun cs=>allL (AV.isC 4) cs) ent.es=true∧bk.all (fun p=>p.1≠b)=true then
          some ((.loc (1000+k) z 0 0 :: as,(1000+k,ent) :: ms,(b,1000+k) :: bk,fz),ps) else none
        | none=>none
      | .row b z off n=>match L b with
        | some ent=>if ent.z=z∧ent.box=false∧0 < z∧bk.all (fun p=>p.1≠b)=true then
          some ((.row (1000+k) z off n :: as,(1000+k,ent) :: ms,(b,1000+k) :: bk,fz),ps) else none
        | none=>none
      | .map b=>match L b with
        | some ent=>if ent.z=0∧ent.box=false∧bk.all (fun p=>p.1≠b)=true then
          some ((.map (1000+k) :: as,(1000+k,ent) :: ms,(b,1000+k) :: bk,fz),ps) else none
        | none=>none
      | a=>match ziG a with
        | some (b,z,f)=>match L b with
          | some ent=>if ent.z=z∧ent.box=true∧allL (fun cs=>allL (AV.isC 4) cs) ent.es=true∧bk.all (fun p=>p.1≠b)=true then
            some ((f (1000+k) :: as,(1000+k,ent) :: ms,(b,1000+k) :: bk,fz),ps) else none
          | none=>none
        | none=>none)
     else if wrt.contains (100+k) then (match a with
      | .row b z 0 n=>match L b with
        | some ent=>if ent.z=z∧ent.box=false∧0 < z∧b < 1000∧k < 50∧bk.all (fun p=>p.1≠b)=true then
          some ((.row (950+k) z 0 n :: as,(950+k,ent) :: ms,(b,950+k) :: bk,fz),(n=ent.es.length) :: ps) else none
        | none=>none
      | _=>none)
     else match psnap L 5 a with
      | some (a',qs)=>some ((a' :: as,ms,bk,a.ids L 5++fz),qs++ps)
      | none=>none
theorem zfX {L:Nat→Option Ent} {wrt:List Nat}:∀ (args:List AV) (k:Nat) (q:List AV×Mem×List (Nat×Nat)×List Nat) (ps:List Prop),zhM L wrt k args=some (q,ps)→Holds ps→zbw L wrt k args=some q
 | [],k,q,ps,h,_=>by simp [zhM] at h; rw [← h.1]; rfl
 | a :: r,k,q,ps,h,hh=>by
   simp only [zhM] at h
   cases hr:zhM L wrt (k+1) r with
   | none=>simp [hr] at h
   | some q0 =>
     obtain ⟨⟨as,ms,bk,fz⟩,ps0⟩:=q0; simp only [hr] at h; simp only [zbw]; by_cases hw:(wrt.contains k && !a.data)=true
     · simp only [hw,if_true] at h ⊢
       have hps:Holds ps0:=by
        split at h
        · split at h
          · split at h
            · simp only [Option.some.injEq,Prod.mk.injEq] at h; rw [h.2]; exact hh
            · cases h
          · cases h
        · split at h
          · split at h
            · simp only [Option.some.injEq,Prod.mk.injEq] at h; rw [h.2]; exact hh
            · cases h
          · cases h
        · split at h
          · split at h
            · simp only [Option.some.injEq,Prod.mk.injEq] at h; rw [h.2]; exact hh
            · cases h
          · cases h
        · split at h
          · split at h
            · split at h
              · simp only [Option.some.injEq,Prod.mk.injEq] at h; rw [h.2]; exact hh
              · cases h
            · cases h
          · cases h
       rw [zfX r (k+1) _ _ hr hps]; simp only; split at h
       · split at h
         · rename_i ent hl; split at h
           · rename_i hc; simp only [hl,Option.some.injEq,Prod.mk.injEq] at h ⊢; rw [if_pos hc,← h.1]
           · cases h
         · cases h
       · split at h
         · rename_i ent hl; split at h
           · rename_i hc; simp only [hl,Option.some.injEq,Prod.mk.injEq] at h ⊢; rw [if_pos hc,← h.1]
           · cases h
         · cases h
       · split at h
         · rename_i ent hl; split at h
           · rename_i hc; simp only [hl,Option.some.injEq,Prod.mk.injEq] at h ⊢; rw [if_pos hc,← h.1]
           · cases h
         · cases h
       · rename_i a n1 n2 n3; split at h
         case h_2=>cases h
         rename_i b z f hsl; split at h
         case h_2=>cases h
         rename_i ent hl; split at h
         case isFalse=>cases h
         rename_i hc; simp only [Option.some.injEq,Prod.mk.injEq] at h; split
         · exact absurd rfl (n1 _ _)
         · exact absurd rfl (n2 _ _ _ _)
         · exact absurd rfl (n3 _)
         · simp only [hsl,hl]; rw [if_pos hc,← h.1]
     · simp only [hw,if_false,Bool.false_eq_true] at h ⊢; by_cases hg:wrt.contains (100+k)=true
       · simp only [hg,if_true] at h ⊢; split at h
         case h_2=>cases h
         split at h
         case h_2=>cases h
         rename_i ent hl; split at h
         case isFalse=>cases h
         rename_i hc; simp only [Option.some.injEq,Prod.mk.injEq] at h; obtain ⟨h1,rfl⟩:=h; rw [zfX r (k+1) _ _ hr hh.2]; simp only [hl]; rw [if_pos ⟨hc.1,hc.2.1,hc.2.2.1,hh.1,hc.2.2.2.1,hc.2.2.2.2.1,hc.2.2.2.2.2⟩,← h1]
       simp only [hg,if_false,Bool.false_eq_true] at h ⊢
       cases hs:psnap L 5 a with
       | none=>simp [hs] at h
       | some q1=>obtain ⟨a',qs⟩:=q1; simp only [hs,Option.some.injEq,Prod.mk.injEq] at h; obtain ⟨rfl,rfl⟩:=h; rw [zbg] at hh; rw [zfX r (k+1) _ _ hr hh.2,zdL 5 a a' qs hs hh.1]
def pnest (L:Nat→Option Ent):Nat→List AV→Option ((List AV×Mem×List (Nat×Nat))×List Prop)
 | _,[]=>some (([],[],[]),[])
 | q,a :: r=>if a.isC 4=true then (match pnest L q r with
   | some ((cs,ms,bk),ps)=>some ((a :: cs,ms,bk),ps)
   | none=>none)
   else match a with
    | .row c z 0 n=>match L c,pnest L (q+1) r with
      | some ent,some ((cs,ms,bk),ps)=>if ent.z=z∧ent.box=false∧0 < z∧c < 1000∧q < 950∧bk.all (fun p=>p.1≠c)=true then
        some ((.row q z 0 n :: cs,(q,ent) :: ms,(c,q) :: bk),(n=ent.es.length) :: ps) else none
      | _,_=>none
    | .map c=>match L c,pnest L (q+1) r with
      | some ent,some ((cs,ms,bk),ps)=>if ent.z=0∧ent.box=false∧c < 1000∧q < 950∧bk.all (fun p=>p.1≠c)=true then
        some ((.map q :: cs,(q,ent) :: ms,(c,q) :: bk),ps) else none
      | _,_=>none
    | _=>none
theorem ziL {L:Nat→Option Ent}:∀ (cs:List AV) (q:Nat) (x:List AV×Mem×List (Nat×Nat)) (ps:List Prop),pnest L q cs=some (x,ps)→Holds ps→nest L q cs=some x
 | [],q,x,ps,h,_=>by simp [pnest] at h; rw [← h.1]; rfl
 | a :: r,q,x,ps,h,hh=>by
   simp only [pnest] at h; simp only [nest]; split at h
   · rename_i hC; rw [if_pos hC]; split at h
     case h_2=>cases h
     rename_i cs ms bk ps0 hr; simp only [Option.some.injEq,Prod.mk.injEq] at h; obtain ⟨rfl,rfl⟩:=h; rw [ziL r q _ _ hr hh]
   · rename_i hC; rw [if_neg hC]; split at h
     · split at h
       case h_2=>cases h
       rename_i ent cs ms bk ps0 hl hr; split at h
       case isFalse=>cases h
       rename_i hc; simp only [Option.some.injEq,Prod.mk.injEq] at h; obtain ⟨rfl,rfl⟩:=h; simp only [hl]; rw [ziL r (q+1) _ _ hr hh.2]; simp only; rw [if_pos ⟨hc.1,hc.2.1,hc.2.2.1,hh.1,hc.2.2.2⟩]
     · split at h
       case h_2=>cases h
       rename_i ent cs ms bk ps0 hl hr; split at h
       case isFalse=>cases h
       rename_i hc; simp only [Option.some.injEq,Prod.mk.injEq] at h; obtain ⟨rfl,rfl⟩:=h; simp only [hl]; rw [ziL r (q+1) _ _ hr hh]; simp only; rw [if_pos hc]
     · cases h
def pdArgs (L:Nat→Option Ent) (k0:Nat) (x:AV):Nat→List AV→Option ((List AV×List Nat)×List Prop)
 | _,[]=>some (([],[]),[])
 | k,a :: r=>match pdArgs L k0 x (k+1) r with
   | none=>none
   | some ((as,fz),ps)=>if k=k0 then some ((x :: as,fz),ps) else match psnap L 5 a with
     | some (a',qs)=>some ((a' :: as,a.ids L 5++fz),qs++ps)
     | none=>none
theorem zkB {L:Nat→Option Ent} {k0:Nat} {x0:AV}:∀ (args:List AV) (k:Nat) (x:List AV×List Nat) (ps:List Prop),pdArgs L k0 x0 k args=some (x,ps)→Holds ps→dArgs L k0 x0 k args=some x
 | [],k,x,ps,h,_=>by simp [pdArgs] at h; rw [← h.1]; rfl
 | a :: r,k,x,ps,h,hh=>by
   simp only [pdArgs] at h; simp only [dArgs]; split at h
   · cases h
   · rename_i as fz ps0 hr; split at h
     · rename_i hk; simp only [Option.some.injEq,Prod.mk.injEq] at h; obtain ⟨rfl,rfl⟩:=h; rw [zkB r (k+1) _ _ hr hh]; simp only; rw [if_pos hk]
     · rename_i hk; split at h
       case h_2=>cases h
       rename_i a' qs hs; simp only [Option.some.injEq,Prod.mk.injEq] at h; obtain ⟨rfl,rfl⟩:=h; rw [zbg] at hh; rw [zkB r (k+1) _ _ hr hh.2]; simp only; rw [if_neg hk,zdL 5 a a' qs hs hh.1]
def pInt (op:BinOp) (k k':IntKind) (a b:Int):Option (AV×List Prop):=
 match op with
 | .shl=>some (.v (.int k (k.wrap (a*2 ^ (min b.toNat k.bits)))),[0≤b])
 | .shr=>some (.v (.int k (a.fdiv (2 ^ (min b.toNat k.bits)))),[0≤b])
 | op=>if k=k' then (match op with
   | .add=>some (.v (.int k (k.wrap (a+b))),[])
   | .sub=>some (.v (.int k (k.wrap (a - b))),[])
   | .mul=>some (.v (.int k (k.wrap (a*b))),[])
   | .quo=>some (.v (.int k (k.wrap (a.tdiv b))),[b≠0])
   | .rem=>some (.v (.int k (a.tmod b)),[b≠0])
   | .eql=>some (.v (.bool (a == b)),[])
   | .neq=>some (.v (.bool (a != b)),[])
   | .lss=>some (.v (.bool (decide (a < b))),[])
   | .leq=>some (.v (.bool (decide (a≤b))),[])
   | .gtr=>some (.v (.bool (decide (b < a))),[])
   | .geq=>some (.v (.bool (decide (b≤a))),[])
   | _=>none) else none
theorem pInt_sound {P:Program} {o:Oper} {op:BinOp} {t u:TypeId} {x y:Operand} {E:Operand→AV} {k k':IntKind} {a b:Int} (ho:o.op=.binOp op t x y u) (hx:E x=.v (.int k a)) (hy:E y=.v (.int k' b)) {v:AV} {ps:List Prop}
  (h:pInt op k k' a b=some (v,ps)) (hh:Holds ps):aPure P o E=some { val:=v }:=by
 have hops:o.op.operands=#[x,y]:=by rw [ho]; rfl
 unfold aPure; rw [hops]; have hall:([x,y].all fun x=>(E x).toVal.isSome)=true:=by simp [hx,hy,AV.toVal]
 rw [show (#[x,y]:Array Operand).toList=[x,y] from rfl,if_pos hall]
 have hex:execOp (fun x=>((E x).toVal).getD undef) o=(do let q ← (do eqGuard op t x y (.int k a) (.int k' b); binOp op t (.int k a) (.int k' b)); pure (.value q)):=by simp only [execOp,ho,hx,hy,AV.toVal,Option.getD_some]
 rw [hex]
 have hg:∀ (s:Sem Value),za4 P (do eqGuard op t x y (.int k a) (.int k' b); s)=za4 P s:=by intro s; cases op <;> simp [eqGuard,Bind.bind,Sem.bind,Pure.pure]
 have hrun:∀ (s:Sem Value) (q:Value),za4 P s=some q→za4 P (do let q ← s; pure (Next.value q))=some (Next.value q):=by
  intro s
  induction s with
  | pure a=>intro q hq; simp [za4] at hq; subst hq; rfl
  | program f ih=>intro q hq; simp only [za4] at hq; exact ih P q hq
  | mark m f ih=>intro q hq; simp only [za4] at hq; exact ih q hq
  | _=>intro q hq; simp [za4] at hq
 have fin:∀ q:Value,q.oneCell'=true→(∀ vs,q≠.tuple vs)→za4 P (binOp op t (.int k a) (.int k' b))=some q→v=.v q→(match za4 P (do let q ← (do eqGuard op t x y (.int k a) (.int k' b); binOp op t (.int k a) (.int k' b)); pure (Next.value q)) with
    | some (.value x)=>match ofVal x with
      | some a=>some { val:=a }
      | none=>none
    | _=>none)=some ({ val:=v }:Res):=by
  intro q h1 hn h2 h3; rw [hrun _ q (by rw [hg]; exact h2)]
  have:ofVal q=some (.v q):=by
   unfold ofVal; split
   · exact absurd rfl (hn _)
   · rw [if_pos h1]
  simp only [this,h3]
 unfold pInt at h; cases op <;> simp only at h
 case shl =>
  simp only [Option.some.injEq,Prod.mk.injEq] at h; obtain ⟨rfl,rfl⟩:=h; refine fin (.int k (k.wrap (a*2 ^ (min b.toNat k.bits)))) rfl (by simp) ?_ rfl; have:¬ b < 0:=by have:=hh.1; omega
  simp [binOp,Op.shift,this,za4,Pure.pure]
 case shr =>
  simp only [Option.some.injEq,Prod.mk.injEq] at h; obtain ⟨rfl,rfl⟩:=h; refine fin (.int k (a.fdiv (2 ^ (min b.toNat k.bits)))) rfl (by simp) ?_ rfl; have:¬ b < 0:=by have:=hh.1; omega
  simp [binOp,Op.shift,this,za4,Pure.pure]
 all_goals
  split at h
  case isFalse=>cases h
  rename_i hk; subst hk
 case add | sub | mul=>simp only [Option.some.injEq,Prod.mk.injEq] at h; obtain ⟨rfl,rfl⟩:=h; refine fin _ rfl (by simp) ?_ rfl; simp [binOp,Op.intArith,za4,Pure.pure]
 case quo | rem=>simp only [Option.some.injEq,Prod.mk.injEq] at h; obtain ⟨rfl,rfl⟩:=h; refine fin _ rfl (by simp) ?_ rfl; have:=hh.1; simp [binOp,Op.intDiv,this,za4,Pure.pure]
 case eql | neq | lss | leq | gtr | geq=>simp only [Option.some.injEq,Prod.mk.injEq] at h; obtain ⟨rfl,rfl⟩:=h; refine fin _ rfl (by simp) ?_ rfl; simp [binOp,Op.intCmp,za4,Pure.pure]
 all_goals cases h
def noCall:zaX:=fun _ _ _=>none
theorem noCall_le (c:zaX):LeC noCall c:=fun _ _ _ _ h=>by cases h
def psrc (L:Nat→Option Ent) (z:Nat):AV→Option (List (List AV)×List Prop)
 | .row b z' off n=>match L b with
   | some ent=>if ent.z=z∧z'=z∧ent.box=false∧0 < z then some ((ent.es.drop off).take n,[off+n≤ent.es.length]) else none
   | none=>none
 | a=>match srcOf L z a with
   | some l=>some (l,[])
   | none=>none
theorem zmu {L:Nat→Option Ent} {z:Nat} {a:AV} {l:List (List AV)} {ps:List Prop} (h:psrc L z a=some (l,ps)) (hh:Holds ps):srcOf L z a=some l:=by
 unfold psrc at h; split at h
 · rename_i b z' off n; simp only [srcOf]
   cases hl:L b with
   | none=>simp [hl] at h
   | some ent =>
     simp only [hl] at h ⊢; split at h
     case isFalse=>cases h
     rename_i hc; simp only [Option.some.injEq,Prod.mk.injEq] at h; obtain ⟨rfl,rfl⟩:=h; rw [if_pos ⟨hc.1,hc.2.1,hc.2.2.1,hc.2.2.2,hh.1⟩]
 · split at h
   · rename_i l' hl; simp only [Option.some.injEq,Prod.mk.injEq] at h; obtain ⟨rfl,rfl⟩:=h; exact hl
   · cases h
def pNat (d:Nat):Option AV→Option (Nat×List Prop)
 | none=>some (d,[])
 | some (.v (.int _ n))=>some (n.toNat,[0≤n])
 | _=>none
theorem zjR {d n:Nat} {a:Option AV} {ps:List Prop} (h:pNat d a=some (n,ps)) (hh:Holds ps):natOf d a=some n:=by
 unfold pNat at h; split at h
 · simp only [Option.some.injEq,Prod.mk.injEq] at h; obtain ⟨rfl,rfl⟩:=h; rfl
 · simp only [Option.some.injEq,Prod.mk.injEq] at h; obtain ⟨rfl,rfl⟩:=h; simp only [natOf]; rw [if_pos hh.1]
 · cases h
def pSlice (P:Program) (t:TypeId) (x:AV) (lo hi:Option AV):Option (Res×List Prop):=
 match P.underlying t with
 | some (.slice e)=>match szB P e,x with
   | some sz,.sl z es=>match pNat 0 lo,pNat es.length hi with
     | some (l,ps),some (h,qs)=>if z=sz then some ({ val:=.sl z ((es.take h).drop l) },ps++(qs++[l≤h,h≤es.length])) else none
     | _,_=>none
   | some sz,.row b z off n=>match pNat 0 lo,pNat n hi with
     | some (l,ps),some (h,qs)=>if z=sz then some ({ val:=.row b z (off+l) (h - l) },ps++(qs++[l≤h,h≤n])) else none
     | _,_=>none
   | _,_=>none
 | _=>none
theorem zth {P:Program} {t:TypeId} {x:AV} {lo hi:Option AV} {r:Res} {ps:List Prop} (h:pSlice P t x lo hi=some (r,ps)) (hh:Holds ps):aSlice P t x lo hi=some r:=by
 unfold pSlice at h; unfold aSlice
 cases hu:P.underlying t with
 | none=>simp [hu] at h
 | some td =>
   cases td with
   | slice e =>
     simp only [hu] at h ⊢; split at h
     · rename_i sz z es hs; simp only [hs]; split at h
       case h_2=>cases h
       rename_i l p1 hh' q1 h1 h2; split at h
       case isFalse=>cases h
       rename_i hz; simp only [Option.some.injEq,Prod.mk.injEq] at h; obtain ⟨rfl,rfl⟩:=h; rw [zbg,zbg] at hh; rw [zjR h1 hh.1,zjR h2 hh.2.1]; simp only; rw [if_pos ⟨hz,hh.2.2.1,hh.2.2.2.1⟩]
     · rename_i sz b z off n hs; simp only [hs]; split at h
       case h_2=>cases h
       rename_i l p1 hh' q1 h1 h2; split at h
       case isFalse=>cases h
       rename_i hz; simp only [Option.some.injEq,Prod.mk.injEq] at h; obtain ⟨rfl,rfl⟩:=h; rw [zbg,zbg] at hh; rw [zjR h1 hh.1,zjR h2 hh.2.1]; simp only; rw [if_pos ⟨hz,hh.2.2.1,hh.2.2.2.1⟩]
     · cases h
   | _=>simp [hu] at h
def pMake (P:Program) (d:Nat) (t:TypeId) (l c:AV):Option (Res×List Prop):=
 match l,c with
 | .v (.int _ n),.v (.int _ n')=>match P.underlying t with
   | some (.slice e)=>match szB P e,zeroB P e,P.info? e with
     | some sz,some zero,some i=>if 0 < sz∧zero.length=sz∧allL AV.one zero=true then
       some ({ val:=.row d sz 0 (List.replicate n.toNat (nrmL P (zdN P 8 e) zero)).length,set:=[(d,{ z:=sz,e:=e,es:=List.replicate n.toNat (nrmL P (zdN P 8 e) zero),box:=false })] },[n=n',0≤n,n.toNat*(i.bytes+1)≤1099511627776]) else none
     | _,_,_=>none
   | _=>none
 | _,_=>none
theorem ztQ {P:Program} {d:Nat} {t:TypeId} {l c:AV} {r:Res} {ps:List Prop} (h:pMake P d t l c=some (r,ps)) (hh:Holds ps):aMake P d t l c=some r:=by
 unfold pMake at h; split at h
 case h_2=>cases h
 rename_i k n k' n'; split at h
 case h_2=>cases h
 rename_i e hu; split at h
 case h_2=>cases h
 rename_i sz zero i hs hz hi; split at h
 case isFalse=>cases h
 rename_i hc; simp only [Option.some.injEq,Prod.mk.injEq] at h; obtain ⟨rfl,rfl⟩:=h; simp only [aMake,hu,hs,hz,hi]; rw [if_pos ⟨hh.1,hh.2.1,hc.1,hc.2.1,hc.2.2,hh.2.2.1⟩]
def pAppend (P:Program) (L:Nat→Option Ent) (d:Nat) (t:TypeId) (s x:AV):Option (Res×List Prop):=
 match P.underlying t with
 | some (.slice e)=>match P.info? e,zeroB P e with
   | some i,some zero=>if 0 < i.size∧zero.length=i.size then (match psrc L i.size x with
     | some (new,ps)=>(match s with
       | .v (.slice none 0 0)=>some ({ val:=.row d i.size 0 new.length,set:=[(d,{ z:=i.size,e:=e,es:=new,box:=false })] },ps++[new.length*(i.bytes+1)≤1099511627776])
       | .row b z off n=>match L b with
         | some ent=>if b < 1000∧b≠d∧ent.z=i.size∧z=i.size∧ent.e=e∧ent.box=false∧off=0 then
           some ({ val:=.row d i.size 0 (ent.es++new).length,set:=[(d,{ z:=i.size,e:=e,es:=ent.es++new,box:=false })],kill:=some b },ps++[n=ent.es.length,(ent.es.length+new.length)*(i.bytes+1)≤1099511627776]) else none
         | none=>none
       | _=>none)
     | none=>none) else none
   | _,_=>none
 | _=>none
theorem zsB {P:Program} {L:Nat→Option Ent} {d:Nat} {t:TypeId} {s x:AV} {r:Res} {ps:List Prop} (h:pAppend P L d t s x=some (r,ps)) (hh:Holds ps):zfI P L d t s x=some r:=by
 unfold pAppend at h; unfold zfI
 cases hu:P.underlying t with
 | none=>simp [hu] at h
 | some td =>
   cases td with
   | slice e =>
     simp only [hu] at h ⊢
     cases hi:P.info? e with
     | none=>simp [hi] at h
     | some i =>
       cases hz:zeroB P e with
       | none=>simp [hi,hz] at h
       | some zero =>
         simp only [hi,hz] at h ⊢; split at h
         case isFalse=>cases h
         rename_i hc; rw [if_pos hc]
         cases hs:psrc L i.size x with
         | none=>simp [hs] at h
         | some q =>
           obtain ⟨new,qs⟩:=q; simp only [hs] at h; split at h
           · simp only [Option.some.injEq,Prod.mk.injEq] at h; obtain ⟨rfl,rfl⟩:=h; rw [zbg] at hh; rw [zmu hs hh.1]; simp only; rw [if_pos hh.2.1]
           · rename_i b z off n
             cases hl:L b with
             | none=>simp [hl] at h
             | some ent =>
               simp only [hl] at h ⊢; split at h
               case isFalse=>cases h
               rename_i hc2; simp only [Option.some.injEq,Prod.mk.injEq] at h; obtain ⟨rfl,rfl⟩:=h; rw [zbg] at hh; rw [zmu hs hh.1]; simp only; rw [if_pos ⟨hc2.1,hc2.2.1,hc2.2.2.1,hc2.2.2.2.1,hc2.2.2.2.2.1,hc2.2.2.2.2.2.1,hc2.2.2.2.2.2.2,hh.2.1,hh.2.2.1⟩]
           · cases h
   | _=>simp [hu] at h
def pCopy (P:Program) (L:Nat→Option Ent) (t:TypeId) (s x:AV):Option (Res×List Prop):=
 match P.underlying t with
 | some (.slice e)=>match szB P e,s with
   | some sz,.row b z off n=>match L b,psrc L sz x with
     | some ent,some (new,ps)=>if 0 < sz∧z=sz∧ent.z=sz∧ent.box=false then
       some ({ val:=.v (.int .i64 (min new.length n:Nat)),set:=[(b,{ ent with es:=ent.es.take off++(new.take n)++ent.es.drop (off+min new.length n) })] },ps++[off+n≤ent.es.length]) else none
     | _,_=>none
   | _,_=>none
 | _=>none
theorem ztP {P:Program} {L:Nat→Option Ent} {t:TypeId} {s x:AV} {r:Res} {ps:List Prop} (h:pCopy P L t s x=some (r,ps)) (hh:Holds ps):aCopy P L t s x=some r:=by
 unfold pCopy at h; unfold aCopy
 cases hu:P.underlying t with
 | none=>simp [hu] at h
 | some td =>
   cases td with
   | slice e =>
     simp only [hu] at h ⊢; split at h
     case h_2=>cases h
     rename_i sz b z off n hs; simp only [hs]; split at h
     case h_2=>cases h
     rename_i ent new qs hl hsrc; split at h
     case isFalse=>cases h
     rename_i hc; simp only [Option.some.injEq,Prod.mk.injEq] at h; obtain ⟨rfl,rfl⟩:=h; rw [zbg] at hh; rw [hl,zmu hsrc hh.1]; simp only; rw [if_pos ⟨hc.1,hc.2.1,hc.2.2.1,hc.2.2.2,hh.2.1⟩]
   | _=>simp [hu] at h
def pClear (P:Program) (L:Nat→Option Ent) (t:TypeId) (s:AV):Option (Res×List Prop):=
 match P.underlying t with
 | some (.slice e)=>match szB P e,zeroB P e,s with
   | some sz,some zero,.row b z off n=>match L b with
     | some ent=>if 0 < sz∧z=sz∧ent.z=sz∧ent.box=false∧zero.length=sz∧allL AV.one zero=true then
       some ({ val:=.tup [],set:=[(b,{ ent with es:=ent.es.take off++List.replicate n (nrmL P (zdN P 8 e) zero)++ent.es.drop (off+n) })] },[off+n≤ent.es.length]) else none
     | none=>none
   | _,_,_=>none
 | _=>none
theorem ztg {P:Program} {L:Nat→Option Ent} {t:TypeId} {s:AV} {r:Res} {ps:List Prop} (h:pClear P L t s=some (r,ps)) (hh:Holds ps):aClear P L t s=some r:=by
 unfold pClear at h; unfold aClear
 cases hu:P.underlying t with
 | none=>simp [hu] at h
 | some td =>
   cases td with
   | slice e =>
     simp only [hu] at h ⊢; split at h
     case h_2=>cases h
     rename_i sz zero b z off n hs hz; simp only [hs,hz]; split at h
     case h_2=>cases h
     rename_i ent hl; split at h
     case isFalse=>cases h
     rename_i hc; simp only [Option.some.injEq,Prod.mk.injEq] at h; obtain ⟨rfl,rfl⟩:=h; rw [hl]; simp only; rw [if_pos ⟨hc.1,hc.2.1,hc.2.2.1,hc.2.2.2.1,hc.2.2.2.2.1,hc.2.2.2.2.2,hh.1⟩]
   | _=>simp [hu] at h
def strAt (s:ByteArray) (n:Int):Int:=(((s[n.toNat]?).getD 0).toNat:Int)
theorem ztZ {P:Program} {o:Oper} {t:TypeId} {x ix:Operand} {E:Operand→AV} {s:ByteArray} {k:IntKind} {n:Int} (ho:o.op=.index t x ix) (hx:E x=.v (.string s)) (hi:E ix=.v (.int k n))
  (hu:P.underlying t=some .string) (h0:0≤n) (h1:n < (s.size:Int)):aPure P o E=some { val:=.v (.int .u8 (strAt s n)) }:=by
 have h1':n.toNat < s.size:=by omega
 have hs:s[n.toNat]?=some s[n.toNat]:=by simp [h1']
 have hr:za4 P (execOp (fun x=>((E x).toVal).getD undef) o)=some (.value (.int .u8 (strAt s n))):=by simp [execOp,ho,hx,hi,AV.toVal,Instr.index,asIntOf,underlying,h0,hs,strAt,bind,Sem.bind,Pure.pure]; simp [program,za4,Sem.bind,hu,hs]
 unfold aPure
 have ha:o.op.operands.toList.all (fun x=>(E x).toVal.isSome)=true:=by simp [ho,Op.operands,hx,hi,AV.toVal]
 rw [if_pos ha,hr]; rfl
def pStr (op:BinOp) (a b:ByteArray):Option (AV×List Prop):=
 match op with
 | .add=>some (.v (.string (a++b)),[a.size+b.size≤9223372036854775807])
 | .eql=>some (.v (.bool (a == b)),[])
 | .neq=>some (.v (.bool (!(a == b))),[])
 | _=>none
theorem toList_beq (a b:ByteArray):(a.toList == b.toList)=(a == b):=by rw [Bool.eq_iff_iff,beq_iff_eq]; show a.toList=b.toList↔(a.data == b.data)=true; rw [beq_iff_eq,ByteArray.toList_eq,ByteArray.toList_eq]; exact ⟨fun h=>Array.toList_inj.1 h,fun h=>by rw [h]⟩
theorem pStr_sound {P:Program} {o:Oper} {op:BinOp} {t u:TypeId} {x y:Operand} {E:Operand→AV} {a b:ByteArray} (ho:o.op=.binOp op t x y u) (hx:E x=.v (.string a)) (hy:E y=.v (.string b)) {v:AV} {ps:List Prop}
  (h:pStr op a b=some (v,ps)) (hh:Holds ps):aPure P o E=some { val:=v }:=by
 have hops:o.op.operands.toList=[x,y]:=by rw [ho]; rfl
 have hr:∃ q,za4 P (execOp (fun x=>((E x).toVal).getD undef) o)=some (.value q)∧v=.v q∧q.oneCell'=true∧∀ vs,q≠.tuple vs:=by
  unfold pStr at h; cases op <;> simp only at h
  case add =>
   simp only [Option.some.injEq,Prod.mk.injEq] at h; obtain ⟨rfl,rfl⟩:=h; refine ⟨_,?_,rfl,rfl,by simp⟩; have h1:¬ (((a.size+b.size:Nat):Int) > IntKind.i64.max):=by have:=hh.1; show ¬ (_ > (9223372036854775807:Int)); omega
   simp only [execOp,ho,hx,hy,AV.toVal,Option.getD_some,eqGuard,binOp,Op.stringOp]; rw [if_neg h1]; rfl
  case eql | neq=>simp only [Option.some.injEq,Prod.mk.injEq] at h; obtain ⟨rfl,rfl⟩:=h; refine ⟨_,?_,rfl,rfl,by simp⟩; simp only [execOp,ho,hx,hy,AV.toVal,Option.getD_some,eqGuard,binOp,Op.stringOp,toList_beq]; rfl
  all_goals cases h
 obtain ⟨q,h1,rfl,h3,h4⟩:=hr; unfold aPure; rw [hops,if_pos (by simp [hx,hy,AV.toVal]),h1]
 have:ofVal q=some (.v q):=by
  unfold ofVal; split
  · exact absurd rfl (h4 _)
  · rw [if_pos h3]
 simp only [this]
def pPart (s:ByteArray) (lo hi:Option AV):Option (AV×List Prop):=
 match pNat 0 lo,pNat s.size hi with
 | some (l,ps),some (h,qs)=>some (.v (.string (s.extract l h)),ps++(qs++[l≤h,h≤s.size]))
 | _,_=>none
theorem ztR {P:Program} {o:Oper} {t:TypeId} {x:Operand} {lo hi:Option Operand} {E:Operand→AV} {s:ByteArray} (ho:o.op=.slice t x lo hi none) (hx:E x=.v (.string s)) (hu:P.underlying t=some .string)
  {v:AV} {ps:List Prop} (h:pPart s (lo.map E) (hi.map E)=some (v,ps)) (hh:Holds ps):aPure P o E=some { val:=v }:=by
 unfold pPart at h; split at h
 case h_2=>cases h
 rename_i l p1 r p2 hl hr; simp only [Option.some.injEq,Prod.mk.injEq] at h; obtain ⟨rfl,rfl⟩:=h; rw [zbg,zbg] at hh; obtain ⟨q1,q2,q3,q4,_⟩:=hh
 have hlo:lo=none∧l=0∨∃ y k n,lo=some y∧E y=.v (.int k n)∧0≤n∧l=n.toNat:=by
  unfold pNat at hl; split at hl
  · rename_i hn; injection hl with hl; injection hl with hl; exact .inl ⟨by simpa using hn,hl.symm⟩
  · rename_i k n hn; injection hl with hl; injection hl with hl hp; subst hp; obtain ⟨y,rfl,hy⟩:=Option.map_eq_some_iff.1 hn; exact .inr ⟨y,k,n,rfl,hy,q1.1,hl.symm⟩
  · cases hl
 have hhi:hi=none∧r=s.size∨∃ y k n,hi=some y∧E y=.v (.int k n)∧0≤n∧r=n.toNat:=by
  unfold pNat at hr; split at hr
  · rename_i hn; injection hr with hr; injection hr with hr; exact .inl ⟨by simpa using hn,hr.symm⟩
  · rename_i k n hn; injection hr with hr; injection hr with hr hp; subst hp; obtain ⟨y,rfl,hy⟩:=Option.map_eq_some_iff.1 hn; exact .inr ⟨y,k,n,rfl,hy,q2.1,hr.symm⟩
  · cases hr
 have hrun:za4 P (execOp (fun x=>((E x).toVal).getD undef) o)=some (.value (.string (s.extract l r))):=by
  rcases hlo with ⟨rfl,rfl⟩ | ⟨y,k,n,rfl,hy,hn,rfl⟩
  · rcases hhi with ⟨rfl,rfl⟩ | ⟨y',k',n',rfl,hy',hn',rfl⟩
    · simp [execOp,ho,hx,AV.toVal,Instr.sliceAt,Instr.slice,Instr.sliceBounds,underlying,bind,Sem.bind,Pure.pure,program,za4,hu]
    · have e1:n'≤(s.size:Int):=by omega
      simp [execOp,ho,hx,hy',AV.toVal,Instr.sliceAt,Instr.slice,Instr.sliceBounds,Instr.sliceBound,asIntOf,underlying,bind,Sem.bind,Pure.pure,program,za4,hu,hn',e1]
  · rcases hhi with ⟨rfl,rfl⟩ | ⟨y',k',n',rfl,hy',hn',rfl⟩
    · have e1:n≤(s.size:Int):=by omega
      simp [execOp,ho,hx,hy,AV.toVal,Instr.sliceAt,Instr.slice,Instr.sliceBounds,Instr.sliceBound,asIntOf,underlying,bind,Sem.bind,Pure.pure,program,za4,hu,hn,e1]
    · have e1:n'≤(s.size:Int):=by omega
      have e2:n≤max n' 0:=by omega
      simp [execOp,ho,hx,hy,hy',AV.toVal,Instr.sliceAt,Instr.slice,Instr.sliceBounds,Instr.sliceBound,asIntOf,underlying,bind,Sem.bind,Pure.pure,program,za4,hu,hn,hn',e1,e2]
 unfold aPure
 have ha:o.op.operands.toList.all (fun x=>(E x).toVal.isSome)=true:=by rcases hlo with ⟨rfl,_⟩ | ⟨y,k,n,rfl,hy,_⟩ <;> rcases hhi with ⟨rfl,_⟩ | ⟨y',k',n',rfl,hy',_⟩ <;> simp_all [Op.operands,AV.toVal]
 rw [if_pos ha,hrun]; rfl
end Go.Ab
namespace Go.Ab
open Go.RowKit
variable [Dr]
def pown1 (s z:Nat) (e:TypeId) (st:St):Option (St×List Prop):=
 if s < 1000∧0 < z then
  match get st.t s with
  | .v (.slice none 0 0) =>
    let st':=del s st
    some ({ t:=(s,.row s z 0 0) :: st'.t,m:=(s,{ z,e,es:=[],box:=false }) :: st'.m },[])
  | .row b z' off n=>if b=s then some (st,[]) else match look st.m b with
    | some ent=>if b < 1000∧off=0∧ent.box=false∧z'=ent.z then
      let st':=del b (del s st)
      some ({ t:=(s,.row s z' 0 n) :: st'.t,m:=(s,ent) :: st'.m },[n=ent.es.length])
      else none
    | none=>none
  | .map b=>some (if b=s then st else if b < 1000 then renS b s (del s st) else st,[])
  | _=>some (st,[])
 else none
theorem ztU {s z:Nat} {e:TypeId} {st st':St} {ps:List Prop} (h:pown1 s z e st=some (st',ps)) (hh:Holds ps):own1 s z e st=st':=by
 unfold pown1 at h; unfold own1; split at h
 case isFalse=>cases h
 rename_i hs; rw [if_pos hs]; split at h
 · rename_i hv; simp only [Option.some.injEq,Prod.mk.injEq] at h; rw [hv]; exact h.1
 · rename_i b z' off n hv; rw [hv]; simp only; split at h
   · rename_i hb; rw [if_pos hb]; simp only [Option.some.injEq,Prod.mk.injEq] at h; exact h.1
   · rename_i hb; rw [if_neg hb]
     cases hl:look st.m b with
     | none=>simp [hl] at h
     | some ent =>
       simp only [hl] at h ⊢; split at h
       case isFalse=>cases h
       rename_i hc; simp only [Option.some.injEq,Prod.mk.injEq] at h; obtain ⟨rfl,rfl⟩:=h; rw [if_pos ⟨hc.1,hc.2.1,hh.1,hc.2.2.1,hc.2.2.2⟩]
 · rename_i b hv; rw [hv]; simp only [Option.some.injEq,Prod.mk.injEq] at h ⊢; exact h.1
 · rename_i h1 h2 h3; simp only [Option.some.injEq,Prod.mk.injEq] at h; obtain ⟨rfl,rfl⟩:=h; split
   · rename_i hv; exact absurd hv h1
   · rename_i b z' off n hv; exact absurd hv (h2 b z' off n)
   · rename_i b hv; exact absurd hv (h3 b)
   · rfl
def ziE:List (Nat×Nat×TypeId)→St→Option (St×List Prop)
 | [],st=>some (st,[])
 | (s,z,e) :: r,st=>match pown1 s z e st with
   | none=>none
   | some (st',ps)=>match ziE r st' with
     | none=>none
     | some (st'',qs)=>some (st'',ps++qs)
theorem zjl:∀ (l:List (Nat×Nat×TypeId)) (st st':St) (ps:List Prop),ziE l st=some (st',ps)→Holds ps→ownAll l st=st'
 | [],st,st',ps,h,_=>by simp [ziE] at h; exact h.1
 | (s,z,e) :: r,st,st',ps,h,hh=>by
   simp only [ziE] at h
   cases h1:pown1 s z e st with
   | none=>simp [h1] at h
   | some q =>
     obtain ⟨st1,p1⟩:=q; simp only [h1] at h
     cases h2:ziE r st1 with
     | none=>simp [h2] at h
     | some q=>obtain ⟨st2,p2⟩:=q; simp only [h2,Option.some.injEq,Prod.mk.injEq] at h; obtain ⟨rfl,rfl⟩:=h; rw [zbg] at hh; simp only [ownAll]; rw [ztU h1 hh.1]; exact zjl r st1 st2 p2 h2 hh.2
def pfr1 (bs:List Nat) (L:Nat→Option Ent):Nat→AV→Option (AV×List Prop)
 | 0,_=>some (.bot,[])
 | k+1,a=>match a with
   | .loc c z i o=>if bs.contains c then (if ((AV.loc c z i o).ids L 5).all bs.contains then psnap L 5 (.loc c z i o) else some (.bot,[])) else some (.loc c z i o,[])
   | .row c z o n=>if bs.contains c then psnap L 5 (.row c z o n) else some (.row c z o n,[])
   | .agg cs=>match mapO (pfr1 bs L k) cs with
     | some l=>some (.agg (l.map (·.1)),l.flatMap (·.2))
     | none=>none
   | .tup cs=>match mapO (pfr1 bs L k) cs with
     | some l=>some (.tup (l.map (·.1)),l.flatMap (·.2))
     | none=>none
   | .fn f cs=>match mapO (pfr1 bs L k) cs with
     | some l=>some (.fn f (l.map (·.1)),l.flatMap (·.2))
     | none=>none
   | .v x=>some (.v x,[])
   | .sl z es=>some (.sl z es,[])
   | .fp cs=>some (.fp cs,[])
   | .map c=>if bs.contains c then psnap L 5 (.map c) else some (.map c,[])
   | .mp es=>some (.mp es,[])
   | .fa z es=>some (.fa z es,[])
   | _=>some (.bot,[])
theorem zqa {α β γ:Type} {g:α→Option γ} {f:α→β} {t:γ→β}:∀ {l:List α} {r:List γ},mapO g l=some r→(∀ a c,c∈r→g a=some c→f a=t c)→l.map f=r.map t
 | [],r,h,_=>by simp [mapO] at h; subst h; rfl
 | a :: l,r,h,hf=>by
   simp only [mapO] at h
   cases hg:g a with
   | none=>simp [hg] at h
   | some c =>
     simp only [hg] at h
     cases hm:mapO g l with
     | none=>simp [hm] at h
     | some l'=>simp only [hm,Option.some.injEq] at h; subst h; rw [List.map_cons,List.map_cons,hf a c (by simp) hg,zqa hm (fun a' c' hc=>hf a' c' (by simp [hc]))]
theorem zq3 {bs:List Nat} {L:Nat→Option Ent}:∀ (k:Nat) (a a':AV) (ps:List Prop),pfr1 bs L k a=some (a',ps)→Holds ps→zbE bs L k a=a':=by
 intro k
 induction k with
 | zero=>intro a a' ps h _; simp only [pfr1,Option.some.injEq,Prod.mk.injEq] at h; exact h.1
 | succ k ih =>
   intro a a' ps h hh
   have lists:∀ (cs:List AV) (l:List (AV×List Prop)),mapO (pfr1 bs L k) cs=some l→Holds (l.flatMap (·.2))→cs.map (zbE bs L k)=l.map (·.1):=fun cs l hm hl=>zqa hm (fun a c hc hg=>ih a c.1 c.2 hg (zqQ hl c hc))
   cases a with
   | loc c z i o =>
     simp only [pfr1] at h; simp only [zbE]; split at h
     · rename_i hc; rw [if_pos hc]; split at h
       · rename_i hi; rw [if_pos hi,zdL 5 _ _ _ h hh]; rfl
       · rename_i hi; rw [if_neg hi]; simp only [Option.some.injEq,Prod.mk.injEq] at h; exact h.1
     · rename_i hc; rw [if_neg hc]; simp only [Option.some.injEq,Prod.mk.injEq] at h; exact h.1
   | row c z o n =>
     simp only [pfr1] at h; simp only [zbE]; split at h
     · rename_i hc; rw [if_pos hc,zdL 5 _ _ _ h hh]; rfl
     · rename_i hc; rw [if_neg hc]; simp only [Option.some.injEq,Prod.mk.injEq] at h; exact h.1
   | agg cs =>
     simp only [pfr1] at h; split at h
     · rename_i l hm; simp only [Option.some.injEq,Prod.mk.injEq] at h; obtain ⟨rfl,rfl⟩:=h; simp only [zbE]; rw [lists cs l hm hh]
     · cases h
   | tup cs =>
     simp only [pfr1] at h; split at h
     · rename_i l hm; simp only [Option.some.injEq,Prod.mk.injEq] at h; obtain ⟨rfl,rfl⟩:=h; simp only [zbE]; rw [lists cs l hm hh]
     · cases h
   | fn f cs =>
     simp only [pfr1] at h; split at h
     · rename_i l hm; simp only [Option.some.injEq,Prod.mk.injEq] at h; obtain ⟨rfl,rfl⟩:=h; simp only [zbE]; rw [lists cs l hm hh]
     · cases h
   | map c =>
     simp only [pfr1] at h; simp only [zbE]; split at h
     · rename_i hc; rw [if_pos hc,zdL 5 _ _ _ h hh]; rfl
     · rename_i hc; rw [if_neg hc]; simp only [Option.some.injEq,Prod.mk.injEq] at h; exact h.1
   | _=>simp only [pfr1,Option.some.injEq,Prod.mk.injEq] at h; exact h.1
def pfrT (bs:List Nat) (L:Nat→Option Ent):Tab→Option (Tab×List Prop)
 | []=>some ([],[])
 | (j,a) :: r=>match pfr1 bs L 4 a,pfrT bs L r with
   | some (a',ps),some (r',qs)=>some ((j,a') :: r',ps++qs)
   | _,_=>none
theorem zq4 {bs:List Nat} {L:Nat→Option Ent}:∀ (t t':Tab) (ps:List Prop),pfrT bs L t=some (t',ps)→Holds ps→zhI bs L t=t'
 | [],t',ps,h,_=>by simp only [pfrT,Option.some.injEq,Prod.mk.injEq] at h; exact h.1
 | (j,a) :: r,t',ps,h,hh=>by
   simp only [pfrT] at h; split at h
   · rename_i a' p1 r' p2 h1 h2; simp only [Option.some.injEq,Prod.mk.injEq] at h; obtain ⟨rfl,rfl⟩:=h; rw [zbg] at hh; simp only [zhI]; rw [zq3 4 a a' p1 h1 hh.1,zq4 r r' p2 h2 hh.2]
   · cases h
def pfrCs (bs:List Nat) (L:Nat→Option Ent):List AV→Option (List AV×List Prop)
 | []=>some ([],[])
 | a :: r=>match pfr1 bs L 4 a,pfrCs bs L r with
   | some (a',ps),some (r',qs)=>some (a' :: r',ps++qs)
   | _,_=>none
theorem zpd {bs:List Nat} {L:Nat→Option Ent}:∀ (t t':List AV) (ps:List Prop),pfrCs bs L t=some (t',ps)→Holds ps→t.map (zbE bs L 4)=t'
 | [],t',ps,h,_=>by simp only [pfrCs,Option.some.injEq,Prod.mk.injEq] at h; exact h.1
 | a :: r,t',ps,h,hh=>by
   simp only [pfrCs] at h; split at h
   · rename_i a' p1 r' p2 h1 h2; simp only [Option.some.injEq,Prod.mk.injEq] at h; obtain ⟨rfl,rfl⟩:=h; rw [zbg] at hh; rw [List.map_cons,zq3 4 a a' p1 h1 hh.1,zpd r r' p2 h2 hh.2]
   · cases h
def pfrE (bs:List Nat) (L:Nat→Option Ent) (e:Ent):Option (Ent×List Prop):=
 match e with
 | ⟨z,t,es,b⟩=>match b with
   | true=>(match es with
     | [cs]=>(match pfrCs bs L cs with
       | some (cs',ps)=>some (⟨z,t,[cs'],true⟩,ps)
       | none=>none)
     | _=>none)
   | false=>some (⟨z,t,es,false⟩,[])
theorem pfrE_sound {bs:List Nat} {L:Nat→Option Ent} {e e':Ent} {ps:List Prop} (h:pfrE bs L e=some (e',ps)) (hh:Holds ps):(if e.box then { e with es:=e.es.map fun cs=>cs.map (zbE bs L 4) } else e)=e':=by
 obtain ⟨z,t,es,b⟩:=e
 cases b with
 | true =>
   simp only [pfrE] at h; split at h
   · rename_i cs; split at h
     · rename_i cs' p1 h1; simp only [Option.some.injEq,Prod.mk.injEq] at h; obtain ⟨rfl,rfl⟩:=h; simp only [if_true,List.map_cons,List.map_nil]; rw [zpd cs cs' _ h1 hh]
     · cases h
   · cases h
 | false=>simp only [pfrE,Option.some.injEq,Prod.mk.injEq] at h; obtain ⟨rfl,rfl⟩:=h; rfl
def pfrM (bs:List Nat) (L:Nat→Option Ent):Mem→Option (Mem×List Prop)
 | []=>some ([],[])
 | (j,e) :: r=>if bs.contains j then pfrM bs L r else match pfrE bs L e,pfrM bs L r with
   | some (e',ps),some (r',qs)=>some ((j,e') :: r',ps++qs)
   | _,_=>none
theorem zms {bs:List Nat} {L:Nat→Option Ent}:∀ (m m':Mem) (ps:List Prop),pfrM bs L m=some (m',ps)→Holds ps→zfJ bs L m=m'
 | [],m',ps,h,_=>by simp only [pfrM,Option.some.injEq,Prod.mk.injEq] at h; exact h.1
 | (j,e) :: r,m',ps,h,hh=>by
   simp only [pfrM] at h; simp only [zfJ]; split at h
   · rename_i hc; rw [if_pos hc]; exact zms r m' ps h hh
   · rename_i hc; rw [if_neg hc]; split at h
     · rename_i e' p1 r' p2 h1 h2; simp only [Option.some.injEq,Prod.mk.injEq] at h; obtain ⟨rfl,rfl⟩:=h; rw [zbg] at hh; rw [pfrE_sound h1 hh.1,zms r r' p2 h2 hh.2]
     · cases h
def zh5 (bs:List Nat) (st:St):Option (St×List Prop):=
 match bs with
 | []=>some (st,[])
 | bs=>match pfrT bs (look st.m) st.t,pfrM bs (look st.m) st.m with
   | some (t,ps),some (m,qs)=>some (⟨t,m⟩,ps++qs)
   | _,_=>none
theorem zkC {bs:List Nat} {st st':St} {ps:List Prop} (h:zh5 bs st=some (st',ps)) (hh:Holds ps):zbm bs st=st':=by
 cases bs with
 | nil=>simp only [zh5,Option.some.injEq,Prod.mk.injEq] at h; exact h.1
 | cons b bs =>
   simp only [zh5] at h; split at h
   · rename_i t p1 m p2 h1 h2; simp only [Option.some.injEq,Prod.mk.injEq] at h; obtain ⟨rfl,rfl⟩:=h; rw [zbg] at hh; simp only [zbm]; rw [zq4 _ _ _ h1 hh.1,zms _ _ _ h2 hh.2]
   · cases h
def zkD (l:List Nat) (st:St):Option (St×List Prop):=
 match l with
 | []=>some (st,[])
 | l=>if (fzIds l st).all (fun b=>decide (b < 1000) && (look st.m b).isSome)=true then zh5 (fzIds l st) st else none
theorem ziD {l:List Nat} {st st':St} {ps:List Prop} (h:zkD l st=some (st',ps)) (hh:Holds ps):zfK l st=st':=by
 unfold zkD at h; unfold zfK; split at h
 · simp only [Option.some.injEq,Prod.mk.injEq] at h; exact h.1
 · split at h
   · rename_i hc; simp only; rw [if_pos hc]; exact zkC h hh
   · cases h
def ptidy (A:Ann) (id:Nat) (st:St):Option (St×List Prop):=
 match zkD (A.fz id) st with
 | none=>none
 | some (st,p0)=>match ziE (A.own id) st with
  | none=>none
  | some (st,ps)=>match zit (A.cel id) st with
   | st=>match A.live id with
    | some l=>match delAll (deadIds { st with t:=zew l st.t }) { st with t:=zew l st.t } with
      | ⟨t,m⟩=>some (⟨t,sortM m⟩,p0++ps)
    | none=>some (st,p0++ps)
theorem zpe {A:Ann} {id:Nat} {st st':St} {ps:List Prop} (h:ptidy A id st=some (st',ps)) (hh:Holds ps):tidy A id st=st':=by
 unfold ptidy at h
 cases h0:zkD (A.fz id) st with
 | none=>simp [h0] at h
 | some q0 =>
   obtain ⟨st0,p0⟩:=q0; simp only [h0] at h
   cases h1:ziE (A.own id) st0 with
   | none=>simp [h1] at h
   | some q =>
     obtain ⟨st1,p1⟩:=q; simp only [h1] at h; unfold tidy; split at h
     · rename_i l hl; simp only [Option.some.injEq,Prod.mk.injEq] at h; obtain ⟨rfl,rfl⟩:=h; rw [zbg] at hh; simp only; rw [ziD h0 hh.1,zjl _ _ _ _ h1 hh.2,hl]
     · rename_i hl; simp only [Option.some.injEq,Prod.mk.injEq] at h; obtain ⟨rfl,rfl⟩:=h; rw [zbg] at hh; simp only; rw [ziD h0 hh.1,zjl _ _ _ _ h1 hh.2,hl]
inductive It where
 | code (c:Code)
 | inBlock (id:Nat)
 | inLoop (c:Code)
structure Fr where
 P:Program
 C:Cfg
 F:AnnF
 f:FuncId
 fn:Func
 ms:Mem
def Fr.ev (R:Fr) (c:Code) (st:St):Option (Ex×St):=aeval R.P R.C (R.F R.f) R.fn.ntmps (callw R.P R.C R.F) itw c st
def run (R:Fr):List It→Ex→St→Option (AV×Mem)
 | [],e,st=>zhL R.P (R.F R.f).frz R.fn R.ms (some (e,st))
 | .code c :: k,.normal,st=>match R.ev c st with
   | some (e,st')=>run R k e st'
   | none=>none
 | .inLoop c :: k,.normal,st=>match itw (R.ev c) st with
   | some (e,st')=>run R k e st'
   | none=>none
 | .inBlock id :: k,.exit j,st=>if j=id then run R k .normal st else run R k (.exit j) st
 | .inBlock _ :: k,.normal,st=>run R k .normal st
 | _ :: k,e,st=>run R k e st
theorem zlP (R:Fr):∀ (k:List It) (st:St),run R k .ret st=zhL R.P (R.F R.f).frz R.fn R.ms (some (.ret,st))
 | [],_=>rfl
 | .code _ :: k,st=>zlP R k st
 | .inLoop _ :: k,st=>zlP R k st
 | .inBlock _ :: k,st=>zlP R k st
def dropTo (id:Nat):List It→Option (List It)
 | []=>none
 | .inBlock j :: k=>if id=j then some k else dropTo id k
 | _ :: k=>dropTo id k
theorem zmx (R:Fr) (id:Nat):∀ (k k':List It) (st:St),dropTo id k=some k'→run R k (.exit id) st=run R k' .normal st
 | [],k',st,h=>by simp [dropTo] at h
 | .code c :: k,k',st,h=>zmx R id k k' st h
 | .inLoop c :: k,k',st,h=>zmx R id k k' st h
 | .inBlock j :: k,k',st,h=>by
   simp only [dropTo] at h; simp only [run]; split at h
   · rename_i hj; injection h with h; subst h; rw [if_pos hj]
   · rename_i hj; rw [if_neg hj]; exact zmx R id k k' st h
def pout (frz:Bool) (m:Mem) (a:AV):Option (AV×List Prop):=
 let L:Nat→Option Ent:=fun b=>if b < 1000 then look m b else none
 match a with
 | .row b z off n=>if 1000≤b then (if frz=false∧(look m b).isSome=true then some (.row b z off n,[]) else none) else match L b with
   | some ent=>if frz=false∧ent.z=z∧off=0∧ent.box=false∧0 < z then some (.new z ent.e ent.es,[n=ent.es.length]) else if frz=true then psnap L 5 (.row b z off n) else none
   | none=>none
 | .loc b z i o=>match outOf frz m (.loc b z i o) with
   | some r=>some (r,[])
   | none=>none
 | .map b=>match outOf frz m (.map b) with
   | some r=>some (r,[])
   | none=>none
 | a=>psnap L 5 a
theorem zmt {frz:Bool} {m:Mem} {a r:AV} {ps:List Prop} (h:pout frz m a=some (r,ps)) (hh:Holds ps):outOf frz m a=some r:=by
 unfold pout at h; simp only at h
 cases a with
 | row b z off n =>
   simp only at h; simp only [outOf]; split at h
   · rename_i hge; split at h
     case isFalse=>cases h
     rename_i hc; simp only [Option.some.injEq,Prod.mk.injEq] at h; obtain ⟨rfl,rfl⟩:=h; rw [if_pos hge,if_pos hc]
   rename_i hge; rw [if_neg hge]; split at h
   case h_2=>cases h
   rename_i ent hl; split at h
   · rename_i hc; simp only [Option.some.injEq,Prod.mk.injEq] at h; obtain ⟨rfl,rfl⟩:=h; rw [hl]; simp only; rw [if_pos ⟨hc.1,hc.2.1,hc.2.2.1,hh.1,hc.2.2.2.1,hc.2.2.2.2⟩]
   · split at h
     · rename_i hf; rw [hl]; simp only; rw [if_neg (by rw [hf]; simp)]; exact zdL 5 _ _ _ h hh
     · cases h
 | loc b z i o =>
   simp only at h; split at h
   · rename_i r' hr; simp only [Option.some.injEq,Prod.mk.injEq] at h; obtain ⟨rfl,rfl⟩:=h; exact hr
   · cases h
 | map b =>
   simp only at h; split at h
   · rename_i r' hr; simp only [Option.some.injEq,Prod.mk.injEq] at h; obtain ⟨rfl,rfl⟩:=h; exact hr
   · cases h
 | _=>exact zdL 5 _ _ _ h hh
def pout1 (P:Program) (frz:Bool) (t:TypeId) (m:Mem) (a:AV):Option (AV×List Prop):=
 match a,frz with
 | .v (.slice none 0 0),false=>(match P.underlying t with
   | some (.slice e)=>(match szB P e with
     | some z=>if 0 < z then some (.new z e [],[]) else none
     | none=>none)
   | _=>none)
 | a,frz=>pout frz m (nrm P t a)
theorem ztT {P:Program} {frz:Bool} {t:TypeId} {m:Mem} {a r:AV} {ps:List Prop} (h:pout1 P frz t m a=some (r,ps)) (hh:Holds ps):out1 P frz t m a=some r:=by
 unfold pout1 at h; unfold out1; split at h
 · split at h
   case h_2=>cases h
   rename_i e hu; split at h
   case h_2=>cases h
   rename_i z hz; split at h
   case isFalse=>cases h
   rename_i hzp; simp only [Option.some.injEq,Prod.mk.injEq] at h; obtain ⟨rfl,rfl⟩:=h; simp only [hu,hz]; rw [if_pos hzp]
 · rename_i hne; split
   · exact absurd rfl (hne rfl)
   · exact zmt h hh
def presult (P:Program) (frz:Bool) (fn:Func) (st:St):Option (AV×List Prop):=
 match mapO (resVar P st) fn.results.toList with
 | some [a]=>pout1 P frz (fn.resultTypes.getD 0 0) st.m a
 | some l=>pout frz st.m (.tup (nrmA P fn.resultTypes.toList l))
 | none=>none
theorem zsC {P:Program} {frz:Bool} {fn:Func} {st:St} {r:AV} {ps:List Prop} (h:presult P frz fn st=some (r,ps)) (hh:Holds ps):zgp P frz fn st=some r:=by
 unfold presult at h; unfold zgp
 cases hl:mapO (resVar P st) fn.results.toList with
 | none=>simp [hl] at h
 | some l =>
   simp only [hl] at h
   cases l with
   | nil=>exact zmt h hh
   | cons a l=>cases l with
     | nil=>exact ztT h hh
     | cons b l=>exact zmt h hh
abbrev I (n:Int):AV:=.v (.int .i64 n)
abbrev B (b:Bool):AV:=.v (.bool b)
def liveAt:List (Nat×List Nat)→Nat→Option (List Nat)
 | [],_=>none
 | (j,l) :: r,id=>if id=j then some l else liveAt r id
def atReg {α:Type}:List (Nat×List α)→Nat→List α
 | [],_=>[]
 | (j,l) :: r,id=>if id=j then l else atReg r id
def heads:Code→List It→List (List It)
 | .seq a b,k=>heads a (.code b :: k)++heads b k
 | .cond _ x y,k=>heads x k++heads y k
 | .block id c,k=>heads c (.inBlock id :: k)
 | .loop c,k=>(.inLoop c :: k) :: heads c (.inLoop c :: k)
 | _,_=>[]
def ptK (fn:Func) (j:Nat):List It:=
 match fn.body,j with
 | some c,0=>[.code c]
 | some c,j+1=>((heads c [])[j]?).getD []
 | none,_=>[]
end Go.Ab
namespace Go.Ab
open Go.RowKit
variable [Dr]
structure TyD where
 α:Type
 enc:α→List AV
 dec:List AV→Option α
 ok:∀ c x,dec c=some x→c=enc x
 de:∀ x,dec (enc x)=some x
structure RD where
 α:Type
 enc:α→AV×Mem
 dec:AV×Mem→Option α
 ok:∀ c x,dec c=some x→c=enc x
 de:∀ x,dec (enc x)=some x
structure Dic where
 ty:TypeId→TyD
 res:FuncId→RD
section
variable {β:Type}
def brn (b:Bool) (t e:Option β):Option β:=if b=true then t else e
theorem zkl {b:Bool} {t e:Option β} {y:β} (h:brn b t e=some y):(b=true∧t=some y)∨(b=false∧e=some y):=by
 cases b with
 | true=>exact .inl ⟨rfl,h⟩
 | false=>exact .inr ⟨rfl,h⟩
@[simp] theorem zas (t e:Option β):brn true t e=t:=rfl
@[simp] theorem zam (t e:Option β):brn false t e=e:=rfl
theorem brn_dec (p:Prop) [Decidable p] (t e:Option β):brn (decide p) t e=if p then t else e:=by unfold brn; simp only [decide_eq_true_eq]
def chk (p:Prop) (x:Option β):Option β:=@ite _ p (Classical.propDecidable p) x none
def chkL:List Prop→Option β→Option β
 | [],x=>x
 | p :: r,x=>chk p (chkL r x)
def elemD (D:TyD) (es:List (List AV)) (i:Nat) (k:D.α→Option β):Option β:=
 match es[i]? with
 | some c=>match D.dec c with
   | some x=>k x
   | none=>none
 | none=>none
def elemP (D:TyD) (es:List (List AV)) (i:Nat) (kn:Option β) (kr:Addr→Option β) (kd:D.α→Option β):Option β:=
 match es[i]? with
 | some [.v (.pointer none)]=>kn
 | some [.v (.pointer (some a))]=>kr a
 | some [.fp cs]=>match D.dec cs with
   | some x=>kd x
   | none=>none
 | _=>none
def callD (D:RD) (c:Option (AV×Mem)) (k:D.α→Option β):Option β:=
 match c with
 | some r=>match D.dec r with
   | some x=>k x
   | none=>none
 | none=>none
theorem zcL {p:Prop} {x:Option β} {y:β} (h:chk p x=some y):p∧x=some y:=by
 unfold chk at h; split at h
 · exact ⟨by assumption,h⟩
 · cases h
@[simp] theorem zaU (x:Option β):chk True x=x:=by unfold chk; rw [if_pos trivial]
theorem zai {p:Prop} (h:p) (x:Option β):chk p x=x:=by unfold chk; rw [if_pos h]
theorem zci:∀ {ps:List Prop} {x:Option β} {y:β},chkL ps x=some y→Holds ps∧x=some y
 | [],x,y,h=>⟨trivial,h⟩
 | p :: r,x,y,h=>by obtain ⟨h1,h2⟩:=zcL h; obtain ⟨h3,h4⟩:=zci h2; exact ⟨⟨h1,h3⟩,h4⟩
theorem zhX {D:TyD} {es:List (List AV)} {i:Nat} {k:D.α→Option β} {y:β} (h:elemD D es i k=some y):∃ x,es[i]?=some (D.enc x)∧k x=some y:=by
 unfold elemD at h; split at h
 · rename_i c hc; split at h
   · rename_i x hx; exact ⟨x,by rw [hc,D.ok c x hx],h⟩
   · cases h
 · cases h
theorem elemP_some {D:TyD} {es:List (List AV)} {i:Nat} {kn:Option β} {kr:Addr→Option β} {kd:D.α→Option β} {y:β} (h:elemP D es i kn kr kd=some y):(es[i]?=some [.v (.pointer none)]∧kn=some y)∨(∃ a,es[i]?=some [.v (.pointer (some a))]∧kr a=some y)∨∃ x,es[i]?=some [.fp (D.enc x)]∧kd x=some y:=by
 unfold elemP at h; split at h
 · exact .inl ⟨by assumption,h⟩
 · exact .inr (.inl ⟨_,by assumption,h⟩)
 · rename_i cs hc; split at h
   · rename_i x hx; exact .inr (.inr ⟨x,by rw [hc,D.ok _ _ hx],h⟩)
   · cases h
 · cases h
theorem elemD_at {D:TyD} {es:List (List AV)} {i:Nat} {x:D.α} (h:es[i]?=some (D.enc x)) (k:D.α→Option β):elemD D es i k=k x:=by unfold elemD; rw [h]; simp only [D.de]
theorem zqC {D:RD} {c:Option (AV×Mem)} {k:D.α→Option β} {y:β} (h:callD D c k=some y):∃ x,c=some (D.enc x)∧k x=some y:=by
 unfold callD at h; split at h
 · rename_i r; split at h
   · rename_i x hx; exact ⟨x,by rw [D.ok r x hx],h⟩
   · cases h
 · cases h
@[simp] theorem zaW {D:RD} {x:D.α} (k:D.α→Option β):callD D (some (D.enc x)) k=k x:=by unfold callD; simp only [D.de]
def avEnc (agg:Bool) (D:TyD) (x:D.α):AV:=if agg=true then .agg (D.enc x) else (D.enc x).headD .bot
def avDec (agg:Bool) (D:TyD) (a:AV):Option D.α:=
 if agg=true then (match a with
  | .agg cs=>D.dec cs
  | _=>none)
 else D.dec [a]
theorem avDec_ok {agg:Bool} {D:TyD} {a:AV} {x:D.α} (h:avDec agg D a=some x):a=avEnc agg D x:=by
 unfold avDec at h; unfold avEnc
 cases agg with
 | true =>
   simp only [if_true] at h ⊢; split at h
   · rw [D.ok _ _ h]
   · cases h
 | false=>simp only [Bool.false_eq_true,if_false] at h ⊢; rw [← D.ok _ _ h]; rfl
def mapD (P:Program) (kt:TypeId) (agg:Bool) (D:TyD) (z:AV) (es:List (List AV)) (key:AV) (k:D.α→Bool→Option β):Option β:=
 match mlook P kt key es with
 | some (some a)=>match avDec agg D a with
   | some x=>k x true
   | none=>none
 | some none=>match avDec agg D z with
   | some x=>k x false
   | none=>none
 | none=>none
theorem mapD_some {P:Program} {kt:TypeId} {agg:Bool} {D:TyD} {z:AV} {es:List (List AV)} {key:AV} {k:D.α→Bool→Option β} {y:β} (h:mapD P kt agg D z es key k=some y):(∃ a x,mlook P kt key es=some (some a)∧a=avEnc agg D x∧k x true=some y)∨(∃ x,mlook P kt key es=some none∧z=avEnc agg D x∧k x false=some y):=by
 unfold mapD at h; split at h
 · rename_i a hm; split at h
   · rename_i x hx; exact .inl ⟨a,x,hm,avDec_ok hx,h⟩
   · cases h
 · rename_i hm; split at h
   · rename_i x hx; exact .inr ⟨x,hm,avDec_ok hx,h⟩
   · cases h
 · cases h
def msetD (P:Program) (kt _et:TypeId) (key v:AV) (es:List (List AV)) (k:List (List AV)→Option β):Option β:=
 match mset P kt key v es with
 | some es'=>k es'
 | none=>none
theorem msetD_some {P:Program} {kt et:TypeId} {key v:AV} {es:List (List AV)} {k:List (List AV)→Option β} {y:β} (h:msetD P kt et key v es k=some y):∃ es',mset P kt key v es=some es'∧k es'=some y:=by
 unfold msetD at h; split at h
 · exact ⟨_,by assumption,h⟩
 · cases h
def mdelD (P:Program) (kt:TypeId) (key:AV) (es:List (List AV)) (k:List (List AV)→Option β):Option β:=
 match mdel P kt key es with
 | some es'=>k es'
 | none=>none
theorem mdelD_some {P:Program} {kt:TypeId} {key:AV} {es:List (List AV)} {k:List (List AV)→Option β} {y:β} (h:mdelD P kt key es k=some y):∃ es',mdel P kt key es=some es'∧k es'=some y:=by
 unfold mdelD at h; split at h
 · exact ⟨_,by assumption,h⟩
 · cases h
def force1 (a:AV) (k:AV→Option β):Option β:=
 match a with
 | .bot=>k .bot
 | .v (.int t n)=>k (.v (.int t n))
 | .v (.bool b)=>k (.v (.bool b))
 | .v x=>k (.v x)
 | .sl z es=>k (.sl z es)
 | .agg cs=>k (.agg cs)
 | .tup cs=>k (.tup cs)
 | .fp cs=>k (.fp cs)
 | .loc b z i o=>k (.loc b z i o)
 | .row b z i o=>k (.row b z i o)
 | .fn f cs=>k (.fn f cs)
 | .new z e es=>k (.new z e es)
 | .newp z e cs=>k (.newp z e cs)
 | .map b=>k (.map b)
 | .mp es=>k (.mp es)
 | .newm e es=>k (.newm e es)
 | .fa z es=>k (.fa z es)
theorem zrN (a:AV) (k:AV→Option β):force1 a k=k a:=by unfold force1; split <;> rfl
def forceL:List AV→(List AV→Option β)→Option β
 | [],k=>k []
 | a :: r,k=>force1 a fun a=>forceL r fun r=>k (a :: r)
theorem znD:∀ (l:List AV) (k:List AV→Option β),forceL l k=k l
 | [],_=>rfl
 | a :: r,k=>by simp only [forceL,zrN,znD r]
def force2 (a:AV) (k:AV→Option β):Option β:=
 match a with
 | .agg cs=>forceL cs fun cs=>k (.agg cs)
 | .fp cs=>forceL cs fun cs=>k (.fp cs)
 | a=>force1 a k
theorem zrO (a:AV) (k:AV→Option β):force2 a k=k a:=by unfold force2; split <;> simp only [znD,zrN]
def forceT:List AV→(List AV→Option β)→Option β
 | [],k=>k []
 | a :: r,k=>force2 a fun a=>forceT r fun r=>k (a :: r)
theorem zrP:∀ (l:List AV) (k:List AV→Option β),forceT l k=k l
 | [],_=>rfl
 | a :: r,k=>by simp only [forceT,zrO,zrP r]
def force3 (a:AV) (k:AV→Option β):Option β:=
 match a with
 | .tup cs=>forceT cs fun cs=>k (.tup cs)
 | a=>force2 a k
theorem force3_eq (a:AV) (k:AV→Option β):force3 a k=k a:=by unfold force3; split <;> simp only [zrP,zrO]
def zml:Tab→(Tab→Option β)→Option β
 | [],k=>k []
 | (j,a) :: r,k=>force3 a fun a=>zml r fun r=>k ((j,a) :: r)
theorem zo1:∀ (l:Tab) (k:Tab→Option β),zml l k=k l
 | [],_=>rfl
 | (j,a) :: r,k=>by simp only [zml,force3_eq,zo1 r]
def zp5 (e:Ent) (k:Ent→Option β):Option β:=
 match e with
 | ⟨z,e,es,true⟩=>(match es with
   | [cs]=>forceL cs fun cs=>k ⟨z,e,[cs],true⟩
   | es=>k ⟨z,e,es,true⟩)
 | ⟨z,e,es,false⟩=>k ⟨z,e,es,false⟩
theorem ztL (e:Ent) (k:Ent→Option β):zp5 e k=k e:=by
 unfold zp5; split
 · split <;> simp only [znD]
 · rfl
def zmk:Mem→(Mem→Option β)→Option β
 | [],k=>k []
 | (j,e) :: r,k=>zp5 e fun e=>zmk r fun r=>k ((j,e) :: r)
theorem zo0:∀ (l:Mem) (k:Mem→Option β),zmk l k=k l
 | [],_=>rfl
 | (j,e) :: r,k=>by simp only [zmk,ztL,zo0 r]
def force (st:St) (k:St→Option β):Option β:=zml st.t fun t=>zmk st.m fun m=>k ⟨t,m⟩
theorem zku (st:St) (k:St→Option β):force st k=k st:=by unfold force; rw [zo1,zo0]
def setB (d:Nat) (x:Bool):Tab→Tab
 | []=>[]
 | (j,a) :: r=>if d=j then (j,.v (.bool x)) :: r else (j,a) :: setB d x r
theorem zk6 {d:Nat} {x:Bool}:∀ {t:Tab},get t d=.v (.bool x)→setB d x t=t
 | [],h=>by simp [get] at h
 | (j,a) :: r,h=>by
   simp only [get] at h; simp only [setB]; split
   · rename_i hj; rw [if_pos hj] at h; rw [h]
   · rename_i hj; rw [if_neg hj] at h; rw [zk6 h]
def tWant (ops:Array Oper) (o:Oper) (t:Tab) (k:Bool→Tab→Option β):Option β:=
 match o.guard with
 | none=>k true t
 | some (j,want)=>match (ops[j]?).bind (·.dst) with
   | some d=>match get t d with
     | .v (.bool b)=>brn b (k (true == want) (setB d true t)) (k (false == want) (setB d false t))
     | .v (.tuple _)=>k false t
     | _=>none
   | none=>none
theorem zt4 {ops:Array Oper} {o:Oper} {t:Tab} {k:Bool→Tab→Option β} {y:β} (h:tWant ops o t k=some y):∃ b,zj2 ops o t=some b∧k b t=some y:=by
 unfold tWant at h; unfold zj2
 cases hg:o.guard with
 | none=>simp only [hg] at h; exact ⟨true,rfl,h⟩
 | some q =>
   obtain ⟨j,want⟩:=q; simp only [hg] at h ⊢
   cases hd:(ops[j]?).bind (·.dst) with
   | none=>simp [hd] at h
   | some d =>
     simp only [hd] at h ⊢; split at h
     · rename_i b hb; rw [hb]; rcases zkl h with ⟨rfl,h⟩ | ⟨rfl,h⟩
       · rw [zk6 hb] at h; exact ⟨_,rfl,h⟩
       · rw [zk6 hb] at h; exact ⟨_,rfl,h⟩
     · rename_i vs hb; rw [hb]; exact ⟨false,rfl,h⟩
     · cases h
def elemE (P:Program) (T:Dic) (e:TypeId) (es:List (List AV)) (i:Nat) (k:List AV→Option β):Option β:=
 match P.underlying e with
 | some (.pointer t)=>elemP (T.ty t) es i (k [.v (.pointer none)]) (fun a=>k [.v (.pointer (some a))]) (fun x=>k [.fp ((T.ty t).enc x)])
 | _=>elemD (T.ty e) es i fun x=>k ((T.ty e).enc x)
theorem zqN {P:Program} {T:Dic} {e:TypeId} {es:List (List AV)} {i:Nat} {k:List AV→Option β} {y:β} (h:elemE P T e es i k=some y):∃ cs,es[i]?=some cs∧k cs=some y:=by
 unfold elemE at h; split at h
 · rcases elemP_some h with ⟨h1,h2⟩ | ⟨a,h1,h2⟩ | ⟨x,h1,h2⟩
   · exact ⟨_,h1,h2⟩
   · exact ⟨_,h1,h2⟩
   · exact ⟨_,h1,h2⟩
 · obtain ⟨x,h1,h2⟩:=zhX h; exact ⟨_,h1,h2⟩
def tPlain (x:Option Res) (k:Res→Option β):Option β:=
 match x with
 | some r=>k r
 | none=>none
def tCond (x:Option (Res×List Prop)) (k:Res→Option β):Option β:=
 match x with
 | some (r,ps)=>chkL ps (k r)
 | none=>none
def altF (C:Cfg) (f:FuncId) (ms:Mem):FuncId:=if ms.isEmpty && !(C.wrt f).isEmpty then f+100000 else f
def tCall (P:Program) (C:Cfg) (F:AnnF) (T:Dic) (L:Nat→Option Ent) (d:Option Nat) (f:FuncId) (args:List AV) (k:Res→Option β):Option β:=
 match zhM L (C.wrt f) 0 args with
 | none=>none
 | some ((as,ms,bk,fz),ps) =>
   if bk.all (fun p=>fz.all (fun b=>b≠p.1))=true then
    chkL ps (callD (T.res (altF C f ms)) (callw P C F f as ms) fun y =>
     match (T.res (altF C f ms)).enc y with
     | (r,ms')=>match backOf ms' (zc6 bk) with
       | none=>none
       | some back =>
         if (frzOf r bk fz).all (fun b=>decide (b < 1000))=true then
          tPlain (zjY back (zc6 bk) (frzOf r bk fz) r d) fun res=>tPlain (zmE (zcC bk) res) k
         else none)
   else none
def tDeep (P:Program) (C:Cfg) (F:AnnF) (T:Dic) (L:Nat→Option Ent) (f:FuncId) (k0:Nat) (args:List AV) (k:Res→Option β):Option β:=
 match args[k0]? with
 | some (.loc b z 0 0)=>match L b with
   | some ent=>if ent.box=true then (match ent.es with
     | [cs]=>match pnest L 900 cs,pdArgs L k0 (.loc 1000 z 0 0) 0 args with
       | some ((cs',nms,nbk),ps),some ((as,fz),qs) =>
         if ent.z=z∧ent.box=true∧nbk.all (fun p=>p.1≠b)=true∧fz.all (fun c=>decide (c < 1000) && (c != b && nbk.all (fun p=>p.1≠c)))=true then
          chkL ps (chkL qs (callD (T.res f) (callw P C F f as ((1000,{ ent with es:=[cs'] }) :: nms)) fun y =>
           match (T.res f).enc y with
           | (r,ms')=>tPlain (dRes b fz nbk r ms') k))
         else none
       | _,_=>none
     | _=>none) else none
   | none=>none
 | _=>none
def pk {α:Type} (t:Bool) (x y:α):α:=if t=true then x else y
def setE (E:Operand→AV) (j:Nat) (a:AV):Operand→AV
 | .tmp i=>if i=j then a else E (.tmp i)
 | x=>E x
theorem zsg {E:Operand→AV} {j:Nat} {a:AV} (h:E (.tmp j)=a):setE E j a=E:=by
 funext x; unfold setE; split
 · split
   · rename_i hi; rw [hi]; exact h.symm
   · rfl
 · rfl
def rowTy (P:Program) (ent:Ent):TypeId:=
 match P.underlying ent.e with
 | some (.array _ e)=>if szB P e=some ent.z then e else ent.e
 | _=>ent.e
def tBare (P:Program) (C:Cfg) (M:List Nat) (o:Oper) (args:List Operand) (E:Operand→AV) (L:Nat→Option Ent) (k:Res→Option β):Option β:=
 match args with
 | [_,_,.tmp j]=>(match E (.tmp j) with
   | .v (.int kd c)=>brn (c == 0) (tPlain (aop P C M noCall o (setE E j (.v (.int kd 0))) L) k) (brn (c == 1) (tPlain (aop P C M noCall o (setE E j (.v (.int kd 1))) L) k) none)
   | _=>tPlain (aop P C M noCall o E L) k)
 | _=>tPlain (aop P C M noCall o E L) k
def tMSet (P:Program) (_T:Dic) (L:Nat→Option Ent) (t:TypeId) (m key x:AV) (k:Res→Option β):Option β:=
 match P.underlying t with
 | some (.map kt et)=>match m with
   | .map b=>match L b with
     | some ent=>if ent.z=0∧ent.box=false∧keyAV P kt key=true∧(x.ids L 5).all (fun c=>decide (c < 1000) && (c != b))=true then
       (match psnap L 5 (nrm P et x) with
       | some (x',ps)=>if x'.isC 4=true then chkL ps (msetD P kt et key x' ent.es fun es=>k { val:=.bot,set:=[(b,{ ent with es:=es })],frz:=x.ids L 5 }) else none
       | none=>none) else none
     | none=>none
   | _=>none
 | _=>none
def tOp (P:Program) (C:Cfg) (F:AnnF) (T:Dic) (M:List Nat) (o:Oper) (E:Operand→AV) (L:Nat→Option Ent) (k:Res→Option β):Option β:=
 match o.op with
 | .binOp op _ x y _=>match E x,E y with
   | .v (.int kd a),.v (.int kd' b)=>match pInt op kd kd' a b with
     | some (v,ps)=>chkL ps (k { val:=v })
     | none=>tPlain (aop P C M noCall o E L) k
   | .v (.string a),.v (.string b)=>match pStr op a b with
     | some (v,ps)=>chkL ps (k { val:=v })
     | none=>tPlain (aop P C M noCall o E L) k
   | _,_=>tPlain (aop P C M noCall o E L) k
 | .pick c a b=>match E c,E a,E b with
   | .v (.bool t),.v (.bool x),.v (.bool y)=>k { val:=.v (.bool (pk t x y)) }
   | .v (.bool t),a,b=>brn t (k { val:=a }) (k { val:=b })
   | _,_,_=>none
 | .load t a=>match E a with
   | .loc b z i off=>match L b with
     | some ent=>match ent.box with
       | true=>tPlain (aop P C M noCall o E L) k
       | false=>if ent.z=z∧0 < ent.z then elemE P T (rowTy P ent) ent.es i fun x=>match readAt P t (x.drop off) with
         | some v=>k { val:=v }
         | none=>none
         else none
     | none=>none
   | _=>tPlain (aop P C M noCall o E L) k
 | .store t a x=>match E a with
   | .loc b z i off=>match L b with
     | some ent=>match ent.box with
       | true=>tPlain (aop P C M noCall o E L) k
       | false=>match szB P t with
         | some n=>if (ent.z=z∧0 < ent.z)∧(nrm P t (E x)).cells.length=n∧allL AV.one (nrm P t (E x)).cells=true∧allL (AV.isC 4) (nrm P t (E x)).cells=true then
           elemD (T.ty (rowTy P ent)) ent.es i fun y=>if off+n≤((T.ty (rowTy P ent)).enc y).length then k { val:=.bot,set:=[(b,{ ent with es:=ent.es.set i (splice ((T.ty (rowTy P ent)).enc y) off (nrm P t (E x)).cells) })] } else none
           else none
         | none=>none
     | none=>none
   | _=>none
 | .indexAddr t x ix=>match E x,E ix with
   | .sl z es,.v (.int _ n)=>match P.underlying t with
     | some (.slice e)=>match szB P e with
       | some sz=>if z=sz then chk (0≤n) (elemD (T.ty e) es n.toNat fun x=>k { val:=.fp ((T.ty e).enc x) }) else none
       | none=>none
     | _=>none
   | .row b z off len,.v (.int _ n)=>match P.underlying t with
     | some (.slice e)=>match szB P e with
       | some sz=>if z=sz then chk (0≤n) (chk (n < (len:Int)) (k { val:=.loc b z (off+n.toNat) 0 })) else none
       | none=>none
     | _=>none
   | .loc b z i off,.v (.int _ n)=>match P.underlying t with
     | some (.array len e)=>match szB P e with
       | some sz=>if z=sz∧off=0 then chk (0≤n) (chk (n < (len:Int)) (k { val:=.loc b z (i+n.toNat) 0 })) else tPlain (aop P C M noCall o E L) k
       | none=>none
     | _=>none
   | .fa z es,.v (.int _ n)=>match P.underlying t with
     | some (.array len e)=>match szB P e with
       | some sz=>if z=sz then chk (0≤n) (chk (n < (len:Int)) (elemE P T e es n.toNat fun x=>k { val:=.fp x })) else none
       | none=>none
     | _=>none
   | .fp cs,.v (.int _ n)=>(match ix,P.underlying t with
     | .tmp _,some (.array len e)=>(match szB P e with
       | some sz=>chk (0≤n) (chk (n < (len:Int)) (elemD (T.ty e) (chunk sz len cs) n.toNat fun x=>k { val:=.fp ((T.ty e).enc x) }))
       | none=>none)
     | _,_=>tPlain (aop P C M noCall o E L) k)
   | _,_=>tPlain (aop P C M noCall o E L) k
 | .index t x ix=>match ix,E x,E ix with
   | .tmp _,.agg cs,.v (.int _ n)=>(match P.underlying t with
     | some (.array len e)=>(match szB P e with
       | some sz=>if cs.length=len*sz then
         chk (0≤n) (chk (n < (len:Int)) (elemD (T.ty e) (chunk sz len cs) n.toNat fun x=>match readAt P e ((T.ty e).enc x) with
          | some v=>k { val:=v }
          | none=>none))
         else none
       | none=>none)
     | _=>none)
   | _,.v (.string s),.v (.int _ n)=>(match P.underlying t with
     | some .string=>chk (0≤n) (chk (n < (s.size:Int)) (k { val:=.v (.int .u8 (strAt s n)) }))
     | _=>none)
   | _,_,_=>tPlain (aop P C M noCall o E L) k
 | .slice t x lo hi none=>match E x with
   | .v (.string s)=>(match P.underlying t with
     | some .string=>match pPart s (lo.map E) (hi.map E) with
       | some (v,ps)=>chkL ps (k { val:=v })
       | none=>none
     | _=>none)
   | .v _=>tPlain (aop P C M noCall o E L) k
   | a=>tCond (pSlice P t a (lo.map E) (hi.map E)) k
 | .makeSlice t l c=>match o.dst with
   | some d=>if (L d).isNone=true then (if M.contains d=true then tPlain (aop P C M noCall o E L) k else tCond (pMake P d t (E l) (E c)) k) else none
   | none=>none
 | .call { callee:=.builtin .append,args,argTypes }=>match o.dst,args.toList,argTypes.toList with
   | some d,[s,x],[t,t']=>if t=t'∧(L d).isNone=true then tCond (pAppend P L d t (E s) (E x)) k else none
   | _,_,_=>none
 | .call { callee:=.builtin .copy,args,argTypes }=>match args.toList,argTypes.toList with
   | [s,x],t :: _=>tCond (pCopy P L t (E s) (E x)) k
   | _,_=>none
 | .call { callee:=.builtin .clear,args,argTypes }=>match args.toList,argTypes.toList with
   | [s],t :: _=>tCond (pClear P L t (E s)) k
   | _,_=>none
 | .call { callee:=.builtin .delete,args,argTypes }=>match args.toList,argTypes.toList with
   | [m,kk],t :: _=>(match P.underlying t with
     | some (.map kt _)=>(match E m with
       | .map b=>(match L b with
         | some ent=>if ent.z=0∧ent.box=false∧keyAV P kt (E kk)=true then mdelD P kt (E kk) ent.es fun es=>k { val:=.tup [],set:=[(b,{ ent with es:=es })] } else none
         | none=>none)
       | _=>none)
     | _=>none)
   | _,_=>none
 | .lookup t m kk ok=>match P.underlying t with
   | some (.map kt et)=>(match mesOf L (E m),zeroA P et with
     | some es,some z=>if keyAV P kt (E kk)=true then mapD P kt ((isAggB P et).getD false) (T.ty et) z es (E kk) fun x b=>k { val:=mres ok (avEnc ((isAggB P et).getD false) (T.ty et) x) b } else none
     | _,_=>none)
   | _=>none
 | .mapUpdate t m kk x=>tMSet P T L t (E m) (E kk) (E x) k
 | .insert t m kk x=>tMSet P T L t (E m) (E kk) (E x) k
 | .call { callee:=.value g,args,argTypes }=>match E g with
   | .fn f cap=>if bare P f then tBare P C M o args.toList E L k else match o.dst with
     | some d=>(match C.dp f with
       | some k0=>if dstOut L (some d)=true then tDeep P C F T L f k0 (nrmA P (rawT C f argTypes) (args.toList.map E)++cap) k else none
       | none=>if (L d).isNone=true then tCall P C F T L (some d) f (nrmA P (rawT C f argTypes) (args.toList.map E)++cap) fun r=>tPlain (toKill (M.contains d) r) k else none)
     | none=>(match C.dp f with
       | some k0=>tDeep P C F T L f k0 (nrmA P (rawT C f argTypes) (args.toList.map E)++cap) k
       | none=>tCall P C F T L none f (nrmA P (rawT C f argTypes) (args.toList.map E)++cap) k)
   | _=>none
 | _=>tPlain (aop P C M noCall o E L) k
theorem ztV {P:Program} {e:TypeId} {sz:Nat} {l:List AV} {v:AV} (hs:szB P e=some sz) (h:readAt P e (l.take sz)=some v):readAt P e l=some v:=by
 unfold readAt at h ⊢; rw [hs] at h ⊢
 cases hb:isAggB P e with
 | none=>simp [hb] at h
 | some b =>
   cases b with
   | true =>
     simp only [hb] at h ⊢; split at h
     · rename_i hle; rw [List.length_take] at hle; rw [if_pos (by omega),← h,List.take_take,Nat.min_self]
     · cases h
   | false =>
     simp only [hb] at h ⊢; rw [List.getElem?_take] at h; split at h
     · exact h
     · cases h
theorem zg7 {x:Option Res} {k:Res→Option β} {y:β} (h:tPlain x k=some y):∃ r,x=some r∧k r=some y:=by
 unfold tPlain at h; split at h
 · exact ⟨_,rfl,h⟩
 · cases h
theorem zh9 {x:Option (Res×List Prop)} {k:Res→Option β} {y:β} (h:tCond x k=some y):∃ r ps,x=some (r,ps)∧Holds ps∧k r=some y:=by
 unfold tCond at h; split at h
 · obtain ⟨h1,h2⟩:=zci h; exact ⟨_,_,rfl,h1,h2⟩
 · cases h
variable {P:Program} {C:Cfg} {F:AnnF} {T:Dic} {M:List Nat}
theorem zpf {L:Nat→Option Ent} {d:Option Nat} {f:FuncId} {args:List AV} {k:Res→Option β} {y:β}
  (h:tCall P C F T L d f args k=some y):∃ r,aCall C (callw P C F) L d f args=some r∧k r=some y:=by
 unfold tCall at h; split at h
 case h_1=>cases h
 rename_i as ms bk fz ps hp; split at h
 case isFalse=>cases h
 rename_i hd; obtain ⟨hh,h1⟩:=zci h; obtain ⟨x,hx,h2⟩:=zqC h1; split at h2; rename_i r ms' he; split at h2
 case h_1=>cases h2
 rename_i back hb; split at h2
 case isFalse=>cases h2
 rename_i hf; obtain ⟨res,hr,h3⟩:=zg7 h2; obtain ⟨res2,hr2,h4⟩:=zg7 h3; refine ⟨res2,?_,h4⟩; unfold aCall; rw [zfX args 0 _ _ hp hh]; simp only; rw [if_pos hd,hx,he]; simp only [hb]; rw [if_pos hf,hr]; exact hr2
theorem zpg {L:Nat→Option Ent} {f:FuncId} {k0:Nat} {args:List AV} {k:Res→Option β} {y:β}
  (h:tDeep P C F T L f k0 args k=some y):∃ r,aDeep (callw P C F) L f k0 args=some r∧k r=some y:=by
 unfold tDeep at h; split at h
 case h_2=>cases h
 rename_i b z hk0; split at h
 case h_2=>cases h
 rename_i ent hlb; split at h
 case isFalse=>cases h
 rename_i hbx; split at h
 case h_2=>cases h
 rename_i cs hes; split at h
 case h_2=>cases h
 rename_i cs' nms nbk ps as fz qs hnest hda; split at h
 case isFalse=>cases h
 rename_i hcond; obtain ⟨hh1,h1⟩:=zci h; obtain ⟨hh2,h2⟩:=zci h1; obtain ⟨x,hx,h3⟩:=zqC h2; split at h3; rename_i r ms' he; obtain ⟨res,hr,h4⟩:=zg7 h3; refine ⟨res,?_,h4⟩; unfold aDeep; simp only [hk0,hlb]; rw [if_pos hbx,hes]; simp only [ziL _ _ _ _ hnest hh1,zkB _ _ _ _ hda hh2]; rw [if_pos hcond,hx,he]; exact hr
theorem zph {L:Nat→Option Ent} {t:TypeId} {m key x:AV} {k:Res→Option β} {y:β} (h:tMSet P T L t m key x k=some y):∃ r,aMSet P L t m key x=some r∧k r=some y:=by
 unfold tMSet at h; split at h
 case h_2=>cases h
 rename_i kt et hu; split at h
 case h_2=>cases h
 rename_i b; split at h
 case h_2=>cases h
 rename_i ent hl; split at h
 case isFalse=>cases h
 rename_i hc; split at h
 case h_2=>cases h
 rename_i x' ps hp; split at h
 case isFalse=>cases h
 rename_i hC; obtain ⟨hh,h1⟩:=zci h; obtain ⟨es,h2,h3⟩:=msetD_some h1; refine ⟨_,?_,h3⟩; unfold aMSet; simp only [hu,hl]; rw [if_pos hc,zdL 5 _ _ _ hp hh]; simp only; rw [if_pos hC,h2]
theorem tOp_sound {o:Oper} {E:Operand→AV} {L:Nat→Option Ent} {k:Res→Option β} {y:β} (h:tOp P C F T M o E L k=some y):∃ r,aop P C M (callw P C F) o E L=some r∧k r=some y:=by
 have plain:tPlain (aop P C M noCall o E L) k=some y→∃ r,aop P C M (callw P C F) o E L=some r∧k r=some y:=by intro h; obtain ⟨r,h1,h2⟩:=zg7 h; exact ⟨r,aop_mono (noCall_le _) h1,h2⟩
 unfold tOp at h; split at h
 · rename_i op t x z u ho; split at h
   · rename_i kd a kd' b hx hy; split at h
     · rename_i v ps hp; obtain ⟨hh,h1⟩:=zci h; refine ⟨_,?_,h1⟩; have:=pInt_sound (P:=P) ho hx hy hp hh; unfold aop; simp only [ho,hx,hy]
       have hnc:nilCmp P op t (.v (.int kd a)) (.v (.int kd' b))=none:=by unfold nilCmp; split <;> simp_all
       rw [hnc]; exact this
     · exact plain h
   · rename_i a b hx hy; split at h
     · rename_i v ps hp; obtain ⟨hh,h1⟩:=zci h; refine ⟨_,?_,h1⟩; have:=pStr_sound (P:=P) ho hx hy hp hh; unfold aop; simp only [ho,hx,hy]
       have hnc:nilCmp P op t (.v (.string a)) (.v (.string b))=none:=by unfold nilCmp; split <;> simp_all
       rw [hnc]; exact this
     · exact plain h
   · exact plain h
 · rename_i c a b ho; split at h
   · rename_i t x z hc ha hb; refine ⟨_,?_,h⟩; unfold aop; simp only [ho,hc,ha,hb,pk]; cases t <;> rfl
   · rename_i t hc _; unfold aop; simp only [ho,hc]; rcases zkl h with ⟨rfl,h⟩ | ⟨rfl,h⟩
     · exact ⟨_,rfl,h⟩
     · exact ⟨_,rfl,h⟩
   · cases h
 · rename_i t a ho; split at h
   · rename_i b z i off ha; split at h
     case h_2=>cases h
     rename_i ent hl; split at h
     · exact plain h
     · rename_i hbx; split at h
       case isFalse=>cases h
       rename_i hz; obtain ⟨x,hx,h1⟩:=zqN h; split at h1
       case h_2=>cases h1
       rename_i v hv; refine ⟨_,?_,h1⟩; unfold aop; simp only [ho,ha,aLoad,hl]; rw [if_pos ⟨hz.1,.inr hz.2⟩,hx]; simp only [hv]
   · exact plain h
 · rename_i t a x ho; split at h
   · rename_i b z i off ha; split at h
     case h_2=>cases h
     rename_i ent hl; split at h
     · exact plain h
     · rename_i hbx; split at h
       case h_2=>cases h
       rename_i n hs; split at h
       case isFalse=>cases h
       rename_i hc; obtain ⟨u,hu,h1⟩:=zhX h; split at h1
       case isFalse=>cases h1
       rename_i hlen; refine ⟨_,?_,h1⟩; unfold aop; simp only [ho,ha,nrmS,hl,hbx,aStore,hs]; simp only [Bool.false_eq_true,if_false,false_or]; rw [if_pos ⟨⟨hc.1.1,hc.1.2⟩,hc.2.1,hc.2.2.1,hc.2.2.2⟩,hu]; simp only; rw [if_pos hlen]
   · cases h
 · rename_i t x ix ho; split at h
   · rename_i z es kd n hx hi; split at h
     case h_2=>cases h
     rename_i e hu; split at h
     case h_2=>cases h
     rename_i sz hs; split at h
     case isFalse=>cases h
     rename_i hz; obtain ⟨h0,h1⟩:=zcL h; obtain ⟨u,hu',h2⟩:=zhX h1; refine ⟨_,?_,h2⟩; unfold aop; simp only [ho,hx,hi,aIndex,hu,hs]; rw [if_pos ⟨hz,h0⟩,hu']
   · rename_i b z off len kd n hx hi; split at h
     case h_2=>cases h
     rename_i e hu; split at h
     case h_2=>cases h
     rename_i sz hs; split at h
     case isFalse=>cases h
     rename_i hz; obtain ⟨h0,h1⟩:=zcL h; obtain ⟨h2,h3⟩:=zcL h1; refine ⟨_,?_,h3⟩; unfold aop; simp only [ho,hx,hi,aIndex,hu,hs]; rw [if_pos ⟨hz,h0,h2⟩]
   · rename_i b z i off kd n hx hi; split at h
     case h_2=>cases h
     rename_i len e hu; split at h
     case h_2=>cases h
     rename_i sz hs; split at h
     case isFalse=>exact plain h
     rename_i hz; obtain ⟨h0,h1⟩:=zcL h; obtain ⟨h2,h3⟩:=zcL h1; refine ⟨_,?_,h3⟩; unfold aop; simp only [ho,hx,hi,aIndex,hu,hs]; rw [if_pos ⟨h0,h2⟩,if_pos hz]
   · rename_i z es kd n hx hi; split at h
     case h_2=>cases h
     rename_i len e hu; split at h
     case h_2=>cases h
     rename_i sz hs; split at h
     case isFalse=>cases h
     rename_i hz; obtain ⟨h0,h1⟩:=zcL h; obtain ⟨h2,h3⟩:=zcL h1; obtain ⟨u,hu',h4⟩:=zqN h3; refine ⟨_,?_,h4⟩; unfold aop; simp only [ho,hx,hi,aIndex,hu,hs]; rw [if_pos ⟨h0,h2⟩,if_pos hz,hu']
   · rename_i cs kd n hx hi; split at h
     case h_2=>exact plain h
     rename_i jx len e hu; split at h
     case h_2=>cases h
     rename_i sz hs; obtain ⟨h0,h1⟩:=zcL h; obtain ⟨h2,h3⟩:=zcL h1; obtain ⟨u,hu',h4⟩:=zhX h3; refine ⟨_,?_,h4⟩; have hlt:n.toNat < len:=by omega
     rw [zhE len cs n.toNat hlt] at hu'; injection hu' with hu'; unfold aop; simp only [ho,hx,hi,aIndex,hu,hs]; rw [if_pos ⟨h0,h2⟩,hu']
   · exact plain h
 · rename_i t x ix ho; split at h
   · rename_i jx cs kd n hx hi; split at h
     case h_2=>cases h
     rename_i len e hu; split at h
     case h_2=>cases h
     rename_i sz hs; split at h
     case isFalse=>cases h
     rename_i hlen; obtain ⟨h0,h1⟩:=zcL h; obtain ⟨h2,h3⟩:=zcL h1; obtain ⟨u,hu',h4⟩:=zhX h3; split at h4
     case h_2=>cases h4
     rename_i v hv; refine ⟨_,?_,h4⟩; have hlt:n.toNat < len:=by omega
     rw [zhE len cs n.toNat hlt] at hu'; injection hu' with hu'; rw [← hu'] at hv; unfold aop; simp only [ho,hx,hi,hu,hs]; rw [if_pos ⟨h0,h2⟩,ztV hs hv]
   · rename_i jx s kd n hx hi; split at h
     case h_2=>cases h
     rename_i hu; obtain ⟨h0,h1⟩:=zcL h; obtain ⟨h2,h3⟩:=zcL h1; refine ⟨_,?_,h3⟩; unfold aop; simp only [ho,hx,hi,hu]; exact ztZ ho hx hi hu h0 h2
   · exact plain h
 · rename_i t x lo hi ho; split at h
   · rename_i s hx; split at h
     case h_2=>cases h
     rename_i hu; split at h
     case h_2=>cases h
     rename_i v ps hp; obtain ⟨hh,h1⟩:=zci h; refine ⟨_,?_,h1⟩; unfold aop; simp only [ho,hx]; exact ztR ho hx hu hp hh
   · exact plain h
   · rename_i hne; obtain ⟨r,ps,h1,h2,h3⟩:=zh9 h; have:=zth h1 h2; refine ⟨r,?_,h3⟩; unfold aop; simp only [ho]
     cases hq:E x with
     | v y=>exact absurd hq (hne y)
     | _=>rw [hq] at this; exact this
 · rename_i t l c ho; split at h
   case h_2=>cases h
   rename_i d hd; split at h
   case isFalse=>cases h
   rename_i hn; split at h
   · exact plain h
   rename_i hnm; obtain ⟨r,ps,h1,h2,h3⟩:=zh9 h; have:=ztQ h1 h2; refine ⟨r,?_,h3⟩; unfold aop; simp only [ho,hd]; rw [if_pos hn,if_neg hnm]; exact this
 · rename_i args argTypes ho; split at h
   case h_2=>cases h
   rename_i d s x t t' hd ha ht; split at h
   case isFalse=>cases h
   rename_i hn; obtain ⟨r,ps,h1,h2,h3⟩:=zh9 h; have:=zsB h1 h2; refine ⟨r,?_,h3⟩; unfold aop; simp only [ho,hd,ha,ht]; rw [if_pos hn]; exact this
 · rename_i args argTypes ho; split at h
   case h_2=>cases h
   rename_i s x t tr ha ht; obtain ⟨r,ps,h1,h2,h3⟩:=zh9 h; have:=ztP h1 h2; refine ⟨r,?_,h3⟩; unfold aop; simp only [ho,ha,ht]; exact this
 · rename_i args argTypes ho; split at h
   case h_2=>cases h
   rename_i s t tr ha ht; obtain ⟨r,ps,h1,h2,h3⟩:=zh9 h; have:=ztg h1 h2; refine ⟨r,?_,h3⟩; unfold aop; simp only [ho,ha,ht]; exact this
 · rename_i args argTypes ho; split at h
   case h_2=>cases h
   rename_i m kk t tr ha ht; split at h
   case h_2=>cases h
   rename_i kt et hu; split at h
   case h_2=>cases h
   rename_i b hm; split at h
   case h_2=>cases h
   rename_i ent hl; split at h
   case isFalse=>cases h
   rename_i hc; obtain ⟨es,h1,h2⟩:=mdelD_some h; refine ⟨_,?_,h2⟩; unfold aop; simp only [ho,ha,ht,aMDel,hu,hm,hl]; rw [if_pos hc,h1]
 · rename_i t m kk ok ho; split at h
   case h_2=>cases h
   rename_i kt et hu; split at h
   case h_2=>cases h
   rename_i es z hes hz; split at h
   case isFalse=>cases h
   rename_i hk; rcases mapD_some h with ⟨a,x,h1,h2,h3⟩ | ⟨x,h1,h2,h3⟩
   · refine ⟨_,?_,h3⟩; unfold aop; simp only [ho,aMLook,hu,hes,hz]; rw [if_pos hk,h1,← h2]
   · refine ⟨_,?_,h3⟩; unfold aop; simp only [ho,aMLook,hu,hes,hz]; rw [if_pos hk,h1,← h2]
 · rename_i t m kk x ho; obtain ⟨r,h1,h2⟩:=zph h; refine ⟨r,?_,h2⟩; unfold aop; simp only [ho]; exact h1
 · rename_i t m kk x ho; obtain ⟨r,h1,h2⟩:=zph h; refine ⟨r,?_,h2⟩; unfold aop; simp only [ho]; exact h1
 · rename_i g args argTypes ho; split at h
   case h_2=>cases h
   rename_i f cap hg; split at h
   · unfold tBare at h; split at h
     · rename_i j; split at h
       · rename_i kd c hj; rcases zkl h with ⟨hc,h⟩ | ⟨_,h⟩
         · rw [zsg (by rw [hj]; simp at hc; rw [hc])] at h; exact plain h
         · rcases zkl h with ⟨hc,h⟩ | ⟨_,h⟩
           · rw [zsg (by rw [hj]; simp at hc; rw [hc])] at h; exact plain h
           · cases h
       · exact plain h
     · exact plain h
   · rename_i hb; split at h
     · rename_i d hd; split at h
       · rename_i k0 hdp; split at h
         case isFalse=>cases h
         rename_i hdo; obtain ⟨r,h1,h2⟩:=zpg h; refine ⟨r,?_,h2⟩; unfold aop; simp only [ho,hg,hd,hdp]; rw [if_neg hb,if_pos hdo]; exact h1
       · rename_i hdp; split at h
         case isFalse=>cases h
         rename_i hn; obtain ⟨r0,h1,h2⟩:=zpf h; obtain ⟨r,h3,h4⟩:=zg7 h2; refine ⟨r,?_,h4⟩; unfold aop; simp only [ho,hg,hd,hdp]; rw [if_neg hb,if_pos hn,h1]; exact h3
     · rename_i hd; split at h
       · rename_i k0 hdp; obtain ⟨r,h1,h2⟩:=zpg h; refine ⟨r,?_,h2⟩; unfold aop; simp only [ho,hg,hd,hdp]; rw [if_neg hb,if_pos (show dstOut L none=true from rfl)]; exact h1
       · rename_i hdp; obtain ⟨r,h1,h2⟩:=zpf h; refine ⟨r,?_,h2⟩; unfold aop; simp only [ho,hg,hd,hdp]; rw [if_neg hb]; exact h1
 · exact plain h
variable {N:Nat} {ops:Array Oper}
def applyR2 (dst:Option Nat) (r:Res) (st:St):St:=
 let st2:=match r.kill with
  | some b=>del b st
  | none=>st
 let st3:=delAll r.re st2
 { t:=putO dst r.val st3.t,m:=setAll r.set st3.m }
def tApply (dst:Option Nat) (r:Res) (st:St) (k:St→Option β):Option β:=
 match zh5 r.frz st with
 | some (st1,ps)=>chkL ps (k (applyR2 dst r st1))
 | none=>none
theorem zt1 {dst:Option Nat} {r:Res} {st:St} {k:St→Option β} {y:β} (h:tApply dst r st k=some y):k (applyR dst r st)=some y:=by
 unfold tApply at h; split at h
 · rename_i st1 ps hp; obtain ⟨hh,h1⟩:=zci h
   have:applyR dst r st=applyR2 dst r st1:=by rw [← zkC hp hh]; rfl
   rw [this]; exact h1
 · cases h
def tStep (P:Program) (C:Cfg) (F:AnnF) (T:Dic) (M:List Nat) (N:Nat) (ops:Array Oper) (o:Oper) (st:St) (k:Res→St→Option β):Option β:=
 if dstOk N o.dst=true then
  tWant ops o st.t fun w t=>match w with
   | true=>tOp P C F T M o (ev t) (look st.m) fun r=>tApply o.dst r ⟨t,st.m⟩ (k r)
   | false=>k { val:=.v undef } (applyR o.dst { val:=.v undef } ⟨t,st.m⟩)
 else none
theorem zt2 {o:Oper} {st:St} {k:Res→St→Option β} {y:β} (h:tStep P C F T M N ops o st k=some y):∃ r st',aStep P C M (callw P C F) N ops o st=some (r,st')∧k r st'=some y:=by
 unfold tStep at h; split at h
 case isFalse=>cases h
 rename_i hd; obtain ⟨b,hb,h1⟩:=zt4 h; unfold aStep; rw [if_pos hd,hb]
 cases b with
 | true=>simp only at h1 ⊢; obtain ⟨r,h2,h3⟩:=tOp_sound h1; rw [h2]; exact ⟨_,_,rfl,zt1 h3⟩
 | false=>simp only at h1 ⊢; exact ⟨_,_,rfl,h1⟩
def tRun (P:Program) (C:Cfg) (F:AnnF) (T:Dic) (M:List Nat) (N:Nat) (ops:Array Oper):Nat→List Oper→St→(List Mk→St→Option β)→Option β
 | _,[],st,k=>k [] st
 | i,o :: r,st,k=>tStep P C F T M N ops o st fun res st'=>force st' fun st'=>tRun P C F T M N ops (i+1) r st' fun l st''=>k ({ i,o,res,touch:=zgL o (ev st.t) (look st.m),pre:=st } :: l) st''
theorem zjU:∀ (l:List Oper) (i:Nat) (st:St) (k:List Mk→St→Option β) (y:β),tRun P C F T M N ops i l st k=some y→∃ r st',runOps P C M (callw P C F) N ops i l st=some (r,st')∧k r st'=some y
 | [],i,st,k,y,h=>⟨[],st,rfl,h⟩
 | o :: l,i,st,k,y,h=>by simp only [tRun] at h; obtain ⟨res,st1,h1,h2⟩:=zt2 h; rw [zku] at h2; obtain ⟨ml,st2,h3,h4⟩:=zjU l (i+1) st1 _ y h2; simp only [runOps]; rw [h1]; simp only; rw [h3]; exact ⟨_,_,rfl,h4⟩
def addU:List Nat→List Nat→List Nat
 | [],b=>b
 | x :: r,b=>if b.contains x then addU r b else x :: addU r b
theorem zpD {x:Nat}:∀ {a b:List Nat},x∈addU a b→x∈a∨x∈b
 | [],b,h=>.inr h
 | z :: r,b,h=>by
   simp only [addU] at h; split at h
   · rcases zpD h with h | h
     · exact .inl (by simp [h])
     · exact .inr h
   · rcases List.mem_cons.1 h with rfl | h
     · exact .inl (by simp)
     · rcases zpD h with h | h
       · exact .inl (by simp [h])
       · exact .inr h
def befOf (tab:List (List Nat)):List Edge→List Nat
 | []=>[]
 | e :: r=>if Region.binds .any e then addU (e.on :: (tab[e.on]?).getD []) (befOf tab r) else befOf tab r
def befTab:List Oper→List (List Nat)→List (List Nat)
 | [],tab=>tab
 | o :: r,tab=>befTab r (tab++[befOf tab o.after.toList])
theorem zq5 {ops:Array Oper}:∀ (k i x:Nat),x∈preds ops k i→x∈preds ops (k+1) i
 | 0,i,x,h=>by simp [preds] at h
 | k+1,i,x,h=>by
   simp only [preds] at h; show x∈preds ops (k+1+1) i; unfold preds
   cases ho:ops[i]? with
   | none=>simp [ho] at h
   | some o =>
     simp only [ho] at h ⊢; obtain ⟨e,he,hx⟩:=List.mem_flatMap.1 h; refine List.mem_flatMap.2 ⟨e,he,?_⟩; split at hx
     · rename_i hb; rw [if_pos hb]; rcases List.mem_cons.1 hx with rfl | hx
       · simp
       · exact List.mem_cons.2 (.inr (zq5 k e.on x hx))
     · cases hx
theorem preds_le {ops:Array Oper} {k m i x:Nat} (h:k≤m) (hx:x∈preds ops k i):x∈preds ops m i:=by
 induction h with
 | refl=>exact hx
 | step _ ih=>exact zq5 _ _ _ ih
def TabOk (ops:Array Oper) (tab:List (List Nat)):Prop:=∀ (i x:Nat) (l:List Nat),tab[i]?=some l→x∈l→x∈preds ops i i
theorem zno {tab:List (List Nat)} {x:Nat}:∀ {l:List Edge},x∈befOf tab l→∃ e∈l,Region.binds .any e=true∧(x=e.on∨x∈(tab[e.on]?).getD [])
 | [],h=>by simp [befOf] at h
 | e :: r,h=>by
   simp only [befOf] at h; split at h
   · rename_i hb; rcases zpD h with h | h
     · exact ⟨e,by simp,hb,List.mem_cons.1 h⟩
     · obtain ⟨e',h1,h2⟩:=zno h; exact ⟨e',by simp [h1],h2⟩
   · obtain ⟨e',h1,h2⟩:=zno h; exact ⟨e',by simp [h1],h2⟩
theorem zrH {ops:Array Oper} (hedge:∀ j o,ops[j]?=some o→∀ e∈o.after,Region.binds .any e=true→e.on < j):∀ (l:List Oper) (tab:List (List Nat)),TabOk ops tab→(∀ j,l[j]?=ops[tab.length+j]?)→TabOk ops (befTab l tab)
 | [],tab,h,_=>h
 | o :: l,tab,h,hl=>by
   simp only [befTab]; refine zrH hedge l _ ?_ (fun j=>?_)
   · intro i x s hs hx; rw [List.getElem?_append] at hs; split at hs
     · exact h i x s hs hx
     · rename_i hlt
       have hi:i=tab.length:=by
        by_cases hq:i - tab.length=0
        · omega
        · obtain ⟨m,hm⟩:=Nat.exists_eq_succ_of_ne_zero hq; rw [hm] at hs; simp at hs
       subst hi; simp at hs; subst hs
       have ho:ops[tab.length]?=some o:=by have:=hl 0; simp at this; exact this.symm
       obtain ⟨e,he,hb,hx'⟩:=zno hx; have hlt2:=hedge _ _ ho e (by simpa using he) hb; obtain ⟨m,hm⟩:∃ m,tab.length=m+1:=⟨tab.length - 1,by omega⟩
       rw [hm] at ho hlt2 ⊢; unfold preds; simp only [ho]; refine List.mem_flatMap.2 ⟨e,he,?_⟩; rw [if_pos hb]; rcases hx' with rfl | hx'
       · simp
       · refine List.mem_cons.2 (.inr ?_)
         cases hq:tab[e.on]? with
         | none=>simp [hq] at hx'
         | some s'=>rw [hq] at hx'; exact preds_le (by omega) (h e.on x s' hq hx')
   · have:=hl (j+1); simp only [List.getElem?_cons_succ] at this; rw [this]; simp only [List.length_append,List.length_cons,List.length_nil]; congr 1; omega
def zn5 (ops:Array Oper) (tab:List (List Nat)):List Mk→Bool
 | []=>true
 | a :: r=>r.all (fun b=>((tab[b.i]?).getD []).contains a.i || indep ops a b) && zn5 ops tab r
theorem zqH {ops:Array Oper} {tab:List (List Nat)} (ht:TabOk ops tab):∀ {l:List Mk},zn5 ops tab l=true→drawOk ops l=true
 | [],_=>rfl
 | a :: r,h=>by
   simp only [zn5,drawOk,Bool.and_eq_true,List.all_eq_true,Bool.or_eq_true] at h ⊢; refine ⟨fun b hb=>?_,zqH ht h.2⟩; rcases h.1 b hb with h1 | h1
   · left; rw [List.contains_iff_mem] at h1 ⊢
     cases hq:tab[b.i]? with
     | none=>simp [hq] at h1
     | some s=>rw [hq] at h1; exact ht b.i a.i s hq h1
   · exact .inr h1
theorem ztI {l:List Oper}:∀ {i:Nat},zhH i l=true→∀ j o,l[j]?=some o→∀ e∈o.after,Region.binds .any e=true→e.on < i+j:=by
 induction l with
 | nil=>intro i _ j o ho; simp at ho
 | cons o l ih =>
   intro i h j o' ho e he hb; simp only [zhH,Bool.and_eq_true,List.all_eq_true,Bool.or_eq_true,Bool.not_eq_true',decide_eq_true_eq] at h
   cases j with
   | zero =>
     simp at ho; subst ho; rcases h.1 e (by simpa using he) with h1 | h1
     · rw [hb] at h1; cases h1
     · omega
   | succ j=>have:=ih h.2 j o' (by simpa using ho) e he hb; omega
def zn7 (P:Program) (C:Cfg) (F:AnnF) (T:Dic) (M:List Nat) (N:Nat) (ops:Array Oper) (draw:Bool) (st:St) (k:St→Option β):Option β:=
 match draw with
 | false=>tRun P C F T M N ops 0 ops.toList (preDel ops.toList st) fun _ st'=>k st'
 | true=>tRun P C F T M N ops 0 ops.toList (preDel ops.toList st) fun l st' =>
   match zhH 0 ops.toList && P.follows .mixedOrders && zn5 ops (befTab ops.toList []) l with
   | true=>k st'
   | false=>none
theorem zmK {draw:Bool} {st:St} {k:St→Option β} {y:β} (h:zn7 P C F T M N ops draw st k=some y):∃ st',ze4 P C M (callw P C F) N ops draw st=some st'∧k st'=some y:=by
 unfold zn7 at h; unfold ze4
 cases draw with
 | false=>simp only at h; obtain ⟨l,st1,h1,h2⟩:=zjU _ _ _ _ _ h; rw [h1]; exact ⟨st1,by simp,h2⟩
 | true =>
   simp only at h; obtain ⟨l,st1,h1,h2⟩:=zjU _ _ _ _ _ h; rw [h1]; split at h2
   case h_2=>cases h2
   rename_i hc; simp only [Bool.and_eq_true] at hc; refine ⟨st1,?_,h2⟩
   have hedge:∀ j o,ops[j]?=some o→∀ e∈o.after,Region.binds .any e=true→e.on < j:=by intro j o ho e he hb; have:=ztI hc.1.1 j o (by simpa using ho) e he hb; omega
   have ht:TabOk ops (befTab ops.toList []):=zrH hedge ops.toList [] (fun i x l hi=>by simp at hi) (fun j=>by simp); simp [zqH ht hc.2,hc.1.1,hc.1.2]
end
def regK:Code→List It→Nat→Option (List It)
 | .seq a b,k,id=>match regK a (.code b :: k) id with
   | some r=>some r
   | none=>regK b k id
 | .cond _ x y,k,id=>match regK x k id with
   | some r=>some r
   | none=>regK y k id
 | .block j c,k,id=>regK c (.inBlock j :: k) id
 | .loop c,k,id=>regK c (.inLoop c :: k) id
 | .region j ops draw,k,id=>if id=j then some (.code (.region j ops draw) :: k) else none
 | _,_,_=>none
def ptS (fn:Func) (j:Nat):List It:=
 if j < 1000 then ptK fn j else match fn.body with
  | some c=>(regK c [] (j - 1000)).getD []
  | none=>[]
def pt (R:Fr) (j:Nat) (st:St):Option (AV×Mem):=run R (ptS R.fn j) .normal st
def tFin (R:Fr) (st:St):Option (AV×Mem):=
 match presult R.P (R.F R.f).frz R.fn st,zgy st.m R.ms with
 | some (r,ps),some ms'=>chkL ps (zlN r ms')
 | _,_=>none
theorem zrc {R:Fr} {st:St} {y:AV×Mem} (h:tFin R st=some y) (e:Ex) (he:e=.normal∨e=.ret):zhL R.P (R.F R.f).frz R.fn R.ms (some (e,st))=some y:=by
 unfold tFin at h; split at h
 case h_2=>cases h
 rename_i r ps ms' h1 h2; obtain ⟨hh,h3⟩:=zci h; have:=zsC h1 hh; rcases he with rfl | rfl <;> simp only [zhL,this,h2] <;> exact h3
def tTidy (A:Ann) (id:Nat) (st:St) (k:St→Option (AV×Mem)):Option (AV×Mem):=
 match ptidy A id st with
 | none=>none
 | some (st',ps)=>chkL ps (force st' k)
theorem zt3 {A:Ann} {id:Nat} {st:St} {k:St→Option (AV×Mem)} {y:AV×Mem} (h:tTidy A id st k=some y):k (tidy A id st)=some y:=by
 unfold tTidy at h; split at h
 · cases h
 · rename_i st' ps hp; obtain ⟨hh,h1⟩:=zci h; rw [zku] at h1; rw [zpe hp hh]; exact h1
def tPre {β:Type} (A:Ann) (id:Nat) (st:St) (k:St→Option β):Option β:=
 match A.fz (id+1000) with
 | []=>k st
 | l=>match zkD l st with
   | none=>none
   | some (st',ps)=>chkL ps (force st' k)
theorem zrd {β:Type} {A:Ann} {id:Nat} {st:St} {k:St→Option β} {y:β} (h:tPre A id st k=some y):k (zfK (A.fz (id+1000)) st)=some y:=by
 unfold tPre at h; split at h
 · rename_i h1; rw [h1]; exact h
 · split at h
   · cases h
   · rename_i hp; obtain ⟨hh,h2⟩:=zci h; rw [zku] at h2; rw [ziD hp hh]; exact h2
def setO (o:Operand) (x:Bool) (st:St):St:=
 match o with
 | .tmp d=>{ st with t:=setB d x st.t }
 | _=>st
def tGo (R:Fr) (T:Dic) (cut:List Nat):Nat→Bool→List It→St→Option (AV×Mem)
 | 0,_,_,_=>none
 | _+1,_,[],st=>tFin R st
 | n+1,first,.inBlock _ :: k,st=>tGo R T cut n first k st
 | n+1,first,.inLoop c :: k,st=>match first with
   | true=>tGo R T cut n false (.code c :: .inLoop c :: k) st
   | false=>run R (.inLoop c :: k) .normal st
 | n+1,first,.code c :: k,st=>match c with
   | .skip=>tGo R T cut n first k st
   | .seq a b=>tGo R T cut n first (.code a :: .code b :: k) st
   | .block id c=>tGo R T cut n first (.code c :: .inBlock id :: k) st
   | .loop c=>tGo R T cut n first (.inLoop c :: k) st
   | .exit id=>match dropTo id k with
     | some k'=>tGo R T cut n first k' st
     | none=>none
   | .ret=>tFin R st
   | .cond o x y=>match ev st.t o with
     | .v (.bool b)=>brn b (tGo R T cut n false (.code x :: k) (setO o true st)) (tGo R T cut n false (.code y :: k) (setO o false st))
     | _=>none
   | .region id ops draw=>match !first && cut.contains id with
     | true=>run R (.code (.region id ops draw) :: k) .normal st
     | false=>tPre (R.F R.f) id st fun st0=>zn7 R.P R.C R.F T (R.F R.f).lits R.fn.ntmps ops draw st0 fun st1=>tTidy (R.F R.f) id st1 fun st2=>tGo R T cut n false k st2
   | _=>none
theorem zsh {o:Operand} {x:Bool} {st:St} (h:ev st.t o=.v (.bool x)):setO o x st=st:=by
 unfold setO; split
 · rename_i d; rw [zk6 h]
 · rfl
theorem zsk {R:Fr} {T:Dic} {cut:List Nat}:∀ (n:Nat) (first:Bool) (k:List It) (st:St) (y:AV×Mem),tGo R T cut n first k st=some y→run R k .normal st=some y:=by
 intro n
 induction n with
 | zero=>intro first k st y h; simp [tGo] at h
 | succ n ih =>
   intro first k st y h
   cases k with
   | nil=>simp only [tGo] at h; exact zrc h .normal (.inl rfl)
   | cons it k =>
     cases it with
     | inBlock id=>simp only [tGo] at h; simp only [run]; exact ih first k st y h
     | inLoop c =>
       simp only [tGo] at h; split at h
       · have:=ih false _ st y h; rw [← this]; simp only [run]; rw [itw_eq]
         cases hq:R.ev c st with
         | none=>rfl
         | some q =>
           obtain ⟨e,st1⟩:=q
           cases e with
           | normal=>simp only [run]
           | exit id=>simp only [run]
           | ret=>simp only [run]
       · exact h
     | code c =>
       simp only [tGo] at h
       cases c with
       | skip=>simp only at h; rw [← ih first k st y h]; rfl
       | seq a b =>
         simp only at h; rw [← ih first _ st y h]; simp only [run,Fr.ev,aeval]
         cases hq:aeval R.P R.C (R.F R.f) R.fn.ntmps (callw R.P R.C R.F) itw a st with
         | none=>rfl
         | some q =>
           obtain ⟨e,st1⟩:=q
           cases e with
           | normal=>simp only [run,Fr.ev]
           | exit id=>simp only [run]
           | ret=>simp only [run]
       | block id c =>
         simp only at h; rw [← ih first _ st y h]; simp only [run,Fr.ev,aeval]
         cases hq:aeval R.P R.C (R.F R.f) R.fn.ntmps (callw R.P R.C R.F) itw c st with
         | none=>rfl
         | some q =>
           obtain ⟨e,st1⟩:=q
           cases e with
           | normal=>simp only [run]
           | exit j =>
             simp only [run]; by_cases hj:j=id
             · simp only [hj,if_true]
             · simp only [hj,if_false]
           | ret=>simp only [zlP]
       | loop c=>simp only at h; rw [← ih first _ st y h]; rfl
       | exit id =>
         simp only at h; split at h
         · rename_i k' hk; rw [← ih first k' st y h]; simp only [run,Fr.ev,aeval]; exact zmx R id k k' st hk
         · cases h
       | ret=>simp only at h; simp only [run,Fr.ev,aeval]; rw [zlP]; exact zrc h .ret (.inr rfl)
       | cond o x z =>
         simp only at h; split at h
         · rename_i b hb; rcases zkl h with ⟨rfl,h⟩ | ⟨rfl,h⟩
           · rw [zsh hb] at h; rw [← ih false _ st y h]; simp only [run,Fr.ev,aeval,hb,if_true]
           · rw [zsh hb] at h; rw [← ih false _ st y h]; simp only [run,Fr.ev,aeval,hb,Bool.false_eq_true,if_false]
         · cases h
       | region id ops draw =>
         simp only at h; split at h
         · exact h
         · obtain ⟨st1,h1,h2⟩:=zmK (zrd h); have h3:=zt3 h2; rw [← ih false k _ y h3]; simp only [run,Fr.ev,aeval]; rw [h1]
       | _=>cases h
theorem pt_of {R:Fr} (T:Dic) (cut:List Nat) {j:Nat} {st:St} {y:AV×Mem} {x:Option (AV×Mem)} (hx:tGo R T cut 100000 (decide (j≠0)) (ptS R.fn j) st=x) (h:x=some y):pt R j st=some y:=
 zsk _ _ _ _ _ (hx.trans h)
def regOf (j:Nat):Code→Option Code
 | .region id ops draw=>if id=j then some (.region id ops draw) else none
 | .seq a b=>match regOf j a with
   | some c=>some c
   | none=>regOf j b
 | .cond _ a b=>match regOf j a with
   | some c=>some c
   | none=>regOf j b
 | .block _ c=>regOf j c
 | .loop c=>regOf j c
 | _=>none
def tTidyS (A:Ann) (id:Nat) (st:St):Option St:=
 match ptidy A id st with
 | none=>none
 | some (st',ps)=>chkL ps (force st' some)
def tReg (R:Fr) (T:Dic) (j:Nat) (st:St):Option St:=
 match R.fn.body with
 | some c=>match regOf j c with
   | some (.region id ops draw)=>tPre (R.F R.f) id st fun st0=>zn7 R.P R.C R.F T (R.F R.f).lits R.fn.ntmps ops draw st0 fun st1=>tTidyS (R.F R.f) id st1
   | _=>none
 | none=>none
theorem tReg_sound {R:Fr} {T:Dic} {j id:Nat} {ops:Array Oper} {draw:Bool} {c:Code} {st st':St} (hb:R.fn.body=some c) (hc:regOf j c=some (.region id ops draw)) (h:tReg R T j st=some st') (it:Go.Ab.Loop):aeval R.P R.C (R.F R.f) R.fn.ntmps (callw R.P R.C R.F) it (.region id ops draw) st=some (.normal,st'):=by
 unfold tReg at h; simp only [hb,hc] at h; obtain ⟨st1,h1,h2⟩:=zmK (zrd h); unfold tTidyS at h2; split at h2
 · cases h2
 rename_i st2 ps hp; obtain ⟨hh,h3⟩:=zci h2; rw [zku] at h3; injection h3 with h3; subst h3; simp only [aeval,h1]; rw [zpe hp hh]
def blank:Mem→Mem
 | []=>[]
 | (k,_) :: r=>(k,⟨0,0,[],false⟩) :: blank r
theorem zrI:∀ ms:Mem,(blank ms).map (·.1)=ms.map (·.1)
 | []=>rfl
 | (k,e) :: r=>by simp only [blank,List.map_cons,zrI r]
theorem zlC (is:List Nat) (m:Mem):∀ ms:Mem,zdQ is m (blank ms)=zdQ is m ms
 | []=>rfl
 | (k,e) :: r=>by simp only [blank,zdQ,zlC is m r]
theorem zsu (m:Mem) (ms:Mem):zgy m (blank ms)=zgy m ms:=by unfold zgy; rw [zrI,zlC]
theorem callw_run {P:Program} {C:Cfg} {F:AnnF} {f:FuncId} {fn:Func} {c:Code} {args:List AV} {ms:Mem} {r:AV×Mem} (ho:C.orc f args ms=none) (hf:P.funcs[f]?=some fn) (hb:fn.body=some c) (he:enters P f=true)
  (hN:decide (fn.ntmps≤1000∧args.length≤fn.ntmps)=true) (h:run ⟨P,C,F,f,fn,blank ms⟩ [.code c] .normal { t:=argTab 0 args,m:=ms }=some r):callw P C F f args ms=some r:=by
 have hn:=of_decide_eq_true hN; refine callw_of ho hf hb he hn.1 hn.2 ?_; simp only [run,Fr.ev] at h; split at h
 · rename_i e st hq; rw [hq]; unfold zhL at h ⊢; simp only [zsu] at h; exact h
 · cases h
theorem zmg (R:Fr) (T:Dic) (cut:List Nat) {args:List AV} {ms:Mem} {r:AV×Mem} {x:Option (AV×Mem)} (ho:R.C.orc R.f args ms=none) (hf:R.P.funcs[R.f]?=some R.fn) (he:enters R.P R.f=true)
  (hN:decide (R.fn.ntmps≤1000∧args.length≤R.fn.ntmps)=true) (hm:R.ms=blank ms)
  (hx:tGo R T cut 100000 false (ptK R.fn 0) { t:=argTab 0 args,m:=ms }=x) (h:x=some r):callw R.P R.C R.F R.f args ms=some r:=by
 have h':=zsk _ _ _ _ _ (hx.trans h); unfold enters at he; rw [hf] at he; simp only [Bool.and_eq_true] at he; obtain ⟨c,hc⟩:=Option.isSome_iff_exists.1 he.1; have he':enters R.P R.f=true:=by unfold enters; rw [hf]; simp only [Bool.and_eq_true]; exact he
 refine callw_run ho hf hc he' hN ?_; unfold ptK at h'; simp only [hc] at h'; rw [← hm]; exact h'
end Go.Ab
namespace Go.Ab
open Go.RowKit
section
open Classical
abbrev TyD.of (α:Type) (enc:α→List AV) (inj:∀ x y,enc x=enc y→x=y):TyD where
 α:=α
 enc:=enc
 dec:=fun c=>if h:∃ x,c=enc x then some (Classical.choose h) else none
 ok:=fun c x h=>by
  split at h
  · rename_i hx; injection h with h; rw [← h]; exact Classical.choose_spec hx
  · cases h
 de:=fun x=>by
  have h:∃ y,enc x=enc y:=⟨x,rfl⟩
  rw [dif_pos h]; exact congrArg some (inj _ _ (Classical.choose_spec h)).symm
abbrev RD.of (α:Type) (enc:α→AV×Mem) (inj:∀ x y,enc x=enc y→x=y):RD where
 α:=α
 enc:=enc
 dec:=fun c=>if h:∃ x,c=enc x then some (Classical.choose h) else none
 ok:=fun c x h=>by
  split at h
  · rename_i hx; injection h with h; rw [← h]; exact Classical.choose_spec hx
  · cases h
 de:=fun x=>by
  have h:∃ y,enc x=enc y:=⟨x,rfl⟩
  rw [dif_pos h]; exact congrArg some (inj _ _ (Classical.choose_spec h)).symm
end
theorem TyD.inj (D:TyD) {x y:D.α} (h:D.enc x=D.enc y):x=y:=by have h1:=D.de x; rw [h,D.de y] at h1; injection h1 with h1; exact h1.symm
theorem TyD.minj (D:TyD) {l l':List D.α}:(List.map D.enc l=List.map D.enc l')=(l=l'):=by
 refine propext ⟨fun h=>?_,fun h=>by rw [h]⟩
 induction l generalizing l' with
 | nil=>cases l' with
   | nil=>rfl
   | cons a r=>simp at h
 | cons a r ih=>cases l' with
   | nil=>simp at h
   | cons b s=>simp only [List.map_cons,List.cons.injEq] at h; rw [D.inj h.1,ih h.2]
abbrev dRaw:TyD:={ α:=List AV,enc:=id,dec:=some,ok:=fun c x h=>by injection h,de:=fun _=>rfl }
def zad:Int→List AV:=fun x=>[I x]
abbrev zaI:TyD:=TyD.of Int zad (by intro x y h; simpa [zad] using h)
def nI_i32:Int→List AV:=fun x=>[.v (.int .i32 x)]
abbrev dI_i32:TyD:=TyD.of Int nI_i32 (by intro x y h; simpa [nI_i32] using h)
def nI_u64:Int→List AV:=fun x=>[.v (.int .u64 x)]
abbrev dI_u64:TyD:=TyD.of Int nI_u64 (by intro x y h; simpa [nI_u64] using h)
def nI_u32:Int→List AV:=fun x=>[.v (.int .u32 x)]
abbrev dI_u32:TyD:=TyD.of Int nI_u32 (by intro x y h; simpa [nI_u32] using h)
def nI_u8:Int→List AV:=fun x=>[.v (.int .u8 x)]
abbrev dI_u8:TyD:=TyD.of Int nI_u8 (by intro x y h; simpa [nI_u8] using h)
def nBool:Bool→List AV:=fun x=>[B x]
abbrev dBool:TyD:=TyD.of Bool nBool (by intro x y h; simpa [nBool] using h)
def nStr:ByteArray→List AV:=fun x=>[.v (.string x)]
abbrev dStr:TyD:=TyD.of ByteArray nStr (by intro x y h; simpa [nStr] using h)
def nPtr:Option Addr→List AV:=fun x=>[.v (.pointer x)]
abbrev dPtr:TyD:=TyD.of (Option Addr) nPtr (by intro x y h; simpa [nPtr] using h)
abbrev rRaw:RD:={ α:=AV×Mem,enc:=id,dec:=some,ok:=fun c x h=>by injection h,de:=fun _=>rfl }
theorem zbV {β:Type} (D:TyD) (l:List D.α) (i:Nat) (k:D.α→Option β):elemD D (List.map D.enc l) i k=(l[i]?).bind k:=by unfold elemD; rw [List.getElem?_map]; cases l[i]? <;> simp [D.de]
@[simp] theorem zcs {β:Type} (l:List Int) (i:Nat) (k:Int→Option β):elemD zaI (List.map zad l) i k=(l[i]?).bind k:=zbV zaI l i k
@[simp] theorem elemD_Ptr {β:Type} (l:List (Option Addr)) (i:Nat) (k:Option Addr→Option β):elemD dPtr (List.map nPtr l) i k=(l[i]?).bind k:=zbV dPtr l i k
@[simp] theorem zdJ {β:Type} (l:List ByteArray) (i:Nat) (k:ByteArray→Option β):elemD dStr (List.map nStr l) i k=(l[i]?).bind k:=zbV dStr l i k
theorem zax {β:Type} {p:Prop} [Decidable p] (h:p) (t e:Option β):brn (decide p) t e=t:=by rw [brn_dec,if_pos h]
theorem zaz {β:Type} {p:Prop} [Decidable p] (h:¬p) (t e:Option β):brn (decide p) t e=e:=by rw [brn_dec,if_neg h]
abbrev w64 (n:Int):Int:=IntKind.wrap .i64 n
abbrev wu64 (n:Int):Int:=IntKind.wrap .u64 n
theorem w64_id {n:Int} (h1:-9223372036854775808≤n) (h2:n < 9223372036854775808):w64 n=n:=by simp only [w64,IntKind.wrap,IntKind.bits,IntKind.signed,show ((2:Int) ^ 64)=18446744073709551616 from rfl,show ((2:Int) ^ (64 - 1))=9223372036854775808 from rfl,Bool.true_and,decide_eq_true_eq]; split <;> omega
theorem zlZ {n:Int} (h1:0≤n) (h2:n < 18446744073709551616):wu64 n=n:=by simp only [wu64,IntKind.wrap,IntKind.bits,IntKind.signed,show ((2:Int) ^ 64)=18446744073709551616 from rfl,Bool.false_and]; simp only [Bool.false_eq_true,if_false]; omega
theorem zbR {α:Type} (l:List α) (M:Nat→List α→Prop) (h0:M l.length []) (hs:∀ (i:Nat) (x:α) (r:List α) (hi:i < l.length),l[i]=x→l.drop (i+1)=r→M (i+1) r→M i (x :: r)):M 0 l:=by
 have key:∀ (k i:Nat),i+k=l.length→M i (l.drop i):=by
  intro k
  induction k with
  | zero=>intro i hi; rw [List.drop_eq_nil_of_le (by omega),show i=l.length by omega]; exact h0
  | succ k ih =>
    intro i hi; have hlt:i < l.length:=by omega
    rw [List.drop_eq_getElem_cons hlt]; exact hs i _ _ hlt rfl rfl (ih (i+1) (by omega))
 have:=key l.length 0 (by omega); simpa using this
section
variable {P:Program} {kt:TypeId} {κ ν:Type} [DecidableEq κ] {kenc:κ→AV} {venc:ν→AV}
end
structure VD where
 α:Type
 enc:α→AV
 inj:∀ x y,enc x=enc y→x=y
structure LD where
 α:Type
 enc:α→List AV
 inj:∀ x y,enc x=enc y→x=y
structure MD where
 α:Type
 enc:α→Mem
 inj:∀ x y,enc x=enc y→x=y
abbrev vI (k:IntKind):VD:=⟨Int,fun x=>.v (.int k x),fun x y h=>by simpa using h⟩
abbrev vBool:VD:=⟨Bool,fun x=>.v (.bool x),fun x y h=>by simpa using h⟩
abbrev vStr:VD:=⟨ByteArray,fun x=>.v (.string x),fun x y h=>by simpa using h⟩
abbrev vAgg (D:TyD):VD:=⟨D.α,fun x=>.agg (D.enc x),fun x y h=>D.inj (by simpa using h)⟩
abbrev vSl (z:Nat) (D:TyD):VD:=⟨List D.α,fun x=>.sl z (List.map D.enc x),fun x y h=>by simpa only [AV.sl.injEq,true_and,TyD.minj] using h⟩
abbrev vNew (z:Nat) (e:TypeId) (D:TyD):VD:=⟨List D.α,fun x=>.new z e (List.map D.enc x),fun x y h=>by simpa only [AV.new.injEq,true_and,TyD.minj] using h⟩
abbrev vNewp (z:Nat) (e:TypeId) (D:TyD):VD:=⟨D.α,fun x=>.newp z e (D.enc x),fun x y h=>D.inj (by simpa using h)⟩
abbrev lOne (V:VD):LD:=⟨V.α,fun x=>[V.enc x],fun x y h=>V.inj x y (by simpa using h)⟩
abbrev lCons (V:VD) (L:LD):LD:=⟨V.α×L.α,fun x=>V.enc x.1 :: L.enc x.2,fun x y h=>by
 simp only [List.cons.injEq] at h
 exact Prod.ext (V.inj _ _ h.1) (L.inj _ _ h.2)⟩
abbrev mBox (k z:Nat) (e:TypeId) (D:TyD):MD:=⟨D.α,fun x=>[(k,⟨z,e,[D.enc x],true⟩)],fun x y h=>D.inj (by simpa using h)⟩
abbrev r0:RD:=RD.of Unit (fun _=>(.tup [],[])) (fun x y _=>by cases x; cases y; rfl)
abbrev r1 (V:VD):RD:=RD.of V.α (fun x=>(V.enc x,[])) (fun x y h=>V.inj x y (by simpa using h))
abbrev rT (L:LD):RD:=RD.of L.α (fun x=>(.tup (L.enc x),[])) (fun x y h=>L.inj x y (by simpa using h))
abbrev r1M (V:VD) (M:MD):RD:=RD.of (V.α×M.α) (fun x=>(V.enc x.1,M.enc x.2)) (fun x y h=>by
 simp only [Prod.mk.injEq] at h
 exact Prod.ext (V.inj _ _ h.1) (M.inj _ _ h.2))
abbrev rTM (L:LD) (M:MD):RD:=RD.of (L.α×M.α) (fun x=>(.tup (L.enc x.1),M.enc x.2)) (fun x y h=>by
 simp only [Prod.mk.injEq,AV.tup.injEq] at h
 exact Prod.ext (L.inj _ _ h.1) (M.inj _ _ h.2))
def altD:List (Nat×RD)→Nat→RD
 | [],_=>rRaw
 | (j,d) :: r,k=>if k=j then d else altD r k
def Dic.of (ty:List TyD) (res:List RD) (alt:List (Nat×RD):=[]):Dic:={ ty:=fun t=>ty.getD t dRaw,res:=fun f=>if f < 100000 then res.getD f rRaw else altD alt (f - 100000) }
end Go.Ab
namespace Go.Ab
open Go.RowKit
variable [Dr]
theorem block_lt {w:World} {a:Addr} {v:Value} (h:w.cell? a=some v):a.block < w.heap.size:=by
 by_cases hb:a.block < w.heap.size
 · exact hb
 · have:w.heap[a.block]?=none:=Array.getElem?_eq_none (by omega); unfold World.cell? at h; rw [this] at h; simp at h
theorem zrt {P:Program} {C:Cfg} {F:AnnF} {f:FuncId} {args:List AV} {x:Value} {ms:Mem} (h:callw P C F f args []=some (.v x,ms)) (w:World) (vals:Array Value) (hl:vals.size=args.length)
  (hr:∀ (k:Nat) (a:AV) (y:Value),args[k]?=some a→vals[k]?=some y→VRel (fun g=>g < w.heap.size) (fun _=>none) (fun _=>False) w a y) (hk:Dr.ok (fun g=>g < w.heap.size) w:=by exact trivial):Calls P f vals w fun e w'=>e=.returned x∧Below w.heap.size w w':=by
 obtain ⟨_,h2⟩:=zpT f args [] (.v x) ms h
 have h3:=h2 w (fun g=>g < w.heap.size) (fun _=>none) vals hl (fun g hg=>hg) hk (fun k a y ha hy=>(hr k a y ha hy).mono (fun _ h=>h) (fun _ _=>rfl) (fun _ h=>h.elim) (fun _ h=>h.elim))
  (fun b ent hb=>by simp [look] at hb) (fun b b' g c c' hb=>by simp [Dm,look] at hb)
 refine h3.mono ?_
 rintro e w' ⟨y,S',_,rfl,hos,htape,hout,hsz,hold,hsup,_,_,_,_,_,_,hres⟩
 have hy:y=x:=by have:CRel S' w' (.v x) y:=hres; cases this; rfl
 subst hy; exact ⟨rfl,hos,htape,hout.1,hsz,fun g hg=>hold g hg (fun b c hb=>by simp [Dm,look] at hb)⟩
end Go.Ab
namespace Go.Ab
open Go.RowKit
variable [Dr]
section
variable {w0:World} {S0:Nat→Prop} {κ0:Kap} {K:Nat→Prop} {N:Nat} {S:Nat→Prop} {κ:Kap} {T:Nat→AV} {L:Nat→Option Ent} {a:Act} {w:World}
theorem Good.rebase (h:Good w0 S0 κ0 K N S κ T L a w):Good w S κ (fun b=>(L b).isSome=true) N S κ T L a w where
 base:=⟨h.okw,fun g hg=>⟨h.slt g hg,fun b c hl hk=>by
  obtain ⟨ent,he⟩:=Option.isSome_iff_exists.1 hl; have:=h.ents b ent he; rw [hk] at this
  exact this.notS hg⟩⟩
 defers:=h.defers
 size:=h.size
 os:=rfl
 tape:=rfl
 output:=.of
 grow:=Nat.le_refl _
 old:=fun _ _ _=>rfl
 sup:=fun _ h=>h
 snew:=fun _ h=>.inl h
 slt:=h.slt
 par:=fun _ _=>rfl
 parK:=fun _ _ h=>h
 own:=fun b _ c hb hl hk=>.inr ⟨b,c,hb,hl,hk⟩
 inj:=h.inj
 ents:=h.ents
 slots:=h.slots
theorem Good.mine (h:Good w0 S0 κ0 K N S κ T L a w) {g:Nat} (hm:Mine w κ (fun b=>(L b).isSome=true) g):Mine w0 κ0 K g:=by
 rcases hm with hm | ⟨b,c,hb,hl,hk⟩
 · exact .inl (Nat.le_trans h.grow hm)
 · exact h.own b g c hb hl hk
theorem Good.join {S':Nat→Prop} {κ':Kap} {T':Nat→AV} {L':Nat→Option Ent} {a':Act} {w':World} (h:Good w0 S0 κ0 K N S κ T L a w) (h2:Good w S κ (fun b=>(L b).isSome=true) N S' κ' T' L' a' w'):Good w0 S0 κ0 K N S' κ' T' L' a' w' where
 base:=h.base
 defers:=h2.defers
 size:=h2.size
 os:=h2.os.trans h.os
 tape:=h2.tape.trans h.tape
 output:=h.output.trans h2.output
 grow:=Nat.le_trans h.grow h2.grow
 old:=fun g hg hK=>by
  rw [h2.old g (Nat.lt_of_lt_of_le hg h.grow) ?_]
  · exact h.old g hg hK
  · intro b c hl hk; by_cases hb:b < 1000
    · rcases h.own b g c hb hl hk with q | ⟨b',c',_,q2,q3⟩
      · omega
      · exact hK b' c' q2 q3
    · exact hK b c (h.parK b (by omega) hl) (by rw [← h.par b (by omega)]; exact hk)
 sup:=fun g hg=>h2.sup g (h.sup g hg)
 snew:=fun g hg=>by
  rcases h2.snew g hg with q | q
  · exact h.snew g q
  · exact .inr (h.mine q)
 slt:=h2.slt
 par:=fun b hb=>(h2.par b hb).trans (h.par b hb)
 parK:=fun b hb hl=>h.parK b hb (h2.parK b hb hl)
 own:=fun b g c hb hl hk=>h.mine (h2.own b g c hb hl hk)
 inj:=h2.inj
 ents:=h2.ents
 slots:=h2.slots
def Far (S:Nat→Prop) (κ:Kap) (L:Nat→Option Ent) (w:World) (g:Nat):Prop:=g < w.heap.size∧¬ S g∧∀ b c,(L b).isSome=true→κ b≠some (g,c)
theorem Good.far {S':Nat→Prop} {κ':Kap} {T':Nat→AV} {L':Nat→Option Ent} {a':Act} {w':World} (h2:Good w S κ (fun b=>(L b).isSome=true) N S' κ' T' L' a' w') {g:Nat} (hg:Far S κ L w g):w'.heap[g]?=w.heap[g]?∧Far S' κ' L' w' g:=by
 obtain ⟨h1,h3,h4⟩:=hg
 have hno:¬ Mine w κ (fun b=>(L b).isSome=true) g:=fun hm=>by
  rcases hm with hm | ⟨b,c,_,hl,hk⟩
  · omega
  · exact h4 b c hl hk
 refine ⟨h2.old g h1 h4,Nat.lt_of_lt_of_le h1 h2.grow,fun hs=>?_,fun b c hl hk=>?_⟩
 · rcases h2.snew g hs with q | q
   · exact h3 q
   · exact hno q
 · by_cases hb:b < 1000
   · exact hno (h2.own b g c hb hl hk)
   · exact h4 b c (h2.parK b (by omega) hl) (by rw [← h2.par b (by omega)]; exact hk)
theorem leaf {P:Program} {C:Cfg} {A:Ann} {call:zaX} {n:Nat} (hcall:CallOK P call) (hN:N≤1000) {c:Code} {st st':St} {ex:Ex} (hev:aeval P C A N call (iter n) c st=some (ex,st'))
  (h:Good w0 S0 κ0 K N S κ (fs st).1 (fs st).2 a w) {Q:Exit→Act→World→Prop}
  (hQ:∀ a' w' S' κ',Good w0 S0 κ0 K N S' κ' (fs st').1 (fs st').2 a' w'→(∀ g,S g→S' g)→(∀ g,Far S κ (fs st).2 w g→w'.heap[g]?=w.heap[g]?∧Far S' κ' (fs st').2 w' g)→(∀ g,S g→w'.heap[g]?=w.heap[g]?)→Q ex.toExit a' w'):c.wp P Q a w:=by
 refine wp_mono (zoW hcall hN c st ex st' hev a w ⟨S,κ,h.rebase⟩) ?_
 rintro e a' w' ⟨rfl,S',κ',hg⟩
 refine hQ a' w' S' κ' (h.join hg) hg.sup (fun g hf=>hg.far hf) (fun g hs=>hg.old g (h.slt g hs) (fun b c hl hk=>?_)); obtain ⟨ent,he⟩:=Option.isSome_iff_exists.1 hl; have:=h.ents b ent he; rw [hk] at this; exact this.notS hs
theorem leafR {R:Fr} {T:Dic} {j id:Nat} {ops:Array Oper} {draw:Bool} {c:Code} {st st':St} (hb:R.fn.body=some c) (hc:regOf j c=some (.region id ops draw)) (ht:tReg R T j st=some st') (hN:R.fn.ntmps≤1000)
  (h:Good w0 S0 κ0 K R.fn.ntmps S κ (fs st).1 (fs st).2 a w) {Q:Exit→Act→World→Prop}
  (hQ:∀ a' w' S' κ',Good w0 S0 κ0 K R.fn.ntmps S' κ' (fs st').1 (fs st').2 a' w'→(∀ g,S g→S' g)→(∀ g,Far S κ (fs st).2 w g→w'.heap[g]?=w.heap[g]?∧Far S' κ' (fs st').2 w' g)→(∀ g,S g→w'.heap[g]?=w.heap[g]?)→Q .normal a' w'):(Code.region id ops draw).wp R.P Q a w:=
 leaf (n:=0) (zpT (C:=R.C) (A:=R.F)) hN (tReg_sound hb hc ht (iter 0)) h hQ
theorem Good.forget {T':Nat→AV} (h:Good w0 S0 κ0 K N S κ T L a w) (hT:∀ k,T' k=T k∨T' k=.bot):Good w0 S0 κ0 K N S κ T' L a w:=
 { h with
   slots:=fun k=>by
    rcases hT k with e | e
    · rw [e]; exact h.slots k
    · rw [e]; exact .bot _ }
structure FarObj (S:Nat→Prop) (w:World) (κd:Kap) (Ld:Nat→Option Ent):Prop where
 ents:∀ b ent,Ld b=some ent→EntAt S κd (fun b=>(Ld b).isSome=true) w (κd b) ent
 inj:∀ b b' g c c',(Ld b).isSome=true→(Ld b').isSome=true→κd b=some (g,c)→κd b'=some (g,c')→b=b'
theorem FarObj.mono {S':Nat→Prop} {w':World} {κd:Kap} {Ld:Nat→Option Ent} (h:FarObj S w κd Ld) (hS:∀ g,S g→S' g) (hw:∀ g,S g→w'.heap[g]?=w.heap[g]?)
  (hd:∀ b g c,(Ld b).isSome=true→κd b=some (g,c)→w'.heap[g]?=w.heap[g]?∧¬ S' g):FarObj S' w' κd Ld where
 ents:=fun b ent hb=>(h.ents b ent hb).mono hS hw (fun _ h=>h) (fun _ _=>rfl) (fun g c hk=>hd b g c (by simp [hb]) hk)
 inj:=h.inj
def overK (κ κd:Kap) (Ld:Nat→Option Ent):Kap:=fun b=>if (Ld b).isSome=true then κd b else κ b
def overL (L Ld:Nat→Option Ent):Nat→Option Ent:=fun b=>if (Ld b).isSome=true then Ld b else L b
theorem Good.focus (h:Good w0 S0 κ0 K N S κ T L a w) {κd:Kap} {Ld:Nat→Option Ent} (hF:FarObj S w κd Ld) (hn:∀ b,(Ld b).isSome=true→b < 1000∧L b=none)
  (hfar:∀ b g c,(Ld b).isSome=true→κd b=some (g,c)→Far S κ L w g∧Mine w0 κ0 K g):Good w0 S0 κ0 K N S (overK κ κd Ld) T (overL L Ld) a w:=by
 have hD1:∀ b,(L b).isSome=true→(overL L Ld b).isSome=true:=fun b hb=>by
  unfold overL; split
  · assumption
  · exact hb
 have hκ1:∀ b,(L b).isSome=true→overK κ κd Ld b=κ b:=fun b hb=>by unfold overK; rw [if_neg (fun hd=>by rw [(hn b hd).2] at hb; cases hb)]
 have hD2:∀ b,(Ld b).isSome=true→(overL L Ld b).isSome=true:=fun b hb=>by unfold overL; rw [if_pos hb]; exact hb
 have hκ2:∀ b,(Ld b).isSome=true→overK κ κd Ld b=κd b:=fun b hb=>if_pos hb
 have hcase:∀ b,(overL L Ld b).isSome=true→((Ld b).isSome=true∧overL L Ld b=Ld b∧overK κ κd Ld b=κd b)∨(¬ (Ld b).isSome=true∧(L b).isSome=true∧overL L Ld b=L b∧overK κ κd Ld b=κ b):=fun b hb=>by
  by_cases hd:(Ld b).isSome=true
  · exact .inl ⟨hd,if_pos hd,if_pos hd⟩
  · unfold overL at hb; rw [if_neg hd] at hb; exact .inr ⟨hd,hb,if_neg hd,if_neg hd⟩
 exact { h with
  par:=fun b hb=>by rw [← h.par b hb]; exact if_neg (fun hd=>by have:=(hn b hd).1; omega)
  parK:=fun b hb hl=>by
   rcases hcase b hl with ⟨hd,_⟩ | ⟨_,hl,_⟩
   · have:=(hn b hd).1; omega
   · exact h.parK b hb hl
  own:=fun b g c hb hl hk=>by
   rcases hcase b hl with ⟨hd,_,e⟩ | ⟨_,hl,_,e⟩
   · rw [e] at hk; exact (hfar b g c hd hk).2
   · rw [e] at hk; exact h.own b g c hb hl hk
  inj:=fun b b' g c c' hl hl' hk hk'=>by
   rcases hcase b hl with ⟨hd,_,e⟩ | ⟨_,hl,_,e⟩
   · rcases hcase b' hl' with ⟨hd',_,e'⟩ | ⟨_,hl',_,e'⟩
     · rw [e] at hk; rw [e'] at hk'; exact hF.inj b b' g c c' hd hd' hk hk'
     · rw [e] at hk; rw [e'] at hk'; exact absurd hk' ((hfar b g c hd hk).1.2.2 b' c' hl')
   · rcases hcase b' hl' with ⟨hd',_,e'⟩ | ⟨_,hl',_,e'⟩
     · rw [e] at hk; rw [e'] at hk'; exact absurd hk ((hfar b' g c' hd' hk').1.2.2 b c hl)
     · rw [e] at hk; rw [e'] at hk'; exact h.inj b b' g c c' hl hl' hk hk'
  ents:=fun b ent hb=>by
   rcases hcase b (by simp [hb]) with ⟨hd,e1,e2⟩ | ⟨hd,hl,e1,e2⟩
   · rw [e1] at hb; rw [e2]; have hE:=hF.ents b ent hb; exact hE.mono (fun _ h=>h) (fun _ _=>rfl) hD2 hκ2 (fun g c hk=>⟨rfl,(hfar b g c hd hk).1.2.1⟩)
   · rw [e1] at hb; rw [e2]; have hE:=h.ents b ent hb; exact hE.mono (fun _ h=>h) (fun _ _=>rfl) hD1 hκ1 (fun g c hk=>⟨rfl,by rw [hk] at hE; exact hE.notS⟩)
  slots:=fun k=>(h.slots k).mono (fun _ h=>h) (fun _ _=>rfl) hD1 hκ1 }
theorem Good.thing (h:Good w0 S0 κ0 K N S κ T L a w) {Ld:Nat→Option Ent} (hd:∀ b ent,Ld b=some ent→L b=some ent)
  (hc:∀ b ent,Ld b=some ent→ent.box=true→∀ cs∈ent.es,∀ x∈cs,∀ v,VRel S κ (fun b=>(L b).isSome=true) w x v→VRel S κ (fun b=>(Ld b).isSome=true) w x v):FarObj S w κ Ld where
 ents:=fun b ent hb=>by have hE:=h.ents b ent (hd b ent hb); exact ent_tail hE (fun _ h=>h) (fun g c hk=>by rw [hk] at hE; exact hE.notS) (fun hbx cs hcs x hx v hv=>hc b ent hb hbx cs hcs x hx v hv)
 inj:=fun b b' g c c' hb hb'=>by obtain ⟨e,he⟩:=Option.isSome_iff_exists.1 hb; obtain ⟨e',he'⟩:=Option.isSome_iff_exists.1 hb'; exact h.inj b b' g c c' (by simp [hd b e he]) (by simp [hd b' e' he'])
theorem Good.thingFar (h:Good w0 S0 κ0 K N S κ T L a w) {Ld L':Nat→Option Ent} (hd:∀ b ent,Ld b=some ent→L b=some ent) (hL:∀ b,(L' b).isSome=true→(L b).isSome=true∧¬ (Ld b).isSome=true):∀ b g c,(Ld b).isSome=true→κ b=some (g,c)→Far S κ L' w g∧(b < 1000→Mine w0 κ0 K g):=fun b g c hb hk=>by obtain ⟨e,he⟩:=Option.isSome_iff_exists.1 hb; have hE:=h.ents b e (hd b e he); rw [hk] at hE; refine ⟨⟨hE.lt,hE.notS,fun b' c' hl' hk'=>?_⟩,fun hb'=>h.own b g c hb' (by simp [hd b e he]) hk⟩; have:=h.inj b b' g c c' (by simp [hd b e he]) (hL b' hl').1 hk hk'; subst this; exact (hL b hl').2 hb
end
end Go.Ab
namespace Go.Ab
open Go.RowKit
variable [Dr]
section
variable {w0:World} {S0:Nat→Prop} {κ0:Kap} {K:Nat→Prop} {N:Nat} {S S':Nat→Prop} {κ κ':Kap} {a:Act} {w w':World} {st:St}
abbrev GoodS (w0:World) (S0:Nat→Prop) (κ0:Kap) (K:Nat→Prop) (N:Nat) (S:Nat→Prop) (κ:Kap) (st:St) (a:Act) (w:World):Prop:=Good w0 S0 κ0 K N S κ (get st.t) (look st.m) a w
theorem GoodS.del (h:GoodS w0 S0 κ0 K N S κ st a w) (b:Nat):GoodS w0 S0 κ0 K N S κ (del b st) a w:=by
 have:=Good.del h b; have e1:get (Ab.del b st).t=fun k=>(get st.t k).kill b 4:=funext fun k=>zgk b st.t k
 have e2:look (Ab.del b st).m=killL b (look st.m):=funext fun c=>zdn b st.m c
 unfold GoodS; rw [e1,e2]; exact this
theorem GoodS.ren (h:GoodS w0 S0 κ0 K N S κ st a w) {b s:Nat} (hb:b < 1000) (hs:s < 1000) (hbs:b≠s) (hL:look st.m s=none):GoodS w0 S0 κ0 K N S (fun c=>if c=s then κ b else κ c) (renS b s st) a w:=by
 have:=Good.ren h hb hs hbs hL; have e1:get (renS b s st).t=fun k=>(get st.t k).ren b s 4:=funext fun k=>zp6 b s st.t k
 have e2:look (renS b s st).m=renL b s (look st.m):=funext fun c=>znK hbs st.m c hL
 unfold GoodS; rw [e1,e2]; exact this
theorem get_keep (t:Tab):∀ (ks:List Nat) (j:Nat),get (ks.map fun k=>(k,get t k)) j=get t j∨get (ks.map fun k=>(k,get t k)) j=.bot
 | [],_=>.inr rfl
 | k :: ks,j=>by
   simp only [List.map_cons,get]; split
   · rename_i e; subst e; exact .inl rfl
   · exact get_keep t ks j
def trim (ks ds:List Nat) (st:St):St:=
 let s:=ds.foldl (fun s b=>del b s) st
 { t:=ks.map fun k=>(k,get s.t k),m:=sortM s.m }
theorem GoodS.dels:∀ (ds:List Nat) {st:St},GoodS w0 S0 κ0 K N S κ st a w→GoodS w0 S0 κ0 K N S κ (ds.foldl (fun s b=>Ab.del b s) st) a w
 | [],_,h=>h
 | b :: ds,_,h=>GoodS.dels ds (h.del b)
theorem GoodS.trim (h:GoodS w0 S0 κ0 K N S κ st a w) (ks ds:List Nat):GoodS w0 S0 κ0 K N S κ (trim ks ds st) a w:=by
 have h1:=GoodS.dels ds h; have e2:look (Ab.trim ks ds st).m=look (ds.foldl (fun s b=>Ab.del b s) st).m:=funext fun c=>zjT _ c
 unfold GoodS; rw [e2]; exact Good.forget h1 (fun k=>get_keep _ ks k)
theorem GoodS.set (h:GoodS w0 S0 κ0 K N S κ st a w) (k:Nat) (x:AV) (hx:VRel S κ (fun b=>(look st.m b).isSome=true) w x (a.tmps.getD k undef)):GoodS w0 S0 κ0 K N S κ { st with t:=(k,x) :: st.t } a w:=
 { h with
   slots:=fun j=>by
    simp only [get]; split
    · rename_i e; subst e; exact hx
    · exact h.slots j }
theorem look_app:∀ (m1 m2:Mem) (b:Nat),look (m1++m2) b=if (look m1 b).isSome=true then look m1 b else look m2 b
 | [],m2,b=>by simp [look]
 | (j,e) :: r,m2,b=>by
   simp only [List.cons_append,look]; by_cases hb:b=j
   · simp [hb]
   · simp only [if_neg hb]; exact look_app r m2 b
theorem GoodS.focus {t:Tab} {m md:Mem} {κd:Kap} (h:GoodS w0 S0 κ0 K N S κ ⟨t,m⟩ a w) (hF:FarObj S w κd (look md)) (hn:∀ b,(look md b).isSome=true→b < 1000∧look m b=none)
  (hfar:∀ b g c,(look md b).isSome=true→κd b=some (g,c)→Far S κ (look m) w g∧Mine w0 κ0 K g):GoodS w0 S0 κ0 K N S (overK κ κd (look md)) ⟨t,md++m⟩ a w:=by
 have:=Good.focus h hF hn hfar; have e:look (md++m)=overL (look m) (look md):=funext fun b=>look_app md m b
 unfold GoodS; rw [e]; exact this
structure Objs (w0:World) (κ0:Kap) (K:Nat→Prop) (S:Nat→Prop) (κ:Kap) (L:Nat→Option Ent) (w:World) (M:Nat→Option Mem) (κd:Nat→Kap):Prop where
 obj:∀ i m,M i=some m→FarObj S w (κd i) (look m)
 far:∀ i m b g c,M i=some m→(look m b).isSome=true→κd i b=some (g,c)→Far S κ L w g∧Mine w0 κ0 K g
 dis:∀ i j m m' b b' g c c',M i=some m→M j=some m'→(look m b).isSome=true→(look m' b').isSome=true→κd i b=some (g,c)→κd j b'=some (g,c')→i=j
variable {M:Nat→Option Mem} {κd:Nat→Kap} {L L':Nat→Option Ent}
theorem Objs.none:Objs w0 κ0 K S κ L w (fun _=>none) κd where
 obj:=fun _ _ h=>by cases h
 far:=fun _ _ _ _ _ h=>by cases h
 dis:=fun _ _ _ _ _ _ _ _ _ h=>by cases h
theorem Objs.step (h:Objs w0 κ0 K S κ L w M κd) (hS:∀ g,S g→S' g) (hf:∀ g,Far S κ L w g→w'.heap[g]?=w.heap[g]?∧Far S' κ' L' w' g) (hw:∀ g,S g→w'.heap[g]?=w.heap[g]?):Objs w0 κ0 K S' κ' L' w' M κd where
 obj:=fun i m hi=>(h.obj i m hi).mono hS hw (fun b g c hb hk=>⟨(hf g (h.far i m b g c hi hb hk).1).1,(hf g (h.far i m b g c hi hb hk).1).2.2.1⟩)
 far:=fun i m b g c hi hb hk=>⟨(hf g (h.far i m b g c hi hb hk).1).2,(h.far i m b g c hi hb hk).2⟩
 dis:=h.dis
theorem Objs.kap (h:Objs w0 κ0 K S κ L w M κd) (hk:∀ b g c,(L' b).isSome=true→κ' b=some (g,c)→∃ b0 c0,(L b0).isSome=true∧κ b0=some (g,c0)):Objs w0 κ0 K S κ' L' w M κd where
 obj:=h.obj
 far:=fun i m b g c hi hb hkd=>by obtain ⟨⟨f1,f2,f3⟩,f4⟩:=h.far i m b g c hi hb hkd; refine ⟨⟨f1,f2,fun b' c' hl hk'=>?_⟩,f4⟩; obtain ⟨b0,c0,hb0,hk0⟩:=hk b' g c' hl hk'; exact f3 b0 c0 hb0 hk0
 dis:=h.dis
def only (ks:List Nat):AV→Bool
 | .v _ | .sl .. | .mp .. | .fp .. | .fa ..=>true
 | .row b _ _ _=>ks.contains b
 | .map b=>ks.contains b
 | .loc b _ _ _=>ks.contains b
 | _=>false
theorem only_sound {D D':Nat→Prop} {ks:List Nat} (hD:∀ b∈ks,D' b) {x:AV} {v:Value} (ho:only ks x=true) (h:VRel S κ D w x v):VRel S κ D' w x v:=by
 cases x with
 | v x=>cases h with | c h=>exact .c h
 | sl z es=>exact .c h.sl_inv
 | mp es=>exact .c h.mp_inv
 | fp cs=>exact .c h.fp_inv
 | fa z es=>exact .c h.fa_inv
 | row b z i n =>
   have hb:=hD b (by simpa [only] using ho)
   cases h with
   | c h=>cases h
   | row0 _ _ hd hk=>exact .row0 _ _ hb hk
   | row _ _ _ _ g c off' cap hd hk hn ho hc=>exact .row _ _ _ _ g c off' cap hb hk hn ho hc
 | map b=>have hb:=hD b (by simpa [only] using ho); obtain ⟨g,c,hd,hk,rfl⟩:=h.map_inv; exact .map b g c hb hk
 | loc b z i o=>have hb:=hD b (by simpa [only] using ho); obtain ⟨g,c,hd,hk,rfl⟩:=h.loc_inv; exact .loc b z i o g c hb hk
 | _=>cases ho
def onlyM (md:Mem):Bool:=md.all fun p=>!p.2.box || p.2.es.all fun cs=>cs.all (only (md.map (·.1)))
theorem ztO {D:Nat→Prop} {md:Mem} (h:onlyM md=true):∀ b ent,look md b=some ent→ent.box=true→∀ cs∈ent.es,∀ x∈cs,∀ v,VRel S κ D w x v→VRel S κ (fun b=>(look md b).isSome=true) w x v:=by intro b ent hb hbx cs hcs x hx v hv; have h1:=List.all_eq_true.1 h (b,ent) (zgn hb); simp only [hbx,Bool.not_true,Bool.false_or] at h1; have h2:=List.all_eq_true.1 (List.all_eq_true.1 h1 cs hcs) x hx; exact only_sound (fun b hb=>zeK (by simpa [ids] using hb)) h2 hv
theorem GoodS.start {args:List AV} {vals:Array Value} {ms:Mem} {N:Nat} (hvl:vals.size=args.length) (hN:args.length≤N) (hS:∀ g,S g→g < w.heap.size) (hk:Dr.ok S w)
  (hv:∀ (k:Nat) (a:AV) (x:Value),args[k]?=some a→vals[k]?=some x→VRel S κ (Dm ms) w a x) (hms:∀ b ent,look ms b=some ent→EntAt S κ (Dm ms) w (κ b) ent)
  (hinj:∀ b b' g c c',Dm ms b→Dm ms b'→κ b=some (g,c)→κ b'=some (g,c')→b=b'):GoodS w S κ (Dm ms) N S κ { t:=argTab 0 args,m:=ms } { tmps:=vals++Array.replicate (N - vals.size) undef,defers:=[] } w where
 base:=⟨hk,fun g hg=>⟨hS g hg,fun b c hl hκ=>by
    obtain ⟨ent,he⟩:=Option.isSome_iff_exists.1 hl; have:=hms b ent he; rw [hκ] at this
    exact this.notS hg⟩⟩
 defers:=rfl
 size:=by simp; omega
 os:=rfl
 tape:=rfl
 output:=.of
 grow:=Nat.le_refl _
 old:=fun _ _ _=>rfl
 sup:=fun _ h=>h
 snew:=fun _ h=>.inl h
 slt:=hS
 par:=fun _ _=>rfl
 parK:=fun _ _ h=>h
 own:=fun b g c' hb' hl hk=>.inr ⟨b,c',hb',hl,hk⟩
 inj:=hinj
 ents:=fun b ent he=>hms b ent he
 slots:=fun k=>by
  rw [zl3]; simp only [Nat.zero_le,if_true,Nat.sub_zero]
  cases hk:args[k]? with
  | none=>exact .bot _
  | some a =>
    have hlt:k < vals.size:=by have:=(List.getElem?_eq_some_iff.1 hk).1; omega
    have:(vals++Array.replicate (N - vals.size) undef).getD k undef=vals[k]:=by rw [Array.getD_eq_getD_getElem?,Array.getElem?_append,if_pos hlt,Array.getElem?_eq_getElem hlt]; rfl
    rw [this]; exact hv k a _ hk (Array.getElem?_eq_getElem hlt)
theorem zrX:∀ (ds:List Nat) (st:St) (b:Nat),(look (ds.foldl (fun s b=>del b s) st).m b).isSome=true→(look st.m b).isSome=true
 | [],_,_,h=>h
 | d :: ds,st,b,h=>by
   have h1:=zrX ds (del d st) b h; have h2:look (del d st).m b=killL d (look st.m) b:=zdn d st.m b; rw [h2] at h1; unfold killL at h1; split at h1
   · cases h1
   · cases hq:look st.m b with
     | none=>rw [hq] at h1; cases h1
     | some _=>rfl
theorem zrZ (ks ds:List Nat) (st:St) (b:Nat) (h:(look (trim ks ds st).m b).isSome=true):(look st.m b).isSome=true:=by have e:look (trim ks ds st).m b=look (ds.foldl (fun s b=>del b s) st).m b:=zjT _ b; rw [e] at h; exact zrX ds st b h
def Now (w0:World) (S0:Nat→Prop) (κ0:Kap) (K:Nat→Prop) (N:Nat) (M:Nat→Option Mem) (κd:Nat→Kap) (st:St) (a:Act) (w:World):Prop:=
 ∃ S κ,GoodS w0 S0 κ0 K N S κ st a w∧Objs w0 κ0 K S κ (look st.m) w M κd
theorem Now.trim {N:Nat} {M:Nat→Option Mem} {κd:Nat→Kap} {st st':St} (h:Now w0 S0 κ0 K N M κd st a w) (ks ds:List Nat) (e:trim ks ds st=st'):Now w0 S0 κ0 K N M κd st' a w:=by obtain ⟨S,κ,h1,h2⟩:=h; subst e; exact ⟨S,κ,h1.trim ks ds,h2.kap (fun b g c hl hk=>⟨b,c,zrZ ks ds st b hl,hk⟩)⟩
theorem Now.bool {N:Nat} {M:Nat→Option Mem} {κd:Nat→Kap} {st:St} (h:Now w0 S0 κ0 K N M κd st a w) {k:Nat} {b:Bool} (hk:get st.t k=.v (.bool b)):a.eval (.tmp k)=.bool b:=by obtain ⟨S,κ,h1,_⟩:=h; have:=h1.slots k; rw [hk] at this; exact this.v_inv
end
def opsAt (j:Nat) (c:Code):Array Oper:=match regOf j c with
 | some (.region _ o _)=>o
 | _=>#[]
def zlJ (j:Nat) (c:Code):Bool:=match regOf j c with
 | some (.region _ _ d)=>d
 | _=>false
end Go.Ab
namespace Go.Ab
open Go.RowKit
variable [Dr]
open Go.ChangeMaps (setBlock)
section
variable {w0:World} {S0:Nat→Prop} {κ0:Kap} {K:Nat→Prop} {N:Nat} {S S':Nat→Prop} {κ κ':Kap} {a:Act} {w w':World} {st st':St} {L L':Nat→Option Ent}
abbrev Sat2:=(Nat→Prop)→Kap→(Nat→Option Ent)→World→Prop
structure Stable (X:Sat2):Prop where
 step:∀ {S S':Nat→Prop} {κ κ':Kap} {L L':Nat→Option Ent} {w w':World},X S κ L w→(∀ g,S g→S' g)→(∀ g,Far S κ L w g→w'.heap[g]?=w.heap[g]?∧Far S' κ' L' w' g)→(∀ g,S g→w'.heap[g]?=w.heap[g]?)→X S' κ' L' w'
 kap:∀ {S:Nat→Prop} {κ κ':Kap} {L L':Nat→Option Ent} {w:World},X S κ L w→(∀ b g c,(L' b).isSome=true→κ' b=some (g,c)→∃ b0 c0,(L b0).isSome=true∧κ b0=some (g,c0))→X S κ' L' w
theorem Stable.none:Stable fun _ _ _ _=>True:=⟨fun _ _ _ _=>trivial,fun _ _=>trivial⟩
def NowP (w0:World) (S0:Nat→Prop) (κ0:Kap) (K:Nat→Prop) (N:Nat) (X:Sat2) (st:St) (a:Act) (w:World):Prop:=∃ S κ,GoodS w0 S0 κ0 K N S κ st a w∧X S κ (look st.m) w
theorem NowP.trim {X:Sat2} (hX:Stable X) (h:NowP w0 S0 κ0 K N X st a w) (ks ds:List Nat) (e:Ab.trim ks ds st=st'):NowP w0 S0 κ0 K N X st' a w:=by obtain ⟨S,κ,h1,h2⟩:=h; subst e; exact ⟨S,κ,h1.trim ks ds,hX.kap h2 (fun b g c hl hk=>⟨b,c,zrZ ks ds st b hl,hk⟩)⟩
theorem NowP.bool {X:Sat2} (h:NowP w0 S0 κ0 K N X st a w) {k:Nat} {b:Bool} (hk:get st.t k=.v (.bool b)):a.eval (.tmp k)=.bool b:=by obtain ⟨S,κ,h1,_⟩:=h; have:=h1.slots k; rw [hk] at this; exact this.v_inv
def cnt (a:Act) (k:Nat):Nat:=match a.tmps.getD k undef with
 | .int _ n=>n.toNat
 | _=>0
theorem NowP.cnt {X:Sat2} (h:NowP w0 S0 κ0 K N X st a w) {k:Nat} {q:IntKind} {n:Int} (hk:get st.t k=.v (.int q n)):Ab.cnt a k=n.toNat:=by obtain ⟨S,κ,h1,_⟩:=h; have:=h1.slots k; rw [hk] at this; unfold Ab.cnt; rw [this.v_inv]
theorem stepP {R:Fr} {T:Dic} {j id:Nat} {ops:Array Oper} {draw:Bool} {c:Code} {X:Sat2} (hX:Stable X) (hb:R.fn.body=some c) (hN:R.fn.ntmps≤1000) (hr:regOf j c=some (.region id ops draw)) (ht:tReg R T j st=some st')
  (h:NowP w0 S0 κ0 K R.fn.ntmps X st a w) {Q:Exit→Act→World→Prop} (hQ:∀ a' w',NowP w0 S0 κ0 K R.fn.ntmps X st' a' w'→Q .normal a' w'):(Code.region id ops draw).wp R.P Q a w:=by
 obtain ⟨S,κ,h1,h2⟩:=h; exact leafR hb hr ht hN h1 (fun a' w' S' κ' hg hS hf hw=>hQ a' w' ⟨S',κ',hg,hX.step h2 hS hf hw⟩)
def tSeg (R:Fr) (T:Dic) (j i n:Nat) (st:St):Option St:=
 match R.fn.body with
 | some c=>match regOf j c with
   | some (.region _ ops _)=>tRun R.P R.C R.F T (R.F R.f).lits R.fn.ntmps ops i ((ops.toList.drop i).take n) (preDel ((ops.toList.drop i).take n) st) fun _ st1=>force st1 some
   | _=>none
 | none=>none
theorem ops_more {P:Program} {C:Cfg} {M:List Nat} {call:zaX} {N:Nat} {ops:Array Oper} {Q:Exit→Act→World→Prop} {rest:List Nat} (hcall:CallOK P call) (hN:N≤1000):∀ (l:List Oper) (k:Nat) (st st':St) (rs:List Mk),runOps P C M call N ops k l st=some (rs,st')→(∀ j o,l[j]?=some o→ops[k+j]?=some o)→∀ (a:Act) (w:World),GoodF w0 S0 κ0 K N (fs st) a w→(∀ a' w',GoodF w0 S0 κ0 K N (fs st') a' w'→wpOps P ops Q rest a' w')→wpOps P ops Q (List.range' k l.length++rest) a w
 | [],k,st,st',rs,h,_,a,w,hg,hQ=>by simp [runOps] at h; obtain ⟨_,rfl⟩:=h; exact hQ a w hg
 | o :: l,k,st,st',rs,h,hl,a,w,hg,hQ=>by
   simp only [runOps] at h
   cases hs:aStep P C M call N ops o st with
   | none=>simp [hs] at h
   | some q =>
     obtain ⟨r,st1⟩:=q; simp only [hs] at h
     cases ho:runOps P C M call N ops (k+1) l st1 with
     | none=>simp [ho] at h
     | some q=>obtain ⟨rs',st2⟩:=q; simp only [ho,Option.some.injEq,Prod.mk.injEq] at h; obtain ⟨_,rfl⟩:=h; obtain ⟨e1,e2⟩:=zpr hs; rw [List.length_cons,List.range'_succ,List.cons_append,wpOps_cons]; refine zls hcall hN (hl 0 o rfl) e1 hg (fun a' w' hg'=>?_); rw [← e2] at hg'; exact ops_more hcall hN l (k+1) st1 st2 rs' ho (fun j o' hj=>by have:=hl (j+1) o' (by simpa using hj); rw [← this]; congr 1; omega) a' w' hg' hQ
theorem segP {R:Fr} {T:Dic} {j i n id:Nat} {ops:Array Oper} {draw:Bool} {c:Code} {X:Sat2} (hX:Stable X) (hb:R.fn.body=some c) (hN:R.fn.ntmps≤1000) (hr:regOf j c=some (.region id ops draw)) (ht:tSeg R T j i n st=some st') (hin:i+n≤ops.size)
  (h:NowP w0 S0 κ0 K R.fn.ntmps X st a w) {Q:Exit→Act→World→Prop} {rest:List Nat} (hQ:∀ a' w',NowP w0 S0 κ0 K R.fn.ntmps X st' a' w'→wpOps R.P ops Q rest a' w'):wpOps R.P ops Q (List.range' i n++rest) a w:=by
 obtain ⟨S,κ,h1,h2⟩:=h; unfold tSeg at ht; simp only [hb,hr] at ht; obtain ⟨rs,st1,hrun,hst⟩:=zjU _ _ _ _ _ ht; rw [zku] at hst; injection hst with hst; subst hst
 have hl:((ops.toList.drop i).take n).length=n:=by rw [List.length_take,List.length_drop]; simp; omega
 have hp:GoodF w S κ (fun b=>(look st.m b).isSome=true) R.fn.ntmps (fs (preDel ((ops.toList.drop i).take n) st)) a w:=GoodF.preDel _ st ⟨S,κ,Good.rebase h1⟩
 have:=ops_more (rest:=rest) (Q:=Q) (zpT (C:=R.C) (A:=R.F)) hN _ i _ _ rs hrun (fun k o hk=>by
  rw [List.getElem?_take] at hk; split at hk
  · rw [List.getElem?_drop] at hk; simpa using hk
  · cases hk) a w hp (fun a' w' hg=>by
  obtain ⟨S',κ',hg⟩:=hg; refine hQ a' w' ⟨S',κ',Good.join h1 hg,hX.step h2 hg.sup (fun g hf=>hg.far hf) (fun g hs=>hg.old g (h1.slt g hs) (fun b c hl hk=>?_))⟩; obtain ⟨ent,he⟩:=Option.isSome_iff_exists.1 hl; have:=h1.ents b ent he; rw [hk] at this
  exact this.notS hs)
 rw [hl] at this; exact this
theorem getD_put {d:Nat} {y:Value} (hd:d < a.tmps.size) (k:Nat):(a.put (some d) y).tmps.getD k undef=if k=d then y else a.tmps.getD k undef:=by
 show (a.tmps.setIfInBounds d y).getD k undef=_; rw [Array.getD_eq_getD_getElem?,Array.getD_eq_getD_getElem?,Array.getElem?_setIfInBounds]; by_cases hk:d=k
 · subst hk; simp [hd]
 · rw [if_neg hk,if_neg (fun e=>hk e.symm)]
theorem GoodS.put (h:GoodS w0 S0 κ0 K N S κ st a w) {d:Nat} (hd:d < N) (x:AV) (y:Value) (hx:VRel S κ (fun b=>(look st.m b).isSome=true) w x y):GoodS w0 S0 κ0 K N S κ { st with t:=(d,x) :: st.t } (a.put (some d) y) w:=
 { h with
   base:=h.base
   defers:=h.defers
   size:=by show (a.tmps.setIfInBounds d y).size=N; simp [h.size]
   slots:=fun k=>by
    rw [getD_put (by rw [h.size]; exact hd)]; simp only [get]; by_cases hk:k=d
    · simp only [hk,if_true]; exact hx
    · simp only [if_neg hk]; exact h.slots k }
theorem GoodS.world (h:GoodS w0 S0 κ0 K N S κ st a w) (hos:w'.os=w.os) (htape:w'.tape=w.tape) (hout:OutD w w') (hsz:w.heap.size≤w'.heap.size)
  (hb:∀ g,g < w.heap.size→¬ (Far S κ (look st.m) w g∧Mine w0 κ0 K g)→w'.heap[g]?=w.heap[g]?):GoodS w0 S0 κ0 K N S κ st a w':=by
 have hS:∀ g,S g→w'.heap[g]?=w.heap[g]?:=fun g hg=>hb g (h.slt g hg) (fun q=>q.1.2.1 hg)
 have hκ:∀ b ent g c,look st.m b=some ent→κ b=some (g,c)→w'.heap[g]?=w.heap[g]?∧¬ S g:=fun b ent g c he hk=>by have hE:=h.ents b ent he; rw [hk] at hE; exact ⟨hb g hE.lt (fun q=>q.1.2.2 b c (by simp [he]) hk),hE.notS⟩
 exact { h with
  os:=hos.trans h.os
  tape:=htape.trans h.tape
  output:=h.output.trans hout
  grow:=Nat.le_trans h.grow hsz
  old:=fun g hg hK=>by
   rw [hb g (Nat.lt_of_lt_of_le hg h.grow) (fun q=>?_)]
   · exact h.old g hg hK
   · rcases q.2 with q | ⟨b,c,_,q1,q2⟩
     · omega
     · exact hK b c q1 q2
  slt:=fun g hg=>Nat.lt_of_lt_of_le (h.slt g hg) hsz
  ents:=fun b ent he=>(h.ents b ent he).mono (fun _ h=>h) hS (fun _ h=>h) (fun _ _=>rfl) (fun g c hk=>hκ b ent g c he hk)
  slots:=fun k=>(h.slots k).mono (fun _ h=>h) hS (fun _ h=>h) (fun _ _=>rfl) }
structure znZ (S:Nat→Prop) (w:World) (g:Nat) (es:List (List AV)) (en:Array MapEntry) (clock:Nat):Prop where
 inS:S g
 at_:w.heap[g]?=some (.map en clock)
 len:en.size=es.length
 born:∀ (i:Nat) (e:MapEntry),en[i]?=some e→e.born < clock
 incr:∀ (i j:Nat) (e f:MapEntry),i < j→en[i]?=some e→en[j]?=some f→e.born < f.born
 two:∀ cs∈es,∃ k v,cs=[k,v]
 key:∀ (i:Nat) (k v:AV) (e:MapEntry),es[i]?=some [k,v]→en[i]?=some e→CRel S w k e.key
 val:∀ (i:Nat) (k v:AV) (e:MapEntry),es[i]?=some [k,v]→en[i]?=some e→CRel S w v e.val
theorem znZ.mono {g:Nat} {es:List (List AV)} {en:Array MapEntry} {clock:Nat} (h:znZ S w g es en clock) (hS:∀ g,S g→S' g) (hw:∀ g,S g→w'.heap[g]?=w.heap[g]?):znZ S' w' g es en clock where
 inS:=hS g h.inS
 at_:=(hw g h.inS).trans h.at_
 len:=h.len
 born:=h.born
 incr:=h.incr
 two:=h.two
 key:=fun i k v e h1 h2=>(h.key i k v e h1 h2).mono hS hw
 val:=fun i k v e h1 h2=>(h.val i k v e h1 h2).mono hS hw
def seenOf (en:Array MapEntry) (done:List Nat):Array Nat:=(done.map fun j=>(en[j]?.map (·.born)).getD 0).toArray
structure Rng (w0:World) (κ0:Kap) (K:Nat→Prop) (r g:Nat) (es:List (List AV)) (en:Array MapEntry) (clock:Nat) (done:List Nat) (S:Nat→Prop) (κ:Kap) (L:Nat→Option Ent) (w:World):Prop where
 held:znZ S w g es en clock
 far:Far S κ L w r
 mine:Mine w0 κ0 K r
 iter:w.heap[r]?=some (.mapIter (some g) clock (seenOf en done) clock)
 nodup:done.Nodup
 lt:∀ j∈done,j < en.size
theorem Rng.stable {r g:Nat} {es:List (List AV)} {en:Array MapEntry} {clock:Nat} {done:List Nat}:Stable (Rng w0 κ0 K r g es en clock done) where
 step:=fun h hS hf hw=>⟨h.held.mono hS hw,(hf r h.far).2,h.mine,(hf r h.far).1.trans h.iter,h.nodup,h.lt⟩
 kap:=fun h hk=>⟨h.held,⟨h.far.1,h.far.2.1,fun b c hl hkb=>by
  obtain ⟨b0,c0,q1,q2⟩:=hk b r c hl hkb
  exact h.far.2.2 b0 c0 q1 q2⟩,h.mine,h.iter,h.nodup,h.lt⟩
theorem zjX {P:Program} {ops:Array Oper} {Q:Exit→Act→World→Prop} {i:Nat} {o:Oper} {K':Act→World→Prop} {y:Value} (hi:ops[i]?=some o) (hg:o.guard=none) (hx:(execOp a.eval o).run P w=.ok (.value y) w') (hK:K' (a.put o.dst y) w'):wpOp P ops Q i K' a w:=by unfold wpOp; simp only [hi]; rw [if_pos (by unfold Region.wanted; rw [hg])]; left; unfold Oper.wp; rw [hx]; exact hK
def opIs (ops:Array Oper) (i d:Nat) (op:Op):Prop:=(ops[i]?).map (fun o=>(o.dst,o.op,o.guard))=some (some d,op,none)
theorem opIs.get {ops:Array Oper} {i d:Nat} {op:Op} (h:opIs ops i d op):∃ o,ops[i]?=some o∧o.dst=some d∧o.op=op∧o.guard=none:=by
 unfold opIs at h
 cases ho:ops[i]? with
 | none=>rw [ho] at h; cases h
 | some o=>rw [ho] at h; simp only [Option.map_some,Option.some.injEq,Prod.mk.injEq] at h; exact ⟨o,rfl,h.1,h.2.1,h.2.2⟩
theorem NowP.freeze {X:Sat2} (hX:Stable X) (h:NowP w0 S0 κ0 K N X st a w) (hN:N≤1000) (bs:List Nat) (hb:bs.all (fun b=>decide (b < 1000) && (look st.m b).isSome)=true) (e:zbm bs st=st'):NowP w0 S0 κ0 K N X st' a w:=by
 obtain ⟨S,κ,h1,h2⟩:=h; have hp:GoodF w S κ (fun b=>(look st.m b).isSome=true) N (fs st) a w:=⟨S,κ,Good.rebase h1⟩
 obtain ⟨S',κ',hg⟩:=zlL hp hN (bs:=bs) (fun b hm=>by
  have:=List.all_eq_true.1 hb b hm
  simpa using this)
 subst e; refine ⟨S',κ',Good.join h1 hg,hX.step h2 hg.sup (fun g hf=>hg.far hf) (fun _ _=>rfl)⟩
theorem NowP.drop {X:Sat2} (h:NowP w0 S0 κ0 K N X st a w):NowP w0 S0 κ0 K N (fun _ _ _ _=>True) st a w:=by obtain ⟨S,κ,h1,_⟩:=h; exact ⟨S,κ,h1,trivial⟩
end
end Go.Ab
end
