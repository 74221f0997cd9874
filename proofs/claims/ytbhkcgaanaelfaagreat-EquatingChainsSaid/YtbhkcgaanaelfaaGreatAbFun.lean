/- Functions: what the abstract interpreter says of a call is right. -/
import Derived.Test.YtbhkcgaanaelfaaGreatAbCode
namespace Go.Ab
open Go.RowKit
def single (f0:FuncId) (o:za6):za6:=fun f a m=>if f=f0 then o f a m else none
noncomputable def orcG (P:Program) (o:za6):za6:=fun f a m=>@ite _ (CallOK P (single f o)) (Classical.propDecidable _) (o f a m) none
theorem orcG_ok (P:Program) (o:za6):CallOK P (orcG P o):=by
 intro f args ms r ms' h
 unfold orcG at h
 split at h
 · rename_i hok
   exact hok f args ms r ms' (by unfold single; rw [if_pos rfl]; exact h)
 · cases h
theorem orcG_none {P:Program} {o:za6} {f:FuncId} {a:List AV} {m:Mem} (h:o f a m=none):orcG P o f a m=none:=by
 unfold orcG
 split
 · exact h
 · rfl
noncomputable def acall (P:Program) (C:Cfg) (A:AnnF):Nat→za6
 | 0,_,_,_=>none
 | n+1,f,args,ms=>match orcG P C.orc f args ms with
  | some r=>some r
  | none=>match P.funcs[f]? with
   | none=>none
   | some fn=>match fn.body with
     | none=>none
     | some c=>if fn.ntmps≤1000∧args.length≤fn.ntmps∧enters P f=true then
       (match aeval P C (A f) fn.ntmps (acall P C A n) (iter n) c { t:=argTab 0 args,m:=ms } with
       | some (.exit _,_)=>none
       | some (_,st)=>match zkM P (A f).frz fn st,zf7 st.m ms with
         | some r,some ms'=>some (r,ms')
         | _,_=>none
       | none=>none) else none
section
variable {P:Program} {C:Cfg} {A:AnnF}
theorem zxv {S:Nat→Prop} {κ:Kap} {D:Nat→Prop} {w:World} {st:St} {tm:Array Value} (hT:∀ k,VRel S κ D w (get st.t k) (tm.getD k undef)) (hL:∀ b ent,look st.m b=some ent→EntAt S κ D w (κ b) ent)
  {rv:ResultVar} {a:AV} (h:resVar P st rv=some a) :
  ∃ x,((match rv with | .tmp t=>pure (tm.getD t undef) | .cell p t=>do loadVar t (← asAddr (tm.getD p undef)):Sem Value)).run P w=.ok x w∧VRel S κ D w a x:=by
 cases rv with
 | tmp t =>
   simp only [resVar] at h
   split at h
   · cases h
   · rename_i a' ha
     injection h with h
     subst h
     exact ⟨_,by simp,hT t⟩
 | cell p t =>
   simp only [resVar] at h
   split at h
   case h_2=>cases h
   rename_i r hr
   injection h with h
   subst h
   have hp:=hT p
   obtain ⟨y,h1,h2,_⟩:=zss hr hp hL
   refine ⟨y,?_,h2⟩
   have hptr:∃ ad,tm.getD p undef=.pointer (some ad):=by
    generalize tm.getD p undef=q at hp
    generalize get st.t p=av at hp hr
    cases av <;> simp [aLoad] at hr
    case fp cs=>have:=hp.fp_inv; cases this; exact ⟨_,rfl⟩
    case loc b z i o=>obtain ⟨g,c,_,_,rfl⟩:=hp.loc_inv; exact ⟨_,rfl⟩
   obtain ⟨ad,had⟩:=hptr
   rw [had] at h1
   show (do loadVar t (← asAddr (tm.getD p undef)):Sem Value).run P w=_
   rw [had]
   simpa [Instr.loadAt,Instr.sureAddr,asAddr] using h1
theorem zpZ {S:Nat→Prop} {κ:Kap} {D:Nat→Prop} {w:World} {st:St} {tm:Array Value} (hT:∀ k,VRel S κ D w (get st.t k) (tm.getD k undef)) (hL:∀ b ent,look st.m b=some ent→EntAt S κ D w (κ b) ent) {fn:Func} {l:List AV}
  (h:mapO (resVar P st) fn.results.toList=some l):∃ x,(results fn tm).run P w=.ok x w∧((∃ a,l=[a]∧VRel S κ D w a x)∨(l.length≠1∧VRel S κ D w (.tup l) x)):=by
 obtain ⟨h1,h2⟩:=zhI h
 let f:ResultVar→Sem Value:=fun rv=>match rv with | .tmp t=>pure (tm.getD t undef) | .cell p t=>do loadVar t (← asAddr (tm.getD p undef))
 have key:∀ (rs:List ResultVar) (l:List AV),l.length=rs.length→(∀ (j:Nat) (rv:ResultVar),rs[j]?=some rv→∃ b,l[j]?=some b∧resVar P st rv=some b) →
   ∃ vs:List Value,(rs.mapM f).run P w=.ok vs w∧vs.length=l.length∧∀ (j:Nat) (c:AV) (x:Value),l[j]?=some c→vs[j]?=some x→VRel S κ D w c x:=by
  intro rs
  induction rs with
  | nil=>intro l hl _; exact ⟨[],by simp,by simpa using hl.symm,by simp⟩
  | cons rv rs ih =>
    intro l hl hr
    cases l with
    | nil=>simp at hl
    | cons a l =>
      obtain ⟨b,hb,hrv⟩:=hr 0 rv rfl
      simp at hb
      subst hb
      obtain ⟨x,hx,hv⟩:=zxv hT hL hrv
      obtain ⟨vs,e1,e2,e3⟩:=ih l (by simpa using hl) (fun j rv' hj=>by simpa using hr (j+1) rv' (by simpa using hj))
      refine ⟨x :: vs,?_,by simp [e2],fun j c y hj hy=>?_⟩
      · have hx':(f rv).run P w=.ok x w:=hx
        simp only [List.mapM_cons,Sem.run_bind,hx',Result.andThen_ok,e1,Sem.run_pure]
      · cases j with
        | zero=>simp at hj hy; subst hj; subst hy; exact hv
        | succ j=>exact e3 j c y (by simpa using hj) (by simpa using hy)
 obtain ⟨vs,e1,e2,e3⟩:=key fn.results.toList l h1 h2
 have hm:(fn.results.mapM f).run P w=.ok vs.toArray w:=by
  obtain ⟨rl⟩:∃ rl:List ResultVar,fn.results=rl.toArray:=⟨fn.results.toList,by simp⟩
  rename_i hrl
  rw [hrl,List.mapM_toArray]
  rw [hrl] at e1
  simp only at e1
  simp only [Sem.run_map,e1,Result.andThen_ok]
 by_cases hl1:vs.length=1
 · match vs,hl1 with
   | [x],_ =>
     match l,e2 with
     | [a],_ =>
       refine ⟨x,?_,.inl ⟨a,rfl,e3 0 a x rfl rfl⟩⟩
       have:(results fn tm).run P w=((fn.results.mapM f).run P w).andThen fun vs w'=>.ok (if h:vs.size=1 then vs[0] else .tuple vs) w':=by
        simp only [results,Sem.run_bind]
        rfl
       rw [this,hm]
       rfl
 · refine ⟨.tuple vs.toArray,?_,.inr ⟨by omega,.tup l _ (by simpa using e2) (fun j c x hj hx=>e3 j c x hj (by simpa using hx))⟩⟩
   have:(results fn tm).run P w=((fn.results.mapM f).run P w).andThen fun vs w'=>.ok (if h:vs.size=1 then vs[0] else .tuple vs) w':=by
    simp only [results,Sem.run_bind]
    rfl
   rw [this,hm]
   simp [hl1]
theorem znb {m:Mem}:∀ {ms ms':Mem},zf7 m ms=some ms'→∀ b ent,look ms' b=some ent→1000≤b∧(look ms b).isSome=true∧look m b=some ent∧(ent.box=false∨allL (fun cs=>allL (AV.isC 4) cs) ent.es=true)
 | [],ms',h,b,ent,hb=>by simp [zf7] at h; subst h; simp [look] at hb
 | (k,e) :: r,ms',h,b,ent,hb=>by
   simp only [zf7] at h
   split at h
   · rename_i hlt
     obtain ⟨q0,q1,q2⟩:=znb h b ent hb
     refine ⟨q0,?_,q2⟩
     simp only [look]
     split
     · rfl
     · exact q1
   rename_i hge
   split at h
   · rename_i en l hk hr
     split at h
     case isFalse=>cases h
     rename_i hc
     injection h with h
     subst h
     simp only [look] at hb ⊢
     by_cases hbk:b=k
     · subst hbk
       simp at hb ⊢
       subst hb
       exact ⟨by omega,hk,hc⟩
     · rw [if_neg hbk] at hb ⊢
       exact znb hr b ent hb
   · cases h
theorem ztD:∀ (args:List AV) (i k:Nat),get (argTab i args) k=if i≤k then (args[k - i]?).getD .bot else .bot
 | [],i,k=>by simp [argTab,get]
 | a :: r,i,k=>by
   simp only [argTab,get]
   by_cases hk:k=i
   · subst hk; simp
   · rw [if_neg hk,ztD r (i+1) k]
     by_cases hle:i≤k
     · have:k - i=(k - (i+1))+1:=by omega
       rw [if_pos (by omega),if_pos hle,this,List.getElem?_cons_succ]
     · rw [if_neg (by omega),if_neg hle]
theorem zyN:∀ n,CallOK P (acall P C A n):=by
 intro n
 induction n with
 | zero=>intro f args ms r ms' h; simp [acall] at h
 | succ n ih =>
   intro f args ms r ms' h
   simp only [acall] at h
   cases ho:orcG P C.orc f args ms with
   | some r0 =>
     simp only [ho,Option.some.injEq] at h
     subst h
     exact orcG_ok P C.orc f args ms r ms' ho
   | none =>
   simp only [ho] at h
   cases hf:P.funcs[f]? with
   | none=>simp [hf] at h
   | some fn =>
     simp only [hf] at h
     cases hb:fn.body with
     | none=>simp [hb] at h
     | some c =>
       simp only [hb] at h
       split at h
       case isFalse=>cases h
       rename_i hcond
       obtain ⟨hN,hargs,hent⟩:=hcond
       refine ⟨hent,?_⟩
       intro w S κ vals hvl hS hv hms hinj
       have fin:∀ (ex:Ex) (st:St),(∀ id,ex≠.exit id)→aeval P C (A f) fn.ntmps (acall P C A n) (iter n) c { t:=argTab 0 args,m:=ms }=some (ex,st)→zkM P (A f).frz fn st=some r→zf7 st.m ms=some ms'→Calls P f vals w (Left S κ ms ms' r w):=by
        intro ex st hex hev hres hback
        refine calls_of_wp hf hb ?_
        have hgood:GoodF w S κ (Dm ms) fn.ntmps (fs { t:=argTab 0 args,m:=ms }) { tmps:=vals++Array.replicate (fn.ntmps - vals.size) undef,defers:=[] } w:=by
         refine ⟨S,κ,{
          defers:=rfl
          size:=by simp; omega
          os:=rfl
          tape:=rfl
          output:=rfl
          grow:=Nat.le_refl _
          old:=fun _ _ _=>rfl
          sup:=fun _ h=>h
          snew:=fun _ h=>.inl h
          slt:=hS
          par:=fun _ _=>rfl
          parK:=fun _ _ h=>h
          own:=fun b g c' hb' hl hk=>.inr ⟨b,c',hb',hl,hk⟩
          inj:=hinj
          ents:=fun b ent he=>hms b ent he
          slots:=fun k=>?_ }⟩
         simp only [fs]
         rw [ztD]
         simp only [Nat.zero_le,if_true,Nat.sub_zero]
         cases hk:args[k]? with
         | none=>exact .bot _
         | some a =>
           have hlt:k < vals.size:=by have:=(List.getElem?_eq_some_iff.1 hk).1; omega
           have:(vals++Array.replicate (fn.ntmps - vals.size) undef).getD k undef=vals[k]:=by
            rw [Array.getD_eq_getD_getElem?,Array.getElem?_append,if_pos hlt,Array.getElem?_eq_getElem hlt]
            rfl
           rw [this]
           exact hv k a _ hk (Array.getElem?_eq_getElem hlt)
        refine wp_mono (zym ih hN c _ ex st hev _ w hgood) ?_
        rintro e a' w' ⟨rfl,S1,κ1,hg⟩
        have hpost:a'.defers=[]∧∃ v,(results fn a'.tmps).run P w'=.ok v w'∧Left S κ ms ms' r w (.returned v) w':=by
         refine ⟨hg.defers,?_⟩
         unfold zkM at hres
         have hpar:∀ (S2:Nat→Prop),(∀ g,S1 g→S2 g)→(∀ g,S2 g→S1 g∨∃ b cp,b < 1000∧(look st.m b).isSome=true∧κ1 b=some (g,cp))→∀ b ent,look ms' b=some ent→Dm ms b∧EntC S2 w' (κ b) ent:=by
          intro S2 h12 h21 b ent hbe
          obtain ⟨hge,q1,q2,q3⟩:=znb hback b ent hbe
          have hE:=hg.ents b ent q2
          rw [hg.par b hge] at hE
          refine ⟨q1,hE.handed h12 (fun g cp hk hs=>?_) (fun hbx cs hcs a ha=>?_)⟩
          · rw [hk] at hE
            rcases h21 g hs with h | ⟨b',cp',hb',hl',hk'⟩
            · exact hE.notS h
            · have:b=b':=hg.inj b b' g cp cp' (by simp [fs,q2]) hl' (by rw [hg.par b hge]; exact hk) hk'
              omega
          · rcases q3 with h | h
            · rw [h] at hbx; cases hbx
            · exact zeC (zeC h cs hcs) a ha
         have out:∀ (a:AV) (x:Value),VRel S1 κ1 (fun b=>(look st.m b).isSome=true) w' a x→outOf (A f).frz st.m a=some r→(results fn a'.tmps).run P w'=.ok x w'→∃ v,(results fn a'.tmps).run P w'=.ok v w'∧Left S κ ms ms' r w (.returned v) w':=by
          intro a x hax ho hrun
          refine ⟨x,hrun,x,?_⟩
          have same:RRel S1 κ (Dm ms) (Mine w κ (Dm ms)) w' r x→∃ S',Ending.returned x=Ending.returned x∧w'.os=w.os∧w'.tape=w.tape∧w'.output=w.output∧w.heap.size≤w'.heap.size ∧
            (∀ g,g < w.heap.size→(∀ b c,Dm ms b→κ b≠some (g,c))→w'.heap[g]?=w.heap[g]?)∧(∀ g,S g→S' g)∧(∀ g,S' g→S g∨Mine w κ (Dm ms) g)∧(∀ g,S' g→g < w'.heap.size) ∧
            (∀ b ent,look ms' b=some ent→Dm ms b∧EntC S' w' (κ b) ent)∧RRel S' κ (Dm ms) (Mine w κ (Dm ms)) w' r x:=fun hr =>
           ⟨S1,rfl,hg.os,hg.tape,hg.output,hg.grow,hg.old,hg.sup,hg.snew,hg.slt,hpar S1 (fun _ h=>h) (fun _ h=>.inl h),hr⟩
          let S2:Nat→Prop:=fun g=>S1 g∨∃ b cp,b < 1000∧(look st.m b).isSome=true∧κ1 b=some (g,cp)
          have frozen:CRel S2 w' r x→(∀ z e es,r≠.new z e es)→(∀ z e cs,r≠.newp z e cs)→(∀ e es,r≠.newm e es)→∃ S',Ending.returned x=Ending.returned x∧w'.os=w.os∧w'.tape=w.tape∧w'.output=w.output∧w.heap.size≤w'.heap.size ∧
            (∀ g,g < w.heap.size→(∀ b c,Dm ms b→κ b≠some (g,c))→w'.heap[g]?=w.heap[g]?)∧(∀ g,S g→S' g)∧(∀ g,S' g→S g∨Mine w κ (Dm ms) g)∧(∀ g,S' g→g < w'.heap.size) ∧
            (∀ b ent,look ms' b=some ent→Dm ms b∧EntC S' w' (κ b) ent)∧RRel S' κ (Dm ms) (Mine w κ (Dm ms)) w' r x:=by
           intro hr hn1 hn2 hn3
           refine ⟨S2,rfl,hg.os,hg.tape,hg.output,hg.grow,hg.old,fun g h=>.inl (hg.sup g h),?_,?_,hpar S2 (fun _ h=>.inl h) (fun _ h=>h),?_⟩
           · intro g h
             rcases h with h | ⟨b,cp,hb',hl,hk⟩
             · exact hg.snew g h
             · exact .inr (hg.own b g cp hb' hl hk)
           · intro g h
             rcases h with h | ⟨b,cp,hb',hl,hk⟩
             · exact hg.slt g h
             · obtain ⟨ent,he⟩:=Option.isSome_iff_exists.1 hl
               have:=hg.ents b ent he
               rw [hk] at this
               exact this.lt
           · unfold RRel
             split
             · cases hr
             · cases hr
             · exact absurd rfl (hn1 _ _ _)
             · exact absurd rfl (hn3 _ _)
             · exact absurd rfl (hn2 _ _ _)
             · exact hr
          have hLL:∀ b ent,(fun b=>if b < 1000 then look st.m b else none) b=some ent→EntAt S1 κ1 (fun b=>(look st.m b).isSome=true) w' (κ1 b) ent:=fun b ent hbe=>by
           simp only at hbe
           split at hbe
           · exact hg.ents b ent hbe
           · cases hbe
          have snapped:∀ a',snap (fun b=>if b < 1000 then look st.m b else none) 5 a=some a'→CRel S2 w' a' x:=by
           intro a'' hs
           refine zmY hLL (fun _ h=>.inl h) 5 hax hs (fun b hbm g cp hk=>.inr ⟨b,cp,?_,?_,hk⟩)
           · have:=snap_ids 5 a a'' hs b hbm
             split at this
             · assumption
             · cases this
           · exact ids_D hLL 5 a x hax b hbm
          unfold outOf at ho
          simp only at ho
          split at ho
          · rename_i b z off m
            split at ho
            · rename_i hge
              split at ho
              case isFalse=>cases ho
              rename_i hc
              injection ho with ho
              subst ho
              refine same ?_
              have hD:Dm ms b:=hg.parK b hge hc.2
              have hke:=hg.par b hge
              show VRel S1 κ (Dm ms) w' (.row b z off m) x
              cases hax with
              | c h=>cases h
              | row0 _ _ hd hk=>exact .row0 b z hD (by rw [← hke]; exact hk)
              | row _ _ _ _ g c off' cap hd hk hn ho hc=>exact .row b z off m g c off' cap hD (by rw [← hke]; exact hk) hn ho hc
            split at ho
            case h_2=>cases ho
            rename_i ent hle
            split at ho
            · rename_i hc
              obtain ⟨_,hz,rfl,hm,hbx,hzp⟩:=hc
              injection ho with ho
              subst ho
              have hb1:b < 1000∧look st.m b=some ent:=by
               split at hle
               · exact ⟨by assumption,hle⟩
               · cases hle
              refine same ?_
              have hE:=hg.ents b ent hb1.2
              cases hax with
              | c h=>cases h
              | row0 _ _ hd hk =>
                rw [hk] at hE
                exact ⟨hzp,.inl ⟨rfl,(hE.1 (.inr (by omega))).2.1⟩⟩
              | row _ _ _ _ g cp off' cap hd hk hnc ho' hcc =>
                rw [hk] at hE
                have hcap:=hcc rfl
                subst hcap
                have hoff:off'=0:=by
                 rcases ho' with h | ⟨_,h⟩
                 · simpa using h
                 · exact absurd rfl h
                subst hoff
                refine ⟨hzp,.inr ⟨g,cap,hg.own b g cap hb1.1 (by simp [fs,hb1.2]) hk,by rw [hm],?_⟩⟩
                obtain ⟨z1,cells,q1,q2,q3,q4,q5,q6⟩:=hE.1 (.inr (by omega))
                subst hz
                refine EntAt.of (.inr hzp) ⟨z1,cells,q1,q2,q3,q4,q5,fun i j cs av hi hj=>?_⟩
                obtain ⟨u,u1,u2,_,u4⟩:=q6 i j cs av hi hj
                exact ⟨u,u1,u2,(fun hb'=>by cases hb'),fun _=>u4 hbx⟩
            · have hcr:=snapped r ho
              refine frozen hcr (fun z e es hr=>by rw [hr] at hcr; cases hcr) (fun z e cs hr=>by rw [hr] at hcr; cases hcr) (fun e es hr=>by rw [hr] at hcr; cases hcr)
          · rename_i b z i o
            split at ho
            · rename_i hge
              split at ho
              case isFalse=>cases ho
              rename_i hc
              injection ho with ho
              subst ho
              refine same ?_
              have hD:Dm ms b:=hg.parK b hge hc
              have hke:=hg.par b hge
              show VRel S1 κ (Dm ms) w' (.loc b z i o) x
              cases hax with
              | c h=>cases h
              | loc _ _ _ _ g c hd hk=>exact .loc b z i o g c hD (by rw [← hke]; exact hk)
            split at ho
            case h_2=>cases ho
            rename_i ent hle
            split at ho
            case isFalse=>cases ho
            rename_i hc
            obtain ⟨hz,hbx,rfl,rfl⟩:=hc
            split at ho
            case h_2=>cases ho
            rename_i cs hes
            split at ho
            case isFalse=>cases ho
            rename_i hC
            injection ho with ho
            subst ho
            have hb1:b < 1000∧look st.m b=some ent:=by
             split at hle
             · exact ⟨by assumption,hle⟩
             · cases hle
            refine same ?_
            have hE:=hg.ents b ent hb1.2
            obtain ⟨g,cp,hd,hk,rfl⟩:=hax.loc_inv
            rw [hk] at hE
            refine ⟨g,cp,hg.own b g cp hb1.1 hd hk,by simp,?_⟩
            obtain ⟨z1,cells,q1,q2,q3,q4,q5,q6⟩:=hE.1 (.inl hbx)
            subst hz
            rw [hes] at z1 q3 q6
            refine EntAt.of (.inl rfl) ⟨z1,cells,q1,q2,q3,q4,q5,fun i j cs' av hi hj=>?_⟩
            obtain ⟨u,u1,u2,u3,_⟩:=q6 i j cs' av hi hj
            refine ⟨u,u1,u2,fun _=>.c ?_,fun hb'=>by cases hb'⟩
            have:cs'=cs:=by
             cases i with
             | zero=>simpa using hi.symm
             | succ i=>simp at hi
            subst this
            exact zkY 4 (zeC hC av (List.mem_of_getElem? hj)) (u3 hbx)
          · rename_i b
            split at ho
            case isTrue=>cases ho
            split at ho
            case h_2=>cases ho
            rename_i ent hle
            split at ho
            · rename_i hc
              obtain ⟨_,hz,hbx⟩:=hc
              injection ho with ho
              subst ho
              have hb1:b < 1000∧look st.m b=some ent:=by
               split at hle
               · exact ⟨by assumption,hle⟩
               · cases hle
              refine same ?_
              have hE:=hg.ents b ent hb1.2
              obtain ⟨g,cp,hd,hk,rfl⟩:=hax.map_inv
              rw [hk] at hE
              exact ⟨g,cp,hg.own b g cp hb1.1 hd hk,rfl,EntAt.ofMap rfl rfl (hE.2 (zoH hz hbx))⟩
            · have hcr:=snapped r ho
              refine frozen hcr (fun z e es hr=>by rw [hr] at hcr; cases hcr) (fun z e cs hr=>by rw [hr] at hcr; cases hcr) (fun e es hr=>by rw [hr] at hcr; cases hcr)
          · have hcr:=snapped r ho
            refine frozen hcr (fun z e es hr=>by rw [hr] at hcr; cases hcr) (fun z e cs hr=>by rw [hr] at hcr; cases hcr) (fun e es hr=>by rw [hr] at hcr; cases hcr)
         have first:∀ (a:AV) (x:Value),VRel S1 κ1 (fun b=>(look st.m b).isSome=true) w' a x→out1 P (A f).frz (fn.resultTypes.getD 0 0) st.m a=some r→(results fn a'.tmps).run P w'=.ok x w'→∃ v,(results fn a'.tmps).run P w'=.ok v w'∧Left S κ ms ms' r w (.returned v) w':=by
          intro a x hax ho hrun
          unfold out1 at ho
          split at ho
          · split at ho
            case h_2=>cases ho
            split at ho
            case h_2=>cases ho
            split at ho
            case isFalse=>cases ho
            rename_i hzp
            injection ho with ho
            subst ho
            have:=hax.v_inv
            subst this
            exact ⟨_,hrun,_,S1,rfl,hg.os,hg.tape,hg.output,hg.grow,hg.old,hg.sup,hg.snew,hg.slt,hpar S1 (fun _ h=>h) (fun _ h=>.inl h),hzp,.inl ⟨rfl,rfl⟩⟩
          · exact out _ x (zm2 hax) ho hrun
         split at hres
         · rename_i a hl
           obtain ⟨x,hx,h⟩:=zpZ (P:=P) hg.slots hg.ents hl
           rcases h with ⟨a2,he,hv2⟩ | ⟨hne,_⟩
           · injection he with he
             subst he
             exact first a x hv2 hres hx
           · exact absurd rfl hne
         · rename_i l hne hl
           obtain ⟨x,hx,h⟩:=zpZ (P:=P) hg.slots hg.ents hl
           rcases h with ⟨a2,he,hv2⟩ | ⟨_,hv2⟩
           · exact absurd he (hne a2)
           · refine out _ x ?_ hres hx
             obtain ⟨vs,rfl,hl1,hr1⟩:=hv2.tup_inv
             exact .tup _ vs (by rw [ziu]; exact hl1) (nrmA_rel hr1)
         · cases hres
        cases ex with
        | normal=>exact hpost
        | ret=>exact hpost
        | exit id=>exact absurd rfl (hex id)
       split at h
       · cases h
       · rename_i ex st hne hev
         split at h
         · rename_i r' ms1 hr hm
           simp only [Option.some.injEq,Prod.mk.injEq] at h
           obtain ⟨rfl,rfl⟩:=h
           exact fin ex st (fun id e=>hne id e) hev hr hm
         · cases h
       · cases h
end
end Go.Ab
