/- Code and functions: the abstract interpreter is right. -/
import Derived.Test.YtbhkcgaanaelfaaGreatAbCell
import Derived.LoopN
namespace Go.Ab
open Go.RowKit
section
variable {P:Program} {C:Cfg} {N:Nat} {w0:World} {S0:Nat→Prop} {κ0:Kap} {K:Nat→Prop}
theorem GoodF.forget {x y:FS} {a:Act} {w:World} (h:GoodF w0 S0 κ0 K N x a w) (h1:∀ k,y.1 k=x.1 k∨y.1 k=.bot) (h2:y.2=x.2):GoodF w0 S0 κ0 K N y a w:=by
 obtain ⟨S,κ,h⟩:=h
 obtain ⟨y1,y2⟩:=y
 simp only at h1 h2
 subst h2
 refine ⟨S,κ,{ h with slots:=fun k=>?_ }⟩
 rcases h1 k with e | e
 · simp only; rw [e]; exact h.slots k
 · simp only; rw [e]; exact .bot _
theorem zqb:∀ (l:List Nat) (t:Tab) (k:Nat),get (zgU l t) k=get t k∨get (zgU l t) k=.bot
 | [],t,k=>.inr rfl
 | j :: l,t,k=>by
   have ih:=zqb l t k
   simp only [zgU]
   split
   · exact ih
   · rename_i hne
     simp only [get]
     split
     · rename_i hk; subst hk; exact .inl rfl
     · exact ih
theorem own1_good {s z:Nat} {e:TypeId} {st:St} {a:Act} {w:World} (h:GoodF w0 S0 κ0 K N (fs st) a w):GoodF w0 S0 κ0 K N (fs (own1 s z e st)) a w:=by
 unfold own1
 split
 case isFalse=>exact h
 rename_i hs
 obtain ⟨hs,hzp⟩:=hs
 split
 · rename_i hv
   have hval:a.tmps.getD s undef=.slice none 0 0:=by
    obtain ⟨S,κ,h'⟩:=h
    have:=h'.slots s
    simp only [fs] at this
    rw [hv] at this
    exact this.v_inv
   obtain ⟨S,κ,h1⟩:=h.del s
   have hns:((fs (del s st)).2 s).isSome=false:=by
    show (look (delM s st.m) s).isSome=false
    rw [zjr]
    simp [killL]
   generalize hst:del s st=st1 at h1 hns
   let κ':Kap:=fun b=>if b=s then none else κ b
   have hne:∀ b,((fs st1).2 b).isSome=true→b≠s:=fun b hb e=>by subst e; rw [hns] at hb; cases hb
   have hD:∀ b,((fs st1).2 b).isSome=true→(look ((s,{ z:=z,e:=e,es:=[],box:=false }) :: st1.m) b).isSome=true:=fun b hb=>by
    simp only [look]
    rw [if_neg (hne b hb)]
    exact hb
   have hκ:∀ b,((fs st1).2 b).isSome=true→κ' b=κ b:=fun b hb=>if_neg (hne b hb)
   have hcase:∀ b,(look ((s,{ z:=z,e:=e,es:=[],box:=false }) :: st1.m) b).isSome=true→b=s∨(b≠s∧((fs st1).2 b).isSome=true):=fun b hb=>by
    by_cases hbs:b=s
    · exact .inl hbs
    · simp only [look] at hb
      rw [if_neg hbs] at hb
      exact .inr ⟨hbs,hb⟩
   refine ⟨S,κ',{ h1 with
    par:=fun b hb=>by have:b≠s:=by omega
                      simp only [κ']; rw [if_neg this]; exact h1.par b hb
    parK:=fun b hb hl=>by
     rcases hcase b hl with e | ⟨_,hl⟩
     · omega
     · exact h1.parK b hb hl
    own:=fun b g c hb hl hk=>by
     rcases hcase b hl with e | ⟨hbs,hl⟩
     · subst e; simp [κ'] at hk
     · rw [hκ b hl] at hk; exact h1.own b g c hb hl hk
    inj:=fun b b' g c c' hl hl' hk hk'=>by
     rcases hcase b hl with e | ⟨hbs,hl⟩
     · subst e; simp [κ'] at hk
     · rcases hcase b' hl' with e | ⟨hbs',hl'⟩
       · subst e; simp [κ'] at hk'
       · rw [hκ b hl] at hk
         rw [hκ b' hl'] at hk'
         exact h1.inj b b' g c c' hl hl' hk hk'
    ents:=fun b ent hb=>by
     simp only [fs,look] at hb
     by_cases hbs:b=s
     · subst hbs
       simp at hb
       subst hb
       refine EntAt.of (.inr hzp) ⟨by simp,?_⟩
       simp [κ']
     · rw [if_neg hbs] at hb
       have hl:((fs st1).2 b).isSome=true:=by simp [fs,hb]
       have hE:=h1.ents b ent hb
       rw [hκ b hl]
       refine hE.mono (fun _ h=>h) (fun _ _=>rfl) hD hκ (fun g c hk=>⟨rfl,?_⟩)
       rw [hk] at hE
       exact hE.notS
    slots:=fun k=>by
     simp only [fs,get]
     by_cases hks:k=s
     · subst hks
       rw [if_pos rfl,hval]
       exact .row0 k z (by simp [look]) (by simp [κ'])
     · rw [if_neg hks]
       exact (h1.slots k).mono (fun _ h=>h) (fun _ _=>rfl) hD hκ }⟩
 · rename_i b z' off n hv
   split
   · exact h
   · rename_i hbs
     split
     · rename_i ent hent
       split
       case isFalse=>exact h
       rename_i hc
       obtain ⟨hb1,rfl,hn,hbx,hz⟩:=hc
       obtain ⟨S,κ,h0⟩:=h
       have hslot:=h0.slots s
       have hE0:=h0.ents b ent hent
       have hLb:((fs st).2 b).isSome=true:=by simp [fs,hent]
       simp only [fs] at hslot
       rw [hv] at hslot
       have h1:=(h0.del s).del b
       have e1:(fs (del b (del s st))).1=fun k=>(((fs st).1 k).kill s 4).kill b 4:=funext fun k=>by
        show get (killT b (killT s st.t)) k=_
        rw [zma,zma]; rfl
       have e2:(fs (del b (del s st))).2=killL b (killL s (fs st).2):=funext fun c=>by
        show look (delM b (delM s st.m)) c=_
        rw [zjr]
        have:look (delM s st.m)=killL s (fs st).2:=funext fun c=>zjr s st.m c
        rw [this]
       rw [← e1,← e2] at h1
       have hgone:∀ c,((fs (del b (del s st))).2 c).isSome=true→c≠s∧c≠b∧((fs st).2 c).isSome=true:=by
        intro c hc
        rw [e2] at hc
        simp only [killL] at hc
        split at hc
        · cases hc
        · rename_i h1
          simp only [Option.isSome_map] at hc
          split at hc
          · cases hc
          · rename_i h2
            exact ⟨h2,h1,by simpa using hc⟩
       generalize hst:del b (del s st)=st1 at h1 hgone
       let κ':Kap:=fun c=>if c=s then κ b else κ c
       have hne:∀ c,((fs st1).2 c).isSome=true→c≠s:=fun c hc=>(hgone c hc).1
       have hD:∀ c,((fs st1).2 c).isSome=true→(look ((s,ent) :: st1.m) c).isSome=true:=fun c hc=>by
        simp only [look]
        rw [if_neg (hne c hc)]
        exact hc
       have hκ:∀ c,((fs st1).2 c).isSome=true→κ' c=κ c:=fun c hc=>if_neg (hne c hc)
       have hcase:∀ c,(look ((s,ent) :: st1.m) c).isSome=true→c=s∨(c≠s∧((fs st1).2 c).isSome=true):=fun c hc=>by
        by_cases hcs:c=s
        · exact .inl hcs
        · simp only [look] at hc
          rw [if_neg hcs] at hc
          exact .inr ⟨hcs,hc⟩
       have hapart:∀ c g cp cp',((fs st1).2 c).isSome=true→κ b=some (g,cp)→κ c≠some (g,cp'):=fun c g cp cp' hc hk hk'=>by
        obtain ⟨_,h2,h3⟩:=hgone c hc
        exact h2 (h0.inj c b g cp' cp h3 hLb hk' hk)
       refine ⟨S,κ',{ h1 with
        par:=fun c hc=>by have:c≠s:=by omega
                          simp only [κ']; rw [if_neg this]; exact h1.par c hc
        parK:=fun c hc hl=>by
         rcases hcase c hl with e | ⟨_,hl⟩
         · omega
         · exact h1.parK c hc hl
        own:=fun c g cp hc hl hk=>by
         rcases hcase c hl with e | ⟨hcs,hl⟩
         · subst e
           simp [κ'] at hk
           exact h0.own b g cp hb1 hLb hk
         · rw [hκ c hl] at hk; exact h1.own c g cp hc hl hk
        inj:=fun c c' g cp cp' hl hl' hk hk'=>by
         rcases hcase c hl with e | ⟨hcs,hl1⟩
         · subst e
           simp [κ'] at hk
           rcases hcase c' hl' with e | ⟨hcs',hl'⟩
           · exact e.symm
           · rw [hκ c' hl'] at hk'
             exact absurd hk' (hapart c' g cp cp' hl' hk)
         · rw [hκ c hl1] at hk
           rcases hcase c' hl' with e | ⟨hcs',hl2⟩
           · subst e
             simp [κ'] at hk'
             exact absurd hk (hapart c g cp' cp hl1 hk')
           · rw [hκ c' hl2] at hk'
             exact h1.inj c c' g cp cp' hl1 hl2 hk hk'
        ents:=fun c en hc=>by
         simp only [fs,look] at hc
         by_cases hcs:c=s
         · subst hcs
           simp at hc
           subst hc
           have hkb:κ' c=κ b:=by simp [κ']
           rw [hkb]
           exact hE0.handed (fun _ h=>h) (fun g cp hk=>by rw [hk] at hE0; exact hE0.notS) (fun hb'=>by rw [hbx] at hb'; cases hb')
         · rw [if_neg hcs] at hc
           have hl:((fs st1).2 c).isSome=true:=by simp [fs,hc]
           have hE:=h1.ents c en hc
           rw [hκ c hl]
           refine hE.mono (fun _ h=>h) (fun _ _=>rfl) hD hκ (fun g cp hk=>⟨rfl,?_⟩)
           rw [hk] at hE
           exact hE.notS
        slots:=fun k=>by
         simp only [fs,get]
         by_cases hks:k=s
         · subst hks
           rw [if_pos rfl]
           generalize a.tmps.getD k undef=q at hslot
           cases hslot with
           | c h=>cases h
           | row0 _ _ hd hk=>exact .row0 k _ (by simp [look]) (by simp [κ',hk])
           | row _ _ _ _ g cp off' cap hd hk hnc ho hcc=>exact .row k _ 0 _ g cp off' cap (by simp [look]) (by simp [κ',hk]) hnc ho hcc
         · rw [if_neg hks]
           exact (h1.slots k).mono (fun _ h=>h) (fun _ _=>rfl) hD hκ }⟩
     · exact h
 · exact h
theorem zsu {a:Act} {w:World}:∀ (l:List (Nat×Nat×TypeId)) (st:St),GoodF w0 S0 κ0 K N (fs st) a w→GoodF w0 S0 κ0 K N (fs (ownAll l st)) a w
 | [],_,h=>h
 | _ :: l,_,h=>zsu l _ (own1_good h)
theorem zst {a:Act} {w:World}:∀ (l:List Nat) (st:St),GoodF w0 S0 κ0 K N (fs st) a w→GoodF w0 S0 κ0 K N (fs (delAll l st)) a w
 | [],_,h=>h
 | b :: l,_,h=>zst l _ (h.del b)
theorem zuX (p:Nat×Ent):∀ (m:Mem) (b:Nat),look (insM p m) b=if b=p.1 then some p.2 else look m b
 | [],b=>by obtain ⟨j,e⟩:=p; simp only [insM,look]
 | (j,e) :: r,b=>by
   simp only [insM]
   split
   · obtain ⟨i,e'⟩:=p; simp only [look]
   · rename_i hle
     simp only [look,zuX p r b]
     by_cases h1:b=j
     · have:b≠p.1:=fun e=>hle (by show p.1≤j; omega)
       rw [if_pos h1,if_neg this,if_pos h1]
     · rw [if_neg h1,if_neg h1]
theorem ztx:∀ (m:Mem) (b:Nat),look (sortM m) b=look m b
 | [],_=>rfl
 | (j,e) :: r,b=>by
   simp only [sortM,zuX,look,ztx r b]
theorem GoodF.sorted {st:St} {a:Act} {w:World} (h:GoodF w0 S0 κ0 K N (fs st) a w):GoodF w0 S0 κ0 K N (fs { st with m:=sortM st.m }) a w:=by
 have:fs { st with m:=sortM st.m }=fs st:=by
  unfold fs
  simp only
  congr 1
  funext b
  exact ztx st.m b
 rw [this]
 exact h
theorem zuz {bs:List Nat} {st:St} {a:Act} {w:World} (h:GoodF w0 S0 κ0 K N (fs st) a w) (hN:N≤1000) (hb:∀ b∈bs,b < 1000∧(look st.m b).isSome=true):GoodF w0 S0 κ0 K N (fs (zdb bs st)) a w:=by
 obtain ⟨S,κ,hg⟩:=h
 let o:Oper:={ dst:=none,op:=.move (.const undef),type:=0,pos := "",after:=#[],guard:=none }
 let r:Res:={ val:=.v undef,frz:=bs }
 let S1:Nat→Prop:=fun g=>S g∨∃ b c,b∈bs∧(look st.m b).isSome=true∧κ b=some (g,c)
 have he:EffAt S κ (fun b=>(look st.m b).isSome=true) w S1 κ r undef w:={
  os:=rfl
  tape:=rfl
  output:=rfl
  size:=Nat.le_refl _
  blk:=fun _ _ _=>rfl
  sup:=fun _ h=>.inl h
  snew:=fun g hs=>by
   rcases hs with h1 | ⟨b,c,h1,h2,h3⟩
   · exact .inl h1
   · exact .inr (.inr ⟨b,c,.inl h1,h2,h3⟩)
  slt:=fun g hs=>by
   rcases hs with h1 | ⟨b,c,h1,h2,h3⟩
   · exact hg.slt g h1
   · obtain ⟨ent,he⟩:=Option.isSome_iff_exists.1 h2
     have:=hg.ents b ent he
     rw [h3] at this
     exact this.lt
  sfrz:=fun b hm g c hk=>.inr ⟨b,c,hm,(hb b hm).2,hk⟩
  kold:=fun _ _=>rfl
  kout:=fun _ _=>rfl
  knew:=fun b _ hm=>by simp [ids,r] at hm
  one:=fun b b' _ _ hm=>by simp [ids,r] at hm
  ents:=fun b ent hm=>by simp [r] at hm
  val:=.c (.v _) }
 have hd:Dis (fun b=>(look st.m b).isSome=true) r:=fun b hm=>⟨(hb b hm).2,by simp [ids,r],by simp [r]⟩
 have hs:Shape o (look st.m) r:=⟨fun b h=>by simp [r] at h,fun b h=>by simp [ids,r] at h,fun b h=>(hb b h).1⟩
 have h2:=hg.apply (o:=o) hN rfl he hd hs
 refine ⟨S1,κ,?_⟩
 have e1:applyT none r (get st.t) (look st.m)=get (zdb bs st).t:=by
  funext k
  cases bs with
  | nil=>rfl
  | cons c cs=>simp only [applyT,zdb,zoc]; rfl
 have e2:applyL r (look st.m)=look (zdb bs st).m:=by
  funext k
  cases bs with
  | nil=>rfl
  | cons c cs=>simp only [applyL,zdb,znF]; rfl
 simp only [fs]
 rw [← e1,← e2]
 exact h2
theorem zxp {l:List Nat} {st:St} {a:Act} {w:World} (h:GoodF w0 S0 κ0 K N (fs st) a w) (hN:N≤1000):GoodF w0 S0 κ0 K N (fs (zk5 l st)) a w:=by
 unfold zk5
 split
 · exact h
 · split
   · rename_i hc
     refine zuz h hN (fun b hb=>?_)
     have:=List.all_eq_true.1 hc b hb
     simpa using this
   · exact h
theorem tidy_good {A:Ann} {id:Nat} {st:St} {a:Act} {w:World} (h:GoodF w0 S0 κ0 K N (fs st) a w) (hN:N≤1000):GoodF w0 S0 κ0 K N (fs (tidy A id st)) a w:=by
 have h1:=zrc (A.cel id) _ (zsu (A.own id) _ (zxp (l:=A.fz id) h hN))
 unfold tidy
 simp only
 split
 · rename_i l _
   exact GoodF.sorted (zst _ _ (GoodF.forget (y:=fs { zlM (A.cel id) (ownAll (A.own id) (zk5 (A.fz id) st)) with t:=zgU l (zlM (A.cel id) (ownAll (A.own id) (zk5 (A.fz id) st))).t }) h1 (fun k=>zqb _ _ k) rfl))
 · exact h1
def Ex.toExit:Ex→Exit
 | .normal=>.normal
 | .exit id=>.exit id
 | .ret=>.ret
def PostC (w0:World) (S0:Nat→Prop) (κ0:Kap) (K:Nat→Prop) (N:Nat) (ex:Ex) (st:St) (e:Exit) (a:Act) (w:World):Prop:=e=ex.toExit∧GoodF w0 S0 κ0 K N (fs st) a w
theorem ztq {c:Code} {step:St→Option (Ex×St)} (hstep:∀ st ex st',step st=some (ex,st')→∀ a w,GoodF w0 S0 κ0 K N (fs st) a w→c.wp P (PostC w0 S0 κ0 K N ex st') a w) :
  ∀ (n:Nat) (st:St) (ex:Ex) (st':St),iter n step st=some (ex,st')→∀ a w,GoodF w0 S0 κ0 K N (fs st) a w→Code.rounds P c (PostC w0 S0 κ0 K N ex st') n a w
 | 0,st,ex,st',h,_,_,_=>by simp [iter] at h
 | n+1,st,ex,st',h,a,w,hg=>by
   rw [rounds_succ]
   simp only [iter] at h
   cases hs:step st with
   | none=>simp [hs] at h
   | some q =>
     obtain ⟨e1,st1⟩:=q
     rw [hs] at h
     have hw:=hstep st e1 st1 hs a w hg
     cases e1 with
     | normal =>
       simp only at h
       refine wp_mono hw ?_
       rintro e a' w' ⟨rfl,hg'⟩
       exact ztq hstep n st1 ex st' h a' w' hg'
     | exit id =>
       simp only [Option.some.injEq,Prod.mk.injEq] at h
       obtain ⟨rfl,rfl⟩:=h
       refine wp_mono hw ?_
       rintro e a' w' ⟨rfl,hg'⟩
       exact ⟨rfl,hg'⟩
     | ret =>
       simp only [Option.some.injEq,Prod.mk.injEq] at h
       obtain ⟨rfl,rfl⟩:=h
       refine wp_mono hw ?_
       rintro e a' w' ⟨rfl,hg'⟩
       exact ⟨rfl,hg'⟩
theorem zym {A:Ann} {call:za6} {n:Nat} (hcall:CallOK P call) (hN:N≤1000):∀ (c:Code) (st:St) (ex:Ex) (st':St),aeval P C A N call (iter n) c st=some (ex,st')→∀ a w,GoodF w0 S0 κ0 K N (fs st) a w →
  c.wp P (PostC w0 S0 κ0 K N ex st') a w:=by
 intro c
 induction c with
 | skip =>
   intro st ex st' h a w hg
   simp [aeval] at h
   obtain ⟨rfl,rfl⟩:=h
   exact wp_skip ⟨rfl,hg⟩
 | region id ops draw =>
   intro st ex st' h a w hg
   simp only [aeval] at h
   split at h
   · rename_i st1 h1
     simp only [Option.some.injEq,Prod.mk.injEq] at h
     obtain ⟨rfl,rfl⟩:=h
     exact zwN hcall hN h1 hg (fun a' w' hg'=>⟨rfl,tidy_good hg' hN⟩)
   · cases h
 | seq x y ihx ihy =>
   intro st ex st' h a w hg
   simp only [aeval] at h
   refine wp_seq ?_
   cases hx:aeval P C A N call (iter n) x st with
   | none=>simp [hx] at h
   | some q =>
     obtain ⟨e1,st1⟩:=q
     rw [hx] at h
     have hw:=ihx st e1 st1 hx a w hg
     cases e1 with
     | normal =>
       simp only at h
       refine wp_mono hw ?_
       rintro e a' w' ⟨rfl,hg'⟩
       exact ihy st1 ex st' h a' w' hg'
     | exit id =>
       simp only [Option.some.injEq,Prod.mk.injEq] at h
       obtain ⟨rfl,rfl⟩:=h
       refine wp_mono hw ?_
       rintro e a' w' ⟨rfl,hg'⟩
       exact ⟨rfl,hg'⟩
     | ret =>
       simp only [Option.some.injEq,Prod.mk.injEq] at h
       obtain ⟨rfl,rfl⟩:=h
       refine wp_mono hw ?_
       rintro e a' w' ⟨rfl,hg'⟩
       exact ⟨rfl,hg'⟩
 | cond c x y ihx ihy =>
   intro st ex st' h a w hg
   simp only [aeval] at h
   split at h
   case h_2=>cases h
   rename_i b hb
   have hev:a.eval c=.bool b:=by
    obtain ⟨S,κ,hg'⟩:=hg
    cases c with
    | tmp k =>
      have:=hg'.slots k
      simp only [fs] at this
      simp only [ev] at hb
      rw [hb] at this
      exact this.v_inv
    | const v=>simp only [ev] at hb; cases hb; rfl
    | func f=>simp [ev] at hb
    | global g=>simp [ev] at hb
   refine wp_cond hev ?_
   cases b with
   | true=>simp only [if_true] at h ⊢; exact ihx st ex st' h a w hg
   | false=>simp only [Bool.false_eq_true,if_false] at h ⊢; exact ihy st ex st' h a w hg
 | block id c ih =>
   intro st ex st' h a w hg
   simp only [aeval] at h
   refine wp_block ?_
   cases hx:aeval P C A N call (iter n) c st with
   | none=>simp [hx] at h
   | some q =>
     obtain ⟨e1,st1⟩:=q
     rw [hx] at h
     have hw:=ih st e1 st1 hx a w hg
     refine wp_mono hw ?_
     rintro e a' w' ⟨rfl,hg'⟩
     cases e1 with
     | normal =>
       simp only [Option.some.injEq,Prod.mk.injEq] at h
       obtain ⟨rfl,rfl⟩:=h
       exact ⟨rfl,hg'⟩
     | exit j =>
       simp only at h
       show Exit.inBlock id _ (.exit j) a' w'
       simp only [Exit.inBlock]
       split at h
       · rename_i hj
         simp only [Option.some.injEq,Prod.mk.injEq] at h
         obtain ⟨rfl,rfl⟩:=h
         rw [if_pos hj]
         exact ⟨rfl,hg'⟩
       · rename_i hj
         simp only [Option.some.injEq,Prod.mk.injEq] at h
         obtain ⟨rfl,rfl⟩:=h
         rw [if_neg hj]
         exact ⟨rfl,hg'⟩
     | ret =>
       simp only [Option.some.injEq,Prod.mk.injEq] at h
       obtain ⟨rfl,rfl⟩:=h
       exact ⟨rfl,hg'⟩
 | loop c ih =>
   intro st ex st' h a w hg
   simp only [aeval] at h
   exact wp_loop_rounds n (ztq ih n st ex st' h a w hg)
 | exit id =>
   intro st ex st' h a w hg
   simp [aeval] at h
   obtain ⟨rfl,rfl⟩:=h
   exact wp_exit ⟨rfl,hg⟩
 | ret =>
   intro st ex st' h a w hg
   simp [aeval] at h
   obtain ⟨rfl,rfl⟩:=h
   exact wp_ret ⟨rfl,hg⟩
 | rangeFunc=>intro st ex st' h; simp [aeval] at h
 | scope=>intro st ex st' h; simp [aeval] at h
 | label=>intro st ex st' h; simp [aeval] at h
 | goto=>intro st ex st' h; simp [aeval] at h
 | refuse=>intro st ex st' h; simp [aeval] at h
end
end Go.Ab
