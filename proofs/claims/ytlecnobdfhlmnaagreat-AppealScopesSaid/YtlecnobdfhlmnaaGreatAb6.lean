/- Code and functions: the abstract interpreter is right. -/
import Derived.Test.YtlecnobdfhlmnaaGreatAb5
import Derived.LoopN
set_option linter.unusedSimpArgs false
set_option linter.unusedVariables false
set_option linter.unusedSectionVars false
noncomputable section
namespace Go.Ab
open Go.RowKit
variable[Dr]
section
variable{P:Program}{C:Cfg}{N:Nat}{w0:World}{S0:Nat->Prop}{κ0:Kap}{K:Nat->Prop}
theorem GoodF.forget{x y:FS}{a:Act}{w:World}(h:GoodF w0 S0 κ0 K N x a w)(h1:∀k,y.1 k=x.1 k\/y.1 k=.bot)(h2:y.2=x.2):GoodF w0 S0 κ0 K N y a w:=by
 obtain⟨S,κ,h⟩:=h;obtain⟨y1,y2⟩:=y;simp only at h1 h2;subst h2;refine⟨S,κ,{ h with slots:=λk=>?_ }⟩;rcases h1 k with e|e
 ·simp only;rw[e];exact h.slots k
 ·simp only;rw[e];exact .bot _
theorem zy5:∀(l:List Nat) (t:Tab) (k:Nat),get (zle l t) k=get t k\/get (zle l t) k=.bot
 |[],t,k=>.inr rfl
 |j::l,t,k=>by
   have ih:=zy5 l t k;simp only[zle];split
   ·exact ih
   · rename_i hne;simp only[get]
     grind
theorem own1_good{s z:Nat}{e:TypeId}{st:St}{a:Act}{w:World}(h:GoodF w0 S0 κ0 K N (fs st) a w):GoodF w0 S0 κ0 K N (fs (own1 s z e st)) a w:=by
 unfold own1;split
 case isFalse=>exact h
 rename_i hs;obtain⟨hs,hzp⟩:=hs;split
 · rename_i hv
   have hval:a.tmps.getD s undef=.slice none 0 0:=by obtain⟨S,κ,h'⟩:=h;have:=h'.slots s;simp only[fs]at this;rw[hv]at this;exact this.v_inv
   obtain⟨S,κ,h1⟩:=h.del s
   have hns:((fs (del s st)).2 s).isSome=false:=by show(look (delM s st.m) s).isSome=false;rw[ziq];simp[killL]
   generalize hst:del s st=st1 at h1 hns
   let κ':Kap:=λb=>if b=s then none else κ b
   have hne:∀b,((fs st1).2 b).isSome=true->b≠s:=λb hb e=>by simp_all
   have hD:∀b,((fs st1).2 b).isSome=true->(look ((s,{ z:=z,e:=e,es:=[],box:=false })::st1.m) b).isSome=true:=λb hb=>by simp only[look];rw[if_neg (hne b hb)];exact hb
   have hκ:∀b,((fs st1).2 b).isSome=true->κ' b=κ b:=λb hb=>if_neg (hne b hb)
   have hcase:∀b,(look ((s,{ z:=z,e:=e,es:=[],box:=false })::st1.m) b).isSome=true->b=s\/(b≠s/\((fs st1).2 b).isSome=true):=λb hb=>by
    by_cases hbs:b=s
    ·exact .inl hbs
    ·simp only[look]at hb;rw[if_neg hbs]at hb;exact .inr ⟨hbs,hb⟩
   refine⟨S,κ',{ h1 with
    par:=λb hb=>by have:b≠s:=by omega
                   simp only[κ'];rw[if_neg this];exact h1.par b hb
    parK:=λb hb hl=>by
     rcases hcase b hl with e|⟨_,hl⟩
     ·omega
     ·exact h1.parK b hb hl
    own:=λb g c hb hl hk=>by
     rcases hcase b hl with e|⟨hbs,hl⟩
     ·grind
     ·rw[hκ b hl]at hk;exact h1.own b g c hb hl hk
    inj:=λb b' g c c' hl hl' hk hk'=>by
     rcases hcase b hl with e|⟨hbs,hl⟩
     ·grind
     · rcases hcase b' hl' with e|⟨hbs',hl'⟩
       ·grind
       ·rw[hκ b hl]at hk;rw[hκ b' hl']at hk';exact h1.inj b b' g c c' hl hl' hk hk'
    ents:=λb ent hb=>by
     simp only[fs,look]at hb;by_cases hbs:b=s
     ·subst hbs;simp at hb;subst hb;refine EntAt.of (.inr hzp) ⟨by simp,?_⟩;simp[κ']
     · rw[if_neg hbs]at hb;have hl:((fs st1).2 b).isSome=true:=by simp[fs,hb]
       have hE:=h1.ents b ent hb;rw[hκ b hl];refine hE.mono (λ_ h=>h) (λ_ _=>rfl) hD hκ (λg c hk=>⟨rfl,?_⟩);rw[hk]at hE;exact hE.notS
    slots:=λk=>by
     simp only[fs,get];by_cases hks:k=s
     ·subst hks;rw[if_pos rfl,hval];exact .row0 k z (by simp[look]) (by simp[κ'])
     · rw[if_neg hks]
       exact(h1.slots k).mono (λ_ h=>h) (λ_ _=>rfl) hD hκ }⟩
 · rename_i b z' off n hv;split
   ·exact h
   · rename_i hbs;split
     · rename_i ent hent;split
       case isFalse=>exact h
       rename_i hc;obtain⟨hb1,rfl,hn,hbx,hz⟩:=hc;obtain⟨S,κ,h0⟩:=h;have hslot:=h0.slots s;have hE0:=h0.ents b ent hent;have hLb:((fs st).2 b).isSome=true:=by simp[fs,hent]
       simp only[fs]at hslot;rw[hv]at hslot;have h1:=(h0.del s).del b
       have e1:(fs (del b (del s st))).1=λk=>(((fs st).1 k).kill s 4).kill b 4:=funext λk=>by show get (killT b (killT s st.t)) k=_;rw[zot,zot];rfl
       have e2:(fs (del b (del s st))).2=killL b (killL s (fs st).2):=funext λc=>by
        show look (delM b (delM s st.m)) c=_;rw[ziq];have:look (delM s st.m)=killL s (fs st).2:=funext λc=>ziq s st.m c
        rw[this]
       rw[<-e1,<-e2]at h1
       have hgone:∀c,((fs (del b (del s st))).2 c).isSome=true->c≠s/\c≠b/\((fs st).2 c).isSome=true:=by
        intro c hc;rw[e2]at hc;simp only[killL]at hc;split at hc
        ·cases hc
        ·grind
       generalize hst:del b (del s st)=st1 at h1 hgone
       let κ':Kap:=λc=>if c=s then κ b else κ c
       have hne:∀c,((fs st1).2 c).isSome=true->c≠s:=λc hc=>(hgone c hc).1
       have hD:∀c,((fs st1).2 c).isSome=true->(look ((s,ent)::st1.m) c).isSome=true:=λc hc=>by simp only[look];rw[if_neg (hne c hc)];exact hc
       have hκ:∀c,((fs st1).2 c).isSome=true->κ' c=κ c:=λc hc=>if_neg (hne c hc)
       have hcase:∀c,(look ((s,ent)::st1.m) c).isSome=true->c=s\/(c≠s/\((fs st1).2 c).isSome=true):=λc hc=>by
        by_cases hcs:c=s
        ·exact .inl hcs
        ·simp only[look]at hc;rw[if_neg hcs]at hc;exact .inr ⟨hcs,hc⟩
       have hapart:∀c g cp cp',((fs st1).2 c).isSome=true->κ b=some (g,cp)->κ c≠some (g,cp'):=λc g cp cp' hc hk hk'=>by obtain⟨_,h2,h3⟩:=hgone c hc;exact h2 (h0.inj c b g cp' cp h3 hLb hk' hk)
       refine⟨S,κ',{ h1 with
        par:=λc hc=>by have:c≠s:=by omega
                       simp only[κ'];rw[if_neg this];exact h1.par c hc
        parK:=λc hc hl=>by
         rcases hcase c hl with e|⟨_,hl⟩
         ·omega
         ·exact h1.parK c hc hl
        own:=λc g cp hc hl hk=>by
         rcases hcase c hl with e|⟨hcs,hl⟩
         ·subst e;simp[κ']at hk;exact h0.own b g cp hb1 hLb hk
         ·rw[hκ c hl]at hk;exact h1.own c g cp hc hl hk
        inj:=λc c' g cp cp' hl hl' hk hk'=>by
         rcases hcase c hl with e|⟨hcs,hl1⟩
         · subst e;simp[κ']at hk;rcases hcase c' hl' with e|⟨hcs',hl'⟩
           ·exact e.symm
           simp_all
         · rw[hκ c hl1]at hk;rcases hcase c' hl' with e|⟨hcs',hl2⟩
           ·grind
           ·rw[hκ c' hl2]at hk';exact h1.inj c c' g cp cp' hl1 hl2 hk hk'
        ents:=λc en hc=>by
         simp only[fs,look]at hc;by_cases hcs:c=s
         · subst hcs;simp at hc;subst hc;have hkb:κ' c=κ b:=by simp[κ']
           rw[hkb];exact hE0.handed (λ_ h=>h) (λg cp hk=>by rw[hk]at hE0;exact hE0.notS) (λhb'=>by simp_all)
         · rw[if_neg hcs]at hc;have hl:((fs st1).2 c).isSome=true:=by simp[fs,hc]
           have hE:=h1.ents c en hc;rw[hκ c hl];refine hE.mono (λ_ h=>h) (λ_ _=>rfl) hD hκ (λg cp hk=>⟨rfl,?_⟩);rw[hk]at hE;exact hE.notS
        slots:=λk=>by
         simp only[fs,get];by_cases hks:k=s
         · subst hks;rw[if_pos rfl];generalize a.tmps.getD k undef=q at hslot
           cases hslot with
           |c h=>cases h
           |row0 _ _ hd hk=>exact .row0 k _ (by simp[look]) (by simp[κ',hk])
           |row _ _ _ _ g cp off' cap hd hk hnc ho hcc=>exact .row k _ 0 _ g cp off' cap (by simp[look]) (by simp[κ',hk]) hnc ho hcc
         · rw[if_neg hks]
           exact(h1.slots k).mono (λ_ h=>h) (λ_ _=>rfl) hD hκ }⟩
     ·exact h
 ·exact zDV hs h _
 ·exact h
theorem zCA{a:Act}{w:World}:∀(l:List (Nat×Nat×TypeId)) (st:St),GoodF w0 S0 κ0 K N (fs st) a w->GoodF w0 S0 κ0 K N (fs (ownAll l st)) a w
 |[],_,h=>h
 |_::l,_,h=>zCA l _ (own1_good h)
theorem zCo{a:Act}{w:World}:∀(l:List Nat) (st:St),GoodF w0 S0 κ0 K N (fs st) a w->GoodF w0 S0 κ0 K N (fs (delAll l st)) a w
 |[],_,h=>h
 |b::l,_,h=>zCo l _ (h.del b)
theorem zGJ(p:Nat×Ent):∀(m:Mem) (b:Nat),look (insM p m) b=if b=p.1 then some p.2 else look m b
 |[],b=>by obtain⟨j,e⟩:=p;simp only[insM,look]
 |(j,e)::r,b=>by
   simp only[insM];split
   ·obtain⟨i,e'⟩:=p;simp only[look]
   · rename_i hle;simp only[look,zGJ p r b]
     grind
theorem zuh:∀(m:Mem) (b:Nat),look (sortM m) b=look m b
 |[],_=>rfl
 |(j,e)::r,b=>by simp only[sortM,zGJ,look,zuh r b]
theorem GoodF.sorted{st:St}{a:Act}{w:World}(h:GoodF w0 S0 κ0 K N (fs st) a w):GoodF w0 S0 κ0 K N (fs { st with m:=sortM st.m }) a w:=by
 have:fs { st with m:=sortM st.m }=fs st:=by unfold fs;simp only;congr 1;funext b;exact zuh st.m b
 rw[this];exact h
theorem zxj{bs:List Nat}{st:St}{a:Act}{w:World}(h:GoodF w0 S0 κ0 K N (fs st) a w)(hN:N<=1000)(hb:∀b∈bs,b<1000/\(look st.m b).isSome=true):GoodF w0 S0 κ0 K N (fs (zeH bs st)) a w:=by
 obtain⟨S,κ,hg⟩:=h
 let o:Oper:={ dst:=none,op:=.move (.const undef),type:=0,pos := "",after:=#[],guard:=none }
 let r:Res:={ val:=.v undef,frz:=bs }
 let S1:Nat->Prop:=λg=>S g\/∃b c,b∈bs/\(look st.m b).isSome=true/\κ b=some (g,c)
 have he:EffAt S κ (λb=>(look st.m b).isSome=true) w S1 κ r undef w:={
  os:=rfl
  tape:=rfl
  output:=.of
  size:=zaX _
  blk:=λ_ _ _=>rfl
  sup:=λ_ h=>.inl h
  snew:=λg hs=>by grind
  slt:=λg hs=>by
   rcases hs with h1|⟨b,c,h1,h2,h3⟩
   ·exact hg.slt g h1
   ·obtain⟨ent,he⟩:=zaI.1 h2;have:=hg.ents b ent he;rw[h3]at this;exact this.lt
  sfrz:=λb hm g c hk=>.inr ⟨b,c,hm,(hb b hm).2,hk⟩
  kold:=λ_ _ _=>rfl
  kout:=λ_ _=>rfl
  knew:=λb _ hm=>by simp[ids,r]at hm
  one:=λb b' _ _ hm=>by simp[ids,r]at hm
  res:=λb hb=>by cases hb
  ents:=λb ent hm=>by simp[r]at hm
  val:=.c (.v _) }
 have hd:Dis (λb=>(look st.m b).isSome=true) r:=λb hm=>⟨(hb b hm).2,by simp[ids,r],by simp[r]⟩
 have hs:Shape o (look st.m) r:=⟨λb h=>by simp[r]at h,λb h=>by simp[ids,r]at h,λb h=>(hb b h).1,λb h=>by simp[r]at h⟩
 have h2:=hg.apply (o:=o) hN rfl he hd hs;refine⟨S1,κ,?_⟩
 have e1:applyT none r (get st.t) (look st.m)=get (zeH bs st).t:=by
  funext k
  cases bs with
  |nil=>rfl
  |cons c cs=>simp only[applyT,zeH,zwz];rfl
 have e2:applyL r (look st.m)=look (zeH bs st).m:=by
  funext k
  cases bs with
  |nil=>rfl
  |cons c cs=>simp only[applyL,zeH,zu8];rfl
 simp only[fs];rw[<-e1,<-e2];exact h2
theorem zAS{l:List Nat}{st:St}{a:Act}{w:World}(h:GoodF w0 S0 κ0 K N (fs st) a w)(hN:N<=1000):GoodF w0 S0 κ0 K N (fs (znu l st)) a w:=by
 unfold znu;split
 ·exact h
 · split
   · rename_i hc;refine zxj h hN (λb hb=>?_)
     simp_all
   ·exact h
theorem tidy_good{A:Ann}{id:Nat}{st:St}{a:Act}{w:World}(h:GoodF w0 S0 κ0 K N (fs st) a w)(hN:N<=1000):GoodF w0 S0 κ0 K N (fs (tidy A id st)) a w:=by
 have h1:=zAv (A.cel id) _ (zCA (A.own id) _ (zAS (l:=A.fz id) h hN));unfold tidy;simp only;split
 ·rename_i l _;exact GoodF.sorted (zCo _ _ (GoodF.forget (y:=fs { zr9 (A.cel id) (ownAll (A.own id) (znu (A.fz id) st))with t:=zle l (zr9 (A.cel id) (ownAll (A.own id) (znu (A.fz id) st))).t }) h1 (λk=>zy5 _ _ k) rfl))
 ·exact h1
def Ex.toExit:Ex->Exit
 |.normal=>.normal
 |.exit id=>.exit id
 |.ret=>.ret
def PostC(w0:World)(S0:Nat->Prop)(κ0:Kap)(K:Nat->Prop)(N:Nat)(ex:Ex)(st:St)(e:Exit)(a:Act)(w:World):Prop:=e=ex.toExit/\GoodF w0 S0 κ0 K N (fs st) a w
theorem zFj{c:Code}{step:St->Option (Ex×St)}(hstep:∀st ex st',step st=some (ex,st')->∀a w,GoodF w0 S0 κ0 K N (fs st) a w->c.wp P (PostC w0 S0 κ0 K N ex st') a w):∀(n:Nat) (st:St) (ex:Ex) (st':St),iter n step st=some (ex,st')->∀a w,GoodF w0 S0 κ0 K N (fs st) a w->Code.rounds P c (PostC w0 S0 κ0 K N ex st') n a w
 |0,st,ex,st',h,_,_,_=>by simp[iter]at h
 |n+1,st,ex,st',h,a,w,hg=>by
   rw[rounds_succ];simp only[iter]at h
   cases hs:step st with
   |none=>simp[hs]at h
   |some q =>
     obtain⟨e1,st1⟩:=q;rw[hs]at h;have hw:=hstep st e1 st1 hs a w hg
     cases e1 with
     |normal =>
       simp only at h;refine wp_mono hw ?_
       rintro e a' w' ⟨rfl,hg'⟩
       exact zFj hstep n st1 ex st' h a' w' hg'
     |exit id =>
       simp only[zaf,zav]at h;obtain⟨rfl,rfl⟩:=h;refine wp_mono hw ?_
       rintro e a' w' ⟨rfl,hg'⟩
       exact⟨rfl,hg'⟩
     |ret =>
       simp only[zaf,zav]at h;obtain⟨rfl,rfl⟩:=h;refine wp_mono hw ?_
       rintro e a' w' ⟨rfl,hg'⟩
       exact⟨rfl,hg'⟩
theorem zCj{A:Ann}{call:zcv}{n:Nat}(hcall:CallOK P call)(hN:N<=1000):∀(c:Code) (st:St) (ex:Ex) (st':St),aeval P C A N call (iter n) c st=some (ex,st')->∀a w,GoodF w0 S0 κ0 K N (fs st) a w->c.wp P (PostC w0 S0 κ0 K N ex st') a w:=by
 intro c
 induction c with
 |skip=>intro st ex st' h a w hg;simp[aeval]at h;obtain⟨rfl,rfl⟩:=h;exact wp_skip ⟨rfl,hg⟩
 |region id ops draw =>
   intro st ex st' h a w hg;simp only[aeval]at h;split at h
   ·rename_i st1 h1;simp only[zaf,zav]at h;obtain⟨rfl,rfl⟩:=h;exact zA6 hcall hN h1 (zAS hg hN) (λa' w' hg'=>⟨rfl,tidy_good hg' hN⟩)
   ·cases h
 |seq x y ihx ihy =>
   intro st ex st' h a w hg;simp only[aeval]at h;refine wp_seq ?_
   cases hx:aeval P C A N call (iter n) x st with
   |none=>simp[hx]at h
   |some q =>
     obtain⟨e1,st1⟩:=q;rw[hx]at h;have hw:=ihx st e1 st1 hx a w hg
     cases e1 with
     |normal =>
       simp only at h;refine wp_mono hw ?_
       rintro e a' w' ⟨rfl,hg'⟩
       exact ihy st1 ex st' h a' w' hg'
     |exit id =>
       simp only[zaf,zav]at h;obtain⟨rfl,rfl⟩:=h;refine wp_mono hw ?_
       rintro e a' w' ⟨rfl,hg'⟩
       exact⟨rfl,hg'⟩
     |ret =>
       simp only[zaf,zav]at h;obtain⟨rfl,rfl⟩:=h;refine wp_mono hw ?_
       rintro e a' w' ⟨rfl,hg'⟩
       exact⟨rfl,hg'⟩
 |cond c x y ihx ihy =>
   intro st ex st' h a w hg;simp only[aeval]at h;split at h
   case h_2=>cases h
   rename_i b hb
   have hev:a.eval c=.bool b:=by
    obtain⟨S,κ,hg'⟩:=hg
    cases c with
    |tmp k=>have:=hg'.slots k;simp only[fs]at this;simp only[ev]at hb;rw[hb]at this;exact this.v_inv
    |const v=>simp only[ev]at hb;cases hb;rfl
    |func f=>simp[ev]at hb
    |global g=>simp[ev]at hb
   refine wp_cond hev ?_
   grind
 |block id c ih =>
   intro st ex st' h a w hg;simp only[aeval]at h;refine wp_block ?_
   cases hx:aeval P C A N call (iter n) c st with
   |none=>simp[hx]at h
   |some q =>
     obtain⟨e1,st1⟩:=q;rw[hx]at h;have hw:=ih st e1 st1 hx a w hg;refine wp_mono hw ?_
     rintro e a' w' ⟨rfl,hg'⟩
     cases e1 with
     |normal=>simp only[zaf,zav]at h;obtain⟨rfl,rfl⟩:=h;exact⟨rfl,hg'⟩
     |exit j =>
       simp only at h;show Exit.inBlock id _ (.exit j) a' w';simp only[Exit.inBlock];split at h
       ·rename_i hj;simp only[zaf,zav]at h;obtain⟨rfl,rfl⟩:=h;rw[if_pos hj];exact⟨rfl,hg'⟩
       ·rename_i hj;simp only[zaf,zav]at h;obtain⟨rfl,rfl⟩:=h;rw[if_neg hj];exact⟨rfl,hg'⟩
     |ret=>simp only[zaf,zav]at h;obtain⟨rfl,rfl⟩:=h;exact⟨rfl,hg'⟩
 |loop c ih=>intro st ex st' h a w hg;simp only[aeval]at h;exact wp_loop_rounds n (zFj ih n st ex st' h a w hg)
 |exit id=>intro st ex st' h a w hg;simp[aeval]at h;obtain⟨rfl,rfl⟩:=h;exact wp_exit ⟨rfl,hg⟩
 |ret=>intro st ex st' h a w hg;simp[aeval]at h;obtain⟨rfl,rfl⟩:=h;exact wp_ret ⟨rfl,hg⟩
 |rangeFunc=>intro st ex st' h;simp[aeval]at h
 |scope=>intro st ex st' h;simp[aeval]at h
 |label=>intro st ex st' h;simp[aeval]at h
 |goto=>intro st ex st' h;simp[aeval]at h
 |refuse=>intro st ex st' h;simp[aeval]at h
end
end Go.Ab
namespace Go.Ab
open Go.RowKit
variable[Dr]
def single(f0:FuncId)(o:zcv):zcv:=λf a m=>if f=f0 then o f a m else none
def orcG(P:Program)(o:zcv):zcv:=λf a m=>@ite _ (CallOK P (single f o)) (Classical.propDecidable _) (o f a m) none
theorem orcG_ok(P:Program)(o:zcv):CallOK P (orcG P o):=by
 intro f args ms r ms' h;unfold orcG at h;split at h
 ·rename_i hok;exact hok f args ms r ms' (by unfold single;grind)
 ·cases h
theorem orcG_none{P:Program}{o:zcv}{f:FuncId}{a:List AV}{m:Mem}(h:o f a m=none):orcG P o f a m=none:=by
 unfold orcG
 simp_all
theorem orcG_some{P:Program}{o:zcv}{f:FuncId}{a:List AV}{m:Mem}{r:AV×Mem}(hok:CallOK P (single f o))(h:o f a m=some r):orcG P o f a m=some r:=by
 unfold orcG
 grind
def acall(P:Program)(C:Cfg)(A:AnnF):Nat->zcv
 |0,_,_,_=>none
 |n+1,f,args,ms=>match orcG P C.orc f args ms with
  |some r=>some r
  |none=>match P.funcs[f]? with
   |none=>none
   |some fn=>match fn.body with
     |none=>none
     |some c=>if fn.ntmps<=1000/\args.length<=fn.ntmps/\enters P f=true then
       (match aeval P C (A f) fn.ntmps (acall P C A n) (iter n) c { t:=argTab 0 args,m:=ms }with
       |some (.exit _,_)=>none
       |some (_,st)=>match ziU P (A f).frz fn st,zoR st.m ms with
         |some r,some ms'=>zxv r ms'
         |_,_=>none
       |none=>none)else none
section
variable{P:Program}{C:Cfg}{A:AnnF}
theorem zJm{S:Nat->Prop}{κ:Kap}{D:Nat->Prop}{w:World}{st:St}{tm:Array Value}(hT:∀k,VRel S κ D w (get st.t k) (tm.getD k undef))(hL:∀b ent,look st.m b=some ent->EntAt S κ D w (κ b) ent)
  {rv:ResultVar} {a:AV} (h:resVar P st rv=some a):∃x,((match rv with|.tmp t=>pure (tm.getD t undef)|.cell p t=>do loadVar t (<-asAddr (tm.getD p undef)):Sem Value)).run P w=.ok x w/\VRel S κ D w a x:=by
 cases rv with
 |tmp t =>
   simp only[resVar]at h;split at h
   ·cases h
   · rename_i a' ha;injection h with h;subst h
     simp_all
 |cell p t =>
   simp only[resVar]at h;split at h
   case h_2=>cases h
   rename_i r hr;injection h with h;subst h;have hp:=hT p;obtain⟨y,h1,h2,_⟩:=zCf hr hp hL;refine⟨y,?_,h2⟩
   have hptr:∃ad,tm.getD p undef=.pointer (some ad):=by
    generalize tm.getD p undef=q at hp;generalize get st.t p=av at hp hr;cases av<;>simp[aLoad]at hr
    case fp cs=>have:=hp.fp_inv;cases this;exact⟨_,rfl⟩
    case loc b z i o=>obtain⟨g,c,_,_,rfl⟩:=hp.loc_inv;exact⟨_,rfl⟩
   obtain⟨ad,had⟩:=hptr;rw[had]at h1;show(do loadVar t (<-asAddr (tm.getD p undef)):Sem Value).run P w=_;rw[had];simpa[Instr.loadAt,Instr.sureAddr,asAddr]using h1
theorem ztE{S:Nat->Prop}{κ:Kap}{D:Nat->Prop}{w:World}{st:St}{tm:Array Value}(hT:∀k,VRel S κ D w (get st.t k) (tm.getD k undef))(hL:∀b ent,look st.m b=some ent->EntAt S κ D w (κ b) ent){fn:Func}{l:List AV}
  (h:mapO (resVar P st) fn.results.toList=some l):∃x,(results fn tm).run P w=.ok x w/\((∃a,l=[a]/\VRel S κ D w a x)\/(l.length≠1/\VRel S κ D w (.tup l) x)):=by
 obtain⟨h1,h2⟩:=zmq h
 let f:ResultVar->Sem Value:=λrv=>match rv with|.tmp t=>pure (tm.getD t undef)|.cell p t=>do loadVar t (<-asAddr (tm.getD p undef))
 have key:∀(rs:List ResultVar) (l:List AV),l.length=rs.length->(∀(j:Nat) (rv:ResultVar),rs[j]?=some rv->∃b,l[j]?=some b/\resVar P st rv=some b)->∃vs:List Value,(rs.mapM f).run P w=.ok vs w/\vs.length=l.length/\∀(j:Nat) (c:AV) (x:Value),l[j]?=some c->vs[j]?=some x->VRel S κ D w c x:=by
  intro rs
  induction rs with
  |nil=>simp_all
  |cons rv rs ih =>
    intro l hl hr
    cases l with
    |nil=>simp at hl
    |cons a l =>
      obtain⟨b,hb,hrv⟩:=hr 0 rv rfl;simp at hb;subst hb;obtain⟨x,hx,hv⟩:=zJm hT hL hrv;obtain⟨vs,e1,e2,e3⟩:=ih l (by simpa using hl) (λj rv' hj=>by simpa using hr (j+1) rv' (by simpa using hj));refine⟨x::vs,?_,by simp[e2],λj c y hj hy=>?_⟩
      · have hx':(f rv).run P w=.ok x w:=hx
        simp_all
      grind
 obtain⟨vs,e1,e2,e3⟩:=key fn.results.toList l h1 h2
 have hm:(fn.results.mapM f).run P w=.ok vs.toArray w:=by
  obtain⟨rl⟩:∃rl:List ResultVar,fn.results=rl.toArray:=⟨fn.results.toList,by simp⟩
  rename_i hrl;rw[hrl,List.mapM_toArray];rw[hrl]at e1;simp only at e1;simp only[Sem.run_map,e1,Result.andThen_ok]
 by_cases hl1:vs.length=1
 · match vs,hl1 with
   |[x],_ =>
     match l,e2 with
     |[a],_ =>
       refine⟨x,?_,.inl ⟨a,rfl,e3 0 a x rfl rfl⟩⟩
       have:(results fn tm).run P w=((fn.results.mapM f).run P w).andThen λvs w'=>.ok (if h:vs.size=1 then vs[0]else .tuple vs) w':=by simp only[results,Sem.run_bind];rfl
       rw[this,hm];rfl
 · refine⟨.tuple vs.toArray,?_,.inr ⟨by omega,.tup l _ (by simpa using e2) (λj c x hj hx=>e3 j c x hj (by simpa using hx))⟩⟩
   have:(results fn tm).run P w=((fn.results.mapM f).run P w).andThen λvs w'=>.ok (if h:vs.size=1 then vs[0]else .tuple vs) w':=by simp only[results,Sem.run_bind];rfl
   simp_all
theorem ztm{is:List Nat}{m:Mem}:∀{ms ms':Mem},zka is m ms=some ms'->(∀c,(look ms c).isSome=true->900<=c->c<950->(look ms' c).isSome=true)/\∀b ent,look ms' b=some ent->(look ms b).isSome=true/\look m b=some ent/\((1000<=b/\(ent.box=false\/allL (λcs=>allL (λa=>a.isC 4||nref is a) cs) ent.es=true))\/(900<=b/\b<950/\ent.box=false))
 |[],ms',h=>by simp[zka]at h;subst h;simp[look]
 |(k,e)::r,ms',h=>by
   have lift:∀{l:Mem} {en:Ent},zka is m r=some l->look m k=some en->((1000<=k/\(en.box=false\/allL (λcs=>allL (λa=>a.isC 4||nref is a) cs) en.es=true))\/(900<=k/\k<950/\en.box=false))->ms'=(k,en)::l->(∀c,(look ((k,e)::r) c).isSome=true->900<=c->c<950->(look ms' c).isSome=true)/\∀b ent,look ms' b=some ent->(look ((k,e)::r) b).isSome=true/\look m b=some ent/\((1000<=b/\(ent.box=false\/allL (λcs=>allL (λa=>a.isC 4||nref is a) cs) ent.es=true))\/(900<=b/\b<950/\ent.box=false)):=by
    intro l en hr hk hc he;obtain⟨i1,i2⟩:=ztm hr;subst he;refine⟨λc h1 h2 h3=>?_,λb ent hb=>?_⟩
    · simp only[look]at h1 ⊢
      grind
    · simp only[look]at hb ⊢
      grind
   simp only[zka]at h;split at h
   · rename_i hlt;split at h
     ·grind
     · rename_i hn;obtain⟨i1,i2⟩:=ztm h;refine⟨λc h1 h2 h3=>?_,λb ent hb=>?_⟩
       · refine i1 c ?_ h2 h3;simp only[look]at h1
         grind
       · obtain⟨q1,q2⟩:=i2 b ent hb;refine⟨?_,q2⟩;simp only[look]
         grind
   grind
theorem zyo{S S':Nat->Prop}{κ:Kap}{D D':Nat->Prop}{w:World}{kb:Option (Nat×Nat)}{ent:Ent}(h:EntAt S κ D w kb ent)(hS:∀g,S g->S' g)
  (hn:∀g c,kb=some (g,c)->¬S' g) (hcl:ent.box=true->∀cs∈ent.es,∀a∈cs,∀x,VRel S κ D w a x->VRel S' κ D' w a x):EntAt S' κ D' w kb ent:=by
 refine⟨λhc=>?_,λhc=>?_⟩
 · obtain⟨q1,q2⟩:=h.1 hc;refine⟨q1,?_⟩
   cases kb with
   |none=>exact q2
   |some gc=>obtain⟨g,c⟩:=gc;obtain⟨cells,c1,c2,c3,c4,c5,c6⟩:=q2;refine⟨cells,c1,c2,c3,c4,hn g c rfl,λi j cs a hi hj=>?_⟩;obtain⟨u,u1,u2,u3,u4⟩:=c6 i j cs a hi hj;exact⟨u,u1,u2,λhbx=>hcl hbx cs (zaq hi) a (zaq hj) u (u3 hbx),λhbx=>(u4 hbx).mono hS (λ_ _=>rfl)⟩
 ·exact(h.2 hc).mono hS (λ_ _=>rfl) (λg c hk=>⟨rfl,hn g c hk⟩)
theorem nref_keep{S S':Nat->Prop}{κ:Kap}{D D':Nat->Prop}{w:World}{is:List Nat}(hD:∀c∈is,900<=c->c<950->D' c){a:AV}{x:Value}(h:nref is a=true)(hv:VRel S κ D w a x):VRel S' κ D' w a x:=by
 cases a with
 |row c z off n =>
   cases off with
   |zero =>
     simp only[nref,zaO,decide_eq_true_eq]at h;have hd:=hD c (by simpa using h.2.2) h.1 h.2.1
     cases hv with
     |c h=>cases h
     |row0 _ _ hd' hk=>exact .row0 c z hd hk
     |row _ _ _ _ g cc off' cap hd' hk hn ho hc=>exact .row c z 0 n g cc off' cap hd hk hn ho hc
   |succ o=>simp[nref]at h
 |map c=>simp only[nref,zaO,decide_eq_true_eq]at h;have hd:=hD c (by simpa using h.2.2) h.1 h.2.1;obtain⟨g,cc,hd',hk,rfl⟩:=hv.map_inv;exact .map c g cc hd hk
 |_=>simp[nref]at h
theorem zx1:∀(args:List AV) (i k:Nat),get (argTab i args) k=if i<=k then(args[k-i]?).getD .bot else .bot
 |[],i,k=>by simp[argTab,get]
 |a::r,i,k=>by
   simp only[argTab,get];by_cases hk:k=i
   ·subst hk;simp
   · rw[if_neg hk,zx1 r (i+1) k]
     grind
theorem zqw{P:Program}{f:FuncId}{fn:Func}{c:Code}{frz:Bool}{args:List AV}{ms ms':Mem}{r:AV}{vals:Array Value}{w:World}{S:Nat->Prop}{κ:Kap}{ex:Ex}{st:St}(hf:P.funcs[f]?=some fn)(hb:fn.body=some c)(hargs:args.length<=fn.ntmps)
  (hvl:vals.size=args.length) (hS:∀g,S g->g<w.heap.size) (hv:∀(k:Nat) (a:AV) (x:Value),args[k]?=some a->vals[k]?=some x->VRel S κ (Dm ms) w a x)
  (hms:∀b ent,look ms b=some ent->EntAt S κ (Dm ms) w (κ b) ent) (hinj:∀b b' g c c',Dm ms b->Dm ms b'->κ b=some (g,c)->κ b'=some (g,c')->b=b')
  (hex:∀id,ex≠.exit id) (hwp:∀a,GoodF w S κ (Dm ms) fn.ntmps (fs { t:=argTab 0 args,m:=ms }) a w->c.wp P (PostC w S κ (Dm ms) fn.ntmps ex st) a w)
  (hres:ziU P frz fn st=some r) (hback:zoR st.m ms=some ms') (hpair:(ms'.all (λp=>decide (1000<=p.1))||r.flat 4)=true):Calls P f vals w (Left S κ ms ms' r w):=by
 refine calls_of_wp hf hb ?_
 have hgood:GoodF w S κ (Dm ms) fn.ntmps (fs { t:=argTab 0 args,m:=ms }) { tmps:=vals++Array.replicate (fn.ntmps-vals.size) undef,defers:=[] } w:=by
  refine⟨S,κ,{
   defers:=rfl
   size:=by simp;omega
   os:=rfl
   tape:=rfl
   output:=.of
   grow:=zaX _
   old:=λ_ _ _=>rfl
   sup:=λ_ h=>h
   snew:=λ_ h=>.inl h
   slt:=hS
   par:=λ_ _=>rfl
   parK:=λ_ _ h=>h
   own:=λb g c' hb' hl hk=>.inr ⟨b,c',hb',hl,hk⟩
   inj:=hinj
   ents:=λb ent he=>hms b ent he
   slots:=λk=>?_ }⟩
  simp only[fs];rw[zx1];simp only[zdh,if_true,zjn]
  cases hk:args[k]? with
  |none=>exact .bot _
  |some a =>
    have hlt:k<vals.size:=by have:=(zam.1 hk).1;omega
    have:(vals++Array.replicate (fn.ntmps-vals.size) undef).getD k undef=vals[k]:=by rw[zcH,zf0,if_pos hlt,zaU hlt];rfl
    rw[this];exact hv k a _ hk (zaU hlt)
 refine wp_mono (hwp _ hgood) ?_
 rintro e a' w' ⟨rfl,S1,κ1,hg⟩
 have hpost:a'.defers=[]/\∃v,(results fn a'.tmps).run P w'=.ok v w'/\Left S κ ms ms' r w (.returned v) w':=by
  refine⟨hg.defers,?_⟩;unfold ziU at hres;obtain⟨hbn,hbs⟩:=ztm hback;have hkeep:∀c,1000<=c->κ1 c=κ c:=λc hc=>hg.par c hc
  have hown:∀b g c,b<1000->Dm ms' b->κ1 b=some (g,c)->Mine w κ (Dm ms) g:=λb g c hb' hd hk=>by obtain⟨e,he⟩:=zaI.1 hd;exact hg.own b g c hb' (by simp[fs,(hbs b e he).2.1]) hk
  have hinj':∀b b' g c c',Dm ms' b->Dm ms' b'->κ1 b=some (g,c)->κ1 b'=some (g,c')->b=b':=λb b' g c c' hd hd' hk hk'=>by obtain⟨e,he⟩:=zaI.1 hd;obtain⟨e',he'⟩:=zaI.1 hd';exact hg.inj b b' g c c' (by simp[fs,(hbs b e he).2.1]) (by simp[fs,(hbs b' e' he').2.1]) hk hk'
  have hpar:∀(S2:Nat->Prop),(∀g,S1 g->S2 g)->(∀g,S2 g->S1 g\/(ms'.all (λp=>decide (1000<=p.1))=true/\∃b cp,b<1000/\(look st.m b).isSome=true/\κ1 b=some (g,cp)))->∀b ent,look ms' b=some ent->Dm ms b/\EntAt S2 κ1 (Dm ms') w' (κ1 b) ent:=by
   intro S2 h12 h21 b ent hbe;obtain⟨q1,q2,q3⟩:=hbs b ent hbe;have hE:=hg.ents b ent q2;refine⟨q1,zyo hE h12 (λg cp hk hs=>?_) (λhbx cs hcs a ha x hax=>?_)⟩
   · rw[hk]at hE;rcases h21 g hs with h|⟨hall,b',cp',hb',hl',hk'⟩
     ·exact hE.notS h
     · have:b=b':=hg.inj b b' g cp cp' (by simp[fs,q2]) hl' hk hk';have h2:=zbH.1 hall (b,ent) (zmU hbe)
       grind
   · rcases q3 with⟨_,h|h⟩|⟨_,_,h⟩
     ·grind
     · have h3:=zgZ (zgZ h cs hcs) a ha;simp only[zfd]at h3;rcases h3 with h3|h3
       ·exact .c ((zkY 4 h3 hax).mono h12 (λ_ _=>rfl))
       ·exact nref_keep (λc hc h1 h2=>hbn c (zi5 hc) h1 h2) h3 hax
     simp_all
  have out:∀(a:AV) (x:Value),VRel S1 κ1 (λb=>(look st.m b).isSome=true) w' a x->outOf frz st.m a=some r->(results fn a'.tmps).run P w'=.ok x w'->∃v,(results fn a'.tmps).run P w'=.ok v w'/\Left S κ ms ms' r w (.returned v) w':=by
   intro a x hax ho hrun;refine⟨x,hrun,x,?_⟩
   have same:RRel S1 κ (Dm ms) (Mine w κ (Dm ms)) w' r x->∃S' κ',Ending.returned x=Ending.returned x/\w'.os=w.os/\w'.tape=w.tape/\OutD w w'/\w.heap.size<=w'.heap.size/\(∀g,g<w.heap.size->(∀b c,Dm ms b->κ b≠some (g,c))->w'.heap[g]?=w.heap[g]?)/\(∀g,S g->S' g)/\(∀g,S' g->S g\/Mine w κ (Dm ms) g)/\(∀g,S' g->g<w'.heap.size)/\(∀b,1000<=b->κ' b=κ b)/\(∀b g c,b<1000->Dm ms' b->κ' b=some (g,c)->Mine w κ (Dm ms) g)/\(∀b b' g c c',Dm ms' b->Dm ms' b'->κ' b=some (g,c)->κ' b'=some (g,c')->b=b')/\(∀b ent,look ms' b=some ent->Dm ms b/\EntAt S' κ' (Dm ms') w' (κ' b) ent)/\RRel S' κ (Dm ms) (Mine w κ (Dm ms)) w' r x:=λhr=>⟨S1,κ1,rfl,hg.os,hg.tape,hg.output,hg.grow,hg.old,hg.sup,hg.snew,hg.slt,hkeep,hown,hinj',hpar S1 (λ_ h=>h) (λ_ h=>.inl h),hr⟩
   let S2:Nat->Prop:=λg=>S1 g\/∃b cp,b<1000/\(look st.m b).isSome=true/\κ1 b=some (g,cp)
   have frozen:CRel S2 w' r x->(∀z e es,r≠.new z e es)->(∀z e cs,r≠.newp z e cs)->(∀e es,r≠.newm e es)->∃S' κ',Ending.returned x=Ending.returned x/\w'.os=w.os/\w'.tape=w.tape/\OutD w w'/\w.heap.size<=w'.heap.size/\(∀g,g<w.heap.size->(∀b c,Dm ms b->κ b≠some (g,c))->w'.heap[g]?=w.heap[g]?)/\(∀g,S g->S' g)/\(∀g,S' g->S g\/Mine w κ (Dm ms) g)/\(∀g,S' g->g<w'.heap.size)/\(∀b,1000<=b->κ' b=κ b)/\(∀b g c,b<1000->Dm ms' b->κ' b=some (g,c)->Mine w κ (Dm ms) g)/\(∀b b' g c c',Dm ms' b->Dm ms' b'->κ' b=some (g,c)->κ' b'=some (g,c')->b=b')/\(∀b ent,look ms' b=some ent->Dm ms b/\EntAt S' κ' (Dm ms') w' (κ' b) ent)/\RRel S' κ (Dm ms) (Mine w κ (Dm ms)) w' r x:=by
    intro hr hn1 hn2 hn3;by_cases hall:ms'.all (λp=>decide (1000<=p.1))=true
    case neg =>
     have hfl:r.flat 4=true:=by simp only[zfd]at hpair;exact hpair.resolve_left hall
     refine same ?_;have hr1:CRel S1 w' r x:=zt9 4 hfl hr;unfold RRel;split
     ·cases hr
     ·cases hr
     ·grind
     ·grind
     ·grind
     ·exact hr1
    refine⟨S2,κ1,rfl,hg.os,hg.tape,hg.output,hg.grow,hg.old,λg h=>.inl (hg.sup g h),?_,?_,hkeep,hown,hinj',hpar S2 (λ_ h=>.inl h) (λ_ h=>h.imp id (λq=>⟨hall,q⟩)),?_⟩
    · intro g h;rcases h with h|⟨b,cp,hb',hl,hk⟩
      ·exact hg.snew g h
      ·exact .inr (hg.own b g cp hb' hl hk)
    · intro g h;rcases h with h|⟨b,cp,hb',hl,hk⟩
      ·exact hg.slt g h
      ·obtain⟨ent,he⟩:=zaI.1 hl;have:=hg.ents b ent he;rw[hk]at this;exact this.lt
    · unfold RRel;split
      ·cases hr
      ·cases hr
      ·grind
      ·grind
      ·grind
      ·exact hr
   have hLL:∀b ent,(λb=>if b<1000 then look st.m b else none) b=some ent->EntAt S1 κ1 (λb=>(look st.m b).isSome=true) w' (κ1 b) ent:=λb ent hbe=>by
    simp only at hbe;split at hbe
    ·exact hg.ents b ent hbe
    ·cases hbe
   have snapped:∀a',snap (λb=>if b<1000 then look st.m b else none) 5 a=some a'->CRel S2 w' a' x:=by
    intro a'' hs;refine zlo hLL (λ_ h=>.inl h) 5 hax hs (λb hbm g cp hk=>.inr ⟨b,cp,?_,?_,hk⟩)
    · have:=snap_ids 5 a a'' hs b hbm
      grind
    ·exact ids_D hLL 5 a x hax b hbm
   unfold outOf at ho;simp only at ho;split at ho
   · rename_i b z off m;split at ho
     · rename_i hge;split at ho
       case isFalse=>cases ho
       rename_i hc;injection ho with ho;subst ho;refine same ?_;have hD:Dm ms b:=hg.parK b hge hc.2;have hke:=hg.par b hge;show VRel S1 κ (Dm ms) w' (.row b z off m) x
       cases hax with
       |c h=>cases h
       |row0 _ _ hd hk=>exact .row0 b z hD (by rw[<-hke];exact hk)
       |row _ _ _ _ g c off' cap hd hk hn ho hc=>exact .row b z off m g c off' cap hD (by rw[<-hke];exact hk) hn ho hc
     split at ho
     case h_2=>cases ho
     rename_i ent hle;split at ho
     · rename_i hc;obtain⟨_,hz,rfl,hm,hbx,hzp⟩:=hc;injection ho with ho;subst ho
       have hb1:b<1000/\look st.m b=some ent:=by
        split at hle
        ·grind
        ·cases hle
       refine same ?_;have hE:=hg.ents b ent hb1.2
       cases hax with
       |c h=>cases h
       |row0 _ _ hd hk=>rw[hk]at hE;exact⟨hzp,.inl ⟨rfl,(hE.1 (.inr (by omega))).2.1⟩⟩
       |row _ _ _ _ g cp off' cap hd hk hnc ho' hcc =>
         rw[hk]at hE;have hcap:=hcc rfl;subst hcap
         have hoff:off'=0:=by
          rcases ho' with h|⟨_,h⟩
          ·simpa using h
          ·exact absurd rfl h
         subst hoff;refine⟨hzp,.inr ⟨g,cap,hg.own b g cap hb1.1 (by simp[fs,hb1.2]) hk,by rw[hm],?_⟩⟩;obtain⟨z1,cells,q1,q2,q3,q4,q5,q6⟩:=hE.1 (.inr (by omega));subst hz;refine EntAt.of (.inr hzp) ⟨z1,cells,q1,q2,q3,zbP q4 ent.cap_le,q5,λi j cs av hi hj=>?_⟩
         grind
     ·have hcr:=snapped r ho;refine frozen hcr (λz e es hr=>by rw[hr]at hcr;cases hcr) (λz e cs hr=>by rw[hr]at hcr;cases hcr) (λe es hr=>by rw[hr]at hcr;cases hcr)
   · rename_i b z i o;split at ho
     · rename_i hge;split at ho
       case isFalse=>cases ho
       rename_i hc;injection ho with ho;subst ho;refine same ?_;have hD:Dm ms b:=hg.parK b hge hc;have hke:=hg.par b hge;show VRel S1 κ (Dm ms) w' (.loc b z i o) x
       cases hax with
       |c h=>cases h
       |loc _ _ _ _ g c hd hk=>exact .loc b z i o g c hD (by rw[<-hke];exact hk)
     split at ho
     case h_2=>cases ho
     rename_i ent hle;split at ho
     case isFalse=>cases ho
     rename_i hc;obtain⟨hz,hbx,rfl,rfl⟩:=hc;split at ho
     case h_2=>cases ho
     rename_i cs hes;split at ho
     case isFalse=>cases ho
     rename_i hC;injection ho with ho;subst ho
     have hb1:b<1000/\look st.m b=some ent:=by
      split at hle
      ·grind
      ·cases hle
     refine same ?_;have hE:=hg.ents b ent hb1.2;obtain⟨g,cp,hd,hk,rfl⟩:=hax.loc_inv;rw[hk]at hE;refine⟨g,cp,hg.own b g cp hb1.1 hd hk,by simp,?_⟩;obtain⟨z1,cells,q1,q2,q3,q4,q5,q6⟩:=hE.1 (.inl hbx);subst hz;rw[hes]at z1 q3 q6;refine EntAt.of (.inl rfl) ⟨z1,cells,q1,q2,q3,by simpa[Ent.cap,hbx]using q4,q5,λi j cs' av hi hj=>?_⟩;obtain⟨u,u1,u2,u3,_⟩:=q6 i j cs' av hi hj;refine⟨u,u1,u2,λ_=>.c ?_,λhb'=>by cases hb'⟩
     have:cs'=cs:=by
      cases i with
      |zero=>simpa using hi.symm
      |succ i=>simp at hi
     subst this;exact zkY 4 (zgZ hC av (zaq hj)) (u3 hbx)
   · rename_i b;split at ho
     case isTrue=>cases ho
     split at ho
     case h_2=>cases ho
     rename_i ent hle;split at ho
     · rename_i hc;obtain⟨_,hz,hbx⟩:=hc;injection ho with ho;subst ho
       have hb1:b<1000/\look st.m b=some ent:=by
        split at hle
        ·grind
        ·cases hle
       refine same ?_;have hE:=hg.ents b ent hb1.2;obtain⟨g,cp,hd,hk,rfl⟩:=hax.map_inv;rw[hk]at hE;exact⟨g,cp,hg.own b g cp hb1.1 hd hk,rfl,EntAt.ofMap rfl rfl (hE.2 (zxs hz hbx))⟩
     ·have hcr:=snapped r ho;refine frozen hcr (λz e es hr=>by rw[hr]at hcr;cases hcr) (λz e cs hr=>by rw[hr]at hcr;cases hcr) (λe es hr=>by rw[hr]at hcr;cases hcr)
   ·have hcr:=snapped r ho;refine frozen hcr (λz e es hr=>by rw[hr]at hcr;cases hcr) (λz e cs hr=>by rw[hr]at hcr;cases hcr) (λe es hr=>by rw[hr]at hcr;cases hcr)
  have first:∀(a:AV) (x:Value),VRel S1 κ1 (λb=>(look st.m b).isSome=true) w' a x->out1 P frz (fn.resultTypes.getD 0 0) st.m a=some r->(results fn a'.tmps).run P w'=.ok x w'->∃v,(results fn a'.tmps).run P w'=.ok v w'/\Left S κ ms ms' r w (.returned v) w':=by
   intro a x hax ho hrun;unfold out1 at ho;split at ho
   · split at ho
     case h_2=>cases ho
     split at ho
     case h_2=>cases ho
     split at ho
     case isFalse=>cases ho
     rename_i hzp;injection ho with ho;subst ho;have:=hax.v_inv;subst this;exact⟨_,hrun,_,S1,κ1,rfl,hg.os,hg.tape,hg.output,hg.grow,hg.old,hg.sup,hg.snew,hg.slt,hkeep,hown,hinj',hpar S1 (λ_ h=>h) (λ_ h=>.inl h),hzp,.inl ⟨rfl,rfl⟩⟩
   ·exact out _ x (zuu hax) ho hrun
  split at hres
  · rename_i a hl;obtain⟨x,hx,h⟩:=ztE (P:=P) hg.slots hg.ents hl;rcases h with⟨a2,he,hv2⟩|⟨hne,_⟩
    ·injection he with he;subst he;exact first a x hv2 hres hx
    grind
  · rename_i l hne hl;obtain⟨x,hx,h⟩:=ztE (P:=P) hg.slots hg.ents hl;rcases h with⟨a2,he,hv2⟩|⟨_,hv2⟩
    ·grind
    ·refine out _ x ?_ hres hx;obtain⟨vs,rfl,hl1,hr1⟩:=hv2.tup_inv;exact .tup _ vs (by rw[zlC];exact hl1) (nrmA_rel hr1)
  ·cases hres
 cases ex with
 |normal=>exact hpost
 |ret=>exact hpost
 |exit id=>grind
theorem zJH:∀n,CallOK P (acall P C A n):=by
 intro n
 induction n with
 |zero=>intro f args ms r ms' h;simp[acall]at h
 |succ n ih =>
   intro f args ms r ms' h;simp only[acall]at h
   cases ho:orcG P C.orc f args ms with
   |some r0=>simp only[ho,zaf]at h;subst h;exact orcG_ok P C.orc f args ms r ms' ho
   |none =>
   simp only[ho]at h
   cases hf:P.funcs[f]? with
   |none=>simp[hf]at h
   |some fn =>
     simp only[hf]at h
     cases hb:fn.body with
     |none=>simp[hb]at h
     |some c =>
       simp only[hb]at h;split at h
       case isFalse=>cases h
       rename_i hcond;obtain⟨hN,hargs,hent⟩:=hcond;refine⟨hent,?_⟩;intro w S κ vals hvl hS hv hms hinj
       have fin:∀(ex:Ex) (st:St),(∀id,ex≠.exit id)->aeval P C (A f) fn.ntmps (acall P C A n) (iter n) c { t:=argTab 0 args,m:=ms }=some (ex,st)->ziU P (A f).frz fn st=some r->zoR st.m ms=some ms'->(ms'.all (λp=>decide (1000<=p.1))||r.flat 4)=true->Calls P f vals w (Left S κ ms ms' r w):=by intro ex st hex hev hres hback hpair;exact zqw hf hb hargs hvl hS hv hms hinj hex (λa hg=>zCj ih hN c _ ex st hev a w hg) hres hback hpair
       split at h
       ·cases h
       · rename_i ex st hne hev;split at h
         · rename_i r' ms1 hr hm;unfold zxv at h
           grind
         ·cases h
       ·cases h
end
end Go.Ab
namespace Go.Ab
open Go.RowKit
variable[Dr]
open Classical in
def supO{α:Type}(f:Nat->Option α):Option α:=if h:∃n r,f n=some r then f h.choose else none
def MonoO{α:Type}(f:Nat->Option α):Prop:=∀n m r,n<=m->f n=some r->f m=some r
theorem zxy{α:Type}{f:Nat->Option α}(hm:MonoO f){n:Nat}{r:α}(h:f n=some r):supO f=some r:=by
 have he:∃n r,f n=some r:=⟨n,r,h⟩
 unfold supO;rw[dif_pos he];obtain⟨r',hr'⟩:=he.choose_spec;rcases Nat.le_total n he.choose with hle|hle
 ·exact hm _ _ _ hle h
 · have:=hm _ _ _ hle hr'
   simp_all
theorem zoF{α:Type}{f:Nat->Option α}{r:α}(h:supO f=some r):∃n,f n=some r:=by
 unfold supO at h;split at h
 ·grind
 ·cases h
def callw(P:Program)(C:Cfg)(A:AnnF):zcv:=λf args ms=>supO λn=>acall P C A n f args ms
def itw:Go.Ab.Loop:=λstep st=>supO λn=>iter n step st
def LeC(c c':zcv):Prop:=∀f args ms r,c f args ms=some r->c' f args ms=some r
def LeS(s s':St->Option (Ex×St)):Prop:=∀st r,s st=some r->s' st=some r
def LeI(i i':Go.Ab.Loop):Prop:=∀s s',LeS s s'->LeS (i s) (i' s')
theorem zkZ{n m:Nat}(h:n<=m):LeI (iter n) (iter m):=by
 intro s s' hs
 induction n generalizing m with
 |zero=>intro st r hr;simp[iter]at hr
 |succ n ih =>
   cases m with
   |zero=>omega
   |succ m =>
     intro st r hr;simp only[iter]at hr ⊢
     cases hq:s st with
     |none=>simp[hq]at hr
     |some q =>
       rw[hs st q hq];rw[hq]at hr;obtain⟨e,st1⟩:=q
       cases e with
       |normal=>simp only at hr ⊢;exact ih (by omega) st1 r hr
       |_=>exact hr
section
variable{P:Program}{C:Cfg}{M:List Nat}{N:Nat}{ops:Array Oper}{A:Ann}
theorem zEd{c c':zcv}(h:LeC c c'){L:Nat->Option Ent}{d:Option Nat}{f:FuncId}{args:List AV}{r:Res}(hr:aCall C c L d f args=some r):aCall C c' L d f args=some r:=by
 unfold aCall at hr ⊢
 cases hp:zeX L (C.wrt f) 0 args with
 |none=>simp_all
 |some q =>
   obtain⟨as,ms,bk,fz⟩:=q;simp only[hp]at hr ⊢;split at hr
   case isFalse=>cases hr
   rename_i hd;rw[if_pos hd]
   cases hc:c f as ms with
   |none=>simp_all
   |some q =>
     rw[h f as ms _ hc]
     simp_all
theorem aDeep_at{c:zcv}{L:Nat->Option Ent}{f:FuncId}{k0:Nat}{args:List AV}{r:Res}(hr:aDeep c L f k0 args=some r):∃as ms q,c f as ms=some q/\∀c':zcv,c' f as ms=some q->aDeep c' L f k0 args=some r:=by
 unfold aDeep at hr;split at hr
 case h_2=>cases hr
 rename_i b z hk0;split at hr
 case h_2=>cases hr
 rename_i ent hlb;split at hr
 case isFalse=>cases hr
 rename_i hbx;split at hr
 case h_2=>cases hr
 rename_i cs hes;split at hr
 case h_2=>cases hr
 rename_i cs' nms nbk as fz hnest hda;split at hr
 case isFalse=>cases hr
 rename_i hcond;split at hr
 case h_2=>cases hr
 rename_i rv ms' hc;refine⟨_,_,_,hc,λc' hc'=>?_⟩;unfold aDeep
 grind
theorem aop_mono{c c':zcv}(h:LeC c c'){o:Oper}{E:Operand->AV}{L:Nat->Option Ent}{r:Res}(hr:aop P C M c o E L=some r):aop P C M c' o E L=some r:=by
 unfold aop at hr ⊢
 cases ho:o.op with
 |call cl =>
   obtain⟨callee,args,argTypes⟩:=cl
   cases callee with
   |value g =>
     simp only[ho]at hr ⊢
     cases hg:E g with
     |fn f cap =>
       simp only[hg]at hr ⊢;split
       ·simp_all
       · rename_i hb;rw[if_neg hb]at hr
         cases hdp:C.dp f with
         |some k0 =>
           simp only[hdp]at hr ⊢;split at hr
           case isFalse=>cases hr
           rename_i hdo;rw[if_pos hdo];obtain⟨as,ms,q,h1,h2⟩:=aDeep_at hr;exact h2 c' (h f as ms q h1)
         |none =>
         simp only[hdp]at hr ⊢
         cases hd:o.dst with
         |none=>simp only[hd]at hr ⊢;exact zEd h hr
         |some d =>
           simp only[hd]at hr ⊢;split at hr
           · rename_i hn;rw[if_pos hn];split at hr
             ·rename_i r0 hc;rw[zEd h hc];exact hr
             ·cases hr
           ·cases hr
     |_=>simp[hg]at hr
   |invoke r m=>simp_all
   |builtin b=>cases b<;>(simp only[ho]at hr ⊢;exact hr)
 |makeFunc fn first cap=>grind
 |slice t x lo hi mx=>grind
 |makeMap t q=>grind
 |select cs b=>simp_all
 |_=>simp only[ho]at hr ⊢;exact hr
theorem zEe{c c':zcv}(h:LeC c c'){o:Oper}{st:St}{r:Res×St}(hr:aStep P C M c N ops o st=some r):aStep P C M c' N ops o st=some r:=by
 unfold aStep at hr ⊢;split at hr
 case isFalse=>cases hr
 rename_i hd;rw[if_pos hd]
 cases hw:zuv ops o st.t with
 |none=>simp_all
 |some b =>
   cases b with
   |true =>
     simp only[hw]at hr ⊢
     cases hr':aop P C M c o (ev st.t) (look st.m)with
     |none=>simp_all
     |some r' =>
       rw[aop_mono h hr']
       simp_all
   |false=>simp_all
theorem zDX{c c':zcv}(h:LeC c c'):∀(l:List Oper) (i:Nat) (st:St) (r:List Mk×St),runOps P C M c N ops i l st=some r->runOps P C M c' N ops i l st=some r
 |[],_,_,_,hr=>hr
 |o::l,i,st,r,hr=>by
   simp only[runOps]at hr ⊢
   cases hs:aStep P C M c N ops o st with
   |none=>simp[hs]at hr
   |some q =>
     obtain⟨res,st1⟩:=q;rw[zEe h hs];simp only[hs]at hr ⊢
     cases ho:runOps P C M c N ops (i+1) l st1 with
     |none=>simp[ho]at hr
     |some q =>
       rw[zDX h l (i+1) st1 q ho]
       simp_all
theorem zIo{c c':zcv}(h:LeC c c'){draw:Bool}{st r:St}(hr:zkE P C M c N ops draw st=some r):zkE P C M c' N ops draw st=some r:=by
 unfold zkE at hr ⊢
 cases ho:runOps P C M c N ops 0 ops.toList (preDel ops.toList st)with
 |none=>simp_all
 |some q =>
   rw[zDX h _ _ _ _ ho]
   simp_all
theorem zoP{c c':zcv}{i i':Go.Ab.Loop}(h:LeC c c')(hi:LeI i i'):∀(cd:Code),LeS (aeval P C A N c i cd) (aeval P C A N c' i' cd):=by
 intro cd
 induction cd with
 |region id ops draw =>
   intro st r hr;simp only[aeval]at hr ⊢;split at hr
   ·rename_i st' h';rw[zIo h h'];exact hr
   ·cases hr
 |seq x y ihx ihy =>
   intro st r hr;simp only[aeval]at hr ⊢
   cases hx:aeval P C A N c i x st with
   |none=>simp[hx]at hr
   |some q =>
     rw[ihx st q hx];rw[hx]at hr;obtain⟨e,st1⟩:=q
     cases e with
     |normal=>simp only at hr ⊢;exact ihy st1 r hr
     |_=>exact hr
 |cond o x y ihx ihy =>
   intro st r hr;simp only[aeval]at hr ⊢;split at hr
   · rename_i b hb
     cases b with
     |true=>simp only[if_true]at hr ⊢;exact ihx st r hr
     |false=>simp only[zbt,if_false]at hr ⊢;exact ihy st r hr
   ·cases hr
 |block id x ih =>
   intro st r hr;simp only[aeval]at hr ⊢
   cases hx:aeval P C A N c i x st with
   |none=>simp[hx]at hr
   |some q =>
     rw[ih st q hx]
     simp_all
 |loop x ih=>intro st r hr;simp only[aeval]at hr ⊢;exact hi _ _ ih st r hr
 |skip=>intro st r hr;exact hr
 |exit id=>intro st r hr;exact hr
 |ret=>intro st r hr;exact hr
 |rangeFunc=>intro st r hr;simp[aeval]at hr
 |scope=>intro st r hr;simp[aeval]at hr
 |label=>intro st r hr;simp[aeval]at hr
 |goto=>intro st r hr;simp[aeval]at hr
 |refuse=>intro st r hr;simp[aeval]at hr
end
theorem zkO{P:Program}{C:Cfg}{A:AnnF}:∀(n m:Nat),n<=m->LeC (acall P C A n) (acall P C A m):=by
 intro n
 induction n with
 |zero=>intro m _ f args ms r hr;simp[acall]at hr
 |succ n ih =>
   intro m hm
   cases m with
   |zero=>omega
   |succ m =>
     intro f args ms r hr;simp only[acall]at hr ⊢
     cases ho:orcG P C.orc f args ms with
     |some r0=>simp_all
     |none =>
     simp only[ho]at hr ⊢
     cases hf:P.funcs[f]? with
     |none=>simp[hf]at hr
     |some fn =>
       simp only[hf]at hr ⊢
       cases hb:fn.body with
       |none=>simp[hb]at hr
       |some c =>
         simp only[hb]at hr ⊢;split at hr
         case isFalse=>cases hr
         rename_i hc;rw[if_pos hc]
         cases hev:aeval P C (A f) fn.ntmps (acall P C A n) (iter n) c { t:=argTab 0 args,m:=ms }with
         |none=>simp[hev]at hr
         |some q =>
           rw[zoP (ih m (by omega)) (zkZ (show n<=m by omega)) c _ q hev]
           simp_all
section
variable{P:Program}{C:Cfg}{F:AnnF}{M:List Nat}{N:Nat}{ops:Array Oper}{A:Ann}
theorem LeC.refl(c:zcv):LeC c c:=λ_ _ _ _ h=>h
theorem zw4(n:Nat):LeC (acall P C F n) (callw P C F):=λf args ms _ h=>zxy (λa b r hab h=>zkO a b hab f args ms r h) h
theorem aop_cont{o:Oper}{E:Operand->AV}{L:Nat->Option Ent}{r:Res}(hr:aop P C M (callw P C F) o E L=some r):∃n,aop P C M (acall P C F n) o E L=some r:=by
 have key:∀{d:Option Nat} {f:FuncId} {args:List AV} {r:Res},aCall C (callw P C F) L d f args=some r->∃n,aCall C (acall P C F n) L d f args=some r:=by
  intro d f args r h;unfold aCall at h
  cases hp:zeX L (C.wrt f) 0 args with
  |none=>simp_all
  |some q =>
    obtain⟨as,ms,bk,fz⟩:=q;simp only[hp]at h;split at h
    case isFalse=>cases h
    rename_i hd
    cases hc:callw P C F f as ms with
    |none=>simp_all
    |some q =>
      obtain⟨n,hn⟩:=zoF hc;refine⟨n,?_⟩;unfold aCall
      grind
 unfold aop at hr ⊢
 cases ho:o.op with
 |call cl =>
   obtain⟨callee,args,argTypes⟩:=cl
   cases callee with
   |value g =>
     simp only[ho]at hr ⊢
     cases hg:E g with
     |fn f cap =>
       simp only[hg]at hr ⊢;by_cases hb:bare P f=true
       ·simp_all
       · simp only[hb,if_false,zbt]at hr ⊢
         cases hdp:C.dp f with
         |some k0 =>
           simp only[hdp]at hr ⊢;split at hr
           case isFalse=>cases hr
           rename_i hdo;obtain⟨as,ms,q,h1,h2⟩:=aDeep_at hr;obtain⟨n,hn⟩:=zoF h1
           grind
         |none =>
         simp only[hdp]at hr ⊢
         cases hd:o.dst with
         |none=>simp_all
         |some d=>grind
     |_=>simp[hg]at hr
   |invoke r m=>simp_all
   |builtin b=>cases b<;>(simp only[ho]at hr ⊢;exact⟨0,hr⟩)
 |makeFunc fn first cap=>cases fn<;>(simp only[ho]at hr ⊢;exact⟨0,hr⟩)
 |slice t x lo hi mx=>cases mx<;>(simp only[ho]at hr ⊢;exact⟨0,hr⟩)
 |makeMap t q=>cases q<;>(simp only[ho]at hr ⊢;exact⟨0,hr⟩)
 |select cs b=>simp_all
 |_=>simp only[ho]at hr ⊢;exact⟨0,hr⟩
theorem aStep_cont{o:Oper}{st:St}{r:Res×St}(hr:aStep P C M (callw P C F) N ops o st=some r):∃n,aStep P C M (acall P C F n) N ops o st=some r:=by
 unfold aStep at hr ⊢;split at hr
 case isFalse=>cases hr
 rename_i hd;simp only[hd,if_true]
 cases hw:zuv ops o st.t with
 |none=>simp_all
 |some b =>
   cases b with
   |true =>
     simp only[hw]at hr ⊢
     cases hr':aop P C M (callw P C F) o (ev st.t) (look st.m)with
     |none=>simp_all
     |some r' =>
       obtain⟨n,hn⟩:=aop_cont hr'
       grind
   |false=>simp_all
theorem run_cont:∀(l:List Oper) (i:Nat) (st:St) (r:List Mk×St),runOps P C M (callw P C F) N ops i l st=some r->∃n,runOps P C M (acall P C F n) N ops i l st=some r
 |[],_,_,_,hr=>⟨0,hr⟩
 |o::l,i,st,r,hr=>by
   simp only[runOps]at hr
   cases hs:aStep P C M (callw P C F) N ops o st with
   |none=>simp[hs]at hr
   |some q =>
     obtain⟨res,st1⟩:=q;simp only[hs]at hr;obtain⟨n1,h1⟩:=aStep_cont hs
     cases ho:runOps P C M (callw P C F) N ops (i+1) l st1 with
     |none=>simp[ho]at hr
     |some q=>simp only[ho]at hr;obtain⟨n2,h2⟩:=run_cont l (i+1) st1 q ho;refine⟨max n1 n2,?_⟩;simp only[runOps];rw[zEe (zkO n1 (max n1 n2) (by omega)) h1];simp only;rw[zDX (zkO n2 (max n1 n2) (by omega)) l (i+1) st1 q h2];exact hr
theorem zIn{draw:Bool}{st r:St}(hr:zkE P C M (callw P C F) N ops draw st=some r):∃n,zkE P C M (acall P C F n) N ops draw st=some r:=by
 unfold zkE at hr ⊢
 cases ho:runOps P C M (callw P C F) N ops 0 ops.toList (preDel ops.toList st)with
 |none=>simp_all
 |some q =>
   obtain⟨n,hn⟩:=run_cont _ _ _ _ ho
   grind
theorem aeval_cont:∀(cd:Code) (st:St) (r:Ex×St),aeval P C A N (callw P C F) itw cd st=some r->∃n,aeval P C A N (acall P C F n) (iter n) cd st=some r:=by
 intro cd
 induction cd with
 |region id ops draw =>
   intro st r hr;simp only[aeval]at hr;split at hr
   ·rename_i st' h';obtain⟨n,hn⟩:=zIn h';exact⟨n,by simp only[aeval];rw[hn];exact hr⟩
   ·cases hr
 |seq x y ihx ihy =>
   intro st r hr;simp only[aeval]at hr
   cases hx:aeval P C A N (callw P C F) itw x st with
   |none=>simp[hx]at hr
   |some q =>
     obtain⟨n1,h1⟩:=ihx st q hx;rw[hx]at hr;obtain⟨e,st1⟩:=q
     cases e with
     |normal=>simp only at hr;obtain⟨n2,h2⟩:=ihy st1 r hr;refine⟨max n1 n2,?_⟩;simp only[aeval];rw[zoP (zkO n1 (max n1 n2) (by omega)) (zkZ (by omega)) x st _ h1];exact zoP (zkO n2 (max n1 n2) (by omega)) (zkZ (by omega)) y st1 _ h2
     |exit id=>exact⟨n1,by simp only[aeval];rw[h1];exact hr⟩
     |ret=>exact⟨n1,by simp only[aeval];rw[h1];exact hr⟩
 |cond o x y ihx ihy =>
   intro st r hr;simp only[aeval]at hr;split at hr
   · rename_i b hb
     cases b with
     |true=>simp only[if_true]at hr;obtain⟨n,hn⟩:=ihx st r hr;exact⟨n,by simp only[aeval,hb,if_true];exact hn⟩
     |false=>simp only[zbt,if_false]at hr;obtain⟨n,hn⟩:=ihy st r hr;exact⟨n,by simp only[aeval,hb,zbt,if_false];exact hn⟩
   ·cases hr
 |block id x ih =>
   intro st r hr;simp only[aeval]at hr
   cases hx:aeval P C A N (callw P C F) itw x st with
   |none=>simp[hx]at hr
   |some q=>obtain⟨n,hn⟩:=ih st q hx;rw[hx]at hr;exact⟨n,by simp only[aeval];rw[hn];exact hr⟩
 |loop x ih =>
   intro st r hr;simp only[aeval]at hr;obtain⟨k,hk⟩:=zoF hr
   have key:∀(k:Nat) (st:St),iter k (aeval P C A N (callw P C F) itw x) st=some r->∃n,iter k (aeval P C A N (acall P C F n) (iter n) x) st=some r:=by
    intro k
    induction k with
    |zero=>intro st h;simp[iter]at h
    |succ k ihk =>
      intro st h;simp only[iter]at h
      cases hs:aeval P C A N (callw P C F) itw x st with
      |none=>simp[hs]at h
      |some q =>
        obtain⟨n1,h1⟩:=ih st q hs;rw[hs]at h;obtain⟨e,st1⟩:=q
        cases e with
        |normal=>simp only at h;obtain⟨n2,h2⟩:=ihk st1 h;refine⟨max n1 n2,?_⟩;simp only[iter];rw[zoP (zkO n1 (max n1 n2) (by omega)) (zkZ (by omega)) x st _ h1];simp only;exact zkZ (zaX k) _ _ (zoP (zkO n2 (max n1 n2) (by omega)) (zkZ (by omega)) x) st1 r h2
        |exit id=>exact⟨n1,by simp only[iter];rw[h1];exact h⟩
        |ret=>exact⟨n1,by simp only[iter];rw[h1];exact h⟩
   obtain⟨n,hn⟩:=key k st hk;refine⟨max n k,?_⟩;simp only[aeval];exact zkZ (show k<=max n k by omega) _ _ (zoP (zkO n (max n k) (by omega)) (zkZ (by omega)) x) st r hn
 |skip=>intro st r hr;exact⟨0,hr⟩
 |exit id=>intro st r hr;exact⟨0,hr⟩
 |ret=>intro st r hr;exact⟨0,hr⟩
 |rangeFunc=>intro st r hr;simp[aeval]at hr
 |scope=>intro st r hr;simp[aeval]at hr
 |label=>intro st r hr;simp[aeval]at hr
 |goto=>intro st r hr;simp[aeval]at hr
 |refuse=>intro st r hr;simp[aeval]at hr
end
def zqJ(P:Program)(frz:Bool)(fn:Func)(ms:Mem):Option (Ex×St)->Option (AV×Mem)
 |some (.normal,st)=>match ziU P frz fn st,zoR st.m ms with
   |some r,some ms'=>zxv r ms'
   |_,_=>none
 |some (.ret,st)=>match ziU P frz fn st,zoR st.m ms with
   |some r,some ms'=>zxv r ms'
   |_,_=>none
 |_=>none
theorem callw_of{P:Program}{C:Cfg}{A:AnnF}{f:FuncId}{fn:Func}{c:Code}{args:List AV}{ms:Mem}{r:AV×Mem}(ho:C.orc f args ms=none)(hf:P.funcs[f]?=some fn)(hb:fn.body=some c)(he:enters P f=true)(hN:fn.ntmps<=1000)
  (ha:args.length<=fn.ntmps) (h:zqJ P (A f).frz fn ms (aeval P C (A f) fn.ntmps (callw P C A) itw c { t:=argTab 0 args,m:=ms })=some r):callw P C A f args ms=some r:=by
 cases hev:aeval P C (A f) fn.ntmps (callw P C A) itw c { t:=argTab 0 args,m:=ms }with
 |none=>simp[hev,zqJ]at h
 |some q =>
   obtain⟨n,hn⟩:=aeval_cont c _ q hev;rw[hev]at h;refine zw4 (n+1) f args ms r ?_;simp only[acall,orcG_none ho,hf,hb];rw[if_pos ⟨hN,ha,he⟩,hn];obtain⟨e,st⟩:=q
   cases e with
   |normal=>exact h
   |ret=>exact h
   |exit id=>simp[zqJ]at h
theorem itw_eq(step:St->Option (Ex×St))(st:St):itw step st=match step st with
  |some (.normal,st')=>itw step st'
  |r=>r:=by
 have hm:∀st,MonoO λn=>iter n step st:=λst a b r hab h=>zkZ hab step step (λ_ _ h=>h) st r h
 cases hs:step st with
 |none =>
   simp only
   cases hq:itw step st with
   |none=>rfl
   |some q =>
     obtain⟨n,hn⟩:=zoF hq
     cases n with
     |zero=>simp[iter]at hn
     |succ n=>simp[iter,hs]at hn
 |some q =>
   obtain⟨e,st1⟩:=q
   cases e with
   |normal =>
     simp only
     cases hq:itw step st1 with
     |none =>
       cases hq2:itw step st with
       |none=>rfl
       |some q =>
         obtain⟨n,hn⟩:=zoF hq2
         cases n with
         |zero=>simp[iter]at hn
         |succ n =>
           simp only[iter,hs]at hn;have:itw step st1=some q:=zxy (hm st1) hn
           simp_all
     |some q=>obtain⟨n,hn⟩:=zoF hq;exact zxy (hm st) (n:=n+1) (by simp only[iter,hs];exact hn)
   |exit id=>exact zxy (hm st) (n:=1) (by simp only[iter,hs])
   |ret=>exact zxy (hm st) (n:=1) (by simp only[iter,hs])
theorem zim{P:Program}{C:Cfg}{A:AnnF}{f:FuncId}{args:List AV}{ms:Mem}{r:AV×Mem}(hok:CallOK P (single f C.orc))(h:C.orc f args ms=some r):callw P C A f args ms=some r:=by refine zw4 1 f args ms r ?_;simp only[acall,orcG_some hok h]
theorem zuO{P:Program}{C:Cfg}{A:AnnF}:CallOK P (callw P C A):=by intro f args ms r ms' h;obtain⟨n,hn⟩:=zoF h;exact zJH n f args ms r ms' hn
end Go.Ab
end
