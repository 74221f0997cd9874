/- Calls that take a box with what its cells own. -/
import Derived.Test.YtlecnobdfhlmnaaGreatAb3
set_option linter.unusedSimpArgs false
set_option linter.unusedVariables false
set_option linter.unusedSectionVars false
noncomputable section
namespace Go.Ab
open Go.RowKit
variable[Dr]
section
variable{P:Program}{S:Nat->Prop}{κ:Kap}{D:Nat->Prop}{w:World}{L:Nat->Option Ent}
theorem zGV:∀(cs:List AV) (q:Nat) (cs':List AV) (nms:Mem) (nbk:List (Nat×Nat)),nest L q cs=some (cs',nms,nbk)->cs'.length=cs.length/\nbk.map (·.2)=nms.map (·.1)/\(∀p∈nbk,q<=p.2/\p.2<950/\p.1<1000/\(L p.1).isSome=true)/\(nbk.map (·.1)).Nodup/\(nbk.map (·.2)).Nodup/\(∀p∈nms,∃c,(c,p.1)∈nbk/\L c=some p.2/\p.2.box=false)/\∀(S S':Nat->Prop) (κ κ':Kap) (D D':Nat->Prop) (w:World),(∀g,S g->S' g)->(∀p∈nbk,D' p.2/\κ' p.2=κ p.1)->∀(j:Nat) (a a':AV) (x:Value),cs[j]?=some a->cs'[j]?=some a'->VRel S κ D w a x->VRel S' κ' D' w a' x:=by
 intro cs
 induction cs with
 |nil =>
   intro q cs' nms nbk h;simp[nest]at h
   simp_all
 |cons a r ih =>
   intro q cs' nms nbk h
   have one:∀(c:Nat) (ent:Ent) (av:AV) (cs0:List AV) (nms0:Mem) (nbk0:List (Nat×Nat)),nest L (q+1) r=some (cs0,nms0,nbk0)->L c=some ent->ent.box=false->c<1000->q<950->nbk0.all (λp=>p.1≠c)=true->(∀(S S':Nat->Prop) (κ κ':Kap) (D D':Nat->Prop) (w:World) (x:Value),D' q->κ' q=κ c->VRel S κ D w a x->VRel S' κ' D' w av x)->cs'=av::cs0->nms=(q,ent)::nms0->nbk=(c,q)::nbk0->cs'.length=(a::r).length/\nbk.map (·.2)=nms.map (·.1)/\(∀p∈nbk,q<=p.2/\p.2<950/\p.1<1000/\(L p.1).isSome=true)/\(nbk.map (·.1)).Nodup/\(nbk.map (·.2)).Nodup/\(∀p∈nms,∃c,(c,p.1)∈nbk/\L c=some p.2/\p.2.box=false)/\∀(S S':Nat->Prop) (κ κ':Kap) (D D':Nat->Prop) (w:World),(∀g,S g->S' g)->(∀p∈nbk,D' p.2/\κ' p.2=κ p.1)->∀(j:Nat) (a0 a':AV) (x:Value),(a::r)[j]?=some a0->cs'[j]?=some a'->VRel S κ D w a0 x->VRel S' κ' D' w a' x:=by
    intro c ent av cs0 nms0 nbk0 hr hl hb hc hq hall hv e1 e2 e3;obtain⟨i1,i2,i3,i4,i5,i6,i7⟩:=ih (q+1) cs0 nms0 nbk0 hr;subst e1;subst e2;subst e3;refine⟨by simp[i1],by simp[i2],λp hp=>?_,?_,?_,λp hp=>?_,λS S' κ κ' D D' w hS hk j a0 a' x h1 h2 h3=>?_⟩
    ·grind
    ·grind
    ·grind
    ·grind
    · cases j with
      |zero =>
        simp at h1 h2;subst h1;subst h2;have:=hk (c,q) List.mem_cons_self
        grind
      |succ j=>exact i7 S S' κ κ' D D' w hS (λp hp=>hk p (zc7 _ hp)) j a0 a' x (by simpa using h1) (by simpa using h2) h3
   simp only[nest]at h;split at h
   · rename_i hC;split at h
     case h_2=>cases h
     rename_i cs0 ms0 bk0 hr;simp only[zaf,zav]at h;obtain⟨rfl,rfl,rfl⟩:=h;obtain⟨i1,i2,i3,i4,i5,i6,i7⟩:=ih q _ _ _ hr;refine⟨by simp[i1],i2,i3,i4,i5,i6,λS S' κ κ' D D' w hS hk j a0 a' x h1 h2 h3=>?_⟩
     cases j with
     |zero=>simp at h1 h2;subst h1;subst h2;exact .c ((zkY 4 hC h3).mono hS (λ_ _=>rfl))
     |succ j=>grind
   · split at h
     · rename_i c z n _;split at h
       case h_2=>cases h
       rename_i ent cs0 ms0 bk0 hl hr;split at h
       case isFalse=>cases h
       rename_i hc;obtain⟨hz,hb,hzp,hn,hc1,hq,hall⟩:=hc;simp only[zaf,zav]at h;obtain⟨e1,e2,e3⟩:=h;refine one c ent _ cs0 ms0 bk0 hr hl hb hc1 hq hall ?_ e1.symm e2.symm e3.symm;intro S S' κ κ' D D' w x hd hk hv
       cases hv with
       |c h=>cases h
       |row0 _ _ hd' hk'=>exact .row0 q z hd (hk.trans hk')
       |row _ _ _ _ g cc off' cap hd' hk' hn ho hcc=>exact .row q z 0 n g cc off' cap hd (hk.trans hk') hn ho hcc
     · rename_i c _;split at h
       case h_2=>cases h
       rename_i ent cs0 ms0 bk0 hl hr;split at h
       case isFalse=>cases h
       rename_i hc;obtain⟨hz,hb,hc1,hq,hall⟩:=hc;simp only[zaf,zav]at h;obtain⟨e1,e2,e3⟩:=h;refine one c ent _ cs0 ms0 bk0 hr hl hb hc1 hq hall ?_ e1.symm e2.symm e3.symm;intro S S' κ κ' D D' w x hd hk hv;obtain⟨g,cc,hd',hk',rfl⟩:=hv.map_inv;exact .map q g cc hd (hk.trans hk')
     ·cases h
theorem zBj{bk:List (Nat×Nat)}:∀(cs cs':List AV),zxL bk cs=some cs'->cs'.length=cs.length/\∀(S:Nat->Prop) (κ κ':Kap) (D D':Nat->Prop) (w:World),(∀p∈bk,D' p.1/\κ' p.1=κ p.2)->∀(j:Nat) (a a':AV) (x:Value),cs[j]?=some a->cs'[j]?=some a'->VRel S κ D w a x->VRel S κ' D' w a' x
 |[],cs',h=>by simp[zxL]at h;subst h;simp
 |a::r,cs',h=>by
   simp only[zxL]at h;split at h
   ·cases h
   · rename_i cs0 hr;obtain⟨i1,i2⟩:=zBj r cs0 hr
     have one:∀av:AV,cs'=av::cs0->(∀(S:Nat->Prop) (κ κ':Kap) (D D':Nat->Prop) (w:World) (x:Value),(∀p∈bk,D' p.1/\κ' p.1=κ p.2)->VRel S κ D w a x->VRel S κ' D' w av x)->cs'.length=(a::r).length/\∀(S:Nat->Prop) (κ κ':Kap) (D D':Nat->Prop) (w:World),(∀p∈bk,D' p.1/\κ' p.1=κ p.2)->∀(j:Nat) (a0 a':AV) (x:Value),(a::r)[j]?=some a0->cs'[j]?=some a'->VRel S κ D w a0 x->VRel S κ' D' w a' x:=by
      intro av e hv;subst e;refine⟨by simp[i1],λS κ κ' D D' w hk j a0 a' x h1 h2 h3=>?_⟩
      cases j with
      |zero=>grind
      |succ j=>grind
     split at h
     ·rename_i hC;injection h with h;exact one a h.symm (λS κ κ' D D' w x _ hv=>.c (zkY 4 hC hv))
     · split at h
       · rename_i q z n _;split at h
         case h_2=>cases h
         rename_i p hf;injection h with h;have hp:=zdI hf;have hq:p.2=q:=by simpa using zf3 hf
         refine one _ h.symm (λS κ κ' D D' w x hk hv=>?_);obtain⟨k1,k2⟩:=hk p hp;rw[hq]at k2
         cases hv with
         |c h=>cases h
         |row0 _ _ hd' hk'=>exact .row0 p.1 z k1 (k2.trans hk')
         |row _ _ _ _ g cc off' cap hd' hk' hn ho hcc=>exact .row p.1 z 0 n g cc off' cap k1 (k2.trans hk') hn ho hcc
       · rename_i q _;split at h
         case h_2=>cases h
         rename_i p hf;injection h with h;have hp:=zdI hf;have hq:p.2=q:=by simpa using zf3 hf
         refine one _ h.symm (λS κ κ' D D' w x hk hv=>?_);obtain⟨k1,k2⟩:=hk p hp;rw[hq]at k2;obtain⟨g,cc,hd',hk',rfl⟩:=hv.map_inv;exact .map p.1 g cc k1 (k2.trans hk')
       ·cases h
theorem zx2{ms:Mem}:∀(bk:List (Nat×Nat)) (back:List (Nat×Ent)),backN ms bk=some back->ids back=bk.map (·.1)/\∀p∈back,∃q,(p.1,q)∈bk/\look ms q=some p.2/\p.2.box=false
 |[],back,h=>by simp[backN]at h;subst h;simp[ids]
 |(c,q)::r,back,h=>by
   simp only[backN]at h;split at h
   · rename_i ent l hl hr;split at h
     case isFalse=>cases h
     rename_i hb;injection h with h;subst h;obtain⟨h1,h2⟩:=zx2 r l hr;refine⟨by simp[ids]at h1 ⊢;exact h1,λp hp=>?_⟩
     grind
   ·cases h
theorem zEM(hL:∀b ent,L b=some ent->EntAt S κ D w (κ b) ent){k0:Nat}{x0:AV}:∀(args:List AV) (k:Nat) (as:List AV) (fz:List Nat),dArgs L k0 x0 k args=some (as,fz)->∀vals:List Value,vals.length=args.length->(∀(j:Nat) (a:AV) (x:Value),args[j]?=some a->vals[j]?=some x->VRel S κ D w a x)->as.length=args.length/\(∀b∈fz,D b)/\(∀j a,j+k=k0->as[j]?=some a->a=x0)/\∀(S':Nat->Prop) (κ':Kap) (D':Nat->Prop),(∀g,S g->S' g)->(∀b∈fz,∀g c,κ b=some (g,c)->S' g)->∀(j:Nat) (a:AV) (x:Value),j+k≠k0->as[j]?=some a->vals[j]?=some x->VRel S' κ' D' w a x
 |[],k,as,fz,h,vals,_,_=>by
   simp[dArgs]at h
   simp_all
 |a::r,k,as,fz,h,[],hl,_=>by simp at hl
 |a::r,k,as,fz,h,x::vals,hl,hv=>by
   simp only[dArgs]at h;split at h
   ·cases h
   · rename_i as0 fz0 hr;obtain⟨i1,i2,i3,i4⟩:=zEM hL r (k+1) as0 fz0 hr vals (by simpa using hl) (λj a x hj hx=>hv (j+1) a x (by simpa using hj) (by simpa using hx));split at h
     ·grind
     · rename_i hk;split at h
       case h_2=>cases h
       rename_i a' hs;simp only[zaf,zav]at h;obtain⟨rfl,rfl⟩:=h;have hax:=hv 0 a x rfl rfl;refine⟨by simp[i1],λb hb=>?_,λj b hj hb=>?_,λS' κ' D' hS hf j b y hj hb hy=>?_⟩
       · rcases zbh.1 hb with h|h
         ·exact ids_D hL 5 a x hax b h
         ·exact i2 b h
       ·grind
       · cases j with
         |zero=>simp at hb hy;subst hb;subst hy;exact .c (zlo hL hS 5 hax hs (λb hb=>hf b (zf9 _ hb)))
         |succ j=>grind
theorem box_ren{S S':Nat->Prop}{κ κ':Kap}{D D':Nat->Prop}{w:World}{kb:Option (Nat×Nat)}{ent:Ent}{cs cs':List AV}(h:EntAt S κ D w kb ent)(hb:ent.box=true)(he:ent.es=[cs])(hl:cs'.length=cs.length)
  (hn:∀g c,kb=some (g,c)->¬S' g) (hv:∀(j:Nat) (a a':AV) (x:Value),cs[j]?=some a->cs'[j]?=some a'->VRel S κ D w a x->VRel S' κ' D' w a' x):EntAt S' κ' D' w kb { ent with es:=[cs'] }:=by
 obtain⟨q1,q2⟩:=h.1 (.inl hb);refine EntAt.of (.inl hb) ⟨λx hx=>?_,?_⟩
 ·simp_all
 · cases kb with
   |none=>simp_all
   |some gc =>
     obtain⟨g,c⟩:=gc;obtain⟨cells,c1,c2,c3,c4,c5,c6⟩:=q2;refine⟨cells,c1,c2,by simp_all,c4,hn g c rfl,λi j xs a hi hj=>?_⟩
     have hi0:i=0/\xs=cs':=by
      cases i with
      |zero=>simp_all
      |succ i=>simp at hi
     obtain⟨rfl,rfl⟩:=hi0;have hlt:j<cs.length:=by have:=(zam.1 hj).1;omega
     obtain⟨u,u1,u2,u3,_⟩:=c6 0 j cs cs[j] (by rw[he];rfl) (zaa hlt)
     grind
theorem zA2:∀(l:List (Nat×Nat)),(l.map (·.1)).Nodup->∀x y z,(x,y)∈l->(x,z)∈l->y=z:=by
 intro l hn
 induction l with
 |nil=>intro x y z h;cases h
 |cons q l ihl=>grind
theorem pair_inj2:∀(l:List (Nat×Nat)),(l.map (·.2)).Nodup->∀x y z,(x,z)∈l->(y,z)∈l->x=y:=by
 intro l hn
 induction l with
 |nil=>intro x y z h;cases h
 |cons q l ihl=>grind
theorem zJA{call:zcv}(hcall:CallOK P call){f:FuncId}{k0:Nat}{args:List AV}{r:Res}{vals:Array Value}
  (hS:∀g,S g->g<w.heap.size) (hDL:∀b,D b↔(L b).isSome=true) (hinj:∀b b' g c c',D b->D b'->κ b=some (g,c)->κ b'=some (g,c')->b=b')
  (hL:∀b ent,L b=some ent->EntAt S κ D w (κ b) ent) (h:aDeep call L f k0 args=some r) (hl:vals.size=args.length)
  (hv:∀(j:Nat) (a:AV) (x:Value),args[j]?=some a->vals[j]?=some x->VRel S κ D w a x):enters P f=true/\Calls P f vals w λe w'=>∃x S' κ',e=.returned x/\EffAt S κ D w S' κ' r x w'/\∀b∈r.frz,D b/\b ∉ ids r.set/\r.kill≠some b:=by
 unfold aDeep at h;split at h
 case h_2=>cases h
 rename_i b z hk0;split at h
 case h_2=>cases h
 rename_i ent hlb;split at h
 case isFalse=>cases h
 split at h
 case h_2=>cases h
 rename_i cs hes;split at h
 case h_2=>cases h
 rename_i cs' nms nbk as fz hnest hda;split at h
 case isFalse=>cases h
 rename_i hcond;obtain⟨hz,hbx,hnb,hfz⟩:=hcond;split at h
 case h_2=>cases h
 rename_i rv ms' hc;obtain⟨n1,n2,n3,n4,n5,n6,n7⟩:=zGV cs 900 cs' nms nbk hnest;obtain⟨d1,d2,d3,d4⟩:=zEM (S:=S) (κ:=κ) (D:=D) (w:=w) hL args 0 as fz hda vals.toList (by simpa using hl) (λj a x hj hx=>hv j a x hj (by simpa using hx));obtain⟨hen,hcalls⟩:=hcall f as _ rv ms' hc;refine⟨hen,?_⟩;have hDb:D b:=(hDL b).2 (by simp[hlb]);have hDn:∀p∈nbk,D p.1:=λp hp=>(hDL p.1).2 (n3 p hp).2.2.2
 have hnb':∀p∈nbk,p.1≠b:=λp hp=>by grind
 have hfz':∀c∈fz,c≠b/\∀p∈nbk,p.1≠c:=λc hc=>by grind
 let ms:Mem:=(1000,{ ent with es:=[cs'] })::nms
 let κi:Kap:=λk=>if k=1000 then κ b else kapOf κ nbk k
 let Sc:Nat->Prop:=λg=>S g\/∃b c,b∈fz/\κ b=some (g,c)
 have hq:∀p∈nbk,p.2≠1000:=λp hp=>by grind
 have hκb:κi 1000=κ b:=if_pos rfl
 have hκn:∀p∈nbk,κi p.2=κ p.1:=λp hp=>by show(if p.2=1000 then _ else _)=_;rw[if_neg (hq p hp),zlz n5 p hp]
 have hDi:Dm ms 1000:=by show(look ms 1000).isSome=true;simp[ms,look]
 have hDin:∀p∈nbk,Dm ms p.2:=λp hp=>by
  refine zi5 ?_;have:p.2∈nms.map (·.1):=by rw[<-n2];exact zbs.2 ⟨p,hp,rfl⟩
  simp[ms,ids]at this ⊢;exact .inr this
 have hms:∀k,Dm ms k->(k=1000/\True)\/∃c,(c,k)∈nbk:=λk hk=>by
  obtain⟨e,he⟩:=zaI.1 hk;rcases za4.1 (zmU he)with h1|h1
  ·grind
  grind
 have back:∀k,Dm ms k->∃c,D c/\κi k=κ c/\(c=b\/(c,k)∈nbk)/\(k=1000->c=b):=λk hk=>by grind
 have hinjI:∀k k' g c c',Dm ms k->Dm ms k'->κi k=some (g,c)->κi k'=some (g,c')->k=k':=λk k' g c c' hk hk' e e'=>by
  rcases hms k hk with⟨rfl,-⟩|⟨q,hq1⟩
  ·grind
  · rcases hms k' hk' with⟨rfl,-⟩|⟨q',hq2⟩
    ·grind
    ·rw[hκn _ hq1]at e;rw[hκn _ hq2]at e';have:=hinj _ _ _ _ _ (hDn _ hq1) (hDn _ hq2) e e';simp only at this;subst this;exact zA2 nbk n4 _ _ _ hq1 hq2
 have hScn:∀c,D c->c ∉ fz->∀g cp,κ c=some (g,cp)->¬Sc g:=λc hc hn g cp hk hs=>by
  rcases hs with hs|⟨b',c',hb',hk'⟩
  ·obtain⟨e,he⟩:=zaI.1 ((hDL c).1 hc);have:=hL c e he;rw[hk]at this;exact this.notS hs
  grind
 have hbfz:b ∉ fz:=λhm=>(hfz' b hm).1 rfl
 have hnfz:∀p∈nbk,p.1 ∉ fz:=λp hp hm=>(hfz' _ hm).2 p hp rfl
 have hEb:=hL b ent hlb;refine(hcalls w Sc κi vals (by rw[hl,d1]) ?_ ?_ ?_ hinjI).mono ?_
 · intro g hg;rcases hg with h|⟨b',c,hb',hk⟩
   ·exact hS g h
   ·obtain⟨e,he⟩:=zaI.1 ((hDL b').1 (d2 b' hb'));have:=hL b' e he;rw[hk]at this;exact this.lt
 · intro k a x hk hx;by_cases hkk:k=k0
   ·subst hkk;have ea:=d3 k a (by omega) hk;subst ea;have hvx:=hv k _ x hk0 hx;obtain⟨g,c,hd,hkb,rfl⟩:=hvx.loc_inv;exact .loc 1000 z 0 0 g c hDi (hκb.trans hkb)
   grind
 · intro k e hk;by_cases hk1:k=1000
   · subst hk1
     have he:e={ ent with es:=[cs'] }:=by simp[look]at hk;exact hk.symm
     subst he;rw[hκb];refine box_ren hEb hbx hes n1 (hScn b hDb hbfz) (λj a a' x h1 h2 h3=>n7 S Sc κ κi D (Dm ms) w (λ_ h=>.inl h) (λp hp=>⟨hDin p hp,hκn p hp⟩) j a a' x h1 h2 h3)
   · have hm:(k,e)∈nms:=by
      rcases za4.1 (zmU hk)with h1|h1
      ·grind
      ·exact h1
     obtain⟨c,hc,hlc,hb0⟩:=n6 _ hm;rw[hκn _ hc];exact(hL c e hlc).handed (λ_ h=>.inl h) (hScn c (hDn _ hc) (hnfz _ hc)) (λhb'=>by grind)
 · rintro e w' ⟨x,S1,κ1,rfl,hos,htape,hout,hsz,hblk,hsup,hsnew,hslt,hpar,hmine,hinj1,hents,hres⟩
   unfold dRes at h;split at h
   case isFalse=>cases h
   rename_i hflat
   split at h
   case h_2=>cases h
   rename_i ent1 bck hl1 hbn;split at h
   case h_2=>cases h
   rename_i cs1 hb1 he1;split at h
   case h_2=>cases h
   rename_i cs2 hun;injection h with h;subst h;obtain⟨b1,b2⟩:=zx2 nbk bck hbn;obtain⟨u1,u2⟩:=zBj cs1 cs2 hun
   have hD':∀p∈nbk,Dm ms' p.2:=λp hp=>by
    have:p.1∈ids bck:=by rw[b1];exact zbs.2 ⟨p,hp,rfl⟩
    obtain⟨q,hq1,hq2⟩:=zbs.1 this;obtain⟨k,hk1,hk2,_⟩:=b2 q hq1;rw[hq2]at hk1;have:=zA2 nbk n4 _ _ _ hk1 hp;rw[<-this];show(look ms' k).isSome=true;rw[hk2];rfl
   have hD1:Dm ms' 1000:=by show(look ms' 1000).isSome=true;rw[hl1];rfl
   let κ2:Kap:=λc=>match nbk.find? (λp=>p.1==c)with
    |some p=>κ1 p.2
    |none=>κ c
   have k2n:∀p∈nbk,κ2 p.1=κ1 p.2:=λp hp=>by
    show(match nbk.find? (λq=>q.1==p.1)with|some q=>κ1 q.2|none=>κ p.1)=_
    cases hf:nbk.find? (λq=>q.1==p.1)with
    |none=>grind
    |some q =>
      have hq1:=zdI hf;have hq2:q.1=p.1:=by simpa using zf3 hf
      have:q.2=p.2:=zA2 nbk n4 p.1 q.2 p.2 (by grind) hp
      grind
   have k2o:∀c,c ∉ nbk.map (·.1)->κ2 c=κ c:=λc hc=>by grind
   have hbn':b ∉ nbk.map (·.1):=λhm=>by grind
   have hidset:∀c,c∈ids ((b,({ ent1 with es:=[cs2] }:Ent))::bck)↔c=b\/c∈nbk.map (·.1):=λc=>by rw[<-b1];simp[ids]
   have hMine:∀g,Mine w κi (Dm ms) g->w.heap.size<=g\/∃c cp,c∈nbk.map (·.1)/\D c/\κ c=some (g,cp):=by
    rintro g (h|⟨k,cp,hk1,hk2,hk3⟩)
    ·exact .inl h
    · rcases hms k hk2 with⟨rfl,-⟩|⟨c,hc⟩
      ·omega
      grind
   let r':Res:={ val:=rv,set:=(b,{ ent1 with es:=[cs2] })::bck,frz:=fz,re:=nbk.map (·.1) }
   have hset1:∀c,c=b\/c∈nbk.map (·.1)->D1 D r' c:=λc hc=>.inr ((hidset c).2 hc)
   have hrel:CRel S1 w' rv x:=by
    cases rv with
    |new z e es=>simp[AV.flat]at hflat
    |newp z e cs=>simp[AV.flat]at hflat
    |newm e es=>simp[AV.flat]at hflat
    |row b z off n=>simp[AV.flat]at hflat
    |loc b z i o=>simp[AV.flat]at hflat
    |_=>exact hres
   refine⟨x,S1,κ2,rfl,{
    os:=hos
    tape:=htape
    output:=hout
    size:=hsz
    blk:=λg hg hbb=>hblk g hg (λk cp hk hkk=>by
     obtain⟨c,hc,e1,e2,_⟩:=back k hk
     grind)
    sup:=λg hg=>hsup g (.inl hg)
    snew:=λg hg=>by grind
    slt:=hslt
    sfrz:=λb' hb' g c hk=>hsup g (.inr ⟨b',c,hb',hk⟩)
    kold:=λc _ hn=>k2o c hn
    kout:=λc hn=>k2o c (λhm=>hn ((hidset c).2 (.inr hm)))
    knew:=λc hnew hin g cp hk=>by
     have hm:c∈nbk.map (·.1):=by
      rcases(hidset c).1 hin with rfl|hm
      ·exact hnew hDb
      ·exact hm
     obtain⟨p,hp,rfl⟩:=zbs.1 hm;rw[k2n p hp]at hk;rcases hMine g (hmine p.2 g cp (by grind) (hD' p hp) hk)with h|⟨c,cp,q1,q2,q3⟩
     ·exact .inl h
     grind
    one:=λc c' h1 h2 i1 i2 g cp cp' e1 e2=>by
     have m1:c∈nbk.map (·.1):=by
      rcases(hidset c).1 i1 with rfl|hm
      ·exact h1 hDb
      ·exact hm
     have m2:c'∈nbk.map (·.1):=by
      rcases(hidset c').1 i2 with rfl|hm
      ·exact h2 hDb
      ·exact hm
     obtain⟨p,hp,rfl⟩:=zbs.1 m1;obtain⟨p',hp',rfl⟩:=zbs.1 m2;rw[k2n p hp]at e1;rw[k2n p' hp']at e2;have:=hinj1 _ _ g cp cp' (hD' p hp) (hD' p' hp') e1 e2;exact pair_inj2 nbk n5 p.1 p'.1 p.2 hp (by rw[this];exact hp')
    res:=λc hc=>(hidset c).2 (.inr hc)
    ents:=λc e hm=>by
     rcases za4.1 hm with hm|hm
     ·injection hm with hm1 hm2;subst hm1;subst hm2;obtain⟨_,hE⟩:=hents 1000 ent1 hl1;rw[k2o c hbn',<-hκb,<-hpar 1000 (zaX _)];refine box_ren hE hb1 he1 u1 (λg cp hk=>by rw[hk]at hE;exact hE.notS) (λj a a' y q1 q2 q3=>u2 S1 κ1 κ2 (Dm ms') (D1 D r') w' (λp hp=>⟨hset1 p.1 (.inr (zbs.2 ⟨p,hp,rfl⟩)),k2n p hp⟩) j a a' y q1 q2 q3)
     ·obtain⟨q,hq1,hq2,hq3⟩:=b2 _ hm;obtain⟨_,hE⟩:=hents q e hq2;rw[k2n (c,q) hq1];exact hE.handed (λ_ h=>h) (λg cp hk=>by rw[hk]at hE;exact hE.notS) (λhb'=>by grind)
    val:=.c hrel },?_⟩
   grind
end
end Go.Ab
namespace Go.Ab
open Go.RowKit
variable[Dr]
section
variable{P:Program}{S:Nat->Prop}{κ:Kap}{D:Nat->Prop}{w:World}{L:Nat->Option Ent}
theorem zJr{k:Bool}{r r0:Res}{y:Value}{w':World}{S':Nat->Prop}{κ':Kap}(h:toKill k r0=some r)(he:EffAt S κ D w S' κ' r0 y w')(hd:Dis D r0):EffAt S κ D w S' κ' r y w'/\Dis D r:=by
 unfold toKill at h;split at h
 · rename_i b rest hf hk;split at h
   case isFalse=>cases h
   rename_i hc;simp only[zaf]at h;subst h
   have hin:∀c,c∈r0.frz↔c=b:=λc=>by grind
   have hD1:D1 D { r0 with frz:=[],kill:=some b }=D1 D r0:=by
    funext c;unfold D1;rw[hk];simp only[hin,ids];apply propext;constructor
    ·grind
    ·grind
   refine⟨?_,λc hm=>by cases hm⟩
   exact{
    os:=he.os
    tape:=he.tape
    output:=he.output
    size:=he.size
    blk:=λg hg hb=>he.blk g hg (λb' c hb'=>hb b' c (hb'.elim .inl (λq=>by rw[hk]at q;cases q)))
    sup:=he.sup
    snew:=λg hg=>by
     rcases he.snew g hg with h1|h1|⟨b',c',h1,h2⟩
     ·exact .inl h1
     ·exact .inr (.inl h1)
     grind
    slt:=he.slt
    sfrz:=λc hm=>by cases hm
    kold:=he.kold
    kout:=he.kout
    knew:=λc h1 h2 g c' h3=>by
     rcases he.knew c h1 h2 g c' h3 with h4|⟨b0,c0,h4,h5⟩
     ·exact .inl h4
     simp_all
    one:=he.one
    res:=he.res
    ents:=λc ent hm=>by rw[hD1];exact he.ents c ent hm
    val:=by rw[hD1];exact he.val }
 simp_all
theorem aop_sound{C:Cfg}{M:List Nat}{call:zcv}(hcall:CallOK P call){o:Oper}{E:Operand->AV}{r:Res}{a:Act}{K:Act->World->Prop}{Q:Exit->Act->World->Prop}
  (hS:∀g,S g->g<w.heap.size) (hDL:∀b,D b↔(L b).isSome=true) (hinj:∀b b' g c c',D b->D b'->κ b=some (g,c)->κ b'=some (g,c')->b=b')
  (hL:∀b ent,L b=some ent->EntAt S κ D w (κ b) ent) (hE:∀x∈o.op.operands,VRel S κ D w (E x) (a.eval x)) (h:aop P C M call o E L=some r)
  (hK:∀y w' S' κ',EffAt S κ D w S' κ' r y w'->Dis D r->K (a.put o.dst y) w'):o.wp P a w K Q:=by
 have hdn:∀d,(L d).isNone=true->¬D d:=λd h hd=>by simp_all
 have still:(∃y,(execOp a.eval o).run P w=.ok (.value y) w/\VRel S κ D w r.val y/\r.set=[]/\r.kill=none/\r.frz=[]/\r.re=[])->o.wp P a w K Q:=by
  rintro⟨y,h1,h2,h3,h4,h5,h6⟩
  unfold Oper.wp;rw[h1];exact hK y w S κ (EffAt.still hS h2 h3 h4 h5 h6) (by intro b hb;grind)
 have valued:∀y w' S' κ',(execOp a.eval o).run P w=.ok (.value y) w'->EffAt S κ D w S' κ' r y w'->r.frz=[]->o.wp P a w K Q:=by intro y w' S' κ' h1 h2 h3;unfold Oper.wp;rw[h1];exact hK y w' S' κ' h2 (by intro b hb;grind)
 have nosel:∀op,o.op=op->(∀cs b,op≠.select cs b)->∀cs b,o.op≠.select cs b:=λop e hn cs b=>by rw[e];exact hn cs b
 unfold aop at h;split at h
 ·rename_i x ho;injection h with h;subst h;exact still ⟨a.eval x,by simp[execOp,ho],hE x (by simp[ho,Op.operands]),rfl,rfl,rfl,rfl⟩
 ·rename_i x ho;injection h with h;subst h;exact still ⟨a.eval x,by simp[execOp,ho],hE x (by simp[ho,Op.operands]),rfl,rfl,rfl,rfl⟩
 · rename_i c x y ho;split at h
   case h_2=>cases h
   rename_i t hc;injection h with h;subst h;have h1:=hE c (by simp[ho,Op.operands]);rw[hc]at h1;refine still ⟨if t then a.eval x else a.eval y,by simp[execOp,ho,h1.v_inv,asBool],?_,rfl,rfl,rfl,rfl⟩;cases t
   ·exact hE y (by simp[ho,Op.operands])
   ·exact hE x (by simp[ho,Op.operands])
 · rename_i t ho;split at h
   case h_2=>cases h
   rename_i d zero n hd hz hn;split at h
   case isFalse=>cases h
   rename_i hc;obtain⟨h1,h2,h3⟩:=hc;obtain⟨i,z,hi,hzz,rfl⟩:=zja hz;split at h
   ·obtain⟨q,w',κ',e1,e2⟩:=arr_sound (P:=P) (t:=t) (d:=d) (r:=r) hS (hdn d h3) h2 h;refine valued q w' S κ' ?_ e2 (aArr_frz h);simp only[execOp,ho,Instr.alloc,Sem.run_bind,zjI hi hzz,Result.andThen_ok];simp only[Instr.box,Sem.run_bind]at e1;rw[e1];simp
   injection h with h
   have hbox:∃q w' κ',(Instr.box t z).run P w=.ok q w'/\EffAt S κ D w S κ' r q w':=by
    have hcl:(AV.agg (z.cells.toList.map .v)).cells=z.cells.toList.map .v:=rfl
    have hrel:VRel S κ D w (AV.agg (z.cells.toList.map .v)) (.agg z.cells):=by obtain⟨c1,c2,c3⟩:=znb (S:=S) (w:=w) h2;exact .c (.agg _ _ c1 c2 c3)
    obtain⟨q,w',κ',e1,e2⟩:=zGv (P:=P) (t:=t) (d:=d) (r:=r) hS (hdn d h3) (by rw[hcl];exact h2) (by rw[<-h,hcl,h1]) hrel;refine⟨q,w',κ',?_,e2⟩;have:(Instr.box t z).run P w=(Instr.box t (.agg z.cells)).run P w:=by simp[Instr.box,newVar,Value.cells]
    rw[this];exact e1
   obtain⟨q,w',κ',e1,e2⟩:=hbox;refine valued q w' S κ' ?_ e2 (by rw[<-h]);simp only[execOp,ho,Instr.alloc,Sem.run_bind,zjI hi hzz,Result.andThen_ok];simp only[Instr.box,Sem.run_bind]at e1;rw[e1];simp
 · rename_i t x ho;split at h
   case h_2=>cases h
   rename_i d hd;split at h
   case isFalse=>cases h
   rename_i hc;injection h with h;obtain⟨q,w',κ',e1,e2⟩:=zGv (P:=P) (t:=t) (d:=d) (r:=r) hS (hdn d hc.2) hc.1 h.symm (hE x (by simp[ho,Op.operands]));exact valued q w' S κ' (by simp[execOp,ho,e1]) e2 (by rw[<-h])
 · rename_i t ps ho
   obtain⟨y,e1,e2,e3,e4,e5⟩:=zIg (ρ:=a.eval) h (λp hp=>hE p.2 (by
    simp only[ho,Op.operands]
    grind))
   refine still ⟨y,?_,e2,e3,e4,e5⟩;simp only[execOp,ho];simp only[ziR]at e1;simp[e1]
 · rename_i t len ps ho
   have hps:∀p∈ps,VRel S κ D w (E p.2) (a.eval p.2):=λp hp=>hE p.2 (by
    simp only[ho,Op.operands]
    grind)
   split at h
   case h_2=>cases h
   rename_i d hd;split at h
   · split at h
     case isFalse=>cases h
     rename_i hc;obtain⟨y,w',κ',e1,e2⟩:=zBA (E:=λx=>nrmP P t (E x)) (ρ:=a.eval) hS (hdn d hc) h (λp hp=>nrmP_rel (hps p hp));refine valued y w' S κ' ?_ e2 ?_
     ·simp only[execOp,ho];simp only[ziR]at e1;simp[e1]
     · unfold zpz at h
       grind
   · obtain⟨y,w',S',e1,e2⟩:=aLit_sound (E:=λx=>nrmP P t (E x)) (ρ:=a.eval) hS h (λp hp=>nrmP_rel (hps p hp));refine valued y w' S' κ ?_ e2 ?_
     ·simp only[execOp,ho];simp only[ziR]at e1;simp[e1]
     · unfold aLit at h
       grind
 ·rename_i t x ho;obtain⟨y,e1,e2,e3,e4,e5⟩:=zCf h (hE x (by simp[ho,Op.operands])) hL;exact still ⟨y,by simp[execOp,ho,e1],e2,e3,e4,e5⟩
 · rename_i t x y ho;obtain⟨w',e1,e2⟩:=zIq hS h (nrmS_rel (hE y (by simp[ho,Op.operands]))) (hE x (by simp[ho,Op.operands])) hL;unfold Oper.wp;have:(execOp a.eval o).run P w=.ok .skip w':=by simp[execOp,ho,e1]
   rw[this];refine hK undef w' S κ (e2 undef) ?_
   have hf:r.frz=[]:=by
    unfold aStore at h
    repeat' (split at h)
    all_goals first|(injection h with h;subst h;rfl)|cases h
   intro b hb
   simp_all
 · rename_i x ho;split at h
   · rename_i cs hx;injection h with h;subst h;have h1:=hE x (by simp[ho,Op.operands]);rw[hx]at h1;have hf:=h1.fp_inv;refine still ⟨a.eval x,?_,h1,rfl,rfl,rfl,rfl⟩;simp only[execOp,ho];generalize a.eval x=q at hf
     cases hf with
     |fp _ ad u hS' hc hr=>rfl
   ·rename_i b z i oo hx;injection h with h;subst h;have h1:=hE x (by simp[ho,Op.operands]);rw[hx]at h1;obtain⟨g,c,_,_,he⟩:=h1.loc_inv;refine still ⟨a.eval x,?_,h1,rfl,rfl,rfl,rfl⟩;simp only[execOp,ho,he];rfl
   ·rename_i z es hx;injection h with h;subst h;have h1:=hE x (by simp[ho,Op.operands]);rw[hx]at h1;obtain⟨_,_,hf,_⟩:=h1.fa_inv.fa_data;refine still ⟨a.eval x,?_,h1,rfl,rfl,rfl,rfl⟩;simp only[execOp,ho,hf];rfl
   ·cases h
 · rename_i x i ho;split at h
   case h_2=>cases h
   rename_i vs hx;split at h
   case h_2=>cases h
   rename_i av hv;injection h with h;subst h;have h1:=hE x (by simp[ho,Op.operands]);rw[hx]at h1;obtain⟨arr,he,hl,hr⟩:=h1.tup_inv;have hlt:i<arr.size:=by have:=(zam.1 hv).1;omega
   refine still ⟨arr[i],?_,hr i av _ hv (zaU hlt),rfl,rfl,rfl,rfl⟩;simp[execOp,ho,he,Instr.extract,hlt]
 ·rename_i s x f ho;obtain⟨y,e1,e2,e3,e4,e5⟩:=zIi h (hE x (by simp[ho,Op.operands]));exact still ⟨y,by simp[execOp,ho,e1],e2,e3,e4,e5⟩
 · rename_i s x f ho;split at h
   case h_2=>cases h
   rename_i cs fs hx hu;split at h
   case h_2=>cases h
   rename_i fd hfd;split at h
   case h_2=>cases h
   rename_i av hav;injection h with h;subst h;have h1:=hE x (by simp[ho,Op.operands]);rw[hx]at h1;obtain⟨arr,he,hl,h11,hr⟩:=h1.agg_inv;obtain⟨y,e1,e2⟩:=zFv (P:=P) (w:=w) hl h11 hr hav;refine still ⟨y,?_,e2,rfl,rfl,rfl,rfl⟩;simp[execOp,ho,he,Instr.field,run_underlying hu,hfd,asAgg,e1]
 ·rename_i t x ix ho;obtain⟨y,e1,e2,e3,e4,e5⟩:=zIj h (hE x (by simp[ho,Op.operands])) (hE ix (by simp[ho,Op.operands]));exact still ⟨y,by simp[execOp,ho,e1],e2,e3,e4,e5⟩
 · rename_i t x ix ho;split at h
   · rename_i cs k n len e hx hix hu;split at h
     case h_2=>cases h
     rename_i sz hs;split at h
     case isFalse=>cases h
     rename_i hn;split at h
     case h_2=>cases h
     rename_i av hav;injection h with h;subst h;have h1:=hE x (by simp[ho,Op.operands]);have h2:=hE ix (by simp[ho,Op.operands]);rw[hx]at h1;rw[hix]at h2;obtain⟨arr,he,hl,h11,hr⟩:=h1.agg_inv;obtain⟨y,e1,e2⟩:=zFv (P:=P) (w:=w) hl h11 hr hav;refine still ⟨y,?_,e2,rfl,rfl,rfl,rfl⟩;simp[execOp,ho,he,h2.v_inv,Instr.index,asIntOf,run_underlying hu,hn,zd7 hs,e1]
   ·exact still (znr (nosel _ ho (by simp)) hE h)
 · rename_i t x lo hi ho;split at h
   ·exact still (znr (nosel _ ho (by simp)) hE h)
   · rename_i av hne
     have opt:∀q:Option Operand,(∀y,q=some y->y∈o.op.operands)->(q.map E=none/\q.map a.eval=none)\/∃b y,q.map E=some b/\q.map a.eval=some y/\VRel S κ D w b y:=by
      intro q hq
      cases q with
      |none=>grind
      |some y=>simp_all
     obtain⟨y,e1,e2,e3,e4,e5⟩:=zIp h (hE x (by simp[ho,Op.operands])) (opt lo (λy hy=>by simp[ho,Op.operands,hy])) (opt hi (λy hy=>by simp[ho,Op.operands,hy]));exact still ⟨y,by simp[execOp,ho,e1],e2,e3,e4,e5⟩
 · rename_i f first cap ho
   split at h
   case isFalse=>cases h
   rename_i hf;injection h with h;subst h;have hf0:first=#[]:=Array.eq_empty_of_size_eq_zero hf
   subst hf0;refine still ⟨.func (.func f) #[] (cap.map a.eval),by simp[execOp,ho,Instr.makeFunc],.fn f _ _ (by simp) ?_,rfl,rfl,rfl,rfl⟩;intro j c x hj hx;simp at hj hx;obtain⟨q,hq,rfl⟩:=hj;obtain⟨q',hq',rfl⟩:=hx;rw[hq]at hq';injection hq' with hq';subst hq';exact hE q (by simp[ho,Op.operands];grind)
 · rename_i t l c ho;split at h
   case h_2=>cases h
   rename_i d hd;split at h
   case isFalse=>cases h
   rename_i hc;split at h
   · obtain⟨y,w',S',e1,e2⟩:=zIl hS h (hE l (by simp[ho,Op.operands])) (hE c (by simp[ho,Op.operands]));refine valued y w' S' κ (by simp[execOp,ho,e1]) e2 ?_;unfold aMakeL at h
     grind
   obtain⟨y,w',κ',e1,e2⟩:=zJD hS (hdn d hc) h (hE l (by simp[ho,Op.operands])) (hE c (by simp[ho,Op.operands]));refine valued y w' S κ' (by simp[execOp,ho,e1]) e2 ?_;unfold aMake at h
   grind
 · rename_i args argTypes ho;split at h
   case h_2=>cases h
   rename_i d s x t t' hd ha ht;split at h
   case isFalse=>cases h
   rename_i hc;obtain⟨rfl,hdd⟩:=hc;have ha':args=#[s,x]:=by grind
   have ht':argTypes=#[t,t]:=by grind
   subst ha';subst ht';obtain⟨y,w',κ',e1,e2⟩:=zHg (ty:=o.type) hS (hdn d hdd) h (hE s (by simp[ho,Op.operands,Call.operands])) (hE x (by simp[ho,Op.operands,Call.operands])) hL;refine valued y w' S κ' ?_ e2 ?_
   ·simp[execOp,ho,resolve,invoke,builtin,e1]
   · unfold znp at h
     repeat' (split at h)
     all_goals first|(injection h with h;subst h;rfl)|cases h
 · rename_i args argTypes ho;split at h
   case h_2=>cases h
   rename_i s x t tr ha ht;have ha':args=#[s,x]:=by grind
   subst ha';obtain⟨y,w',e1,e2⟩:=zJx (P:=P) (ty:=o.type) (ts:=argTypes) hS (by rw[<-zed,ht];rfl) h (hE s (by simp[ho,Op.operands,Call.operands])) (hE x (by simp[ho,Op.operands,Call.operands])) hL;refine valued y w' S κ ?_ e2 ?_
   ·simp[execOp,ho,resolve,invoke,builtin,e1]
   · unfold aCopy at h
     grind
 · rename_i args argTypes ho;split at h
   case h_2=>cases h
   rename_i s t tr ha ht;have ha':args=#[s]:=by grind
   subst ha';obtain⟨y,w',e1,e2⟩:=zIh (P:=P) (ty:=o.type) (ts:=argTypes) hS (by rw[<-zed,ht];rfl) h (hE s (by simp[ho,Op.operands,Call.operands])) hL;refine valued y w' S κ ?_ e2 ?_
   ·simp[execOp,ho,resolve,invoke,builtin,e1]
   · unfold aClear at h
     grind
 · rename_i args argTypes ho;split at h
   case h_2=>cases h
   rename_i s t ha ht;split at h
   ·exact still (znr (nosel _ ho (by simp)) hE h)
   · rename_i av e hu hne;have ha':args=#[s]:=by grind
     have ht':argTypes=#[t]:=by grind
     subst ha';subst ht';have h1:=hE s (by simp[ho,Op.operands,Call.operands])
     have hlen:∃A n c,a.eval s=.slice A n c/\r={ val:=.v (.int .i64 n) }:=by
      unfold aLen at h;split at h
      · rename_i z es hh;injection h with h;rw[hh]at h1;have:=h1.sl_inv;generalize a.eval s=q at this
        cases this with
        |sl _ _ A len cap u hlen=>grind
      · rename_i b z off n hh;injection h with h;rw[hh]at h1;generalize a.eval s=q at h1
        cases h1 with
        |c h=>cases h
        |row0=>grind
        |row _ _ _ _ g c off' cap=>grind
      ·cases h
     obtain⟨A,n,c,he,hr⟩:=hlen;subst hr;exact still ⟨.int .i64 n,by simp[execOp,ho,resolve,invoke,builtin,Builtin.len_,he,run_underlying hu,goInt],.c (.v _),rfl,rfl,rfl,rfl⟩
   · rename_i av kt et hu hne;have ha':args=#[s]:=by grind
     have ht':argTypes=#[t]:=by grind
     subst ha';subst ht';obtain⟨y,e1,e2,e3,e4,e5⟩:=zJC (ty:=o.type) hu h (hE s (by simp[ho,Op.operands,Call.operands])) hL;exact still ⟨y,by simp[execOp,ho,resolve,invoke,builtin,e1],e2,e3,e4,e5⟩
   ·cases h
 · rename_i args argTypes ho;split at h
   case h_2=>cases h
   rename_i m k t tr ha ht;have ha':args=#[m,k]:=by grind
   subst ha';obtain⟨y,w',S',e1,e2,e3⟩:=zJB (P:=P) (ty:=o.type) (ts:=argTypes) hS hinj (by rw[<-zed,ht];rfl) h (hE m (by simp[ho,Op.operands,Call.operands])) (hE k (by simp[ho,Op.operands,Call.operands])) hL;refine valued y w' S' κ ?_ e2 e3;simp[execOp,ho,resolve,invoke,builtin,e1]
 · rename_i t ho;split at h
   case h_2=>cases h
   rename_i d hd;split at h
   case isFalse=>cases h
   rename_i hc;obtain⟨y,w',κ',e1,e2,e3⟩:=zIm hS (hdn d hc) h;exact valued y w' S κ' (by simp[execOp,ho,e1]) e2 e3
 ·rename_i t m k ok ho;obtain⟨y,e1,e2,e3,e4,e5⟩:=zIk h (hE m (by simp[ho,Op.operands])) (hE k (by simp[ho,Op.operands])) hL;exact still ⟨y,by simp[execOp,ho,e1],e2,e3,e4,e5⟩
 · rename_i t m k x ho;obtain⟨w',S',e1,e2,e3⟩:=zCi hS hDL hinj h (hE m (by simp[ho,Op.operands])) (hE k (by simp[ho,Op.operands])) (hE x (by simp[ho,Op.operands])) hL;unfold Oper.wp;have:(execOp a.eval o).run P w=.ok .skip w':=by simp[execOp,ho,e1]
   rw[this];exact hK undef w' S' κ (e2 undef) e3
 · rename_i t m k x ho;obtain⟨w',S',e1,e2,e3⟩:=zCi hS hDL hinj h (hE m (by simp[ho,Op.operands])) (hE k (by simp[ho,Op.operands])) (hE x (by simp[ho,Op.operands])) hL;unfold Oper.wp;have:(execOp a.eval o).run P w=.ok .skip w':=by simp[execOp,ho,e1]
   rw[this];exact hK undef w' S' κ (e2 undef) e3
 · rename_i g args argTypes ho;split at h
   case h_2=>cases h
   rename_i f cap hg;split at h
   ·exact still (znr (nosel _ ho (by simp)) hE h)
   · rename_i hb;have h1:=hE g (by simp[ho,Op.operands,Call.operands]);rw[hg]at h1;obtain⟨caps,he,hcl,hcr⟩:=h1.fn_inv
     have hvals:∀(j:Nat) (av:AV) (x:Value),(args.toList.map E++cap)[j]?=some av->(args.map a.eval++caps)[j]?=some x->VRel S κ D w av x:=by
      intro j av x hj hx;rw[zci]at hj;rw[zf0]at hx;simp only[zad,zc2]at hj;simp only[Array.size_map]at hx;split at hj
      ·rename_i hlt;rw[if_pos hlt]at hx;simp at hj hx;obtain⟨q,hq,rfl⟩:=hj;obtain⟨q',hq',rfl⟩:=hx;rw[hq]at hq';injection hq' with hq';subst hq';exact hE q (by simp[ho,Op.operands,Call.operands];exact .inr (zgW hq))
      ·rename_i hlt;rw[if_neg hlt]at hx;exact hcr _ av x hj hx
     have hvals':∀(j:Nat) (av:AV) (x:Value),(nrmA P (rawT C f argTypes) (args.toList.map E)++cap)[j]?=some av->(args.map a.eval++caps)[j]?=some x->VRel S κ D w av x:=by
      intro j av x hj hx;rw[zci]at hj;split at hj
      · rename_i hlt;obtain⟨a0,ha0,hc⟩:=zyB P _ _ j av hj
        have h0:(args.toList.map E++cap)[j]?=some a0:=by rw[zci,if_pos (by rw[zlC]at hlt;exact hlt)];exact ha0
        rcases hc with rfl|⟨t',rfl⟩
        ·grind
        ·exact zuu (hvals j _ x h0 hx)
      ·rename_i hlt;refine hvals j av x ?_ hx;rw[zci,if_neg (by rw[zlC]at hlt;exact hlt)];rw[zlC]at hj;exact hj
     have enter:enters P f=true->∀Q',Calls P f (args.map a.eval++caps) w Q'->(∀e w',Q' e w'->∃x,e=.returned x/\K (a.put o.dst x) w')->o.wp P a w K Q:=by
      intro hb' Q' hcalls hQ;unfold enters at hb';split at hb'
      case h_2=>cases hb'
      rename_i fn hfn;simp only[zaO,zc4]at hb';have hbody:¬fn.body=none:=by cases hq:fn.body<;>simp_all
      have hname:¬fn.name = "runtime.NumGoroutine":=by simpa using hb'.2
      have hrun:(execOp a.eval o).run P w=.ok (.enter f (args.map a.eval++caps)) w:=by simp[execOp,ho,resolve,he,Deferred.ofValue,invoke,callFunc,hfn,hbody,hname]
      unfold Oper.wp;rw[hrun];simp only[Oper.upon];refine hcalls.mono ?_;intro e w' hq;obtain⟨x,rfl,hk⟩:=hQ e w' hq;exact hk
     have done:∀(d:Option Nat) (k:Bool) (r0:Res),(∀d',d=some d'->¬D d')->aCall C call L d f (nrmA P (rawT C f argTypes) (args.toList.map E)++cap)=some r0->toKill k r0=some r->o.wp P a w K Q:=by
      intro d k r0 hd hc htk;obtain⟨hb',hcalls⟩:=zJw hcall hS hDL hinj hd hL hc (vals:=args.map a.eval++caps) (by simp[hcl,zlC]) hvals';refine enter hb' _ hcalls ?_
      rintro e w' ⟨x,S',κ',rfl,h2,h3⟩
      obtain⟨h4,h5⟩:=zJr htk h2 h3;exact⟨x,rfl,hK x w' S' κ' h4 h5⟩
     split at h
     · rename_i k0 hdp;split at h
       case isFalse=>cases h
       obtain⟨hb',hcalls⟩:=zJA hcall hS hDL hinj hL h (vals:=args.map a.eval++caps) (by simp[hcl,zlC]) hvals';refine enter hb' _ hcalls ?_
       rintro e w' ⟨x,S',κ',rfl,h2,h3⟩
       exact⟨x,rfl,hK x w' S' κ' h2 h3⟩
     split at h
     ·grind
     ·exact done none false r (λd' hd'=>by cases hd') h rfl
 · rename_i op t x y u ho;split at h
   ·rename_i cs ds hx hy;have h1:=hE x (by simp[ho,Op.operands]);have h2:=hE y (by simp[ho,Op.operands]);rw[hx]at h1;rw[hy]at h2;obtain⟨b,e1,e2⟩:=aEq_sound (o:=o) (ρ:=a.eval) ho h h1 h2;subst e2;exact still ⟨.bool b,e1,.c (.v _),rfl,rfl,rfl,rfl⟩
   · split at h
     ·rename_i r0 hn;injection h with h;subst h;obtain⟨b,e1,e2⟩:=zJj (o:=o) (ρ:=a.eval) ho hn (hE x (by simp[ho,Op.operands])) (hE y (by simp[ho,Op.operands]));subst e2;exact still ⟨.bool b,e1,.c (.v _),rfl,rfl,rfl,rfl⟩
     ·exact still (znr (λcs b e=>by simp_all) hE h)
 ·cases h
 ·rename_i hsel _;exact still (znr (λcs b e=>by simp_all) hE h)
end
end Go.Ab
namespace Go.Ab
open Go.RowKit
structure Shape(o:Oper)(L:Nat->Option Ent)(r:Res):Prop where
 kill:∀b,r.kill=some b->b ∉ ids r.set/\b<1000
 set:∀b∈ids r.set,(L b).isSome=true\/o.dst=some b
 frz:∀b∈r.frz,b<1000
 re:∀b∈r.re,b<1000
theorem Shape.none{o:Oper}{L:Nat->Option Ent}{r:Res}(h1:r.set=[])(h2:r.kill=none)(h3:r.frz=[])(h4:r.re=[]:=by rfl):Shape o L r:=
 ⟨(λb h=>by rw[h2]at h;cases h),(λb h=>by simp[ids,h1]at h),(λb h=>by rw[h3]at h;cases h),(λb h=>by rw[h4]at h;cases h)⟩
theorem Shape.one{o:Oper}{L:Nat->Option Ent}{r:Res}{d:Nat}{e:Ent}(h1:r.set=[(d,e)])(hd:(L d).isSome=true\/o.dst=some d)(h2:∀b,r.kill=some b->b≠d/\b<1000)(h3:r.frz=[])(h4:r.re=[]:=by rfl):Shape o L r:=
 ⟨λb h=>⟨(λhm=>by simp[ids,h1]at hm;exact(h2 b h).1 hm),(h2 b h).2⟩,(λb h=>by simp[ids,h1]at h;subst h;exact hd),(λb h=>by rw[h3]at h;cases h),(λb h=>by rw[h4]at h;cases h)⟩
theorem zCB{L:Nat->Option Ent}{wr:List Nat}:∀(args:List AV) (k:Nat) (as:List AV) (ms:Mem) (bk:List (Nat×Nat)) (fz:List Nat),zeX L wr k args=some (as,ms,bk,fz)->∀p∈bk,(L p.1).isSome=true:=by
 intro args
 induction args with
 |nil =>
   intro k as ms bk fz h p hp;simp[zeX]at h
   simp_all
 |cons a r ih =>
   intro k as ms bk fz h p hp;simp only[zeX]at h
   grind
theorem zGp{L:Nat->Option Ent}{wr:List Nat}{args:List AV}{k:Nat}{as:List AV}{ms:Mem}{bk:List (Nat×Nat)}{fz:List Nat}(h:zeX L wr k args=some (as,ms,bk,fz)):(∀p∈bk,p.2<1000->p.1<1000)/\(bk.map (·.1)).Nodup:=by
 have key:∀(args:List AV) (k:Nat) (as:List AV) (ms:Mem) (bk:List (Nat×Nat)) (fz:List Nat),zeX L wr k args=some (as,ms,bk,fz)->(∀p∈bk,p.2<1000->p.1<1000)/\(bk.map (·.1)).Nodup:=by
  intro args
  induction args with
  |nil =>
    intro k as ms bk fz h;simp[zeX]at h
    simp_all
  |cons a r ih =>
    intro k as ms bk fz h;simp only[zeX]at h
    cases hr:zeX L wr (k+1) r with
    |none=>simp[hr]at h
    |some q =>
      obtain⟨as0,ms0,bk0,fz0⟩:=q;simp only[hr]at h
      grind
 grind
theorem zCe{C:Cfg}{call:zcv}{o:Oper}{L:Nat->Option Ent}{f:FuncId}{args:List AV}{r:Res}(hdn:∀d,o.dst=some d->(L d).isSome=false)(h:aCall C call L o.dst f args=some r):Shape o L r:=by
 unfold aCall at h;split at h
 ·cases h
 · rename_i as ms bk fz hp;split at h
   case isFalse=>cases h
   split at h
   ·cases h
   · split at h
     ·cases h
     · rename_i back hback;obtain⟨b1,b2⟩:=zx3 hback;obtain⟨hgv,hnd⟩:=zGp hp
       have hb:∀b∈ids back,(L b).isSome=true:=by intro b hb;rw[b1]at hb;obtain⟨p,hp',rfl⟩:=zbs.1 hb;exact zCB args 0 as ms bk fz hp p (zhe.1 hp').1
       split at h
       case isFalse=>cases h
       rename_i hall;have hfz:=λb hb=>of_decide_eq_true (zbH.1 hall b hb)
       split at h
       case h_2=>cases h
       rename_i res hres;obtain⟨hkr,hgk⟩:=zCM h (zAQ hres);subst hkr
       have hk:∀b,(zdv bk).head?=some b->b ∉ ids back/\b<1000/\(L b).isSome=true:=by
        intro b hb';obtain⟨k,q1,q2⟩:=znv.1 ((hgk b).2 hb');refine⟨λhm=>?_,hgv _ q1 q2,zCB args 0 as ms bk fz hp _ q1⟩;rw[b1]at hm;obtain⟨p,hp',e⟩:=zbs.1 hm;obtain⟨p1,p2⟩:=zhe.1 hp'
        have:p=(b,k):=by
         have nd:∀l:List (Nat×Nat),(l.map (·.1)).Nodup->∀x y,x∈l->y∈l->x.1=y.1->x=y:=by
          intro l hn
          induction l with
          |nil=>intro x y h;cases h
          |cons q l ihl=>grind
         exact nd bk hnd p (b,k) p1 q1 e
        rw[this]at p2;simp at p2;omega
       have fin:∀(v:AV) (fz':List Nat),(∀b∈fz',b<1000)->Shape o L { val:=v,set:=back,frz:=fz',kill:=(zdv bk).head? }:=by intro v fz' hf;exact⟨λb hk'=>⟨(hk b hk').1,(hk b hk').2.1⟩,λb hm=>.inl (hb b hm),hf,λb hm=>by cases hm⟩
       have fin2:∀(v:AV) (d:Nat) (e:Ent),o.dst=some d->(L d).isSome=false->∀fz',(∀b∈fz',b<1000)->Shape o L { val:=v,set:=(d,e)::back,frz:=fz',kill:=(zdv bk).head? }:=by
        intro v d e hd hn fz' hf;refine⟨λb hk'=>⟨λhm=>?_,(hk b hk').2.1⟩,λb hm=>?_,hf,λb hm=>by cases hm⟩
        · simp only[ids,zbJ,za4]at hm
          grind
        · simp only[ids,zbJ,za4]at hm
          grind
       unfold zus at hres;split at hres
       ·grind
       ·grind
       ·grind
       ·cases hres
       ·cases hres
       ·cases hres
       ·grind
       ·grind
       ·cases hres
       grind
theorem zJz{call:zcv}{o:Oper}{L:Nat->Option Ent}{f:FuncId}{k0:Nat}{args:List AV}{r:Res}(h:aDeep call L f k0 args=some r):Shape o L r:=by
 unfold aDeep at h;split at h
 case h_2=>cases h
 rename_i b z hk0;split at h
 case h_2=>cases h
 rename_i ent hlb;split at h
 case isFalse=>cases h
 split at h
 case h_2=>cases h
 rename_i cs hes;split at h
 case h_2=>cases h
 rename_i cs' nms nbk as fz hnest hda;split at h
 case isFalse=>cases h
 rename_i hcond;obtain⟨hz,hbx,hnb,hfz⟩:=hcond;split at h
 case h_2=>cases h
 rename_i rv ms' hc;obtain⟨n1,n2,n3,n4,n5,n6,n7⟩:=zGV cs 900 cs' nms nbk hnest;unfold dRes at h;split at h
 case isFalse=>cases h
 split at h
 case h_2=>cases h
 rename_i ent1 bck hl1 hbn;split at h
 case h_2=>cases h
 split at h
 case h_2=>cases h
 injection h with h;subst h;obtain⟨b1,b2⟩:=zx2 nbk bck hbn;refine⟨(λc hc=>by cases hc),λc hc=>?_,λc hc=>?_,λc hc=>?_⟩
 · have:c=b\/c∈ids bck:=by simpa[ids]using hc
   grind
 ·simp_all
 grind
theorem zJq{k:Bool}{o:Oper}{L:Nat->Option Ent}{r r0:Res}(h:toKill k r0=some r)(hs:Shape o L r0):Shape o L r:=by
 unfold toKill at h;split at h
 · rename_i b rest hf hk;split at h
   case isFalse=>cases h
   rename_i hc;simp only[zaf]at h;subst h;refine⟨λc hm=>?_,hs.set,(λc hm=>by cases hm),hs.re⟩;injection hm with hm;subst hm;refine⟨λhi=>?_,hs.frz b (by simp_all)⟩;obtain⟨p,hp,e⟩:=zbs.1 hi
   grind
 simp_all
theorem znq{P:Program}{o:Oper}{E:Operand->AV}{L:Nat->Option Ent}{r:Res}(h:aPure P o E=some r):Shape o L r:=by
 unfold aPure at h
 repeat' (split at h)
 all_goals first|(injection h with h;subst h;exact Shape.none rfl rfl rfl)|cases h
theorem zCh{P:Program}{o:Oper}{L:Nat->Option Ent}{t:TypeId}{m k x:AV}{r:Res}(h:aMSet P L t m k x=some r):Shape o L r:=by
 unfold aMSet at h;split at h
 case h_2=>cases h
 split at h
 case h_2=>cases h
 split at h
 case h_2=>cases h
 rename_i ent hl;split at h
 case isFalse=>cases h
 rename_i hc;split at h
 case h_2=>cases h
 split at h
 case isFalse=>cases h
 split at h
 case h_2=>cases h
 injection h with h;subst h;refine⟨(λb hk=>by cases hk),(λb hm=>by simp[ids]at hm;simp_all),λb hb=>?_,λb hb=>by cases hb⟩
 simp_all
theorem aop_shape{P:Program}{C:Cfg}{M:List Nat}{call:zcv}{o:Oper}{E:Operand->AV}{L:Nat->Option Ent}{r:Res}(h:aop P C M call o E L=some r):Shape o L r:=by
 unfold aop at h;split at h
 all_goals try(first
  |exact znq h
  |(injection h with h;subst h;exact Shape.none rfl rfl rfl)
  |cases h)
 · repeat' (split at h)
   all_goals first|(injection h with h;subst h;exact Shape.none rfl rfl rfl)|cases h
 · split at h
   case h_2=>cases h
   rename_i d zero n hd hz hn;split at h
   case isFalse=>cases h
   split at h
   · unfold aArr at h
     repeat' (split at h)
     all_goals first|(injection h with h;subst h;exact Shape.one rfl (.inr hd) (λb hk=>by cases hk) rfl)|cases h
   injection h with h;subst h;exact Shape.one rfl (.inr hd) (λb hk=>by cases hk) rfl
 · split at h
   case h_2=>cases h
   rename_i d hd;split at h
   case isFalse=>cases h
   injection h with h;subst h;exact Shape.one rfl (.inr hd) (λb hk=>by cases hk) rfl
 · unfold aBuild at h
   repeat' (split at h)
   all_goals first|(injection h with h;subst h;exact Shape.none rfl rfl rfl)|cases h
 · split at h
   case h_2=>cases h
   rename_i d hd;split at h
   · split at h
     case isFalse=>cases h
     unfold zpz at h
     repeat' (split at h)
     all_goals first|(injection h with h;subst h;exact Shape.one rfl (.inr hd) (λb hk=>by cases hk) rfl)|cases h
   · unfold aLit at h
     repeat' (split at h)
     all_goals first|(injection h with h;subst h;exact Shape.none rfl rfl rfl)|cases h
 · unfold aLoad at h
   repeat' (split at h)
   all_goals first|(injection h with h;subst h;exact Shape.none rfl rfl rfl)|cases h
 · unfold aStore at h;split at h
   case h_2=>cases h
   split at h
   case h_2=>cases h
   rename_i ent n hl hs;split at h
   case isFalse=>cases h
   split at h
   case h_2=>cases h
   split at h
   case isFalse=>cases h
   injection h with h;subst h;exact Shape.one rfl (.inl (by simp[hl])) (λb hk=>by cases hk) rfl
 · repeat' (split at h)
   all_goals first|(injection h with h;subst h;exact Shape.none rfl rfl rfl)|cases h
 · repeat' (split at h)
   all_goals first|(injection h with h;subst h;exact Shape.none rfl rfl rfl)|cases h
 · unfold aField at h
   repeat' (split at h)
   all_goals first|(injection h with h;subst h;exact Shape.none rfl rfl rfl)|cases h
 · repeat' (split at h)
   all_goals first|(injection h with h;subst h;exact Shape.none rfl rfl rfl)|cases h
 · unfold aIndex at h
   repeat' (split at h)
   all_goals first|(injection h with h;subst h;exact Shape.none rfl rfl rfl)|cases h
 · repeat' (split at h)
   all_goals first|exact znq h|(injection h with h;subst h;exact Shape.none rfl rfl rfl)|cases h
 · split at h
   ·exact znq h
   · unfold aSlice at h
     repeat' (split at h)
     all_goals first|(injection h with h;subst h;exact Shape.none rfl rfl rfl)|cases h
 · split at h
   ·injection h with h;subst h;exact Shape.none rfl rfl rfl
   ·cases h
 · split at h
   case h_2=>cases h
   rename_i d hd;split at h
   case isFalse=>cases h
   split at h
   · unfold aMakeL at h
     repeat' (split at h)
     all_goals first|(injection h with h;subst h;exact Shape.none rfl rfl rfl)|cases h
   unfold aMake at h
   repeat' (split at h)
   all_goals first|(injection h with h;subst h;exact Shape.one rfl (.inr hd) (λb hk=>by cases hk) rfl)|cases h
 · split at h
   case h_2=>cases h
   rename_i d s x t t' hd ha ht;split at h
   case isFalse=>cases h
   unfold znp at h
   repeat' (split at h)
   all_goals try(cases h;done)
   ·injection h with h;subst h;exact Shape.one rfl (.inr hd) (λb hk=>by cases hk) rfl
   · rename_i hc;injection h with h;subst h;refine Shape.one rfl (.inr hd) (λb hk=>?_) rfl
     simp_all
 · split at h
   case h_2=>cases h
   unfold aCopy at h;split at h
   case h_2=>cases h
   split at h
   case h_2=>cases h
   split at h
   case h_2=>cases h
   rename_i ent new hl hsrc;split at h
   case isFalse=>cases h
   injection h with h;subst h;exact Shape.one rfl (.inl (by simp[hl])) (λb hk=>by cases hk) rfl
 · split at h
   case h_2=>cases h
   unfold aClear at h;split at h
   case h_2=>cases h
   split at h
   case h_2=>cases h
   split at h
   case h_2=>cases h
   rename_i ent hl;split at h
   case isFalse=>cases h
   injection h with h;subst h;exact Shape.one rfl (.inl (by simp[hl])) (λb hk=>by cases hk) rfl
 · split at h
   case h_2=>cases h
   split at h
   ·exact znq h
   · unfold aLen at h
     repeat' (split at h)
     all_goals first|(injection h with h;subst h;exact Shape.none rfl rfl rfl)|cases h
   · unfold aMLen at h
     repeat' (split at h)
     all_goals first|(injection h with h;subst h;exact Shape.none rfl rfl rfl)|cases h
   ·cases h
 · split at h
   case h_2=>cases h
   unfold aMDel at h;split at h
   case h_2=>cases h
   split at h
   case h_2=>cases h
   split at h
   case h_2=>cases h
   rename_i ent hl;split at h
   case isFalse=>cases h
   split at h
   case h_2=>cases h
   injection h with h;subst h;exact Shape.one rfl (.inl (by simp[hl])) (λb hk=>by cases hk) rfl
 · split at h
   case h_2=>cases h
   rename_i d hd;split at h
   case isFalse=>cases h
   unfold aMkMap at h;split at h
   ·injection h with h;subst h;exact Shape.one rfl (.inr hd) (λb hk=>by cases hk) rfl
   ·cases h
 · unfold aMLook at h
   repeat' (split at h)
   all_goals first|(injection h with h;subst h;exact Shape.none rfl rfl rfl)|cases h
 ·exact zCh h
 ·exact zCh h
 · split at h
   case h_2=>cases h
   split at h
   ·exact znq h
   · split at h
     · split at h
       ·exact zJz h
       ·cases h
     split at h
     · rename_i d hd;split at h
       case isFalse=>cases h
       rename_i hnone;split at h
       case h_2=>cases h
       rename_i r0 hc;rw[<-hd]at hc;refine zJq h (zCe (λd' hd'=>?_) hc)
       simp_all
     ·rename_i hd;rw[<-hd]at h;exact zCe (λd' hd'=>by grind) h
 · split at h
   · unfold aEq at h
     repeat' (split at h)
     all_goals first|(injection h with h;subst h;exact Shape.none rfl rfl rfl)|cases h
   · split at h
     · rename_i r0 hn;injection h with h;subst h;unfold nilCmp nilOp at hn
       repeat' (split at hn)
       all_goals first|(injection hn with hn;subst hn;exact Shape.none rfl rfl rfl)|cases hn
     ·exact znq h
end Go.Ab
namespace Go.Ab
open Go.RowKit
variable[Dr]
def frzO(bs:List Nat)(L:Nat->Option Ent)(a:AV):AV:=match bs with
 |[]=>a
 |bs=>zfu bs L 4 a
def killO(b:Option Nat)(a:AV):AV:=match b with
 |some b=>a.kill b 4
 |none=>a
def frzLO(bs:List Nat)(L:Nat->Option Ent):Nat->Option Ent:=match bs with
 |[]=>L
 |bs=>frzL bs L
def killLO(b:Option Nat)(L:Nat->Option Ent):Nat->Option Ent:=match b with
 |some b=>killL b L
 |none=>L
def killR:List Nat->AV->AV
 |[],a=>a
 |b::bs,a=>killR bs (a.kill b 4)
def killLR:List Nat->(Nat->Option Ent)->Nat->Option Ent
 |[],L=>L
 |b::bs,L=>killLR bs (killL b L)
def applyT(dst:Option Nat)(r:Res)(T:Nat->AV)(L:Nat->Option Ent):Nat->AV:=λk=>if dst=some k then r.val else killR r.re (killO r.kill (frzO r.frz L (T k)))
def applyL(r:Res)(L:Nat->Option Ent):Nat->Option Ent:=λc=>match look r.set c with
 |some e=>some e
 |none=>killLR r.re (killLO r.kill (frzLO r.frz L)) c
theorem zFd:∀(bs:List Nat) (st:St) (k:Nat),get (delAll bs st).t k=killR bs (get st.t k)
 |[],st,k=>rfl
 |b::bs,st,k=>by simp only[delAll,killR];rw[zFd bs (del b st) k];simp only[del];rw[zot]
theorem zCx:∀(bs:List Nat) (st:St),look (delAll bs st).m=killLR bs (look st.m)
 |[],st=>rfl
 |b::bs,st=>by
   simp only[delAll,killLR];rw[zCx bs (del b st)];have:look (del b st).m=killL b (look st.m):=funext λc=>ziq b st.m c
   rw[this]
theorem zvM(p:Nat×Ent):∀(m:Mem) (c:Nat),(look m p.1).isSome=true->look (repM p m) c=if c=p.1 then some p.2 else look m c
 |[],c,h=>by simp[look]at h
 |(j,e)::r,c,h=>by
   simp only[repM];split
   · rename_i hj;simp only[look]
     simp_all
   · rename_i hj;simp only[look]at h ⊢;rw[if_neg hj]at h;by_cases hc:c=j
     ·grind
     ·rw[if_neg hc,if_neg hc];exact zvM p r c h
theorem look_setM(p:Nat×Ent)(m:Mem)(c:Nat):look (setM p m) c=if c=p.1 then some p.2 else look m c:=by
 unfold setM;split
 ·rename_i e he;exact zvM p m c (by rw[he];rfl)
 ·rfl
theorem zCy:∀(l:List (Nat×Ent)) (m:Mem) (c:Nat),look (setAll l m) c=match look l c with|some e=>some e|none=>look m c
 |[],m,c=>rfl
 |(j,e)::r,m,c=>by
   simp only[setAll,look_setM,look];split
   ·rfl
   ·exact zCy r m c
theorem get_apply(dst:Option Nat)(r:Res)(st:St)(k:Nat):get (applyR dst r st).t k=applyT dst r (get st.t) (look st.m) k:=by
 have h1:∀j,get (zeH r.frz st).t j=frzO r.frz (look st.m) (get st.t j):=by
  intro j;unfold zeH frzO
  cases r.frz with
  |nil=>rfl
  |cons b bs=>exact zwz _ _ _ _
 simp only[applyR,applyT]
 have h2':∀j,get (match r.kill with|some b=>del b (zeH r.frz st)|none=>zeH r.frz st).t j=killO r.kill (frzO r.frz (look st.m) (get st.t j)):=by
  intro j
  cases r.kill with
  |none=>exact h1 j
  |some b=>simp only[del,killO];rw[zot,h1]
 have h2:∀j,get (delAll r.re (match r.kill with|some b=>del b (zeH r.frz st)|none=>zeH r.frz st)).t j=killR r.re (killO r.kill (frzO r.frz (look st.m) (get st.t j))):=by intro j;rw[zFd,h2']
 cases dst with
 |none=>rw[if_neg (by simp)];exact h2 k
 |some d =>
   simp only[putO,get]
   grind
theorem look_apply(dst:Option Nat)(r:Res)(st:St)(c:Nat):look (applyR dst r st).m c=applyL r (look st.m) c:=by
 have h1:∀j,look (zeH r.frz st).m j=frzLO r.frz (look st.m) j:=by
  intro j;unfold zeH frzLO
  cases r.frz with
  |nil=>rfl
  |cons b bs=>simp only[frzL];exact zu8 _ _ _ _
 simp only[applyR,applyL];rw[zCy];split
 ·rfl
 · rw[zCx]
   have h2:look (match r.kill with|some b=>del b (zeH r.frz st)|none=>zeH r.frz st).m=killLO r.kill (frzLO r.frz (look st.m)):=by
    funext c
    cases r.kill with
    |none=>exact h1 c
    |some b=>simp only[del,killLO];rw[ziq];have:look (zeH r.frz st).m=frzLO r.frz (look st.m):=funext h1;rw[this]
   grind
theorem zDO:∀{m:List (Nat×Ent)} {b:Nat},(look m b).isSome=true↔b∈ids m:=by
 intro m b;constructor
 ·intro h;obtain⟨e,he⟩:=zaI.1 h;exact zbs.2 ⟨_,zmU he,rfl⟩
 ·exact zi5
section
variable{w0:World}{S0:Nat->Prop}{κ0:Kap}{K:Nat->Prop}{N:Nat}{S:Nat->Prop}{κ:Kap}{T:Nat->AV}{L:Nat->Option Ent}{a:Act}{w:World}
theorem tmps_put(a:Act)(dst:Option Nat)(y:Value)(hd:dstOk a.tmps.size dst=true)(k:Nat):(a.put dst y).tmps.getD k undef=if dst=some k then y else a.tmps.getD k undef:=by
 cases dst with
 |none=>simp[Act.put]
 |some d =>
   simp[dstOk]at hd;by_cases hk:d=k
   ·subst hk;simp[Act.put,hd]
   · have:¬(some d=some k):=λe=>hk (by injection e)
     rw[if_neg this];simp[Act.put,Array.getElem?_setIfInBounds_ne hk]
theorem zCv:∀{bs:List Nat} {L:Nat->Option Ent} {b:Nat},b ∉ bs->((killLR bs L b).isSome=true↔(L b).isSome=true)
 |[],L,b,_=>Iff.rfl
 |c::cs,L,b,h=>by
   have h1:b≠c:=λe=>h (by simp[e])
   have h2:b ∉ cs:=λe=>h (by simp[e])
   simp only[killLR];rw[zCv h2];simp[killL,h1]
theorem zGK:∀{bs:List Nat} {L:Nat->Option Ent} {b:Nat} {e:Ent},killLR bs L b=some e->b ∉ bs->∃e0,L b=some e0/\e=(if e0.box then{ e0 with es:=e0.es.map λcs=>cs.map (killR bs) }else e0)
 |[],L,b,e,h,_=>⟨e,h,by
   have:killR []=id:=rfl
   simp[this]⟩
 |c::cs,L,b,e,h,hn=>by
   have h1:b≠c:=λe=>hn (by simp[e])
   have h2:b ∉ cs:=λe=>hn (by simp[e])
   simp only[killLR]at h;obtain⟨e1,h3,h4⟩:=zGK h h2;simp only[killL,h1,if_false]at h3
   cases hl:L b with
   |none=>simp[hl]at h3
   |some e0 =>
     simp[hl]at h3;refine⟨e0,rfl,?_⟩;rw[h4,<-h3];unfold killE;cases hb:e0.box
     ·simp[hb]
     ·simp[killR,zhm]
theorem zCw{S:Nat->Prop}{κ:Kap}{w:World}:∀(bs:List Nat) {D D':Nat->Prop} {a:AV} {x:Value},(∀c,D c->c ∉ bs->D' c)->VRel S κ D w a x->VRel S κ D' w (killR bs a) x
 |[],D,D',a,x,hD,h=>h.mono (λ_ h=>h) (λ_ _=>rfl) (λc hc=>hD c hc (by simp)) (λ_ _=>rfl)
 |b::bs,D,D',a,x,hD,h=>zCw bs (D:=λc=>D c/\c≠b) (λc hc hn=>hD c hc.1 (λhm=>by simp_all)) (zua (λc hc hne=>⟨hc,hne⟩) 4 h)
theorem Good.apply{o:Oper}{r:Res}{y:Value}{w':World}{S':Nat->Prop}{κ':Kap}(h:Good w0 S0 κ0 K N S κ T L a w)(hN:N<=1000)(hdst:dstOk N o.dst=true)
  (he:EffAt S κ (λb=>(L b).isSome=true) w S' κ' r y w') (hdis:Dis (λb=>(L b).isSome=true) r) (hsh:Shape o L r):Good w0 S0 κ0 K N S' κ' (applyT o.dst r T L) (applyL r L) (a.put o.dst y) w':=by
 let S1:Nat->Prop:=λg=>S g\/∃b c,b∈r.frz/\(L b).isSome=true/\κ b=some (g,c)
 have hblockLt:∀b g c,(L b).isSome=true->κ b=some (g,c)->g<w.heap.size/\¬S g:=by intro b g c hb hk;obtain⟨ent,hent⟩:=zaI.1 hb;have:=h.ents b ent hent;rw[hk]at this;exact⟨this.lt,this.notS⟩
 have hset:∀b,b∈ids r.set->¬(L b).isSome=true->b<1000:=by
  intro b hb hn;rcases hsh.set b hb with h1|h1
  ·exact absurd h1 hn
  ·rw[h1]at hdst;simp[dstOk]at hdst;omega
 have hDiff:∀b,(applyL r L b).isSome=true↔D1 (λb=>(L b).isSome=true) r b:=by
  intro b;have hl:(look r.set b).isSome=true↔b∈ids r.set:=zDO
  have hk0:(killLO r.kill (frzLO r.frz L) b).isSome=true↔((L b).isSome=true/\r.kill≠some b/\b ∉ r.frz):=by
   have h1:(frzLO r.frz L b).isSome=true↔(L b).isSome=true/\b ∉ r.frz:=by
    unfold frzLO
    cases hf:r.frz with
    |nil=>simp
    |cons c cs =>
      simp only[frzL]
      grind
   unfold killLO
   cases hq:r.kill with
   |none=>simp[h1]
   |some c =>
     simp only[killL]
     grind
  have hk:b ∉ ids r.set->((killLR r.re (killLO r.kill (frzLO r.frz L)) b).isSome=true↔((L b).isSome=true/\r.kill≠some b/\b ∉ r.frz)):=λhn=>by
   rw[<-hk0];have hre:b ∉ r.re:=λhm=>hn (he.res b hm)
   exact zCv hre
  unfold applyL D1
  cases hq:look r.set b with
  |some e=>simp_all
  |none=>simp_all
 have hS1w:∀g,S1 g->w'.heap[g]?=w.heap[g]?:=by
  intro g hg;rcases hg with hg|⟨b,c,hb,hd,hk⟩
  ·exact he.blk g (h.slt g hg) (λb c _ hd hk=>(hblockLt b g c hd hk).2 hg)
  · refine he.blk g (hblockLt b g c hd hk).1 (λb' c' hb' hd' hk'=>?_);have:b'=b:=h.inj b' b g c' c hd' hd hk' hk;subst this;obtain⟨_,h2,h3⟩:=hdis b' hb
    simp_all
 have hS1':∀g,S1 g->S' g:=by
  intro g hg;rcases hg with hg|⟨b,c,hb,_,hk⟩
  ·exact he.sup g hg
  ·exact he.sfrz b hb g c hk
 have hDold:∀b,(L b).isSome=true->r.kill≠some b->b ∉ r.frz->(applyL r L b).isSome=true:=λb h1 h2 h3=>(hDiff b).2 (.inl ⟨h1,h2,h3⟩)
 have hval:∀(av:AV) (x:Value),VRel S κ (λb=>(L b).isSome=true) w av x->VRel S' κ' (λb=>(applyL r L b).isSome=true) w' (killR r.re (killO r.kill (frzO r.frz L av))) x:=by
  intro av x hv
  have h1:VRel S1 κ (λb=>(L b).isSome=true/\b ∉ r.frz) w (frzO r.frz L av) x:=by
   cases hf:r.frz with
   |nil=>exact hv.mono (λ_ h=>.inl h) (λ_ _=>rfl) (λb hb=>⟨hb,by simp⟩) (λ_ _=>rfl)
   |cons q qs =>
     refine zJh (bs:=q::qs) h.ents (λ_ h=>.inl h) (λb hb hd g c hk=>.inr ⟨b,c,by rw[hf];exact hb,hd,hk⟩) (λc hc hn=>⟨hc,?_⟩) 4 hv
     simp_all
  have h2:VRel S1 κ (λb=>(L b).isSome=true/\r.kill≠some b/\b ∉ r.frz) w (killO r.kill (frzO r.frz L av)) x:=by
   cases hk:r.kill with
   |some b=>exact zua (λc hc hne=>⟨hc.1,λe=>hne (by simp_all),hc.2⟩) 4 h1
   |none=>exact h1.mono (λ_ h=>h) (λ_ _=>rfl) (λb hb=>⟨hb.1,by simp,hb.2⟩) (λ_ _=>rfl)
  have h3:VRel S1 κ (λb=>((L b).isSome=true/\r.kill≠some b/\b ∉ r.frz)/\b ∉ r.re) w (killR r.re (killO r.kill (frzO r.frz L av))) x:=zCw r.re (λc hc hn=>⟨hc,hn⟩) h2;exact h3.mono hS1' hS1w (λb hb=>hDold b hb.1.1 hb.1.2.1 hb.1.2.2) (λb hb=>he.kold b hb.1.1 hb.2)
 have hcases:∀b,(applyL r L b).isSome=true->((L b).isSome=true/\b ∉ r.re/\κ' b=κ b)\/(((L b).isSome=true->b∈r.re)/\b∈ids r.set):=by
  intro b hb;by_cases hre:b∈r.re
  ·exact .inr ⟨λ_=>hre,he.res b hre⟩
  by_cases hl:(L b).isSome=true
  ·exact .inl ⟨hl,hre,he.kold b hl hre⟩
  · rcases(hDiff b).1 hb with h1|h1
    ·exact absurd h1.1 hl
    simp_all
 exact{
  defers:=by cases o.dst<;>exact h.defers
  size:=by have:=h.size;cases hd:o.dst<;>simp[Act.put,this]
  os:=he.os.trans h.os
  tape:=he.tape.trans h.tape
  output:=h.output.trans he.output
  grow:=zbP h.grow he.size
  old:=λg hg hK=>by
   rw[he.blk g (zca hg h.grow) ?_]
   ·exact h.old g hg hK
   · intro b c hb hd hk;by_cases hb1:b<1000
     · rcases h.own b g c hb1 hd hk with q|⟨b',c',_,q2,q3⟩
       ·omega
       grind
     ·have h1:=h.par b (by omega);exact hK b c (h.parK b (by omega) hd) (by rw[<-h1];exact hk)
  sup:=λg hg=>he.sup g (h.sup g hg)
  snew:=λg hg=>by
   rcases he.snew g hg with h1|h1|⟨b,c,hb,hd,hk⟩
   ·exact h.snew g h1
   ·exact .inr (.inl (zbP h.grow h1))
   ·exact .inr (h.own b g c (hb.elim (hsh.frz b) (λq=>q.elim (λq=>(hsh.kill b q).2) (hsh.re b))) hd hk)
  slt:=he.slt
  par:=λb hb=>by
   rw[<-h.par b hb];by_cases hm:b∈ids r.set
   · by_cases hd:(L b).isSome=true
     ·exact he.kold b hd (λhr=>by have:=hsh.re b hr;omega)
     grind
   ·exact he.kout b hm
  parK:=λb hb hs=>by
   rcases hcases b hs with⟨h1,_⟩|⟨h1,h2⟩
   ·exact h.parK b hb h1
   · by_cases hd:(L b).isSome=true
     ·have:=hsh.re b (h1 hd);omega
     grind
  own:=λb g c hb hs hk=>by
   rcases hcases b hs with⟨h1,_,h2⟩|⟨h1,h2⟩
   ·rw[h2]at hk;exact h.own b g c hb h1 hk
   · rcases he.knew b h1 h2 g c hk with h3|⟨b0,c0,h3,h4,h5⟩
     ·exact .inl (zbP h.grow h3)
     ·exact h.own b0 g c0 (h3.elim (λq=>(hsh.kill b0 q).2) (hsh.re b0)) h4 h5
  inj:=by
   have one:∀b b' g c c',((L b).isSome=true->b∈r.re)->b∈ids r.set->(L b').isSome=true->b' ∉ r.re->(applyL r L b').isSome=true->κ' b=some (g,c)->κ b'=some (g,c')->False:=by
    intro b b' g c c' h1 h2 h3 hnr h3' h4 h5;rcases he.knew b h1 h2 g c h4 with h6|⟨b0,c0,h6,h7,h8⟩
    ·grind
    · have:b'=b0:=h.inj b' b0 g c' c0 h3 h7 h5 h8;subst this;rcases h6 with h6|h6
      · rcases(hDiff b').1 h3' with h9|h9
        ·exact h9.2.1 h6
        ·exact(hsh.kill b' h6).1 h9
      ·exact hnr h6
   intro b b' g c c' hs hs' hk hk';rcases hcases b hs with⟨h1,hr1,h2⟩|⟨h1,h2⟩
   · rcases hcases b' hs' with⟨h3,_,h4⟩|⟨h3,h4⟩
     ·rw[h2]at hk;rw[h4]at hk';exact h.inj b b' g c c' h1 h3 hk hk'
     grind
   · rcases hcases b' hs' with⟨h3,hr3,h4⟩|⟨h3,h4⟩
     ·grind
     ·exact he.one b b' h1 h3 h2 h4 g c c' hk hk'
  ents:=λb ent hb=>by
   have hDD:∀b,D1 (λb=>(L b).isSome=true) r b->(applyL r L b).isSome=true:=λb=>(hDiff b).2
   simp only[applyL]at hb
   cases hq:look r.set b with
   |some e =>
     simp only[hq]at hb;injection hb with hb;subst hb;have hE:=he.ents b e (zmU hq)
     simp_all
   |none =>
     simp only[hq]at hb;have hnm:b ∉ ids r.set:=λhm=>by have:=zi5 hm;simp_all
     have hnre:b ∉ r.re:=λhm=>hnm (he.res b hm)
     obtain⟨entR,hb,hentR⟩:=zGK hb hnre
     obtain⟨e0,hl0,hkn,hfn,hent0⟩:∃e0,L b=some e0/\r.kill≠some b/\b ∉ r.frz/\entR=(if e0.box then{ e0 with es:=e0.es.map λcs=>cs.map λa=>killO r.kill (frzO r.frz L a) }else e0):=by
      have hf1:∀e1,frzLO r.frz L b=some e1->∃e0,L b=some e0/\b ∉ r.frz/\e1=(if e0.box then{ e0 with es:=e0.es.map λcs=>cs.map λa=>frzO r.frz L a }else e0):=by
       intro e1 h1;unfold frzLO at h1
       cases hf:r.frz with
       |nil=>simp only[hf]at h1;refine⟨e1,h1,by simp,?_⟩;have:(λa=>frzO ([]:List Nat) L a)=id:=rfl;simp[this]
       |cons c cs =>
         simp only[hf,frzL]at h1;split at h1
         ·cases h1
         · rename_i hm
           cases hl:L b with
           |none=>simp[hl]at h1
           |some e0=>simp[hl]at h1;exact⟨e0,rfl,by simpa using hm,h1.symm⟩
      unfold killLO at hb
      cases hk:r.kill with
      |none=>simp only[hk]at hb;obtain⟨e0,h1,h2,h3⟩:=hf1 entR hb;exact⟨e0,h1,by simp,h2,h3⟩
      |some c =>
        simp only[hk,killL]at hb;split at hb
        ·cases hb
        · rename_i hne
          cases hfl:frzLO r.frz L b with
          |none=>simp[hfl]at hb
          |some e1 =>
            simp[hfl]at hb;obtain⟨e0,h1,h2,h3⟩:=hf1 e1 hfl;refine⟨e0,h1,λe=>hne (by simp_all),h2,?_⟩;rw[<-hb,h3];unfold killE;cases hbx:e0.box
            ·simp[hbx]
            ·simp[killO,zhm]
     have hent:ent=(if e0.box then{ e0 with es:=e0.es.map λcs=>cs.map λa=>killR r.re (killO r.kill (frzO r.frz L a)) }else e0):=by
      rw[hentR,hent0];cases hbx:e0.box
      ·simp[hbx]
      ·simp[zhm]
     subst hent;have hlb:(L b).isSome=true:=by simp[hl0]
     have hE:=h.ents b e0 hl0;rw[he.kold b hlb hnre]
     have hun:∀g c,κ b=some (g,c)->w'.heap[g]?=w.heap[g]?/\¬S' g:=by
      intro g c hk;refine⟨he.blk g (hblockLt b g c hlb hk).1 (λb' c' hb' hd' hk'=>?_),λhs=>?_⟩
      · have:b'=b:=h.inj b' b g c' c hd' hlb hk' hk
        simp_all
      · rcases he.snew g hs with h1|h1|⟨b',c',hb',hd',hk'⟩
        ·grind
        ·grind
        · have:b'=b:=h.inj b' b g c' c hd' hlb hk' hk
          simp_all
     cases hbx:e0.box with
     |false =>
       simp only[zbt,if_false];refine⟨λhce=>?_,λhce=>(hE.2 hce).mono (λg hg=>he.sup g hg) (λg hg=>hS1w g (.inl hg)) hun⟩;obtain⟨z1,z2⟩:=hE.1 hce;refine⟨z1,?_⟩
       cases hkb:κ b with
       |none=>grind
       |some gc=>obtain⟨g,c⟩:=gc;rw[hkb]at z2;obtain⟨cells,q1,q2,q3,q4,q5,q6⟩:=z2;obtain⟨u1,u2⟩:=hun g c hkb;refine⟨cells,u1.trans q1,q2,q3,q4,u2,λi j cs av hi hj=>?_⟩;obtain⟨u,v1,v2,_,v4⟩:=q6 i j cs av hi hj;exact⟨u,v1,v2,(λhb'=>by simp_all),λhb'=>(v4 hb').mono (λg hg=>he.sup g hg) (λg hg=>hS1w g (.inl hg))⟩
     |true =>
       simp only[if_true];obtain⟨z1,z2⟩:=hE.1 (.inl hbx);refine EntAt.of (.inl rfl) ⟨λcs hcs=>?_,?_⟩
       · simp at hcs
         grind
       · cases hkb:κ b with
         |none=>simp_all
         |some gc =>
           obtain⟨g,c⟩:=gc;rw[hkb]at z2;obtain⟨cells,q1,q2,q3,q4,q5,q6⟩:=z2;obtain⟨u1,u2⟩:=hun g c hkb;refine⟨cells,u1.trans q1,q2,by simpa using q3,by simpa[Ent.cap,hbx]using q4,u2,λi j cs av hi hj=>?_⟩;simp at hi;obtain⟨cs',hcs',rfl⟩:=hi;simp at hj;obtain⟨a',ha',rfl⟩:=hj;obtain⟨u,v1,v2,v3,_⟩:=q6 i j cs' a' hcs' ha'
           simp_all
  slots:=λk=>by
   rw[tmps_put a o.dst y (by rw[h.size];exact hdst) k];simp only[applyT];split
   ·exact he.val.mono (λ_ h=>h) (λ_ _=>rfl) (λb=>(hDiff b).2) (λ_ _=>rfl)
   ·exact hval _ _ (h.slots k) }
end
end Go.Ab
end
